/-
  Octets: what the program and the reference compute. Conditions as each says.
-/
import Derived.Test.YtkjdejadambffaaDoorRows
import Derived.Test.YtkjdejadambffaaDoorGen
import Derived.Test.YtkjdejadambffaaDoorOct
import Derived.ProofKit
namespace Go.Proofs.YtkjdejadambffaaDoor
open Go.RowKit
set_option linter.unusedSimpArgs false
set_option linter.unusedVariables false
set_option maxRecDepth 100000
set_option maxHeartbeats 1000000
namespace OctWT
theorem mixed : Tryd.prog.follows .mixedOrders = true := by kernel_rfl
theorem sc5 : (Tryd.prog.underlying 5).map scal = some true := by rw [Tryd.underlying5]; rfl
theorem so3 : (Tryd.prog.underlying 3).isSome = true := by rw [Tryd.underlying3]; rfl
theorem so5 : (Tryd.prog.underlying 5).isSome = true := by rw [Tryd.underlying5]; rfl
theorem so62 : (Tryd.prog.underlying 62).isSome = true := by rw [Tryd.underlying62]; rfl
theorem sz5 : (Tryd.prog.info? 5).map (·.size) = some 1 := by kernel_rfl
end OctWT
theorem same_c (a b : List (BitVec 8)) (ha : a.length ≤ 140737488351232) (w0 : World) : Calls Tryd.prog 30 #[.string (str a), .string (str b)] w0 fun e w' => e = .returned (.bool (decide (a = b))) ∧ Below w0.heap.size w0 w' := by
 refine enter (n := 29) Tryd.func30 rfl rfl rfl ?_
 have hk : Below w0.heap.size w0 w0 := Below.refl _ _
 refine sr ?_
 refine w_as Ev.c ?_
 refine nt ?_
 refine wp_seq ?_
 refine sr ?_
 refine w_mv es ?_
 refine w_val (y_len es Tryd.underlying9) ?_
 refine w_mv es ?_
 refine w_val (y_len es Tryd.underlying9) ?_
 refine w_val (y_bin ei ei b_neq) ?_
 refine nt ?_
 refine c_if (p := ((a.length : Nat) : Int) ≠ ((b.length : Nat) : Int)) eb (fun hc1 => ?_) (fun hc1 => ?_)
 ·skip
  refine sr ?_
  refine w_as Ev.c ?_
  refine nt ?_
  refine wp_ret ?_
  refine then_r ?_
  refine fin_ret1 rfl eb ?_
  refine ⟨congrArg Ending.returned ?_, hk⟩
  show (.bool false : Value) = .bool (decide (a = b))
  first | exact congrArg Value.bool (decide_eq_false (fun h => by subst h; omega)).symm | exact congrArg Value.bool (decide_eq_decide.2 (by rw [show k = a.length from by omega]; exact Oct.unl_eq a b (by omega)))
 ·skip
  refine wp_skip ?_
  refine then_n ?_
  refine sr ?_
  refine w_as (evc (U8 (0#8))) ?_
  refine nt ?_
  refine wp_seq ?_
  refine sr ?_
  refine w_mv es ?_
  refine w_val (y_len es Tryd.underlying9) ?_
  refine w_mv Ev.c ?_
  refine nt ?_
  refine wp_block ?_
  refine c_loop (fun dN aN wl => ∃ (k : Nat), dN = (a.length - k) ∧ ∃ f2, aN = fr 29 f2 ∧ (k ≤ a.length) ∧ f2 0 = .string (str a) ∧ f2 1 = .string (str b) ∧ f2 4 = .bool false ∧ f2 5 = U8 (Oct.unl a b k) ∧ f2 13 = .int .i64 ((a.length : Nat) : Int) ∧ f2 14 = .int .i64 ((k : Nat) : Int) ∧ Below w0.heap.size w0 wl) (a.length - 0) ?_ ?_
  · exact ⟨0, rfl, _, rfl, iv, rfl, rfl, rfl, t8, rfl, ti, hk⟩
  ·skip
   clear hk
   rintro _ _ w3 ⟨k, rfl, f2, rfl, i1_0, s1_0, s1_1, s1_4, s1_5, s1_13, s1_14, hk⟩
   refine sr ?_
   refine w_val (y_bin (ei s1_14) (ei s1_13) b_lss) ?_
   refine nt ?_
   refine wp_seq ?_
   refine c_if (p := ((k : Nat) : Int) < ((a.length : Nat) : Int)) eb (fun hc4 => ?_) (fun hc4 => ?_)
   ·skip
    refine wp_skip ?_
    refine then_n ?_
    refine wp_seq ?_
    refine wp_block ?_
    refine sr ?_
    refine w_mv (ei s1_14) ?_
    refine w_as ei ?_
    refine nt ?_
    refine region_q OctWT.mixed (by kernel_rfl) ?_
    refine q_mv (e8 s1_5) ?_
    refine q_mv (es s1_0) ?_
    refine q_mv ei ?_
    refine q_val (v := U8 (gb a k)) (fun w' hw' => y_idx (ex (.string (str a))) ei Tryd.underlying9 (by omega) (by omega)) ?_
    refine q_mv (es s1_1) ?_
    refine q_mv ei ?_
    refine q_val (v := U8 (gb b k)) (fun w' hw' => y_idx (ex (.string (str b))) ei Tryd.underlying9 (by omega) (by omega)) ?_
    refine q_val (fun w' hw' => y_bin e8 e8 xor8) ?_
    refine q_val (fun w' hw' => y_bin e8 e8 or8) ?_
    refine q_as e8 ?_
    refine q_nil ?_
    intro w5 hb6
    replace hk := thenB hk hb6
    refine inb_n ?_
    refine then_n ?_
    refine wp_region_lit ?_
    refine w_val (y_bin (ei s1_14) Ev.c (b_add (by omega))) ?_
    refine w_mv ei ?_
    refine wpList_nil ?_
    exact then_n ⟨_, (by omega), k + 1, rfl, _, rfl, iv, s1_0, s1_1, s1_4, t8, s1_13, ti, hk⟩
   ·skip
    refine wp_exit ?_
    refine then_x ?_
    refine then_x ?_
    refine inb_x ?_
    refine then_n ?_
    refine sr ?_
    refine w_mv (e8 s1_5) ?_
    refine w_val (y_bin e8 (evc (U8 (0#8))) eql8) ?_
    refine w_as eb ?_
    refine nt ?_
    refine wp_ret ?_
    refine fin_ret1 rfl eb ?_
    refine ⟨congrArg Ending.returned ?_, hk⟩
    show (.bool (decide ((Oct.unl a b k) = (0#8))) : Value) = .bool (decide (a = b))
    first | exact congrArg Value.bool (decide_eq_false (fun h => by subst h; omega)).symm | exact congrArg Value.bool (decide_eq_decide.2 (by rw [show k = a.length from by omega]; exact Oct.unl_eq a b (by omega)))

theorem xor_c (a b : List (BitVec 8)) (ha : a.length ≤ 140737488351232) (w0 : World) : Calls Tryd.prog 39 #[.string (str a), .string (str b)] w0 fun e w' => e = .returned (.string (str (Oct.xor a b))) ∧ Below w0.heap.size w0 w' := by
 have hlx := Oct.length_xor a b
 refine enter (n := 31) Tryd.func39 rfl rfl rfl ?_
 have hk : Below w0.heap.size w0 w0 := Below.refl _ _
 refine sr ?_
 refine w_as (evc (.string (str ([] : List (BitVec 8))))) ?_
 refine nt ?_
 refine sr ?_
 refine w_mv es ?_
 refine w_val (y_len es Tryd.underlying9) ?_
 refine w_mv es ?_
 refine w_val (y_len es Tryd.underlying9) ?_
 refine w_val (v := .int .i64 (min ((a.length : Nat) : Int) ((b.length : Nat) : Int))) (y_min ei ei) ?_
 refine w_mks (m := (min a.length b.length)) (bytes := 1) (zv := U8 (0#8)) ei ei (by omega) (by omega) Tryd.underlying50 (by kernel_rfl) rfl (by omega) (by omega) ?_
 intro b_12 w1 hbe_b_12 r_b_12 hb2
 have ge_b_12 := gb_ hk.size hbe_b_12
 clear hbe_b_12
 replace hk := thenB hk hb2
 refine w_as el ?_
 refine nt ?_
 refine wp_seq ?_
 refine sr ?_
 refine w_mv el ?_
 refine w_val (v := .int .i64 (((min a.length b.length) : Nat) : Int)) (y_len_sl el Tryd.underlying50) ?_
 refine w_mv Ev.c ?_
 refine nt ?_
 refine wp_block ?_
 refine c_loop (fun dN aN wl => ∃ (k : Nat), dN = (min a.length b.length - k) ∧ ∃ f3, aN = fr 31 f3 ∧ (k ≤ min a.length b.length) ∧ f3 0 = .string (str a) ∧ f3 1 = .string (str b) ∧ f3 4 = .string (str ([] : List (BitVec 8))) ∧ f3 5 = .slice (some ⟨b_12, 0, none⟩) (min a.length b.length) (min a.length b.length) ∧ f3 14 = .int .i64 (((min a.length b.length) : Nat) : Int) ∧ f3 15 = .int .i64 ((k : Nat) : Int) ∧ Row wl b_12 5 (min a.length b.length) (fun j => if j < k then (fun j => U8 (gb a j ^^^ gb b j)) j else (fun j => U8 (0#8)) j) ∧ Below w0.heap.size w0 wl) (min a.length b.length - 0) ?_ ?_
 · exact ⟨0, rfl, _, rfl, iv, rfl, rfl, rfl, rfl, rfl, ti, (r_b_12.cg), hk⟩
 ·skip
  clear r_b_12 hk
  rintro _ _ w4 ⟨k, rfl, f3, rfl, i1_0, s1_0, s1_1, s1_4, s1_5, s1_14, s1_15, r_b_12, hk⟩
  refine sr ?_
  refine w_val (y_bin (ei s1_15) (ei s1_14) b_lss) ?_
  refine nt ?_
  refine wp_seq ?_
  refine c_if (p := ((k : Nat) : Int) < (((min a.length b.length) : Nat) : Int)) eb (fun hc5 => ?_) (fun hc5 => ?_)
  ·skip
   refine wp_skip ?_
   refine then_n ?_
   refine wp_seq ?_
   refine wp_block ?_
   refine sr ?_
   refine w_mv (ei s1_15) ?_
   refine w_as ei ?_
   refine nt ?_
   refine region_t 10 OctWT.mixed (by kernel_rfl) ?_
   simp only [List.take_succ_cons, List.take_zero, List.drop_succ_cons, List.drop_zero]
   refine q_mv (el s1_5) ?_
   refine q_mv ei ?_
   refine q_mv (es s1_0) ?_
   refine q_mv ei ?_
   refine q_val (v := U8 (gb a k)) (fun w' hw' => y_idx (ex (.string (str a))) ei Tryd.underlying9 (by omega) (by omega)) ?_
   refine q_mv (es s1_1) ?_
   refine q_mv ei ?_
   refine q_val (v := U8 (gb b k)) (fun w' hw' => y_idx (ex (.string (str b))) ei Tryd.underlying9 (by omega) (by omega)) ?_
   refine q_val (fun w' hw' => y_bin e8 e8 xor8) ?_
   refine q_val (fun w' hw' => y_is1z (i := k) el ei Tryd.underlying50 OctWT.sz5 (by omega) (by omega)) ?_
   refine q_nil ?_
   intro w6 hb7
   replace r_b_12 := r_b_12.step hb7
   replace hk := thenB hk hb7
   refine w_st (v := U8 ((gb a k) ^^^ (gb b k))) (ex (pt b_12 k)) e8 rfl rfl OctWT.sz5 r_b_12 (by omega) ?_
   clear r_b_12; intro w8 r_b_12 hg9 _
   replace hk := thenG hk hg9 (by omega)
   refine wpList_nil ?_
   refine inb_n ?_
   refine then_n ?_
   refine wp_region_lit ?_
   refine w_val (y_bin (ei s1_15) Ev.c (b_add (by omega))) ?_
   refine w_mv ei ?_
   refine wpList_nil ?_
   exact then_n ⟨_, (by omega), k + 1, rfl, _, rfl, iv, s1_0, s1_1, s1_4, s1_5, s1_14, ti, (r_b_12.cg), hk⟩
  ·skip
   refine wp_exit ?_
   refine then_x ?_
   replace r_b_12 := r_b_12.congr (g := fun j => U8 (gb (Oct.xor a b) j)) (fun j hj => by (try dsimp only); rw [if_pos (by omega), Oct.gb_xor a b j (by omega)])
   refine then_x ?_
   refine inb_x ?_
   refine then_n ?_
   refine sr ?_
   refine w_mv (el s1_5) ?_
   refine w_val (y_str (l := Oct.xor a b) el (by first | rfl | assumption | (simp; omega) | omega) Tryd.underlying50 Tryd.underlying5 Tryd.underlying9 (fun j hj => by rw [Nat.zero_add]; exact (r_b_12.cell (by omega)))) ?_
   refine w_as es ?_
   refine nt ?_
   refine wp_ret ?_
   refine fin_ret1 rfl es ?_
   exact ⟨rfl, hk⟩

theorem refXor_c (a b : List (BitVec 8)) (ha : a.length ≤ 140737488351232) (w0 : World) : Calls Tryd.prog 28 #[.string (str a), .string (str b)] w0 fun e w' => e = .returned (.string (str (Oct.xor a b))) ∧ Below w0.heap.size w0 w' := by
 have hlx := Oct.length_xor a b
 refine enter (n := 31) Tryd.func28 rfl rfl rfl ?_
 have hk : Below w0.heap.size w0 w0 := Below.refl _ _
 refine sr ?_
 refine w_as (evc (.string (str ([] : List (BitVec 8))))) ?_
 refine nt ?_
 refine sr ?_
 refine w_as Ev.c ?_
 refine nt ?_
 refine wp_seq ?_
 refine sr ?_
 refine w_as Ev.c ?_
 refine nt ?_
 refine wp_block ?_
 refine c_loop (fun dN aN wl => ∃ (k : Nat) (vo : Value), dN = (min a.length b.length - k) ∧ ∃ f1, aN = fr 31 f1 ∧ (k ≤ min a.length b.length) ∧ f1 0 = .string (str a) ∧ f1 1 = .string (str b) ∧ f1 4 = .string (str ([] : List (BitVec 8))) ∧ f1 5 = vo ∧ f1 6 = .int .i64 ((k : Nat) : Int) ∧ Own wl w0.heap.size 5 1 vo k (fun j => U8 (gb a j ^^^ gb b j)) ∧ Below w0.heap.size w0 wl) (min a.length b.length - 0) ?_ ?_
 · exact ⟨0, (.slice none 0 0), rfl, _, rfl, iv, rfl, rfl, rfl, (etv (b := .slice none 0 0) rfl), ti, Own.nil, hk⟩
 ·skip
  clear hk
  rintro _ _ w2 ⟨k, vo, rfl, f1, rfl, i1_0, s1_0, s1_1, s1_4, s1_5, s1_6, o_vo, hk⟩
  refine wp_seq ?_
  refine sr ?_
  refine w_mv (ei s1_6) ?_
  refine w_mv (es s1_0) ?_
  refine w_val (y_len es Tryd.underlying9) ?_
  refine w_val (y_bin ei ei b_lss) ?_
  refine w_mv eb ?_
  by_cases hc3 : ((k : Nat) : Int) < ((a.length : Nat) : Int)
  ·skip
   refine w_val_g (v := .int .i64 ((k : Nat) : Int)) (wy rfl rfl (eb (dt hc3))) (y_mv (ei s1_6)) ?_
   refine w_val_g (v := .string (str b)) (wy rfl rfl (eb (dt hc3))) (y_mv (es s1_1)) ?_
   refine w_val_g (wy rfl rfl (eb (dt hc3))) (y_len es Tryd.underlying9) ?_
   refine w_val_g (wy rfl rfl (eb (dt hc3))) (y_bin ei ei b_lss) ?_
   refine w_val (y_pick_t (eb (dt hc3)) eb) ?_
   refine nt ?_
   refine c_if (p := ((k : Nat) : Int) < ((b.length : Nat) : Int)) eb (fun hc4 => ?_) (fun hc4 => ?_)
   ·skip
    refine wp_skip ?_
    refine then_n ?_
    refine wp_seq ?_
    refine wp_block ?_
    refine region_dc (Nat.testBit 1536) 11 OctWT.mixed rfl ?_
    intro w5 hb6
    replace o_vo := o_vo.step hb6
    replace hk := thenB hk hb6
    have hS : Cls w5 w5 := Below.refl _ _
    refine dp 0 rfl (fun w' => y_mv (ex vo s1_5)) ?_
    refine dp 1 rfl (fun w' => y_mv (es s1_0)) ?_
    refine dp 2 rfl (fun w' => y_mv (ei s1_6)) ?_
    refine dp (v := U8 (gb a k)) 3 rfl (fun w' => y_idx (ex (.string (str a))) ei Tryd.underlying9 (by omega) (by omega)) ?_
    refine dp 4 rfl (fun w' => y_mv (es s1_1)) ?_
    refine dp 5 rfl (fun w' => y_mv (ei s1_6)) ?_
    refine dp (v := U8 (gb b k)) 6 rfl (fun w' => y_idx (ex (.string (str b))) ei Tryd.underlying9 (by omega) (by omega)) ?_
    refine dp (v := U8 ((gb a k) ^^^ (gb b k))) 7 rfl (fun w' => y_bin e8 e8 xor8) ?_
    refine d_one 8 (by kernel_rfl) rfl ?_
    refine w_bs1 (m := 1) (e := 5) (F := fun j => U8 ((gb a k) ^^^ (gb b k))) e8 (fun w => by kernel_rfl) ?_
    intro b_27 w7 hbe_b_27 r_b_27 hb8
    have no_vo_b_27 : vo.ownBlock ≠ some b_27 := o_vo.apart (by omega)
    have ge_b_27 := gb_ hk.size hbe_b_27
    clear hbe_b_27
    replace o_vo := o_vo.step hb8
    replace hk := thenB hk hb8
    replace hS := thenB hS hb8
    refine wpList_nil ?_
    refine then_n ⟨fun _ h => thenB h (by assumption), ?_⟩
    refine d_one 9 (by kernel_rfl) rfl ?_
    refine w_app (k := k) (m := 1) (size := 1) (bytes := 1) (ex vo) el Tryd.underlying50 (by kernel_rfl) (by decide) o_vo hk.size r_b_27 (by omega) oca (by simp only [maxLen]; omega) (by omega) ?_
    intro v9 w10 o_v9 hg11 hv12
    have no_v9_b_27 := no_new no_vo_b_27 r_b_27.lt hv12
    replace r_b_27 := r_b_27.stepO hg11 no_vo_b_27
    replace hk := thenO hk hg11 (fun g e => (o_vo.block_lt g e).2)
    clear o_vo
    clear hS
    refine wpList_nil ?_
    refine then_n ⟨fun hD => absurd hD (by decide), ?_⟩
    refine d_one 10 (by kernel_rfl) rfl ?_
    refine w_as (ex v9) ?_
    refine wpList_nil ?_
    refine then_n ⟨fun hD => absurd hD (by decide), ?_⟩
    refine d_done (by kernel_rfl) ?_
    refine inb_n ?_
    refine then_n ?_
    refine wp_region_lit ?_
    refine w_mv (ei s1_6) ?_
    refine w_val (y_bin ei Ev.c (b_add (by omega))) ?_
    refine w_as ei ?_
    refine wpList_nil ?_
    exact then_n ⟨_, (by omega), k + 1, v9, rfl, _, rfl, iv, s1_0, s1_1, s1_4, rfl, ti, (own_n (o_v9.cg) (by omega)), hk⟩
   ·skip
    refine wp_exit ?_
    refine then_x ?_
    refine then_x ?_
    refine inb_x ?_
    refine then_n ?_
    refine sr ?_
    refine w_mv (ex vo s1_5) ?_
    refine w_val (v := .string (str (Oct.xor a b))) (y_strown (l := Oct.xor a b) (ex vo) o_vo  (by exact (by rw [Oct.length_xor]; omega)) (fun j hj => by exact (by rw [Oct.gb_xor a b j (by omega)])) Tryd.underlying50 Tryd.underlying5 Tryd.underlying9) ?_
    refine w_as es ?_
    refine nt ?_
    refine wp_ret ?_
    refine fin_ret1 rfl es ?_
    exact ⟨rfl, hk⟩
  ·skip
   with_reducible refine w_skip ?_ ?_
   exact wn rfl rfl (eb (df hc3))
   with_reducible refine w_skip ?_ ?_
   exact wn rfl rfl (eb (df hc3))
   with_reducible refine w_skip ?_ ?_
   exact wn rfl rfl (eb (df hc3))
   with_reducible refine w_skip ?_ ?_
   exact wn rfl rfl (eb (df hc3))
   refine w_val (y_pick_f (eb (df hc3)) Ev.c) ?_
   refine nt ?_
   refine c_ff eb ?_
   refine wp_exit ?_
   refine then_x ?_
   refine then_x ?_
   refine inb_x ?_
   refine then_n ?_
   refine sr ?_
   refine w_mv (ex vo s1_5) ?_
   refine w_val (v := .string (str (Oct.xor a b))) (y_strown (l := Oct.xor a b) (ex vo) o_vo  (by exact (by rw [Oct.length_xor]; omega)) (fun j hj => by exact (by rw [Oct.gb_xor a b j (by omega)])) Tryd.underlying50 Tryd.underlying5 Tryd.underlying9) ?_
   refine w_as es ?_
   refine nt ?_
   refine wp_ret ?_
   refine fin_ret1 rfl es ?_
   exact ⟨rfl, hk⟩

theorem put_c (n : BitVec 64) (q : Nat) (hq : 1 ≤ q) (h8 : q ≤ 8) (hn : q < 8 → n >>> (8 * q) = 0#64) (w0 : World) : Calls Tryd.prog 65 #[U64 n, .int .i64 ((q : Nat) : Int)] w0 fun e w' => e = .returned (.tuple #[.string (str (Oct.be n q)), .int .i64 0]) ∧ Below w0.heap.size w0 w' := by
 have hlb := Oct.length_be n q
 refine enter (n := 45) Tryd.func65 rfl rfl rfl ?_
 have hk : Below w0.heap.size w0 w0 := Below.refl _ _
 refine sr ?_
 refine w_as (evc (.string (str ([] : List (BitVec 8))))) ?_
 refine w_as Ev.c ?_
 refine nt ?_
 refine wp_seq ?_
 refine sr ?_
 refine w_mv ei ?_
 refine w_val (y_bin ei Ev.c b_lss) ?_
 refine w_mv eb ?_
 have hc1 : ¬ (((q : Nat) : Int) < 1) := by omega
 refine w_val_g (v := .int .i64 ((q : Nat) : Int)) (wy rfl rfl (eb (df hc1))) (y_mv ei) ?_
 refine w_val_g (wy rfl rfl (eb (df hc1))) (y_bin ei Ev.c b_gtr) ?_
 refine w_val (y_pick_f (eb (df hc1)) eb) ?_
 refine w_mv eb ?_
 have hc2 : ¬ (8 < ((q : Nat) : Int)) := by omega
 refine w_val_g (v := .int .i64 ((q : Nat) : Int)) (wy rfl rfl (eb (df hc2))) (y_mv ei) ?_
 refine w_val_g (wy rfl rfl (eb (df hc2))) (y_bin ei Ev.c b_lss) ?_
 refine w_val_g (v := .bool (decide (((q : Nat) : Int) < 8))) (wy rfl rfl (eb (df hc2))) (y_mv eb) ?_
 by_cases hc3 : ((q : Nat) : Int) < 8
 ·skip
  refine w_val_g (v := U64 n) (wy rfl rfl (eb (dt hc3))) (y_mv e6) ?_
  refine w_val_g (v := .int .i64 ((q : Nat) : Int)) (wy rfl rfl (eb (dt hc3))) (y_mv ei) ?_
  refine w_val_g (wy rfl rfl (eb (dt hc3))) (y_bin Ev.c ei (b_mul (by omega))) ?_
  refine w_val_g (wy rfl rfl (eb (dt hc3))) (y_bin e6 ei (shr64 (c := (8 * q)) (by omega))) ?_
  refine w_val_g (wy rfl rfl (eb (dt hc3))) (y_bin e6 (evc (U64 (0#64))) neq64) ?_
  refine w_val_g (wy rfl rfl (eb (df hc2))) (y_pick_t (eb (dt hc3)) eb) ?_
  refine w_val (y_pick_f (eb (df hc2)) eb) ?_
  refine nt ?_
  have hc4 : ¬ ((n >>> (8 * q)) ≠ (0#64)) := by exact fun h => h (hn (by omega))
  refine c_f (p := (n >>> (8 * q)) ≠ (0#64)) eb hc4 ?_
  refine wp_skip ?_
  refine then_n ?_
  refine sr ?_
  refine w_mv ei ?_
  refine w_mks (m := q) (bytes := 1) (zv := U8 (0#8)) ei ei (by omega) (by omega) Tryd.underlying50 (by kernel_rfl) rfl (by omega) (by omega) ?_
  intro b_26 w5 hbe_b_26 r_b_26 hb6
  have ge_b_26 := gb_ hk.size hbe_b_26
  clear hbe_b_26
  replace hk := thenB hk hb6
  refine w_as el ?_
  refine nt ?_
  refine wp_seq ?_
  refine sr ?_
  refine w_mv ei ?_
  refine w_mv Ev.c ?_
  refine nt ?_
  refine wp_block ?_
  refine c_loop (fun dN aN wl => ∃ (k : Nat), dN = (q - k) ∧ ∃ f7, aN = fr 45 f7 ∧ (k ≤ q) ∧ f7 0 = U64 n ∧ f7 1 = .int .i64 ((q : Nat) : Int) ∧ f7 4 = .string (str ([] : List (BitVec 8))) ∧ f7 5 = .int .i64 0 ∧ f7 6 = .slice (some ⟨b_26, 0, none⟩) q q ∧ f7 27 = .int .i64 ((q : Nat) : Int) ∧ f7 28 = .int .i64 ((k : Nat) : Int) ∧ Row wl b_26 5 q (fun j => if q ≤ j + k then (fun j => U8 (gb (Oct.be n q) j)) j else (fun j => U8 (0#8)) j) ∧ Below w0.heap.size w0 wl) (q - 0) ?_ ?_
  · exact ⟨0, rfl, _, rfl, iv, rfl, rfl, rfl, rfl, rfl, rfl, ti, (r_b_26.cg), hk⟩
  ·skip
   clear r_b_26 hk
   rintro _ _ w8 ⟨k, rfl, f7, rfl, i1_0, s1_0, s1_1, s1_4, s1_5, s1_6, s1_27, s1_28, r_b_26, hk⟩
   refine sr ?_
   refine w_val (y_bin (ei s1_28) (ei s1_27) b_lss) ?_
   refine nt ?_
   refine wp_seq ?_
   refine c_if (p := ((k : Nat) : Int) < ((q : Nat) : Int)) eb (fun hc9 => ?_) (fun hc9 => ?_)
   ·skip
    refine wp_skip ?_
    refine then_n ?_
    refine wp_seq ?_
    refine wp_block ?_
    refine sr ?_
    refine w_mv (ei s1_28) ?_
    refine w_as ei ?_
    refine nt ?_
    refine wp_region_lit ?_
    refine w_mv (el s1_6) ?_
    refine w_mv (ei s1_1) ?_
    refine w_val (y_bin ei Ev.c (b_sub (by omega))) ?_
    refine w_mv ei ?_
    refine w_val (y_bin ei ei (b_sub (by omega))) ?_
    refine w_mv (e6 s1_0) ?_
    refine w_mv ei ?_
    refine w_val (y_bin Ev.c ei (b_mul (by omega))) ?_
    refine w_val (y_bin e6 ei (shr64 (c := (8 * k)) (by omega))) ?_
    refine w_val (y_u64_u8 e6 OctWT.so62 Tryd.underlying5) ?_
    refine w_val (y_is1z (i := ((q - 1) - k)) el ei Tryd.underlying50 OctWT.sz5 (by omega) (by omega)) ?_
    refine w_st (v := U8 ((n >>> (8 * k)).setWidth 8)) (ex (pt b_26 ((q - 1) - k))) e8 rfl rfl OctWT.sz5 r_b_26 (by omega) ?_
    clear r_b_26; intro w10 r_b_26 hg11 _
    replace hk := thenG hk hg11 (by omega)
    refine wpList_nil ?_
    refine inb_n ?_
    refine then_n ?_
    refine wp_region_lit ?_
    refine w_val (y_bin (ei s1_28) Ev.c (b_add (by omega))) ?_
    refine w_mv ei ?_
    refine wpList_nil ?_
    exact then_n ⟨_, (by omega), k + 1, rfl, _, rfl, iv, s1_0, s1_1, s1_4, s1_5, s1_6, s1_27, ti, (r_b_26.congr (fun j hj => by (try dsimp only); by_cases e : j = q - 1 - k; (rw [if_pos e, if_pos (by omega), Oct.gb_be n q j (by omega), show q - 1 - j = k from by omega]); (rw [if_neg e]; by_cases e2 : q ≤ j + k; (rw [if_pos e2, if_pos (by omega)]); (rw [if_neg e2, if_neg (by omega)])))), hk⟩
   ·skip
    refine wp_exit ?_
    refine then_x ?_
    replace r_b_26 := r_b_26.congr (g := fun j => U8 (gb (Oct.be n q) j)) (fun j hj => by (try dsimp only); rw [if_pos (by omega)])
    refine then_x ?_
    refine inb_x ?_
    refine then_n ?_
    refine sr ?_
    refine w_mv (el s1_6) ?_
    refine w_val (y_str (l := Oct.be n q) el (by first | rfl | assumption | (simp; omega) | omega) Tryd.underlying50 Tryd.underlying5 Tryd.underlying9 (fun j hj => by rw [Nat.zero_add]; exact (r_b_26.cell (by omega)))) ?_
    refine w_as es ?_
    refine w_as Ev.c ?_
    refine nt ?_
    refine wp_ret ?_
    refine fin_ret2 rfl es ei ?_
    exact ⟨rfl, hk⟩
 ·skip
  with_reducible refine w_skip ?_ ?_
  exact wn rfl rfl (eb (df hc3))
  with_reducible refine w_skip ?_ ?_
  exact wn rfl rfl (eb (df hc3))
  with_reducible refine w_skip ?_ ?_
  exact wn rfl rfl (eb (df hc3))
  with_reducible refine w_skip ?_ ?_
  exact wn rfl rfl (eb (df hc3))
  with_reducible refine w_skip ?_ ?_
  exact wn rfl rfl (eb (df hc3))
  refine w_val_g (wy rfl rfl (eb (df hc2))) (y_pick_f (eb (df hc3)) Ev.c) ?_
  refine w_val (y_pick_f (eb (df hc2)) eb) ?_
  refine nt ?_
  refine c_ff eb ?_
  refine wp_skip ?_
  refine then_n ?_
  refine sr ?_
  refine w_mv ei ?_
  refine w_mks (m := q) (bytes := 1) (zv := U8 (0#8)) ei ei (by omega) (by omega) Tryd.underlying50 (by kernel_rfl) rfl (by omega) (by omega) ?_
  intro b_26 w12 hbe_b_26 r_b_26 hb13
  have ge_b_26 := gb_ hk.size hbe_b_26
  clear hbe_b_26
  replace hk := thenB hk hb13
  refine w_as el ?_
  refine nt ?_
  refine wp_seq ?_
  refine sr ?_
  refine w_mv ei ?_
  refine w_mv Ev.c ?_
  refine nt ?_
  refine wp_block ?_
  refine c_loop (fun dN aN wl => ∃ (k : Nat), dN = (q - k) ∧ ∃ f14, aN = fr 45 f14 ∧ (k ≤ q) ∧ f14 0 = U64 n ∧ f14 1 = .int .i64 ((q : Nat) : Int) ∧ f14 4 = .string (str ([] : List (BitVec 8))) ∧ f14 5 = .int .i64 0 ∧ f14 6 = .slice (some ⟨b_26, 0, none⟩) q q ∧ f14 27 = .int .i64 ((q : Nat) : Int) ∧ f14 28 = .int .i64 ((k : Nat) : Int) ∧ Row wl b_26 5 q (fun j => if q ≤ j + k then (fun j => U8 (gb (Oct.be n q) j)) j else (fun j => U8 (0#8)) j) ∧ Below w0.heap.size w0 wl) (q - 0) ?_ ?_
  · exact ⟨0, rfl, _, rfl, iv, rfl, rfl, rfl, rfl, rfl, rfl, ti, (r_b_26.cg), hk⟩
  ·skip
   clear r_b_26 hk
   rintro _ _ w15 ⟨k, rfl, f14, rfl, i1_0, s1_0, s1_1, s1_4, s1_5, s1_6, s1_27, s1_28, r_b_26, hk⟩
   refine sr ?_
   refine w_val (y_bin (ei s1_28) (ei s1_27) b_lss) ?_
   refine nt ?_
   refine wp_seq ?_
   refine c_if (p := ((k : Nat) : Int) < ((q : Nat) : Int)) eb (fun hc16 => ?_) (fun hc16 => ?_)
   ·skip
    refine wp_skip ?_
    refine then_n ?_
    refine wp_seq ?_
    refine wp_block ?_
    refine sr ?_
    refine w_mv (ei s1_28) ?_
    refine w_as ei ?_
    refine nt ?_
    refine wp_region_lit ?_
    refine w_mv (el s1_6) ?_
    refine w_mv (ei s1_1) ?_
    refine w_val (y_bin ei Ev.c (b_sub (by omega))) ?_
    refine w_mv ei ?_
    refine w_val (y_bin ei ei (b_sub (by omega))) ?_
    refine w_mv (e6 s1_0) ?_
    refine w_mv ei ?_
    refine w_val (y_bin Ev.c ei (b_mul (by omega))) ?_
    refine w_val (y_bin e6 ei (shr64 (c := (8 * k)) (by omega))) ?_
    refine w_val (y_u64_u8 e6 OctWT.so62 Tryd.underlying5) ?_
    refine w_val (y_is1z (i := ((q - 1) - k)) el ei Tryd.underlying50 OctWT.sz5 (by omega) (by omega)) ?_
    refine w_st (v := U8 ((n >>> (8 * k)).setWidth 8)) (ex (pt b_26 ((q - 1) - k))) e8 rfl rfl OctWT.sz5 r_b_26 (by omega) ?_
    clear r_b_26; intro w17 r_b_26 hg18 _
    replace hk := thenG hk hg18 (by omega)
    refine wpList_nil ?_
    refine inb_n ?_
    refine then_n ?_
    refine wp_region_lit ?_
    refine w_val (y_bin (ei s1_28) Ev.c (b_add (by omega))) ?_
    refine w_mv ei ?_
    refine wpList_nil ?_
    exact then_n ⟨_, (by omega), k + 1, rfl, _, rfl, iv, s1_0, s1_1, s1_4, s1_5, s1_6, s1_27, ti, (r_b_26.congr (fun j hj => by (try dsimp only); by_cases e : j = q - 1 - k; (rw [if_pos e, if_pos (by omega), Oct.gb_be n q j (by omega), show q - 1 - j = k from by omega]); (rw [if_neg e]; by_cases e2 : q ≤ j + k; (rw [if_pos e2, if_pos (by omega)]); (rw [if_neg e2, if_neg (by omega)])))), hk⟩
   ·skip
    refine wp_exit ?_
    refine then_x ?_
    replace r_b_26 := r_b_26.congr (g := fun j => U8 (gb (Oct.be n q) j)) (fun j hj => by (try dsimp only); rw [if_pos (by omega)])
    refine then_x ?_
    refine inb_x ?_
    refine then_n ?_
    refine sr ?_
    refine w_mv (el s1_6) ?_
    refine w_val (y_str (l := Oct.be n q) el (by first | rfl | assumption | (simp; omega) | omega) Tryd.underlying50 Tryd.underlying5 Tryd.underlying9 (fun j hj => by rw [Nat.zero_add]; exact (r_b_26.cell (by omega)))) ?_
    refine w_as es ?_
    refine w_as Ev.c ?_
    refine nt ?_
    refine wp_ret ?_
    refine fin_ret2 rfl es ei ?_
    exact ⟨rfl, hk⟩

theorem refGet_c (s : List (BitVec 8)) (h1 : 1 ≤ s.length) (h8 : s.length ≤ 8) (w0 : World) : Calls Tryd.prog 73 #[.string (str s)] w0 fun e w' => e = .returned (.tuple #[U64 (Oct.val s s.length), .int .i64 0]) ∧ Below w0.heap.size w0 w' := by
 refine enter (n := 28) Tryd.func73 rfl rfl rfl ?_
 have hk : Below w0.heap.size w0 w0 := Below.refl _ _
 refine sr ?_
 refine w_as (evc (U64 (0#64))) ?_
 refine w_as Ev.c ?_
 refine nt ?_
 refine wp_seq ?_
 refine sr ?_
 refine w_mv es ?_
 refine w_val (y_len es Tryd.underlying9) ?_
 refine w_val (y_bin ei Ev.c b_lss) ?_
 refine w_mv eb ?_
 have hc1 : ¬ (((s.length : Nat) : Int) < 1) := by omega
 refine w_val_g (v := .string (str s)) (wy rfl rfl (eb (df hc1))) (y_mv es) ?_
 refine w_val_g (wy rfl rfl (eb (df hc1))) (y_len es Tryd.underlying9) ?_
 refine w_val_g (wy rfl rfl (eb (df hc1))) (y_bin ei Ev.c b_gtr) ?_
 refine w_val (y_pick_f (eb (df hc1)) eb) ?_
 refine nt ?_
 have hc2 : ¬ (8 < ((s.length : Nat) : Int)) := by omega
 refine c_f (p := 8 < ((s.length : Nat) : Int)) eb hc2 ?_
 refine wp_skip ?_
 refine then_n ?_
 refine sr ?_
 refine w_as (evc (U64 (0#64))) ?_
 refine nt ?_
 refine wp_seq ?_
 refine sr ?_
 refine w_as Ev.c ?_
 refine nt ?_
 refine wp_block ?_
 refine c_loop (fun dN aN wl => ∃ (k : Nat), dN = (s.length - k) ∧ ∃ f3, aN = fr 28 f3 ∧ (k ≤ s.length) ∧ f3 0 = .string (str s) ∧ f3 2 = U64 (0#64) ∧ f3 3 = .int .i64 0 ∧ f3 4 = U64 (Oct.val s k) ∧ f3 5 = .int .i64 ((k : Nat) : Int) ∧ Below w0.heap.size w0 wl) (s.length - 0) ?_ ?_
 · exact ⟨0, rfl, _, rfl, iv, rfl, rfl, rfl, t6, ti, hk⟩
 ·skip
  clear hk
  rintro _ _ w4 ⟨k, rfl, f3, rfl, i1_0, s1_0, s1_2, s1_3, s1_4, s1_5, hk⟩
  refine wp_seq ?_
  refine sr ?_
  refine w_mv (ei s1_5) ?_
  refine w_mv (es s1_0) ?_
  refine w_val (y_len es Tryd.underlying9) ?_
  refine w_val (y_bin ei ei b_lss) ?_
  refine nt ?_
  refine c_if (p := ((k : Nat) : Int) < ((s.length : Nat) : Int)) eb (fun hc5 => ?_) (fun hc5 => ?_)
  ·skip
   refine wp_skip ?_
   refine then_n ?_
   refine wp_seq ?_
   refine wp_block ?_
   refine wp_region_lit ?_
   refine w_mv (e6 s1_4) ?_
   refine w_val (y_bin e6 (evc (U64 (256#64))) mul64) ?_
   refine w_mv (es s1_0) ?_
   refine w_mv (ei s1_5) ?_
   refine w_val (v := U8 (gb s k)) (y_idx (ex (.string (str s))) ei Tryd.underlying9 (by omega) (by omega)) ?_
   refine w_val (y_u8_u64 e8 OctWT.so5 Tryd.underlying62) ?_
   refine w_val (y_bin e6 e6 add64) ?_
   refine w_as e6 ?_
   refine wpList_nil ?_
   refine inb_n ?_
   refine then_n ?_
   refine wp_region_lit ?_
   refine w_mv (ei s1_5) ?_
   refine w_val (y_bin ei Ev.c (b_add (by omega))) ?_
   refine w_as ei ?_
   refine wpList_nil ?_
   exact then_n ⟨_, (by omega), k + 1, rfl, _, rfl, iv, s1_0, s1_2, s1_3, t6, ti, hk⟩
  ·skip
   refine wp_exit ?_
   refine then_x ?_
   refine then_x ?_
   refine inb_x ?_
   refine then_n ?_
   refine sr ?_
   refine w_mv (e6 s1_4) ?_
   refine w_as e6 ?_
   refine w_as Ev.c ?_
   refine nt ?_
   refine wp_ret ?_
   refine fin_ret2 rfl e6 ei ?_
   refine ⟨congrArg Ending.returned ?_, hk⟩
   show (.tuple #[U64 (Oct.val s k), .int .i64 0] : Value) = .tuple #[U64 (Oct.val s s.length), .int .i64 0]
   rw [show k = s.length from by omega]

theorem refPut_c (n : BitVec 64) (q : Nat) (hq : 1 ≤ q) (h8 : q ≤ 8) (hn : n.toNat < 2 ^ (8 * q)) (w0 : World) : Calls Tryd.prog 47 #[U64 n, .int .i64 ((q : Nat) : Int)] w0 fun e w' => e = .returned (.tuple #[.string (str (Oct.be n q)), .int .i64 0]) ∧ Below w0.heap.size w0 w' := by
 have hlb := Oct.length_be n q
 have hvb := Oct.val_be_all n q hn
 refine enter (n := 44) Tryd.func47 rfl rfl rfl ?_
 have hk : Below w0.heap.size w0 w0 := Below.refl _ _
 refine sr ?_
 refine w_as (evc (.string (str ([] : List (BitVec 8))))) ?_
 refine w_as Ev.c ?_
 refine nt ?_
 refine wp_seq ?_
 refine sr ?_
 refine w_mv ei ?_
 refine w_val (y_bin ei Ev.c b_lss) ?_
 refine w_mv eb ?_
 have hc1 : ¬ (((q : Nat) : Int) < 1) := by omega
 refine w_val_g (v := .int .i64 ((q : Nat) : Int)) (wy rfl rfl (eb (df hc1))) (y_mv ei) ?_
 refine w_val_g (wy rfl rfl (eb (df hc1))) (y_bin ei Ev.c b_gtr) ?_
 refine w_val (y_pick_f (eb (df hc1)) eb) ?_
 refine nt ?_
 have hc2 : ¬ (8 < ((q : Nat) : Int)) := by omega
 refine c_f (p := 8 < ((q : Nat) : Int)) eb hc2 ?_
 refine wp_skip ?_
 refine then_n ?_
 refine sr ?_
 refine w_as Ev.c ?_
 refine nt ?_
 refine wp_seq ?_
 refine sr ?_
 refine w_as Ev.c ?_
 refine nt ?_
 refine wp_block ?_
 refine c_loop (fun dN aN wl => ∃ (k : Nat) (vo : Value), dN = (q - k) ∧ ∃ f3, aN = fr 44 f3 ∧ (k ≤ q) ∧ f3 0 = U64 n ∧ f3 1 = .int .i64 ((q : Nat) : Int) ∧ f3 4 = .string (str ([] : List (BitVec 8))) ∧ f3 5 = .int .i64 0 ∧ f3 6 = vo ∧ f3 7 = .int .i64 ((k : Nat) : Int) ∧ Own wl w0.heap.size 5 1 vo k (fun j => U8 (gb (Oct.be n q) j)) ∧ Below w0.heap.size w0 wl) (q - 0) ?_ ?_
 · exact ⟨0, (.slice none 0 0), rfl, _, rfl, iv, rfl, rfl, rfl, rfl, (etv (b := .slice none 0 0) rfl), ti, Own.nil, hk⟩
 ·skip
  clear hk
  rintro _ _ w4 ⟨k, vo, rfl, f3, rfl, i1_0, s1_0, s1_1, s1_4, s1_5, s1_6, s1_7, o_vo, hk⟩
  refine wp_seq ?_
  refine sr ?_
  refine w_mv (ei s1_7) ?_
  refine w_mv (ei s1_1) ?_
  refine w_val (y_bin ei ei b_lss) ?_
  refine nt ?_
  refine c_if (p := ((k : Nat) : Int) < ((q : Nat) : Int)) eb (fun hc5 => ?_) (fun hc5 => ?_)
  ·skip
   refine wp_skip ?_
   refine then_n ?_
   refine wp_seq ?_
   refine wp_block ?_
   refine wp_region_lit ?_
   refine w_mv (ex vo s1_6) ?_
   refine w_mv (e6 s1_0) ?_
   refine w_mv (ei s1_1) ?_
   refine w_val (y_bin ei Ev.c (b_sub (by omega))) ?_
   refine w_mv (ei s1_7) ?_
   refine w_val (y_bin ei ei (b_sub (by omega))) ?_
   refine w_val (y_bin Ev.c ei (b_mul (by omega))) ?_
   refine w_val (y_nat_u64 (p := (8 * ((q - 1) - k))) ei (by omega) OctWT.so3 Tryd.underlying72) ?_
   refine w_val (y_bin e6 e6 (shr64 (c := (8 * ((q - 1) - k))) (by rw [BitVec.toNat_ofNat]; omega))) ?_
   refine w_val (y_u64_u8 e6 OctWT.so62 Tryd.underlying5) ?_
   refine w_bs1 (m := 1) (e := 5) (F := fun j => U8 ((n >>> (8 * ((q - 1) - k))).setWidth 8)) e8 (fun w => by kernel_rfl) ?_
   intro b_31 w6 hbe_b_31 r_b_31 hb7
   have no_vo_b_31 : vo.ownBlock ≠ some b_31 := o_vo.apart (by omega)
   have ge_b_31 := gb_ hk.size hbe_b_31
   clear hbe_b_31
   replace o_vo := o_vo.step hb7
   replace hk := thenB hk hb7
   refine w_app (k := k) (m := 1) (size := 1) (bytes := 1) (ex vo) el Tryd.underlying50 (by kernel_rfl) (by decide) o_vo hk.size r_b_31 (by omega) oca (by simp only [maxLen]; omega) (by omega) ?_
   intro v8 w9 o_v8 hg10 hv11
   have no_v8_b_31 := no_new no_vo_b_31 r_b_31.lt hv11
   replace r_b_31 := r_b_31.stepO hg10 no_vo_b_31
   replace hk := thenO hk hg10 (fun g e => (o_vo.block_lt g e).2)
   clear o_vo
   refine w_as (ex v8) ?_
   refine wpList_nil ?_
   refine inb_n ?_
   refine then_n ?_
   refine wp_region_lit ?_
   refine w_mv (ei s1_7) ?_
   refine w_val (y_bin ei Ev.c (b_add (by omega))) ?_
   refine w_as ei ?_
   refine wpList_nil ?_
   exact then_n ⟨_, (by omega), k + 1, v8, rfl, _, rfl, iv, s1_0, s1_1, s1_4, s1_5, rfl, ti, (own_n (o_v8.congr (fun j hj => by (try dsimp only); by_cases e : j < k * 1; (rw [if_pos e]); (rw [if_neg e, Oct.gb_be n q j (by omega), show j = k from by omega]))) (by omega)), hk⟩
  ·skip
   refine wp_exit ?_
   refine then_x ?_
   refine then_x ?_
   refine inb_x ?_
   refine then_n ?_
   refine sr ?_
   refine w_mv (ex vo s1_6) ?_
   refine w_val (v := .string (str (Oct.be n q))) (y_strown (l := Oct.be n q) (ex vo) o_vo  (by exact (by rw [Oct.length_be]; omega)) (fun j hj => by exact rfl) Tryd.underlying50 Tryd.underlying5 Tryd.underlying9) ?_
   refine w_call (Tryd.func73) (by kernel_rfl) rfl (m1 es) (refGet_c (Oct.be n q) (by rw [Oct.length_be]; omega) (by rw [Oct.length_be]; omega) w4) ?_
   rintro _ w12 ⟨rfl, hb13⟩
   refine ⟨_, rfl, ?_⟩
   replace o_vo := o_vo.step hb13
   replace hk := thenB hk hb13
   refine w_mv (ex (.tuple #[U64 (Oct.val (Oct.be n q) (Oct.be n q).length), .int .i64 0])) ?_
   refine w_val ye ?_
   refine w_val ye ?_
   refine w_as e6 ?_
   refine w_as ei ?_
   refine nt ?_
   refine wp_seq ?_
   refine sr ?_
   refine w_mv e6 ?_
   refine w_mv (e6 s1_0) ?_
   refine w_val (y_bin e6 e6 neq64) ?_
   refine nt ?_
   have hc14 : ¬ ((Oct.val (Oct.be n q) (Oct.be n q).length) ≠ n) := by rw [hlb, hvb]; exact fun h => h rfl
   refine c_f (p := (Oct.val (Oct.be n q) (Oct.be n q).length) ≠ n) eb hc14 ?_
   refine wp_skip ?_
   refine then_n ?_
   refine sr ?_
   refine w_mv (ex vo s1_6) ?_
   refine w_val (v := .string (str (Oct.be n q))) (y_strown (l := Oct.be n q) (ex vo) o_vo  (by exact (by rw [Oct.length_be]; omega)) (fun j hj => by exact rfl) Tryd.underlying50 Tryd.underlying5 Tryd.underlying9) ?_
   refine w_as es ?_
   refine w_as Ev.c ?_
   refine nt ?_
   refine wp_ret ?_
   refine fin_ret2 rfl es ei ?_
   exact ⟨rfl, hk⟩

theorem add_c (s : List (BitVec 8)) (n : BitVec 64) (hs : s.length ≤ 140737488351232) (w0 : World) : Calls Tryd.prog 67 #[.string (str s), U64 n] w0 fun e w' => e = .returned (.string (str (Oct.add s n.toNat))) ∧ Below w0.heap.size w0 w' := by
 have hla := Oct.length_add s n.toNat
 refine enter (n := 52) Tryd.func67 rfl rfl rfl ?_
 have hk : Below w0.heap.size w0 w0 := Below.refl _ _
 refine sr ?_
 refine w_as (evc (.string (str ([] : List (BitVec 8))))) ?_
 refine nt ?_
 refine sr ?_
 refine w_mv es ?_
 refine w_bytes es Tryd.underlying9 Tryd.underlying50 Tryd.underlying5 ?_
 intro b_8 cap_b_8 w1 hbe_b_8 hc_b_8 r_b_8 hb2
 have ge_b_8 := gb_ hk.size hbe_b_8
 clear hbe_b_8
 replace hk := thenB hk hb2
 refine w_as el ?_
 refine nt ?_
 refine wp_seq ?_
 refine sr ?_
 refine w_mv el ?_
 refine w_val (v := .int .i64 ((s.length : Nat) : Int)) (y_len_sl el Tryd.underlying50) ?_
 refine w_val (y_bin ei Ev.c (b_sub (by omega))) ?_
 refine w_as ei ?_
 refine nt ?_
 refine wp_block ?_
 refine c_loop (fun dN aN wl => ∃ (k : Nat), dN = (s.length - k) ∧ ∃ f3, aN = fr 52 f3 ∧ (k ≤ s.length) ∧ f3 1 = U64 (BitVec.ofNat 64 (Oct.cy s n.toNat k)) ∧ f3 4 = .string (str ([] : List (BitVec 8))) ∧ f3 5 = .slice (some ⟨b_8, 0, none⟩) s.length cap_b_8 ∧ f3 6 = .int .i64 (((s.length : Nat) : Int) - 1 - ((k : Nat) : Int)) ∧ Row wl b_8 5 s.length (fun j => if s.length ≤ j + k then (fun j => U8 (gb (Oct.add s n.toNat) j)) j else (fun j => U8 (gb s j)) j) ∧ Below w0.heap.size w0 wl) (s.length - 0) ?_ ?_
 · exact ⟨0, rfl, _, rfl, iv, (Eq.trans (b := U64 n) rfl (by exact congrArg U64 (by show n = BitVec.ofNat 64 n.toNat; simp))), rfl, rfl, (Eq.trans (b := .int .i64 (((s.length : Nat) : Int) - 1)) rfl (by congr 1; omega)), (r_b_8.cg), hk⟩
 ·skip
  clear r_b_8 hk
  rintro _ _ w4 ⟨k, rfl, f3, rfl, i1_0, s1_1, s1_4, s1_5, s1_6, r_b_8, hk⟩
  have hcl := Oct.cy_lt s n k
  refine wp_seq ?_
  refine sr ?_
  refine w_mv (ei s1_6) ?_
  refine w_val (y_bin ei Ev.c b_geq) ?_
  refine w_mv eb ?_
  by_cases hc5 : 0 ≤ (((s.length : Nat) : Int) - 1 - ((k : Nat) : Int))
  ·skip
   refine w_val_g (v := U64 (BitVec.ofNat 64 (Oct.cy s n.toNat k))) (wy rfl rfl (eb (dt hc5))) (y_mv (e6 s1_1)) ?_
   refine w_val_g (wy rfl rfl (eb (dt hc5))) (y_bin e6 (evc (U64 (0#64))) gtr64) ?_
   refine w_val (y_pick_t (eb (dt hc5)) eb) ?_
   refine nt ?_
   refine c_if (p := (0#64).toNat < (BitVec.ofNat 64 (Oct.cy s n.toNat k)).toNat) eb (fun hc6 => ?_) (fun hc6 => ?_)
   ·skip
    refine wp_skip ?_
    refine then_n ?_
    refine wp_seq ?_
    refine wp_block ?_
    refine sr ?_
    refine w_mv (e6 s1_1) ?_
    refine w_mv (el s1_5) ?_
    refine w_mv (ei s1_6) ?_
    refine w_val (y_is1z (i := (s.length - 1 - k)) el ei Tryd.underlying50 OctWT.sz5 (by omega) (by omega)) ?_
    refine w_val (v := U8 (gb s (s.length - 1 - k))) (y_ld (ex (pt b_8 (s.length - 1 - k))) OctWT.sc5 (r_b_8.val (by omega) ((if_neg (by omega)).trans rfl))) ?_
    refine w_val (y_u8_u64 e8 OctWT.so5 Tryd.underlying62) ?_
    refine w_val (y_bin e6 (evc (U64 (255#64))) and64) ?_
    refine w_val (y_bin e6 e6 add64) ?_
    refine w_as e6 ?_
    refine nt ?_
    refine wp_seq ?_
    refine sr ?_
    refine w_mv e6 ?_
    refine w_mv (el s1_5) ?_
    refine w_mv (ei s1_6) ?_
    refine w_val (y_is1z (i := (s.length - 1 - k)) el ei Tryd.underlying50 OctWT.sz5 (by omega) (by omega)) ?_
    refine w_val (v := U8 (gb s (s.length - 1 - k))) (y_ld (ex (pt b_8 (s.length - 1 - k))) OctWT.sc5 (r_b_8.val (by omega) ((if_neg (by omega)).trans rfl))) ?_
    refine w_val (y_u8_u64 e8 OctWT.so5 Tryd.underlying62) ?_
    refine w_val (y_bin e6 e6 lss64) ?_
    refine nt ?_
    refine c_if (p := ((BitVec.ofNat 64 (Oct.cy s n.toNat k)) + (((gb s (s.length - 1 - k)).setWidth 64) &&& (255#64))).toNat < ((gb s (s.length - 1 - k)).setWidth 64).toNat) eb (fun hc7 => ?_) (fun hc7 => ?_)
    ·skip
     refine sr ?_
     refine w_mv (el s1_5) ?_
     refine w_mv (ei s1_6) ?_
     refine w_mv e6 ?_
     refine w_val (y_u64_u8 e6 OctWT.so62 Tryd.underlying5) ?_
     refine w_val (y_is1z (i := (s.length - 1 - k)) el ei Tryd.underlying50 OctWT.sz5 (by omega) (by omega)) ?_
     refine w_st (v := U8 (((BitVec.ofNat 64 (Oct.cy s n.toNat k)) + (((gb s (s.length - 1 - k)).setWidth 64) &&& (255#64))).setWidth 8)) (ex (pt b_8 (s.length - 1 - k))) e8 rfl rfl OctWT.sz5 r_b_8 (by omega) ?_
     clear r_b_8; intro w8 r_b_8 hg9 _
     replace hk := thenG hk hg9 (by omega)
     refine nt ?_
     refine sr ?_
     refine w_mv e6 ?_
     refine w_val (y_bin e6 (evc (.int .u64 8)) (shr64 (c := 8) rfl)) ?_
     refine w_val (y_bin e6 (evc (U64 (72057594037927936#64))) or64) ?_
     refine w_as e6 ?_
     refine nt ?_
     refine wp_exit ?_
     refine then_x ?_
     refine inb_x ?_
     refine then_n ?_
     refine wp_region_lit ?_
     refine w_mv (ei s1_6) ?_
     refine w_val (y_bin ei Ev.c (b_sub (by omega))) ?_
     refine w_as ei ?_
     refine wpList_nil ?_
     exact then_n ⟨_, (by omega), k + 1, rfl, _, rfl, iv, (Eq.trans (b := U64 ((((BitVec.ofNat 64 (Oct.cy s n.toNat k)) + (((gb s (s.length - 1 - k)).setWidth 64) &&& (255#64))) >>> 8) ||| (72057594037927936#64))) rfl (by exact congrArg U64 (by first | exact Oct.ad_over _ _ hcl (by assumption) | exact Oct.ad_no _ _ hcl (by assumption)))), s1_4, s1_5, ti, (r_b_8.congr (fun j hj => by (try dsimp only); by_cases e : j = s.length - 1 - k; (rw [if_pos e, if_pos (by omega), Oct.gb_add s _ j (by omega), show s.length - 1 - j = k from by omega, e]; exact congrArg U8 (Oct.ad_lo _ _)); (rw [if_neg e]; by_cases e2 : s.length ≤ j + k; (rw [if_pos e2, if_pos (by omega)]); (rw [if_neg e2, if_neg (by omega)])))), hk⟩
    ·skip
     refine wp_skip ?_
     refine then_n ?_
     refine sr ?_
     refine w_mv (el s1_5) ?_
     refine w_mv (ei s1_6) ?_
     refine w_mv e6 ?_
     refine w_val (y_u64_u8 e6 OctWT.so62 Tryd.underlying5) ?_
     refine w_val (y_is1z (i := (s.length - 1 - k)) el ei Tryd.underlying50 OctWT.sz5 (by omega) (by omega)) ?_
     refine w_st (v := U8 (((BitVec.ofNat 64 (Oct.cy s n.toNat k)) + (((gb s (s.length - 1 - k)).setWidth 64) &&& (255#64))).setWidth 8)) (ex (pt b_8 (s.length - 1 - k))) e8 rfl rfl OctWT.sz5 r_b_8 (by omega) ?_
     clear r_b_8; intro w10 r_b_8 hg11 _
     replace hk := thenG hk hg11 (by omega)
     refine nt ?_
     refine wp_region_lit ?_
     refine w_mv e6 ?_
     refine w_val (y_bin e6 (evc (.int .u64 8)) (shr64 (c := 8) rfl)) ?_
     refine w_as e6 ?_
     refine wpList_nil ?_
     refine inb_n ?_
     refine then_n ?_
     refine wp_region_lit ?_
     refine w_mv (ei s1_6) ?_
     refine w_val (y_bin ei Ev.c (b_sub (by omega))) ?_
     refine w_as ei ?_
     refine wpList_nil ?_
     exact then_n ⟨_, (by omega), k + 1, rfl, _, rfl, iv, (Eq.trans (b := U64 (((BitVec.ofNat 64 (Oct.cy s n.toNat k)) + (((gb s (s.length - 1 - k)).setWidth 64) &&& (255#64))) >>> 8)) rfl (by exact congrArg U64 (by first | exact Oct.ad_over _ _ hcl (by assumption) | exact Oct.ad_no _ _ hcl (by assumption)))), s1_4, s1_5, ti, (r_b_8.congr (fun j hj => by (try dsimp only); by_cases e : j = s.length - 1 - k; (rw [if_pos e, if_pos (by omega), Oct.gb_add s _ j (by omega), show s.length - 1 - j = k from by omega, e]; exact congrArg U8 (Oct.ad_lo _ _)); (rw [if_neg e]; by_cases e2 : s.length ≤ j + k; (rw [if_pos e2, if_pos (by omega)]); (rw [if_neg e2, if_neg (by omega)])))), hk⟩
   ·skip
    refine wp_exit ?_
    refine then_x ?_
    replace r_b_8 := r_b_8.congr (g := fun j => U8 (gb (Oct.add s n.toNat) j)) (fun j hj => by (try dsimp only); by_cases e2 : s.length ≤ j + k; (rw [if_pos e2]); (rw [if_neg e2]; first | (exfalso; omega) | exact congrArg U8 (Oct.add_rest s n k j (by omega) (by assumption))))
    refine then_x ?_
    refine inb_x ?_
    refine then_n ?_
    refine sr ?_
    refine w_mv (el s1_5) ?_
    refine w_val (y_str (l := Oct.add s n.toNat) el (by first | rfl | assumption | (simp; omega) | omega) Tryd.underlying50 Tryd.underlying5 Tryd.underlying9 (fun j hj => by rw [Nat.zero_add]; exact (r_b_8.cell (by omega)))) ?_
    refine w_as es ?_
    refine nt ?_
    refine wp_ret ?_
    refine fin_ret1 rfl es ?_
    exact ⟨rfl, hk⟩
  ·skip
   with_reducible refine w_skip ?_ ?_
   exact wn rfl rfl (eb (df hc5))
   with_reducible refine w_skip ?_ ?_
   exact wn rfl rfl (eb (df hc5))
   refine w_val (y_pick_f (eb (df hc5)) Ev.c) ?_
   refine nt ?_
   refine c_ff eb ?_
   refine wp_exit ?_
   refine then_x ?_
   replace r_b_8 := r_b_8.congr (g := fun j => U8 (gb (Oct.add s n.toNat) j)) (fun j hj => by (try dsimp only); by_cases e2 : s.length ≤ j + k; (rw [if_pos e2]); (rw [if_neg e2]; first | (exfalso; omega) | exact congrArg U8 (Oct.add_rest s n k j (by omega) (by assumption))))
   refine then_x ?_
   refine inb_x ?_
   refine then_n ?_
   refine sr ?_
   refine w_mv (el s1_5) ?_
   refine w_val (y_str (l := Oct.add s n.toNat) el (by first | rfl | assumption | (simp; omega) | omega) Tryd.underlying50 Tryd.underlying5 Tryd.underlying9 (fun j hj => by rw [Nat.zero_add]; exact (r_b_8.cell (by omega)))) ?_
   refine w_as es ?_
   refine nt ?_
   refine wp_ret ?_
   refine fin_ret1 rfl es ?_
   exact ⟨rfl, hk⟩

theorem refAddN_c (s : List (BitVec 8)) (n : BitVec 64) (hs : s.length ≤ 140737488351232) (w0 : World) : Calls Tryd.prog 69 #[.string (str s), U64 n] w0 fun e w' => e = .returned (.string (str (Oct.add s n.toNat))) ∧ Below w0.heap.size w0 w' := by
 have hla := Oct.length_add s n.toNat
 refine enter (n := 41) Tryd.func69 rfl rfl rfl ?_
 have hk : Below w0.heap.size w0 w0 := Below.refl _ _
 refine sr ?_
 refine w_as (evc (.string (str ([] : List (BitVec 8))))) ?_
 refine nt ?_
 refine sr ?_
 refine w_mv es ?_
 refine w_bytes es Tryd.underlying9 Tryd.underlying50 Tryd.underlying5 ?_
 intro b_10 cap_b_10 w1 hbe_b_10 hc_b_10 r_b_10 hb2
 have ge_b_10 := gb_ hk.size hbe_b_10
 clear hbe_b_10
 replace hk := thenB hk hb2
 refine w_as el ?_
 refine nt ?_
 refine sr ?_
 refine w_as Ev.c ?_
 refine nt ?_
 refine wp_seq ?_
 refine sr ?_
 refine w_mv el ?_
 refine w_val (v := .int .i64 ((s.length : Nat) : Int)) (y_len_sl el Tryd.underlying50) ?_
 refine w_val (y_bin ei Ev.c (b_sub (by omega))) ?_
 refine w_as ei ?_
 refine nt ?_
 refine wp_block ?_
 refine c_loop (fun dN aN wl => ∃ (k : Nat), dN = (s.length - k) ∧ ∃ f3, aN = fr 41 f3 ∧ (k ≤ s.length) ∧ f3 1 = U64 (BitVec.ofNat 64 (n.toNat / 256 ^ k)) ∧ f3 4 = .string (str ([] : List (BitVec 8))) ∧ f3 5 = .slice (some ⟨b_10, 0, none⟩) s.length cap_b_10 ∧ f3 6 = .int .i64 (((Oct.ry s n.toNat k) : Nat) : Int) ∧ f3 7 = .int .i64 (((s.length : Nat) : Int) - 1 - ((k : Nat) : Int)) ∧ Row wl b_10 5 s.length (fun j => if s.length ≤ j + k then (fun j => U8 (gb (Oct.add s n.toNat) j)) j else (fun j => U8 (gb s j)) j) ∧ Below w0.heap.size w0 wl) (s.length - 0) ?_ ?_
 · exact ⟨0, rfl, _, rfl, iv, (Eq.trans (b := U64 n) rfl (by exact congrArg U64 (by show n = BitVec.ofNat 64 (n.toNat / 256 ^ 0); simp))), rfl, rfl, (Eq.trans (b := .int .i64 0) rfl (by exact congrArg (Value.int .i64) (by unfold Oct.ry Oct.cy; simp))), (Eq.trans (b := .int .i64 (((s.length : Nat) : Int) - 1)) rfl (by congr 1; omega)), (r_b_10.cg), hk⟩
 ·skip
  clear r_b_10 hk
  rintro _ _ w4 ⟨k, rfl, f3, rfl, i1_0, s1_1, s1_4, s1_5, s1_6, s1_7, r_b_10, hk⟩
  have hrm := Oct.rem_eq n k
  have hry := Oct.ry_le s n.toNat k
  have hb8 := (gb s (s.length - 1 - k)).isLt
  have hst := Oct.ry_step s n.toNat k
  refine wp_seq ?_
  refine sr ?_
  refine w_mv (ei s1_7) ?_
  refine w_val (y_bin ei Ev.c b_geq) ?_
  refine nt ?_
  refine c_if (p := 0 ≤ (((s.length : Nat) : Int) - 1 - ((k : Nat) : Int))) eb (fun hc5 => ?_) (fun hc5 => ?_)
  ·skip
   refine wp_skip ?_
   refine then_n ?_
   refine wp_seq ?_
   refine wp_block ?_
   refine sr ?_
   refine w_mv (el s1_5) ?_
   refine w_mv (ei s1_7) ?_
   refine w_val (y_is1z (i := (s.length - 1 - k)) el ei Tryd.underlying50 OctWT.sz5 (by omega) (by omega)) ?_
   refine w_val (v := U8 (gb s (s.length - 1 - k))) (y_ld (ex (pt b_10 (s.length - 1 - k))) OctWT.sc5 (r_b_10.val (by omega) ((if_neg (by omega)).trans rfl))) ?_
   refine w_val (v := .int .i64 (((gb s (s.length - 1 - k)).toNat : Nat) : Int)) (y_u8_i64 e8 OctWT.so5 Tryd.underlying3 (by have := (gb s (s.length - 1 - k)).isLt; omega)) ?_
   refine w_mv (e6 s1_1) ?_
   refine w_val (y_bin e6 (evc (U64 (256#64))) (rem64 (by decide))) ?_
   refine w_val (v := .int .i64 ((((BitVec.ofNat 64 (n.toNat / 256 ^ k)) % (256#64)).toNat : Nat) : Int)) (y_u64_i64 e6 OctWT.so62 Tryd.underlying3 (by omega)) ?_
   refine w_val (y_bin ei ei (b_add (by omega))) ?_
   refine w_mv (ei s1_6) ?_
   refine w_val (y_bin ei ei (b_add (by omega))) ?_
   refine w_as ei ?_
   refine nt ?_
   refine sr ?_
   refine w_mv (el s1_5) ?_
   refine w_mv (ei s1_7) ?_
   refine w_mv ei ?_
   refine w_val (y_bin ei Ev.c (b_rem (by omega))) ?_
   refine w_val (y_nat_u8 (p := (((((gb s (s.length - 1 - k)).toNat) + (((BitVec.ofNat 64 (n.toNat / 256 ^ k)) % (256#64)).toNat)) + (Oct.ry s n.toNat k)) % 256)) ei (by omega) OctWT.so3 Tryd.underlying5) ?_
   refine w_val (y_is1z (i := (s.length - 1 - k)) el ei Tryd.underlying50 OctWT.sz5 (by omega) (by omega)) ?_
   refine w_st (v := U8 (BitVec.ofNat 8 (((((gb s (s.length - 1 - k)).toNat) + (((BitVec.ofNat 64 (n.toNat / 256 ^ k)) % (256#64)).toNat)) + (Oct.ry s n.toNat k)) % 256))) (ex (pt b_10 (s.length - 1 - k))) e8 rfl rfl OctWT.sz5 r_b_10 (by omega) ?_
   clear r_b_10; intro w6 r_b_10 hg7 _
   replace hk := thenG hk hg7 (by omega)
   refine nt ?_
   refine sr ?_
   refine w_mv ei ?_
   refine w_val (y_bin ei Ev.c (b_quo (by omega))) ?_
   refine w_as ei ?_
   refine nt ?_
   refine wp_region_lit ?_
   refine w_mv (e6 s1_1) ?_
   refine w_val (y_bin e6 (evc (U64 (256#64))) (quo64 (by decide))) ?_
   refine w_as e6 ?_
   refine wpList_nil ?_
   refine inb_n ?_
   refine then_n ?_
   refine wp_region_lit ?_
   refine w_mv (ei s1_7) ?_
   refine w_val (y_bin ei Ev.c (b_sub (by omega))) ?_
   refine w_as ei ?_
   refine wpList_nil ?_
   exact then_n ⟨_, (by omega), k + 1, rfl, _, rfl, iv, (Eq.trans (b := U64 ((BitVec.ofNat 64 (n.toNat / 256 ^ k)) / (256#64))) rfl (by exact congrArg U64 (Oct.div_eq n k))), s1_4, s1_5, (Eq.trans (b := .int .i64 ((((((gb s (s.length - 1 - k)).toNat : Nat) : Int) + ((((BitVec.ofNat 64 (n.toNat / 256 ^ k)) % (256#64)).toNat : Nat) : Int)) + (((Oct.ry s n.toNat k) : Nat) : Int)) / 256)) rfl (by congr 1; omega)), ti, (r_b_10.congr (fun j hj => by (try dsimp only); by_cases e : j = s.length - 1 - k; (rw [if_pos e, if_pos (by omega), Oct.gb_add s _ j (by omega), show s.length - 1 - j = k from by omega, e]; exact congrArg U8 (Oct.mod_eq _ _ (by omega))); (rw [if_neg e]; by_cases e2 : s.length ≤ j + k; (rw [if_pos e2, if_pos (by omega)]); (rw [if_neg e2, if_neg (by omega)])))), hk⟩
  ·skip
   refine wp_exit ?_
   refine then_x ?_
   replace r_b_10 := r_b_10.congr (g := fun j => U8 (gb (Oct.add s n.toNat) j)) (fun j hj => by (try dsimp only); rw [if_pos (by omega)])
   refine then_x ?_
   refine inb_x ?_
   refine then_n ?_
   refine sr ?_
   refine w_mv (el s1_5) ?_
   refine w_val (y_str (l := Oct.add s n.toNat) el (by first | rfl | assumption | (simp; omega) | omega) Tryd.underlying50 Tryd.underlying5 Tryd.underlying9 (fun j hj => by rw [Nat.zero_add]; exact (r_b_10.cell (by omega)))) ?_
   refine w_as es ?_
   refine nt ?_
   refine wp_ret ?_
   refine fin_ret1 rfl es ?_
   exact ⟨rfl, hk⟩
end Go.Proofs.YtkjdejadambffaaDoor
