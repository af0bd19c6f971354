/-
  Octets: what the program and the reference compute. Conditions as each says.
-/
import Derived.Test.YtjdcpejcnmpiaaaRows
import Derived.Test.YtjdcpejcnmpiaaaGenMore
import Derived.Test.YtjdcpejcnmpiaaaOct
import Derived.Test.YtjdcpejcnmpiaaaGenSh
import Derived.ProofKit
namespace Go.Proofs.Ytjdcpejcnmpiaaa
open Go.RowKit
set_option linter.unusedSimpArgs false
set_option linter.unusedVariables false
set_option maxRecDepth 100000
set_option maxHeartbeats 1000000
namespace OctWT
theorem mixed : Try.prog.follows .mixedOrders = true := by kernel_rfl
theorem sc5 : (Try.prog.underlying 5).map scal = some true := by rw [Try.underlying5]; rfl
theorem so129 : (Try.prog.underlying 129).isSome = true := by rw [Try.underlying129]; rfl
theorem so5 : (Try.prog.underlying 5).isSome = true := by rw [Try.underlying5]; rfl
theorem sz5 : (Try.prog.info? 5).map (·.size) = some 1 := by kernel_rfl
end OctWT
theorem same_c (a b : List (BitVec 8)) (ha : a.length ≤ 140737488351232) (w0 : World) : Calls Try.prog 67 #[.string (str a), .string (str b)] w0 fun e w' => e = .returned (.bool (decide (a = b))) ∧ Below w0.heap.size w0 w' := by
 refine enter (n := 29) Try.func67 rfl rfl rfl ?_
 have hk : Below w0.heap.size w0 w0 := Below.refl _ _
 refine sr ?_
 refine w_as Ev.c ?_
 refine nt ?_
 refine wp_seq ?_
 refine sr ?_
 refine w_mv es ?_
 refine w_val (y_len es Try.underlying9) ?_
 refine w_mv es ?_
 refine w_val (y_len es Try.underlying9) ?_
 refine w_val (y_bin ei ei b_neq) ?_
 refine nt ?_
 refine c_if (p := ((a.length : Nat) : Int) ≠ ((b.length : Nat) : Int)) eb (fun hc1 => ?_) (fun hc1 => ?_)
 ·skip
  refine sr ?_
  refine w_as Ev.c ?_
  refine nt ?_
  refine wp_ret ?_
  refine then_r ?_
  refine fin_ret1 rfl eb ?_
  refine ⟨congrArg Ending.returned ?_, hk⟩
  show (.bool false : Value) = .bool (decide (a = b))
  first | exact congrArg Value.bool (decide_eq_false (fun h => by subst h; omega)).symm | exact congrArg Value.bool (decide_eq_decide.2 (by rw [show k = a.length from by omega]; exact Oct.unl_eq a b (by omega)))
 ·skip
  refine wp_skip ?_
  refine then_n ?_
  refine sr ?_
  refine w_as (evc (U8 (0#8))) ?_
  refine nt ?_
  refine wp_seq ?_
  refine sr ?_
  refine w_mv es ?_
  refine w_val (y_len es Try.underlying9) ?_
  refine w_mv Ev.c ?_
  refine nt ?_
  refine wp_block ?_
  refine c_loop (fun dN aN wl => ∃ (k : Nat), dN = (a.length - k) ∧ ∃ f2, aN = fr 29 f2 ∧ (k ≤ a.length) ∧ f2 0 = .string (str a) ∧ f2 1 = .string (str b) ∧ f2 4 = .bool false ∧ f2 5 = U8 (Oct.unl a b k) ∧ f2 13 = .int .i64 ((a.length : Nat) : Int) ∧ f2 14 = .int .i64 ((k : Nat) : Int) ∧ Below w0.heap.size w0 wl) (a.length - 0) ?_ ?_
  · exact ⟨0, rfl, _, rfl, iv, rfl, rfl, rfl, (etv (b := U8 (0#8)) rfl), rfl, (etv (b := .int .i64 0) rfl), hk⟩
  ·skip
   clear hk
   rintro _ _ w3 ⟨k, rfl, f2, rfl, i1_0, s1_0, s1_1, s1_4, s1_5, s1_13, s1_14, hk⟩
   refine sr ?_
   refine w_val (y_bin (ei s1_14) (ei s1_13) b_lss) ?_
   refine nt ?_
   refine wp_seq ?_
   refine c_if (p := ((k : Nat) : Int) < ((a.length : Nat) : Int)) eb (fun hc4 => ?_) (fun hc4 => ?_)
   ·skip
    refine wp_skip ?_
    refine then_n ?_
    refine wp_seq ?_
    refine wp_block ?_
    refine sr ?_
    refine w_mv (ei s1_14) ?_
    refine w_as ei ?_
    refine nt ?_
    refine region_q OctWT.mixed (by kernel_rfl) ?_
    refine q_mv (e8 s1_5) ?_
    refine q_mv (es s1_0) ?_
    refine q_mv ei ?_
    refine q_val (v := U8 (gb a k)) (fun w' hw' => y_idx (ex (.string (str a))) ei Try.underlying9 (by omega) (by omega)) ?_
    refine q_mv (es s1_1) ?_
    refine q_mv ei ?_
    refine q_val (v := U8 (gb b k)) (fun w' hw' => y_idx (ex (.string (str b))) ei Try.underlying9 (by omega) (by omega)) ?_
    refine q_val (fun w' hw' => y_bin e8 e8 xor8) ?_
    refine q_val (fun w' hw' => y_bin e8 e8 or8) ?_
    refine q_as e8 ?_
    refine q_nil ?_
    intro w5 hb6
    replace hk := thenB hk hb6
    refine inb_n ?_
    refine then_n ?_
    refine wp_region_lit ?_
    refine w_val (y_bin (ei s1_14) Ev.c (b_add (by omega))) ?_
    refine w_mv ei ?_
    refine wpList_nil ?_
    exact then_n ⟨_, (by omega), k + 1, rfl, _, rfl, iv, s1_0, s1_1, s1_4, (etv (b := U8 ((Oct.unl a b k) ||| ((gb a k) ^^^ (gb b k)))) rfl), s1_13, (etv (b := .int .i64 (((k : Nat) : Int) + 1)) rfl), hk⟩
   ·skip
    refine wp_exit ?_
    refine then_x ?_
    refine then_x ?_
    refine inb_x ?_
    refine then_n ?_
    refine sr ?_
    refine w_mv (e8 s1_5) ?_
    refine w_val (y_bin e8 (evc (U8 (0#8))) eql8) ?_
    refine w_as eb ?_
    refine nt ?_
    refine wp_ret ?_
    refine fin_ret1 rfl eb ?_
    refine ⟨congrArg Ending.returned ?_, hk⟩
    show (.bool (decide ((Oct.unl a b k) = (0#8))) : Value) = .bool (decide (a = b))
    first | exact congrArg Value.bool (decide_eq_false (fun h => by subst h; omega)).symm | exact congrArg Value.bool (decide_eq_decide.2 (by rw [show k = a.length from by omega]; exact Oct.unl_eq a b (by omega)))

theorem xor_c (a b : List (BitVec 8)) (ha : a.length ≤ 140737488351232) (w0 : World) : Calls Try.prog 68 #[.string (str a), .string (str b)] w0 fun e w' => e = .returned (.string (str (Oct.xor a b))) ∧ Below w0.heap.size w0 w' := by
 have hlx := Oct.length_xor a b
 refine enter (n := 31) Try.func68 rfl rfl rfl ?_
 have hk : Below w0.heap.size w0 w0 := Below.refl _ _
 refine sr ?_
 refine w_as (evc (.string (str ([] : List (BitVec 8))))) ?_
 refine nt ?_
 refine sr ?_
 refine w_mv es ?_
 refine w_val (y_len es Try.underlying9) ?_
 refine w_mv es ?_
 refine w_val (y_len es Try.underlying9) ?_
 refine w_val (v := .int .i64 (min ((a.length : Nat) : Int) ((b.length : Nat) : Int))) (y_min ei ei) ?_
 refine w_mks (m := (min a.length b.length)) (bytes := 1) (zv := U8 (0#8)) ei ei (by omega) (by omega) Try.underlying54 (by kernel_rfl) rfl (by omega) (by omega) ?_
 intro b_12 w1 hbe_b_12 r_b_12 hb2
 have ge_b_12 : w0.heap.size ≤ b_12 := by have := hk.size; omega
 clear hbe_b_12
 replace hk := thenB hk hb2
 refine w_as el ?_
 refine nt ?_
 refine wp_seq ?_
 refine sr ?_
 refine w_mv el ?_
 refine w_val (v := .int .i64 (((min a.length b.length) : Nat) : Int)) (y_len_sl el Try.underlying54) ?_
 refine w_mv Ev.c ?_
 refine nt ?_
 refine wp_block ?_
 refine c_loop (fun dN aN wl => ∃ (k : Nat), dN = (min a.length b.length - k) ∧ ∃ f3, aN = fr 31 f3 ∧ (k ≤ min a.length b.length) ∧ f3 0 = .string (str a) ∧ f3 1 = .string (str b) ∧ f3 4 = .string (str ([] : List (BitVec 8))) ∧ f3 5 = .slice (some ⟨b_12, 0, none⟩) (min a.length b.length) (min a.length b.length) ∧ f3 14 = .int .i64 (((min a.length b.length) : Nat) : Int) ∧ f3 15 = .int .i64 ((k : Nat) : Int) ∧ Row wl b_12 5 (min a.length b.length) (fun j => if j < k then (fun j => U8 (gb a j ^^^ gb b j)) j else (fun j => U8 (0#8)) j) ∧ Below w0.heap.size w0 wl) (min a.length b.length - 0) ?_ ?_
 · exact ⟨0, rfl, _, rfl, iv, rfl, rfl, rfl, rfl, rfl, (etv (b := .int .i64 0) rfl), (r_b_12.cg), hk⟩
 ·skip
  clear r_b_12 hk
  rintro _ _ w4 ⟨k, rfl, f3, rfl, i1_0, s1_0, s1_1, s1_4, s1_5, s1_14, s1_15, r_b_12, hk⟩
  refine sr ?_
  refine w_val (y_bin (ei s1_15) (ei s1_14) b_lss) ?_
  refine nt ?_
  refine wp_seq ?_
  refine c_if (p := ((k : Nat) : Int) < (((min a.length b.length) : Nat) : Int)) eb (fun hc5 => ?_) (fun hc5 => ?_)
  ·skip
   refine wp_skip ?_
   refine then_n ?_
   refine wp_seq ?_
   refine wp_block ?_
   refine sr ?_
   refine w_mv (ei s1_15) ?_
   refine w_as ei ?_
   refine nt ?_
   refine region_t 10 OctWT.mixed (by kernel_rfl) ?_
   simp only [List.take_succ_cons, List.take_zero, List.drop_succ_cons, List.drop_zero]
   refine q_mv (el s1_5) ?_
   refine q_mv ei ?_
   refine q_mv (es s1_0) ?_
   refine q_mv ei ?_
   refine q_val (v := U8 (gb a k)) (fun w' hw' => y_idx (ex (.string (str a))) ei Try.underlying9 (by omega) (by omega)) ?_
   refine q_mv (es s1_1) ?_
   refine q_mv ei ?_
   refine q_val (v := U8 (gb b k)) (fun w' hw' => y_idx (ex (.string (str b))) ei Try.underlying9 (by omega) (by omega)) ?_
   refine q_val (fun w' hw' => y_bin e8 e8 xor8) ?_
   refine q_val (fun w' hw' => y_is1z (i := k) el ei Try.underlying54 OctWT.sz5 (by omega) (by omega)) ?_
   refine q_nil ?_
   intro w6 hb7
   replace r_b_12 := r_b_12.step hb7
   replace hk := thenB hk hb7
   refine w_st (v := U8 ((gb a k) ^^^ (gb b k))) (ex (pt b_12 k)) e8 rfl rfl OctWT.sz5 r_b_12 (by omega) ?_
   clear r_b_12; intro w8 r_b_12 hg9 _
   replace hk := thenG hk hg9 (by omega)
   refine wpList_nil ?_
   refine inb_n ?_
   refine then_n ?_
   refine wp_region_lit ?_
   refine w_val (y_bin (ei s1_15) Ev.c (b_add (by omega))) ?_
   refine w_mv ei ?_
   refine wpList_nil ?_
   exact then_n ⟨_, (by omega), k + 1, rfl, _, rfl, iv, s1_0, s1_1, s1_4, s1_5, s1_14, (etv (b := .int .i64 (((k : Nat) : Int) + 1)) rfl), (r_b_12.cg), hk⟩
  ·skip
   refine wp_exit ?_
   refine then_x ?_
   replace r_b_12 := r_b_12.congr (g := fun j => U8 (gb (Oct.xor a b) j)) (fun j hj => by (try dsimp only); rw [if_pos (by omega), Oct.gb_xor a b j (by omega)])
   refine then_x ?_
   refine inb_x ?_
   refine then_n ?_
   refine sr ?_
   refine w_mv (el s1_5) ?_
   refine w_val (y_str (l := Oct.xor a b) el (by first | rfl | assumption | (simp; omega) | omega) Try.underlying54 Try.underlying5 Try.underlying9 (fun j hj => by rw [Nat.zero_add]; exact (r_b_12.cell (by omega)))) ?_
   refine w_as es ?_
   refine nt ?_
   refine wp_ret ?_
   refine fin_ret1 rfl es ?_
   exact ⟨rfl, hk⟩

theorem refXor_c (a b : List (BitVec 8)) (ha : a.length ≤ 140737488351232) (w0 : World) : Calls Try.prog 59 #[.string (str a), .string (str b)] w0 fun e w' => e = .returned (.string (str (Oct.xor a b))) ∧ Below w0.heap.size w0 w' := by
 have hlx := Oct.length_xor a b
 refine enter (n := 31) Try.func59 rfl rfl rfl ?_
 have hk : Below w0.heap.size w0 w0 := Below.refl _ _
 refine sr ?_
 refine w_as (evc (.string (str ([] : List (BitVec 8))))) ?_
 refine nt ?_
 refine sr ?_
 refine w_as Ev.c ?_
 refine nt ?_
 refine wp_seq ?_
 refine sr ?_
 refine w_as Ev.c ?_
 refine nt ?_
 refine wp_block ?_
 refine c_loop (fun dN aN wl => ∃ (k : Nat) (vo : Value), dN = (min a.length b.length - k) ∧ ∃ f1, aN = fr 31 f1 ∧ (k ≤ min a.length b.length) ∧ f1 0 = .string (str a) ∧ f1 1 = .string (str b) ∧ f1 4 = .string (str ([] : List (BitVec 8))) ∧ f1 5 = vo ∧ f1 6 = .int .i64 ((k : Nat) : Int) ∧ Own wl w0.heap.size 5 1 vo k (fun j => U8 (gb a j ^^^ gb b j)) ∧ Below w0.heap.size w0 wl) (min a.length b.length - 0) ?_ ?_
 · exact ⟨0, (.slice none 0 0), rfl, _, rfl, iv, rfl, rfl, rfl, (etv (b := .slice none 0 0) rfl), (etv (b := .int .i64 0) rfl), Own.nil, hk⟩
 ·skip
  clear hk
  rintro _ _ w2 ⟨k, vo, rfl, f1, rfl, i1_0, s1_0, s1_1, s1_4, s1_5, s1_6, o_vo, hk⟩
  refine wp_seq ?_
  refine sr ?_
  refine w_mv (ei s1_6) ?_
  refine w_mv (es s1_0) ?_
  refine w_val (y_len es Try.underlying9) ?_
  refine w_val (y_bin ei ei b_lss) ?_
  refine w_mv eb ?_
  by_cases hc3 : ((k : Nat) : Int) < ((a.length : Nat) : Int)
  ·skip
   refine w_val_g (v := .int .i64 ((k : Nat) : Int)) (wy rfl rfl (eb (dt hc3))) (y_mv (ei s1_6)) ?_
   refine w_val_g (v := .string (str b)) (wy rfl rfl (eb (dt hc3))) (y_mv (es s1_1)) ?_
   refine w_val_g (wy rfl rfl (eb (dt hc3))) (y_len es Try.underlying9) ?_
   refine w_val_g (wy rfl rfl (eb (dt hc3))) (y_bin ei ei b_lss) ?_
   refine w_val (y_pick_t (eb (dt hc3)) eb) ?_
   refine nt ?_
   refine c_if (p := ((k : Nat) : Int) < ((b.length : Nat) : Int)) eb (fun hc4 => ?_) (fun hc4 => ?_)
   ·skip
    refine wp_skip ?_
    refine then_n ?_
    refine wp_seq ?_
    refine wp_block ?_
    refine region_dc (Nat.testBit 1536) 11 OctWT.mixed rfl ?_
    intro w5 hb6
    replace o_vo := o_vo.step hb6
    replace hk := thenB hk hb6
    have hS : Cls w5 w5 := Below.refl _ _
    refine dp 0 rfl (fun w' => y_mv (ex vo s1_5)) ?_
    refine dp 1 rfl (fun w' => y_mv (es s1_0)) ?_
    refine dp 2 rfl (fun w' => y_mv (ei s1_6)) ?_
    refine dp (v := U8 (gb a k)) 3 rfl (fun w' => y_idx (ex (.string (str a))) ei Try.underlying9 (by omega) (by omega)) ?_
    refine dp 4 rfl (fun w' => y_mv (es s1_1)) ?_
    refine dp 5 rfl (fun w' => y_mv (ei s1_6)) ?_
    refine dp (v := U8 (gb b k)) 6 rfl (fun w' => y_idx (ex (.string (str b))) ei Try.underlying9 (by omega) (by omega)) ?_
    refine dp (v := U8 ((gb a k) ^^^ (gb b k))) 7 rfl (fun w' => y_bin e8 e8 xor8) ?_
    refine d_one 8 (by kernel_rfl) rfl ?_
    refine w_bs1 (m := 1) (e := 5) (F := fun j => U8 ((gb a k) ^^^ (gb b k))) e8 (fun w => by kernel_rfl) ?_
    intro b_27 w7 hbe_b_27 r_b_27 hb8
    have no_vo_b_27 : vo.ownBlock ≠ some b_27 := o_vo.apart (by omega)
    have ge_b_27 : w0.heap.size ≤ b_27 := by have := hk.size; omega
    clear hbe_b_27
    replace o_vo := o_vo.step hb8
    replace hk := thenB hk hb8
    replace hS := thenB hS hb8
    refine wpList_nil ?_
    refine then_n ⟨fun _ h => thenB h (by assumption), ?_⟩
    refine d_one 9 (by kernel_rfl) rfl ?_
    refine w_app (k := k) (m := 1) (size := 1) (bytes := 1) (ex vo) el Try.underlying54 (by kernel_rfl) (by decide) o_vo hk.size r_b_27 (by omega) oca (by simp only [maxLen]; omega) (by omega) ?_
    intro v9 w10 o_v9 hg11 hv12
    have no_v9_b_27 := no_new no_vo_b_27 r_b_27.lt hv12
    replace r_b_27 := r_b_27.stepO hg11 no_vo_b_27
    replace hk := thenO hk hg11 (fun g e => (o_vo.block_lt g e).2)
    clear o_vo
    clear hS
    refine wpList_nil ?_
    refine then_n ⟨fun hD => absurd hD (by decide), ?_⟩
    refine d_one 10 (by kernel_rfl) rfl ?_
    refine w_as (ex v9) ?_
    refine wpList_nil ?_
    refine then_n ⟨fun hD => absurd hD (by decide), ?_⟩
    refine d_done (by kernel_rfl) ?_
    refine inb_n ?_
    refine then_n ?_
    refine wp_region_lit ?_
    refine w_mv (ei s1_6) ?_
    refine w_val (y_bin ei Ev.c (b_add (by omega))) ?_
    refine w_as ei ?_
    refine wpList_nil ?_
    exact then_n ⟨_, (by omega), k + 1, v9, rfl, _, rfl, iv, s1_0, s1_1, s1_4, rfl, (etv (b := .int .i64 (((k : Nat) : Int) + 1)) rfl), (own_n (o_v9.cg) (by omega)), hk⟩
   ·skip
    refine wp_exit ?_
    refine then_x ?_
    refine then_x ?_
    refine inb_x ?_
    refine then_n ?_
    refine sr ?_
    refine w_mv (ex vo s1_5) ?_
    refine w_val (v := .string (str (Oct.xor a b))) (y_strown (l := Oct.xor a b) (ex vo) o_vo  (by exact (by rw [Oct.length_xor]; omega)) (fun j hj => by exact (by rw [Oct.gb_xor a b j (by omega)])) Try.underlying54 Try.underlying5 Try.underlying9) ?_
    refine w_as es ?_
    refine nt ?_
    refine wp_ret ?_
    refine fin_ret1 rfl es ?_
    exact ⟨rfl, hk⟩
  ·skip
   with_reducible refine w_skip ?_ ?_
   exact wn rfl rfl (eb (df hc3))
   with_reducible refine w_skip ?_ ?_
   exact wn rfl rfl (eb (df hc3))
   with_reducible refine w_skip ?_ ?_
   exact wn rfl rfl (eb (df hc3))
   with_reducible refine w_skip ?_ ?_
   exact wn rfl rfl (eb (df hc3))
   refine w_val (y_pick_f (eb (df hc3)) Ev.c) ?_
   refine nt ?_
   refine c_ff eb ?_
   refine wp_exit ?_
   refine then_x ?_
   refine then_x ?_
   refine inb_x ?_
   refine then_n ?_
   refine sr ?_
   refine w_mv (ex vo s1_5) ?_
   refine w_val (v := .string (str (Oct.xor a b))) (y_strown (l := Oct.xor a b) (ex vo) o_vo  (by exact (by rw [Oct.length_xor]; omega)) (fun j hj => by exact (by rw [Oct.gb_xor a b j (by omega)])) Try.underlying54 Try.underlying5 Try.underlying9) ?_
   refine w_as es ?_
   refine nt ?_
   refine wp_ret ?_
   refine fin_ret1 rfl es ?_
   exact ⟨rfl, hk⟩

theorem put_c (n : BitVec 64) (q : Nat) (hq : 1 ≤ q) (h8 : q ≤ 8) (hn : q < 8 → n >>> (8 * q) = 0#64) (w0 : World) : Calls Try.prog 115 #[U64 n, .int .i64 ((q : Nat) : Int)] w0 fun e w' => e = .returned (.tuple #[.string (str (Oct.be n q)), .int .i64 0]) ∧ Below w0.heap.size w0 w' := by
 have hlb := Oct.length_be n q
 refine enter (n := 45) Try.func115 rfl rfl rfl ?_
 have hk : Below w0.heap.size w0 w0 := Below.refl _ _
 refine sr ?_
 refine w_as (evc (.string (str ([] : List (BitVec 8))))) ?_
 refine w_as Ev.c ?_
 refine nt ?_
 refine wp_seq ?_
 refine sr ?_
 refine w_mv ei ?_
 refine w_val (y_bin ei Ev.c b_lss) ?_
 refine w_mv eb ?_
 have hc1 : ¬ (((q : Nat) : Int) < 1) := by omega
 refine w_val_g (v := .int .i64 ((q : Nat) : Int)) (wy rfl rfl (eb (df hc1))) (y_mv ei) ?_
 refine w_val_g (wy rfl rfl (eb (df hc1))) (y_bin ei Ev.c b_gtr) ?_
 refine w_val (y_pick_f (eb (df hc1)) eb) ?_
 refine w_mv eb ?_
 have hc2 : ¬ (8 < ((q : Nat) : Int)) := by omega
 refine w_val_g (v := .int .i64 ((q : Nat) : Int)) (wy rfl rfl (eb (df hc2))) (y_mv ei) ?_
 refine w_val_g (wy rfl rfl (eb (df hc2))) (y_bin ei Ev.c b_lss) ?_
 refine w_val_g (v := .bool (decide (((q : Nat) : Int) < 8))) (wy rfl rfl (eb (df hc2))) (y_mv eb) ?_
 by_cases hc3 : ((q : Nat) : Int) < 8
 ·skip
  refine w_val_g (v := U64 n) (wy rfl rfl (eb (dt hc3))) (y_mv e6) ?_
  refine w_val_g (v := .int .i64 ((q : Nat) : Int)) (wy rfl rfl (eb (dt hc3))) (y_mv ei) ?_
  refine w_val_g (wy rfl rfl (eb (dt hc3))) (y_bin Ev.c ei (b_mul (by omega))) ?_
  refine w_val_g (wy rfl rfl (eb (dt hc3))) (y_bin e6 ei (shr64 (c := (8 * q)) (by omega))) ?_
  refine w_val_g (wy rfl rfl (eb (dt hc3))) (y_bin e6 (evc (U64 (0#64))) neq64) ?_
  refine w_val_g (wy rfl rfl (eb (df hc2))) (y_pick_t (eb (dt hc3)) eb) ?_
  refine w_val (y_pick_f (eb (df hc2)) eb) ?_
  refine nt ?_
  have hc4 : ¬ ((n >>> (8 * q)) ≠ (0#64)) := by exact fun h => h (hn (by omega))
  refine c_f (p := (n >>> (8 * q)) ≠ (0#64)) eb hc4 ?_
  refine wp_skip ?_
  refine then_n ?_
  refine sr ?_
  refine w_mv ei ?_
  refine w_mks (m := q) (bytes := 1) (zv := U8 (0#8)) ei ei (by omega) (by omega) Try.underlying54 (by kernel_rfl) rfl (by omega) (by omega) ?_
  intro b_26 w5 hbe_b_26 r_b_26 hb6
  have ge_b_26 : w0.heap.size ≤ b_26 := by have := hk.size; omega
  clear hbe_b_26
  replace hk := thenB hk hb6
  refine w_as el ?_
  refine nt ?_
  refine wp_seq ?_
  refine sr ?_
  refine w_mv ei ?_
  refine w_mv Ev.c ?_
  refine nt ?_
  refine wp_block ?_
  refine c_loop (fun dN aN wl => ∃ (k : Nat), dN = (q - k) ∧ ∃ f7, aN = fr 45 f7 ∧ (k ≤ q) ∧ f7 0 = U64 n ∧ f7 1 = .int .i64 ((q : Nat) : Int) ∧ f7 4 = .string (str ([] : List (BitVec 8))) ∧ f7 5 = .int .i64 0 ∧ f7 6 = .slice (some ⟨b_26, 0, none⟩) q q ∧ f7 27 = .int .i64 ((q : Nat) : Int) ∧ f7 28 = .int .i64 ((k : Nat) : Int) ∧ Row wl b_26 5 q (fun j => if q ≤ j + k then (fun j => U8 (gb (Oct.be n q) j)) j else (fun j => U8 (0#8)) j) ∧ Below w0.heap.size w0 wl) (q - 0) ?_ ?_
  · exact ⟨0, rfl, _, rfl, iv, rfl, rfl, rfl, rfl, rfl, rfl, (etv (b := .int .i64 0) rfl), (r_b_26.cg), hk⟩
  ·skip
   clear r_b_26 hk
   rintro _ _ w8 ⟨k, rfl, f7, rfl, i1_0, s1_0, s1_1, s1_4, s1_5, s1_6, s1_27, s1_28, r_b_26, hk⟩
   refine sr ?_
   refine w_val (y_bin (ei s1_28) (ei s1_27) b_lss) ?_
   refine nt ?_
   refine wp_seq ?_
   refine c_if (p := ((k : Nat) : Int) < ((q : Nat) : Int)) eb (fun hc9 => ?_) (fun hc9 => ?_)
   ·skip
    refine wp_skip ?_
    refine then_n ?_
    refine wp_seq ?_
    refine wp_block ?_
    refine sr ?_
    refine w_mv (ei s1_28) ?_
    refine w_as ei ?_
    refine nt ?_
    refine wp_region_lit ?_
    refine w_mv (el s1_6) ?_
    refine w_mv (ei s1_1) ?_
    refine w_val (y_bin ei Ev.c (b_sub (by omega))) ?_
    refine w_mv ei ?_
    refine w_val (y_bin ei ei (b_sub (by omega))) ?_
    refine w_mv (e6 s1_0) ?_
    refine w_mv ei ?_
    refine w_val (y_bin Ev.c ei (b_mul (by omega))) ?_
    refine w_val (y_bin e6 ei (shr64 (c := (8 * k)) (by omega))) ?_
    refine w_val (y_u64_u8 e6 OctWT.so129 Try.underlying5) ?_
    refine w_val (y_is1z (i := ((q - 1) - k)) el ei Try.underlying54 OctWT.sz5 (by omega) (by omega)) ?_
    refine w_st (v := U8 ((n >>> (8 * k)).setWidth 8)) (ex (pt b_26 ((q - 1) - k))) e8 rfl rfl OctWT.sz5 r_b_26 (by omega) ?_
    clear r_b_26; intro w10 r_b_26 hg11 _
    replace hk := thenG hk hg11 (by omega)
    refine wpList_nil ?_
    refine inb_n ?_
    refine then_n ?_
    refine wp_region_lit ?_
    refine w_val (y_bin (ei s1_28) Ev.c (b_add (by omega))) ?_
    refine w_mv ei ?_
    refine wpList_nil ?_
    exact then_n ⟨_, (by omega), k + 1, rfl, _, rfl, iv, s1_0, s1_1, s1_4, s1_5, s1_6, s1_27, (etv (b := .int .i64 (((k : Nat) : Int) + 1)) rfl), (r_b_26.congr (fun j hj => by (try dsimp only); by_cases e : j = q - 1 - k; (rw [if_pos e, if_pos (by omega), Oct.gb_be n q j (by omega), show q - 1 - j = k from by omega]); (rw [if_neg e]; by_cases e2 : q ≤ j + k; (rw [if_pos e2, if_pos (by omega)]); (rw [if_neg e2, if_neg (by omega)])))), hk⟩
   ·skip
    refine wp_exit ?_
    refine then_x ?_
    replace r_b_26 := r_b_26.congr (g := fun j => U8 (gb (Oct.be n q) j)) (fun j hj => by (try dsimp only); rw [if_pos (by omega)])
    refine then_x ?_
    refine inb_x ?_
    refine then_n ?_
    refine sr ?_
    refine w_mv (el s1_6) ?_
    refine w_val (y_str (l := Oct.be n q) el (by first | rfl | assumption | (simp; omega) | omega) Try.underlying54 Try.underlying5 Try.underlying9 (fun j hj => by rw [Nat.zero_add]; exact (r_b_26.cell (by omega)))) ?_
    refine w_as es ?_
    refine w_as Ev.c ?_
    refine nt ?_
    refine wp_ret ?_
    refine fin_ret2 rfl es ei ?_
    exact ⟨rfl, hk⟩
 ·skip
  with_reducible refine w_skip ?_ ?_
  exact wn rfl rfl (eb (df hc3))
  with_reducible refine w_skip ?_ ?_
  exact wn rfl rfl (eb (df hc3))
  with_reducible refine w_skip ?_ ?_
  exact wn rfl rfl (eb (df hc3))
  with_reducible refine w_skip ?_ ?_
  exact wn rfl rfl (eb (df hc3))
  with_reducible refine w_skip ?_ ?_
  exact wn rfl rfl (eb (df hc3))
  refine w_val_g (wy rfl rfl (eb (df hc2))) (y_pick_f (eb (df hc3)) Ev.c) ?_
  refine w_val (y_pick_f (eb (df hc2)) eb) ?_
  refine nt ?_
  refine c_ff eb ?_
  refine wp_skip ?_
  refine then_n ?_
  refine sr ?_
  refine w_mv ei ?_
  refine w_mks (m := q) (bytes := 1) (zv := U8 (0#8)) ei ei (by omega) (by omega) Try.underlying54 (by kernel_rfl) rfl (by omega) (by omega) ?_
  intro b_26 w12 hbe_b_26 r_b_26 hb13
  have ge_b_26 : w0.heap.size ≤ b_26 := by have := hk.size; omega
  clear hbe_b_26
  replace hk := thenB hk hb13
  refine w_as el ?_
  refine nt ?_
  refine wp_seq ?_
  refine sr ?_
  refine w_mv ei ?_
  refine w_mv Ev.c ?_
  refine nt ?_
  refine wp_block ?_
  refine c_loop (fun dN aN wl => ∃ (k : Nat), dN = (q - k) ∧ ∃ f14, aN = fr 45 f14 ∧ (k ≤ q) ∧ f14 0 = U64 n ∧ f14 1 = .int .i64 ((q : Nat) : Int) ∧ f14 4 = .string (str ([] : List (BitVec 8))) ∧ f14 5 = .int .i64 0 ∧ f14 6 = .slice (some ⟨b_26, 0, none⟩) q q ∧ f14 27 = .int .i64 ((q : Nat) : Int) ∧ f14 28 = .int .i64 ((k : Nat) : Int) ∧ Row wl b_26 5 q (fun j => if q ≤ j + k then (fun j => U8 (gb (Oct.be n q) j)) j else (fun j => U8 (0#8)) j) ∧ Below w0.heap.size w0 wl) (q - 0) ?_ ?_
  · exact ⟨0, rfl, _, rfl, iv, rfl, rfl, rfl, rfl, rfl, rfl, (etv (b := .int .i64 0) rfl), (r_b_26.cg), hk⟩
  ·skip
   clear r_b_26 hk
   rintro _ _ w15 ⟨k, rfl, f14, rfl, i1_0, s1_0, s1_1, s1_4, s1_5, s1_6, s1_27, s1_28, r_b_26, hk⟩
   refine sr ?_
   refine w_val (y_bin (ei s1_28) (ei s1_27) b_lss) ?_
   refine nt ?_
   refine wp_seq ?_
   refine c_if (p := ((k : Nat) : Int) < ((q : Nat) : Int)) eb (fun hc16 => ?_) (fun hc16 => ?_)
   ·skip
    refine wp_skip ?_
    refine then_n ?_
    refine wp_seq ?_
    refine wp_block ?_
    refine sr ?_
    refine w_mv (ei s1_28) ?_
    refine w_as ei ?_
    refine nt ?_
    refine wp_region_lit ?_
    refine w_mv (el s1_6) ?_
    refine w_mv (ei s1_1) ?_
    refine w_val (y_bin ei Ev.c (b_sub (by omega))) ?_
    refine w_mv ei ?_
    refine w_val (y_bin ei ei (b_sub (by omega))) ?_
    refine w_mv (e6 s1_0) ?_
    refine w_mv ei ?_
    refine w_val (y_bin Ev.c ei (b_mul (by omega))) ?_
    refine w_val (y_bin e6 ei (shr64 (c := (8 * k)) (by omega))) ?_
    refine w_val (y_u64_u8 e6 OctWT.so129 Try.underlying5) ?_
    refine w_val (y_is1z (i := ((q - 1) - k)) el ei Try.underlying54 OctWT.sz5 (by omega) (by omega)) ?_
    refine w_st (v := U8 ((n >>> (8 * k)).setWidth 8)) (ex (pt b_26 ((q - 1) - k))) e8 rfl rfl OctWT.sz5 r_b_26 (by omega) ?_
    clear r_b_26; intro w17 r_b_26 hg18 _
    replace hk := thenG hk hg18 (by omega)
    refine wpList_nil ?_
    refine inb_n ?_
    refine then_n ?_
    refine wp_region_lit ?_
    refine w_val (y_bin (ei s1_28) Ev.c (b_add (by omega))) ?_
    refine w_mv ei ?_
    refine wpList_nil ?_
    exact then_n ⟨_, (by omega), k + 1, rfl, _, rfl, iv, s1_0, s1_1, s1_4, s1_5, s1_6, s1_27, (etv (b := .int .i64 (((k : Nat) : Int) + 1)) rfl), (r_b_26.congr (fun j hj => by (try dsimp only); by_cases e : j = q - 1 - k; (rw [if_pos e, if_pos (by omega), Oct.gb_be n q j (by omega), show q - 1 - j = k from by omega]); (rw [if_neg e]; by_cases e2 : q ≤ j + k; (rw [if_pos e2, if_pos (by omega)]); (rw [if_neg e2, if_neg (by omega)])))), hk⟩
   ·skip
    refine wp_exit ?_
    refine then_x ?_
    replace r_b_26 := r_b_26.congr (g := fun j => U8 (gb (Oct.be n q) j)) (fun j hj => by (try dsimp only); rw [if_pos (by omega)])
    refine then_x ?_
    refine inb_x ?_
    refine then_n ?_
    refine sr ?_
    refine w_mv (el s1_6) ?_
    refine w_val (y_str (l := Oct.be n q) el (by first | rfl | assumption | (simp; omega) | omega) Try.underlying54 Try.underlying5 Try.underlying9 (fun j hj => by rw [Nat.zero_add]; exact (r_b_26.cell (by omega)))) ?_
    refine w_as es ?_
    refine w_as Ev.c ?_
    refine nt ?_
    refine wp_ret ?_
    refine fin_ret2 rfl es ei ?_
    exact ⟨rfl, hk⟩

theorem add_c (s : List (BitVec 8)) (n : BitVec 64) (hs : s.length ≤ 140737488351232) (w0 : World) : Calls Try.prog 113 #[.string (str s), U64 n] w0 fun e w' => e = .returned (.string (str (Oct.add s n.toNat))) ∧ Below w0.heap.size w0 w' := by
 have hla := Oct.length_add s n.toNat
 refine enter (n := 52) Try.func113 rfl rfl rfl ?_
 have hk : Below w0.heap.size w0 w0 := Below.refl _ _
 refine sr ?_
 refine w_as (evc (.string (str ([] : List (BitVec 8))))) ?_
 refine nt ?_
 refine sr ?_
 refine w_mv es ?_
 refine w_bytes es Try.underlying9 Try.underlying54 Try.underlying5 ?_
 intro b_8 cap_b_8 w1 hbe_b_8 hc_b_8 r_b_8 hb2
 have ge_b_8 : w0.heap.size ≤ b_8 := by have := hk.size; omega
 clear hbe_b_8
 replace hk := thenB hk hb2
 refine w_as el ?_
 refine nt ?_
 refine wp_seq ?_
 refine sr ?_
 refine w_mv el ?_
 refine w_val (v := .int .i64 ((s.length : Nat) : Int)) (y_len_sl el Try.underlying54) ?_
 refine w_val (y_bin ei Ev.c (b_sub (by omega))) ?_
 refine w_as ei ?_
 refine nt ?_
 refine wp_block ?_
 refine c_loop (fun dN aN wl => ∃ (k : Nat), dN = (s.length - k) ∧ ∃ f3, aN = fr 52 f3 ∧ (k ≤ s.length) ∧ f3 0 = .string (str s) ∧ f3 1 = U64 (BitVec.ofNat 64 (Oct.cy s n.toNat k)) ∧ f3 4 = .string (str ([] : List (BitVec 8))) ∧ f3 5 = .slice (some ⟨b_8, 0, none⟩) s.length cap_b_8 ∧ f3 6 = .int .i64 (((s.length : Nat) : Int) - 1 - ((k : Nat) : Int)) ∧ Row wl b_8 5 s.length (fun j => if s.length ≤ j + k then (fun j => U8 (gb (Oct.add s n.toNat) j)) j else (fun j => U8 (gb s j)) j) ∧ Below w0.heap.size w0 wl) (s.length - 0) ?_ ?_
 · exact ⟨0, rfl, _, rfl, iv, rfl, (Eq.trans (b := U64 n) rfl (by exact congrArg U64 (by show n = BitVec.ofNat 64 n.toNat; simp))), rfl, rfl, (Eq.trans (b := .int .i64 (((s.length : Nat) : Int) - 1)) rfl (by congr 1; omega)), (r_b_8.cg), hk⟩
 ·skip
  clear r_b_8 hk
  rintro _ _ w4 ⟨k, rfl, f3, rfl, i1_0, s1_0, s1_1, s1_4, s1_5, s1_6, r_b_8, hk⟩
  have hcl := Oct.cy_lt s n k
  refine wp_seq ?_
  refine sr ?_
  refine w_mv (ei s1_6) ?_
  refine w_val (y_bin ei Ev.c b_geq) ?_
  refine w_mv eb ?_
  by_cases hc5 : 0 ≤ (((s.length : Nat) : Int) - 1 - ((k : Nat) : Int))
  ·skip
   refine w_val_g (v := U64 (BitVec.ofNat 64 (Oct.cy s n.toNat k))) (wy rfl rfl (eb (dt hc5))) (y_mv (e6 s1_1)) ?_
   refine w_val_g (wy rfl rfl (eb (dt hc5))) (y_bin e6 (evc (U64 (0#64))) gtr64) ?_
   refine w_val (y_pick_t (eb (dt hc5)) eb) ?_
   refine nt ?_
   refine c_if (p := (0#64).toNat < (BitVec.ofNat 64 (Oct.cy s n.toNat k)).toNat) eb (fun hc6 => ?_) (fun hc6 => ?_)
   ·skip
    refine wp_skip ?_
    refine then_n ?_
    refine wp_seq ?_
    refine wp_block ?_
    refine sr ?_
    refine w_mv (e6 s1_1) ?_
    refine w_mv (el s1_5) ?_
    refine w_mv (ei s1_6) ?_
    refine w_val (y_is1z (i := (s.length - 1 - k)) el ei Try.underlying54 OctWT.sz5 (by omega) (by omega)) ?_
    refine w_val (v := U8 (gb s (s.length - 1 - k))) (y_ld (ex (pt b_8 (s.length - 1 - k))) OctWT.sc5 (r_b_8.val (by omega) ((if_neg (by omega)).trans rfl))) ?_
    refine w_val (y_u8_u64 e8 OctWT.so5 Try.underlying129) ?_
    refine w_val (y_bin e6 (evc (U64 (255#64))) and64) ?_
    refine w_val (y_bin e6 e6 add64) ?_
    refine w_as e6 ?_
    refine nt ?_
    refine wp_seq ?_
    refine sr ?_
    refine w_mv e6 ?_
    refine w_mv (el s1_5) ?_
    refine w_mv (ei s1_6) ?_
    refine w_val (y_is1z (i := (s.length - 1 - k)) el ei Try.underlying54 OctWT.sz5 (by omega) (by omega)) ?_
    refine w_val (v := U8 (gb s (s.length - 1 - k))) (y_ld (ex (pt b_8 (s.length - 1 - k))) OctWT.sc5 (r_b_8.val (by omega) ((if_neg (by omega)).trans rfl))) ?_
    refine w_val (y_u8_u64 e8 OctWT.so5 Try.underlying129) ?_
    refine w_val (y_bin e6 e6 lss64) ?_
    refine nt ?_
    refine c_if (p := ((BitVec.ofNat 64 (Oct.cy s n.toNat k)) + (((gb s (s.length - 1 - k)).setWidth 64) &&& (255#64))).toNat < ((gb s (s.length - 1 - k)).setWidth 64).toNat) eb (fun hc7 => ?_) (fun hc7 => ?_)
    ·skip
     refine sr ?_
     refine w_mv (el s1_5) ?_
     refine w_mv (ei s1_6) ?_
     refine w_mv e6 ?_
     refine w_val (y_u64_u8 e6 OctWT.so129 Try.underlying5) ?_
     refine w_val (y_is1z (i := (s.length - 1 - k)) el ei Try.underlying54 OctWT.sz5 (by omega) (by omega)) ?_
     refine w_st (v := U8 (((BitVec.ofNat 64 (Oct.cy s n.toNat k)) + (((gb s (s.length - 1 - k)).setWidth 64) &&& (255#64))).setWidth 8)) (ex (pt b_8 (s.length - 1 - k))) e8 rfl rfl OctWT.sz5 r_b_8 (by omega) ?_
     clear r_b_8; intro w8 r_b_8 hg9 _
     replace hk := thenG hk hg9 (by omega)
     refine nt ?_
     refine sr ?_
     refine w_mv e6 ?_
     refine w_val (y_bin e6 (evc (.int .u64 8)) (shr64 (c := 8) rfl)) ?_
     refine w_val (y_bin e6 (evc (U64 (72057594037927936#64))) or64) ?_
     refine w_as e6 ?_
     refine nt ?_
     refine wp_exit ?_
     refine then_x ?_
     refine inb_x ?_
     refine then_n ?_
     refine wp_region_lit ?_
     refine w_mv (ei s1_6) ?_
     refine w_val (y_bin ei Ev.c (b_sub (by omega))) ?_
     refine w_as ei ?_
     refine wpList_nil ?_
     exact then_n ⟨_, (by omega), k + 1, rfl, _, rfl, iv, s1_0, (Eq.trans (b := U64 ((((BitVec.ofNat 64 (Oct.cy s n.toNat k)) + (((gb s (s.length - 1 - k)).setWidth 64) &&& (255#64))) >>> 8) ||| (72057594037927936#64))) rfl (by exact congrArg U64 (by first | exact Oct.ad_over _ _ hcl (by assumption) | exact Oct.ad_no _ _ hcl (by assumption)))), s1_4, s1_5, (etv (b := .int .i64 ((((s.length : Nat) : Int) - 1 - ((k : Nat) : Int)) - 1)) rfl), (r_b_8.congr (fun j hj => by (try dsimp only); by_cases e : j = s.length - 1 - k; (rw [if_pos e, if_pos (by omega), Oct.gb_add s _ j (by omega), show s.length - 1 - j = k from by omega, e]; exact congrArg U8 (Oct.ad_lo _ _)); (rw [if_neg e]; by_cases e2 : s.length ≤ j + k; (rw [if_pos e2, if_pos (by omega)]); (rw [if_neg e2, if_neg (by omega)])))), hk⟩
    ·skip
     refine wp_skip ?_
     refine then_n ?_
     refine sr ?_
     refine w_mv (el s1_5) ?_
     refine w_mv (ei s1_6) ?_
     refine w_mv e6 ?_
     refine w_val (y_u64_u8 e6 OctWT.so129 Try.underlying5) ?_
     refine w_val (y_is1z (i := (s.length - 1 - k)) el ei Try.underlying54 OctWT.sz5 (by omega) (by omega)) ?_
     refine w_st (v := U8 (((BitVec.ofNat 64 (Oct.cy s n.toNat k)) + (((gb s (s.length - 1 - k)).setWidth 64) &&& (255#64))).setWidth 8)) (ex (pt b_8 (s.length - 1 - k))) e8 rfl rfl OctWT.sz5 r_b_8 (by omega) ?_
     clear r_b_8; intro w10 r_b_8 hg11 _
     replace hk := thenG hk hg11 (by omega)
     refine nt ?_
     refine wp_region_lit ?_
     refine w_mv e6 ?_
     refine w_val (y_bin e6 (evc (.int .u64 8)) (shr64 (c := 8) rfl)) ?_
     refine w_as e6 ?_
     refine wpList_nil ?_
     refine inb_n ?_
     refine then_n ?_
     refine wp_region_lit ?_
     refine w_mv (ei s1_6) ?_
     refine w_val (y_bin ei Ev.c (b_sub (by omega))) ?_
     refine w_as ei ?_
     refine wpList_nil ?_
     exact then_n ⟨_, (by omega), k + 1, rfl, _, rfl, iv, s1_0, (Eq.trans (b := U64 (((BitVec.ofNat 64 (Oct.cy s n.toNat k)) + (((gb s (s.length - 1 - k)).setWidth 64) &&& (255#64))) >>> 8)) rfl (by exact congrArg U64 (by first | exact Oct.ad_over _ _ hcl (by assumption) | exact Oct.ad_no _ _ hcl (by assumption)))), s1_4, s1_5, (etv (b := .int .i64 ((((s.length : Nat) : Int) - 1 - ((k : Nat) : Int)) - 1)) rfl), (r_b_8.congr (fun j hj => by (try dsimp only); by_cases e : j = s.length - 1 - k; (rw [if_pos e, if_pos (by omega), Oct.gb_add s _ j (by omega), show s.length - 1 - j = k from by omega, e]; exact congrArg U8 (Oct.ad_lo _ _)); (rw [if_neg e]; by_cases e2 : s.length ≤ j + k; (rw [if_pos e2, if_pos (by omega)]); (rw [if_neg e2, if_neg (by omega)])))), hk⟩
   ·skip
    refine wp_exit ?_
    refine then_x ?_
    replace r_b_8 := r_b_8.congr (g := fun j => U8 (gb (Oct.add s n.toNat) j)) (fun j hj => by (try dsimp only); by_cases e2 : s.length ≤ j + k; (rw [if_pos e2]); (rw [if_neg e2]; first | (exfalso; omega) | exact congrArg U8 (Oct.add_rest s n k j (by omega) (by assumption))))
    refine then_x ?_
    refine inb_x ?_
    refine then_n ?_
    refine sr ?_
    refine w_mv (el s1_5) ?_
    refine w_val (y_str (l := Oct.add s n.toNat) el (by first | rfl | assumption | (simp; omega) | omega) Try.underlying54 Try.underlying5 Try.underlying9 (fun j hj => by rw [Nat.zero_add]; exact (r_b_8.cell (by omega)))) ?_
    refine w_as es ?_
    refine nt ?_
    refine wp_ret ?_
    refine fin_ret1 rfl es ?_
    exact ⟨rfl, hk⟩
  ·skip
   with_reducible refine w_skip ?_ ?_
   exact wn rfl rfl (eb (df hc5))
   with_reducible refine w_skip ?_ ?_
   exact wn rfl rfl (eb (df hc5))
   refine w_val (y_pick_f (eb (df hc5)) Ev.c) ?_
   refine nt ?_
   refine c_ff eb ?_
   refine wp_exit ?_
   refine then_x ?_
   replace r_b_8 := r_b_8.congr (g := fun j => U8 (gb (Oct.add s n.toNat) j)) (fun j hj => by (try dsimp only); by_cases e2 : s.length ≤ j + k; (rw [if_pos e2]); (rw [if_neg e2]; first | (exfalso; omega) | exact congrArg U8 (Oct.add_rest s n k j (by omega) (by assumption))))
   refine then_x ?_
   refine inb_x ?_
   refine then_n ?_
   refine sr ?_
   refine w_mv (el s1_5) ?_
   refine w_val (y_str (l := Oct.add s n.toNat) el (by first | rfl | assumption | (simp; omega) | omega) Try.underlying54 Try.underlying5 Try.underlying9 (fun j hj => by rw [Nat.zero_add]; exact (r_b_8.cell (by omega)))) ?_
   refine w_as es ?_
   refine nt ?_
   refine wp_ret ?_
   refine fin_ret1 rfl es ?_
   exact ⟨rfl, hk⟩
end Go.Proofs.Ytjdcpejcnmpiaaa
