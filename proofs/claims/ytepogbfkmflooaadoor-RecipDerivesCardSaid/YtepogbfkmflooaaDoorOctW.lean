/-
  Octets: what the program and the reference compute. Conditions as each says.
-/
import Derived.Test.YtepogbfkmflooaaDoorRows
import Derived.Test.YtepogbfkmflooaaDoorGenMore
import Derived.Test.YtepogbfkmflooaaDoorAesLeaf
import Derived.Test.YtepogbfkmflooaaDoorGenSh
import Derived.ProofKit
namespace Go.Proofs.YtepogbfkmflooaaDoor
open Go.RowKit
set_option linter.unusedSimpArgs false
set_option linter.unusedVariables false
set_option maxRecDepth 100000
set_option maxHeartbeats 1000000
namespace OctWT
theorem mixed : Tryd.prog.follows .mixedOrders = true := by kernel_rfl
theorem so3 : (Tryd.prog.underlying 3).isSome = true := by rw [Tryd.underlying3]; rfl
theorem so5 : (Tryd.prog.underlying 5).isSome = true := by rw [Tryd.underlying5]; rfl
theorem so58 : (Tryd.prog.underlying 58).isSome = true := by rw [Tryd.underlying58]; rfl
theorem sz5 : (Tryd.prog.info? 5).map (·.size) = some 1 := by kernel_rfl
end OctWT
theorem same_c (a b : List (BitVec 8)) (ha : a.length ≤ 140737488351232) (w0 : World) : Calls Tryd.prog 14 #[.string (str a), .string (str b)] w0 fun e w' => e = .returned (.bool (decide (a = b))) ∧ Below w0.heap.size w0 w' := by
 refine enter (n := 29) Tryd.func14 rfl rfl rfl ?_
 have hk : Below w0.heap.size w0 w0 := Below.refl _ _
 refine sr (w_as Ev.c (nt (wp_seq (sr (w_mv es (w_val (y_len es Tryd.underlying9) (w_mv es (w_val (y_len es Tryd.underlying9) (w_val (y_bin ei ei b_neq) (nt ?_))))))))))
 refine c_if (p := ((a.length : Nat) : Int) ≠ ((b.length : Nat) : Int)) eb (fun hc1 => ?_) (fun hc1 => ?_)
 ·skip
  refine sr (w_as Ev.c (nt (wp_ret (then_r (fin_ret1 rfl eb ?_)))))
  refine ⟨congrArg Ending.returned ?_, hk⟩
  show (.bool false : Value) = .bool (decide (a = b))
  first | exact congrArg Value.bool (decide_eq_false (fun h => by subst h; omega)).symm | exact congrArg Value.bool (decide_eq_decide.2 (by rw [show k = a.length from by omega]; exact Oct.unl_eq a b om))
 ·skip
  refine wp_skip (then_n (sr (w_as (evc (U8 (0#8))) (nt (wp_seq (sr (w_mv es (w_val (y_len es Tryd.underlying9) (w_mv Ev.c (nt (wp_block ?_)))))))))))
  refine c_loop (fun dN aN wl => ∃ (k : Nat), dN = (a.length - k) ∧ ∃ f2, aN = fr 29 f2 ∧ (k ≤ a.length) ∧ f2 0 = .string (str a) ∧ f2 1 = .string (str b) ∧ f2 4 = .bool false ∧ f2 5 = U8 (Oct.unl a b k) ∧ f2 13 = .int .i64 ((a.length : Nat) : Int) ∧ f2 14 = .int .i64 ((k : Nat) : Int) ∧ Below w0.heap.size w0 wl) (a.length - 0) ?_ ?_
  · exact ⟨0, rfl, _, rfl, iv, rfl, rfl, rfl, t8, rfl, ti, hk⟩
  ·skip
   clear hk
   rintro _ _ w3 ⟨k, rfl, f2, rfl, i1_0, s1_0, s1_1, s1_4, s1_5, s1_13, s1_14, hk⟩
   refine sr (w_val (y_bin (ei s1_14) (ei s1_13) b_lss) (nt (wp_seq ?_)))
   refine c_if (p := ((k : Nat) : Int) < ((a.length : Nat) : Int)) eb (fun hc4 => ?_) (fun hc4 => ?_)
   ·skip
    refine wp_skip (then_n (wp_seq (wp_block (sr (w_mv (ei s1_14) (w_as ei (nt (region_q OctWT.mixed kr (q_mv (e8 s1_5) (q_mv (es s1_0) (q_mv ei (q_val (v := U8 (gb a k)) (fun w' hw' => y_idx (ex (.string (str a))) ei Tryd.underlying9 om om) (q_mv (es s1_1) (q_mv ei (q_val (v := U8 (gb b k)) (fun w' hw' => y_idx (ex (.string (str b))) ei Tryd.underlying9 om om) (q_val (fun w' hw' => y_bin e8 e8 xor8) (q_val (fun w' hw' => y_bin e8 e8 or8) (q_as e8 (q_nil ?_)))))))))))))))))))
    intro w5 hb6
    replace hk := thenB hk hb6
    refine inb_n (then_n (wp_region_lit (w_val (y_bin (ei s1_14) Ev.c (b_add om)) (w_mv ei (wpList_nil ?_)))))
    exact then_n ⟨_, om, k + 1, rfl, _, rfl, iv, s1_0, s1_1, s1_4, t8, s1_13, ti, hk⟩
   ·skip
    refine wp_exit (then_x (then_x (inb_x (then_n (sr (w_mv (e8 s1_5) (w_val (y_bin e8 (evc (U8 (0#8))) eql8) (w_as eb (nt (wp_ret (fin_ret1 rfl eb ?_)))))))))))
    refine ⟨congrArg Ending.returned ?_, hk⟩
    show (.bool (decide ((Oct.unl a b k) = (0#8))) : Value) = .bool (decide (a = b))
    first | exact congrArg Value.bool (decide_eq_false (fun h => by subst h; omega)).symm | exact congrArg Value.bool (decide_eq_decide.2 (by rw [show k = a.length from by omega]; exact Oct.unl_eq a b om))

theorem xor_c (a b : List (BitVec 8)) (ha : a.length ≤ 140737488351232) (w0 : World) : Calls Tryd.prog 36 #[.string (str a), .string (str b)] w0 fun e w' => e = .returned (.string (str (Oct.xor a b))) ∧ Below w0.heap.size w0 w' := by
 have hlx := Oct.length_xor a b
 refine enter (n := 31) Tryd.func36 rfl rfl rfl ?_
 have hk : Below w0.heap.size w0 w0 := Below.refl _ _
 refine sr (w_as (evc (.string (str ([] : List (BitVec 8))))) (nt (sr (w_mv es (w_val (y_len es Tryd.underlying9) (w_mv es (w_val (y_len es Tryd.underlying9) (w_val (v := .int .i64 (min ((a.length : Nat) : Int) ((b.length : Nat) : Int))) (y_min ei ei) (w_mks (m := (min a.length b.length)) (bytes := 1) (zv := U8 (0#8)) ei ei om om Tryd.underlying63 kr rfl om om ?_)))))))))
 intro b_12 w1 hbe_b_12 r_b_12 hb2
 have ge_b_12 := gb_ hk.size hbe_b_12
 clear hbe_b_12
 replace hk := thenB hk hb2
 refine w_as el (nt (wp_seq (sr (w_mv el (w_val (v := .int .i64 (((min a.length b.length) : Nat) : Int)) (y_len_sl el Tryd.underlying63) (w_mv Ev.c (nt (wp_block ?_))))))))
 refine c_loop (fun dN aN wl => ∃ (k : Nat), dN = (min a.length b.length - k) ∧ ∃ f3, aN = fr 31 f3 ∧ (k ≤ min a.length b.length) ∧ f3 0 = .string (str a) ∧ f3 1 = .string (str b) ∧ f3 4 = .string (str ([] : List (BitVec 8))) ∧ f3 5 = .slice (some ⟨b_12, 0, none⟩) (min a.length b.length) (min a.length b.length) ∧ f3 14 = .int .i64 (((min a.length b.length) : Nat) : Int) ∧ f3 15 = .int .i64 ((k : Nat) : Int) ∧ Row wl b_12 5 (min a.length b.length) (fun j => if j < k then (fun j => U8 (gb a j ^^^ gb b j)) j else (fun j => U8 (0#8)) j) ∧ Below w0.heap.size w0 wl) (min a.length b.length - 0) ?_ ?_
 · exact ⟨0, rfl, _, rfl, iv, rfl, rfl, rfl, rfl, rfl, ti, (r_b_12.cg), hk⟩
 ·skip
  clear r_b_12 hk
  rintro _ _ w4 ⟨k, rfl, f3, rfl, i1_0, s1_0, s1_1, s1_4, s1_5, s1_14, s1_15, r_b_12, hk⟩
  refine sr (w_val (y_bin (ei s1_15) (ei s1_14) b_lss) (nt (wp_seq ?_)))
  refine c_if (p := ((k : Nat) : Int) < (((min a.length b.length) : Nat) : Int)) eb (fun hc5 => ?_) (fun hc5 => ?_)
  ·skip
   refine wp_skip (then_n (wp_seq (wp_block (sr (w_mv (ei s1_15) (w_as ei (nt (region_t 10 OctWT.mixed kr ?_))))))))
   simp only [List.take_succ_cons, List.take_zero, List.drop_succ_cons, List.drop_zero]
   refine q_mv (el s1_5) (q_mv ei (q_mv (es s1_0) (q_mv ei (q_val (v := U8 (gb a k)) (fun w' hw' => y_idx (ex (.string (str a))) ei Tryd.underlying9 om om) (q_mv (es s1_1) (q_mv ei (q_val (v := U8 (gb b k)) (fun w' hw' => y_idx (ex (.string (str b))) ei Tryd.underlying9 om om) (q_val (fun w' hw' => y_bin e8 e8 xor8) (q_val (fun w' hw' => y_is1z (i := k) el ei Tryd.underlying63 OctWT.sz5 om om) (q_nil ?_))))))))))
   intro w6 hb7
   replace r_b_12 := r_b_12.step hb7
   replace hk := thenB hk hb7
   refine w_st (v := U8 ((gb a k) ^^^ (gb b k))) (ex (pt b_12 k)) e8 rfl rfl OctWT.sz5 r_b_12 om ?_
   clear r_b_12; intro w8 r_b_12 hg9 _
   replace hk := thenG hk hg9 om
   refine wpList_nil (inb_n (then_n (wp_region_lit (w_val (y_bin (ei s1_15) Ev.c (b_add om)) (w_mv ei (wpList_nil ?_))))))
   exact then_n ⟨_, om, k + 1, rfl, _, rfl, iv, s1_0, s1_1, s1_4, s1_5, s1_14, ti, (r_b_12.cg), hk⟩
  ·skip
   refine wp_exit (then_x ?_)
   replace r_b_12 := r_b_12.congr (g := fun j => U8 (gb (Oct.xor a b) j)) (fun j hj => by (try dsimp only); rw [if_pos om, Oct.gb_xor a b j om])
   refine then_x (inb_x (then_n (sr (w_mv (el s1_5) (w_val (y_str (l := Oct.xor a b) el (by first | rfl | assumption | (simp; omega) | omega) Tryd.underlying63 Tryd.underlying5 Tryd.underlying9 (fun j hj => by rw [Nat.zero_add]; exact (r_b_12.cell om))) (w_as es (nt (wp_ret (fin_ret1 rfl es ?_)))))))))
   exact ⟨rfl, hk⟩

theorem refXor_c (a b : List (BitVec 8)) (ha : a.length ≤ 140737488351232) (w0 : World) : Calls Tryd.prog 43 #[.string (str a), .string (str b)] w0 fun e w' => e = .returned (.string (str (Oct.xor a b))) ∧ Below w0.heap.size w0 w' := by
 have hlx := Oct.length_xor a b
 refine enter (n := 31) Tryd.func43 rfl rfl rfl ?_
 have hk : Below w0.heap.size w0 w0 := Below.refl _ _
 refine sr (w_as (evc (.string (str ([] : List (BitVec 8))))) (nt (sr (w_as Ev.c (nt (wp_seq (sr (w_as Ev.c (nt (wp_block ?_))))))))))
 refine c_loop (fun dN aN wl => ∃ (k : Nat) (vo : Value), dN = (min a.length b.length - k) ∧ ∃ f1, aN = fr 31 f1 ∧ (k ≤ min a.length b.length) ∧ f1 0 = .string (str a) ∧ f1 1 = .string (str b) ∧ f1 4 = .string (str ([] : List (BitVec 8))) ∧ f1 5 = vo ∧ f1 6 = .int .i64 ((k : Nat) : Int) ∧ Own wl w0.heap.size 5 1 vo k (fun j => U8 (gb a j ^^^ gb b j)) ∧ Below w0.heap.size w0 wl) (min a.length b.length - 0) ?_ ?_
 · exact ⟨0, (.slice none 0 0), rfl, _, rfl, iv, rfl, rfl, rfl, (etv (b := .slice none 0 0) rfl), ti, Own.nil, hk⟩
 ·skip
  clear hk
  rintro _ _ w2 ⟨k, vo, rfl, f1, rfl, i1_0, s1_0, s1_1, s1_4, s1_5, s1_6, o_vo, hk⟩
  refine wp_seq (sr (w_mv (ei s1_6) (w_mv (es s1_0) (w_val (y_len es Tryd.underlying9) (w_val (y_bin ei ei b_lss) (w_mv eb ?_))))))
  by_cases hc3 : ((k : Nat) : Int) < ((a.length : Nat) : Int)
  ·skip
   refine w_val_g (v := .int .i64 ((k : Nat) : Int)) (wy rfl rfl (eb (dt hc3))) (y_mv (ei s1_6)) (w_val_g (v := .string (str b)) (wy rfl rfl (eb (dt hc3))) (y_mv (es s1_1)) (w_val_g (wy rfl rfl (eb (dt hc3))) (y_len es Tryd.underlying9) (w_val_g (wy rfl rfl (eb (dt hc3))) (y_bin ei ei b_lss) (w_val (y_pick_t (eb (dt hc3)) eb) (nt ?_)))))
   refine c_if (p := ((k : Nat) : Int) < ((b.length : Nat) : Int)) eb (fun hc4 => ?_) (fun hc4 => ?_)
   ·skip
    refine wp_skip (then_n (wp_seq (wp_block (region_dc (Nat.testBit 1536) 11 OctWT.mixed rfl ?_))))
    intro w5 hb6
    replace o_vo := o_vo.step hb6
    replace hk := thenB hk hb6
    have hS : Cls w5 w5 := Below.refl _ _
    refine dp 0 rfl (fun w' => y_mv (ex vo s1_5)) (dp 1 rfl (fun w' => y_mv (es s1_0)) (dp 2 rfl (fun w' => y_mv (ei s1_6)) (dp (v := U8 (gb a k)) 3 rfl (fun w' => y_idx (ex (.string (str a))) ei Tryd.underlying9 om om) (dp 4 rfl (fun w' => y_mv (es s1_1)) (dp 5 rfl (fun w' => y_mv (ei s1_6)) (dp (v := U8 (gb b k)) 6 rfl (fun w' => y_idx (ex (.string (str b))) ei Tryd.underlying9 om om) (dp (v := U8 ((gb a k) ^^^ (gb b k))) 7 rfl (fun w' => y_bin e8 e8 xor8) (d_one 8 kr rfl (w_bs1 (m := 1) (e := 5) (F := fun j => U8 ((gb a k) ^^^ (gb b k))) e8 (fun w => by kernel_rfl) ?_)))))))))
    intro b_27 w7 hbe_b_27 r_b_27 hb8
    have no_vo_b_27 : vo.ownBlock ≠ some b_27 := o_vo.apart om
    have ge_b_27 := gb_ hk.size hbe_b_27
    clear hbe_b_27
    replace o_vo := o_vo.step hb8
    replace hk := thenB hk hb8
    replace hS := thenB hS hb8
    refine wpList_nil ?_
    refine then_n ⟨fun _ h => thenB h (by assumption), ?_⟩
    refine d_one 9 kr rfl (w_app (k := k) (m := 1) (size := 1) (bytes := 1) (ex vo) el Tryd.underlying63 kr (by decide) o_vo hk.size r_b_27 om oca (by simp only [maxLen]; omega) om ?_)
    intro v9 w10 o_v9 hg11 hv12
    have no_v9_b_27 := no_new no_vo_b_27 r_b_27.lt hv12
    replace r_b_27 := r_b_27.stepO hg11 no_vo_b_27
    replace hk := thenO hk hg11 (fun g e => (o_vo.block_lt g e).2)
    clear o_vo
    clear hS
    refine wpList_nil ?_
    refine then_n ⟨fun hD => absurd hD (by decide), ?_⟩
    refine d_one 10 kr rfl (w_as (ex v9) (wpList_nil ?_))
    refine then_n ⟨fun hD => absurd hD (by decide), ?_⟩
    refine d_done kr (inb_n (then_n (wp_region_lit (w_mv (ei s1_6) (w_val (y_bin ei Ev.c (b_add om)) (w_as ei (wpList_nil ?_)))))))
    exact then_n ⟨_, om, k + 1, v9, rfl, _, rfl, iv, s1_0, s1_1, s1_4, rfl, ti, (own_n (o_v9.cg) om), hk⟩
   ·skip
    refine wp_exit (then_x (then_x (inb_x (then_n (sr (w_mv (ex vo s1_5) (w_val (v := .string (str (Oct.xor a b))) (y_strown (l := Oct.xor a b) (ex vo) o_vo  (by exact (by rw [Oct.length_xor]; omega)) (fun j hj => by exact (by rw [Oct.gb_xor a b j om])) Tryd.underlying63 Tryd.underlying5 Tryd.underlying9) (w_as es (nt (wp_ret (fin_ret1 rfl es ?_)))))))))))
    exact ⟨rfl, hk⟩
  ·skip
   with_reducible refine w_skip ?_ ?_
   exact wn rfl rfl (eb (df hc3))
   with_reducible refine w_skip ?_ ?_
   exact wn rfl rfl (eb (df hc3))
   with_reducible refine w_skip ?_ ?_
   exact wn rfl rfl (eb (df hc3))
   with_reducible refine w_skip ?_ ?_
   exact wn rfl rfl (eb (df hc3))
   refine w_val (y_pick_f (eb (df hc3)) Ev.c) (nt (c_ff eb (wp_exit (then_x (then_x (inb_x (then_n (sr (w_mv (ex vo s1_5) (w_val (v := .string (str (Oct.xor a b))) (y_strown (l := Oct.xor a b) (ex vo) o_vo  (by exact (by rw [Oct.length_xor]; omega)) (fun j hj => by exact (by rw [Oct.gb_xor a b j om])) Tryd.underlying63 Tryd.underlying5 Tryd.underlying9) (w_as es (nt (wp_ret (fin_ret1 rfl es ?_))))))))))))))
   exact ⟨rfl, hk⟩

theorem put_c (n : BitVec 64) (q : Nat) (hq : 1 ≤ q) (h8 : q ≤ 8) (hn : q < 8 → n >>> (8 * q) = 0#64) (w0 : World) : Calls Tryd.prog 28 #[U64 n, .int .i64 ((q : Nat) : Int)] w0 fun e w' => e = .returned (.tuple #[.string (str (Oct.be n q)), .int .i64 0]) ∧ Below w0.heap.size w0 w' := by
 have hlb := Oct.length_be n q
 refine enter (n := 45) Tryd.func28 rfl rfl rfl ?_
 have hk : Below w0.heap.size w0 w0 := Below.refl _ _
 refine sr (w_as (evc (.string (str ([] : List (BitVec 8))))) (w_as Ev.c (nt (wp_seq (sr (w_mv ei (w_val (y_bin ei Ev.c b_lss) (w_mv eb ?_))))))))
 have hc1 : ¬ (((q : Nat) : Int) < 1) := by omega
 refine w_val_g (v := .int .i64 ((q : Nat) : Int)) (wy rfl rfl (eb (df hc1))) (y_mv ei) (w_val_g (wy rfl rfl (eb (df hc1))) (y_bin ei Ev.c b_gtr) (w_val (y_pick_f (eb (df hc1)) eb) (w_mv eb ?_)))
 have hc2 : ¬ (8 < ((q : Nat) : Int)) := by omega
 refine w_val_g (v := .int .i64 ((q : Nat) : Int)) (wy rfl rfl (eb (df hc2))) (y_mv ei) (w_val_g (wy rfl rfl (eb (df hc2))) (y_bin ei Ev.c b_lss) (w_val_g (v := .bool (decide (((q : Nat) : Int) < 8))) (wy rfl rfl (eb (df hc2))) (y_mv eb) ?_))
 by_cases hc3 : ((q : Nat) : Int) < 8
 ·skip
  refine w_val_g (v := U64 n) (wy rfl rfl (eb (dt hc3))) (y_mv e6) (w_val_g (v := .int .i64 ((q : Nat) : Int)) (wy rfl rfl (eb (dt hc3))) (y_mv ei) (w_val_g (wy rfl rfl (eb (dt hc3))) (y_bin Ev.c ei (b_mul om)) (w_val_g (wy rfl rfl (eb (dt hc3))) (y_bin e6 ei (shr64 (c := (8 * q)) om)) (w_val_g (wy rfl rfl (eb (dt hc3))) (y_bin e6 (evc (U64 (0#64))) neq64) (w_val_g (wy rfl rfl (eb (df hc2))) (y_pick_t (eb (dt hc3)) eb) (w_val (y_pick_f (eb (df hc2)) eb) (nt ?_)))))))
  have hc4 : ¬ ((n >>> (8 * q)) ≠ (0#64)) := by exact fun h => h (hn om)
  refine c_f (p := (n >>> (8 * q)) ≠ (0#64)) eb hc4 (wp_skip (then_n (sr (w_mv ei (w_mks (m := q) (bytes := 1) (zv := U8 (0#8)) ei ei om om Tryd.underlying63 kr rfl om om ?_)))))
  intro b_26 w5 hbe_b_26 r_b_26 hb6
  have ge_b_26 := gb_ hk.size hbe_b_26
  clear hbe_b_26
  replace hk := thenB hk hb6
  refine w_as el (nt (wp_seq (sr (w_mv ei (w_mv Ev.c (nt (wp_block ?_)))))))
  refine c_loop (fun dN aN wl => ∃ (k : Nat), dN = (q - k) ∧ ∃ f7, aN = fr 45 f7 ∧ (k ≤ q) ∧ f7 0 = U64 n ∧ f7 1 = .int .i64 ((q : Nat) : Int) ∧ f7 4 = .string (str ([] : List (BitVec 8))) ∧ f7 5 = .int .i64 0 ∧ f7 6 = .slice (some ⟨b_26, 0, none⟩) q q ∧ f7 27 = .int .i64 ((q : Nat) : Int) ∧ f7 28 = .int .i64 ((k : Nat) : Int) ∧ Row wl b_26 5 q (fun j => if q ≤ j + k then (fun j => U8 (gb (Oct.be n q) j)) j else (fun j => U8 (0#8)) j) ∧ Below w0.heap.size w0 wl) (q - 0) ?_ ?_
  · exact ⟨0, rfl, _, rfl, iv, rfl, rfl, rfl, rfl, rfl, rfl, ti, (r_b_26.cg), hk⟩
  ·skip
   clear r_b_26 hk
   rintro _ _ w8 ⟨k, rfl, f7, rfl, i1_0, s1_0, s1_1, s1_4, s1_5, s1_6, s1_27, s1_28, r_b_26, hk⟩
   refine sr (w_val (y_bin (ei s1_28) (ei s1_27) b_lss) (nt (wp_seq ?_)))
   refine c_if (p := ((k : Nat) : Int) < ((q : Nat) : Int)) eb (fun hc9 => ?_) (fun hc9 => ?_)
   ·skip
    refine wp_skip (then_n (wp_seq (wp_block (sr (w_mv (ei s1_28) (w_as ei (nt (wp_region_lit (w_mv (el s1_6) (w_mv (ei s1_1) (w_val (y_bin ei Ev.c (b_sub om)) (w_mv ei (w_val (y_bin ei ei (b_sub om)) (w_mv (e6 s1_0) (w_mv ei (w_val (y_bin Ev.c ei (b_mul om)) (w_val (y_bin e6 ei (shr64 (c := (8 * k)) om)) (w_val (y_u64_u8 e6 OctWT.so58 Tryd.underlying5) (w_val (y_is1z (i := ((q - 1) - k)) el ei Tryd.underlying63 OctWT.sz5 om om) (w_st (v := U8 ((n >>> (8 * k)).setWidth 8)) (ex (pt b_26 ((q - 1) - k))) e8 rfl rfl OctWT.sz5 r_b_26 om ?_))))))))))))))))))))
    clear r_b_26; intro w10 r_b_26 hg11 _
    replace hk := thenG hk hg11 om
    refine wpList_nil (inb_n (then_n (wp_region_lit (w_val (y_bin (ei s1_28) Ev.c (b_add om)) (w_mv ei (wpList_nil ?_))))))
    exact then_n ⟨_, om, k + 1, rfl, _, rfl, iv, s1_0, s1_1, s1_4, s1_5, s1_6, s1_27, ti, (r_b_26.congr (fun j hj => by (try dsimp only); by_cases e : j = q - 1 - k; (rw [if_pos e, if_pos om, Oct.gb_be n q j om, show q - 1 - j = k from by omega]); (rw [if_neg e]; by_cases e2 : q ≤ j + k; (rw [if_pos e2, if_pos om]); (rw [if_neg e2, if_neg om])))), hk⟩
   ·skip
    refine wp_exit (then_x ?_)
    replace r_b_26 := r_b_26.congr (g := fun j => U8 (gb (Oct.be n q) j)) (fun j hj => by (try dsimp only); rw [if_pos om])
    refine then_x (inb_x (then_n (sr (w_mv (el s1_6) (w_val (y_str (l := Oct.be n q) el (by first | rfl | assumption | (simp; omega) | omega) Tryd.underlying63 Tryd.underlying5 Tryd.underlying9 (fun j hj => by rw [Nat.zero_add]; exact (r_b_26.cell om))) (w_as es (w_as Ev.c (nt (wp_ret (fin_ret2 rfl es ei ?_))))))))))
    exact ⟨rfl, hk⟩
 ·skip
  with_reducible refine w_skip ?_ ?_
  exact wn rfl rfl (eb (df hc3))
  with_reducible refine w_skip ?_ ?_
  exact wn rfl rfl (eb (df hc3))
  with_reducible refine w_skip ?_ ?_
  exact wn rfl rfl (eb (df hc3))
  with_reducible refine w_skip ?_ ?_
  exact wn rfl rfl (eb (df hc3))
  with_reducible refine w_skip ?_ ?_
  exact wn rfl rfl (eb (df hc3))
  refine w_val_g (wy rfl rfl (eb (df hc2))) (y_pick_f (eb (df hc3)) Ev.c) (w_val (y_pick_f (eb (df hc2)) eb) (nt (c_ff eb (wp_skip (then_n (sr (w_mv ei (w_mks (m := q) (bytes := 1) (zv := U8 (0#8)) ei ei om om Tryd.underlying63 kr rfl om om ?_))))))))
  intro b_26 w12 hbe_b_26 r_b_26 hb13
  have ge_b_26 := gb_ hk.size hbe_b_26
  clear hbe_b_26
  replace hk := thenB hk hb13
  refine w_as el (nt (wp_seq (sr (w_mv ei (w_mv Ev.c (nt (wp_block ?_)))))))
  refine c_loop (fun dN aN wl => ∃ (k : Nat), dN = (q - k) ∧ ∃ f14, aN = fr 45 f14 ∧ (k ≤ q) ∧ f14 0 = U64 n ∧ f14 1 = .int .i64 ((q : Nat) : Int) ∧ f14 4 = .string (str ([] : List (BitVec 8))) ∧ f14 5 = .int .i64 0 ∧ f14 6 = .slice (some ⟨b_26, 0, none⟩) q q ∧ f14 27 = .int .i64 ((q : Nat) : Int) ∧ f14 28 = .int .i64 ((k : Nat) : Int) ∧ Row wl b_26 5 q (fun j => if q ≤ j + k then (fun j => U8 (gb (Oct.be n q) j)) j else (fun j => U8 (0#8)) j) ∧ Below w0.heap.size w0 wl) (q - 0) ?_ ?_
  · exact ⟨0, rfl, _, rfl, iv, rfl, rfl, rfl, rfl, rfl, rfl, ti, (r_b_26.cg), hk⟩
  ·skip
   clear r_b_26 hk
   rintro _ _ w15 ⟨k, rfl, f14, rfl, i1_0, s1_0, s1_1, s1_4, s1_5, s1_6, s1_27, s1_28, r_b_26, hk⟩
   refine sr (w_val (y_bin (ei s1_28) (ei s1_27) b_lss) (nt (wp_seq ?_)))
   refine c_if (p := ((k : Nat) : Int) < ((q : Nat) : Int)) eb (fun hc16 => ?_) (fun hc16 => ?_)
   ·skip
    refine wp_skip (then_n (wp_seq (wp_block (sr (w_mv (ei s1_28) (w_as ei (nt (wp_region_lit (w_mv (el s1_6) (w_mv (ei s1_1) (w_val (y_bin ei Ev.c (b_sub om)) (w_mv ei (w_val (y_bin ei ei (b_sub om)) (w_mv (e6 s1_0) (w_mv ei (w_val (y_bin Ev.c ei (b_mul om)) (w_val (y_bin e6 ei (shr64 (c := (8 * k)) om)) (w_val (y_u64_u8 e6 OctWT.so58 Tryd.underlying5) (w_val (y_is1z (i := ((q - 1) - k)) el ei Tryd.underlying63 OctWT.sz5 om om) (w_st (v := U8 ((n >>> (8 * k)).setWidth 8)) (ex (pt b_26 ((q - 1) - k))) e8 rfl rfl OctWT.sz5 r_b_26 om ?_))))))))))))))))))))
    clear r_b_26; intro w17 r_b_26 hg18 _
    replace hk := thenG hk hg18 om
    refine wpList_nil (inb_n (then_n (wp_region_lit (w_val (y_bin (ei s1_28) Ev.c (b_add om)) (w_mv ei (wpList_nil ?_))))))
    exact then_n ⟨_, om, k + 1, rfl, _, rfl, iv, s1_0, s1_1, s1_4, s1_5, s1_6, s1_27, ti, (r_b_26.congr (fun j hj => by (try dsimp only); by_cases e : j = q - 1 - k; (rw [if_pos e, if_pos om, Oct.gb_be n q j om, show q - 1 - j = k from by omega]); (rw [if_neg e]; by_cases e2 : q ≤ j + k; (rw [if_pos e2, if_pos om]); (rw [if_neg e2, if_neg om])))), hk⟩
   ·skip
    refine wp_exit (then_x ?_)
    replace r_b_26 := r_b_26.congr (g := fun j => U8 (gb (Oct.be n q) j)) (fun j hj => by (try dsimp only); rw [if_pos om])
    refine then_x (inb_x (then_n (sr (w_mv (el s1_6) (w_val (y_str (l := Oct.be n q) el (by first | rfl | assumption | (simp; omega) | omega) Tryd.underlying63 Tryd.underlying5 Tryd.underlying9 (fun j hj => by rw [Nat.zero_add]; exact (r_b_26.cell om))) (w_as es (w_as Ev.c (nt (wp_ret (fin_ret2 rfl es ei ?_))))))))))
    exact ⟨rfl, hk⟩

theorem refGet_c (s : List (BitVec 8)) (h1 : 1 ≤ s.length) (h8 : s.length ≤ 8) (w0 : World) : Calls Tryd.prog 57 #[.string (str s)] w0 fun e w' => e = .returned (.tuple #[U64 (Oct.val s s.length), .int .i64 0]) ∧ Below w0.heap.size w0 w' := by
 refine enter (n := 28) Tryd.func57 rfl rfl rfl ?_
 have hk : Below w0.heap.size w0 w0 := Below.refl _ _
 refine sr (w_as (evc (U64 (0#64))) (w_as Ev.c (nt (wp_seq (sr (w_mv es (w_val (y_len es Tryd.underlying9) (w_val (y_bin ei Ev.c b_lss) (w_mv eb ?_)))))))))
 have hc1 : ¬ (((s.length : Nat) : Int) < 1) := by omega
 refine w_val_g (v := .string (str s)) (wy rfl rfl (eb (df hc1))) (y_mv es) (w_val_g (wy rfl rfl (eb (df hc1))) (y_len es Tryd.underlying9) (w_val_g (wy rfl rfl (eb (df hc1))) (y_bin ei Ev.c b_gtr) (w_val (y_pick_f (eb (df hc1)) eb) (nt ?_))))
 have hc2 : ¬ (8 < ((s.length : Nat) : Int)) := by omega
 refine c_f (p := 8 < ((s.length : Nat) : Int)) eb hc2 (wp_skip (then_n (sr (w_as (evc (U64 (0#64))) (nt (wp_seq (sr (w_as Ev.c (nt (wp_block ?_))))))))))
 refine c_loop (fun dN aN wl => ∃ (k : Nat), dN = (s.length - k) ∧ ∃ f3, aN = fr 28 f3 ∧ (k ≤ s.length) ∧ f3 0 = .string (str s) ∧ f3 2 = U64 (0#64) ∧ f3 3 = .int .i64 0 ∧ f3 4 = U64 (Oct.val s k) ∧ f3 5 = .int .i64 ((k : Nat) : Int) ∧ Below w0.heap.size w0 wl) (s.length - 0) ?_ ?_
 · exact ⟨0, rfl, _, rfl, iv, rfl, rfl, rfl, t6, ti, hk⟩
 ·skip
  clear hk
  rintro _ _ w4 ⟨k, rfl, f3, rfl, i1_0, s1_0, s1_2, s1_3, s1_4, s1_5, hk⟩
  refine wp_seq (sr (w_mv (ei s1_5) (w_mv (es s1_0) (w_val (y_len es Tryd.underlying9) (w_val (y_bin ei ei b_lss) (nt ?_))))))
  refine c_if (p := ((k : Nat) : Int) < ((s.length : Nat) : Int)) eb (fun hc5 => ?_) (fun hc5 => ?_)
  ·skip
   refine wp_skip (then_n (wp_seq (wp_block (wp_region_lit (w_mv (e6 s1_4) (w_val (y_bin e6 (evc (U64 (256#64))) mul64) (w_mv (es s1_0) (w_mv (ei s1_5) (w_val (v := U8 (gb s k)) (y_idx (ex (.string (str s))) ei Tryd.underlying9 om om) (w_val (y_u8_u64 e8 OctWT.so5 Tryd.underlying58) (w_val (y_bin e6 e6 add64) (w_as e6 (wpList_nil (inb_n (then_n (wp_region_lit (w_mv (ei s1_5) (w_val (y_bin ei Ev.c (b_add om)) (w_as ei (wpList_nil ?_))))))))))))))))))))
   exact then_n ⟨_, om, k + 1, rfl, _, rfl, iv, s1_0, s1_2, s1_3, t6, ti, hk⟩
  ·skip
   refine wp_exit (then_x (then_x (inb_x (then_n (sr (w_mv (e6 s1_4) (w_as e6 (w_as Ev.c (nt (wp_ret (fin_ret2 rfl e6 ei ?_)))))))))))
   refine ⟨congrArg Ending.returned ?_, hk⟩
   show (.tuple #[U64 (Oct.val s k), .int .i64 0] : Value) = .tuple #[U64 (Oct.val s s.length), .int .i64 0]
   rw [show k = s.length from by omega]

theorem refPut_c (n : BitVec 64) (q : Nat) (hq : 1 ≤ q) (h8 : q ≤ 8) (hn : n.toNat < 2 ^ (8 * q)) (w0 : World) : Calls Tryd.prog 41 #[U64 n, .int .i64 ((q : Nat) : Int)] w0 fun e w' => e = .returned (.tuple #[.string (str (Oct.be n q)), .int .i64 0]) ∧ Below w0.heap.size w0 w' := by
 have hlb := Oct.length_be n q
 have hvb := Oct.val_be_all n q hn
 refine enter (n := 44) Tryd.func41 rfl rfl rfl ?_
 have hk : Below w0.heap.size w0 w0 := Below.refl _ _
 refine sr (w_as (evc (.string (str ([] : List (BitVec 8))))) (w_as Ev.c (nt (wp_seq (sr (w_mv ei (w_val (y_bin ei Ev.c b_lss) (w_mv eb ?_))))))))
 have hc1 : ¬ (((q : Nat) : Int) < 1) := by omega
 refine w_val_g (v := .int .i64 ((q : Nat) : Int)) (wy rfl rfl (eb (df hc1))) (y_mv ei) (w_val_g (wy rfl rfl (eb (df hc1))) (y_bin ei Ev.c b_gtr) (w_val (y_pick_f (eb (df hc1)) eb) (nt ?_)))
 have hc2 : ¬ (8 < ((q : Nat) : Int)) := by omega
 refine c_f (p := 8 < ((q : Nat) : Int)) eb hc2 (wp_skip (then_n (sr (w_as Ev.c (nt (wp_seq (sr (w_as Ev.c (nt (wp_block ?_))))))))))
 refine c_loop (fun dN aN wl => ∃ (k : Nat) (vo : Value), dN = (q - k) ∧ ∃ f3, aN = fr 44 f3 ∧ (k ≤ q) ∧ f3 0 = U64 n ∧ f3 1 = .int .i64 ((q : Nat) : Int) ∧ f3 4 = .string (str ([] : List (BitVec 8))) ∧ f3 5 = .int .i64 0 ∧ f3 6 = vo ∧ f3 7 = .int .i64 ((k : Nat) : Int) ∧ Own wl w0.heap.size 5 1 vo k (fun j => U8 (gb (Oct.be n q) j)) ∧ Below w0.heap.size w0 wl) (q - 0) ?_ ?_
 · exact ⟨0, (.slice none 0 0), rfl, _, rfl, iv, rfl, rfl, rfl, rfl, (etv (b := .slice none 0 0) rfl), ti, Own.nil, hk⟩
 ·skip
  clear hk
  rintro _ _ w4 ⟨k, vo, rfl, f3, rfl, i1_0, s1_0, s1_1, s1_4, s1_5, s1_6, s1_7, o_vo, hk⟩
  refine wp_seq (sr (w_mv (ei s1_7) (w_mv (ei s1_1) (w_val (y_bin ei ei b_lss) (nt ?_)))))
  refine c_if (p := ((k : Nat) : Int) < ((q : Nat) : Int)) eb (fun hc5 => ?_) (fun hc5 => ?_)
  ·skip
   refine wp_skip (then_n (wp_seq (wp_block (wp_region_lit (w_mv (ex vo s1_6) (w_mv (e6 s1_0) (w_mv (ei s1_1) (w_val (y_bin ei Ev.c (b_sub om)) (w_mv (ei s1_7) (w_val (y_bin ei ei (b_sub om)) (w_val (y_bin Ev.c ei (b_mul om)) (w_val (y_nat_u64 (p := (8 * ((q - 1) - k))) ei om OctWT.so3 Tryd.underlying85) (w_val (y_bin e6 e6 (shr64 (c := (8 * ((q - 1) - k))) (by rw [BitVec.toNat_ofNat]; omega))) (w_val (y_u64_u8 e6 OctWT.so58 Tryd.underlying5) (w_bs1 (m := 1) (e := 5) (F := fun j => U8 ((n >>> (8 * ((q - 1) - k))).setWidth 8)) e8 (fun w => by kernel_rfl) ?_)))))))))))))))
   intro b_31 w6 hbe_b_31 r_b_31 hb7
   have no_vo_b_31 : vo.ownBlock ≠ some b_31 := o_vo.apart om
   have ge_b_31 := gb_ hk.size hbe_b_31
   clear hbe_b_31
   replace o_vo := o_vo.step hb7
   replace hk := thenB hk hb7
   refine w_app (k := k) (m := 1) (size := 1) (bytes := 1) (ex vo) el Tryd.underlying63 kr (by decide) o_vo hk.size r_b_31 om oca (by simp only [maxLen]; omega) om ?_
   intro v8 w9 o_v8 hg10 hv11
   have no_v8_b_31 := no_new no_vo_b_31 r_b_31.lt hv11
   replace r_b_31 := r_b_31.stepO hg10 no_vo_b_31
   replace hk := thenO hk hg10 (fun g e => (o_vo.block_lt g e).2)
   clear o_vo
   refine w_as (ex v8) (wpList_nil (inb_n (then_n (wp_region_lit (w_mv (ei s1_7) (w_val (y_bin ei Ev.c (b_add om)) (w_as ei (wpList_nil ?_))))))))
   exact then_n ⟨_, om, k + 1, v8, rfl, _, rfl, iv, s1_0, s1_1, s1_4, s1_5, rfl, ti, (own_n (o_v8.congr (fun j hj => by (try dsimp only); by_cases e : j < k * 1; (rw [if_pos e]); (rw [if_neg e, Oct.gb_be n q j om, show j = k from by omega]))) om), hk⟩
  ·skip
   refine wp_exit (then_x (then_x (inb_x (then_n (sr (w_mv (ex vo s1_6) (w_val (v := .string (str (Oct.be n q))) (y_strown (l := Oct.be n q) (ex vo) o_vo  (by exact (by rw [Oct.length_be]; omega)) (fun j hj => by exact rfl) Tryd.underlying63 Tryd.underlying5 Tryd.underlying9) (w_call (Tryd.func57) kr rfl (m1 es) (refGet_c (Oct.be n q) (by rw [Oct.length_be]; omega) (by rw [Oct.length_be]; omega) w4) ?_))))))))
   rintro _ w12 ⟨rfl, hb13⟩
   refine ⟨_, rfl, ?_⟩
   replace o_vo := o_vo.step hb13
   replace hk := thenB hk hb13
   refine w_mv (ex (.tuple #[U64 (Oct.val (Oct.be n q) (Oct.be n q).length), .int .i64 0])) (w_val ye (w_val ye (w_as e6 (w_as ei (nt (wp_seq (sr (w_mv e6 (w_mv (e6 s1_0) (w_val (y_bin e6 e6 neq64) (nt ?_)))))))))))
   have hc14 : ¬ ((Oct.val (Oct.be n q) (Oct.be n q).length) ≠ n) := by rw [hlb, hvb]; exact fun h => h rfl
   refine c_f (p := (Oct.val (Oct.be n q) (Oct.be n q).length) ≠ n) eb hc14 (wp_skip (then_n (sr (w_mv (ex vo s1_6) (w_val (v := .string (str (Oct.be n q))) (y_strown (l := Oct.be n q) (ex vo) o_vo  (by exact (by rw [Oct.length_be]; omega)) (fun j hj => by exact rfl) Tryd.underlying63 Tryd.underlying5 Tryd.underlying9) (w_as es (w_as Ev.c (nt (wp_ret (fin_ret2 rfl es ei ?_))))))))))
   exact ⟨rfl, hk⟩
end Go.Proofs.YtepogbfkmflooaaDoor
