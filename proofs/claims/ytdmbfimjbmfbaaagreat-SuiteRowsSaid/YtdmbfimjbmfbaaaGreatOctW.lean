/-
  Octets: what the program and the reference compute. Conditions as each says.
-/
import Derived.Test.YtdmbfimjbmfbaaaGreatRows
import Derived.Test.YtdmbfimjbmfbaaaGreatGenMore
import Derived.Test.YtdmbfimjbmfbaaaGreatOct
import Derived.Test.YtdmbfimjbmfbaaaGreatGenSh
import Derived.ProofKit
namespace Go.Proofs.YtdmbfimjbmfbaaaGreat
open Go.RowKit
set_option linter.unusedSimpArgs false
set_option linter.unusedVariables false
set_option maxRecDepth 100000
set_option maxHeartbeats 1000000
namespace OctWT
theorem mixed : Tryz.prog.follows .mixedOrders = true := by kernel_rfl
theorem sc5 : (Tryz.prog.underlying 5).map scal = some true := by rw [Tryz.underlying5]; rfl
theorem so5 : (Tryz.prog.underlying 5).isSome = true := by rw [Tryz.underlying5]; rfl
theorem so83 : (Tryz.prog.underlying 83).isSome = true := by rw [Tryz.underlying83]; rfl
theorem sz5 : (Tryz.prog.info? 5).map (·.size) = some 1 := by kernel_rfl
end OctWT
theorem same_c (a b : List (BitVec 8)) (ha : a.length ≤ 140737488351232) (w0 : World) : Calls Tryz.prog 32 #[.string (str a), .string (str b)] w0 fun e w' => e = .returned (.bool (decide (a = b))) ∧ Below w0.heap.size w0 w' := by
 refine enter (n := 29) Tryz.func32 rfl rfl rfl ?_
 have hk : Below w0.heap.size w0 w0 := Below.refl _ _
 refine sr (w_as Ev.c (nt (wp_seq (sr (w_mv es (w_val (y_len es Tryz.underlying9) (w_mv es (w_val (y_len es Tryz.underlying9) (w_val (y_bin ei ei b_neq) (nt ?_))))))))))
 refine c_if (p := ((a.length : Nat) : Int) ≠ ((b.length : Nat) : Int)) eb (fun hc1 => ?_) (fun hc1 => ?_)
 ·skip
  refine sr (w_as Ev.c (nt (wp_ret (then_r (fin_ret1 rfl eb ?_)))))
  refine ⟨congrArg Ending.returned ?_, hk⟩
  show (.bool false : Value) = .bool (decide (a = b))
  first | exact congrArg Value.bool (decide_eq_false (fun h => by subst h; omega)).symm | exact congrArg Value.bool (decide_eq_decide.2 (by rw [show k = a.length from by omega]; exact Oct.unl_eq a b om))
 ·skip
  refine wp_skip (then_n (sr (w_as (evc (U8 (0#8))) (nt (wp_seq (sr (w_mv es (w_val (y_len es Tryz.underlying9) (w_mv Ev.c (nt (wp_block ?_)))))))))))
  refine c_loop (fun dN aN wl => ∃ (k : Nat), dN = (a.length - k) ∧ ∃ f2, aN = fr 29 f2 ∧ (k ≤ a.length) ∧ f2 0 = .string (str a) ∧ f2 1 = .string (str b) ∧ f2 4 = .bool false ∧ f2 5 = U8 (Oct.unl a b k) ∧ f2 13 = .int .i64 ((a.length : Nat) : Int) ∧ f2 14 = .int .i64 ((k : Nat) : Int) ∧ Below w0.heap.size w0 wl) (a.length - 0) ?_ ?_
  · exact ⟨0, rfl, _, rfl, iv, rfl, rfl, rfl, t8, rfl, ti, hk⟩
  ·skip
   clear hk
   rintro _ _ w3 ⟨k, rfl, f2, rfl, i1_0, s1_0, s1_1, s1_4, s1_5, s1_13, s1_14, hk⟩
   refine sr (w_val (y_bin (ei s1_14) (ei s1_13) b_lss) (nt (wp_seq ?_)))
   refine c_if (p := ((k : Nat) : Int) < ((a.length : Nat) : Int)) eb (fun hc4 => ?_) (fun hc4 => ?_)
   ·skip
    refine wp_skip (then_n (wp_seq (wp_block (sr (w_mv (ei s1_14) (w_as ei (nt (region_q OctWT.mixed kr (q_mv (e8 s1_5) (q_mv (es s1_0) (q_mv ei (q_val (v := U8 (gb a k)) (fun w' hw' => y_idx (ex (.string (str a))) ei Tryz.underlying9 om om) (q_mv (es s1_1) (q_mv ei (q_val (v := U8 (gb b k)) (fun w' hw' => y_idx (ex (.string (str b))) ei Tryz.underlying9 om om) (q_val (fun w' hw' => y_bin e8 e8 xor8) (q_val (fun w' hw' => y_bin e8 e8 or8) (q_as e8 (q_nil ?_)))))))))))))))))))
    intro w5 hb6
    replace hk := thenB hk hb6
    refine inb_n (then_n (wp_region_lit (w_val (y_bin (ei s1_14) Ev.c (b_add om)) (w_mv ei (wpList_nil ?_)))))
    exact then_n ⟨_, om, k + 1, rfl, _, rfl, iv, s1_0, s1_1, s1_4, t8, s1_13, ti, hk⟩
   ·skip
    refine wp_exit (then_x (then_x (inb_x (then_n (sr (w_mv (e8 s1_5) (w_val (y_bin e8 (evc (U8 (0#8))) eql8) (w_as eb (nt (wp_ret (fin_ret1 rfl eb ?_)))))))))))
    refine ⟨congrArg Ending.returned ?_, hk⟩
    show (.bool (decide ((Oct.unl a b k) = (0#8))) : Value) = .bool (decide (a = b))
    first | exact congrArg Value.bool (decide_eq_false (fun h => by subst h; omega)).symm | exact congrArg Value.bool (decide_eq_decide.2 (by rw [show k = a.length from by omega]; exact Oct.unl_eq a b om))

theorem xor_c (a b : List (BitVec 8)) (ha : a.length ≤ 140737488351232) (w0 : World) : Calls Tryz.prog 41 #[.string (str a), .string (str b)] w0 fun e w' => e = .returned (.string (str (Oct.xor a b))) ∧ Below w0.heap.size w0 w' := by
 have hlx := Oct.length_xor a b
 refine enter (n := 31) Tryz.func41 rfl rfl rfl ?_
 have hk : Below w0.heap.size w0 w0 := Below.refl _ _
 refine sr (w_as (evc (.string (str ([] : List (BitVec 8))))) (nt (sr (w_mv es (w_val (y_len es Tryz.underlying9) (w_mv es (w_val (y_len es Tryz.underlying9) (w_val (v := .int .i64 (min ((a.length : Nat) : Int) ((b.length : Nat) : Int))) (y_min ei ei) (w_mks (m := (min a.length b.length)) (bytes := 1) (zv := U8 (0#8)) ei ei om om Tryz.underlying111 kr rfl om om ?_)))))))))
 intro b_12 w1 hbe_b_12 r_b_12 hb2
 have ge_b_12 := gb_ hk.size hbe_b_12
 clear hbe_b_12
 replace hk := thenB hk hb2
 refine w_as el (nt (wp_seq (sr (w_mv el (w_val (v := .int .i64 (((min a.length b.length) : Nat) : Int)) (y_len_sl el Tryz.underlying111) (w_mv Ev.c (nt (wp_block ?_))))))))
 refine c_loop (fun dN aN wl => ∃ (k : Nat), dN = (min a.length b.length - k) ∧ ∃ f3, aN = fr 31 f3 ∧ (k ≤ min a.length b.length) ∧ f3 0 = .string (str a) ∧ f3 1 = .string (str b) ∧ f3 4 = .string (str ([] : List (BitVec 8))) ∧ f3 5 = .slice (some ⟨b_12, 0, none⟩) (min a.length b.length) (min a.length b.length) ∧ f3 14 = .int .i64 (((min a.length b.length) : Nat) : Int) ∧ f3 15 = .int .i64 ((k : Nat) : Int) ∧ Row wl b_12 5 (min a.length b.length) (fun j => if j < k then (fun j => U8 (gb a j ^^^ gb b j)) j else (fun j => U8 (0#8)) j) ∧ Below w0.heap.size w0 wl) (min a.length b.length - 0) ?_ ?_
 · exact ⟨0, rfl, _, rfl, iv, rfl, rfl, rfl, rfl, rfl, ti, (r_b_12.cg), hk⟩
 ·skip
  clear r_b_12 hk
  rintro _ _ w4 ⟨k, rfl, f3, rfl, i1_0, s1_0, s1_1, s1_4, s1_5, s1_14, s1_15, r_b_12, hk⟩
  refine sr (w_val (y_bin (ei s1_15) (ei s1_14) b_lss) (nt (wp_seq ?_)))
  refine c_if (p := ((k : Nat) : Int) < (((min a.length b.length) : Nat) : Int)) eb (fun hc5 => ?_) (fun hc5 => ?_)
  ·skip
   refine wp_skip (then_n (wp_seq (wp_block (sr (w_mv (ei s1_15) (w_as ei (nt (region_t 10 OctWT.mixed kr ?_))))))))
   simp only [List.take_succ_cons, List.take_zero, List.drop_succ_cons, List.drop_zero]
   refine q_mv (el s1_5) (q_mv ei (q_mv (es s1_0) (q_mv ei (q_val (v := U8 (gb a k)) (fun w' hw' => y_idx (ex (.string (str a))) ei Tryz.underlying9 om om) (q_mv (es s1_1) (q_mv ei (q_val (v := U8 (gb b k)) (fun w' hw' => y_idx (ex (.string (str b))) ei Tryz.underlying9 om om) (q_val (fun w' hw' => y_bin e8 e8 xor8) (q_val (fun w' hw' => y_is1z (i := k) el ei Tryz.underlying111 OctWT.sz5 om om) (q_nil ?_))))))))))
   intro w6 hb7
   replace r_b_12 := r_b_12.step hb7
   replace hk := thenB hk hb7
   refine w_st (v := U8 ((gb a k) ^^^ (gb b k))) (ex (pt b_12 k)) e8 rfl rfl OctWT.sz5 r_b_12 om ?_
   clear r_b_12; intro w8 r_b_12 hg9 _
   replace hk := thenG hk hg9 om
   refine wpList_nil (inb_n (then_n (wp_region_lit (w_val (y_bin (ei s1_15) Ev.c (b_add om)) (w_mv ei (wpList_nil ?_))))))
   exact then_n ⟨_, om, k + 1, rfl, _, rfl, iv, s1_0, s1_1, s1_4, s1_5, s1_14, ti, (r_b_12.cg), hk⟩
  ·skip
   refine wp_exit (then_x ?_)
   replace r_b_12 := r_b_12.congr (g := fun j => U8 (gb (Oct.xor a b) j)) (fun j hj => by (try dsimp only); rw [if_pos om, Oct.gb_xor a b j om])
   refine then_x (inb_x (then_n (sr (w_mv (el s1_5) (w_val (y_str (l := Oct.xor a b) el (by first | rfl | assumption | (simp; omega) | omega) Tryz.underlying111 Tryz.underlying5 Tryz.underlying9 (fun j hj => by rw [Nat.zero_add]; exact (r_b_12.cell om))) (w_as es (nt (wp_ret (fin_ret1 rfl es ?_)))))))))
   exact ⟨rfl, hk⟩

theorem put_c (n : BitVec 64) (q : Nat) (hq : 1 ≤ q) (h8 : q ≤ 8) (hn : q < 8 → n >>> (8 * q) = 0#64) (w0 : World) : Calls Tryz.prog 61 #[U64 n, .int .i64 ((q : Nat) : Int)] w0 fun e w' => e = .returned (.tuple #[.string (str (Oct.be n q)), .int .i64 0]) ∧ Below w0.heap.size w0 w' := by
 have hlb := Oct.length_be n q
 refine enter (n := 45) Tryz.func61 rfl rfl rfl ?_
 have hk : Below w0.heap.size w0 w0 := Below.refl _ _
 refine sr (w_as (evc (.string (str ([] : List (BitVec 8))))) (w_as Ev.c (nt (wp_seq (sr (w_mv ei (w_val (y_bin ei Ev.c b_lss) (w_mv eb ?_))))))))
 have hc1 : ¬ (((q : Nat) : Int) < 1) := by omega
 refine w_val_g (v := .int .i64 ((q : Nat) : Int)) (wy rfl rfl (eb (df hc1))) (y_mv ei) (w_val_g (wy rfl rfl (eb (df hc1))) (y_bin ei Ev.c b_gtr) (w_val (y_pick_f (eb (df hc1)) eb) (w_mv eb ?_)))
 have hc2 : ¬ (8 < ((q : Nat) : Int)) := by omega
 refine w_val_g (v := .int .i64 ((q : Nat) : Int)) (wy rfl rfl (eb (df hc2))) (y_mv ei) (w_val_g (wy rfl rfl (eb (df hc2))) (y_bin ei Ev.c b_lss) (w_val_g (v := .bool (decide (((q : Nat) : Int) < 8))) (wy rfl rfl (eb (df hc2))) (y_mv eb) ?_))
 by_cases hc3 : ((q : Nat) : Int) < 8
 ·skip
  refine w_val_g (v := U64 n) (wy rfl rfl (eb (dt hc3))) (y_mv e6) (w_val_g (v := .int .i64 ((q : Nat) : Int)) (wy rfl rfl (eb (dt hc3))) (y_mv ei) (w_val_g (wy rfl rfl (eb (dt hc3))) (y_bin Ev.c ei (b_mul om)) (w_val_g (wy rfl rfl (eb (dt hc3))) (y_bin e6 ei (shr64 (c := (8 * q)) om)) (w_val_g (wy rfl rfl (eb (dt hc3))) (y_bin e6 (evc (U64 (0#64))) neq64) (w_val_g (wy rfl rfl (eb (df hc2))) (y_pick_t (eb (dt hc3)) eb) (w_val (y_pick_f (eb (df hc2)) eb) (nt ?_)))))))
  have hc4 : ¬ ((n >>> (8 * q)) ≠ (0#64)) := by exact fun h => h (hn om)
  refine c_f (p := (n >>> (8 * q)) ≠ (0#64)) eb hc4 (wp_skip (then_n (sr (w_mv ei (w_mks (m := q) (bytes := 1) (zv := U8 (0#8)) ei ei om om Tryz.underlying111 kr rfl om om ?_)))))
  intro b_26 w5 hbe_b_26 r_b_26 hb6
  have ge_b_26 := gb_ hk.size hbe_b_26
  clear hbe_b_26
  replace hk := thenB hk hb6
  refine w_as el (nt (wp_seq (sr (w_mv ei (w_mv Ev.c (nt (wp_block ?_)))))))
  refine c_loop (fun dN aN wl => ∃ (k : Nat), dN = (q - k) ∧ ∃ f7, aN = fr 45 f7 ∧ (k ≤ q) ∧ f7 0 = U64 n ∧ f7 1 = .int .i64 ((q : Nat) : Int) ∧ f7 4 = .string (str ([] : List (BitVec 8))) ∧ f7 5 = .int .i64 0 ∧ f7 6 = .slice (some ⟨b_26, 0, none⟩) q q ∧ f7 27 = .int .i64 ((q : Nat) : Int) ∧ f7 28 = .int .i64 ((k : Nat) : Int) ∧ Row wl b_26 5 q (fun j => if q ≤ j + k then (fun j => U8 (gb (Oct.be n q) j)) j else (fun j => U8 (0#8)) j) ∧ Below w0.heap.size w0 wl) (q - 0) ?_ ?_
  · exact ⟨0, rfl, _, rfl, iv, rfl, rfl, rfl, rfl, rfl, rfl, ti, (r_b_26.cg), hk⟩
  ·skip
   clear r_b_26 hk
   rintro _ _ w8 ⟨k, rfl, f7, rfl, i1_0, s1_0, s1_1, s1_4, s1_5, s1_6, s1_27, s1_28, r_b_26, hk⟩
   refine sr (w_val (y_bin (ei s1_28) (ei s1_27) b_lss) (nt (wp_seq ?_)))
   refine c_if (p := ((k : Nat) : Int) < ((q : Nat) : Int)) eb (fun hc9 => ?_) (fun hc9 => ?_)
   ·skip
    refine wp_skip (then_n (wp_seq (wp_block (sr (w_mv (ei s1_28) (w_as ei (nt (wp_region_lit (w_mv (el s1_6) (w_mv (ei s1_1) (w_val (y_bin ei Ev.c (b_sub om)) (w_mv ei (w_val (y_bin ei ei (b_sub om)) (w_mv (e6 s1_0) (w_mv ei (w_val (y_bin Ev.c ei (b_mul om)) (w_val (y_bin e6 ei (shr64 (c := (8 * k)) om)) (w_val (y_u64_u8 e6 OctWT.so83 Tryz.underlying5) (w_val (y_is1z (i := ((q - 1) - k)) el ei Tryz.underlying111 OctWT.sz5 om om) (w_st (v := U8 ((n >>> (8 * k)).setWidth 8)) (ex (pt b_26 ((q - 1) - k))) e8 rfl rfl OctWT.sz5 r_b_26 om ?_))))))))))))))))))))
    clear r_b_26; intro w10 r_b_26 hg11 _
    replace hk := thenG hk hg11 om
    refine wpList_nil (inb_n (then_n (wp_region_lit (w_val (y_bin (ei s1_28) Ev.c (b_add om)) (w_mv ei (wpList_nil ?_))))))
    exact then_n ⟨_, om, k + 1, rfl, _, rfl, iv, s1_0, s1_1, s1_4, s1_5, s1_6, s1_27, ti, (r_b_26.congr (fun j hj => by (try dsimp only); by_cases e : j = q - 1 - k; (rw [if_pos e, if_pos om, Oct.gb_be n q j om, show q - 1 - j = k from by omega]); (rw [if_neg e]; by_cases e2 : q ≤ j + k; (rw [if_pos e2, if_pos om]); (rw [if_neg e2, if_neg om])))), hk⟩
   ·skip
    refine wp_exit (then_x ?_)
    replace r_b_26 := r_b_26.congr (g := fun j => U8 (gb (Oct.be n q) j)) (fun j hj => by (try dsimp only); rw [if_pos om])
    refine then_x (inb_x (then_n (sr (w_mv (el s1_6) (w_val (y_str (l := Oct.be n q) el (by first | rfl | assumption | (simp; omega) | omega) Tryz.underlying111 Tryz.underlying5 Tryz.underlying9 (fun j hj => by rw [Nat.zero_add]; exact (r_b_26.cell om))) (w_as es (w_as Ev.c (nt (wp_ret (fin_ret2 rfl es ei ?_))))))))))
    exact ⟨rfl, hk⟩
 ·skip
  with_reducible refine w_skip ?_ ?_
  exact wn rfl rfl (eb (df hc3))
  with_reducible refine w_skip ?_ ?_
  exact wn rfl rfl (eb (df hc3))
  with_reducible refine w_skip ?_ ?_
  exact wn rfl rfl (eb (df hc3))
  with_reducible refine w_skip ?_ ?_
  exact wn rfl rfl (eb (df hc3))
  with_reducible refine w_skip ?_ ?_
  exact wn rfl rfl (eb (df hc3))
  refine w_val_g (wy rfl rfl (eb (df hc2))) (y_pick_f (eb (df hc3)) Ev.c) (w_val (y_pick_f (eb (df hc2)) eb) (nt (c_ff eb (wp_skip (then_n (sr (w_mv ei (w_mks (m := q) (bytes := 1) (zv := U8 (0#8)) ei ei om om Tryz.underlying111 kr rfl om om ?_))))))))
  intro b_26 w12 hbe_b_26 r_b_26 hb13
  have ge_b_26 := gb_ hk.size hbe_b_26
  clear hbe_b_26
  replace hk := thenB hk hb13
  refine w_as el (nt (wp_seq (sr (w_mv ei (w_mv Ev.c (nt (wp_block ?_)))))))
  refine c_loop (fun dN aN wl => ∃ (k : Nat), dN = (q - k) ∧ ∃ f14, aN = fr 45 f14 ∧ (k ≤ q) ∧ f14 0 = U64 n ∧ f14 1 = .int .i64 ((q : Nat) : Int) ∧ f14 4 = .string (str ([] : List (BitVec 8))) ∧ f14 5 = .int .i64 0 ∧ f14 6 = .slice (some ⟨b_26, 0, none⟩) q q ∧ f14 27 = .int .i64 ((q : Nat) : Int) ∧ f14 28 = .int .i64 ((k : Nat) : Int) ∧ Row wl b_26 5 q (fun j => if q ≤ j + k then (fun j => U8 (gb (Oct.be n q) j)) j else (fun j => U8 (0#8)) j) ∧ Below w0.heap.size w0 wl) (q - 0) ?_ ?_
  · exact ⟨0, rfl, _, rfl, iv, rfl, rfl, rfl, rfl, rfl, rfl, ti, (r_b_26.cg), hk⟩
  ·skip
   clear r_b_26 hk
   rintro _ _ w15 ⟨k, rfl, f14, rfl, i1_0, s1_0, s1_1, s1_4, s1_5, s1_6, s1_27, s1_28, r_b_26, hk⟩
   refine sr (w_val (y_bin (ei s1_28) (ei s1_27) b_lss) (nt (wp_seq ?_)))
   refine c_if (p := ((k : Nat) : Int) < ((q : Nat) : Int)) eb (fun hc16 => ?_) (fun hc16 => ?_)
   ·skip
    refine wp_skip (then_n (wp_seq (wp_block (sr (w_mv (ei s1_28) (w_as ei (nt (wp_region_lit (w_mv (el s1_6) (w_mv (ei s1_1) (w_val (y_bin ei Ev.c (b_sub om)) (w_mv ei (w_val (y_bin ei ei (b_sub om)) (w_mv (e6 s1_0) (w_mv ei (w_val (y_bin Ev.c ei (b_mul om)) (w_val (y_bin e6 ei (shr64 (c := (8 * k)) om)) (w_val (y_u64_u8 e6 OctWT.so83 Tryz.underlying5) (w_val (y_is1z (i := ((q - 1) - k)) el ei Tryz.underlying111 OctWT.sz5 om om) (w_st (v := U8 ((n >>> (8 * k)).setWidth 8)) (ex (pt b_26 ((q - 1) - k))) e8 rfl rfl OctWT.sz5 r_b_26 om ?_))))))))))))))))))))
    clear r_b_26; intro w17 r_b_26 hg18 _
    replace hk := thenG hk hg18 om
    refine wpList_nil (inb_n (then_n (wp_region_lit (w_val (y_bin (ei s1_28) Ev.c (b_add om)) (w_mv ei (wpList_nil ?_))))))
    exact then_n ⟨_, om, k + 1, rfl, _, rfl, iv, s1_0, s1_1, s1_4, s1_5, s1_6, s1_27, ti, (r_b_26.congr (fun j hj => by (try dsimp only); by_cases e : j = q - 1 - k; (rw [if_pos e, if_pos om, Oct.gb_be n q j om, show q - 1 - j = k from by omega]); (rw [if_neg e]; by_cases e2 : q ≤ j + k; (rw [if_pos e2, if_pos om]); (rw [if_neg e2, if_neg om])))), hk⟩
   ·skip
    refine wp_exit (then_x ?_)
    replace r_b_26 := r_b_26.congr (g := fun j => U8 (gb (Oct.be n q) j)) (fun j hj => by (try dsimp only); rw [if_pos om])
    refine then_x (inb_x (then_n (sr (w_mv (el s1_6) (w_val (y_str (l := Oct.be n q) el (by first | rfl | assumption | (simp; omega) | omega) Tryz.underlying111 Tryz.underlying5 Tryz.underlying9 (fun j hj => by rw [Nat.zero_add]; exact (r_b_26.cell om))) (w_as es (w_as Ev.c (nt (wp_ret (fin_ret2 rfl es ei ?_))))))))))
    exact ⟨rfl, hk⟩

theorem add_c (s : List (BitVec 8)) (n : BitVec 64) (hs : s.length ≤ 140737488351232) (w0 : World) : Calls Tryz.prog 63 #[.string (str s), U64 n] w0 fun e w' => e = .returned (.string (str (Oct.add s n.toNat))) ∧ Below w0.heap.size w0 w' := by
 have hla := Oct.length_add s n.toNat
 refine enter (n := 52) Tryz.func63 rfl rfl rfl ?_
 have hk : Below w0.heap.size w0 w0 := Below.refl _ _
 refine sr (w_as (evc (.string (str ([] : List (BitVec 8))))) (nt (sr (w_mv es (w_bytes es Tryz.underlying9 Tryz.underlying111 Tryz.underlying5 ?_)))))
 intro b_8 cap_b_8 w1 hbe_b_8 hc_b_8 r_b_8 hb2
 have ge_b_8 := gb_ hk.size hbe_b_8
 clear hbe_b_8
 replace hk := thenB hk hb2
 refine w_as el (nt (wp_seq (sr (w_mv el (w_val (v := .int .i64 ((s.length : Nat) : Int)) (y_len_sl el Tryz.underlying111) (w_val (y_bin ei Ev.c (b_sub om)) (w_as ei (nt (wp_block ?_)))))))))
 refine c_loop (fun dN aN wl => ∃ (k : Nat), dN = (s.length - k) ∧ ∃ f3, aN = fr 52 f3 ∧ (k ≤ s.length) ∧ f3 1 = U64 (BitVec.ofNat 64 (Oct.cy s n.toNat k)) ∧ f3 4 = .string (str ([] : List (BitVec 8))) ∧ f3 5 = .slice (some ⟨b_8, 0, none⟩) s.length cap_b_8 ∧ f3 6 = .int .i64 (((s.length : Nat) : Int) - 1 - ((k : Nat) : Int)) ∧ Row wl b_8 5 s.length (fun j => if s.length ≤ j + k then (fun j => U8 (gb (Oct.add s n.toNat) j)) j else (fun j => U8 (gb s j)) j) ∧ Below w0.heap.size w0 wl) (s.length - 0) ?_ ?_
 · exact ⟨0, rfl, _, rfl, iv, (Eq.trans (b := U64 n) rfl (by exact congrArg U64 (by show n = BitVec.ofNat 64 n.toNat; simp))), rfl, rfl, (Eq.trans (b := .int .i64 (((s.length : Nat) : Int) - 1)) rfl (by congr 1; omega)), (r_b_8.cg), hk⟩
 ·skip
  clear r_b_8 hk
  rintro _ _ w4 ⟨k, rfl, f3, rfl, i1_0, s1_1, s1_4, s1_5, s1_6, r_b_8, hk⟩
  have hcl := Oct.cy_lt s n k
  refine wp_seq (sr (w_mv (ei s1_6) (w_val (y_bin ei Ev.c b_geq) (w_mv eb ?_))))
  by_cases hc5 : 0 ≤ (((s.length : Nat) : Int) - 1 - ((k : Nat) : Int))
  ·skip
   refine w_val_g (v := U64 (BitVec.ofNat 64 (Oct.cy s n.toNat k))) (wy rfl rfl (eb (dt hc5))) (y_mv (e6 s1_1)) (w_val_g (wy rfl rfl (eb (dt hc5))) (y_bin e6 (evc (U64 (0#64))) gtr64) (w_val (y_pick_t (eb (dt hc5)) eb) (nt ?_)))
   refine c_if (p := (0#64).toNat < (BitVec.ofNat 64 (Oct.cy s n.toNat k)).toNat) eb (fun hc6 => ?_) (fun hc6 => ?_)
   ·skip
    refine wp_skip (then_n (wp_seq (wp_block (sr (w_mv (e6 s1_1) (w_mv (el s1_5) (w_mv (ei s1_6) (w_val (y_is1z (i := (s.length - 1 - k)) el ei Tryz.underlying111 OctWT.sz5 om om) (w_val (v := U8 (gb s (s.length - 1 - k))) (y_ld (ex (pt b_8 (s.length - 1 - k))) OctWT.sc5 (r_b_8.val om (ng rfl))) (w_val (y_u8_u64 e8 OctWT.so5 Tryz.underlying83) (w_val (y_bin e6 (evc (U64 (255#64))) and64) (w_val (y_bin e6 e6 add64) (w_as e6 (nt (wp_seq (sr (w_mv e6 (w_mv (el s1_5) (w_mv (ei s1_6) (w_val (y_is1z (i := (s.length - 1 - k)) el ei Tryz.underlying111 OctWT.sz5 om om) (w_val (v := U8 (gb s (s.length - 1 - k))) (y_ld (ex (pt b_8 (s.length - 1 - k))) OctWT.sc5 (r_b_8.val om (ng rfl))) (w_val (y_u8_u64 e8 OctWT.so5 Tryz.underlying83) (w_val (y_bin e6 e6 lss64) (nt ?_))))))))))))))))))))))))
    refine c_if (p := ((BitVec.ofNat 64 (Oct.cy s n.toNat k)) + (((gb s (s.length - 1 - k)).setWidth 64) &&& (255#64))).toNat < ((gb s (s.length - 1 - k)).setWidth 64).toNat) eb (fun hc7 => ?_) (fun hc7 => ?_)
    ·skip
     refine sr (w_mv (el s1_5) (w_mv (ei s1_6) (w_mv e6 (w_val (y_u64_u8 e6 OctWT.so83 Tryz.underlying5) (w_val (y_is1z (i := (s.length - 1 - k)) el ei Tryz.underlying111 OctWT.sz5 om om) (w_st (v := U8 (((BitVec.ofNat 64 (Oct.cy s n.toNat k)) + (((gb s (s.length - 1 - k)).setWidth 64) &&& (255#64))).setWidth 8)) (ex (pt b_8 (s.length - 1 - k))) e8 rfl rfl OctWT.sz5 r_b_8 om ?_))))))
     clear r_b_8; intro w8 r_b_8 hg9 _
     replace hk := thenG hk hg9 om
     refine nt (sr (w_mv e6 (w_val (y_bin e6 (evc (.int .u64 8)) (shr64 (c := 8) rfl)) (w_val (y_bin e6 (evc (U64 (72057594037927936#64))) or64) (w_as e6 (nt (wp_exit (then_x (inb_x (then_n (wp_region_lit (w_mv (ei s1_6) (w_val (y_bin ei Ev.c (b_sub om)) (w_as ei (wpList_nil ?_)))))))))))))))
     exact then_n ⟨_, om, k + 1, rfl, _, rfl, iv, (Eq.trans (b := U64 ((((BitVec.ofNat 64 (Oct.cy s n.toNat k)) + (((gb s (s.length - 1 - k)).setWidth 64) &&& (255#64))) >>> 8) ||| (72057594037927936#64))) rfl (by exact congrArg U64 (by first | exact Oct.ad_over _ _ hcl (by assumption) | exact Oct.ad_no _ _ hcl (by assumption)))), s1_4, s1_5, ti, (r_b_8.congr (fun j hj => by (try dsimp only); by_cases e : j = s.length - 1 - k; (rw [if_pos e, if_pos om, Oct.gb_add s _ j om, show s.length - 1 - j = k from by omega, e]; exact congrArg U8 (Oct.ad_lo _ _)); (rw [if_neg e]; by_cases e2 : s.length ≤ j + k; (rw [if_pos e2, if_pos om]); (rw [if_neg e2, if_neg om])))), hk⟩
    ·skip
     refine wp_skip (then_n (sr (w_mv (el s1_5) (w_mv (ei s1_6) (w_mv e6 (w_val (y_u64_u8 e6 OctWT.so83 Tryz.underlying5) (w_val (y_is1z (i := (s.length - 1 - k)) el ei Tryz.underlying111 OctWT.sz5 om om) (w_st (v := U8 (((BitVec.ofNat 64 (Oct.cy s n.toNat k)) + (((gb s (s.length - 1 - k)).setWidth 64) &&& (255#64))).setWidth 8)) (ex (pt b_8 (s.length - 1 - k))) e8 rfl rfl OctWT.sz5 r_b_8 om ?_))))))))
     clear r_b_8; intro w10 r_b_8 hg11 _
     replace hk := thenG hk hg11 om
     refine nt (wp_region_lit (w_mv e6 (w_val (y_bin e6 (evc (.int .u64 8)) (shr64 (c := 8) rfl)) (w_as e6 (wpList_nil (inb_n (then_n (wp_region_lit (w_mv (ei s1_6) (w_val (y_bin ei Ev.c (b_sub om)) (w_as ei (wpList_nil ?_))))))))))))
     exact then_n ⟨_, om, k + 1, rfl, _, rfl, iv, (Eq.trans (b := U64 (((BitVec.ofNat 64 (Oct.cy s n.toNat k)) + (((gb s (s.length - 1 - k)).setWidth 64) &&& (255#64))) >>> 8)) rfl (by exact congrArg U64 (by first | exact Oct.ad_over _ _ hcl (by assumption) | exact Oct.ad_no _ _ hcl (by assumption)))), s1_4, s1_5, ti, (r_b_8.congr (fun j hj => by (try dsimp only); by_cases e : j = s.length - 1 - k; (rw [if_pos e, if_pos om, Oct.gb_add s _ j om, show s.length - 1 - j = k from by omega, e]; exact congrArg U8 (Oct.ad_lo _ _)); (rw [if_neg e]; by_cases e2 : s.length ≤ j + k; (rw [if_pos e2, if_pos om]); (rw [if_neg e2, if_neg om])))), hk⟩
   ·skip
    refine wp_exit (then_x ?_)
    replace r_b_8 := r_b_8.congr (g := fun j => U8 (gb (Oct.add s n.toNat) j)) (fun j hj => by (try dsimp only); by_cases e2 : s.length ≤ j + k; (rw [if_pos e2]); (rw [if_neg e2]; first | (exfalso; omega) | exact congrArg U8 (Oct.add_rest s n k j om (by assumption))))
    refine then_x (inb_x (then_n (sr (w_mv (el s1_5) (w_val (y_str (l := Oct.add s n.toNat) el (by first | rfl | assumption | (simp; omega) | omega) Tryz.underlying111 Tryz.underlying5 Tryz.underlying9 (fun j hj => by rw [Nat.zero_add]; exact (r_b_8.cell om))) (w_as es (nt (wp_ret (fin_ret1 rfl es ?_)))))))))
    exact ⟨rfl, hk⟩
  ·skip
   with_reducible refine w_skip ?_ ?_
   exact wn rfl rfl (eb (df hc5))
   with_reducible refine w_skip ?_ ?_
   exact wn rfl rfl (eb (df hc5))
   refine w_val (y_pick_f (eb (df hc5)) Ev.c) (nt (c_ff eb (wp_exit (then_x ?_))))
   replace r_b_8 := r_b_8.congr (g := fun j => U8 (gb (Oct.add s n.toNat) j)) (fun j hj => by (try dsimp only); by_cases e2 : s.length ≤ j + k; (rw [if_pos e2]); (rw [if_neg e2]; first | (exfalso; omega) | exact congrArg U8 (Oct.add_rest s n k j om (by assumption))))
   refine then_x (inb_x (then_n (sr (w_mv (el s1_5) (w_val (y_str (l := Oct.add s n.toNat) el (by first | rfl | assumption | (simp; omega) | omega) Tryz.underlying111 Tryz.underlying5 Tryz.underlying9 (fun j hj => by rw [Nat.zero_add]; exact (r_b_8.cell om))) (w_as es (nt (wp_ret (fin_ret1 rfl es ?_)))))))))
   exact ⟨rfl, hk⟩
end Go.Proofs.YtdmbfimjbmfbaaaGreat
