/-
  The walk of the law PbkdfBegins. Conditions as each says.
-/
import Derived.Test.YtieepglpejlkoaaDoorRows
import Derived.Test.YtieepglpejlkoaaDoorPbL
import Derived.ProofKit
namespace Go.Proofs.YtieepglpejlkoaaDoor
open Go.RowKit
set_option linter.unusedSimpArgs false
set_option linter.unusedVariables false
namespace PbLBeginsT
theorem mixed : Tryd.prog.follows .mixedOrders = true := by kernel_rfl
theorem ag67 : (Tryd.prog.underlying 67).map isAggD = some true := by rw [Tryd.underlying67]; rfl
theorem fa67_0 (g off : Nat) : ∀ w, (Instr.fieldAt 67 (.pointer (some ⟨g, off, none⟩)) 0).run Tryd.prog w = .ok (.pointer (some ⟨g, off + 0, none⟩)) w := fun w => by kernel_rfl
theorem fa67_1 (g off : Nat) : ∀ w, (Instr.fieldAt 67 (.pointer (some ⟨g, off, none⟩)) 1).run Tryd.prog w = .ok (.pointer (some ⟨g, off + 1, none⟩)) w := fun w => by kernel_rfl
theorem fa67_2 (g off : Nat) : ∀ w, (Instr.fieldAt 67 (.pointer (some ⟨g, off, none⟩)) 2).run Tryd.prog w = .ok (.pointer (some ⟨g, off + 2, none⟩)) w := fun w => by kernel_rfl
theorem fa67_3 (g off : Nat) : ∀ w, (Instr.fieldAt 67 (.pointer (some ⟨g, off, none⟩)) 3).run Tryd.prog w = .ok (.pointer (some ⟨g, off + 3, none⟩)) w := fun w => by kernel_rfl
theorem fa67_4 (g off : Nat) : ∀ w, (Instr.fieldAt 67 (.pointer (some ⟨g, off, none⟩)) 4).run Tryd.prog w = .ok (.pointer (some ⟨g, off + 4, none⟩)) w := fun w => by kernel_rfl
theorem sc3 : (Tryd.prog.underlying 3).map scal = some true := by rw [Tryd.underlying3]; rfl
theorem sc5 : (Tryd.prog.underlying 5).map scal = some true := by rw [Tryd.underlying5]; rfl
theorem sc9 : (Tryd.prog.underlying 9).map scal = some true := by rw [Tryd.underlying9]; rfl
theorem so5 : (Tryd.prog.underlying 5).isSome = true := by rw [Tryd.underlying5]; rfl
theorem sz5 : (Tryd.prog.info? 5).map (·.size) = some 1 := by kernel_rfl
theorem sz67 : (Tryd.prog.info? 67).map (·.size) = some 5 := by kernel_rfl
end PbLBeginsT
set_option maxRecDepth 100000 in
set_option maxHeartbeats 1000000 in
theorem pbkdfBegins_y (k : Int) (pw salt : List (BitVec 8)) (r l : Int) (more : BitVec 8) (he : Pb.err k salt r l = 0) (w0 : World) (hT : Sha.Tabs w0) : Calls Tryd.prog 14 #[.agg (arr 5 (fun j => if j < 1 then .int .i64 k else if j < 2 then .string (str pw) else if j < 3 then .string (str salt) else if j < 4 then .int .i64 r else .int .i64 l)), U8 more] w0 fun e w' => e = .returned (.bool true) ∧ Below w0.heap.size w0 w' := by
 have hln := Pb.err_args k salt r l he
 have hmb := more.isLt
 refine enter (n := 86) Tryd.func14 rfl rfl rfl ?_
 have hk : Below w0.heap.size w0 w0 := Below.refl _ _
 refine sr ?_
 refine w_box (m := 5) (F := fun j => if j < 1 then .int .i64 k else if j < 2 then .string (str pw) else if j < 3 then .string (str salt) else if j < 4 then .int .i64 r else .int .i64 l) (ev (.agg (arr 5 (fun j => if j < 1 then .int .i64 k else if j < 2 then .string (str pw) else if j < 3 then .string (str salt) else if j < 4 then .int .i64 r else .int .i64 l))) rfl rfl) rfl ?_
 intro b_a w1 hbe_b_a r_b_a hb2
 have ge_b_a : w0.heap.size ≤ b_a := by have := hk.size; omega
 clear hbe_b_a
 replace hk := thenB hk hb2
 replace hT := Sha.Tabs.below hT hb2
 refine w_as (evc (.bool false)) ?_
 refine nt ?_
 refine wp_seq ?_
 refine sr ?_
 refine w_call (Tryd.func34) (by kernel_rfl) rfl m0 (pbWakes_c w1 hT) ?_
 rintro _ w3 ⟨rfl, hb4⟩
 refine ⟨_, rfl, ?_⟩
 replace r_b_a := r_b_a.step hb4
 replace hk := thenB hk hb4
 replace hT := Sha.Tabs.below hT hb4
 refine w_val (y_not (ev (.bool true) rfl rfl)) ?_
 refine nt ?_
 refine c_ff (ev (.bool false) rfl rfl) ?_
 refine wp_skip ?_
 refine then_n ?_
 refine wp_seq ?_
 refine sr ?_
 refine w_val (v := .agg (arr 5 (fun j => if j < 1 then .int .i64 k else if j < 2 then .string (str pw) else if j < 3 then .string (str salt) else if j < 4 then .int .i64 r else .int .i64 l))) (y_lda (ev (pt b_a 0) rfl rfl) PbLBeginsT.ag67 PbLBeginsT.sz67 (fun j hj => by rw [Nat.zero_add]; exact (r_b_a.cell (by omega)))) ?_
 refine w_call (Tryd.func35) (by kernel_rfl) rfl (m1 (ev (.agg (arr 5 (fun j => if j < 1 then .int .i64 k else if j < 2 then .string (str pw) else if j < 3 then .string (str salt) else if j < 4 then .int .i64 r else .int .i64 l))) rfl rfl)) (pbLight_c k pw salt r l w3) ?_
 rintro _ w5 ⟨rfl, hb6⟩
 refine ⟨_, rfl, ?_⟩
 replace r_b_a := r_b_a.step hb6
 replace hk := thenB hk hb6
 replace hT := Sha.Tabs.below hT hb6
 refine w_val (y_notp (ev (.bool (decide (r ≤ 40 ∧ pw.length ≤ 2000 ∧ salt.length ≤ 1024))) rfl rfl)) ?_
 refine w_mv (ev (.bool (decide (¬ (r ≤ 40 ∧ pw.length ≤ 2000 ∧ salt.length ≤ 1024)))) rfl rfl) ?_
 by_cases hc7 : ¬ (r ≤ 40 ∧ pw.length ≤ 2000 ∧ salt.length ≤ 1024)
 ·skip
  first | with_reducible refine w_skip ?_ ?_ | refine w_skip ?_ ?_
  · exact want_no (j := 3) rfl rfl (ev (.bool true) (Eq.trans (b := .bool (decide (¬ (r ≤ 40 ∧ pw.length ≤ 2000 ∧ salt.length ≤ 1024)))) rfl (by rw [decide_eq_true hc7])) rfl) rfl
  first | with_reducible refine w_skip ?_ ?_ | refine w_skip ?_ ?_
  · exact want_no (j := 3) rfl rfl (ev (.bool true) (Eq.trans (b := .bool (decide (¬ (r ≤ 40 ∧ pw.length ≤ 2000 ∧ salt.length ≤ 1024)))) rfl (by rw [decide_eq_true hc7])) rfl) rfl
  first | with_reducible refine w_skip ?_ ?_ | refine w_skip ?_ ?_
  · exact want_no (j := 3) rfl rfl (ev (.bool true) (Eq.trans (b := .bool (decide (¬ (r ≤ 40 ∧ pw.length ≤ 2000 ∧ salt.length ≤ 1024)))) rfl (by rw [decide_eq_true hc7])) rfl) rfl
  first | with_reducible refine w_skip ?_ ?_ | refine w_skip ?_ ?_
  · exact want_no (j := 3) rfl rfl (ev (.bool true) (Eq.trans (b := .bool (decide (¬ (r ≤ 40 ∧ pw.length ≤ 2000 ∧ salt.length ≤ 1024)))) rfl (by rw [decide_eq_true hc7])) rfl) rfl
  first | with_reducible refine w_skip ?_ ?_ | refine w_skip ?_ ?_
  · exact want_no (j := 3) rfl rfl (ev (.bool true) (Eq.trans (b := .bool (decide (¬ (r ≤ 40 ∧ pw.length ≤ 2000 ∧ salt.length ≤ 1024)))) rfl (by rw [decide_eq_true hc7])) rfl) rfl
  first | with_reducible refine w_skip ?_ ?_ | refine w_skip ?_ ?_
  · exact want_no (j := 3) rfl rfl (ev (.bool true) (Eq.trans (b := .bool (decide (¬ (r ≤ 40 ∧ pw.length ≤ 2000 ∧ salt.length ≤ 1024)))) rfl (by rw [decide_eq_true hc7])) rfl) rfl
  first | with_reducible refine w_skip ?_ ?_ | refine w_skip ?_ ?_
  · exact want_no (j := 3) rfl rfl (ev (.bool true) (Eq.trans (b := .bool (decide (¬ (r ≤ 40 ∧ pw.length ≤ 2000 ∧ salt.length ≤ 1024)))) rfl (by rw [decide_eq_true hc7])) rfl) rfl
  first | with_reducible refine w_skip ?_ ?_ | refine w_skip ?_ ?_
  · exact want_no (j := 3) rfl rfl (ev (.bool true) (Eq.trans (b := .bool (decide (¬ (r ≤ 40 ∧ pw.length ≤ 2000 ∧ salt.length ≤ 1024)))) rfl (by rw [decide_eq_true hc7])) rfl) rfl
  first | with_reducible refine w_skip ?_ ?_ | refine w_skip ?_ ?_
  · exact want_no (j := 3) rfl rfl (ev (.bool true) (Eq.trans (b := .bool (decide (¬ (r ≤ 40 ∧ pw.length ≤ 2000 ∧ salt.length ≤ 1024)))) rfl (by rw [decide_eq_true hc7])) rfl) rfl
  first | with_reducible refine w_skip ?_ ?_ | refine w_skip ?_ ?_
  · exact want_no (j := 3) rfl rfl (ev (.bool true) (Eq.trans (b := .bool (decide (¬ (r ≤ 40 ∧ pw.length ≤ 2000 ∧ salt.length ≤ 1024)))) rfl (by rw [decide_eq_true hc7])) rfl) rfl
  refine w_val (y_pick_t (ev (.bool true) (Eq.trans (b := .bool (decide (¬ (r ≤ 40 ∧ pw.length ≤ 2000 ∧ salt.length ≤ 1024)))) rfl (by rw [decide_eq_true hc7])) rfl) (evc (.bool true))) ?_
  refine nt ?_
  refine c_tt (ev (.bool true) rfl rfl) ?_
  refine sr ?_
  refine w_as (evc (.bool true)) ?_
  refine nt ?_
  refine wp_ret ?_
  refine then_r ?_
  refine fin_ret1 rfl (ev (.bool true) rfl rfl) ?_
  exact ⟨rfl, hk⟩
 ·skip
  refine w_val_g (v := pt b_a 0) (want_yes (j := 3) rfl rfl (ev (.bool false) (Eq.trans (b := .bool (decide (¬ (r ≤ 40 ∧ pw.length ≤ 2000 ∧ salt.length ≤ 1024)))) rfl (by rw [decide_eq_false hc7])) rfl) rfl) (y_off (y_fa (ev (pt b_a 0) rfl rfl) (PbLBeginsT.fa67_0 _ _)) (by first | rfl | omega)) ?_
  refine w_val_g (v := .int .i64 k) (want_yes (j := 3) rfl rfl (ev (.bool false) (Eq.trans (b := .bool (decide (¬ (r ≤ 40 ∧ pw.length ≤ 2000 ∧ salt.length ≤ 1024)))) rfl (by rw [decide_eq_false hc7])) rfl) rfl) (y_ld (ev (pt b_a 0) rfl rfl) PbLBeginsT.sc3 (r_b_a.val (by omega) (etv (if_pos (by omega))))) ?_
  refine w_val_g (v := pt b_a 2) (want_yes (j := 3) rfl rfl (ev (.bool false) (Eq.trans (b := .bool (decide (¬ (r ≤ 40 ∧ pw.length ≤ 2000 ∧ salt.length ≤ 1024)))) rfl (by rw [decide_eq_false hc7])) rfl) rfl) (y_off (y_fa (ev (pt b_a 0) rfl rfl) (PbLBeginsT.fa67_2 _ _)) (by first | rfl | omega)) ?_
  refine w_val_g (v := .string (str salt)) (want_yes (j := 3) rfl rfl (ev (.bool false) (Eq.trans (b := .bool (decide (¬ (r ≤ 40 ∧ pw.length ≤ 2000 ∧ salt.length ≤ 1024)))) rfl (by rw [decide_eq_false hc7])) rfl) rfl) (y_ld (ev (pt b_a 2) rfl rfl) PbLBeginsT.sc9 (r_b_a.val (by omega) ((if_neg (by omega)).trans ((if_neg (by omega)).trans (etv (if_pos (by omega))))))) ?_
  refine w_val_g (v := pt b_a 3) (want_yes (j := 3) rfl rfl (ev (.bool false) (Eq.trans (b := .bool (decide (¬ (r ≤ 40 ∧ pw.length ≤ 2000 ∧ salt.length ≤ 1024)))) rfl (by rw [decide_eq_false hc7])) rfl) rfl) (y_off (y_fa (ev (pt b_a 0) rfl rfl) (PbLBeginsT.fa67_3 _ _)) (by first | rfl | omega)) ?_
  refine w_val_g (v := .int .i64 r) (want_yes (j := 3) rfl rfl (ev (.bool false) (Eq.trans (b := .bool (decide (¬ (r ≤ 40 ∧ pw.length ≤ 2000 ∧ salt.length ≤ 1024)))) rfl (by rw [decide_eq_false hc7])) rfl) rfl) (y_ld (ev (pt b_a 3) rfl rfl) PbLBeginsT.sc3 (r_b_a.val (by omega) ((if_neg (by omega)).trans ((if_neg (by omega)).trans ((if_neg (by omega)).trans (etv (if_pos (by omega)))))))) ?_
  refine w_val_g (v := pt b_a 4) (want_yes (j := 3) rfl rfl (ev (.bool false) (Eq.trans (b := .bool (decide (¬ (r ≤ 40 ∧ pw.length ≤ 2000 ∧ salt.length ≤ 1024)))) rfl (by rw [decide_eq_false hc7])) rfl) rfl) (y_off (y_fa (ev (pt b_a 0) rfl rfl) (PbLBeginsT.fa67_4 _ _)) (by first | rfl | omega)) ?_
  refine w_val_g (v := .int .i64 l) (want_yes (j := 3) rfl rfl (ev (.bool false) (Eq.trans (b := .bool (decide (¬ (r ≤ 40 ∧ pw.length ≤ 2000 ∧ salt.length ≤ 1024)))) rfl (by rw [decide_eq_false hc7])) rfl) rfl) (y_ld (ev (pt b_a 4) rfl rfl) PbLBeginsT.sc3 (r_b_a.val (by omega) ((if_neg (by omega)).trans ((if_neg (by omega)).trans ((if_neg (by omega)).trans ((if_neg (by omega)).trans (by first | with_reducible rfl | (with_reducible congr 1 <;> omega) | (with_reducible congr 2 <;> omega) | (with_reducible congr 3 <;> omega) | rfl))))))) ?_
  refine w_unguard (want_yes (j := 3) rfl rfl (ev (.bool false) (Eq.trans (b := .bool (decide (¬ (r ≤ 40 ∧ pw.length ≤ 2000 ∧ salt.length ≤ 1024)))) rfl (by rw [decide_eq_false hc7])) rfl) rfl) ?_
  refine w_call (Tryd.func38) (by kernel_rfl) rfl (m4 (ev (.int .i64 k) rfl rfl) (ev (.string (str salt)) rfl rfl) (ev (.int .i64 r) rfl rfl) (ev (.int .i64 l) rfl rfl)) (pbWrong_l k [] salt r l w5 ) ?_
  rintro _ w8 ⟨rfl, hb9⟩
  refine ⟨_, rfl, ?_⟩
  replace r_b_a := r_b_a.step hb9
  replace hk := thenB hk hb9
  replace hT := Sha.Tabs.below hT hb9
  refine w_val_g (want_yes (j := 3) rfl rfl (ev (.bool false) (Eq.trans (b := .bool (decide (¬ (r ≤ 40 ∧ pw.length ≤ 2000 ∧ salt.length ≤ 1024)))) rfl (by rw [decide_eq_false hc7])) rfl) rfl) (y_bin (ev (.int .i64 (Pb.err k salt r l)) rfl rfl) (evc (.int .i64 0)) b_neq) ?_
  refine w_val (y_pick_f (ev (.bool false) (Eq.trans (b := .bool (decide (¬ (r ≤ 40 ∧ pw.length ≤ 2000 ∧ salt.length ≤ 1024)))) rfl (by rw [decide_eq_false hc7])) rfl) (ev (.bool (decide ((Pb.err k salt r l) ≠ 0))) rfl rfl)) ?_
  refine nt ?_
  have hc10 : ¬ ((Pb.err k salt r l) ≠ 0) := by exact fun h => h he
  refine c_f (p := (Pb.err k salt r l) ≠ 0) (ev (.bool (decide ((Pb.err k salt r l) ≠ 0))) rfl rfl) hc10 ?_
  refine wp_skip ?_
  refine then_n ?_
  refine sr ?_
  refine w_val (v := pt b_a 0) (y_off (y_fa (ev (pt b_a 0) rfl rfl) (PbLBeginsT.fa67_0 _ _)) (by first | rfl | omega)) ?_
  refine w_val (v := .int .i64 k) (y_ld (ev (pt b_a 0) rfl rfl) PbLBeginsT.sc3 (r_b_a.val (by omega) (etv (if_pos (by omega))))) ?_
  refine w_val (v := pt b_a 1) (y_off (y_fa (ev (pt b_a 0) rfl rfl) (PbLBeginsT.fa67_1 _ _)) (by first | rfl | omega)) ?_
  refine w_val (v := .string (str pw)) (y_ld (ev (pt b_a 1) rfl rfl) PbLBeginsT.sc9 (r_b_a.val (by omega) ((if_neg (by omega)).trans (etv (if_pos (by omega)))))) ?_
  refine w_val (v := pt b_a 2) (y_off (y_fa (ev (pt b_a 0) rfl rfl) (PbLBeginsT.fa67_2 _ _)) (by first | rfl | omega)) ?_
  refine w_val (v := .string (str salt)) (y_ld (ev (pt b_a 2) rfl rfl) PbLBeginsT.sc9 (r_b_a.val (by omega) ((if_neg (by omega)).trans ((if_neg (by omega)).trans (etv (if_pos (by omega))))))) ?_
  refine w_val (v := pt b_a 3) (y_off (y_fa (ev (pt b_a 0) rfl rfl) (PbLBeginsT.fa67_3 _ _)) (by first | rfl | omega)) ?_
  refine w_val (v := .int .i64 r) (y_ld (ev (pt b_a 3) rfl rfl) PbLBeginsT.sc3 (r_b_a.val (by omega) ((if_neg (by omega)).trans ((if_neg (by omega)).trans ((if_neg (by omega)).trans (etv (if_pos (by omega)))))))) ?_
  refine w_val (v := pt b_a 4) (y_off (y_fa (ev (pt b_a 0) rfl rfl) (PbLBeginsT.fa67_4 _ _)) (by first | rfl | omega)) ?_
  refine w_val (v := .int .i64 l) (y_ld (ev (pt b_a 4) rfl rfl) PbLBeginsT.sc3 (r_b_a.val (by omega) ((if_neg (by omega)).trans ((if_neg (by omega)).trans ((if_neg (by omega)).trans ((if_neg (by omega)).trans (by first | with_reducible rfl | (with_reducible congr 1 <;> omega) | (with_reducible congr 2 <;> omega) | (with_reducible congr 3 <;> omega) | rfl))))))) ?_
  have hkg := key_l k pw salt r l (by omega) w8 hT
  rw [Pb.key_fine k pw salt r l (Pb.err_len k salt r l l he (by omega) (by omega))] at hkg
  refine w_call (Tryd.func36) (by kernel_rfl) rfl (m5 (ev (.int .i64 k) rfl rfl) (ev (.string (str pw)) rfl rfl) (ev (.string (str salt)) rfl rfl) (ev (.int .i64 r) rfl rfl) (ev (.int .i64 l) rfl rfl)) (hkg) ?_
  rintro _ w11 ⟨rfl, hb12⟩
  refine ⟨_, rfl, ?_⟩
  replace r_b_a := r_b_a.step hb12
  replace hk := thenB hk hb12
  replace hT := Sha.Tabs.below hT hb12
  refine w_mv (ev (.tuple #[.string (str (Pb.dk k.toNat pw salt r.toNat (l).toNat)), .int .i64 0]) rfl rfl) ?_
  refine w_val (y_ext (v := .string (str (Pb.dk k.toNat pw salt r.toNat (l).toNat))) (ev (.tuple #[.string (str (Pb.dk k.toNat pw salt r.toNat (l).toNat)), .int .i64 0]) rfl rfl) rfl) ?_
  refine w_val (y_ext (v := .int .i64 0) (ev (.tuple #[.string (str (Pb.dk k.toNat pw salt r.toNat (l).toNat)), .int .i64 0]) rfl rfl) rfl) ?_
  refine w_as (ev (.string (str (Pb.dk k.toNat pw salt r.toNat (l).toNat))) rfl rfl) ?_
  refine w_as (ev (.int .i64 0) rfl rfl) ?_
  refine nt ?_
  refine sr ?_
  refine w_val (v := pt b_a 0) (y_off (y_fa (ev (pt b_a 0) rfl rfl) (PbLBeginsT.fa67_0 _ _)) (by first | rfl | omega)) ?_
  refine w_val (v := .int .i64 k) (y_ld (ev (pt b_a 0) rfl rfl) PbLBeginsT.sc3 (r_b_a.val (by omega) (etv (if_pos (by omega))))) ?_
  refine w_val (v := pt b_a 1) (y_off (y_fa (ev (pt b_a 0) rfl rfl) (PbLBeginsT.fa67_1 _ _)) (by first | rfl | omega)) ?_
  refine w_val (v := .string (str pw)) (y_ld (ev (pt b_a 1) rfl rfl) PbLBeginsT.sc9 (r_b_a.val (by omega) ((if_neg (by omega)).trans (etv (if_pos (by omega)))))) ?_
  refine w_val (v := pt b_a 2) (y_off (y_fa (ev (pt b_a 0) rfl rfl) (PbLBeginsT.fa67_2 _ _)) (by first | rfl | omega)) ?_
  refine w_val (v := .string (str salt)) (y_ld (ev (pt b_a 2) rfl rfl) PbLBeginsT.sc9 (r_b_a.val (by omega) ((if_neg (by omega)).trans ((if_neg (by omega)).trans (etv (if_pos (by omega))))))) ?_
  refine w_val (v := pt b_a 3) (y_off (y_fa (ev (pt b_a 0) rfl rfl) (PbLBeginsT.fa67_3 _ _)) (by first | rfl | omega)) ?_
  refine w_val (v := .int .i64 r) (y_ld (ev (pt b_a 3) rfl rfl) PbLBeginsT.sc3 (r_b_a.val (by omega) ((if_neg (by omega)).trans ((if_neg (by omega)).trans ((if_neg (by omega)).trans (etv (if_pos (by omega)))))))) ?_
  refine w_val (v := pt b_a 4) (y_off (y_fa (ev (pt b_a 0) rfl rfl) (PbLBeginsT.fa67_4 _ _)) (by first | rfl | omega)) ?_
  refine w_val (v := .int .i64 l) (y_ld (ev (pt b_a 4) rfl rfl) PbLBeginsT.sc3 (r_b_a.val (by omega) ((if_neg (by omega)).trans ((if_neg (by omega)).trans ((if_neg (by omega)).trans ((if_neg (by omega)).trans (by first | with_reducible rfl | (with_reducible congr 1 <;> omega) | (with_reducible congr 2 <;> omega) | (with_reducible congr 3 <;> omega) | rfl))))))) ?_
  refine w_mv (ev (U8 more) rfl rfl) ?_
  refine w_val (v := .int .i64 ((more.toNat : Nat) : Int)) (y_u8_i64 (ev (U8 more) rfl rfl) PbLBeginsT.so5 Tryd.underlying3 (by have := (more).isLt; omega)) ?_
  refine w_val (y_bin (ev (.int .i64 l) rfl rfl) (ev (.int .i64 ((more.toNat : Nat) : Int)) rfl rfl) (b_add (by omega))) ?_
  refine w_val (v := .int .i64 (min 256 (l + ((more.toNat : Nat) : Int)))) (y_min (evc (.int .i64 256)) (ev (.int .i64 (l + ((more.toNat : Nat) : Int))) rfl rfl)) ?_
  have hkg := key_l k pw salt r (min 256 (l + ((more.toNat : Nat) : Int))) (by omega) w11 hT
  rw [Pb.key_fine k pw salt r (min 256 (l + ((more.toNat : Nat) : Int))) (Pb.err_len k salt r l (min 256 (l + ((more.toNat : Nat) : Int))) he (by omega) (by omega))] at hkg
  refine w_call (Tryd.func36) (by kernel_rfl) rfl (m5 (ev (.int .i64 k) rfl rfl) (ev (.string (str pw)) rfl rfl) (ev (.string (str salt)) rfl rfl) (ev (.int .i64 r) rfl rfl) (ev (.int .i64 (min 256 (l + ((more.toNat : Nat) : Int)))) rfl rfl)) (hkg) ?_
  rintro _ w13 ⟨rfl, hb14⟩
  refine ⟨_, rfl, ?_⟩
  replace r_b_a := r_b_a.step hb14
  replace hk := thenB hk hb14
  replace hT := Sha.Tabs.below hT hb14
  refine w_mv (ev (.tuple #[.string (str (Pb.dk k.toNat pw salt r.toNat ((min 256 (l + ((more.toNat : Nat) : Int)))).toNat)), .int .i64 0]) rfl rfl) ?_
  refine w_val (y_ext (v := .string (str (Pb.dk k.toNat pw salt r.toNat ((min 256 (l + ((more.toNat : Nat) : Int)))).toNat))) (ev (.tuple #[.string (str (Pb.dk k.toNat pw salt r.toNat ((min 256 (l + ((more.toNat : Nat) : Int)))).toNat)), .int .i64 0]) rfl rfl) rfl) ?_
  refine w_val (y_ext (v := .int .i64 0) (ev (.tuple #[.string (str (Pb.dk k.toNat pw salt r.toNat ((min 256 (l + ((more.toNat : Nat) : Int)))).toNat)), .int .i64 0]) rfl rfl) rfl) ?_
  refine w_as (ev (.string (str (Pb.dk k.toNat pw salt r.toNat ((min 256 (l + ((more.toNat : Nat) : Int)))).toNat))) rfl rfl) ?_
  refine w_as (ev (.int .i64 0) rfl rfl) ?_
  refine nt ?_
  refine sr ?_
  refine w_mv (ev (.int .i64 0) rfl rfl) ?_
  refine w_val (y_bin (ev (.int .i64 0) rfl rfl) (evc (.int .i64 0)) b_eql) ?_
  refine w_mv (ev (.bool true) rfl rfl) ?_
  refine w_val_g (v := .int .i64 0) (want_yes (j := 2) rfl rfl (ev (.bool true) rfl rfl) rfl) (y_mv (ev (.int .i64 0) rfl rfl)) ?_
  refine w_val_g (want_yes (j := 2) rfl rfl (ev (.bool true) rfl rfl) rfl) (y_bin (ev (.int .i64 0) rfl rfl) (evc (.int .i64 0)) b_eql) ?_
  refine w_val (y_pick_t (ev (.bool true) rfl rfl) (ev (.bool true) rfl rfl)) ?_
  refine w_mv (ev (.bool true) rfl rfl) ?_
  refine w_val_g (v := .string (str (Pb.dk k.toNat pw salt r.toNat (l).toNat))) (want_yes (j := 6) rfl rfl (ev (.bool true) rfl rfl) rfl) (y_mv (ev (.string (str (Pb.dk k.toNat pw salt r.toNat (l).toNat))) rfl rfl)) ?_
  refine w_val_g (want_yes (j := 6) rfl rfl (ev (.bool true) rfl rfl) rfl) (y_len (ev (.string (str (Pb.dk k.toNat pw salt r.toNat (l).toNat))) rfl rfl) Tryd.underlying9) ?_
  refine w_val_g (v := pt b_a 4) (want_yes (j := 6) rfl rfl (ev (.bool true) rfl rfl) rfl) (y_off (y_fa (ev (pt b_a 0) rfl rfl) (PbLBeginsT.fa67_4 _ _)) (by first | rfl | omega)) ?_
  refine w_val_g (v := .int .i64 l) (want_yes (j := 6) rfl rfl (ev (.bool true) rfl rfl) rfl) (y_ld (ev (pt b_a 4) rfl rfl) PbLBeginsT.sc3 (r_b_a.val (by omega) ((if_neg (by omega)).trans ((if_neg (by omega)).trans ((if_neg (by omega)).trans ((if_neg (by omega)).trans (by first | with_reducible rfl | (with_reducible congr 1 <;> omega) | (with_reducible congr 2 <;> omega) | (with_reducible congr 3 <;> omega) | rfl))))))) ?_
  refine w_val_g (want_yes (j := 6) rfl rfl (ev (.bool true) rfl rfl) rfl) (y_bin (ev (.int .i64 (((Pb.dk k.toNat pw salt r.toNat (l).toNat).length : Nat) : Int)) rfl rfl) (ev (.int .i64 l) rfl rfl) b_eql) ?_
  refine w_val (y_pick_t (ev (.bool true) rfl rfl) (ev (.bool (decide ((((Pb.dk k.toNat pw salt r.toNat (l).toNat).length : Nat) : Int) = l))) rfl rfl)) ?_
  refine w_mv (ev (.bool (decide ((((Pb.dk k.toNat pw salt r.toNat (l).toNat).length : Nat) : Int) = l))) rfl rfl) ?_
  have hc15 : (((Pb.dk k.toNat pw salt r.toNat (l).toNat).length : Nat) : Int) = l := by rw [Pb.dk_len]; omega
  refine w_val_g (v := .string (str (Pb.dk k.toNat pw salt r.toNat ((min 256 (l + ((more.toNat : Nat) : Int)))).toNat))) (want_yes (j := 13) rfl rfl (ev (.bool true) (Eq.trans (b := .bool (decide ((((Pb.dk k.toNat pw salt r.toNat (l).toNat).length : Nat) : Int) = l))) rfl (by rw [decide_eq_true hc15])) rfl) rfl) (y_mv (ev (.string (str (Pb.dk k.toNat pw salt r.toNat ((min 256 (l + ((more.toNat : Nat) : Int)))).toNat))) rfl rfl)) ?_
  refine w_val_g (want_yes (j := 13) rfl rfl (ev (.bool true) (Eq.trans (b := .bool (decide ((((Pb.dk k.toNat pw salt r.toNat (l).toNat).length : Nat) : Int) = l))) rfl (by rw [decide_eq_true hc15])) rfl) rfl) (y_len (ev (.string (str (Pb.dk k.toNat pw salt r.toNat ((min 256 (l + ((more.toNat : Nat) : Int)))).toNat))) rfl rfl) Tryd.underlying9) ?_
  refine w_val_g (v := .string (str (Pb.dk k.toNat pw salt r.toNat (l).toNat))) (want_yes (j := 13) rfl rfl (ev (.bool true) (Eq.trans (b := .bool (decide ((((Pb.dk k.toNat pw salt r.toNat (l).toNat).length : Nat) : Int) = l))) rfl (by rw [decide_eq_true hc15])) rfl) rfl) (y_mv (ev (.string (str (Pb.dk k.toNat pw salt r.toNat (l).toNat))) rfl rfl)) ?_
  refine w_val_g (want_yes (j := 13) rfl rfl (ev (.bool true) (Eq.trans (b := .bool (decide ((((Pb.dk k.toNat pw salt r.toNat (l).toNat).length : Nat) : Int) = l))) rfl (by rw [decide_eq_true hc15])) rfl) rfl) (y_len (ev (.string (str (Pb.dk k.toNat pw salt r.toNat (l).toNat))) rfl rfl) Tryd.underlying9) ?_
  refine w_val_g (want_yes (j := 13) rfl rfl (ev (.bool true) (Eq.trans (b := .bool (decide ((((Pb.dk k.toNat pw salt r.toNat (l).toNat).length : Nat) : Int) = l))) rfl (by rw [decide_eq_true hc15])) rfl) rfl) (y_bin (ev (.int .i64 (((Pb.dk k.toNat pw salt r.toNat ((min 256 (l + ((more.toNat : Nat) : Int)))).toNat).length : Nat) : Int)) rfl rfl) (ev (.int .i64 (((Pb.dk k.toNat pw salt r.toNat (l).toNat).length : Nat) : Int)) rfl rfl) b_geq) ?_
  refine w_val (y_pick_t (ev (.bool true) (Eq.trans (b := .bool (decide ((((Pb.dk k.toNat pw salt r.toNat (l).toNat).length : Nat) : Int) = l))) rfl (by rw [decide_eq_true hc15])) rfl) (ev (.bool (decide ((((Pb.dk k.toNat pw salt r.toNat (l).toNat).length : Nat) : Int) ≤ (((Pb.dk k.toNat pw salt r.toNat ((min 256 (l + ((more.toNat : Nat) : Int)))).toNat).length : Nat) : Int)))) rfl rfl)) ?_
  refine w_mv (ev (.bool (decide ((((Pb.dk k.toNat pw salt r.toNat (l).toNat).length : Nat) : Int) ≤ (((Pb.dk k.toNat pw salt r.toNat ((min 256 (l + ((more.toNat : Nat) : Int)))).toNat).length : Nat) : Int)))) rfl rfl) ?_
  have hc16 : (((Pb.dk k.toNat pw salt r.toNat (l).toNat).length : Nat) : Int) ≤ (((Pb.dk k.toNat pw salt r.toNat ((min 256 (l + ((more.toNat : Nat) : Int)))).toNat).length : Nat) : Int) := by rw [Pb.dk_len, Pb.dk_len]; omega
  refine w_val_g (v := .string (str (Pb.dk k.toNat pw salt r.toNat ((min 256 (l + ((more.toNat : Nat) : Int)))).toNat))) (want_yes (j := 20) rfl rfl (ev (.bool true) (Eq.trans (b := .bool (decide ((((Pb.dk k.toNat pw salt r.toNat (l).toNat).length : Nat) : Int) ≤ (((Pb.dk k.toNat pw salt r.toNat ((min 256 (l + ((more.toNat : Nat) : Int)))).toNat).length : Nat) : Int)))) rfl (by rw [decide_eq_true hc16])) rfl) rfl) (y_mv (ev (.string (str (Pb.dk k.toNat pw salt r.toNat ((min 256 (l + ((more.toNat : Nat) : Int)))).toNat))) rfl rfl)) ?_
  refine w_val_g (v := .string (str (Pb.dk k.toNat pw salt r.toNat (l).toNat))) (want_yes (j := 20) rfl rfl (ev (.bool true) (Eq.trans (b := .bool (decide ((((Pb.dk k.toNat pw salt r.toNat (l).toNat).length : Nat) : Int) ≤ (((Pb.dk k.toNat pw salt r.toNat ((min 256 (l + ((more.toNat : Nat) : Int)))).toNat).length : Nat) : Int)))) rfl (by rw [decide_eq_true hc16])) rfl) rfl) (y_mv (ev (.string (str (Pb.dk k.toNat pw salt r.toNat (l).toNat))) rfl rfl)) ?_
  refine w_val_g (want_yes (j := 20) rfl rfl (ev (.bool true) (Eq.trans (b := .bool (decide ((((Pb.dk k.toNat pw salt r.toNat (l).toNat).length : Nat) : Int) ≤ (((Pb.dk k.toNat pw salt r.toNat ((min 256 (l + ((more.toNat : Nat) : Int)))).toNat).length : Nat) : Int)))) rfl (by rw [decide_eq_true hc16])) rfl) rfl) (y_len (ev (.string (str (Pb.dk k.toNat pw salt r.toNat (l).toNat))) rfl rfl) Tryd.underlying9) ?_
  refine w_val_g (v := .string (str ((Pb.dk k.toNat pw salt r.toNat ((min 256 (l + ((more.toNat : Nat) : Int)))).toNat).take ((Pb.dk k.toNat pw salt r.toNat (l).toNat).length)))) (want_yes (j := 20) rfl rfl (ev (.bool true) (Eq.trans (b := .bool (decide ((((Pb.dk k.toNat pw salt r.toNat (l).toNat).length : Nat) : Int) ≤ (((Pb.dk k.toNat pw salt r.toNat ((min 256 (l + ((more.toNat : Nat) : Int)))).toNat).length : Nat) : Int)))) rfl (by rw [decide_eq_true hc16])) rfl) rfl) (y_sls (ev (.string (str (Pb.dk k.toNat pw salt r.toNat ((min 256 (l + ((more.toNat : Nat) : Int)))).toNat))) rfl rfl) evo.no (evo.s (ev (.int .i64 (((Pb.dk k.toNat pw salt r.toNat (l).toNat).length : Nat) : Int)) rfl rfl)) Tryd.underlying9 (bnd_h (h := ((Pb.dk k.toNat pw salt r.toNat (l).toNat).length)) (by omega) (by (try simp only [Pb.dk_len]); omega))) ?_
  refine w_val_g (v := .string (str (Pb.dk k.toNat pw salt r.toNat (l).toNat))) (want_yes (j := 20) rfl rfl (ev (.bool true) (Eq.trans (b := .bool (decide ((((Pb.dk k.toNat pw salt r.toNat (l).toNat).length : Nat) : Int) ≤ (((Pb.dk k.toNat pw salt r.toNat ((min 256 (l + ((more.toNat : Nat) : Int)))).toNat).length : Nat) : Int)))) rfl (by rw [decide_eq_true hc16])) rfl) rfl) (y_mv (ev (.string (str (Pb.dk k.toNat pw salt r.toNat (l).toNat))) rfl rfl)) ?_
  refine w_val_g (want_yes (j := 20) rfl rfl (ev (.bool true) (Eq.trans (b := .bool (decide ((((Pb.dk k.toNat pw salt r.toNat (l).toNat).length : Nat) : Int) ≤ (((Pb.dk k.toNat pw salt r.toNat ((min 256 (l + ((more.toNat : Nat) : Int)))).toNat).length : Nat) : Int)))) rfl (by rw [decide_eq_true hc16])) rfl) rfl) (y_bin (ev (.string (str ((Pb.dk k.toNat pw salt r.toNat ((min 256 (l + ((more.toNat : Nat) : Int)))).toNat).take ((Pb.dk k.toNat pw salt r.toNat (l).toNat).length)))) rfl rfl) (ev (.string (str (Pb.dk k.toNat pw salt r.toNat (l).toNat))) rfl rfl) b_eqs) ?_
  refine w_val (y_pick_t (ev (.bool true) (Eq.trans (b := .bool (decide ((((Pb.dk k.toNat pw salt r.toNat (l).toNat).length : Nat) : Int) ≤ (((Pb.dk k.toNat pw salt r.toNat ((min 256 (l + ((more.toNat : Nat) : Int)))).toNat).length : Nat) : Int)))) rfl (by rw [decide_eq_true hc16])) rfl) (ev (.bool (decide (((Pb.dk k.toNat pw salt r.toNat ((min 256 (l + ((more.toNat : Nat) : Int)))).toNat).take ((Pb.dk k.toNat pw salt r.toNat (l).toNat).length)) = (Pb.dk k.toNat pw salt r.toNat (l).toNat)))) rfl rfl)) ?_
  refine w_as (ev (.bool (decide (((Pb.dk k.toNat pw salt r.toNat ((min 256 (l + ((more.toNat : Nat) : Int)))).toNat).take ((Pb.dk k.toNat pw salt r.toNat (l).toNat).length)) = (Pb.dk k.toNat pw salt r.toNat (l).toNat)))) rfl rfl) ?_
  refine nt ?_
  refine wp_ret ?_
  refine fin_ret1 rfl (ev (.bool (decide (((Pb.dk k.toNat pw salt r.toNat ((min 256 (l + ((more.toNat : Nat) : Int)))).toNat).take ((Pb.dk k.toNat pw salt r.toNat (l).toNat).length)) = (Pb.dk k.toNat pw salt r.toNat (l).toNat)))) rfl rfl) ?_
  refine ⟨congrArg Ending.returned ?_, hk⟩
  show (.bool (decide (((Pb.dk k.toNat pw salt r.toNat ((min 256 (l + ((more.toNat : Nat) : Int)))).toNat).take ((Pb.dk k.toNat pw salt r.toNat (l).toNat).length)) = (Pb.dk k.toNat pw salt r.toNat (l).toNat))) : Value) = .bool true
  exact congrArg Value.bool (decide_eq_true (by rw [Pb.dk_len]; exact Pb.dk_take _ _ _ _ _ _ (by omega)))

set_option maxRecDepth 100000 in
set_option maxHeartbeats 1000000 in
theorem pbkdfBegins_n (k : Int) (pw salt : List (BitVec 8)) (r l : Int) (more : BitVec 8) (he : Pb.err k salt r l ≠ 0) (w0 : World) (hT : Sha.Tabs w0) : Calls Tryd.prog 14 #[.agg (arr 5 (fun j => if j < 1 then .int .i64 k else if j < 2 then .string (str pw) else if j < 3 then .string (str salt) else if j < 4 then .int .i64 r else .int .i64 l)), U8 more] w0 fun e w' => e = .returned (.bool true) ∧ Below w0.heap.size w0 w' := by
 refine enter (n := 86) Tryd.func14 rfl rfl rfl ?_
 have hk : Below w0.heap.size w0 w0 := Below.refl _ _
 refine sr ?_
 refine w_box (m := 5) (F := fun j => if j < 1 then .int .i64 k else if j < 2 then .string (str pw) else if j < 3 then .string (str salt) else if j < 4 then .int .i64 r else .int .i64 l) (ev (.agg (arr 5 (fun j => if j < 1 then .int .i64 k else if j < 2 then .string (str pw) else if j < 3 then .string (str salt) else if j < 4 then .int .i64 r else .int .i64 l))) rfl rfl) rfl ?_
 intro b_a w1 hbe_b_a r_b_a hb2
 have ge_b_a : w0.heap.size ≤ b_a := by have := hk.size; omega
 clear hbe_b_a
 replace hk := thenB hk hb2
 replace hT := Sha.Tabs.below hT hb2
 refine w_as (evc (.bool false)) ?_
 refine nt ?_
 refine wp_seq ?_
 refine sr ?_
 refine w_call (Tryd.func34) (by kernel_rfl) rfl m0 (pbWakes_c w1 hT) ?_
 rintro _ w3 ⟨rfl, hb4⟩
 refine ⟨_, rfl, ?_⟩
 replace r_b_a := r_b_a.step hb4
 replace hk := thenB hk hb4
 replace hT := Sha.Tabs.below hT hb4
 refine w_val (y_not (ev (.bool true) rfl rfl)) ?_
 refine nt ?_
 refine c_ff (ev (.bool false) rfl rfl) ?_
 refine wp_skip ?_
 refine then_n ?_
 refine wp_seq ?_
 refine sr ?_
 refine w_val (v := .agg (arr 5 (fun j => if j < 1 then .int .i64 k else if j < 2 then .string (str pw) else if j < 3 then .string (str salt) else if j < 4 then .int .i64 r else .int .i64 l))) (y_lda (ev (pt b_a 0) rfl rfl) PbLBeginsT.ag67 PbLBeginsT.sz67 (fun j hj => by rw [Nat.zero_add]; exact (r_b_a.cell (by omega)))) ?_
 refine w_call (Tryd.func35) (by kernel_rfl) rfl (m1 (ev (.agg (arr 5 (fun j => if j < 1 then .int .i64 k else if j < 2 then .string (str pw) else if j < 3 then .string (str salt) else if j < 4 then .int .i64 r else .int .i64 l))) rfl rfl)) (pbLight_c k pw salt r l w3) ?_
 rintro _ w5 ⟨rfl, hb6⟩
 refine ⟨_, rfl, ?_⟩
 replace r_b_a := r_b_a.step hb6
 replace hk := thenB hk hb6
 replace hT := Sha.Tabs.below hT hb6
 refine w_val (y_notp (ev (.bool (decide (r ≤ 40 ∧ pw.length ≤ 2000 ∧ salt.length ≤ 1024))) rfl rfl)) ?_
 refine w_mv (ev (.bool (decide (¬ (r ≤ 40 ∧ pw.length ≤ 2000 ∧ salt.length ≤ 1024)))) rfl rfl) ?_
 by_cases hc7 : ¬ (r ≤ 40 ∧ pw.length ≤ 2000 ∧ salt.length ≤ 1024)
 ·skip
  first | with_reducible refine w_skip ?_ ?_ | refine w_skip ?_ ?_
  · exact want_no (j := 3) rfl rfl (ev (.bool true) (Eq.trans (b := .bool (decide (¬ (r ≤ 40 ∧ pw.length ≤ 2000 ∧ salt.length ≤ 1024)))) rfl (by rw [decide_eq_true hc7])) rfl) rfl
  first | with_reducible refine w_skip ?_ ?_ | refine w_skip ?_ ?_
  · exact want_no (j := 3) rfl rfl (ev (.bool true) (Eq.trans (b := .bool (decide (¬ (r ≤ 40 ∧ pw.length ≤ 2000 ∧ salt.length ≤ 1024)))) rfl (by rw [decide_eq_true hc7])) rfl) rfl
  first | with_reducible refine w_skip ?_ ?_ | refine w_skip ?_ ?_
  · exact want_no (j := 3) rfl rfl (ev (.bool true) (Eq.trans (b := .bool (decide (¬ (r ≤ 40 ∧ pw.length ≤ 2000 ∧ salt.length ≤ 1024)))) rfl (by rw [decide_eq_true hc7])) rfl) rfl
  first | with_reducible refine w_skip ?_ ?_ | refine w_skip ?_ ?_
  · exact want_no (j := 3) rfl rfl (ev (.bool true) (Eq.trans (b := .bool (decide (¬ (r ≤ 40 ∧ pw.length ≤ 2000 ∧ salt.length ≤ 1024)))) rfl (by rw [decide_eq_true hc7])) rfl) rfl
  first | with_reducible refine w_skip ?_ ?_ | refine w_skip ?_ ?_
  · exact want_no (j := 3) rfl rfl (ev (.bool true) (Eq.trans (b := .bool (decide (¬ (r ≤ 40 ∧ pw.length ≤ 2000 ∧ salt.length ≤ 1024)))) rfl (by rw [decide_eq_true hc7])) rfl) rfl
  first | with_reducible refine w_skip ?_ ?_ | refine w_skip ?_ ?_
  · exact want_no (j := 3) rfl rfl (ev (.bool true) (Eq.trans (b := .bool (decide (¬ (r ≤ 40 ∧ pw.length ≤ 2000 ∧ salt.length ≤ 1024)))) rfl (by rw [decide_eq_true hc7])) rfl) rfl
  first | with_reducible refine w_skip ?_ ?_ | refine w_skip ?_ ?_
  · exact want_no (j := 3) rfl rfl (ev (.bool true) (Eq.trans (b := .bool (decide (¬ (r ≤ 40 ∧ pw.length ≤ 2000 ∧ salt.length ≤ 1024)))) rfl (by rw [decide_eq_true hc7])) rfl) rfl
  first | with_reducible refine w_skip ?_ ?_ | refine w_skip ?_ ?_
  · exact want_no (j := 3) rfl rfl (ev (.bool true) (Eq.trans (b := .bool (decide (¬ (r ≤ 40 ∧ pw.length ≤ 2000 ∧ salt.length ≤ 1024)))) rfl (by rw [decide_eq_true hc7])) rfl) rfl
  first | with_reducible refine w_skip ?_ ?_ | refine w_skip ?_ ?_
  · exact want_no (j := 3) rfl rfl (ev (.bool true) (Eq.trans (b := .bool (decide (¬ (r ≤ 40 ∧ pw.length ≤ 2000 ∧ salt.length ≤ 1024)))) rfl (by rw [decide_eq_true hc7])) rfl) rfl
  first | with_reducible refine w_skip ?_ ?_ | refine w_skip ?_ ?_
  · exact want_no (j := 3) rfl rfl (ev (.bool true) (Eq.trans (b := .bool (decide (¬ (r ≤ 40 ∧ pw.length ≤ 2000 ∧ salt.length ≤ 1024)))) rfl (by rw [decide_eq_true hc7])) rfl) rfl
  refine w_val (y_pick_t (ev (.bool true) (Eq.trans (b := .bool (decide (¬ (r ≤ 40 ∧ pw.length ≤ 2000 ∧ salt.length ≤ 1024)))) rfl (by rw [decide_eq_true hc7])) rfl) (evc (.bool true))) ?_
  refine nt ?_
  refine c_tt (ev (.bool true) rfl rfl) ?_
  refine sr ?_
  refine w_as (evc (.bool true)) ?_
  refine nt ?_
  refine wp_ret ?_
  refine then_r ?_
  refine fin_ret1 rfl (ev (.bool true) rfl rfl) ?_
  exact ⟨rfl, hk⟩
 ·skip
  refine w_val_g (v := pt b_a 0) (want_yes (j := 3) rfl rfl (ev (.bool false) (Eq.trans (b := .bool (decide (¬ (r ≤ 40 ∧ pw.length ≤ 2000 ∧ salt.length ≤ 1024)))) rfl (by rw [decide_eq_false hc7])) rfl) rfl) (y_off (y_fa (ev (pt b_a 0) rfl rfl) (PbLBeginsT.fa67_0 _ _)) (by first | rfl | omega)) ?_
  refine w_val_g (v := .int .i64 k) (want_yes (j := 3) rfl rfl (ev (.bool false) (Eq.trans (b := .bool (decide (¬ (r ≤ 40 ∧ pw.length ≤ 2000 ∧ salt.length ≤ 1024)))) rfl (by rw [decide_eq_false hc7])) rfl) rfl) (y_ld (ev (pt b_a 0) rfl rfl) PbLBeginsT.sc3 (r_b_a.val (by omega) (etv (if_pos (by omega))))) ?_
  refine w_val_g (v := pt b_a 2) (want_yes (j := 3) rfl rfl (ev (.bool false) (Eq.trans (b := .bool (decide (¬ (r ≤ 40 ∧ pw.length ≤ 2000 ∧ salt.length ≤ 1024)))) rfl (by rw [decide_eq_false hc7])) rfl) rfl) (y_off (y_fa (ev (pt b_a 0) rfl rfl) (PbLBeginsT.fa67_2 _ _)) (by first | rfl | omega)) ?_
  refine w_val_g (v := .string (str salt)) (want_yes (j := 3) rfl rfl (ev (.bool false) (Eq.trans (b := .bool (decide (¬ (r ≤ 40 ∧ pw.length ≤ 2000 ∧ salt.length ≤ 1024)))) rfl (by rw [decide_eq_false hc7])) rfl) rfl) (y_ld (ev (pt b_a 2) rfl rfl) PbLBeginsT.sc9 (r_b_a.val (by omega) ((if_neg (by omega)).trans ((if_neg (by omega)).trans (etv (if_pos (by omega))))))) ?_
  refine w_val_g (v := pt b_a 3) (want_yes (j := 3) rfl rfl (ev (.bool false) (Eq.trans (b := .bool (decide (¬ (r ≤ 40 ∧ pw.length ≤ 2000 ∧ salt.length ≤ 1024)))) rfl (by rw [decide_eq_false hc7])) rfl) rfl) (y_off (y_fa (ev (pt b_a 0) rfl rfl) (PbLBeginsT.fa67_3 _ _)) (by first | rfl | omega)) ?_
  refine w_val_g (v := .int .i64 r) (want_yes (j := 3) rfl rfl (ev (.bool false) (Eq.trans (b := .bool (decide (¬ (r ≤ 40 ∧ pw.length ≤ 2000 ∧ salt.length ≤ 1024)))) rfl (by rw [decide_eq_false hc7])) rfl) rfl) (y_ld (ev (pt b_a 3) rfl rfl) PbLBeginsT.sc3 (r_b_a.val (by omega) ((if_neg (by omega)).trans ((if_neg (by omega)).trans ((if_neg (by omega)).trans (etv (if_pos (by omega)))))))) ?_
  refine w_val_g (v := pt b_a 4) (want_yes (j := 3) rfl rfl (ev (.bool false) (Eq.trans (b := .bool (decide (¬ (r ≤ 40 ∧ pw.length ≤ 2000 ∧ salt.length ≤ 1024)))) rfl (by rw [decide_eq_false hc7])) rfl) rfl) (y_off (y_fa (ev (pt b_a 0) rfl rfl) (PbLBeginsT.fa67_4 _ _)) (by first | rfl | omega)) ?_
  refine w_val_g (v := .int .i64 l) (want_yes (j := 3) rfl rfl (ev (.bool false) (Eq.trans (b := .bool (decide (¬ (r ≤ 40 ∧ pw.length ≤ 2000 ∧ salt.length ≤ 1024)))) rfl (by rw [decide_eq_false hc7])) rfl) rfl) (y_ld (ev (pt b_a 4) rfl rfl) PbLBeginsT.sc3 (r_b_a.val (by omega) ((if_neg (by omega)).trans ((if_neg (by omega)).trans ((if_neg (by omega)).trans ((if_neg (by omega)).trans (by first | with_reducible rfl | (with_reducible congr 1 <;> omega) | (with_reducible congr 2 <;> omega) | (with_reducible congr 3 <;> omega) | rfl))))))) ?_
  refine w_unguard (want_yes (j := 3) rfl rfl (ev (.bool false) (Eq.trans (b := .bool (decide (¬ (r ≤ 40 ∧ pw.length ≤ 2000 ∧ salt.length ≤ 1024)))) rfl (by rw [decide_eq_false hc7])) rfl) rfl) ?_
  refine w_call (Tryd.func38) (by kernel_rfl) rfl (m4 (ev (.int .i64 k) rfl rfl) (ev (.string (str salt)) rfl rfl) (ev (.int .i64 r) rfl rfl) (ev (.int .i64 l) rfl rfl)) (pbWrong_l k [] salt r l w5 ) ?_
  rintro _ w8 ⟨rfl, hb9⟩
  refine ⟨_, rfl, ?_⟩
  replace r_b_a := r_b_a.step hb9
  replace hk := thenB hk hb9
  replace hT := Sha.Tabs.below hT hb9
  refine w_val_g (want_yes (j := 3) rfl rfl (ev (.bool false) (Eq.trans (b := .bool (decide (¬ (r ≤ 40 ∧ pw.length ≤ 2000 ∧ salt.length ≤ 1024)))) rfl (by rw [decide_eq_false hc7])) rfl) rfl) (y_bin (ev (.int .i64 (Pb.err k salt r l)) rfl rfl) (evc (.int .i64 0)) b_neq) ?_
  refine w_val (y_pick_f (ev (.bool false) (Eq.trans (b := .bool (decide (¬ (r ≤ 40 ∧ pw.length ≤ 2000 ∧ salt.length ≤ 1024)))) rfl (by rw [decide_eq_false hc7])) rfl) (ev (.bool (decide ((Pb.err k salt r l) ≠ 0))) rfl rfl)) ?_
  refine nt ?_
  have hc10 : (Pb.err k salt r l) ≠ 0 := by exact he
  refine c_t (p := (Pb.err k salt r l) ≠ 0) (ev (.bool (decide ((Pb.err k salt r l) ≠ 0))) rfl rfl) hc10 ?_
  refine sr ?_
  refine w_as (evc (.bool true)) ?_
  refine nt ?_
  refine wp_ret ?_
  refine then_r ?_
  refine fin_ret1 rfl (ev (.bool true) rfl rfl) ?_
  exact ⟨rfl, hk⟩

theorem walk_PbkdfBegins (k : Int) (pw salt : List (BitVec 8)) (r l : Int) (wk : (Lit.int .i64 k).wf = true) (wr : (Lit.int .i64 r).wf = true) (wl : (Lit.int .i64 l).wf = true) (more : BitVec 8) (w : World) (hT : Sha.Tabs w) : Calls Tryd.prog 14 #[.agg #[.int .i64 k, .string (str pw), .string (str salt), .int .i64 r, .int .i64 l], U8 more] w fun e w' => e = .returned (.bool true) ∧ Below w.heap.size w w' := by
  by_cases he : Pb.err k salt r l = 0
  · exact pbkdfBegins_y k pw salt r l more he w hT
  · exact pbkdfBegins_n k pw salt r l more he w hT
end Go.Proofs.YtieepglpejlkoaaDoor
