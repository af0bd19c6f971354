/-
  Keys from passwords: what is light. Conditions as each says.
-/
import Derived.Test.YtieepglpejlkoaaDoorRows
import Derived.Test.YtieepglpejlkoaaDoorPbW
import Derived.ProofKit
namespace Go.Proofs.YtieepglpejlkoaaDoor
open Go.RowKit
set_option linter.unusedSimpArgs false
set_option linter.unusedVariables false
namespace PbLT
theorem mixed : Tryd.prog.follows .mixedOrders = true := by kernel_rfl
theorem ag67 : (Tryd.prog.underlying 67).map isAggD = some true := by rw [Tryd.underlying67]; rfl
theorem fa67_0 (g off : Nat) : ∀ w, (Instr.fieldAt 67 (.pointer (some ⟨g, off, none⟩)) 0).run Tryd.prog w = .ok (.pointer (some ⟨g, off + 0, none⟩)) w := fun w => by kernel_rfl
theorem fa67_1 (g off : Nat) : ∀ w, (Instr.fieldAt 67 (.pointer (some ⟨g, off, none⟩)) 1).run Tryd.prog w = .ok (.pointer (some ⟨g, off + 1, none⟩)) w := fun w => by kernel_rfl
theorem fa67_2 (g off : Nat) : ∀ w, (Instr.fieldAt 67 (.pointer (some ⟨g, off, none⟩)) 2).run Tryd.prog w = .ok (.pointer (some ⟨g, off + 2, none⟩)) w := fun w => by kernel_rfl
theorem fa67_3 (g off : Nat) : ∀ w, (Instr.fieldAt 67 (.pointer (some ⟨g, off, none⟩)) 3).run Tryd.prog w = .ok (.pointer (some ⟨g, off + 3, none⟩)) w := fun w => by kernel_rfl
theorem fa67_4 (g off : Nat) : ∀ w, (Instr.fieldAt 67 (.pointer (some ⟨g, off, none⟩)) 4).run Tryd.prog w = .ok (.pointer (some ⟨g, off + 4, none⟩)) w := fun w => by kernel_rfl
theorem sc3 : (Tryd.prog.underlying 3).map scal = some true := by rw [Tryd.underlying3]; rfl
theorem sc5 : (Tryd.prog.underlying 5).map scal = some true := by rw [Tryd.underlying5]; rfl
theorem sc9 : (Tryd.prog.underlying 9).map scal = some true := by rw [Tryd.underlying9]; rfl
theorem so5 : (Tryd.prog.underlying 5).isSome = true := by rw [Tryd.underlying5]; rfl
theorem sz5 : (Tryd.prog.info? 5).map (·.size) = some 1 := by kernel_rfl
theorem sz67 : (Tryd.prog.info? 67).map (·.size) = some 5 := by kernel_rfl
end PbLT
set_option maxRecDepth 100000 in
set_option maxHeartbeats 1000000 in
theorem pbLight_c (k : Int) (pw salt : List (BitVec 8)) (r l : Int) (w0 : World) : Calls Tryd.prog 35 #[.agg (arr 5 (fun j => if j < 1 then .int .i64 k else if j < 2 then .string (str pw) else if j < 3 then .string (str salt) else if j < 4 then .int .i64 r else .int .i64 l))] w0 fun e w' => e = .returned (.bool (decide (r ≤ 40 ∧ pw.length ≤ 2000 ∧ salt.length ≤ 1024))) ∧ Below w0.heap.size w0 w' := by
 refine enter (n := 18) Tryd.func35 rfl rfl rfl ?_
 have hk : Below w0.heap.size w0 w0 := Below.refl _ _
 refine sr ?_
 refine w_box (m := 5) (F := fun j => if j < 1 then .int .i64 k else if j < 2 then .string (str pw) else if j < 3 then .string (str salt) else if j < 4 then .int .i64 r else .int .i64 l) (ev (.agg (arr 5 (fun j => if j < 1 then .int .i64 k else if j < 2 then .string (str pw) else if j < 3 then .string (str salt) else if j < 4 then .int .i64 r else .int .i64 l))) rfl rfl) rfl ?_
 intro b_a w1 hbe_b_a r_b_a hb2
 have ge_b_a : w0.heap.size ≤ b_a := by have := hk.size; omega
 clear hbe_b_a
 replace hk := thenB hk hb2
 refine w_as (evc (.bool false)) ?_
 refine nt ?_
 refine sr ?_
 refine w_val (v := pt b_a 3) (y_off (y_fa (ev (pt b_a 0) rfl rfl) (PbLT.fa67_3 _ _)) (by first | rfl | omega)) ?_
 refine w_val (v := .int .i64 r) (y_ld (ev (pt b_a 3) rfl rfl) PbLT.sc3 (r_b_a.val (by omega) ((if_neg (by omega)).trans ((if_neg (by omega)).trans ((if_neg (by omega)).trans (etv (if_pos (by omega)))))))) ?_
 refine w_val (y_bin (ev (.int .i64 r) rfl rfl) (evc (.int .i64 40)) b_leq) ?_
 refine w_mv (ev (.bool (decide (r ≤ 40))) rfl rfl) ?_
 by_cases hc3 : r ≤ 40
 ·skip
  refine w_val_g (v := pt b_a 1) (want_yes (j := 3) rfl rfl (ev (.bool true) (Eq.trans (b := .bool (decide (r ≤ 40))) rfl (by rw [decide_eq_true hc3])) rfl) rfl) (y_off (y_fa (ev (pt b_a 0) rfl rfl) (PbLT.fa67_1 _ _)) (by first | rfl | omega)) ?_
  refine w_val_g (v := .string (str pw)) (want_yes (j := 3) rfl rfl (ev (.bool true) (Eq.trans (b := .bool (decide (r ≤ 40))) rfl (by rw [decide_eq_true hc3])) rfl) rfl) (y_ld (ev (pt b_a 1) rfl rfl) PbLT.sc9 (r_b_a.val (by omega) ((if_neg (by omega)).trans (etv (if_pos (by omega)))))) ?_
  refine w_val_g (want_yes (j := 3) rfl rfl (ev (.bool true) (Eq.trans (b := .bool (decide (r ≤ 40))) rfl (by rw [decide_eq_true hc3])) rfl) rfl) (y_len (ev (.string (str pw)) rfl rfl) Tryd.underlying9) ?_
  refine w_val_g (want_yes (j := 3) rfl rfl (ev (.bool true) (Eq.trans (b := .bool (decide (r ≤ 40))) rfl (by rw [decide_eq_true hc3])) rfl) rfl) (y_bin (ev (.int .i64 ((pw.length : Nat) : Int)) rfl rfl) (evc (.int .i64 2000)) b_leq) ?_
  refine w_val (y_pick_t (ev (.bool true) (Eq.trans (b := .bool (decide (r ≤ 40))) rfl (by rw [decide_eq_true hc3])) rfl) (ev (.bool (decide (((pw.length : Nat) : Int) ≤ 2000))) rfl rfl)) ?_
  refine w_mv (ev (.bool (decide (((pw.length : Nat) : Int) ≤ 2000))) rfl rfl) ?_
  by_cases hc4 : ((pw.length : Nat) : Int) ≤ 2000
  ·skip
   refine w_val_g (v := pt b_a 2) (want_yes (j := 9) rfl rfl (ev (.bool true) (Eq.trans (b := .bool (decide (((pw.length : Nat) : Int) ≤ 2000))) rfl (by rw [decide_eq_true hc4])) rfl) rfl) (y_off (y_fa (ev (pt b_a 0) rfl rfl) (PbLT.fa67_2 _ _)) (by first | rfl | omega)) ?_
   refine w_val_g (v := .string (str salt)) (want_yes (j := 9) rfl rfl (ev (.bool true) (Eq.trans (b := .bool (decide (((pw.length : Nat) : Int) ≤ 2000))) rfl (by rw [decide_eq_true hc4])) rfl) rfl) (y_ld (ev (pt b_a 2) rfl rfl) PbLT.sc9 (r_b_a.val (by omega) ((if_neg (by omega)).trans ((if_neg (by omega)).trans (etv (if_pos (by omega))))))) ?_
   refine w_val_g (want_yes (j := 9) rfl rfl (ev (.bool true) (Eq.trans (b := .bool (decide (((pw.length : Nat) : Int) ≤ 2000))) rfl (by rw [decide_eq_true hc4])) rfl) rfl) (y_len (ev (.string (str salt)) rfl rfl) Tryd.underlying9) ?_
   refine w_val_g (want_yes (j := 9) rfl rfl (ev (.bool true) (Eq.trans (b := .bool (decide (((pw.length : Nat) : Int) ≤ 2000))) rfl (by rw [decide_eq_true hc4])) rfl) rfl) (y_bin (ev (.int .i64 ((salt.length : Nat) : Int)) rfl rfl) (evc (.int .i64 1024)) b_leq) ?_
   refine w_val (y_pick_t (ev (.bool true) (Eq.trans (b := .bool (decide (((pw.length : Nat) : Int) ≤ 2000))) rfl (by rw [decide_eq_true hc4])) rfl) (ev (.bool (decide (((salt.length : Nat) : Int) ≤ 1024))) rfl rfl)) ?_
   refine w_as (ev (.bool (decide (((salt.length : Nat) : Int) ≤ 1024))) rfl rfl) ?_
   refine nt ?_
   refine wp_ret ?_
   refine fin_ret1 rfl (ev (.bool (decide (((salt.length : Nat) : Int) ≤ 1024))) rfl rfl) ?_
   refine ⟨congrArg Ending.returned ?_, hk⟩
   show (.bool (decide (((salt.length : Nat) : Int) ≤ 1024)) : Value) = .bool (decide (r ≤ 40 ∧ pw.length ≤ 2000 ∧ salt.length ≤ 1024))
   first | exact congrArg Value.bool (decide_eq_false (by omega)).symm | exact congrArg Value.bool (decide_eq_decide.2 (by omega))
  ·skip
   first | with_reducible refine w_skip ?_ ?_ | refine w_skip ?_ ?_
   · exact want_no (j := 9) rfl rfl (ev (.bool false) (Eq.trans (b := .bool (decide (((pw.length : Nat) : Int) ≤ 2000))) rfl (by rw [decide_eq_false hc4])) rfl) rfl
   first | with_reducible refine w_skip ?_ ?_ | refine w_skip ?_ ?_
   · exact want_no (j := 9) rfl rfl (ev (.bool false) (Eq.trans (b := .bool (decide (((pw.length : Nat) : Int) ≤ 2000))) rfl (by rw [decide_eq_false hc4])) rfl) rfl
   first | with_reducible refine w_skip ?_ ?_ | refine w_skip ?_ ?_
   · exact want_no (j := 9) rfl rfl (ev (.bool false) (Eq.trans (b := .bool (decide (((pw.length : Nat) : Int) ≤ 2000))) rfl (by rw [decide_eq_false hc4])) rfl) rfl
   first | with_reducible refine w_skip ?_ ?_ | refine w_skip ?_ ?_
   · exact want_no (j := 9) rfl rfl (ev (.bool false) (Eq.trans (b := .bool (decide (((pw.length : Nat) : Int) ≤ 2000))) rfl (by rw [decide_eq_false hc4])) rfl) rfl
   refine w_val (y_pick_f (ev (.bool false) (Eq.trans (b := .bool (decide (((pw.length : Nat) : Int) ≤ 2000))) rfl (by rw [decide_eq_false hc4])) rfl) (evc (.bool false))) ?_
   refine w_as (ev (.bool false) rfl rfl) ?_
   refine nt ?_
   refine wp_ret ?_
   refine fin_ret1 rfl (ev (.bool false) rfl rfl) ?_
   refine ⟨congrArg Ending.returned ?_, hk⟩
   show (.bool false : Value) = .bool (decide (r ≤ 40 ∧ pw.length ≤ 2000 ∧ salt.length ≤ 1024))
   first | exact congrArg Value.bool (decide_eq_false (by omega)).symm | exact congrArg Value.bool (decide_eq_decide.2 (by omega))
 ·skip
  first | with_reducible refine w_skip ?_ ?_ | refine w_skip ?_ ?_
  · exact want_no (j := 3) rfl rfl (ev (.bool false) (Eq.trans (b := .bool (decide (r ≤ 40))) rfl (by rw [decide_eq_false hc3])) rfl) rfl
  first | with_reducible refine w_skip ?_ ?_ | refine w_skip ?_ ?_
  · exact want_no (j := 3) rfl rfl (ev (.bool false) (Eq.trans (b := .bool (decide (r ≤ 40))) rfl (by rw [decide_eq_false hc3])) rfl) rfl
  first | with_reducible refine w_skip ?_ ?_ | refine w_skip ?_ ?_
  · exact want_no (j := 3) rfl rfl (ev (.bool false) (Eq.trans (b := .bool (decide (r ≤ 40))) rfl (by rw [decide_eq_false hc3])) rfl) rfl
  first | with_reducible refine w_skip ?_ ?_ | refine w_skip ?_ ?_
  · exact want_no (j := 3) rfl rfl (ev (.bool false) (Eq.trans (b := .bool (decide (r ≤ 40))) rfl (by rw [decide_eq_false hc3])) rfl) rfl
  refine w_val (y_pick_f (ev (.bool false) (Eq.trans (b := .bool (decide (r ≤ 40))) rfl (by rw [decide_eq_false hc3])) rfl) (evc (.bool false))) ?_
  refine w_mv (ev (.bool false) rfl rfl) ?_
  first | with_reducible refine w_skip ?_ ?_ | refine w_skip ?_ ?_
  · exact want_no (j := 9) rfl rfl (ev (.bool false) rfl rfl) rfl
  first | with_reducible refine w_skip ?_ ?_ | refine w_skip ?_ ?_
  · exact want_no (j := 9) rfl rfl (ev (.bool false) rfl rfl) rfl
  first | with_reducible refine w_skip ?_ ?_ | refine w_skip ?_ ?_
  · exact want_no (j := 9) rfl rfl (ev (.bool false) rfl rfl) rfl
  first | with_reducible refine w_skip ?_ ?_ | refine w_skip ?_ ?_
  · exact want_no (j := 9) rfl rfl (ev (.bool false) rfl rfl) rfl
  refine w_val (y_pick_f (ev (.bool false) rfl rfl) (evc (.bool false))) ?_
  refine w_as (ev (.bool false) rfl rfl) ?_
  refine nt ?_
  refine wp_ret ?_
  refine fin_ret1 rfl (ev (.bool false) rfl rfl) ?_
  refine ⟨congrArg Ending.returned ?_, hk⟩
  show (.bool false : Value) = .bool (decide (r ≤ 40 ∧ pw.length ≤ 2000 ∧ salt.length ≤ 1024))
  first | exact congrArg Value.bool (decide_eq_false (by omega)).symm | exact congrArg Value.bool (decide_eq_decide.2 (by omega))
end Go.Proofs.YtieepglpejlkoaaDoor
