/-
  The walk of the law ShaCopies. Conditions as each says.
-/
import Derived.Test.YtieepglpejlkoaaDoorRows
import Derived.Test.YtieepglpejlkoaaDoorShaW
import Derived.ProofKit
namespace Go.Proofs.YtieepglpejlkoaaDoor
open Go.RowKit
set_option linter.unusedSimpArgs false
set_option linter.unusedVariables false
namespace ShaWCopiesT
theorem mixed : Tryd.prog.follows .mixedOrders = true := by kernel_rfl
theorem fa44_1 (g off : Nat) : ∀ w, (Instr.fieldAt 44 (.pointer (some ⟨g, off, none⟩)) 1).run Tryd.prog w = .ok (.pointer (some ⟨g, off + 1, none⟩)) w := fun w => by kernel_rfl
theorem fa44_2 (g off : Nat) : ∀ w, (Instr.fieldAt 44 (.pointer (some ⟨g, off, none⟩)) 2).run Tryd.prog w = .ok (.pointer (some ⟨g, off + 2, none⟩)) w := fun w => by kernel_rfl
theorem fa53_0 (g off : Nat) : ∀ w, (Instr.fieldAt 53 (.pointer (some ⟨g, off, none⟩)) 0).run Tryd.prog w = .ok (.pointer (some ⟨g, off + 0, none⟩)) w := fun w => by kernel_rfl
theorem sc3 : (Tryd.prog.underlying 3).map scal = some true := by rw [Tryd.underlying3]; rfl
theorem sc9 : (Tryd.prog.underlying 9).map scal = some true := by rw [Tryd.underlying9]; rfl
theorem sz9 : (Tryd.prog.info? 9).map (·.size) = some 1 := by kernel_rfl
end ShaWCopiesT
set_option maxRecDepth 100000 in
set_option maxHeartbeats 1000000 in
theorem shaCopies_n (k : Int) (k1 : k ≠ 256) (k2 : k ≠ 384) (k3 : k ≠ 512) (a : Nat → List (BitVec 8)) (w0 : World) (hT : Sha.Tabs w0) : Calls Tryd.prog 6 #[.int .i64 k, .agg (arr 3 (fun j => .string (str (a j))))] w0 fun e w' => e = .returned (.bool true) ∧ Below w0.heap.size w0 w' := by
 have hT0 := hT.lt
 refine enter (n := 112) Tryd.func6 rfl rfl rfl ?_
 have hk : Below w0.heap.size w0 w0 := Below.refl _ _
 refine wp_seq ?_
 refine wp_region_lit ?_
 refine w_box (m := 3) (F := fun j => .string (str (a j))) (ev (.agg (arr 3 (fun j => .string (str (a j))))) rfl rfl) rfl ?_
 intro b_a w1 hbe_b_a r_b_a hb2
 have ge_b_a : w0.heap.size ≤ b_a := by have := hk.size; omega
 clear hbe_b_a
 replace hk := thenB hk hb2
 replace hT := Sha.Tabs.below hT hb2
 refine w_as (evc (.bool false)) ?_
 refine wpList_nil ?_
 refine then_n ?_
 refine wp_seq ?_
 refine wp_region_lit ?_
 refine w_mv (ev (.int .i64 k) rfl rfl) ?_
 refine w_call (Tryd.func20) (by kernel_rfl) rfl (m1 (ev (.int .i64 k) rfl rfl)) (shaNew_no k k1 k2 k3 w1 ) ?_
 rintro _ w3 ⟨rfl, hb4⟩
 refine ⟨_, rfl, ?_⟩
 replace r_b_a := r_b_a.step hb4
 replace hk := thenB hk hb4
 replace hT := Sha.Tabs.below hT hb4
 refine w_mv (ev (.tuple #[.pointer none, .int .i64 11]) rfl rfl) ?_
 refine w_val (v := .pointer none) (y_ext (v := .pointer none) (ev (.tuple #[.pointer none, .int .i64 11]) rfl rfl) rfl) ?_
 refine w_val (v := .int .i64 11) (y_ext (v := .int .i64 11) (ev (.tuple #[.pointer none, .int .i64 11]) rfl rfl) rfl) ?_
 refine w_as (ev (.pointer none) rfl rfl) ?_
 refine w_as (ev (.int .i64 11) rfl rfl) ?_
 refine wpList_nil ?_
 refine then_n ?_
 refine wp_seq ?_
 refine wp_seq ?_
 refine wp_region_lit ?_
 refine w_call (Tryd.func16) (by kernel_rfl) rfl m0 (shaWakes_c w3 hT) ?_
 rintro _ w5 ⟨rfl, hb6⟩
 refine ⟨_, rfl, ?_⟩
 replace r_b_a := r_b_a.step hb6
 replace hk := thenB hk hb6
 replace hT := Sha.Tabs.below hT hb6
 refine w_val (v := .bool false) (y_not (ev (.bool true) rfl rfl)) ?_
 refine wpList_nil ?_
 refine then_n ?_
 refine c_ff (ev (.bool false) rfl rfl) ?_
 refine wp_skip ?_
 refine then_n ?_
 refine wp_seq ?_
 refine wp_seq ?_
 refine wp_region_lit ?_
 refine w_mv (ev (.int .i64 11) rfl rfl) ?_
 refine w_val (v := .bool true) (y_bin (ev (.int .i64 11) rfl rfl) (evc (.int .i64 0)) b_neq) ?_
 refine w_mv (ev (.bool true) rfl rfl) ?_
 first | with_reducible refine w_skip ?_ ?_ | refine w_skip ?_ ?_
 · exact want_no (j := 2) rfl rfl (ev (.bool true) rfl rfl) rfl
 first | with_reducible refine w_skip ?_ ?_ | refine w_skip ?_ ?_
 · exact want_no (j := 2) rfl rfl (ev (.bool true) rfl rfl) rfl
 first | with_reducible refine w_skip ?_ ?_ | refine w_skip ?_ ?_
 · exact want_no (j := 2) rfl rfl (ev (.bool true) rfl rfl) rfl
 first | with_reducible refine w_skip ?_ ?_ | refine w_skip ?_ ?_
 · exact want_no (j := 2) rfl rfl (ev (.bool true) rfl rfl) rfl
 refine w_val (v := .bool true) (y_pick_t (ev (.bool true) rfl rfl) (evc (.bool true))) ?_
 refine w_mv (ev (.bool true) rfl rfl) ?_
 first | with_reducible refine w_skip ?_ ?_ | refine w_skip ?_ ?_
 · exact want_no (j := 8) rfl rfl (ev (.bool true) rfl rfl) rfl
 first | with_reducible refine w_skip ?_ ?_ | refine w_skip ?_ ?_
 · exact want_no (j := 8) rfl rfl (ev (.bool true) rfl rfl) rfl
 first | with_reducible refine w_skip ?_ ?_ | refine w_skip ?_ ?_
 · exact want_no (j := 8) rfl rfl (ev (.bool true) rfl rfl) rfl
 first | with_reducible refine w_skip ?_ ?_ | refine w_skip ?_ ?_
 · exact want_no (j := 8) rfl rfl (ev (.bool true) rfl rfl) rfl
 refine w_val (v := .bool true) (y_pick_t (ev (.bool true) rfl rfl) (evc (.bool true))) ?_
 refine w_mv (ev (.bool true) rfl rfl) ?_
 first | with_reducible refine w_skip ?_ ?_ | refine w_skip ?_ ?_
 · exact want_no (j := 14) rfl rfl (ev (.bool true) rfl rfl) rfl
 first | with_reducible refine w_skip ?_ ?_ | refine w_skip ?_ ?_
 · exact want_no (j := 14) rfl rfl (ev (.bool true) rfl rfl) rfl
 first | with_reducible refine w_skip ?_ ?_ | refine w_skip ?_ ?_
 · exact want_no (j := 14) rfl rfl (ev (.bool true) rfl rfl) rfl
 first | with_reducible refine w_skip ?_ ?_ | refine w_skip ?_ ?_
 · exact want_no (j := 14) rfl rfl (ev (.bool true) rfl rfl) rfl
 refine w_val (v := .bool true) (y_pick_t (ev (.bool true) rfl rfl) (evc (.bool true))) ?_
 refine wpList_nil ?_
 refine then_n ?_
 refine c_tt (ev (.bool true) rfl rfl) ?_
 refine wp_seq ?_
 refine wp_region_lit ?_
 refine w_mv (ev (.int .i64 11) rfl rfl) ?_
 refine w_val (v := .bool false) (y_bin (ev (.int .i64 11) rfl rfl) (evc (.int .i64 0)) b_eql) ?_
 refine w_mv (ev (.bool false) rfl rfl) ?_
 refine w_val_g (v := .int .i64 k) (want_yes (j := 2) rfl rfl (ev (.bool false) rfl rfl) rfl) (y_mv (ev (.int .i64 k) rfl rfl)) ?_
 refine w_unguard (want_yes (j := 2) rfl rfl (ev (.bool false) rfl rfl) rfl) ?_
 refine w_call (Tryd.func21) (by kernel_rfl) rfl (m1 (ev (.int .i64 k) rfl rfl)) (known_no k k1 k2 k3 w5 ) ?_
 rintro _ w7 ⟨rfl, hb8⟩
 refine ⟨_, rfl, ?_⟩
 replace r_b_a := r_b_a.step hb8
 replace hk := thenB hk hb8
 replace hT := Sha.Tabs.below hT hb8
 refine w_val_g (v := .bool true) (want_yes (j := 2) rfl rfl (ev (.bool false) rfl rfl) rfl) (y_not (ev (.bool false) rfl rfl)) ?_
 refine w_val (v := .bool true) (y_pick_f (ev (.bool false) rfl rfl) (ev (.bool true) rfl rfl)) ?_
 refine w_as (ev (.bool true) rfl rfl) ?_
 refine wpList_nil ?_
 refine then_n ?_
 refine wp_ret ?_
 refine then_r ?_
 refine fin_ret1 rfl (ev (.bool true) rfl rfl) ?_
 exact ⟨rfl, hk⟩

set_option maxRecDepth 100000 in
set_option maxHeartbeats 1000000 in
theorem shaCopies_y (kind : Nat) (hkd : Sha.Known kind) (a : Nat → List (BitVec 8)) (w0 : World) (hT : Sha.Tabs w0) : Calls Tryd.prog 6 #[.int .i64 ((kind : Nat) : Int), .agg (arr 3 (fun j => .string (str (a j))))] w0 fun e w' => e = .returned (.bool true) ∧ Below w0.heap.size w0 w' := by
 have hT0 := hT.lt
 refine enter (n := 112) Tryd.func6 rfl rfl rfl ?_
 have hk : Below w0.heap.size w0 w0 := Below.refl _ _
 refine wp_seq ?_
 refine wp_region_lit ?_
 refine w_box (m := 3) (F := fun j => .string (str (a j))) (ev (.agg (arr 3 (fun j => .string (str (a j))))) rfl rfl) rfl ?_
 intro b_a w1 hbe_b_a r_b_a hb2
 have ge_b_a : w0.heap.size ≤ b_a := by have := hk.size; omega
 clear hbe_b_a
 replace hk := thenB hk hb2
 replace hT := Sha.Tabs.below hT hb2
 refine w_as (evc (.bool false)) ?_
 refine wpList_nil ?_
 refine then_n ?_
 refine wp_seq ?_
 refine wp_region_lit ?_
 refine w_mv (ev (.int .i64 ((kind : Nat) : Int)) rfl rfl) ?_
 refine w_call (Tryd.func20) (by kernel_rfl) rfl (m1 (ev (.int .i64 ((kind : Nat) : Int)) rfl rfl)) (new_at kind w1 hkd) ?_
 rintro _ w3 ⟨p, rfl, hge_p, ha, hb_p⟩
 refine ⟨_, rfl, ?_⟩
 have ne_b_a_p : b_a ≠ p := by have := r_b_a.lt; omega
 have ge_p : w0.heap.size ≤ p := by have := hk.size; omega
 replace r_b_a := r_b_a.step hb_p
 replace hk := thenB hk hb_p
 replace hT := Sha.Tabs.below hT hb_p
 refine w_mv (ev (.tuple #[pt p 0, .int .i64 0]) rfl rfl) ?_
 refine w_val (v := pt p 0) (y_ext (v := pt p 0) (ev (.tuple #[pt p 0, .int .i64 0]) rfl rfl) rfl) ?_
 refine w_val (v := .int .i64 0) (y_ext (v := .int .i64 0) (ev (.tuple #[pt p 0, .int .i64 0]) rfl rfl) rfl) ?_
 refine w_as (ev (pt p 0) rfl rfl) ?_
 refine w_as (ev (.int .i64 0) rfl rfl) ?_
 refine wpList_nil ?_
 refine then_n ?_
 refine wp_seq ?_
 refine wp_seq ?_
 refine wp_region_lit ?_
 refine w_call (Tryd.func16) (by kernel_rfl) rfl m0 (shaWakes_c w3 hT) ?_
 rintro _ w4 ⟨rfl, hb5⟩
 refine ⟨_, rfl, ?_⟩
 replace r_b_a := r_b_a.step hb5
 replace hk := thenB hk hb5
 replace hT := Sha.Tabs.below hT hb5
 replace ha := Sha.At.below ha hb5
 refine w_val (v := .bool false) (y_not (ev (.bool true) rfl rfl)) ?_
 refine wpList_nil ?_
 refine then_n ?_
 refine c_ff (ev (.bool false) rfl rfl) ?_
 refine wp_skip ?_
 refine then_n ?_
 refine wp_seq ?_
 refine wp_seq ?_
 refine wp_region_lit ?_
 refine w_mv (ev (.int .i64 0) rfl rfl) ?_
 refine w_val (v := .bool false) (y_bin (ev (.int .i64 0) rfl rfl) (evc (.int .i64 0)) b_neq) ?_
 refine w_mv (ev (.bool false) rfl rfl) ?_
 refine w_val_g (v := pt b_a 0) (want_yes (j := 2) rfl rfl (ev (.bool false) rfl rfl) rfl) (y_ia1z (i := 0) (ev (pt b_a 0) rfl rfl) (evc (.int .i64 0)) Tryd.underlying48 ShaWCopiesT.sz9 (by omega) (by omega)) ?_
 refine w_val_g (v := .string (str (a 0))) (want_yes (j := 2) rfl rfl (ev (.bool false) rfl rfl) rfl) (y_ld (ev (pt b_a 0) rfl rfl) ShaWCopiesT.sc9 (r_b_a.val (by omega) rfl)) ?_
 refine w_val_g (v := .int .i64 (((a 0).length : Nat) : Int)) (want_yes (j := 2) rfl rfl (ev (.bool false) rfl rfl) rfl) (y_len (ev (.string (str (a 0))) rfl rfl) Tryd.underlying9) ?_
 refine w_val_g (v := .bool (decide (5000 < (((a 0).length : Nat) : Int)))) (want_yes (j := 2) rfl rfl (ev (.bool false) rfl rfl) rfl) (y_bin (ev (.int .i64 (((a 0).length : Nat) : Int)) rfl rfl) (evc (.int .i64 5000)) b_gtr) ?_
 refine w_val (v := .bool (decide (5000 < (((a 0).length : Nat) : Int)))) (y_pick_f (ev (.bool false) rfl rfl) (ev (.bool (decide (5000 < (((a 0).length : Nat) : Int)))) rfl rfl)) ?_
 refine w_mv (ev (.bool (decide (5000 < (((a 0).length : Nat) : Int)))) rfl rfl) ?_
 by_cases hc6 : 5000 < (((a 0).length : Nat) : Int)
 ·skip
  first | with_reducible refine w_skip ?_ ?_ | refine w_skip ?_ ?_
  · exact want_no (j := 8) rfl rfl (ev (.bool true) (Eq.trans (b := .bool (decide (5000 < (((a 0).length : Nat) : Int)))) rfl (by rw [decide_eq_true hc6])) rfl) rfl
  first | with_reducible refine w_skip ?_ ?_ | refine w_skip ?_ ?_
  · exact want_no (j := 8) rfl rfl (ev (.bool true) (Eq.trans (b := .bool (decide (5000 < (((a 0).length : Nat) : Int)))) rfl (by rw [decide_eq_true hc6])) rfl) rfl
  first | with_reducible refine w_skip ?_ ?_ | refine w_skip ?_ ?_
  · exact want_no (j := 8) rfl rfl (ev (.bool true) (Eq.trans (b := .bool (decide (5000 < (((a 0).length : Nat) : Int)))) rfl (by rw [decide_eq_true hc6])) rfl) rfl
  first | with_reducible refine w_skip ?_ ?_ | refine w_skip ?_ ?_
  · exact want_no (j := 8) rfl rfl (ev (.bool true) (Eq.trans (b := .bool (decide (5000 < (((a 0).length : Nat) : Int)))) rfl (by rw [decide_eq_true hc6])) rfl) rfl
  refine w_val (v := .bool true) (y_pick_t (ev (.bool true) (Eq.trans (b := .bool (decide (5000 < (((a 0).length : Nat) : Int)))) rfl (by rw [decide_eq_true hc6])) rfl) (evc (.bool true))) ?_
  refine w_mv (ev (.bool true) rfl rfl) ?_
  first | with_reducible refine w_skip ?_ ?_ | refine w_skip ?_ ?_
  · exact want_no (j := 14) rfl rfl (ev (.bool true) rfl rfl) rfl
  first | with_reducible refine w_skip ?_ ?_ | refine w_skip ?_ ?_
  · exact want_no (j := 14) rfl rfl (ev (.bool true) rfl rfl) rfl
  first | with_reducible refine w_skip ?_ ?_ | refine w_skip ?_ ?_
  · exact want_no (j := 14) rfl rfl (ev (.bool true) rfl rfl) rfl
  first | with_reducible refine w_skip ?_ ?_ | refine w_skip ?_ ?_
  · exact want_no (j := 14) rfl rfl (ev (.bool true) rfl rfl) rfl
  refine w_val (v := .bool true) (y_pick_t (ev (.bool true) rfl rfl) (evc (.bool true))) ?_
  refine wpList_nil ?_
  refine then_n ?_
  refine c_tt (ev (.bool true) rfl rfl) ?_
  refine wp_seq ?_
  refine wp_region_lit ?_
  refine w_mv (ev (.int .i64 0) rfl rfl) ?_
  refine w_val (v := .bool true) (y_bin (ev (.int .i64 0) rfl rfl) (evc (.int .i64 0)) b_eql) ?_
  refine w_mv (ev (.bool true) rfl rfl) ?_
  first | with_reducible refine w_skip ?_ ?_ | refine w_skip ?_ ?_
  · exact want_no (j := 2) rfl rfl (ev (.bool true) rfl rfl) rfl
  first | with_reducible refine w_skip ?_ ?_ | refine w_skip ?_ ?_
  · exact want_no (j := 2) rfl rfl (ev (.bool true) rfl rfl) rfl
  first | with_reducible refine w_skip ?_ ?_ | refine w_skip ?_ ?_
  · exact want_no (j := 2) rfl rfl (ev (.bool true) rfl rfl) rfl
  refine w_val (v := .bool true) (y_pick_t (ev (.bool true) rfl rfl) (evc (.bool true))) ?_
  refine w_as (ev (.bool true) rfl rfl) ?_
  refine wpList_nil ?_
  refine then_n ?_
  refine wp_ret ?_
  refine then_r ?_
  refine fin_ret1 rfl (ev (.bool true) rfl rfl) ?_
  exact ⟨rfl, hk⟩
 ·skip
  refine w_val_g (v := pt b_a 1) (want_yes (j := 8) rfl rfl (ev (.bool false) (Eq.trans (b := .bool (decide (5000 < (((a 0).length : Nat) : Int)))) rfl (by rw [decide_eq_false hc6])) rfl) rfl) (y_ia1z (i := 1) (ev (pt b_a 0) rfl rfl) (evc (.int .i64 1)) Tryd.underlying48 ShaWCopiesT.sz9 (by omega) (by omega)) ?_
  refine w_val_g (v := .string (str (a 1))) (want_yes (j := 8) rfl rfl (ev (.bool false) (Eq.trans (b := .bool (decide (5000 < (((a 0).length : Nat) : Int)))) rfl (by rw [decide_eq_false hc6])) rfl) rfl) (y_ld (ev (pt b_a 1) rfl rfl) ShaWCopiesT.sc9 (r_b_a.val (by omega) rfl)) ?_
  refine w_val_g (v := .int .i64 (((a 1).length : Nat) : Int)) (want_yes (j := 8) rfl rfl (ev (.bool false) (Eq.trans (b := .bool (decide (5000 < (((a 0).length : Nat) : Int)))) rfl (by rw [decide_eq_false hc6])) rfl) rfl) (y_len (ev (.string (str (a 1))) rfl rfl) Tryd.underlying9) ?_
  refine w_val_g (v := .bool (decide (5000 < (((a 1).length : Nat) : Int)))) (want_yes (j := 8) rfl rfl (ev (.bool false) (Eq.trans (b := .bool (decide (5000 < (((a 0).length : Nat) : Int)))) rfl (by rw [decide_eq_false hc6])) rfl) rfl) (y_bin (ev (.int .i64 (((a 1).length : Nat) : Int)) rfl rfl) (evc (.int .i64 5000)) b_gtr) ?_
  refine w_val (v := .bool (decide (5000 < (((a 1).length : Nat) : Int)))) (y_pick_f (ev (.bool false) (Eq.trans (b := .bool (decide (5000 < (((a 0).length : Nat) : Int)))) rfl (by rw [decide_eq_false hc6])) rfl) (ev (.bool (decide (5000 < (((a 1).length : Nat) : Int)))) rfl rfl)) ?_
  refine w_mv (ev (.bool (decide (5000 < (((a 1).length : Nat) : Int)))) rfl rfl) ?_
  by_cases hc7 : 5000 < (((a 1).length : Nat) : Int)
  ·skip
   first | with_reducible refine w_skip ?_ ?_ | refine w_skip ?_ ?_
   · exact want_no (j := 14) rfl rfl (ev (.bool true) (Eq.trans (b := .bool (decide (5000 < (((a 1).length : Nat) : Int)))) rfl (by rw [decide_eq_true hc7])) rfl) rfl
   first | with_reducible refine w_skip ?_ ?_ | refine w_skip ?_ ?_
   · exact want_no (j := 14) rfl rfl (ev (.bool true) (Eq.trans (b := .bool (decide (5000 < (((a 1).length : Nat) : Int)))) rfl (by rw [decide_eq_true hc7])) rfl) rfl
   first | with_reducible refine w_skip ?_ ?_ | refine w_skip ?_ ?_
   · exact want_no (j := 14) rfl rfl (ev (.bool true) (Eq.trans (b := .bool (decide (5000 < (((a 1).length : Nat) : Int)))) rfl (by rw [decide_eq_true hc7])) rfl) rfl
   first | with_reducible refine w_skip ?_ ?_ | refine w_skip ?_ ?_
   · exact want_no (j := 14) rfl rfl (ev (.bool true) (Eq.trans (b := .bool (decide (5000 < (((a 1).length : Nat) : Int)))) rfl (by rw [decide_eq_true hc7])) rfl) rfl
   refine w_val (v := .bool true) (y_pick_t (ev (.bool true) (Eq.trans (b := .bool (decide (5000 < (((a 1).length : Nat) : Int)))) rfl (by rw [decide_eq_true hc7])) rfl) (evc (.bool true))) ?_
   refine wpList_nil ?_
   refine then_n ?_
   refine c_tt (ev (.bool true) rfl rfl) ?_
   refine wp_seq ?_
   refine wp_region_lit ?_
   refine w_mv (ev (.int .i64 0) rfl rfl) ?_
   refine w_val (v := .bool true) (y_bin (ev (.int .i64 0) rfl rfl) (evc (.int .i64 0)) b_eql) ?_
   refine w_mv (ev (.bool true) rfl rfl) ?_
   first | with_reducible refine w_skip ?_ ?_ | refine w_skip ?_ ?_
   · exact want_no (j := 2) rfl rfl (ev (.bool true) rfl rfl) rfl
   first | with_reducible refine w_skip ?_ ?_ | refine w_skip ?_ ?_
   · exact want_no (j := 2) rfl rfl (ev (.bool true) rfl rfl) rfl
   first | with_reducible refine w_skip ?_ ?_ | refine w_skip ?_ ?_
   · exact want_no (j := 2) rfl rfl (ev (.bool true) rfl rfl) rfl
   refine w_val (v := .bool true) (y_pick_t (ev (.bool true) rfl rfl) (evc (.bool true))) ?_
   refine w_as (ev (.bool true) rfl rfl) ?_
   refine wpList_nil ?_
   refine then_n ?_
   refine wp_ret ?_
   refine then_r ?_
   refine fin_ret1 rfl (ev (.bool true) rfl rfl) ?_
   exact ⟨rfl, hk⟩
  ·skip
   refine w_val_g (v := pt b_a 2) (want_yes (j := 14) rfl rfl (ev (.bool false) (Eq.trans (b := .bool (decide (5000 < (((a 1).length : Nat) : Int)))) rfl (by rw [decide_eq_false hc7])) rfl) rfl) (y_ia1z (i := 2) (ev (pt b_a 0) rfl rfl) (evc (.int .i64 2)) Tryd.underlying48 ShaWCopiesT.sz9 (by omega) (by omega)) ?_
   refine w_val_g (v := .string (str (a 2))) (want_yes (j := 14) rfl rfl (ev (.bool false) (Eq.trans (b := .bool (decide (5000 < (((a 1).length : Nat) : Int)))) rfl (by rw [decide_eq_false hc7])) rfl) rfl) (y_ld (ev (pt b_a 2) rfl rfl) ShaWCopiesT.sc9 (r_b_a.val (by omega) rfl)) ?_
   refine w_val_g (v := .int .i64 (((a 2).length : Nat) : Int)) (want_yes (j := 14) rfl rfl (ev (.bool false) (Eq.trans (b := .bool (decide (5000 < (((a 1).length : Nat) : Int)))) rfl (by rw [decide_eq_false hc7])) rfl) rfl) (y_len (ev (.string (str (a 2))) rfl rfl) Tryd.underlying9) ?_
   refine w_val_g (v := .bool (decide (5000 < (((a 2).length : Nat) : Int)))) (want_yes (j := 14) rfl rfl (ev (.bool false) (Eq.trans (b := .bool (decide (5000 < (((a 1).length : Nat) : Int)))) rfl (by rw [decide_eq_false hc7])) rfl) rfl) (y_bin (ev (.int .i64 (((a 2).length : Nat) : Int)) rfl rfl) (evc (.int .i64 5000)) b_gtr) ?_
   refine w_val (v := .bool (decide (5000 < (((a 2).length : Nat) : Int)))) (y_pick_f (ev (.bool false) (Eq.trans (b := .bool (decide (5000 < (((a 1).length : Nat) : Int)))) rfl (by rw [decide_eq_false hc7])) rfl) (ev (.bool (decide (5000 < (((a 2).length : Nat) : Int)))) rfl rfl)) ?_
   refine wpList_nil ?_
   refine then_n ?_
   refine c_if (p := 5000 < (((a 2).length : Nat) : Int)) (ev (.bool (decide (5000 < (((a 2).length : Nat) : Int)))) rfl rfl) (fun hc8 => ?_) (fun hc8 => ?_)
   ·skip
    refine wp_seq ?_
    refine wp_region_lit ?_
    refine w_mv (ev (.int .i64 0) rfl rfl) ?_
    refine w_val (v := .bool true) (y_bin (ev (.int .i64 0) rfl rfl) (evc (.int .i64 0)) b_eql) ?_
    refine w_mv (ev (.bool true) rfl rfl) ?_
    first | with_reducible refine w_skip ?_ ?_ | refine w_skip ?_ ?_
    · exact want_no (j := 2) rfl rfl (ev (.bool true) rfl rfl) rfl
    first | with_reducible refine w_skip ?_ ?_ | refine w_skip ?_ ?_
    · exact want_no (j := 2) rfl rfl (ev (.bool true) rfl rfl) rfl
    first | with_reducible refine w_skip ?_ ?_ | refine w_skip ?_ ?_
    · exact want_no (j := 2) rfl rfl (ev (.bool true) rfl rfl) rfl
    refine w_val (v := .bool true) (y_pick_t (ev (.bool true) rfl rfl) (evc (.bool true))) ?_
    refine w_as (ev (.bool true) rfl rfl) ?_
    refine wpList_nil ?_
    refine then_n ?_
    refine wp_ret ?_
    refine then_r ?_
    refine fin_ret1 rfl (ev (.bool true) rfl rfl) ?_
    exact ⟨rfl, hk⟩
   ·skip
    refine wp_skip ?_
    refine then_n ?_
    refine wp_seq ?_
    refine wp_region_lit ?_
    refine w_mv (ev (pt p 0) rfl rfl) ?_
    refine w_val (v := pt b_a 0) (y_ia1z (i := 0) (ev (pt b_a 0) rfl rfl) (evc (.int .i64 0)) Tryd.underlying48 ShaWCopiesT.sz9 (by omega) (by omega)) ?_
    refine w_val (v := .string (str (a 0))) (y_ld (ev (pt b_a 0) rfl rfl) ShaWCopiesT.sc9 (r_b_a.val (by omega) rfl)) ?_
    have hw_ := ha
    clear ha
    refine w_call (Tryd.func24) (by kernel_rfl) rfl (m2 (ev (pt p 0) rfl rfl) (ev (.string (str (a 0))) rfl rfl)) (write_l kind ([]) (a 0) w4 p (by omega) hkd (by omega) hw_ hT) ?_
    rintro _ w9 ⟨rfl, ha, hgw⟩
    refine ⟨_, rfl, ?_⟩
    replace r_b_a := r_b_a.stepG hgw (by omega)
    replace hk := thenG hk hgw (by omega)
    replace hT := Sha.Tabs.grown hT hgw (by omega) (by omega)
    refine wpList_nil ?_
    refine then_n ?_
    refine wp_seq ?_
    refine wp_region_lit ?_
    refine w_mv (ev (pt p 0) rfl rfl) ?_
    refine w_call (Tryd.func25) (by kernel_rfl) rfl (m1 (ev (pt p 0) rfl rfl)) (copy_l kind (([]) ++ (a 0)) w9 p (by omega) hkd ha) ?_
    rintro _ w10 ⟨p2, rfl, hge_p2, hb, hb_p2⟩
    refine ⟨_, rfl, ?_⟩
    have ne_b_a_p2 : b_a ≠ p2 := by have := r_b_a.lt; omega
    have ne_p_p2 : p ≠ p2 := by have := ha.lt; omega
    have ge_p2 : w0.heap.size ≤ p2 := by have := hk.size; omega
    replace r_b_a := r_b_a.step hb_p2
    replace hk := thenB hk hb_p2
    replace hT := Sha.Tabs.below hT hb_p2
    replace ha := Sha.At.below ha hb_p2
    refine w_as (ev (pt p2 0) rfl rfl) ?_
    refine wpList_nil ?_
    refine then_n ?_
    refine wp_seq ?_
    refine wp_seq ?_
    refine wp_region_lit ?_
    refine w_mv (ev (pt p2 0) rfl rfl) ?_
    refine w_val (v := .bool false) (y_bin (ev (pt p2 0) rfl rfl) (evc (.pointer none)) (b_eqp Tryd.underlying31)) ?_
    refine wpList_nil ?_
    refine then_n ?_
    refine c_ff (ev (.bool false) rfl rfl) ?_
    refine wp_skip ?_
    refine then_n ?_
    refine wp_seq ?_
    refine wp_region_lit ?_
    refine w_mv (ev (pt p 0) rfl rfl) ?_
    refine w_val (v := pt b_a 1) (y_ia1z (i := 1) (ev (pt b_a 0) rfl rfl) (evc (.int .i64 1)) Tryd.underlying48 ShaWCopiesT.sz9 (by omega) (by omega)) ?_
    refine w_val (v := .string (str (a 1))) (y_ld (ev (pt b_a 1) rfl rfl) ShaWCopiesT.sc9 (r_b_a.val (by omega) rfl)) ?_
    have hw_ := ha
    clear ha
    refine w_call (Tryd.func24) (by kernel_rfl) rfl (m2 (ev (pt p 0) rfl rfl) (ev (.string (str (a 1))) rfl rfl)) (write_l kind (([]) ++ (a 0)) (a 1) w10 p (by omega) hkd (by omega) hw_ hT) ?_
    rintro _ w11 ⟨rfl, ha, hgw⟩
    refine ⟨_, rfl, ?_⟩
    replace r_b_a := r_b_a.stepG hgw (by omega)
    replace hk := thenG hk hgw (by omega)
    replace hT := Sha.Tabs.grown hT hgw (by omega) (by omega)
    replace hb := Sha.At.grown hb hgw (by omega)
    refine wpList_nil ?_
    refine then_n ?_
    refine wp_seq ?_
    refine wp_region_lit ?_
    refine w_mv (ev (pt p2 0) rfl rfl) ?_
    refine w_val (v := pt b_a 2) (y_ia1z (i := 2) (ev (pt b_a 0) rfl rfl) (evc (.int .i64 2)) Tryd.underlying48 ShaWCopiesT.sz9 (by omega) (by omega)) ?_
    refine w_val (v := .string (str (a 2))) (y_ld (ev (pt b_a 2) rfl rfl) ShaWCopiesT.sc9 (r_b_a.val (by omega) rfl)) ?_
    have hw_ := hb
    clear hb
    refine w_call (Tryd.func24) (by kernel_rfl) rfl (m2 (ev (pt p2 0) rfl rfl) (ev (.string (str (a 2))) rfl rfl)) (write_l kind (([]) ++ (a 0)) (a 2) w11 p2 (by omega) hkd (by omega) hw_ hT) ?_
    rintro _ w12 ⟨rfl, hb, hgw⟩
    refine ⟨_, rfl, ?_⟩
    replace r_b_a := r_b_a.stepG hgw (by omega)
    replace hk := thenG hk hgw (by omega)
    replace hT := Sha.Tabs.grown hT hgw (by omega) (by omega)
    replace ha := Sha.At.grown ha hgw (by omega)
    refine wpList_nil ?_
    refine then_n ?_
    refine wp_seq ?_
    refine wp_region_lit ?_
    refine w_mv (ev (pt p 0) rfl rfl) ?_
    refine w_call (Tryd.func23) (by kernel_rfl) rfl (m1 (ev (pt p 0) rfl rfl)) (sum_l kind ((([]) ++ (a 0)) ++ (a 1)) w12 p (by omega) hkd (by (try simp only [List.nil_append, List.length_append, List.length_nil]); omega) ha hT) ?_
    rintro _ w13 ⟨rfl, hb14⟩
    refine ⟨_, rfl, ?_⟩
    replace r_b_a := r_b_a.step hb14
    replace hk := thenB hk hb14
    replace hT := Sha.Tabs.below hT hb14
    replace ha := Sha.At.below ha hb14
    replace hb := Sha.At.below hb hb14
    refine w_mv (ev (.tuple #[.string (str (Sha.sum kind ((([]) ++ (a 0)) ++ (a 1)))), .int .i64 0]) rfl rfl) ?_
    refine w_val (v := .string (str (Sha.sum kind ((([]) ++ (a 0)) ++ (a 1))))) (y_ext (v := .string (str (Sha.sum kind ((([]) ++ (a 0)) ++ (a 1))))) (ev (.tuple #[.string (str (Sha.sum kind ((([]) ++ (a 0)) ++ (a 1)))), .int .i64 0]) rfl rfl) rfl) ?_
    refine w_val (v := .int .i64 0) (y_ext (v := .int .i64 0) (ev (.tuple #[.string (str (Sha.sum kind ((([]) ++ (a 0)) ++ (a 1)))), .int .i64 0]) rfl rfl) rfl) ?_
    refine w_as (ev (.string (str (Sha.sum kind ((([]) ++ (a 0)) ++ (a 1))))) rfl rfl) ?_
    refine w_as (ev (.int .i64 0) rfl rfl) ?_
    refine wpList_nil ?_
    refine then_n ?_
    refine wp_seq ?_
    refine wp_region_lit ?_
    refine w_mv (ev (pt p2 0) rfl rfl) ?_
    refine w_call (Tryd.func23) (by kernel_rfl) rfl (m1 (ev (pt p2 0) rfl rfl)) (sum_l kind ((([]) ++ (a 0)) ++ (a 2)) w13 p2 (by omega) hkd (by (try simp only [List.nil_append, List.length_append, List.length_nil]); omega) hb hT) ?_
    rintro _ w15 ⟨rfl, hb16⟩
    refine ⟨_, rfl, ?_⟩
    replace r_b_a := r_b_a.step hb16
    replace hk := thenB hk hb16
    replace hT := Sha.Tabs.below hT hb16
    replace ha := Sha.At.below ha hb16
    replace hb := Sha.At.below hb hb16
    refine w_mv (ev (.tuple #[.string (str (Sha.sum kind ((([]) ++ (a 0)) ++ (a 2)))), .int .i64 0]) rfl rfl) ?_
    refine w_val (v := .string (str (Sha.sum kind ((([]) ++ (a 0)) ++ (a 2))))) (y_ext (v := .string (str (Sha.sum kind ((([]) ++ (a 0)) ++ (a 2))))) (ev (.tuple #[.string (str (Sha.sum kind ((([]) ++ (a 0)) ++ (a 2)))), .int .i64 0]) rfl rfl) rfl) ?_
    refine w_val (v := .int .i64 0) (y_ext (v := .int .i64 0) (ev (.tuple #[.string (str (Sha.sum kind ((([]) ++ (a 0)) ++ (a 2)))), .int .i64 0]) rfl rfl) rfl) ?_
    refine w_as (ev (.string (str (Sha.sum kind ((([]) ++ (a 0)) ++ (a 2))))) rfl rfl) ?_
    refine w_as (ev (.int .i64 0) rfl rfl) ?_
    refine wpList_nil ?_
    refine then_n ?_
    refine wp_seq ?_
    refine wp_region_lit ?_
    refine w_mv (ev (.int .i64 ((kind : Nat) : Int)) rfl rfl) ?_
    refine w_val (v := pt b_a 0) (y_ia1z (i := 0) (ev (pt b_a 0) rfl rfl) (evc (.int .i64 0)) Tryd.underlying48 ShaWCopiesT.sz9 (by omega) (by omega)) ?_
    refine w_val (v := .string (str (a 0))) (y_ld (ev (pt b_a 0) rfl rfl) ShaWCopiesT.sc9 (r_b_a.val (by omega) rfl)) ?_
    refine w_val (v := pt b_a 1) (y_ia1z (i := 1) (ev (pt b_a 0) rfl rfl) (evc (.int .i64 1)) Tryd.underlying48 ShaWCopiesT.sz9 (by omega) (by omega)) ?_
    refine w_val (v := .string (str (a 1))) (y_ld (ev (pt b_a 1) rfl rfl) ShaWCopiesT.sc9 (r_b_a.val (by omega) rfl)) ?_
    refine w_val (v := .string (str ((a 0) ++ (a 1)))) (y_bin (ev (.string (str (a 0))) rfl rfl) (ev (.string (str (a 1))) rfl rfl) (b_cat (by (try simp only [List.length_append]); omega))) ?_
    refine w_call (Tryd.func18) (by kernel_rfl) rfl (m2 (ev (.int .i64 ((kind : Nat) : Int)) rfl rfl) (ev (.string (str ((a 0) ++ (a 1)))) rfl rfl)) (refText_l kind hkd ((a 0) ++ (a 1)) (by (try simp only [List.length_append]); omega) w15 ) ?_
    rintro _ w17 ⟨rfl, hb18⟩
    refine ⟨_, rfl, ?_⟩
    replace r_b_a := r_b_a.step hb18
    replace hk := thenB hk hb18
    replace hT := Sha.Tabs.below hT hb18
    replace ha := Sha.At.below ha hb18
    replace hb := Sha.At.below hb hb18
    refine w_mv (ev (.tuple #[.string (str (Sha.sum kind ((a 0) ++ (a 1)))), .int .i64 0]) rfl rfl) ?_
    refine w_val (v := .string (str (Sha.sum kind ((a 0) ++ (a 1))))) (y_ext (v := .string (str (Sha.sum kind ((a 0) ++ (a 1))))) (ev (.tuple #[.string (str (Sha.sum kind ((a 0) ++ (a 1)))), .int .i64 0]) rfl rfl) rfl) ?_
    refine w_val (v := .int .i64 0) (y_ext (v := .int .i64 0) (ev (.tuple #[.string (str (Sha.sum kind ((a 0) ++ (a 1)))), .int .i64 0]) rfl rfl) rfl) ?_
    refine w_as (ev (.string (str (Sha.sum kind ((a 0) ++ (a 1))))) rfl rfl) ?_
    refine w_as (ev (.int .i64 0) rfl rfl) ?_
    refine wpList_nil ?_
    refine then_n ?_
    refine wp_seq ?_
    refine wp_region_lit ?_
    refine w_mv (ev (.int .i64 ((kind : Nat) : Int)) rfl rfl) ?_
    refine w_val (v := pt b_a 0) (y_ia1z (i := 0) (ev (pt b_a 0) rfl rfl) (evc (.int .i64 0)) Tryd.underlying48 ShaWCopiesT.sz9 (by omega) (by omega)) ?_
    refine w_val (v := .string (str (a 0))) (y_ld (ev (pt b_a 0) rfl rfl) ShaWCopiesT.sc9 (r_b_a.val (by omega) rfl)) ?_
    refine w_val (v := pt b_a 2) (y_ia1z (i := 2) (ev (pt b_a 0) rfl rfl) (evc (.int .i64 2)) Tryd.underlying48 ShaWCopiesT.sz9 (by omega) (by omega)) ?_
    refine w_val (v := .string (str (a 2))) (y_ld (ev (pt b_a 2) rfl rfl) ShaWCopiesT.sc9 (r_b_a.val (by omega) rfl)) ?_
    refine w_val (v := .string (str ((a 0) ++ (a 2)))) (y_bin (ev (.string (str (a 0))) rfl rfl) (ev (.string (str (a 2))) rfl rfl) (b_cat (by (try simp only [List.length_append]); omega))) ?_
    refine w_call (Tryd.func18) (by kernel_rfl) rfl (m2 (ev (.int .i64 ((kind : Nat) : Int)) rfl rfl) (ev (.string (str ((a 0) ++ (a 2)))) rfl rfl)) (refText_l kind hkd ((a 0) ++ (a 2)) (by (try simp only [List.length_append]); omega) w17 ) ?_
    rintro _ w19 ⟨rfl, hb20⟩
    refine ⟨_, rfl, ?_⟩
    replace r_b_a := r_b_a.step hb20
    replace hk := thenB hk hb20
    replace hT := Sha.Tabs.below hT hb20
    replace ha := Sha.At.below ha hb20
    replace hb := Sha.At.below hb hb20
    refine w_mv (ev (.tuple #[.string (str (Sha.sum kind ((a 0) ++ (a 2)))), .int .i64 0]) rfl rfl) ?_
    refine w_val (v := .string (str (Sha.sum kind ((a 0) ++ (a 2))))) (y_ext (v := .string (str (Sha.sum kind ((a 0) ++ (a 2))))) (ev (.tuple #[.string (str (Sha.sum kind ((a 0) ++ (a 2)))), .int .i64 0]) rfl rfl) rfl) ?_
    refine w_val (v := .int .i64 0) (y_ext (v := .int .i64 0) (ev (.tuple #[.string (str (Sha.sum kind ((a 0) ++ (a 2)))), .int .i64 0]) rfl rfl) rfl) ?_
    refine w_as (ev (.string (str (Sha.sum kind ((a 0) ++ (a 2))))) rfl rfl) ?_
    refine w_as (ev (.int .i64 0) rfl rfl) ?_
    refine wpList_nil ?_
    refine then_n ?_
    refine wp_seq ?_
    refine wp_region_lit ?_
    refine w_mv (ev (.string (str (Sha.sum kind ((([]) ++ (a 0)) ++ (a 1))))) rfl rfl) ?_
    refine w_mv (ev (.string (str (Sha.sum kind ((a 0) ++ (a 1))))) rfl rfl) ?_
    refine w_val (v := .bool (decide ((Sha.sum kind ((([]) ++ (a 0)) ++ (a 1))) = (Sha.sum kind ((a 0) ++ (a 1)))))) (y_bin (ev (.string (str (Sha.sum kind ((([]) ++ (a 0)) ++ (a 1))))) rfl rfl) (ev (.string (str (Sha.sum kind ((a 0) ++ (a 1))))) rfl rfl) b_eqs) ?_
    refine w_mv (ev (.bool (decide ((Sha.sum kind ((([]) ++ (a 0)) ++ (a 1))) = (Sha.sum kind ((a 0) ++ (a 1)))))) rfl rfl) ?_
    have hc21 : (Sha.sum kind ((([]) ++ (a 0)) ++ (a 1))) = (Sha.sum kind ((a 0) ++ (a 1))) := by rw [List.nil_append]
    refine w_val_g (v := .string (str (Sha.sum kind ((([]) ++ (a 0)) ++ (a 2))))) (want_yes (j := 3) rfl rfl (ev (.bool true) (Eq.trans (b := .bool (decide ((Sha.sum kind ((([]) ++ (a 0)) ++ (a 1))) = (Sha.sum kind ((a 0) ++ (a 1)))))) rfl (by rw [decide_eq_true hc21])) rfl) rfl) (y_mv (ev (.string (str (Sha.sum kind ((([]) ++ (a 0)) ++ (a 2))))) rfl rfl)) ?_
    refine w_val_g (v := .string (str (Sha.sum kind ((a 0) ++ (a 2))))) (want_yes (j := 3) rfl rfl (ev (.bool true) (Eq.trans (b := .bool (decide ((Sha.sum kind ((([]) ++ (a 0)) ++ (a 1))) = (Sha.sum kind ((a 0) ++ (a 1)))))) rfl (by rw [decide_eq_true hc21])) rfl) rfl) (y_mv (ev (.string (str (Sha.sum kind ((a 0) ++ (a 2))))) rfl rfl)) ?_
    refine w_val_g (v := .bool (decide ((Sha.sum kind ((([]) ++ (a 0)) ++ (a 2))) = (Sha.sum kind ((a 0) ++ (a 2)))))) (want_yes (j := 3) rfl rfl (ev (.bool true) (Eq.trans (b := .bool (decide ((Sha.sum kind ((([]) ++ (a 0)) ++ (a 1))) = (Sha.sum kind ((a 0) ++ (a 1)))))) rfl (by rw [decide_eq_true hc21])) rfl) rfl) (y_bin (ev (.string (str (Sha.sum kind ((([]) ++ (a 0)) ++ (a 2))))) rfl rfl) (ev (.string (str (Sha.sum kind ((a 0) ++ (a 2))))) rfl rfl) b_eqs) ?_
    refine w_val (v := .bool (decide ((Sha.sum kind ((([]) ++ (a 0)) ++ (a 2))) = (Sha.sum kind ((a 0) ++ (a 2)))))) (y_pick_t (ev (.bool true) (Eq.trans (b := .bool (decide ((Sha.sum kind ((([]) ++ (a 0)) ++ (a 1))) = (Sha.sum kind ((a 0) ++ (a 1)))))) rfl (by rw [decide_eq_true hc21])) rfl) (ev (.bool (decide ((Sha.sum kind ((([]) ++ (a 0)) ++ (a 2))) = (Sha.sum kind ((a 0) ++ (a 2)))))) rfl rfl)) ?_
    refine w_mv (ev (.bool (decide ((Sha.sum kind ((([]) ++ (a 0)) ++ (a 2))) = (Sha.sum kind ((a 0) ++ (a 2)))))) rfl rfl) ?_
    have hc22 : (Sha.sum kind ((([]) ++ (a 0)) ++ (a 2))) = (Sha.sum kind ((a 0) ++ (a 2))) := by rw [List.nil_append]
    refine w_val_g (v := .int .i64 0) (want_yes (j := 8) rfl rfl (ev (.bool true) (Eq.trans (b := .bool (decide ((Sha.sum kind ((([]) ++ (a 0)) ++ (a 2))) = (Sha.sum kind ((a 0) ++ (a 2)))))) rfl (by rw [decide_eq_true hc22])) rfl) rfl) (y_mv (ev (.int .i64 0) rfl rfl)) ?_
    refine w_val_g (v := .bool true) (want_yes (j := 8) rfl rfl (ev (.bool true) (Eq.trans (b := .bool (decide ((Sha.sum kind ((([]) ++ (a 0)) ++ (a 2))) = (Sha.sum kind ((a 0) ++ (a 2)))))) rfl (by rw [decide_eq_true hc22])) rfl) rfl) (y_bin (ev (.int .i64 0) rfl rfl) (evc (.int .i64 0)) b_eql) ?_
    refine w_val (v := .bool true) (y_pick_t (ev (.bool true) (Eq.trans (b := .bool (decide ((Sha.sum kind ((([]) ++ (a 0)) ++ (a 2))) = (Sha.sum kind ((a 0) ++ (a 2)))))) rfl (by rw [decide_eq_true hc22])) rfl) (ev (.bool true) rfl rfl)) ?_
    refine w_mv (ev (.bool true) rfl rfl) ?_
    refine w_val_g (v := .int .i64 0) (want_yes (j := 12) rfl rfl (ev (.bool true) rfl rfl) rfl) (y_mv (ev (.int .i64 0) rfl rfl)) ?_
    refine w_val_g (v := .bool true) (want_yes (j := 12) rfl rfl (ev (.bool true) rfl rfl) rfl) (y_bin (ev (.int .i64 0) rfl rfl) (evc (.int .i64 0)) b_eql) ?_
    refine w_val (v := .bool true) (y_pick_t (ev (.bool true) rfl rfl) (ev (.bool true) rfl rfl)) ?_
    refine w_as (ev (.bool true) rfl rfl) ?_
    refine wpList_nil ?_
    refine then_n ?_
    refine wp_ret ?_
    refine fin_ret1 rfl (ev (.bool true) rfl rfl) ?_
    exact ⟨rfl, hk⟩

theorem walk_ShaCopies (k : Int) (hw : (Lit.int .i64 k).wf = true) (a : Nat → List (BitVec 8)) (w : World) (hT : Sha.Tabs w) : Calls Tryd.prog 6 #[.int .i64 k, .agg (arr 3 (fun j => .string (str (a j))))] w fun e w' => e = .returned (.bool true) ∧ Below w.heap.size w w' := by
  by_cases k1 : k = 256
  · subst k1; exact shaCopies_y 256 (.inl rfl) a w hT
  by_cases k2 : k = 384
  · subst k2; exact shaCopies_y 384 (.inr (.inl rfl)) a w hT
  by_cases k3 : k = 512
  · subst k3; exact shaCopies_y 512 (.inr (.inr rfl)) a w hT
  exact shaCopies_n k k1 k2 k3 a w hT
end Go.Proofs.YtieepglpejlkoaaDoor
