/-
  The walk of the law HmacNil. Conditions as each says.
-/
import Derived.Test.YtieepglpejlkoaaDoorRows
import Derived.Test.YtieepglpejlkoaaDoorHmacW
import Derived.ProofKit
namespace Go.Proofs.YtieepglpejlkoaaDoor
open Go.RowKit
set_option linter.unusedSimpArgs false
set_option linter.unusedVariables false
namespace HmacWNilT
theorem mixed : Tryd.prog.follows .mixedOrders = true := by kernel_rfl
theorem fa44_2 (g off : Nat) : ∀ w, (Instr.fieldAt 44 (.pointer (some ⟨g, off, none⟩)) 2).run Tryd.prog w = .ok (.pointer (some ⟨g, off + 2, none⟩)) w := fun w => by kernel_rfl
theorem fa65_0 (g off : Nat) : ∀ w, (Instr.fieldAt 65 (.pointer (some ⟨g, off, none⟩)) 0).run Tryd.prog w = .ok (.pointer (some ⟨g, off + 0, none⟩)) w := fun w => by kernel_rfl
theorem fa65_1 (g off : Nat) : ∀ w, (Instr.fieldAt 65 (.pointer (some ⟨g, off, none⟩)) 1).run Tryd.prog w = .ok (.pointer (some ⟨g, off + 1, none⟩)) w := fun w => by kernel_rfl
theorem fa65_2 (g off : Nat) : ∀ w, (Instr.fieldAt 65 (.pointer (some ⟨g, off, none⟩)) 2).run Tryd.prog w = .ok (.pointer (some ⟨g, off + 2, none⟩)) w := fun w => by kernel_rfl
theorem sc3 : (Tryd.prog.underlying 3).map scal = some true := by rw [Tryd.underlying3]; rfl
theorem sc31 : (Tryd.prog.underlying 31).map scal = some true := by rw [Tryd.underlying31]; rfl
theorem sc5 : (Tryd.prog.underlying 5).map scal = some true := by rw [Tryd.underlying5]; rfl
theorem sc9 : (Tryd.prog.underlying 9).map scal = some true := by rw [Tryd.underlying9]; rfl
theorem sz31 : (Tryd.prog.info? 31).map (·.size) = some 1 := by kernel_rfl
theorem sz5 : (Tryd.prog.info? 5).map (·.size) = some 1 := by kernel_rfl
theorem sz9 : (Tryd.prog.info? 9).map (·.size) = some 1 := by kernel_rfl
end HmacWNilT
set_option maxRecDepth 100000 in
set_option maxHeartbeats 1000000 in
theorem hmacNil_Sum0  (w0 : World) : Calls Tryd.prog 33 #[.pointer none] w0 fun e w' => e = .returned (.tuple #[.string (str ([] : List (BitVec 8))), .int .i64 1]) ∧ Below w0.heap.size w0 w' := by
 refine enter (n := 36) Tryd.func33 rfl rfl rfl ?_
 have hk : Below w0.heap.size w0 w0 := Below.refl _ _
 refine wp_seq ?_
 refine wp_region_lit ?_
 refine w_as (evc (.string (str ([] : List (BitVec 8))))) ?_
 refine w_as (evc (.int .i64 0)) ?_
 refine wpList_nil ?_
 refine then_n ?_
 refine wp_seq ?_
 refine wp_seq ?_
 refine wp_region_lit ?_
 refine w_mv (ev (.pointer none) rfl rfl) ?_
 refine w_val (v := .bool true) (y_bin (ev (.pointer none) rfl rfl) (evc (.pointer none)) (b_eqp Tryd.underlying59)) ?_
 refine w_mv (ev (.bool true) rfl rfl) ?_
 first | with_reducible refine w_skip ?_ ?_ | refine w_skip ?_ ?_
 · exact want_no (j := 2) rfl rfl (ev (.bool true) rfl rfl) rfl
 first | with_reducible refine w_skip ?_ ?_ | refine w_skip ?_ ?_
 · exact want_no (j := 2) rfl rfl (ev (.bool true) rfl rfl) rfl
 first | with_reducible refine w_skip ?_ ?_ | refine w_skip ?_ ?_
 · exact want_no (j := 2) rfl rfl (ev (.bool true) rfl rfl) rfl
 first | with_reducible refine w_skip ?_ ?_ | refine w_skip ?_ ?_
 · exact want_no (j := 2) rfl rfl (ev (.bool true) rfl rfl) rfl
 first | with_reducible refine w_skip ?_ ?_ | refine w_skip ?_ ?_
 · exact want_no (j := 2) rfl rfl (ev (.bool true) rfl rfl) rfl
 refine w_val (v := .bool true) (y_pick_t (ev (.bool true) rfl rfl) (evc (.bool true))) ?_
 refine wpList_nil ?_
 refine then_n ?_
 refine c_tt (ev (.bool true) rfl rfl) ?_
 refine wp_seq ?_
 refine wp_region_lit ?_
 refine w_as (evc (.string (str ([] : List (BitVec 8))))) ?_
 refine w_as (evc (.int .i64 1)) ?_
 refine wpList_nil ?_
 refine then_n ?_
 refine wp_ret ?_
 refine then_r ?_
 refine fin_ret2 rfl (ev (.string (str ([] : List (BitVec 8)))) rfl rfl) (ev (.int .i64 1) rfl rfl) ?_
 exact ⟨rfl, hk⟩

set_option maxRecDepth 100000 in
set_option maxHeartbeats 1000000 in
theorem hmacNil_Sumz (z : Nat) (w0 : World) (r_z : Row w0 z 65 3 (fun j => .pointer none)) : Calls Tryd.prog 33 #[pt z 0] w0 fun e w' => e = .returned (.tuple #[.string (str ([] : List (BitVec 8))), .int .i64 1]) ∧ Below w0.heap.size w0 w' := by
 refine enter (n := 36) Tryd.func33 rfl rfl rfl ?_
 have hk : Below w0.heap.size w0 w0 := Below.refl _ _
 have lt_z := r_z.lt
 refine wp_seq ?_
 refine wp_region_lit ?_
 refine w_as (evc (.string (str ([] : List (BitVec 8))))) ?_
 refine w_as (evc (.int .i64 0)) ?_
 refine wpList_nil ?_
 refine then_n ?_
 refine wp_seq ?_
 refine wp_seq ?_
 refine wp_region_lit ?_
 refine w_mv (ev (pt z 0) rfl rfl) ?_
 refine w_val (v := .bool false) (y_bin (ev (pt z 0) rfl rfl) (evc (.pointer none)) (b_eqp Tryd.underlying59)) ?_
 refine w_mv (ev (.bool false) rfl rfl) ?_
 refine w_val_g (v := pt z 0) (want_yes (j := 2) rfl rfl (ev (.bool false) rfl rfl) rfl) (y_mv (ev (pt z 0) rfl rfl)) ?_
 refine w_val_g (v := pt z 0) (want_yes (j := 2) rfl rfl (ev (.bool false) rfl rfl) rfl) (y_nc (ev (pt z 0) rfl rfl)) ?_
 refine w_val_g (v := pt z 2) (want_yes (j := 2) rfl rfl (ev (.bool false) rfl rfl) rfl) (y_off (y_fa (ev (pt z 0) rfl rfl) (HmacWNilT.fa65_2 _ _)) (by first | rfl | omega)) ?_
 refine w_val_g (v := .pointer none) (want_yes (j := 2) rfl rfl (ev (.bool false) rfl rfl) rfl) (y_ld (ev (pt z 2) rfl rfl) HmacWNilT.sc31 (r_z.val (by omega) (by first | with_reducible rfl | (with_reducible congr 1 <;> omega) | (with_reducible congr 2 <;> omega) | (with_reducible congr 3 <;> omega) | rfl))) ?_
 refine w_val_g (v := .bool true) (want_yes (j := 2) rfl rfl (ev (.bool false) rfl rfl) rfl) (y_bin (ev (.pointer none) rfl rfl) (evc (.pointer none)) (b_eqp Tryd.underlying31)) ?_
 refine w_val (v := .bool true) (y_pick_f (ev (.bool false) rfl rfl) (ev (.bool true) rfl rfl)) ?_
 refine wpList_nil ?_
 refine then_n ?_
 refine c_tt (ev (.bool true) rfl rfl) ?_
 refine wp_seq ?_
 refine wp_region_lit ?_
 refine w_as (evc (.string (str ([] : List (BitVec 8))))) ?_
 refine w_as (evc (.int .i64 1)) ?_
 refine wpList_nil ?_
 refine then_n ?_
 refine wp_ret ?_
 refine then_r ?_
 refine fin_ret2 rfl (ev (.string (str ([] : List (BitVec 8)))) rfl rfl) (ev (.int .i64 1) rfl rfl) ?_
 exact ⟨rfl, hk⟩

set_option maxRecDepth 100000 in
set_option maxHeartbeats 1000000 in
theorem hmacNil_Write0  (s : List (BitVec 8)) (w0 : World) : Calls Tryd.prog 31 #[.pointer none, .string (str s)] w0 fun e w' => e = .returned (.int .i64 1) ∧ Below w0.heap.size w0 w' := by
 refine enter (n := 20) Tryd.func31 rfl rfl rfl ?_
 have hk : Below w0.heap.size w0 w0 := Below.refl _ _
 refine wp_seq ?_
 refine wp_region_lit ?_
 refine w_as (evc (.int .i64 0)) ?_
 refine wpList_nil ?_
 refine then_n ?_
 refine wp_seq ?_
 refine wp_seq ?_
 refine wp_region_lit ?_
 refine w_mv (ev (.pointer none) rfl rfl) ?_
 refine w_val (v := .bool true) (y_bin (ev (.pointer none) rfl rfl) (evc (.pointer none)) (b_eqp Tryd.underlying59)) ?_
 refine w_mv (ev (.bool true) rfl rfl) ?_
 first | with_reducible refine w_skip ?_ ?_ | refine w_skip ?_ ?_
 · exact want_no (j := 2) rfl rfl (ev (.bool true) rfl rfl) rfl
 first | with_reducible refine w_skip ?_ ?_ | refine w_skip ?_ ?_
 · exact want_no (j := 2) rfl rfl (ev (.bool true) rfl rfl) rfl
 first | with_reducible refine w_skip ?_ ?_ | refine w_skip ?_ ?_
 · exact want_no (j := 2) rfl rfl (ev (.bool true) rfl rfl) rfl
 first | with_reducible refine w_skip ?_ ?_ | refine w_skip ?_ ?_
 · exact want_no (j := 2) rfl rfl (ev (.bool true) rfl rfl) rfl
 first | with_reducible refine w_skip ?_ ?_ | refine w_skip ?_ ?_
 · exact want_no (j := 2) rfl rfl (ev (.bool true) rfl rfl) rfl
 refine w_val (v := .bool true) (y_pick_t (ev (.bool true) rfl rfl) (evc (.bool true))) ?_
 refine wpList_nil ?_
 refine then_n ?_
 refine c_tt (ev (.bool true) rfl rfl) ?_
 refine wp_seq ?_
 refine wp_region_lit ?_
 refine w_as (evc (.int .i64 1)) ?_
 refine wpList_nil ?_
 refine then_n ?_
 refine wp_ret ?_
 refine then_r ?_
 refine fin_ret1 rfl (ev (.int .i64 1) rfl rfl) ?_
 exact ⟨rfl, hk⟩

set_option maxRecDepth 100000 in
set_option maxHeartbeats 1000000 in
theorem hmacNil_Writez (z : Nat) (s : List (BitVec 8)) (w0 : World) (r_z : Row w0 z 65 3 (fun j => .pointer none)) : Calls Tryd.prog 31 #[pt z 0, .string (str s)] w0 fun e w' => e = .returned (.int .i64 1) ∧ Below w0.heap.size w0 w' := by
 refine enter (n := 20) Tryd.func31 rfl rfl rfl ?_
 have hk : Below w0.heap.size w0 w0 := Below.refl _ _
 have lt_z := r_z.lt
 refine wp_seq ?_
 refine wp_region_lit ?_
 refine w_as (evc (.int .i64 0)) ?_
 refine wpList_nil ?_
 refine then_n ?_
 refine wp_seq ?_
 refine wp_seq ?_
 refine wp_region_lit ?_
 refine w_mv (ev (pt z 0) rfl rfl) ?_
 refine w_val (v := .bool false) (y_bin (ev (pt z 0) rfl rfl) (evc (.pointer none)) (b_eqp Tryd.underlying59)) ?_
 refine w_mv (ev (.bool false) rfl rfl) ?_
 refine w_val_g (v := pt z 0) (want_yes (j := 2) rfl rfl (ev (.bool false) rfl rfl) rfl) (y_mv (ev (pt z 0) rfl rfl)) ?_
 refine w_val_g (v := pt z 0) (want_yes (j := 2) rfl rfl (ev (.bool false) rfl rfl) rfl) (y_nc (ev (pt z 0) rfl rfl)) ?_
 refine w_val_g (v := pt z 2) (want_yes (j := 2) rfl rfl (ev (.bool false) rfl rfl) rfl) (y_off (y_fa (ev (pt z 0) rfl rfl) (HmacWNilT.fa65_2 _ _)) (by first | rfl | omega)) ?_
 refine w_val_g (v := .pointer none) (want_yes (j := 2) rfl rfl (ev (.bool false) rfl rfl) rfl) (y_ld (ev (pt z 2) rfl rfl) HmacWNilT.sc31 (r_z.val (by omega) (by first | with_reducible rfl | (with_reducible congr 1 <;> omega) | (with_reducible congr 2 <;> omega) | (with_reducible congr 3 <;> omega) | rfl))) ?_
 refine w_val_g (v := .bool true) (want_yes (j := 2) rfl rfl (ev (.bool false) rfl rfl) rfl) (y_bin (ev (.pointer none) rfl rfl) (evc (.pointer none)) (b_eqp Tryd.underlying31)) ?_
 refine w_val (v := .bool true) (y_pick_f (ev (.bool false) rfl rfl) (ev (.bool true) rfl rfl)) ?_
 refine wpList_nil ?_
 refine then_n ?_
 refine c_tt (ev (.bool true) rfl rfl) ?_
 refine wp_seq ?_
 refine wp_region_lit ?_
 refine w_as (evc (.int .i64 1)) ?_
 refine wpList_nil ?_
 refine then_n ?_
 refine wp_ret ?_
 refine then_r ?_
 refine fin_ret1 rfl (ev (.int .i64 1) rfl rfl) ?_
 exact ⟨rfl, hk⟩

set_option maxRecDepth 100000 in
set_option maxHeartbeats 1000000 in
theorem hmacNil_Again0  (w0 : World) : Calls Tryd.prog 32 #[.pointer none] w0 fun e w' => e = .returned (.int .i64 1) ∧ Below w0.heap.size w0 w' := by
 refine enter (n := 20) Tryd.func32 rfl rfl rfl ?_
 have hk : Below w0.heap.size w0 w0 := Below.refl _ _
 refine wp_seq ?_
 refine wp_region_lit ?_
 refine w_as (evc (.int .i64 0)) ?_
 refine wpList_nil ?_
 refine then_n ?_
 refine wp_seq ?_
 refine wp_seq ?_
 refine wp_region_lit ?_
 refine w_mv (ev (.pointer none) rfl rfl) ?_
 refine w_val (v := .bool true) (y_bin (ev (.pointer none) rfl rfl) (evc (.pointer none)) (b_eqp Tryd.underlying59)) ?_
 refine w_mv (ev (.bool true) rfl rfl) ?_
 first | with_reducible refine w_skip ?_ ?_ | refine w_skip ?_ ?_
 · exact want_no (j := 2) rfl rfl (ev (.bool true) rfl rfl) rfl
 first | with_reducible refine w_skip ?_ ?_ | refine w_skip ?_ ?_
 · exact want_no (j := 2) rfl rfl (ev (.bool true) rfl rfl) rfl
 first | with_reducible refine w_skip ?_ ?_ | refine w_skip ?_ ?_
 · exact want_no (j := 2) rfl rfl (ev (.bool true) rfl rfl) rfl
 first | with_reducible refine w_skip ?_ ?_ | refine w_skip ?_ ?_
 · exact want_no (j := 2) rfl rfl (ev (.bool true) rfl rfl) rfl
 first | with_reducible refine w_skip ?_ ?_ | refine w_skip ?_ ?_
 · exact want_no (j := 2) rfl rfl (ev (.bool true) rfl rfl) rfl
 refine w_val (v := .bool true) (y_pick_t (ev (.bool true) rfl rfl) (evc (.bool true))) ?_
 refine wpList_nil ?_
 refine then_n ?_
 refine c_tt (ev (.bool true) rfl rfl) ?_
 refine wp_seq ?_
 refine wp_region_lit ?_
 refine w_as (evc (.int .i64 1)) ?_
 refine wpList_nil ?_
 refine then_n ?_
 refine wp_ret ?_
 refine then_r ?_
 refine fin_ret1 rfl (ev (.int .i64 1) rfl rfl) ?_
 exact ⟨rfl, hk⟩

set_option maxRecDepth 100000 in
set_option maxHeartbeats 1000000 in
theorem hmacNil_Againz (z : Nat) (w0 : World) (r_z : Row w0 z 65 3 (fun j => .pointer none)) : Calls Tryd.prog 32 #[pt z 0] w0 fun e w' => e = .returned (.int .i64 1) ∧ Below w0.heap.size w0 w' := by
 refine enter (n := 20) Tryd.func32 rfl rfl rfl ?_
 have hk : Below w0.heap.size w0 w0 := Below.refl _ _
 have lt_z := r_z.lt
 refine wp_seq ?_
 refine wp_region_lit ?_
 refine w_as (evc (.int .i64 0)) ?_
 refine wpList_nil ?_
 refine then_n ?_
 refine wp_seq ?_
 refine wp_seq ?_
 refine wp_region_lit ?_
 refine w_mv (ev (pt z 0) rfl rfl) ?_
 refine w_val (v := .bool false) (y_bin (ev (pt z 0) rfl rfl) (evc (.pointer none)) (b_eqp Tryd.underlying59)) ?_
 refine w_mv (ev (.bool false) rfl rfl) ?_
 refine w_val_g (v := pt z 0) (want_yes (j := 2) rfl rfl (ev (.bool false) rfl rfl) rfl) (y_mv (ev (pt z 0) rfl rfl)) ?_
 refine w_val_g (v := pt z 0) (want_yes (j := 2) rfl rfl (ev (.bool false) rfl rfl) rfl) (y_nc (ev (pt z 0) rfl rfl)) ?_
 refine w_val_g (v := pt z 2) (want_yes (j := 2) rfl rfl (ev (.bool false) rfl rfl) rfl) (y_off (y_fa (ev (pt z 0) rfl rfl) (HmacWNilT.fa65_2 _ _)) (by first | rfl | omega)) ?_
 refine w_val_g (v := .pointer none) (want_yes (j := 2) rfl rfl (ev (.bool false) rfl rfl) rfl) (y_ld (ev (pt z 2) rfl rfl) HmacWNilT.sc31 (r_z.val (by omega) (by first | with_reducible rfl | (with_reducible congr 1 <;> omega) | (with_reducible congr 2 <;> omega) | (with_reducible congr 3 <;> omega) | rfl))) ?_
 refine w_val_g (v := .bool true) (want_yes (j := 2) rfl rfl (ev (.bool false) rfl rfl) rfl) (y_bin (ev (.pointer none) rfl rfl) (evc (.pointer none)) (b_eqp Tryd.underlying31)) ?_
 refine w_val (v := .bool true) (y_pick_f (ev (.bool false) rfl rfl) (ev (.bool true) rfl rfl)) ?_
 refine wpList_nil ?_
 refine then_n ?_
 refine c_tt (ev (.bool true) rfl rfl) ?_
 refine wp_seq ?_
 refine wp_region_lit ?_
 refine w_as (evc (.int .i64 1)) ?_
 refine wpList_nil ?_
 refine then_n ?_
 refine wp_ret ?_
 refine then_r ?_
 refine fin_ret1 rfl (ev (.int .i64 1) rfl rfl) ?_
 exact ⟨rfl, hk⟩

set_option maxRecDepth 100000 in
set_option maxHeartbeats 1000000 in
theorem hmacNil_c (s : List (BitVec 8)) (w0 : World) (hT : Sha.Tabs w0) : Calls Tryd.prog 11 #[.string (str s)] w0 fun e w' => e = .returned (.bool true) ∧ Below w0.heap.size w0 w' := by
 have hT0 := hT.lt
 refine enter (n := 52) Tryd.func11 rfl rfl rfl ?_
 have hk : Below w0.heap.size w0 w0 := Below.refl _ _
 refine wp_seq ?_
 refine wp_region_lit ?_
 refine w_as (evc (.bool false)) ?_
 refine wpList_nil ?_
 refine then_n ?_
 refine wp_seq ?_
 refine wp_region_lit ?_
 refine w_as (evc (.pointer none)) ?_
 refine wpList_nil ?_
 refine then_n ?_
 refine wp_seq ?_
 refine wp_region_lit ?_
 refine w_val (v := .agg (arr 3 (fun j => .pointer none))) (y_build (vs := #[]) mp0 (fun w => by kernel_rfl)) ?_
 refine w_box (m := 3) (F := fun j => .pointer none) (ev (.agg (arr 3 (fun j => .pointer none))) rfl rfl) rfl ?_
 intro b_10 w1 hbe_b_10 r_b_10 hb2
 have ge_b_10 : w0.heap.size ≤ b_10 := by have := hk.size; omega
 clear hbe_b_10
 replace hk := thenB hk hb2
 replace hT := Sha.Tabs.below hT hb2
 refine w_as (ev (pt b_10 0) rfl rfl) ?_
 refine wpList_nil ?_
 refine then_n ?_
 refine wp_seq ?_
 refine wp_region_lit ?_
 refine w_mv (ev (.pointer none) rfl rfl) ?_
 refine w_call (Tryd.func33) (by kernel_rfl) rfl (m1 (ev (.pointer none) rfl rfl)) (hmacNil_Sum0  w1) ?_
 rintro _ w3 ⟨rfl, hb4⟩
 refine ⟨_, rfl, ?_⟩
 replace r_b_10 := r_b_10.step hb4
 replace hk := thenB hk hb4
 replace hT := Sha.Tabs.below hT hb4
 refine w_mv (ev (.tuple #[.string (str ([] : List (BitVec 8))), .int .i64 1]) rfl rfl) ?_
 refine w_val (v := .string (str ([] : List (BitVec 8)))) (y_ext (v := .string (str ([] : List (BitVec 8)))) (ev (.tuple #[.string (str ([] : List (BitVec 8))), .int .i64 1]) rfl rfl) rfl) ?_
 refine w_val (v := .int .i64 1) (y_ext (v := .int .i64 1) (ev (.tuple #[.string (str ([] : List (BitVec 8))), .int .i64 1]) rfl rfl) rfl) ?_
 refine w_as (ev (.string (str ([] : List (BitVec 8)))) rfl rfl) ?_
 refine w_as (ev (.int .i64 1) rfl rfl) ?_
 refine wpList_nil ?_
 refine then_n ?_
 refine wp_seq ?_
 refine wp_region_lit ?_
 refine w_mv (ev (pt b_10 0) rfl rfl) ?_
 refine w_call (Tryd.func33) (by kernel_rfl) rfl (m1 (ev (pt b_10 0) rfl rfl)) (hmacNil_Sumz b_10  w3 r_b_10) ?_
 rintro _ w5 ⟨rfl, hb6⟩
 refine ⟨_, rfl, ?_⟩
 replace r_b_10 := r_b_10.step hb6
 replace hk := thenB hk hb6
 replace hT := Sha.Tabs.below hT hb6
 refine w_mv (ev (.tuple #[.string (str ([] : List (BitVec 8))), .int .i64 1]) rfl rfl) ?_
 refine w_val (v := .string (str ([] : List (BitVec 8)))) (y_ext (v := .string (str ([] : List (BitVec 8)))) (ev (.tuple #[.string (str ([] : List (BitVec 8))), .int .i64 1]) rfl rfl) rfl) ?_
 refine w_val (v := .int .i64 1) (y_ext (v := .int .i64 1) (ev (.tuple #[.string (str ([] : List (BitVec 8))), .int .i64 1]) rfl rfl) rfl) ?_
 refine w_as (ev (.string (str ([] : List (BitVec 8)))) rfl rfl) ?_
 refine w_as (ev (.int .i64 1) rfl rfl) ?_
 refine wpList_nil ?_
 refine then_n ?_
 refine wp_seq ?_
 refine wp_region_lit ?_
 refine w_call (Tryd.func26) (by kernel_rfl) rfl m0 (macWakes_c w5 hT) ?_
 rintro _ w7 ⟨rfl, hb8⟩
 refine ⟨_, rfl, ?_⟩
 replace r_b_10 := r_b_10.step hb8
 replace hk := thenB hk hb8
 replace hT := Sha.Tabs.below hT hb8
 refine w_mv (ev (.bool true) rfl rfl) ?_
 refine w_val_g (v := .int .i64 1) (want_yes (j := 1) rfl rfl (ev (.bool true) rfl rfl) rfl) (y_mv (ev (.int .i64 1) rfl rfl)) ?_
 refine w_val_g (v := .bool true) (want_yes (j := 1) rfl rfl (ev (.bool true) rfl rfl) rfl) (y_bin (ev (.int .i64 1) rfl rfl) (evc (.int .i64 1)) b_eql) ?_
 refine w_val (v := .bool true) (y_pick_t (ev (.bool true) rfl rfl) (ev (.bool true) rfl rfl)) ?_
 refine w_mv (ev (.bool true) rfl rfl) ?_
 refine w_val_g (v := .int .i64 1) (want_yes (j := 5) rfl rfl (ev (.bool true) rfl rfl) rfl) (y_mv (ev (.int .i64 1) rfl rfl)) ?_
 refine w_val_g (v := .bool true) (want_yes (j := 5) rfl rfl (ev (.bool true) rfl rfl) rfl) (y_bin (ev (.int .i64 1) rfl rfl) (evc (.int .i64 1)) b_eql) ?_
 refine w_val (v := .bool true) (y_pick_t (ev (.bool true) rfl rfl) (ev (.bool true) rfl rfl)) ?_
 refine w_mv (ev (.bool true) rfl rfl) ?_
 refine w_val_g (v := .pointer none) (want_yes (j := 9) rfl rfl (ev (.bool true) rfl rfl) rfl) (y_mv (ev (.pointer none) rfl rfl)) ?_
 refine w_val_g (v := .string (str s)) (want_yes (j := 9) rfl rfl (ev (.bool true) rfl rfl) rfl) (y_mv (ev (.string (str s)) rfl rfl)) ?_
 refine w_unguard (want_yes (j := 9) rfl rfl (ev (.bool true) rfl rfl) rfl) ?_
 refine w_call (Tryd.func31) (by kernel_rfl) rfl (m2 (ev (.pointer none) rfl rfl) (ev (.string (str s)) rfl rfl)) (hmacNil_Write0 s w7) ?_
 rintro _ w9 ⟨rfl, hb10⟩
 refine ⟨_, rfl, ?_⟩
 replace r_b_10 := r_b_10.step hb10
 replace hk := thenB hk hb10
 replace hT := Sha.Tabs.below hT hb10
 refine w_val_g (v := .bool true) (want_yes (j := 9) rfl rfl (ev (.bool true) rfl rfl) rfl) (y_bin (ev (.int .i64 1) rfl rfl) (evc (.int .i64 1)) b_eql) ?_
 refine w_val (v := .bool true) (y_pick_t (ev (.bool true) rfl rfl) (ev (.bool true) rfl rfl)) ?_
 refine w_mv (ev (.bool true) rfl rfl) ?_
 refine w_val_g (v := pt b_10 0) (want_yes (j := 15) rfl rfl (ev (.bool true) rfl rfl) rfl) (y_mv (ev (pt b_10 0) rfl rfl)) ?_
 refine w_val_g (v := .string (str s)) (want_yes (j := 15) rfl rfl (ev (.bool true) rfl rfl) rfl) (y_mv (ev (.string (str s)) rfl rfl)) ?_
 refine w_unguard (want_yes (j := 15) rfl rfl (ev (.bool true) rfl rfl) rfl) ?_
 refine w_call (Tryd.func31) (by kernel_rfl) rfl (m2 (ev (pt b_10 0) rfl rfl) (ev (.string (str s)) rfl rfl)) (hmacNil_Writez b_10 s w9 r_b_10) ?_
 rintro _ w11 ⟨rfl, hb12⟩
 refine ⟨_, rfl, ?_⟩
 replace r_b_10 := r_b_10.step hb12
 replace hk := thenB hk hb12
 replace hT := Sha.Tabs.below hT hb12
 refine w_val_g (v := .bool true) (want_yes (j := 15) rfl rfl (ev (.bool true) rfl rfl) rfl) (y_bin (ev (.int .i64 1) rfl rfl) (evc (.int .i64 1)) b_eql) ?_
 refine w_val (v := .bool true) (y_pick_t (ev (.bool true) rfl rfl) (ev (.bool true) rfl rfl)) ?_
 refine w_mv (ev (.bool true) rfl rfl) ?_
 refine w_val_g (v := .pointer none) (want_yes (j := 21) rfl rfl (ev (.bool true) rfl rfl) rfl) (y_mv (ev (.pointer none) rfl rfl)) ?_
 refine w_unguard (want_yes (j := 21) rfl rfl (ev (.bool true) rfl rfl) rfl) ?_
 refine w_call (Tryd.func32) (by kernel_rfl) rfl (m1 (ev (.pointer none) rfl rfl)) (hmacNil_Again0  w11) ?_
 rintro _ w13 ⟨rfl, hb14⟩
 refine ⟨_, rfl, ?_⟩
 replace r_b_10 := r_b_10.step hb14
 replace hk := thenB hk hb14
 replace hT := Sha.Tabs.below hT hb14
 refine w_val_g (v := .bool true) (want_yes (j := 21) rfl rfl (ev (.bool true) rfl rfl) rfl) (y_bin (ev (.int .i64 1) rfl rfl) (evc (.int .i64 1)) b_eql) ?_
 refine w_val (v := .bool true) (y_pick_t (ev (.bool true) rfl rfl) (ev (.bool true) rfl rfl)) ?_
 refine w_mv (ev (.bool true) rfl rfl) ?_
 refine w_val_g (v := pt b_10 0) (want_yes (j := 26) rfl rfl (ev (.bool true) rfl rfl) rfl) (y_mv (ev (pt b_10 0) rfl rfl)) ?_
 refine w_unguard (want_yes (j := 26) rfl rfl (ev (.bool true) rfl rfl) rfl) ?_
 refine w_call (Tryd.func32) (by kernel_rfl) rfl (m1 (ev (pt b_10 0) rfl rfl)) (hmacNil_Againz b_10  w13 r_b_10) ?_
 rintro _ w15 ⟨rfl, hb16⟩
 refine ⟨_, rfl, ?_⟩
 replace r_b_10 := r_b_10.step hb16
 replace hk := thenB hk hb16
 replace hT := Sha.Tabs.below hT hb16
 refine w_val_g (v := .bool true) (want_yes (j := 26) rfl rfl (ev (.bool true) rfl rfl) rfl) (y_bin (ev (.int .i64 1) rfl rfl) (evc (.int .i64 1)) b_eql) ?_
 refine w_val (v := .bool true) (y_pick_t (ev (.bool true) rfl rfl) (ev (.bool true) rfl rfl)) ?_
 refine w_as (ev (.bool true) rfl rfl) ?_
 refine wpList_nil ?_
 refine then_n ?_
 refine wp_ret ?_
 refine fin_ret1 rfl (ev (.bool true) rfl rfl) ?_
 exact ⟨rfl, hk⟩

theorem walk_HmacNil (s : List (BitVec 8)) (hs : s.length ≤ 140737488351232) (w : World) (hT : Sha.Tabs w) : Calls Tryd.prog 11 #[.string (str s)] w fun e w' => e = .returned (.bool true) ∧ Below w.heap.size w w' := hmacNil_c s w hT
end Go.Proofs.YtieepglpejlkoaaDoor
