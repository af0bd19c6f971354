/-
  The walk of the law HmacSums. Conditions as each says.
-/
import Derived.Test.YtieepglpejlkoaaDoorRows
import Derived.Test.YtieepglpejlkoaaDoorHmacW
import Derived.ProofKit
namespace Go.Proofs.YtieepglpejlkoaaDoor
open Go.RowKit
set_option linter.unusedSimpArgs false
set_option linter.unusedVariables false
namespace HmacWSumsT
theorem mixed : Tryd.prog.follows .mixedOrders = true := by kernel_rfl
theorem fa44_2 (g off : Nat) : ∀ w, (Instr.fieldAt 44 (.pointer (some ⟨g, off, none⟩)) 2).run Tryd.prog w = .ok (.pointer (some ⟨g, off + 2, none⟩)) w := fun w => by kernel_rfl
theorem fa65_0 (g off : Nat) : ∀ w, (Instr.fieldAt 65 (.pointer (some ⟨g, off, none⟩)) 0).run Tryd.prog w = .ok (.pointer (some ⟨g, off + 0, none⟩)) w := fun w => by kernel_rfl
theorem fa65_1 (g off : Nat) : ∀ w, (Instr.fieldAt 65 (.pointer (some ⟨g, off, none⟩)) 1).run Tryd.prog w = .ok (.pointer (some ⟨g, off + 1, none⟩)) w := fun w => by kernel_rfl
theorem fa65_2 (g off : Nat) : ∀ w, (Instr.fieldAt 65 (.pointer (some ⟨g, off, none⟩)) 2).run Tryd.prog w = .ok (.pointer (some ⟨g, off + 2, none⟩)) w := fun w => by kernel_rfl
theorem sc3 : (Tryd.prog.underlying 3).map scal = some true := by rw [Tryd.underlying3]; rfl
theorem sc31 : (Tryd.prog.underlying 31).map scal = some true := by rw [Tryd.underlying31]; rfl
theorem sc5 : (Tryd.prog.underlying 5).map scal = some true := by rw [Tryd.underlying5]; rfl
theorem sc9 : (Tryd.prog.underlying 9).map scal = some true := by rw [Tryd.underlying9]; rfl
theorem sz31 : (Tryd.prog.info? 31).map (·.size) = some 1 := by kernel_rfl
theorem sz5 : (Tryd.prog.info? 5).map (·.size) = some 1 := by kernel_rfl
theorem sz9 : (Tryd.prog.info? 9).map (·.size) = some 1 := by kernel_rfl
end HmacWSumsT
set_option maxRecDepth 100000 in
set_option maxHeartbeats 1000000 in
theorem hmacSums_y (kind : Nat) (hkd : Sha.Known kind) (key text : List (BitVec 8)) (hk2 : key.length ≤ 140737488351232) (hs : text.length ≤ 140737488351232) (w0 : World) (hT : Sha.Tabs w0) : Calls Tryd.prog 8 #[.int .i64 ((kind : Nat) : Int), .string (str key), .string (str text)] w0 fun e w' => e = .returned (.bool true) ∧ Below w0.heap.size w0 w' := by
 have hT0 := hT.lt
 refine enter (n := 43) Tryd.func8 rfl rfl rfl ?_
 have hk : Below w0.heap.size w0 w0 := Below.refl _ _
 refine wp_seq ?_
 refine wp_region_lit ?_
 refine w_as (evc (.bool false)) ?_
 refine wpList_nil ?_
 refine then_n ?_
 refine wp_seq ?_
 refine wp_seq ?_
 refine wp_region_lit ?_
 refine w_call (Tryd.func26) (by kernel_rfl) rfl m0 (macWakes_c w0 hT) ?_
 rintro _ w1 ⟨rfl, hb2⟩
 refine ⟨_, rfl, ?_⟩
 replace hk := thenB hk hb2
 replace hT := Sha.Tabs.below hT hb2
 refine w_val (v := .bool false) (y_not (ev (.bool true) rfl rfl)) ?_
 refine wpList_nil ?_
 refine then_n ?_
 refine c_ff (ev (.bool false) rfl rfl) ?_
 refine wp_skip ?_
 refine then_n ?_
 refine wp_seq ?_
 refine wp_seq ?_
 refine wp_region_lit ?_
 refine w_mv (ev (.string (str key)) rfl rfl) ?_
 refine w_val (v := .int .i64 ((key.length : Nat) : Int)) (y_len (ev (.string (str key)) rfl rfl) Tryd.underlying9) ?_
 refine w_val (v := .bool (decide (1048576 < ((key.length : Nat) : Int)))) (y_bin (ev (.int .i64 ((key.length : Nat) : Int)) rfl rfl) (evc (.int .i64 1048576)) b_gtr) ?_
 refine w_mv (ev (.bool (decide (1048576 < ((key.length : Nat) : Int)))) rfl rfl) ?_
 by_cases hc3 : 1048576 < ((key.length : Nat) : Int)
 ·skip
  first | with_reducible refine w_skip ?_ ?_ | refine w_skip ?_ ?_
  · exact want_no (j := 3) rfl rfl (ev (.bool true) (Eq.trans (b := .bool (decide (1048576 < ((key.length : Nat) : Int)))) rfl (by rw [decide_eq_true hc3])) rfl) rfl
  first | with_reducible refine w_skip ?_ ?_ | refine w_skip ?_ ?_
  · exact want_no (j := 3) rfl rfl (ev (.bool true) (Eq.trans (b := .bool (decide (1048576 < ((key.length : Nat) : Int)))) rfl (by rw [decide_eq_true hc3])) rfl) rfl
  first | with_reducible refine w_skip ?_ ?_ | refine w_skip ?_ ?_
  · exact want_no (j := 3) rfl rfl (ev (.bool true) (Eq.trans (b := .bool (decide (1048576 < ((key.length : Nat) : Int)))) rfl (by rw [decide_eq_true hc3])) rfl) rfl
  refine w_val (v := .bool true) (y_pick_t (ev (.bool true) (Eq.trans (b := .bool (decide (1048576 < ((key.length : Nat) : Int)))) rfl (by rw [decide_eq_true hc3])) rfl) (evc (.bool true))) ?_
  refine wpList_nil ?_
  refine then_n ?_
  refine c_tt (ev (.bool true) rfl rfl) ?_
  refine wp_seq ?_
  refine wp_region_lit ?_
  refine w_as (evc (.bool true)) ?_
  refine wpList_nil ?_
  refine then_n ?_
  refine wp_ret ?_
  refine then_r ?_
  refine fin_ret1 rfl (ev (.bool true) rfl rfl) ?_
  exact ⟨rfl, hk⟩
 ·skip
  refine w_val_g (v := .string (str text)) (want_yes (j := 3) rfl rfl (ev (.bool false) (Eq.trans (b := .bool (decide (1048576 < ((key.length : Nat) : Int)))) rfl (by rw [decide_eq_false hc3])) rfl) rfl) (y_mv (ev (.string (str text)) rfl rfl)) ?_
  refine w_val_g (v := .int .i64 ((text.length : Nat) : Int)) (want_yes (j := 3) rfl rfl (ev (.bool false) (Eq.trans (b := .bool (decide (1048576 < ((key.length : Nat) : Int)))) rfl (by rw [decide_eq_false hc3])) rfl) rfl) (y_len (ev (.string (str text)) rfl rfl) Tryd.underlying9) ?_
  refine w_val_g (v := .bool (decide (1048576 < ((text.length : Nat) : Int)))) (want_yes (j := 3) rfl rfl (ev (.bool false) (Eq.trans (b := .bool (decide (1048576 < ((key.length : Nat) : Int)))) rfl (by rw [decide_eq_false hc3])) rfl) rfl) (y_bin (ev (.int .i64 ((text.length : Nat) : Int)) rfl rfl) (evc (.int .i64 1048576)) b_gtr) ?_
  refine w_val (v := .bool (decide (1048576 < ((text.length : Nat) : Int)))) (y_pick_f (ev (.bool false) (Eq.trans (b := .bool (decide (1048576 < ((key.length : Nat) : Int)))) rfl (by rw [decide_eq_false hc3])) rfl) (ev (.bool (decide (1048576 < ((text.length : Nat) : Int)))) rfl rfl)) ?_
  refine wpList_nil ?_
  refine then_n ?_
  refine c_if (p := 1048576 < ((text.length : Nat) : Int)) (ev (.bool (decide (1048576 < ((text.length : Nat) : Int)))) rfl rfl) (fun hc4 => ?_) (fun hc4 => ?_)
  ·skip
   refine wp_seq ?_
   refine wp_region_lit ?_
   refine w_as (evc (.bool true)) ?_
   refine wpList_nil ?_
   refine then_n ?_
   refine wp_ret ?_
   refine then_r ?_
   refine fin_ret1 rfl (ev (.bool true) rfl rfl) ?_
   exact ⟨rfl, hk⟩
  ·skip
   refine wp_skip ?_
   refine then_n ?_
   refine wp_seq ?_
   refine wp_region_lit ?_
   refine w_mv (ev (.int .i64 ((kind : Nat) : Int)) rfl rfl) ?_
   refine w_mv (ev (.string (str key)) rfl rfl) ?_
   refine w_mv (ev (.string (str text)) rfl rfl) ?_
   refine w_call (Tryd.func27) (by kernel_rfl) rfl (m3 (ev (.int .i64 ((kind : Nat) : Int)) rfl rfl) (ev (.string (str key)) rfl rfl) (ev (.string (str text)) rfl rfl)) (mac_l kind hkd key text (by omega) (by (try simp only [List.length_append, List.length_singleton, Sha.length_sum]); omega) w1 hT) ?_
   rintro _ w5 ⟨rfl, hb6⟩
   refine ⟨_, rfl, ?_⟩
   replace hk := thenB hk hb6
   replace hT := Sha.Tabs.below hT hb6
   refine w_mv (ev (.tuple #[.string (str (Hm.mac kind key text)), .int .i64 0]) rfl rfl) ?_
   refine w_val (v := .string (str (Hm.mac kind key text))) (y_ext (v := .string (str (Hm.mac kind key text))) (ev (.tuple #[.string (str (Hm.mac kind key text)), .int .i64 0]) rfl rfl) rfl) ?_
   refine w_val (v := .int .i64 0) (y_ext (v := .int .i64 0) (ev (.tuple #[.string (str (Hm.mac kind key text)), .int .i64 0]) rfl rfl) rfl) ?_
   refine w_as (ev (.string (str (Hm.mac kind key text))) rfl rfl) ?_
   refine w_as (ev (.int .i64 0) rfl rfl) ?_
   refine wpList_nil ?_
   refine then_n ?_
   refine wp_seq ?_
   refine wp_region_lit ?_
   refine w_mv (ev (.int .i64 ((kind : Nat) : Int)) rfl rfl) ?_
   refine w_mv (ev (.string (str key)) rfl rfl) ?_
   refine w_mv (ev (.string (str text)) rfl rfl) ?_
   refine w_call (Tryd.func28) (by kernel_rfl) rfl (m3 (ev (.int .i64 ((kind : Nat) : Int)) rfl rfl) (ev (.string (str key)) rfl rfl) (ev (.string (str text)) rfl rfl)) (refMac_l kind hkd key text (by omega) (by omega) w5 ) ?_
   rintro _ w7 ⟨rfl, hb8⟩
   refine ⟨_, rfl, ?_⟩
   replace hk := thenB hk hb8
   replace hT := Sha.Tabs.below hT hb8
   refine w_mv (ev (.tuple #[.string (str (Hm.mac kind key text)), .int .i64 0]) rfl rfl) ?_
   refine w_val (v := .string (str (Hm.mac kind key text))) (y_ext (v := .string (str (Hm.mac kind key text))) (ev (.tuple #[.string (str (Hm.mac kind key text)), .int .i64 0]) rfl rfl) rfl) ?_
   refine w_val (v := .int .i64 0) (y_ext (v := .int .i64 0) (ev (.tuple #[.string (str (Hm.mac kind key text)), .int .i64 0]) rfl rfl) rfl) ?_
   refine w_as (ev (.string (str (Hm.mac kind key text))) rfl rfl) ?_
   refine w_as (ev (.int .i64 0) rfl rfl) ?_
   refine wpList_nil ?_
   refine then_n ?_
   refine wp_seq ?_
   refine wp_region_lit ?_
   refine w_mv (ev (.string (str (Hm.mac kind key text))) rfl rfl) ?_
   refine w_mv (ev (.string (str (Hm.mac kind key text))) rfl rfl) ?_
   refine w_val (v := .bool true) (y_bin (ev (.string (str (Hm.mac kind key text))) rfl rfl) (ev (.string (str (Hm.mac kind key text))) rfl rfl) b_eqs_same) ?_
   refine w_mv (ev (.bool true) rfl rfl) ?_
   refine w_val_g (v := .int .i64 0) (want_yes (j := 3) rfl rfl (ev (.bool true) rfl rfl) rfl) (y_mv (ev (.int .i64 0) rfl rfl)) ?_
   refine w_val_g (v := .int .i64 0) (want_yes (j := 3) rfl rfl (ev (.bool true) rfl rfl) rfl) (y_mv (ev (.int .i64 0) rfl rfl)) ?_
   refine w_val_g (v := .bool true) (want_yes (j := 3) rfl rfl (ev (.bool true) rfl rfl) rfl) (y_bin (ev (.int .i64 0) rfl rfl) (ev (.int .i64 0) rfl rfl) b_eql) ?_
   refine w_val (v := .bool true) (y_pick_t (ev (.bool true) rfl rfl) (ev (.bool true) rfl rfl)) ?_
   refine w_as (ev (.bool true) rfl rfl) ?_
   refine wpList_nil ?_
   refine then_n ?_
   refine wp_ret ?_
   refine fin_ret1 rfl (ev (.bool true) rfl rfl) ?_
   exact ⟨rfl, hk⟩

set_option maxRecDepth 100000 in
set_option maxHeartbeats 1000000 in
theorem hmacSums_n (k : Int) (k1 : k ≠ 256) (k2 : k ≠ 384) (k3 : k ≠ 512) (key text : List (BitVec 8)) (hk2 : key.length ≤ 140737488351232) (hs : text.length ≤ 140737488351232) (w0 : World) (hT : Sha.Tabs w0) : Calls Tryd.prog 8 #[.int .i64 k, .string (str key), .string (str text)] w0 fun e w' => e = .returned (.bool true) ∧ Below w0.heap.size w0 w' := by
 have hT0 := hT.lt
 refine enter (n := 43) Tryd.func8 rfl rfl rfl ?_
 have hk : Below w0.heap.size w0 w0 := Below.refl _ _
 refine wp_seq ?_
 refine wp_region_lit ?_
 refine w_as (evc (.bool false)) ?_
 refine wpList_nil ?_
 refine then_n ?_
 refine wp_seq ?_
 refine wp_seq ?_
 refine wp_region_lit ?_
 refine w_call (Tryd.func26) (by kernel_rfl) rfl m0 (macWakes_c w0 hT) ?_
 rintro _ w1 ⟨rfl, hb2⟩
 refine ⟨_, rfl, ?_⟩
 replace hk := thenB hk hb2
 replace hT := Sha.Tabs.below hT hb2
 refine w_val (v := .bool false) (y_not (ev (.bool true) rfl rfl)) ?_
 refine wpList_nil ?_
 refine then_n ?_
 refine c_ff (ev (.bool false) rfl rfl) ?_
 refine wp_skip ?_
 refine then_n ?_
 refine wp_seq ?_
 refine wp_seq ?_
 refine wp_region_lit ?_
 refine w_mv (ev (.string (str key)) rfl rfl) ?_
 refine w_val (v := .int .i64 ((key.length : Nat) : Int)) (y_len (ev (.string (str key)) rfl rfl) Tryd.underlying9) ?_
 refine w_val (v := .bool (decide (1048576 < ((key.length : Nat) : Int)))) (y_bin (ev (.int .i64 ((key.length : Nat) : Int)) rfl rfl) (evc (.int .i64 1048576)) b_gtr) ?_
 refine w_mv (ev (.bool (decide (1048576 < ((key.length : Nat) : Int)))) rfl rfl) ?_
 by_cases hc3 : 1048576 < ((key.length : Nat) : Int)
 ·skip
  first | with_reducible refine w_skip ?_ ?_ | refine w_skip ?_ ?_
  · exact want_no (j := 3) rfl rfl (ev (.bool true) (Eq.trans (b := .bool (decide (1048576 < ((key.length : Nat) : Int)))) rfl (by rw [decide_eq_true hc3])) rfl) rfl
  first | with_reducible refine w_skip ?_ ?_ | refine w_skip ?_ ?_
  · exact want_no (j := 3) rfl rfl (ev (.bool true) (Eq.trans (b := .bool (decide (1048576 < ((key.length : Nat) : Int)))) rfl (by rw [decide_eq_true hc3])) rfl) rfl
  first | with_reducible refine w_skip ?_ ?_ | refine w_skip ?_ ?_
  · exact want_no (j := 3) rfl rfl (ev (.bool true) (Eq.trans (b := .bool (decide (1048576 < ((key.length : Nat) : Int)))) rfl (by rw [decide_eq_true hc3])) rfl) rfl
  refine w_val (v := .bool true) (y_pick_t (ev (.bool true) (Eq.trans (b := .bool (decide (1048576 < ((key.length : Nat) : Int)))) rfl (by rw [decide_eq_true hc3])) rfl) (evc (.bool true))) ?_
  refine wpList_nil ?_
  refine then_n ?_
  refine c_tt (ev (.bool true) rfl rfl) ?_
  refine wp_seq ?_
  refine wp_region_lit ?_
  refine w_as (evc (.bool true)) ?_
  refine wpList_nil ?_
  refine then_n ?_
  refine wp_ret ?_
  refine then_r ?_
  refine fin_ret1 rfl (ev (.bool true) rfl rfl) ?_
  exact ⟨rfl, hk⟩
 ·skip
  refine w_val_g (v := .string (str text)) (want_yes (j := 3) rfl rfl (ev (.bool false) (Eq.trans (b := .bool (decide (1048576 < ((key.length : Nat) : Int)))) rfl (by rw [decide_eq_false hc3])) rfl) rfl) (y_mv (ev (.string (str text)) rfl rfl)) ?_
  refine w_val_g (v := .int .i64 ((text.length : Nat) : Int)) (want_yes (j := 3) rfl rfl (ev (.bool false) (Eq.trans (b := .bool (decide (1048576 < ((key.length : Nat) : Int)))) rfl (by rw [decide_eq_false hc3])) rfl) rfl) (y_len (ev (.string (str text)) rfl rfl) Tryd.underlying9) ?_
  refine w_val_g (v := .bool (decide (1048576 < ((text.length : Nat) : Int)))) (want_yes (j := 3) rfl rfl (ev (.bool false) (Eq.trans (b := .bool (decide (1048576 < ((key.length : Nat) : Int)))) rfl (by rw [decide_eq_false hc3])) rfl) rfl) (y_bin (ev (.int .i64 ((text.length : Nat) : Int)) rfl rfl) (evc (.int .i64 1048576)) b_gtr) ?_
  refine w_val (v := .bool (decide (1048576 < ((text.length : Nat) : Int)))) (y_pick_f (ev (.bool false) (Eq.trans (b := .bool (decide (1048576 < ((key.length : Nat) : Int)))) rfl (by rw [decide_eq_false hc3])) rfl) (ev (.bool (decide (1048576 < ((text.length : Nat) : Int)))) rfl rfl)) ?_
  refine wpList_nil ?_
  refine then_n ?_
  refine c_if (p := 1048576 < ((text.length : Nat) : Int)) (ev (.bool (decide (1048576 < ((text.length : Nat) : Int)))) rfl rfl) (fun hc4 => ?_) (fun hc4 => ?_)
  ·skip
   refine wp_seq ?_
   refine wp_region_lit ?_
   refine w_as (evc (.bool true)) ?_
   refine wpList_nil ?_
   refine then_n ?_
   refine wp_ret ?_
   refine then_r ?_
   refine fin_ret1 rfl (ev (.bool true) rfl rfl) ?_
   exact ⟨rfl, hk⟩
  ·skip
   refine wp_skip ?_
   refine then_n ?_
   refine wp_seq ?_
   refine wp_region_lit ?_
   refine w_mv (ev (.int .i64 k) rfl rfl) ?_
   refine w_mv (ev (.string (str key)) rfl rfl) ?_
   refine w_mv (ev (.string (str text)) rfl rfl) ?_
   refine w_call (Tryd.func27) (by kernel_rfl) rfl (m3 (ev (.int .i64 k) rfl rfl) (ev (.string (str key)) rfl rfl) (ev (.string (str text)) rfl rfl)) (mac_no k k1 k2 k3 key text w1 ) ?_
   rintro _ w5 ⟨rfl, hb6⟩
   refine ⟨_, rfl, ?_⟩
   replace hk := thenB hk hb6
   replace hT := Sha.Tabs.below hT hb6
   refine w_mv (ev (.tuple #[.string (str ([] : List (BitVec 8))), .int .i64 11]) rfl rfl) ?_
   refine w_val (v := .string (str ([] : List (BitVec 8)))) (y_ext (v := .string (str ([] : List (BitVec 8)))) (ev (.tuple #[.string (str ([] : List (BitVec 8))), .int .i64 11]) rfl rfl) rfl) ?_
   refine w_val (v := .int .i64 11) (y_ext (v := .int .i64 11) (ev (.tuple #[.string (str ([] : List (BitVec 8))), .int .i64 11]) rfl rfl) rfl) ?_
   refine w_as (ev (.string (str ([] : List (BitVec 8)))) rfl rfl) ?_
   refine w_as (ev (.int .i64 11) rfl rfl) ?_
   refine wpList_nil ?_
   refine then_n ?_
   refine wp_seq ?_
   refine wp_region_lit ?_
   refine w_mv (ev (.int .i64 k) rfl rfl) ?_
   refine w_mv (ev (.string (str key)) rfl rfl) ?_
   refine w_mv (ev (.string (str text)) rfl rfl) ?_
   refine w_call (Tryd.func28) (by kernel_rfl) rfl (m3 (ev (.int .i64 k) rfl rfl) (ev (.string (str key)) rfl rfl) (ev (.string (str text)) rfl rfl)) (refMac_no k k1 k2 k3 key text w5 ) ?_
   rintro _ w7 ⟨rfl, hb8⟩
   refine ⟨_, rfl, ?_⟩
   replace hk := thenB hk hb8
   replace hT := Sha.Tabs.below hT hb8
   refine w_mv (ev (.tuple #[.string (str ([] : List (BitVec 8))), .int .i64 11]) rfl rfl) ?_
   refine w_val (v := .string (str ([] : List (BitVec 8)))) (y_ext (v := .string (str ([] : List (BitVec 8)))) (ev (.tuple #[.string (str ([] : List (BitVec 8))), .int .i64 11]) rfl rfl) rfl) ?_
   refine w_val (v := .int .i64 11) (y_ext (v := .int .i64 11) (ev (.tuple #[.string (str ([] : List (BitVec 8))), .int .i64 11]) rfl rfl) rfl) ?_
   refine w_as (ev (.string (str ([] : List (BitVec 8)))) rfl rfl) ?_
   refine w_as (ev (.int .i64 11) rfl rfl) ?_
   refine wpList_nil ?_
   refine then_n ?_
   refine wp_seq ?_
   refine wp_region_lit ?_
   refine w_mv (ev (.string (str ([] : List (BitVec 8)))) rfl rfl) ?_
   refine w_mv (ev (.string (str ([] : List (BitVec 8)))) rfl rfl) ?_
   refine w_val (v := .bool true) (y_bin (ev (.string (str ([] : List (BitVec 8)))) rfl rfl) (ev (.string (str ([] : List (BitVec 8)))) rfl rfl) b_eqs_same) ?_
   refine w_mv (ev (.bool true) rfl rfl) ?_
   refine w_val_g (v := .int .i64 11) (want_yes (j := 3) rfl rfl (ev (.bool true) rfl rfl) rfl) (y_mv (ev (.int .i64 11) rfl rfl)) ?_
   refine w_val_g (v := .int .i64 11) (want_yes (j := 3) rfl rfl (ev (.bool true) rfl rfl) rfl) (y_mv (ev (.int .i64 11) rfl rfl)) ?_
   refine w_val_g (v := .bool true) (want_yes (j := 3) rfl rfl (ev (.bool true) rfl rfl) rfl) (y_bin (ev (.int .i64 11) rfl rfl) (ev (.int .i64 11) rfl rfl) b_eql) ?_
   refine w_val (v := .bool true) (y_pick_t (ev (.bool true) rfl rfl) (ev (.bool true) rfl rfl)) ?_
   refine w_as (ev (.bool true) rfl rfl) ?_
   refine wpList_nil ?_
   refine then_n ?_
   refine wp_ret ?_
   refine fin_ret1 rfl (ev (.bool true) rfl rfl) ?_
   exact ⟨rfl, hk⟩

theorem walk_HmacSums (k : Int) (hw : (Lit.int .i64 k).wf = true) (key : List (BitVec 8)) (hk2 : key.length ≤ 140737488351232) (text : List (BitVec 8)) (hs : text.length ≤ 140737488351232) (w : World) (hT : Sha.Tabs w) : Calls Tryd.prog 8 #[.int .i64 k, .string (str key), .string (str text)] w fun e w' => e = .returned (.bool true) ∧ Below w.heap.size w w' := by
  by_cases k1 : k = 256
  · subst k1; exact hmacSums_y 256 (.inl rfl) key text hk2 hs w hT
  by_cases k2 : k = 384
  · subst k2; exact hmacSums_y 384 (.inr (.inl rfl)) key text hk2 hs w hT
  by_cases k3 : k = 512
  · subst k3; exact hmacSums_y 512 (.inr (.inr rfl)) key text hk2 hs w hT
  exact hmacSums_n k k1 k2 k3 key text hk2 hs w hT
end Go.Proofs.YtieepglpejlkoaaDoor
