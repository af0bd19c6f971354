/-
  The walk of the law ShaSums. Conditions as each says.
-/
import Derived.Test.YtieepglpejlkoaaDoorRows
import Derived.Test.YtieepglpejlkoaaDoorShaW
import Derived.ProofKit
namespace Go.Proofs.YtieepglpejlkoaaDoor
open Go.RowKit
set_option linter.unusedSimpArgs false
set_option linter.unusedVariables false
namespace ShaWSumsT
theorem mixed : Tryd.prog.follows .mixedOrders = true := by kernel_rfl
theorem fa44_1 (g off : Nat) : ∀ w, (Instr.fieldAt 44 (.pointer (some ⟨g, off, none⟩)) 1).run Tryd.prog w = .ok (.pointer (some ⟨g, off + 1, none⟩)) w := fun w => by kernel_rfl
theorem fa44_2 (g off : Nat) : ∀ w, (Instr.fieldAt 44 (.pointer (some ⟨g, off, none⟩)) 2).run Tryd.prog w = .ok (.pointer (some ⟨g, off + 2, none⟩)) w := fun w => by kernel_rfl
theorem fa53_0 (g off : Nat) : ∀ w, (Instr.fieldAt 53 (.pointer (some ⟨g, off, none⟩)) 0).run Tryd.prog w = .ok (.pointer (some ⟨g, off + 0, none⟩)) w := fun w => by kernel_rfl
theorem sc3 : (Tryd.prog.underlying 3).map scal = some true := by rw [Tryd.underlying3]; rfl
theorem sc9 : (Tryd.prog.underlying 9).map scal = some true := by rw [Tryd.underlying9]; rfl
theorem sz9 : (Tryd.prog.info? 9).map (·.size) = some 1 := by kernel_rfl
end ShaWSumsT
set_option maxRecDepth 100000 in
set_option maxHeartbeats 1000000 in
theorem shaSums_y (kind : Nat) (hkd : Sha.Known kind) (s : List (BitVec 8)) (hs : s.length ≤ 140737488351232) (w0 : World) (hT : Sha.Tabs w0) : Calls Tryd.prog 3 #[.int .i64 ((kind : Nat) : Int), .string (str s)] w0 fun e w' => e = .returned (.bool true) ∧ Below w0.heap.size w0 w' := by
 have hT0 := hT.lt
 refine enter (n := 34) Tryd.func3 rfl rfl rfl ?_
 have hk : Below w0.heap.size w0 w0 := Below.refl _ _
 refine wp_seq ?_
 refine wp_region_lit ?_
 refine w_as (evc (.bool false)) ?_
 refine wpList_nil ?_
 refine then_n ?_
 refine wp_seq ?_
 refine wp_seq ?_
 refine wp_region_lit ?_
 refine w_call (Tryd.func16) (by kernel_rfl) rfl m0 (shaWakes_c w0 hT) ?_
 rintro _ w1 ⟨rfl, hb2⟩
 refine ⟨_, rfl, ?_⟩
 replace hk := thenB hk hb2
 replace hT := Sha.Tabs.below hT hb2
 refine w_val (v := .bool false) (y_not (ev (.bool true) rfl rfl)) ?_
 refine wpList_nil ?_
 refine then_n ?_
 refine c_ff (ev (.bool false) rfl rfl) ?_
 refine wp_skip ?_
 refine then_n ?_
 refine wp_seq ?_
 refine wp_seq ?_
 refine wp_region_lit ?_
 refine w_mv (ev (.string (str s)) rfl rfl) ?_
 refine w_val (v := .int .i64 ((s.length : Nat) : Int)) (y_len (ev (.string (str s)) rfl rfl) Tryd.underlying9) ?_
 refine w_val (v := .bool (decide (1048576 < ((s.length : Nat) : Int)))) (y_bin (ev (.int .i64 ((s.length : Nat) : Int)) rfl rfl) (evc (.int .i64 1048576)) b_gtr) ?_
 refine wpList_nil ?_
 refine then_n ?_
 refine c_if (p := 1048576 < ((s.length : Nat) : Int)) (ev (.bool (decide (1048576 < ((s.length : Nat) : Int)))) rfl rfl) (fun hc3 => ?_) (fun hc3 => ?_)
 ·skip
  refine wp_seq ?_
  refine wp_region_lit ?_
  refine w_as (evc (.bool true)) ?_
  refine wpList_nil ?_
  refine then_n ?_
  refine wp_ret ?_
  refine then_r ?_
  refine fin_ret1 rfl (ev (.bool true) rfl rfl) ?_
  exact ⟨rfl, hk⟩
 ·skip
  refine wp_skip ?_
  refine then_n ?_
  refine wp_seq ?_
  refine wp_region_lit ?_
  refine w_mv (ev (.int .i64 ((kind : Nat) : Int)) rfl rfl) ?_
  refine w_mv (ev (.string (str s)) rfl rfl) ?_
  refine w_call (Tryd.func17) (by kernel_rfl) rfl (m2 (ev (.int .i64 ((kind : Nat) : Int)) rfl rfl) (ev (.string (str s)) rfl rfl)) (shaText_l kind hkd s (by omega) w1 hT) ?_
  rintro _ w4 ⟨rfl, hb5⟩
  refine ⟨_, rfl, ?_⟩
  replace hk := thenB hk hb5
  replace hT := Sha.Tabs.below hT hb5
  refine w_mv (ev (.tuple #[.string (str (Sha.sum kind s)), .int .i64 0]) rfl rfl) ?_
  refine w_val (v := .string (str (Sha.sum kind s))) (y_ext (v := .string (str (Sha.sum kind s))) (ev (.tuple #[.string (str (Sha.sum kind s)), .int .i64 0]) rfl rfl) rfl) ?_
  refine w_val (v := .int .i64 0) (y_ext (v := .int .i64 0) (ev (.tuple #[.string (str (Sha.sum kind s)), .int .i64 0]) rfl rfl) rfl) ?_
  refine w_as (ev (.string (str (Sha.sum kind s))) rfl rfl) ?_
  refine w_as (ev (.int .i64 0) rfl rfl) ?_
  refine wpList_nil ?_
  refine then_n ?_
  refine wp_seq ?_
  refine wp_region_lit ?_
  refine w_mv (ev (.int .i64 ((kind : Nat) : Int)) rfl rfl) ?_
  refine w_mv (ev (.string (str s)) rfl rfl) ?_
  refine w_call (Tryd.func18) (by kernel_rfl) rfl (m2 (ev (.int .i64 ((kind : Nat) : Int)) rfl rfl) (ev (.string (str s)) rfl rfl)) (refText_l kind hkd s (by omega) w4 ) ?_
  rintro _ w6 ⟨rfl, hb7⟩
  refine ⟨_, rfl, ?_⟩
  replace hk := thenB hk hb7
  replace hT := Sha.Tabs.below hT hb7
  refine w_mv (ev (.tuple #[.string (str (Sha.sum kind s)), .int .i64 0]) rfl rfl) ?_
  refine w_val (v := .string (str (Sha.sum kind s))) (y_ext (v := .string (str (Sha.sum kind s))) (ev (.tuple #[.string (str (Sha.sum kind s)), .int .i64 0]) rfl rfl) rfl) ?_
  refine w_val (v := .int .i64 0) (y_ext (v := .int .i64 0) (ev (.tuple #[.string (str (Sha.sum kind s)), .int .i64 0]) rfl rfl) rfl) ?_
  refine w_as (ev (.string (str (Sha.sum kind s))) rfl rfl) ?_
  refine w_as (ev (.int .i64 0) rfl rfl) ?_
  refine wpList_nil ?_
  refine then_n ?_
  refine wp_seq ?_
  refine wp_region_lit ?_
  refine w_mv (ev (.string (str (Sha.sum kind s))) rfl rfl) ?_
  refine w_mv (ev (.string (str (Sha.sum kind s))) rfl rfl) ?_
  refine w_val (v := .bool true) (y_bin (ev (.string (str (Sha.sum kind s))) rfl rfl) (ev (.string (str (Sha.sum kind s))) rfl rfl) b_eqs_same) ?_
  refine w_mv (ev (.bool true) rfl rfl) ?_
  refine w_val_g (v := .int .i64 0) (want_yes (j := 3) rfl rfl (ev (.bool true) rfl rfl) rfl) (y_mv (ev (.int .i64 0) rfl rfl)) ?_
  refine w_val_g (v := .int .i64 0) (want_yes (j := 3) rfl rfl (ev (.bool true) rfl rfl) rfl) (y_mv (ev (.int .i64 0) rfl rfl)) ?_
  refine w_val_g (v := .bool true) (want_yes (j := 3) rfl rfl (ev (.bool true) rfl rfl) rfl) (y_bin (ev (.int .i64 0) rfl rfl) (ev (.int .i64 0) rfl rfl) b_eql) ?_
  refine w_val (v := .bool true) (y_pick_t (ev (.bool true) rfl rfl) (ev (.bool true) rfl rfl)) ?_
  refine w_as (ev (.bool true) rfl rfl) ?_
  refine wpList_nil ?_
  refine then_n ?_
  refine wp_ret ?_
  refine fin_ret1 rfl (ev (.bool true) rfl rfl) ?_
  exact ⟨rfl, hk⟩

set_option maxRecDepth 100000 in
set_option maxHeartbeats 1000000 in
theorem shaSums_n (k : Int) (k1 : k ≠ 256) (k2 : k ≠ 384) (k3 : k ≠ 512) (s : List (BitVec 8)) (hs : s.length ≤ 140737488351232) (w0 : World) (hT : Sha.Tabs w0) : Calls Tryd.prog 3 #[.int .i64 k, .string (str s)] w0 fun e w' => e = .returned (.bool true) ∧ Below w0.heap.size w0 w' := by
 have hT0 := hT.lt
 refine enter (n := 34) Tryd.func3 rfl rfl rfl ?_
 have hk : Below w0.heap.size w0 w0 := Below.refl _ _
 refine wp_seq ?_
 refine wp_region_lit ?_
 refine w_as (evc (.bool false)) ?_
 refine wpList_nil ?_
 refine then_n ?_
 refine wp_seq ?_
 refine wp_seq ?_
 refine wp_region_lit ?_
 refine w_call (Tryd.func16) (by kernel_rfl) rfl m0 (shaWakes_c w0 hT) ?_
 rintro _ w1 ⟨rfl, hb2⟩
 refine ⟨_, rfl, ?_⟩
 replace hk := thenB hk hb2
 replace hT := Sha.Tabs.below hT hb2
 refine w_val (v := .bool false) (y_not (ev (.bool true) rfl rfl)) ?_
 refine wpList_nil ?_
 refine then_n ?_
 refine c_ff (ev (.bool false) rfl rfl) ?_
 refine wp_skip ?_
 refine then_n ?_
 refine wp_seq ?_
 refine wp_seq ?_
 refine wp_region_lit ?_
 refine w_mv (ev (.string (str s)) rfl rfl) ?_
 refine w_val (v := .int .i64 ((s.length : Nat) : Int)) (y_len (ev (.string (str s)) rfl rfl) Tryd.underlying9) ?_
 refine w_val (v := .bool (decide (1048576 < ((s.length : Nat) : Int)))) (y_bin (ev (.int .i64 ((s.length : Nat) : Int)) rfl rfl) (evc (.int .i64 1048576)) b_gtr) ?_
 refine wpList_nil ?_
 refine then_n ?_
 refine c_if (p := 1048576 < ((s.length : Nat) : Int)) (ev (.bool (decide (1048576 < ((s.length : Nat) : Int)))) rfl rfl) (fun hc3 => ?_) (fun hc3 => ?_)
 ·skip
  refine wp_seq ?_
  refine wp_region_lit ?_
  refine w_as (evc (.bool true)) ?_
  refine wpList_nil ?_
  refine then_n ?_
  refine wp_ret ?_
  refine then_r ?_
  refine fin_ret1 rfl (ev (.bool true) rfl rfl) ?_
  exact ⟨rfl, hk⟩
 ·skip
  refine wp_skip ?_
  refine then_n ?_
  refine wp_seq ?_
  refine wp_region_lit ?_
  refine w_mv (ev (.int .i64 k) rfl rfl) ?_
  refine w_mv (ev (.string (str s)) rfl rfl) ?_
  refine w_call (Tryd.func17) (by kernel_rfl) rfl (m2 (ev (.int .i64 k) rfl rfl) (ev (.string (str s)) rfl rfl)) (shaText_no k k1 k2 k3 s w1 ) ?_
  rintro _ w4 ⟨rfl, hb5⟩
  refine ⟨_, rfl, ?_⟩
  replace hk := thenB hk hb5
  replace hT := Sha.Tabs.below hT hb5
  refine w_mv (ev (.tuple #[.string (str ([] : List (BitVec 8))), .int .i64 11]) rfl rfl) ?_
  refine w_val (v := .string (str ([] : List (BitVec 8)))) (y_ext (v := .string (str ([] : List (BitVec 8)))) (ev (.tuple #[.string (str ([] : List (BitVec 8))), .int .i64 11]) rfl rfl) rfl) ?_
  refine w_val (v := .int .i64 11) (y_ext (v := .int .i64 11) (ev (.tuple #[.string (str ([] : List (BitVec 8))), .int .i64 11]) rfl rfl) rfl) ?_
  refine w_as (ev (.string (str ([] : List (BitVec 8)))) rfl rfl) ?_
  refine w_as (ev (.int .i64 11) rfl rfl) ?_
  refine wpList_nil ?_
  refine then_n ?_
  refine wp_seq ?_
  refine wp_region_lit ?_
  refine w_mv (ev (.int .i64 k) rfl rfl) ?_
  refine w_mv (ev (.string (str s)) rfl rfl) ?_
  refine w_call (Tryd.func18) (by kernel_rfl) rfl (m2 (ev (.int .i64 k) rfl rfl) (ev (.string (str s)) rfl rfl)) (refText_no k k1 k2 k3 s w4 ) ?_
  rintro _ w6 ⟨rfl, hb7⟩
  refine ⟨_, rfl, ?_⟩
  replace hk := thenB hk hb7
  replace hT := Sha.Tabs.below hT hb7
  refine w_mv (ev (.tuple #[.string (str ([] : List (BitVec 8))), .int .i64 11]) rfl rfl) ?_
  refine w_val (v := .string (str ([] : List (BitVec 8)))) (y_ext (v := .string (str ([] : List (BitVec 8)))) (ev (.tuple #[.string (str ([] : List (BitVec 8))), .int .i64 11]) rfl rfl) rfl) ?_
  refine w_val (v := .int .i64 11) (y_ext (v := .int .i64 11) (ev (.tuple #[.string (str ([] : List (BitVec 8))), .int .i64 11]) rfl rfl) rfl) ?_
  refine w_as (ev (.string (str ([] : List (BitVec 8)))) rfl rfl) ?_
  refine w_as (ev (.int .i64 11) rfl rfl) ?_
  refine wpList_nil ?_
  refine then_n ?_
  refine wp_seq ?_
  refine wp_region_lit ?_
  refine w_mv (ev (.string (str ([] : List (BitVec 8)))) rfl rfl) ?_
  refine w_mv (ev (.string (str ([] : List (BitVec 8)))) rfl rfl) ?_
  refine w_val (v := .bool true) (y_bin (ev (.string (str ([] : List (BitVec 8)))) rfl rfl) (ev (.string (str ([] : List (BitVec 8)))) rfl rfl) b_eqs_same) ?_
  refine w_mv (ev (.bool true) rfl rfl) ?_
  refine w_val_g (v := .int .i64 11) (want_yes (j := 3) rfl rfl (ev (.bool true) rfl rfl) rfl) (y_mv (ev (.int .i64 11) rfl rfl)) ?_
  refine w_val_g (v := .int .i64 11) (want_yes (j := 3) rfl rfl (ev (.bool true) rfl rfl) rfl) (y_mv (ev (.int .i64 11) rfl rfl)) ?_
  refine w_val_g (v := .bool true) (want_yes (j := 3) rfl rfl (ev (.bool true) rfl rfl) rfl) (y_bin (ev (.int .i64 11) rfl rfl) (ev (.int .i64 11) rfl rfl) b_eql) ?_
  refine w_val (v := .bool true) (y_pick_t (ev (.bool true) rfl rfl) (ev (.bool true) rfl rfl)) ?_
  refine w_as (ev (.bool true) rfl rfl) ?_
  refine wpList_nil ?_
  refine then_n ?_
  refine wp_ret ?_
  refine fin_ret1 rfl (ev (.bool true) rfl rfl) ?_
  exact ⟨rfl, hk⟩

theorem walk_ShaSums (k : Int) (hw : (Lit.int .i64 k).wf = true) (s : List (BitVec 8)) (hs : s.length ≤ 140737488351232) (w : World) (hT : Sha.Tabs w) : Calls Tryd.prog 3 #[.int .i64 k, .string (str s)] w fun e w' => e = .returned (.bool true) ∧ Below w.heap.size w w' := by
  by_cases k1 : k = 256
  · subst k1; exact shaSums_y 256 (.inl rfl) s hs w hT
  by_cases k2 : k = 384
  · subst k2; exact shaSums_y 384 (.inr (.inl rfl)) s hs w hT
  by_cases k3 : k = 512
  · subst k3; exact shaSums_y 512 (.inr (.inr rfl)) s hs w hT
  exact shaSums_n k k1 k2 k3 s hs w hT
end Go.Proofs.YtieepglpejlkoaaDoor
