/-
  The statement of RecipDerives, for every input: the law's walk is in RecDerW; here the row's step, and the card. No conditions.
-/
import Derived.Test.YtepogbfkmflooaaDoorPbPlain
import Derived.Test.YtepogbfkmflooaaDoorRecDerW
import Derived.Test.YtepogbfkmflooaaDoorCbcE
import Derived.Test.YtepogbfkmflooaaDoorTie
import Derived.Test.YtepogbfkmflooaaDoorCards
import Derived.Test.YtepogbfkmflooaaDoorRecLaws
import Derived.WideKeyArgs
import Derived.SevenTiedAt
namespace Go.Proofs.YtepogbfkmflooaaDoor
open Go.ChangeShapes Go.WideShapes Go.ChangeAt Go.RowKit
open Go.ChangeMaps (open_string shut_string)
set_option linter.unusedVariables false
set_option maxRecDepth 100000 in
theorem lifted_RecipDerives (os : Os) (started : os.Started) (H : Type) (enc : TypeId × Value → H) :
    ReturnsInHanded {} Tryd.checked os 4 .any (fun w args => (Rows.recipDerivesSpec.pre enc Tryd.prog Tryd.f4 [] false w args ∧ laidMetH Tryd.prog laidL w) ∧ sizedMet enc Tryd.prog Tryd.f4 (OpenSpec.ofChange Rows.recipDerivesSpec) false w args) (Rows.recipDerivesSpec.post enc Tryd.prog Tryd.f4 false true false false) := by
  refine returnsInHanded_of_change_and (C := Tryd.checked) (X := fun w _ => laidMetH Tryd.prog laidL w) (fun _ _ _ hh h => h.of_heap hh) own started (by kernel_rfl) Tryd.func4
    (ChangeSpec.witness_shaped (enc := enc) (C := Tryd.checked) (os := os) (X := fun w _ => laidMetH Tryd.prog laidL w) false (World.doorLaid Tryd.prog 400 os) #[.agg #[.string ByteArray.empty, .string ByteArray.empty, .string ByteArray.empty, .int .i64 0]] 8 rfl (World.shaped_of_RefB (by kernel_rfl) (by kernel_rfl)) (by kernel_rfl) (by kernel_rfl) (by kernel_rfl) (door_met os _)) ?_
  intro W base args ds gs before hval0 hW hcnd hsz0 hL _
  have hT := tabs_of_laid hL
  have hval : ∀ (j : Nat) t v, Tryd.f4.params[j]? = some t → args[j]? = some v → Value.okWide Tryd.prog W .any base t v := hval0
  have hW' := hW
  obtain ⟨p, q, hA0, hV, rfl, hfz, hnd⟩ := hW
  have hA : DataW.TrodAll enc Tryd.prog W 0 (fun _ => true) true Tryd.f4.params.toList args.toList ds p := hA0
  rw [Tryd.params4] at hA hval
  obtain ⟨v0, vs0, d0, ds0, p0, q0, hargs, rfl, rfl, h0, r0⟩ := trodAll_cons hA
  obtain ⟨rfl, rfl, rfl⟩ := trodAll_nil r0
  obtain rfl : args = #[v0] := by cases args; simp_all
  obtain ⟨rfl, rfl⟩ := trodVars_none hV
  have hlt := hW'.lt
  have k0 := h0
  obtain ⟨a0_0, a0_1, a0_2, a0_3, rfl, rfl, rfl, y0_0, y0_1, y0_2, w0_3⟩ := open_sssi Tryd.underlying30 (by kernel_rfl) ⟨rfl, rfl, rfl, rfl⟩ ⟨by kernel_rfl, by kernel_rfl, by kernel_rfl, by kernel_rfl⟩ Tryd.underlying9 Tryd.underlying9 Tryd.underlying9 Tryd.underlying3 h0
  have z0_0 : a0_0.size ≤ 140737488351232 := Nat.le_trans (show a0_0.size ≤ reachBytes from sized_at hsz0 (j := 0) (t := 30) rfl rfl y0_0) (by decide)
  have z0_1 : a0_1.size ≤ 140737488351232 := Nat.le_trans (show a0_1.size ≤ reachBytes from sized_at hsz0 (j := 0) (t := 30) rfl rfl y0_1) (by decide)
  have z0_2 : a0_2.size ≤ 140737488351232 := Nat.le_trans (show a0_2.size ≤ reachBytes from sized_at hsz0 (j := 0) (t := 30) rfl rfl y0_2) (by decide)
  have hwk := walk_RecipDerives (byt a0_0) (by rw [length_byt]; exact z0_0) (byt a0_1) (by rw [length_byt]; exact z0_1) (byt a0_2) (by rw [length_byt]; exact z0_2) a0_3 w0_3 W hT
  rw [str_byt, str_byt, str_byt] at hwk
  clear hA0 hval0
  simp only [List.append_nil] at hW'
  refine hwk.mono fun e W' ⟨he, hg⟩ => ?_
  subst he
  exact ⟨_, rfl, post_of_below (pa := [] ++ ([])) (pv := []) hW' (fun _ _ _ => (trodAll_cons_mk (shut_bool Tryd.underlying4 _) trodAll_mk0)) (fun sp hsp => (trodAll_cons_mk (WideElems.Trod_stays (by kernel_rfl) (by kernel_rfl) (of_decide_eq_true (by kernel_rfl)) k0 (fun x hx => hg.same (hlt x (by simp at hx))) (fun x hx => hsp x (by simp at hx))) trodAll_mk0)) (fun _ _ => rfl) (by simp)
    hg (ok_one (by kernel_rfl) rfl (okWide_bool_mk Tryd.underlying4 _))⟩
theorem over_RecipDerives : Rows.recipDerivesRow.holds Tryd.pinned (OpenSpec.ofChange Rows.recipDerivesSpec) :=
  OpenClaim.holds_of_wide 4 Tryd.f4 rfl rfl rfl rfl rfl rfl rfl ⟨rfl, rfl, rfl, rfl, rfl⟩ rfl rfl rfl rfl rfl (by kernel_rfl) Tryd.func4 (by kernel_rfl)
    (of_decide_eq_true (by kernel_rfl)) (by unfold Func.isWrapper; first | (rw [if_pos (by decide +kernel)]; kernel_rfl) | (rw [if_neg (by decide +kernel)]; exact ⟨rfl, rfl⟩))
    (fun os started H enc _ => lifted_RecipDerives os started H enc)
/-- The statement: the tied card. -/
theorem proved_RecipDerives : Rows.RecipDerivesCardSaid :=
  Claim7.holds_tied_plain_at .later [] [.data, .data] true (true, "d1501c2a6016ee1a2befe9f77a9daa0c16b6c3203084a14238b34b1438ff5e88") false
    over_RecipDerives (fun _ h => by cases h) (by kernel_rfl) (fun _ h => by cases h) recipDerives_row_tie rfl ⟨rfl, rfl⟩ (by kernel_rfl) rfl
    (fun f fn hf hfn => by
      obtain rfl : f = 4 := Option.some.inj ((show Tryd.prog.funcNamed "pyxis/pyxislaw22.RecipDerives" = some 4 by kernel_rfl).symm.trans hf) |>.symm
      obtain rfl : fn = Tryd.f4 := (Option.some.inj (Tryd.func4.symm.trans hfn)).symm
      exact ⟨by kernel_rfl, fun j t ht => by
        rw [Tryd.params4] at ht
        have hm : t ∈ [30] := by simpa using Array.mem_of_getElem? ht
        have hall : ([30].all fun u => !Tryd.prog.wantsStandIn u) = true := by kernel_rfl
        exact (show Tryd.prog.wantsStandIn t = false by simpa using List.all_eq_true.1 hall t hm)⟩)
    (by kernel_rfl)
#print axioms proved_RecipDerives
end Go.Proofs.YtepogbfkmflooaaDoor
