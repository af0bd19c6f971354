/-
  The statement of CbchsBack, for every input: the law's walk is in ChLawB; here the row's step, and the card. No conditions.
-/
import Derived.Test.YtepogbfkmflooaaDoorLift
import Derived.Test.YtepogbfkmflooaaDoorChLawB
import Derived.Test.YtepogbfkmflooaaDoorLiftLaid
import Derived.Test.YtepogbfkmflooaaDoorTie
import Derived.Test.YtepogbfkmflooaaDoorCards
import Derived.Test.YtepogbfkmflooaaDoorLiftS
import Derived.WideKeyArgs
import Derived.SevenTiedAt
namespace Go.Proofs.YtepogbfkmflooaaDoor
open Go.ChangeShapes Go.WideShapes Go.ChangeAt Go.RowKit
open Go.ChangeMaps (open_string shut_string)
set_option linter.unusedVariables false
set_option maxRecDepth 100000 in
theorem lifted_CbchsBack (os : Os) (started : os.Started) (H : Type) (enc : TypeId × Value → H) :
    ReturnsInHanded {} Tryd.checked os 3 .any (fun w args => (Rows.cbchsBackSpec.pre enc Tryd.prog Tryd.f3 [] false w args ∧ laidMetH Tryd.prog laidL w) ∧ sizedMet enc Tryd.prog Tryd.f3 (OpenSpec.ofChange Rows.cbchsBackSpec) false w args) (Rows.cbchsBackSpec.post enc Tryd.prog Tryd.f3 false true false false) := by
  refine returnsInHanded_of_change_and (C := Tryd.checked) (X := fun w _ => laidMetH Tryd.prog laidL w) (fun _ _ _ hh h => h.of_heap hh) own started (by kernel_rfl) Tryd.func3
    (ChangeSpec.witness_shaped (enc := enc) (C := Tryd.checked) (os := os) (X := fun w _ => laidMetH Tryd.prog laidL w) false (World.doorLaid Tryd.prog 400 os) #[.agg #[.string ByteArray.empty, .string ByteArray.empty, .string ByteArray.empty], .string ByteArray.empty] 8 rfl (World.shaped_of_RefB (by kernel_rfl) (by kernel_rfl)) (by kernel_rfl) (by kernel_rfl) (by kernel_rfl) (door_met os _)) ?_
  intro W base args ds gs before hval0 hW hcnd hsz0 hL _
  have hT := tabs_of_laid hL
  have hval : ∀ (j : Nat) t v, Tryd.f3.params[j]? = some t → args[j]? = some v → Value.okWide Tryd.prog W .any base t v := hval0
  have hW' := hW
  obtain ⟨p, q, hA0, hV, rfl, hfz, hnd⟩ := hW
  have hA : DataW.TrodAll enc Tryd.prog W 0 (fun _ => true) true Tryd.f3.params.toList args.toList ds p := hA0
  rw [Tryd.params3] at hA hval
  obtain ⟨v0, vs0, d0, ds0, p0, q0, hargs, rfl, rfl, h0, r0⟩ := trodAll_cons hA
  obtain ⟨v1, vs1, d1, ds1, p1, q1, rfl, rfl, rfl, h1, r1⟩ := trodAll_cons r0
  obtain ⟨rfl, rfl, rfl⟩ := trodAll_nil r1
  obtain rfl : args = #[v0, v1] := by cases args; simp_all
  obtain ⟨rfl, rfl⟩ := trodVars_none hV
  have hlt := hW'.lt
  have k0 := h0
  obtain ⟨a0_0, a0_1, a0_2, rfl, rfl, rfl, y0_0, y0_1, y0_2⟩ := open_sss Tryd.underlying23 (by kernel_rfl) ⟨rfl, rfl, rfl⟩ ⟨by kernel_rfl, by kernel_rfl, by kernel_rfl⟩ Tryd.underlying9 Tryd.underlying9 Tryd.underlying9 h0
  have z0_0 : a0_0.size ≤ 140737488351232 := Nat.le_trans (show a0_0.size ≤ reachBytes from sized_at hsz0 (j := 0) (t := 23) rfl rfl y0_0) (by decide)
  have z0_1 : a0_1.size ≤ 140737488351232 := Nat.le_trans (show a0_1.size ≤ reachBytes from sized_at hsz0 (j := 0) (t := 23) rfl rfl y0_1) (by decide)
  have z0_2 : a0_2.size ≤ 140737488351232 := Nat.le_trans (show a0_2.size ≤ reachBytes from sized_at hsz0 (j := 0) (t := 23) rfl rfl y0_2) (by decide)
  have k1 := h1
  obtain ⟨a1, rfl, rfl, rfl, w1⟩ := open_string Tryd.underlying9 (hval 1 9 v1 rfl rfl) h1
  have z1 : a1.size ≤ 140737488351232 := by have := sized_string hsz0 (j := 1) (t := 9) rfl rfl; exact Nat.le_trans (by simpa using this) (by decide)
  have hwk := walk_CbchsBack (byt a0_0) (by rw [length_byt]; exact z0_0) (byt a0_1) (by rw [length_byt]; exact z0_1) (byt a0_2) (by rw [length_byt]; exact z0_2) (byt a1) (by rw [length_byt]; exact z1) W hT
  rw [str_byt, str_byt, str_byt, str_byt] at hwk
  clear hA0 hval0
  simp only [List.append_nil] at hW'
  refine hwk.mono fun e W' ⟨he, hg⟩ => ?_
  subst he
  exact ⟨_, rfl, post_of_below (pa := [] ++ ([] ++ ([]))) (pv := []) hW' (fun _ _ _ => (trodAll_cons_mk (shut_bool Tryd.underlying4 _) trodAll_mk0)) (fun sp hsp => (trodAll_cons_mk (WideElems.Trod_stays (by kernel_rfl) (by kernel_rfl) (of_decide_eq_true (by kernel_rfl)) k0 (fun x hx => hg.same (hlt x (by simp at hx))) (fun x hx => hsp x (by simp at hx))) (trodAll_cons_mk (WideElems.Trod_stays (by kernel_rfl) (by kernel_rfl) (of_decide_eq_true (by kernel_rfl)) k1 (fun x hx => hg.same (hlt x (by simp at hx))) (fun x hx => hsp x (by simp at hx))) trodAll_mk0))) (fun _ _ => rfl) (by simp)
    hg (ok_one (by kernel_rfl) rfl (okWide_bool_mk Tryd.underlying4 _))⟩
theorem over_CbchsBack : Rows.cbchsBackRow.holds Tryd.pinned (OpenSpec.ofChange Rows.cbchsBackSpec) :=
  OpenClaim.holds_of_wide 3 Tryd.f3 rfl rfl rfl rfl rfl rfl rfl ⟨rfl, rfl, rfl, rfl, rfl⟩ rfl rfl rfl rfl rfl (by kernel_rfl) Tryd.func3 (by kernel_rfl)
    (of_decide_eq_true (by kernel_rfl)) (by unfold Func.isWrapper; first | (rw [if_pos (by decide +kernel)]; kernel_rfl) | (rw [if_neg (by decide +kernel)]; exact ⟨rfl, rfl⟩))
    (fun os started H enc _ => lifted_CbchsBack os started H enc)
/-- The statement: the tied card. -/
theorem proved_CbchsBack : Rows.CbchsBackCardSaid :=
  Claim7.holds_tied_plain_at .later [] [.data, .data] true (true, "d1501c2a6016ee1a2befe9f77a9daa0c16b6c3203084a14238b34b1438ff5e88") false
    over_CbchsBack (fun _ h => by cases h) (by kernel_rfl) (fun _ h => by cases h) cbchsBack_row_tie rfl ⟨rfl, rfl⟩ (by kernel_rfl) rfl
    (fun f fn hf hfn => by
      obtain rfl : f = 3 := Option.some.inj ((show Tryd.prog.funcNamed "pyxis/pyxislaw11.CbchsBack" = some 3 by kernel_rfl).symm.trans hf) |>.symm
      obtain rfl : fn = Tryd.f3 := (Option.some.inj (Tryd.func3.symm.trans hfn)).symm
      exact ⟨by kernel_rfl, fun j t ht => by
        rw [Tryd.params3] at ht
        have hm : t ∈ [23, 9] := by simpa using Array.mem_of_getElem? ht
        have hall : ([23, 9].all fun u => !Tryd.prog.wantsStandIn u) = true := by kernel_rfl
        exact (show Tryd.prog.wantsStandIn t = false by simpa using List.all_eq_true.1 hall t hm)⟩)
    (by kernel_rfl)
#print axioms proved_CbchsBack
end Go.Proofs.YtepogbfkmflooaaDoor
