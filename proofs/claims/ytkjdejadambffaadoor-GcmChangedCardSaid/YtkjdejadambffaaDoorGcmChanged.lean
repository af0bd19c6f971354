/-
  The statement of GcmChanged, for every input: the law's walk is in GcmLawC; here the row's step, and the card. No conditions.
-/
import Derived.Test.YtkjdejadambffaaDoorLift
import Derived.Test.YtkjdejadambffaaDoorGcmLawC
import Derived.Test.YtkjdejadambffaaDoorLiftFold
import Derived.Test.YtkjdejadambffaaDoorTie
import Derived.Test.YtkjdejadambffaaDoorCards
import Derived.Test.YtkjdejadambffaaDoorLiftS
import Derived.WideKeyArgs
import Derived.SevenTiedAt
namespace Go.Proofs.YtkjdejadambffaaDoor
open Go.ChangeShapes Go.WideShapes Go.ChangeAt Go.RowKit
open Go.ChangeMaps (open_string shut_string)
set_option linter.unusedVariables false
set_option maxRecDepth 100000 in
theorem lifted_GcmChanged (os : Os) (started : os.Started) (H : Type) (enc : TypeId × Value → H) :
    ReturnsInHanded {} Tryd.checked os 7 .any (fun w args => (Rows.gcmChangedSpec.pre enc Tryd.prog Tryd.f7 [] false w args ∧ laidMetH Tryd.prog laidL w) ∧ sizedMet enc Tryd.prog Tryd.f7 (OpenSpec.ofChange Rows.gcmChangedSpec) false w args) (Rows.gcmChangedSpec.post enc Tryd.prog Tryd.f7 false true false false) := by
  refine returnsInHanded_of_change_and (C := Tryd.checked) (X := fun w _ => laidMetH Tryd.prog laidL w) (fun _ _ _ hh h => h.of_heap hh) own started (by kernel_rfl) Tryd.func7
    (ChangeSpec.witness_shaped (enc := enc) (C := Tryd.checked) (os := os) (X := fun w _ => laidMetH Tryd.prog laidL w) false (World.doorLaid Tryd.prog 400 os) #[.agg #[.string ByteArray.empty, .string ByteArray.empty, .string ByteArray.empty, .int .i64 0], .string ByteArray.empty, .agg #[.int .i64 0, .int .i64 0, .int .u8 0]] 8 rfl (World.shaped_of_RefB (by kernel_rfl) (by kernel_rfl)) (by kernel_rfl) (by kernel_rfl) (by kernel_rfl) (door_met os _)) ?_
  intro W base args ds gs before hval0 hW hcnd hsz0 hL _
  have hT := tabs_of_laid hL
  have hval : ∀ (j : Nat) t v, Tryd.f7.params[j]? = some t → args[j]? = some v → Value.okWide Tryd.prog W .any base t v := hval0
  have hW' := hW
  obtain ⟨p, q, hA0, hV, rfl, hfz, hnd⟩ := hW
  have hA : DataW.TrodAll enc Tryd.prog W 0 (fun _ => true) true Tryd.f7.params.toList args.toList ds p := hA0
  rw [Tryd.params7] at hA hval
  obtain ⟨v0, vs0, d0, ds0, p0, q0, hargs, rfl, rfl, h0, r0⟩ := trodAll_cons hA
  obtain ⟨v1, vs1, d1, ds1, p1, q1, rfl, rfl, rfl, h1, r1⟩ := trodAll_cons r0
  obtain ⟨v2, vs2, d2, ds2, p2, q2, rfl, rfl, rfl, h2, r2⟩ := trodAll_cons r1
  obtain ⟨rfl, rfl, rfl⟩ := trodAll_nil r2
  obtain rfl : args = #[v0, v1, v2] := by cases args; simp_all
  obtain ⟨rfl, rfl⟩ := trodVars_none hV
  have hlt := hW'.lt
  have k0 := h0
  obtain ⟨a0_0, a0_1, a0_2, a0_3, rfl, rfl, rfl, y0_0, y0_1, y0_2, w0_3⟩ := open_sssi Tryd.underlying23 (by kernel_rfl) ⟨rfl, rfl, rfl, rfl⟩ ⟨by kernel_rfl, by kernel_rfl, by kernel_rfl, by kernel_rfl⟩ Tryd.underlying9 Tryd.underlying9 Tryd.underlying9 Tryd.underlying3 h0
  have z0_0 : a0_0.size ≤ 140737488351232 := Nat.le_trans (show a0_0.size ≤ reachBytes from sized_at hsz0 (j := 0) (t := 23) rfl rfl y0_0) (by decide)
  have z0_1 : a0_1.size ≤ 140737488351232 := Nat.le_trans (show a0_1.size ≤ reachBytes from sized_at hsz0 (j := 0) (t := 23) rfl rfl y0_1) (by decide)
  have z0_2 : a0_2.size ≤ 140737488351232 := Nat.le_trans (show a0_2.size ≤ reachBytes from sized_at hsz0 (j := 0) (t := 23) rfl rfl y0_2) (by decide)
  have k1 := h1
  obtain ⟨a1, rfl, rfl, rfl, w1⟩ := open_string Tryd.underlying9 (hval 1 9 v1 rfl rfl) h1
  have z1 : a1.size ≤ 140737488351232 := by have := sized_string hsz0 (j := 1) (t := 9) rfl rfl; exact Nat.le_trans (by simpa using this) (by decide)
  have k2 := h2
  obtain ⟨a2_0, a2_1, a2_2, rfl, rfl, rfl, w2_0, w2_1, w2_2⟩ := open_iib Tryd.underlying33 (by kernel_rfl) ⟨rfl, rfl, rfl⟩ ⟨by kernel_rfl, by kernel_rfl, by kernel_rfl⟩ Tryd.underlying3 Tryd.underlying3 Tryd.underlying5 h2
  obtain ⟨c2_2, e2_2⟩ := U8_of a2_2 w2_2
  have hwk := walk_GcmChanged (byt a0_0) (by rw [length_byt]; exact z0_0) (byt a0_1) (by rw [length_byt]; exact z0_1) (byt a0_2) (by rw [length_byt]; exact z0_2) a0_3 w0_3 (byt a1) (by rw [length_byt]; exact z1) a2_0 w2_0 a2_1 w2_1 c2_2 W hT
  rw [str_byt, str_byt, str_byt, str_byt, e2_2] at hwk
  clear hA0 hval0
  simp only [List.append_nil] at hW'
  refine hwk.mono fun e W' ⟨he, hg⟩ => ?_
  subst he
  exact ⟨_, rfl, post_of_below (pa := [] ++ ([] ++ ([] ++ ([])))) (pv := []) hW' (fun _ _ _ => (trodAll_cons_mk (shut_bool Tryd.underlying4 _) trodAll_mk0)) (fun sp hsp => (trodAll_cons_mk (WideElems.Trod_stays (by kernel_rfl) (by kernel_rfl) (of_decide_eq_true (by kernel_rfl)) k0 (fun x hx => hg.same (hlt x (by simp at hx))) (fun x hx => hsp x (by simp at hx))) (trodAll_cons_mk (WideElems.Trod_stays (by kernel_rfl) (by kernel_rfl) (of_decide_eq_true (by kernel_rfl)) k1 (fun x hx => hg.same (hlt x (by simp at hx))) (fun x hx => hsp x (by simp at hx))) (trodAll_cons_mk (WideElems.Trod_stays (by kernel_rfl) (by kernel_rfl) (of_decide_eq_true (by kernel_rfl)) k2 (fun x hx => hg.same (hlt x (by simp at hx))) (fun x hx => hsp x (by simp at hx))) trodAll_mk0)))) (fun _ _ => rfl) (by simp)
    hg (ok_one (by kernel_rfl) rfl (okWide_bool_mk Tryd.underlying4 _))⟩
theorem over_GcmChanged : Rows.gcmChangedRow.holds Tryd.pinned (OpenSpec.ofChange Rows.gcmChangedSpec) :=
  OpenClaim.holds_of_wide 7 Tryd.f7 rfl rfl rfl rfl rfl rfl rfl ⟨rfl, rfl, rfl, rfl, rfl⟩ rfl rfl rfl rfl rfl (by kernel_rfl) Tryd.func7 (by kernel_rfl)
    (of_decide_eq_true (by kernel_rfl)) (by unfold Func.isWrapper; first | (rw [if_pos (by decide +kernel)]; kernel_rfl) | (rw [if_neg (by decide +kernel)]; exact ⟨rfl, rfl⟩))
    (fun os started H enc _ => lifted_GcmChanged os started H enc)
/-- The statement: the tied card. -/
theorem proved_GcmChanged : Rows.GcmChangedCardSaid :=
  Claim7.holds_tied_plain_at .later [] [.data] true (true, "1a9627a5dd83ef7b8d8be1e20a4c532c4b437a294ddf19c6711a5a9deec91c58") false
    over_GcmChanged (fun _ h => by cases h) (by kernel_rfl) (fun _ h => by cases h) gcmChanged_row_tie rfl ⟨rfl, rfl⟩ (by kernel_rfl) rfl
    (fun f fn hf hfn => by
      obtain rfl : f = 7 := Option.some.inj ((show Tryd.prog.funcNamed "pyxis/pyxislaw09.GcmChanged" = some 7 by kernel_rfl).symm.trans hf) |>.symm
      obtain rfl : fn = Tryd.f7 := (Option.some.inj (Tryd.func7.symm.trans hfn)).symm
      exact ⟨by kernel_rfl, fun j t ht => by
        rw [Tryd.params7] at ht
        have hm : t ∈ [23, 9, 33] := by simpa using Array.mem_of_getElem? ht
        have hall : ([23, 9, 33].all fun u => !Tryd.prog.wantsStandIn u) = true := by kernel_rfl
        exact (show Tryd.prog.wantsStandIn t = false by simpa using List.all_eq_true.1 hall t hm)⟩)
    (by kernel_rfl)
#print axioms proved_GcmChanged
end Go.Proofs.YtkjdejadambffaaDoor
