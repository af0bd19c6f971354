/-
  The statement of SuiteMacs, for every input: the law's walk is in SuLawM; here the row's step, and the card. No conditions.
-/
import Derived.Test.YtdmbfimjbmfbaaaGreatDoorAesBackPlain
import Derived.Test.YtdmbfimjbmfbaaaGreatDoorSuLawM
import Derived.Test.YtdmbfimjbmfbaaaGreatDoorCtrB
import Derived.Test.YtdmbfimjbmfbaaaGreatDoorTie
import Derived.Test.YtdmbfimjbmfbaaaGreatDoorCards
import Derived.Test.YtdmbfimjbmfbaaaGreatDoorWrapPlain
import Derived.WideKeyArgs
import Derived.SevenTiedAt
namespace Go.Proofs.YtdmbfimjbmfbaaaGreatDoor
open Go.ChangeShapes Go.WideShapes Go.ChangeAt Go.RowKit
open Go.ChangeMaps (open_string shut_string)
set_option linter.unusedVariables false
set_option maxRecDepth 100000 in
theorem lifted_SuiteMacs (os : Os) (started : os.Started) (H : Type) (enc : TypeId × Value → H) :
    ReturnsInHanded {} Tryz.checked os 3 .any (fun w args => (Rows.suiteMacsSpec.pre enc Tryz.prog Tryz.f3 [] false w args ∧ laidMetH Tryz.prog laidL w) ∧ sizedMet enc Tryz.prog Tryz.f3 (OpenSpec.ofChange Rows.suiteMacsSpec) false w args) (Rows.suiteMacsSpec.post enc Tryz.prog Tryz.f3 false true false false) := by
  refine handed_both (C := Tryz.checked) (X := fun w _ => laidMetH Tryz.prog laidL w) (fun _ _ _ hh h => h.of_heap hh) own started (by kernel_rfl) Tryz.func3
    (ChangeSpec.witness_shaped (enc := enc) (C := Tryz.checked) (os := os) (X := fun w _ => laidMetH Tryz.prog laidL w) false (World.doorLaid Tryz.prog 400 os) #[.agg #[.int .i64 0, .string ByteArray.empty, .string ByteArray.empty, .string ByteArray.empty], .string ByteArray.empty, .string ByteArray.empty] 8 rfl (World.shaped_of_RefB (by kernel_rfl) (by kernel_rfl)) (by kernel_rfl) (by kernel_rfl) (by kernel_rfl) (door_met os _)) ?_
  intro W base args ds gs before hval0 hW hcnd hsz0 hL hSh
  obtain ⟨f, hF⟩ := fold_of_shaped hSh
  have hT := tabs_of_laid hL
  have hval : ∀ (j : Nat) t v, Tryz.f3.params[j]? = some t → args[j]? = some v → Value.okWide Tryz.prog W .any base t v := hval0
  have hW' := hW
  obtain ⟨p, q, hA0, hV, rfl, hfz, hnd⟩ := hW
  have hA : DataW.TrodAll enc Tryz.prog W 0 (fun _ => true) true Tryz.f3.params.toList args.toList ds p := hA0
  rw [Tryz.params3] at hA hval
  obtain ⟨v0, vs0, d0, ds0, p0, q0, hargs, rfl, rfl, h0, r0⟩ := trodAll_cons hA
  obtain ⟨v1, vs1, d1, ds1, p1, q1, rfl, rfl, rfl, h1, r1⟩ := trodAll_cons r0
  obtain ⟨v2, vs2, d2, ds2, p2, q2, rfl, rfl, rfl, h2, r2⟩ := trodAll_cons r1
  obtain ⟨rfl, rfl, rfl⟩ := trodAll_nil r2
  obtain rfl : args = #[v0, v1, v2] := by cases args; simp_all
  obtain ⟨rfl, rfl⟩ := trodVars_none hV
  have hlt := hW'.lt
  have k0 := h0
  obtain ⟨a0_0, a0_1, a0_2, a0_3, rfl, rfl, rfl, y0_1, y0_2, y0_3, w0_0⟩ := open_isss Tryz.underlying23 (by kernel_rfl) ⟨rfl, rfl, rfl, rfl⟩ ⟨by kernel_rfl, by kernel_rfl, by kernel_rfl, by kernel_rfl⟩ Tryz.underlying3 Tryz.underlying9 Tryz.underlying9 Tryz.underlying9 h0
  have z0_1 : a0_1.size ≤ 140737488351232 := Nat.le_trans (show a0_1.size ≤ reachBytes from sized_at hsz0 (j := 0) (t := 23) rfl rfl y0_1) (by decide)
  have z0_2 : a0_2.size ≤ 140737488351232 := Nat.le_trans (show a0_2.size ≤ reachBytes from sized_at hsz0 (j := 0) (t := 23) rfl rfl y0_2) (by decide)
  have z0_3 : a0_3.size ≤ 140737488351232 := Nat.le_trans (show a0_3.size ≤ reachBytes from sized_at hsz0 (j := 0) (t := 23) rfl rfl y0_3) (by decide)
  have k1 := h1
  obtain ⟨a1, rfl, rfl, rfl, w1⟩ := open_string Tryz.underlying9 (hval 1 9 v1 rfl rfl) h1
  have z1 : a1.size ≤ 140737488351232 := by have := sized_string hsz0 (j := 1) (t := 9) rfl rfl; exact Nat.le_trans (by simpa using this) (by decide)
  have k2 := h2
  obtain ⟨a2, rfl, rfl, rfl, w2⟩ := open_string Tryz.underlying9 (hval 2 9 v2 rfl rfl) h2
  have z2 : a2.size ≤ 140737488351232 := by have := sized_string hsz0 (j := 2) (t := 9) rfl rfl; exact Nat.le_trans (by simpa using this) (by decide)
  have hwk := walk_SuiteMacs f a0_0 w0_0 (byt a0_1) (by rw [length_byt]; exact z0_1) (byt a0_2) (by rw [length_byt]; exact z0_2) (byt a0_3) (by rw [length_byt]; exact z0_3) (byt a1) (by rw [length_byt]; exact z1) (byt a2) (by rw [length_byt]; exact z2) W hF hT
  rw [str_byt, str_byt, str_byt, str_byt, str_byt] at hwk
  clear hA0 hval0
  simp only [List.append_nil] at hW'
  refine hwk.mono fun e W' ⟨he, hg⟩ => ?_
  subst he
  exact ⟨_, rfl, post_of_below (pa := [] ++ ([] ++ ([] ++ ([])))) (pv := []) hW' (fun _ _ _ => (trodAll_cons_mk (shut_bool Tryz.underlying4 _) trodAll_mk0)) (fun sp hsp => (trodAll_cons_mk (WideElems.Trod_stays (by kernel_rfl) (by kernel_rfl) (of_decide_eq_true (by kernel_rfl)) k0 (fun x hx => hg.same (hlt x (by simp at hx))) (fun x hx => hsp x (by simp at hx))) (trodAll_cons_mk (WideElems.Trod_stays (by kernel_rfl) (by kernel_rfl) (of_decide_eq_true (by kernel_rfl)) k1 (fun x hx => hg.same (hlt x (by simp at hx))) (fun x hx => hsp x (by simp at hx))) (trodAll_cons_mk (WideElems.Trod_stays (by kernel_rfl) (by kernel_rfl) (of_decide_eq_true (by kernel_rfl)) k2 (fun x hx => hg.same (hlt x (by simp at hx))) (fun x hx => hsp x (by simp at hx))) trodAll_mk0)))) (fun _ _ => rfl) (by simp)
    hg (ok_one (by kernel_rfl) rfl (okWide_bool_mk Tryz.underlying4 _))⟩
theorem over_SuiteMacs : Rows.suiteMacsRow.holds Tryz.pinned (OpenSpec.ofChange Rows.suiteMacsSpec) :=
  OpenClaim.holds_of_wide 3 Tryz.f3 rfl rfl rfl rfl rfl rfl rfl ⟨rfl, rfl, rfl, rfl, rfl⟩ rfl rfl rfl rfl rfl (by kernel_rfl) Tryz.func3 (by kernel_rfl)
    (of_decide_eq_true (by kernel_rfl)) (by unfold Func.isWrapper; first | (rw [if_pos (by decide +kernel)]; kernel_rfl) | (rw [if_neg (by decide +kernel)]; exact ⟨rfl, rfl⟩))
    (fun os started H enc _ => lifted_SuiteMacs os started H enc)
/-- The statement: the tied card. -/
theorem proved_SuiteMacs : Rows.SuiteMacsCardSaid :=
  Claim7.holds_tied_plain_at .later [] [.data, .data] true (true, "767a51c924194f7e9314de4c4affe5b783667d410a3921861e4b806a72b13029") false
    over_SuiteMacs (fun _ h => by cases h) (by kernel_rfl) (fun _ h => by cases h) suiteMacs_row_tie rfl ⟨rfl, rfl⟩ (by kernel_rfl) rfl
    (fun f fn hf hfn => by
      obtain rfl : f = 3 := Option.some.inj ((show Tryz.prog.funcNamed "pyxis/pyxislaw13.SuiteMacs" = some 3 by kernel_rfl).symm.trans hf) |>.symm
      obtain rfl : fn = Tryz.f3 := (Option.some.inj (Tryz.func3.symm.trans hfn)).symm
      exact ⟨by kernel_rfl, fun j t ht => by
        rw [Tryz.params3] at ht
        have hm : t ∈ [23, 9, 9] := by simpa using Array.mem_of_getElem? ht
        have hall : ([23, 9, 9].all fun u => !Tryz.prog.wantsStandIn u) = true := by kernel_rfl
        exact (show Tryz.prog.wantsStandIn t = false by simpa using List.all_eq_true.1 hall t hm)⟩)
    (by kernel_rfl)
#print axioms proved_SuiteMacs
end Go.Proofs.YtdmbfimjbmfbaaaGreatDoor
