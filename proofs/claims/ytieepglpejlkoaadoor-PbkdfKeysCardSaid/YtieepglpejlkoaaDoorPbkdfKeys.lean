/-
  The statement of PbkdfKeys, for every input: the law's walk is in PbLKeys; here the row's step, and the card. No conditions.
-/
import Derived.Test.YtieepglpejlkoaaDoorLift
import Derived.Test.YtieepglpejlkoaaDoorPbLKeys
import Derived.Test.YtieepglpejlkoaaDoorLiftLaid
import Derived.Test.YtieepglpejlkoaaDoorTie
import Derived.Test.YtieepglpejlkoaaDoorCards
import Derived.Test.YtieepglpejlkoaaDoorLiftArr
import Derived.WideKeyArgs
import Derived.SevenTiedAt
namespace Go.Proofs.YtieepglpejlkoaaDoor
open Go.ChangeShapes Go.WideShapes Go.ChangeAt Go.RowKit
open Go.ChangeMaps (open_string shut_string)
set_option linter.unusedVariables false
set_option maxRecDepth 100000 in
theorem lifted_PbkdfKeys (os : Os) (started : os.Started) (H : Type) (enc : TypeId × Value → H) :
    ReturnsInHanded {} Tryd.checked os 12 .any (fun w args => (Rows.pbkdfKeysSpec.pre enc Tryd.prog Tryd.f12 [] false w args ∧ laidMetH Tryd.prog laidL w) ∧ sizedMet enc Tryd.prog Tryd.f12 (OpenSpec.ofChange Rows.pbkdfKeysSpec) false w args) (Rows.pbkdfKeysSpec.post enc Tryd.prog Tryd.f12 false true false false) := by
  refine returnsInHanded_of_change_and (C := Tryd.checked) (X := fun w _ => laidMetH Tryd.prog laidL w) (fun _ _ _ hh h => h.of_heap hh) own started (by kernel_rfl) Tryd.func12
    (ChangeSpec.witness_shaped (enc := enc) (C := Tryd.checked) (os := os) (X := fun w _ => laidMetH Tryd.prog laidL w) false (World.doorLaid Tryd.prog 400 os) #[.agg #[.int .i64 0, .string ByteArray.empty, .string ByteArray.empty, .int .i64 0, .int .i64 0]] 8 rfl (World.shaped_of_RefB (by kernel_rfl) (by kernel_rfl)) (by kernel_rfl) (by kernel_rfl) (by kernel_rfl) (door_met os _)) ?_
  intro W base args ds gs before hval0 hW hcnd hsz0 hL _
  have hT := tabs_of_laid hL
  have hval : ∀ (j : Nat) t v, Tryd.f12.params[j]? = some t → args[j]? = some v → Value.okWide Tryd.prog W .any base t v := hval0
  have hW' := hW
  obtain ⟨p, q, hA0, hV, rfl, hfz, hnd⟩ := hW
  have hA : DataW.TrodAll enc Tryd.prog W 0 (fun _ => true) true Tryd.f12.params.toList args.toList ds p := hA0
  rw [Tryd.params12] at hA hval
  obtain ⟨v0, vs0, d0, ds0, p0, q0, hargs, rfl, rfl, h0, r0⟩ := trodAll_cons hA
  obtain ⟨rfl, rfl, rfl⟩ := trodAll_nil r0
  obtain rfl : args = #[v0] := by cases args; simp_all
  obtain ⟨rfl, rfl⟩ := trodVars_none hV
  have hlt := hW'.lt
  have k0 := h0
  obtain ⟨k0_, pw0, sl0, rn0, ln0, rfl, rfl, wk0, wr0, wl0⟩ := open_ask Tryd.underlying67 (by kernel_rfl) ⟨rfl, rfl, rfl, rfl, rfl⟩ ⟨by kernel_rfl, by kernel_rfl, by kernel_rfl, by kernel_rfl, by kernel_rfl⟩ Tryd.underlying3 Tryd.underlying9 Tryd.underlying9 Tryd.underlying3 Tryd.underlying3 h0
  have hwk := walk_PbkdfKeys k0_ pw0 sl0 rn0 ln0 wk0 wr0 wl0 W hT
  clear hA0 hval0
  simp only [List.append_nil] at hW'
  refine hwk.mono fun e W' ⟨he, hg⟩ => ?_
  subst he
  exact ⟨_, rfl, post_of_below (pa := [] ++ ([])) (pv := []) hW' (fun _ _ _ => (trodAll_cons_mk (shut_bool Tryd.underlying4 _) trodAll_mk0)) (fun sp hsp => (trodAll_cons_mk (WideElems.Trod_stays (by kernel_rfl) (by kernel_rfl) (of_decide_eq_true (by kernel_rfl)) k0 (fun x hx => hg.same (hlt x (by simp at hx))) (fun x hx => hsp x (by simp at hx))) trodAll_mk0)) (fun _ _ => rfl) (by simp)
    hg (ok_one (by kernel_rfl) rfl (okWide_bool_mk Tryd.underlying4 _))⟩
theorem over_PbkdfKeys : Rows.pbkdfKeysRow.holds Tryd.pinned (OpenSpec.ofChange Rows.pbkdfKeysSpec) :=
  OpenClaim.holds_of_wide 12 Tryd.f12 rfl rfl rfl rfl rfl rfl rfl ⟨rfl, rfl, rfl, rfl, rfl⟩ rfl rfl rfl rfl rfl (by kernel_rfl) Tryd.func12 (by kernel_rfl)
    (of_decide_eq_true (by kernel_rfl)) (by unfold Func.isWrapper; first | (rw [if_pos (by decide +kernel)]; kernel_rfl) | (rw [if_neg (by decide +kernel)]; exact ⟨rfl, rfl⟩))
    (fun os started H enc _ => lifted_PbkdfKeys os started H enc)
/-- The statement: the tied card. -/
theorem proved_PbkdfKeys : Rows.PbkdfKeysCardSaid :=
  Claim7.holds_tied_plain_at .later [] [.data, .data] true (true, "f87d812a41ef34f565224aecd07674eea9e34acacbcef1a25433160104f2d20e") false
    over_PbkdfKeys (fun _ h => by cases h) (by kernel_rfl) (fun _ h => by cases h) pbkdfKeys_row_tie rfl ⟨rfl, rfl⟩ (by kernel_rfl) rfl
    (fun f fn hf hfn => by
      obtain rfl : f = 12 := Option.some.inj ((show Tryd.prog.funcNamed "pyxis/pyxislaw05.PbkdfKeys" = some 12 by kernel_rfl).symm.trans hf) |>.symm
      obtain rfl : fn = Tryd.f12 := (Option.some.inj (Tryd.func12.symm.trans hfn)).symm
      exact ⟨by kernel_rfl, fun j t ht => by
        rw [Tryd.params12] at ht
        have hm : t ∈ [67] := by simpa using Array.mem_of_getElem? ht
        have hall : ([67].all fun u => !Tryd.prog.wantsStandIn u) = true := by kernel_rfl
        exact (show Tryd.prog.wantsStandIn t = false by simpa using List.all_eq_true.1 hall t hm)⟩)
    (by kernel_rfl)
#print axioms proved_PbkdfKeys
end Go.Proofs.YtieepglpejlkoaaDoor
