/-
  The statement of CcmGreat, for every input: the law's walk is in CcmLawG; here the row's step. No conditions.
-/
import Derived.Test.YtjdcpejcnmpiaaaLift
import Derived.Test.YtjdcpejcnmpiaaaCcmLawG
import Derived.Test.YtjdcpejcnmpiaaaLiftS
import Derived.WideKeyArgs
namespace Go.Proofs.Ytjdcpejcnmpiaaa
open Go.ChangeShapes Go.WideShapes Go.ChangeAt Go.RowKit
open Go.ChangeMaps (open_string shut_string)
set_option linter.unusedVariables false
set_option maxRecDepth 100000 in
theorem lifted_CcmGreat (os : Os) (started : os.Started) (H : Type) (enc : TypeId × Value → H) :
    ReturnsInHanded {} Try.checked os 16 .any (Rows.ccmGreatSpec.pre6 enc Try.prog Try.f16 Rows.ccmGreatRow.domain false) (Rows.ccmGreatSpec.post enc Try.prog Try.f16 false true false false) := by
  refine returnsInHanded_of_change_sized (C := Try.checked) own started (by kernel_rfl) Try.func16
    (ChangeSpec.witness6 (enc := enc) (C := Try.checked) false ⟨#[], #[.agg #[.string ByteArray.empty, .string ByteArray.empty, .string ByteArray.empty, .int .i64 0], .int .u8 0, .int .u8 0], []⟩ 8 (by kernel_rfl) (by kernel_rfl) (by kernel_rfl) (by kernel_rfl)) ?_
  intro W base args ds gs before hval0 hW hcnd hsz0 _
  have hval : ∀ (j : Nat) t v, Try.f16.params[j]? = some t → args[j]? = some v → Value.okWide Try.prog W .any base t v := hval0
  have hW' := hW
  obtain ⟨p, q, hA0, hV, rfl, hfz, hnd⟩ := hW
  have hA : DataW.TrodAll enc Try.prog W 0 (fun _ => true) true Try.f16.params.toList args.toList ds p := hA0
  rw [Try.params16] at hA hval
  obtain ⟨v0, vs0, d0, ds0, p0, q0, hargs, rfl, rfl, h0, r0⟩ := trodAll_cons hA
  obtain ⟨v1, vs1, d1, ds1, p1, q1, rfl, rfl, rfl, h1, r1⟩ := trodAll_cons r0
  obtain ⟨v2, vs2, d2, ds2, p2, q2, rfl, rfl, rfl, h2, r2⟩ := trodAll_cons r1
  obtain ⟨rfl, rfl, rfl⟩ := trodAll_nil r2
  obtain rfl : args = #[v0, v1, v2] := by cases args; simp_all
  obtain ⟨rfl, rfl⟩ := trodVars_none hV
  have hlt := hW'.lt
  have k0 := h0
  obtain ⟨a0_0, a0_1, a0_2, a0_3, rfl, rfl, rfl, y0_0, y0_1, y0_2, w0_3⟩ := open_sssi Try.underlying49 (by kernel_rfl) ⟨rfl, rfl, rfl, rfl⟩ ⟨by kernel_rfl, by kernel_rfl, by kernel_rfl, by kernel_rfl⟩ Try.underlying9 Try.underlying9 Try.underlying9 Try.underlying3 h0
  have z0_0 : a0_0.size ≤ 140737488351232 := Nat.le_trans (show a0_0.size ≤ reachBytes from sized_at hsz0 (j := 0) (t := 49) rfl rfl y0_0) (by decide)
  have z0_1 : a0_1.size ≤ 140737488351232 := Nat.le_trans (show a0_1.size ≤ reachBytes from sized_at hsz0 (j := 0) (t := 49) rfl rfl y0_1) (by decide)
  have z0_2 : a0_2.size ≤ 140737488351232 := Nat.le_trans (show a0_2.size ≤ reachBytes from sized_at hsz0 (j := 0) (t := 49) rfl rfl y0_2) (by decide)
  have k1 := h1
  obtain ⟨a1, rfl, rfl, rfl, w1⟩ := open_int Try.underlying5 (hval 1 5 v1 rfl rfl) h1
  obtain ⟨c1, e1⟩ := U8_of a1 w1
  have k2 := h2
  obtain ⟨a2, rfl, rfl, rfl, w2⟩ := open_int Try.underlying5 (hval 2 5 v2 rfl rfl) h2
  obtain ⟨c2, e2⟩ := U8_of a2 w2
  have hwk := walk_CcmGreat (byt a0_0) (by rw [length_byt]; exact z0_0) (byt a0_1) (by rw [length_byt]; exact z0_1) (byt a0_2) (by rw [length_byt]; exact z0_2) a0_3 w0_3 c1 c2 W
  rw [str_byt, str_byt, str_byt, e1, e2] at hwk
  clear hA0 hval0
  simp only [List.append_nil] at hW'
  refine hwk.mono fun e W' ⟨he, hg⟩ => ?_
  subst he
  exact ⟨_, rfl, post_of_below (pa := [] ++ ([] ++ ([] ++ ([])))) (pv := []) hW' (fun _ _ _ => (trodAll_cons_mk (shut_bool Try.underlying4 _) trodAll_mk0)) (fun sp hsp => (trodAll_cons_mk (WideElems.Trod_stays (by kernel_rfl) (by kernel_rfl) (of_decide_eq_true (by kernel_rfl)) k0 (fun x hx => hg.same (hlt x (by simp at hx))) (fun x hx => hsp x (by simp at hx))) (trodAll_cons_mk (WideElems.Trod_stays (by kernel_rfl) (by kernel_rfl) (of_decide_eq_true (by kernel_rfl)) k1 (fun x hx => hg.same (hlt x (by simp at hx))) (fun x hx => hsp x (by simp at hx))) (trodAll_cons_mk (WideElems.Trod_stays (by kernel_rfl) (by kernel_rfl) (of_decide_eq_true (by kernel_rfl)) k2 (fun x hx => hg.same (hlt x (by simp at hx))) (fun x hx => hsp x (by simp at hx))) trodAll_mk0)))) (fun _ _ => rfl) (by simp)
    hg (ok_one (by kernel_rfl) rfl (okWide_bool_mk Try.underlying4 _))⟩
theorem over_CcmGreat : Rows.ccmGreatRow.holds Try.pinned (OpenSpec.ofChange Rows.ccmGreatSpec) :=
  OpenClaim.holds_of_wide 16 Try.f16 rfl rfl rfl rfl rfl rfl rfl ⟨rfl, rfl, rfl, rfl, rfl⟩ rfl rfl rfl rfl rfl (by kernel_rfl) Try.func16 (by kernel_rfl)
    (of_decide_eq_true (by kernel_rfl)) (by unfold Func.isWrapper; first | (rw [if_pos (by decide +kernel)]; kernel_rfl) | (rw [if_neg (by decide +kernel)]; exact ⟨rfl, rfl⟩))
    (fun os started H enc _ => lifted_CcmGreat os started H enc)
/-- The statement. -/
theorem proved_CcmGreat : Rows.CcmGreatSaid :=
  over_CcmGreat
#print axioms proved_CcmGreat
end Go.Proofs.Ytjdcpejcnmpiaaa
