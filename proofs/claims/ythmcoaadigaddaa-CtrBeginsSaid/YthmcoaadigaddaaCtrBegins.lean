/-
  The statement of CtrBegins, for every input: the law's walk is in CtrXorsW; here the row's step. No conditions.
-/
import Derived.Test.YthmcoaadigaddaaLiftPair
import Derived.Test.YthmcoaadigaddaaLift
import Derived.Test.YthmcoaadigaddaaCtrXorsW
namespace Go.Proofs.Ythmcoaadigaddaa
open Go.ChangeShapes Go.WideShapes Go.ChangeAt Go.RowKit
open Go.ChangeMaps (open_string shut_string)
set_option linter.unusedVariables false
set_option maxRecDepth 100000 in
theorem lifted_CtrBegins (os : Os) (started : os.Started) (H : Type) (enc : TypeId × Value → H) :
    ReturnsInHanded {} Try.checked os 10 .any (Rows.ctrBeginsSpec.pre6 enc Try.prog Try.f10 Rows.ctrBeginsRow.domain false) (Rows.ctrBeginsSpec.post enc Try.prog Try.f10 false true false false) := by
  refine returnsInHanded_of_change_sized (C := Try.checked) own started (by kernel_rfl) Try.func10
    (ChangeSpec.witness6 (enc := enc) (C := Try.checked) false ⟨#[], #[.string ByteArray.empty, .agg #[.string ByteArray.empty, .int .i64 0], .string ByteArray.empty], []⟩ 8 (by kernel_rfl) (by kernel_rfl) (by kernel_rfl) (by kernel_rfl)) ?_
  intro W base args ds gs before hval0 hW hcnd hsz0 _
  have hval : ∀ (j : Nat) t v, Try.f10.params[j]? = some t → args[j]? = some v → Value.okWide Try.prog W .any base t v := hval0
  have hW' := hW
  obtain ⟨p, q, hA0, hV, rfl, hfz, hnd⟩ := hW
  have hA : DataW.TrodAll enc Try.prog W 0 (fun _ => true) true Try.f10.params.toList args.toList ds p := hA0
  rw [Try.params10] at hA hval
  obtain ⟨v0, vs0, d0, ds0, p0, q0, hargs, rfl, rfl, h0, r0⟩ := trodAll_cons hA
  obtain ⟨v1, vs1, d1, ds1, p1, q1, rfl, rfl, rfl, h1, r1⟩ := trodAll_cons r0
  obtain ⟨v2, vs2, d2, ds2, p2, q2, rfl, rfl, rfl, h2, r2⟩ := trodAll_cons r1
  obtain ⟨rfl, rfl, rfl⟩ := trodAll_nil r2
  obtain rfl : args = #[v0, v1, v2] := by cases args; simp_all
  obtain ⟨rfl, rfl⟩ := trodVars_none hV
  obtain ⟨a0, rfl, rfl, rfl, w0⟩ := open_string Try.underlying9 (hval 0 9 v0 rfl rfl) h0
  obtain ⟨a1, n1, rfl, rfl, rfl, z1, w1⟩ := open_pair Try.underlying34 (by kernel_rfl) rfl rfl (by kernel_rfl) (by kernel_rfl) Try.underlying9 Try.underlying3 h1
  obtain ⟨a2, rfl, rfl, rfl, w2⟩ := open_string Try.underlying9 (hval 2 9 v2 rfl rfl) h2
  have z0 : a0.size ≤ 140737488351232 := by have := sized_string hsz0 (j := 0) (t := 9) rfl rfl; exact Nat.le_trans (by simpa using this) (by decide)
  have z2 : a2.size ≤ 140737488351232 := by have := sized_string hsz0 (j := 2) (t := 9) rfl rfl; exact Nat.le_trans (by simpa using this) (by decide)
  clear hA0 hval0
  simp only [List.append_nil] at hW'
  have hwk := walk_CtrBegins (byt a0) (by rw [length_byt]; exact z0) (byt a1) n1 (byt a2) (by rw [length_byt]; exact z2) W
  rw [str_byt, str_byt, str_byt] at hwk
  refine hwk.mono fun e W' ⟨he, hg⟩ => ?_
  subst he
  exact ⟨_, rfl, post_of_below (pa := []) (pv := []) hW' (fun _ _ _ => (trodAll_cons_mk (shut_bool Try.underlying4 _) trodAll_mk0)) (fun sp _ => (trodAll_cons_mk (shut_string Try.underlying9 w0) (trodAll_cons_mk (shut_pair Try.underlying34 (by kernel_rfl) rfl rfl (by kernel_rfl) (by kernel_rfl) Try.underlying9 Try.underlying3 z1 w1) (trodAll_cons_mk (shut_string Try.underlying9 w2) trodAll_mk0)))) (fun _ _ => rfl) rfl
    hg (ok_one (by kernel_rfl) rfl (okWide_bool_mk Try.underlying4 _))⟩
theorem over_CtrBegins : Rows.ctrBeginsRow.holds Try.pinned (OpenSpec.ofChange Rows.ctrBeginsSpec) :=
  OpenClaim.holds_of_wide 10 Try.f10 rfl rfl rfl rfl rfl rfl rfl ⟨rfl, rfl, rfl, rfl, rfl⟩ rfl rfl rfl rfl rfl (by kernel_rfl) Try.func10 (by kernel_rfl)
    (of_decide_eq_true (by kernel_rfl)) (by unfold Func.isWrapper; first | (rw [if_pos (by decide +kernel)]; kernel_rfl) | (rw [if_neg (by decide +kernel)]; exact ⟨rfl, rfl⟩))
    (fun os started H enc _ => lifted_CtrBegins os started H enc)
/-- The statement. -/
theorem proved_CtrBegins : Rows.CtrBeginsSaid :=
  over_CtrBegins
#print axioms proved_CtrBegins
end Go.Proofs.Ythmcoaadigaddaa
