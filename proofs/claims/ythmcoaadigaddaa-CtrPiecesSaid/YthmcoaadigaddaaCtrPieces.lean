/-
  The statement of CtrPieces, for every input: the law's walk is in CtrPiecesW; here the row's step. No conditions.
-/
import Derived.Test.YthmcoaadigaddaaLiftPair
import Derived.Test.YthmcoaadigaddaaLift
import Derived.SliceStrings
import Derived.WideKeyArgs
import Derived.Test.YthmcoaadigaddaaCtrPiecesW
namespace Go.Proofs.Ythmcoaadigaddaa
open Go.ChangeShapes Go.WideShapes Go.ChangeAt Go.RowKit
open Go.ChangeMaps (open_string shut_string)
set_option linter.unusedVariables false
set_option maxRecDepth 100000 in
theorem lifted_CtrPieces (os : Os) (started : os.Started) (H : Type) (enc : TypeId × Value → H) :
    ReturnsInHanded {} Try.checked os 9 .any (Rows.ctrPiecesSpec.pre6 enc Try.prog Try.f9 Rows.ctrPiecesRow.domain false) (Rows.ctrPiecesSpec.post enc Try.prog Try.f9 false true false false) := by
  refine returnsInHanded_of_change_sized (C := Try.checked) own started (by kernel_rfl) Try.func9
    (ChangeSpec.witness6 (enc := enc) (C := Try.checked) false ⟨#[], #[.string ByteArray.empty, .agg #[.string ByteArray.empty, .int .i64 0], .slice none 0 0], []⟩ 8 (by kernel_rfl) (by kernel_rfl) (by kernel_rfl) (by kernel_rfl)) ?_
  intro W base args ds gs before hval0 hW hcnd hsz0 _
  have hval : ∀ (j : Nat) t v, Try.f9.params[j]? = some t → args[j]? = some v → Value.okWide Try.prog W .any base t v := hval0
  have hW' := hW
  obtain ⟨p, q, hA0, hV, rfl, hfz, hnd⟩ := hW
  have hA : DataW.TrodAll enc Try.prog W 0 (fun _ => true) true Try.f9.params.toList args.toList ds p := hA0
  rw [Try.params9] at hA hval
  obtain ⟨v0, vs0, d0, ds0, p0, q0, hargs, rfl, rfl, h0, r0⟩ := trodAll_cons hA
  obtain ⟨v1, vs1, d1, ds1, p1, q1, rfl, rfl, rfl, h1, r1⟩ := trodAll_cons r0
  obtain ⟨v2, vs2, d2, ds2, p2, q2, rfl, rfl, rfl, h2, r2⟩ := trodAll_cons r1
  obtain ⟨rfl, rfl, rfl⟩ := trodAll_nil r2
  obtain rfl : args = #[v0, v1, v2] := by cases args; simp_all
  obtain ⟨rfl, rfl⟩ := trodVars_none hV
  obtain ⟨a0, rfl, rfl, rfl, w0⟩ := open_string Try.underlying9 (hval 0 9 v0 rfl rfl) h0
  obtain ⟨a1, n1, rfl, rfl, rfl, z1, w1⟩ := open_pair Try.underlying34 (by kernel_rfl) rfl rfl (by kernel_rfl) (by kernel_rfl) Try.underlying9 Try.underlying3 h1
  have h2' := h2
  obtain ⟨x2, len, cap, rfl⟩ := okWide_slice Try.underlying42 (hval 2 42 _ rfl rfl)
  obtain ⟨fuel, hf⟩ := h2
  have hlt := hW'.lt
  have hw : ∃ R : Ending → World → Prop, Calls Try.prog 9 #[.string a0, .agg #[.string a1, .int .i64 n1], .slice x2 len cap] W R ∧ ∀ e W', R e W' → e = .returned (.bool true) ∧ Below W.heap.size W W' := by
    rcases open_strings Try.underlying42 Try.underlying9 (by kernel_rfl) hf with ⟨hcs, hx⟩ | ⟨a, len', cap', ss, hcs, _, hl, hm, hz, hx, hcell, hsz⟩
    · simp only [Value.cells, List.cons.injEq, Value.slice.injEq, and_true] at hcs
      obtain ⟨rfl, rfl, rfl⟩ := hcs
      have h := walk_CtrPieces_nil (byt a0) (byt a1) n1 W
      rw [str_byt, str_byt] at h
      exact ⟨_, h, fun e W' h => h⟩
    · simp only [Value.cells, List.cons.injEq, Value.slice.injEq, and_true] at hcs
      obtain ⟨rfl, rfl, rfl⟩ := hcs
      obtain ⟨hs, hb⟩ := slice_at Try.underlying42 (hval 2 42 _ rfl rfl)
      obtain ⟨g, off, spot⟩ := a
      obtain rfl : spot = none := hs
      have hz' : ss.length = cap := by simpa using hz
      have hd2 := congrArg Prod.fst hx
      simp only at hd2
      have hbytes : len ≤ 140737488351232 := by
        have hsl := sized_slice (e := 9) hsz0 (j := 2) (t := 42) rfl (by rw [hd2]; rfl) Try.underlying42
        rw [show Try.checked.prog.bytesOf 9 = 16 from by kernel_rfl] at hsl
        simp only [strs, List.length_map, List.length_take, List.length_drop] at hsl
        have := reachBytes_lt
        omega
      have h := walk_CtrPieces (byt a0) (byt a1) n1 g off len cap hbytes (fun i => byt (ss.getD i ByteArray.empty)) W hb (fun i hi => by
        have hc := hcell i (by omega)
        rw [Addr.add_lit] at hc
        rw [str_byt]
        exact hc)
      rw [str_byt, str_byt] at h
      exact ⟨_, h, fun e W' h => h⟩
  clear hA0 hval0
  simp only [List.append_nil] at hW'
  obtain ⟨R, hwk, hR⟩ := hw
  refine hwk.mono fun e W' hRe => ?_
  obtain ⟨he, hg⟩ := hR e W' hRe
  subst he
  exact ⟨_, rfl, post_of_below (pa := [] ++ ([] ++ (p2 ++ []))) (pv := []) hW' (fun _ _ _ => (trodAll_cons_mk (shut_bool Try.underlying4 _) trodAll_mk0)) (fun sp hsp => (trodAll_cons_mk (shut_string Try.underlying9 w0) (trodAll_cons_mk (shut_pair Try.underlying34 (by kernel_rfl) rfl rfl (by kernel_rfl) (by kernel_rfl) Try.underlying9 Try.underlying3 z1 w1) (trodAll_cons_mk (WideElems.Trod_stays (by kernel_rfl) (by kernel_rfl) (of_decide_eq_true (by kernel_rfl)) h2' (fun x hx => hg.same (hlt x (by simpa using hx))) (fun x hx => hsp x (by simpa using hx))) trodAll_mk0)))) (fun _ _ => rfl) (by simp)
    hg (ok_one (by kernel_rfl) rfl (okWide_bool_mk Try.underlying4 _))⟩
theorem over_CtrPieces : Rows.ctrPiecesRow.holds Try.pinned (OpenSpec.ofChange Rows.ctrPiecesSpec) :=
  OpenClaim.holds_of_wide 9 Try.f9 rfl rfl rfl rfl rfl rfl rfl ⟨rfl, rfl, rfl, rfl, rfl⟩ rfl rfl rfl rfl rfl (by kernel_rfl) Try.func9 (by kernel_rfl)
    (of_decide_eq_true (by kernel_rfl)) (by unfold Func.isWrapper; first | (rw [if_pos (by decide +kernel)]; kernel_rfl) | (rw [if_neg (by decide +kernel)]; exact ⟨rfl, rfl⟩))
    (fun os started H enc _ => lifted_CtrPieces os started H enc)
/-- The statement. -/
theorem proved_CtrPieces : Rows.CtrPiecesSaid :=
  over_CtrPieces
#print axioms proved_CtrPieces
end Go.Proofs.Ythmcoaadigaddaa
