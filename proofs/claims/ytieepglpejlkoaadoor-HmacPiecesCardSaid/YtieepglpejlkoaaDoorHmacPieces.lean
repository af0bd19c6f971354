/-
  The statement of HmacPieces, for every input: the law's walk is in HmacWPieces; here the row's step, and the card. No conditions.
-/
import Derived.Test.YtieepglpejlkoaaDoorLift
import Derived.Test.YtieepglpejlkoaaDoorHmacWPieces
import Derived.Test.YtieepglpejlkoaaDoorLiftLaid
import Derived.Test.YtieepglpejlkoaaDoorTie
import Derived.Test.YtieepglpejlkoaaDoorCards
import Derived.Test.YtieepglpejlkoaaDoorLiftPair
import Derived.SliceStrings
import Derived.WideKeyArgs
import Derived.SevenTiedAt
namespace Go.Proofs.YtieepglpejlkoaaDoor
open Go.ChangeShapes Go.WideShapes Go.ChangeAt Go.RowKit
open Go.ChangeMaps (open_string shut_string)
set_option linter.unusedVariables false
set_option maxRecDepth 100000 in
theorem lifted_HmacPieces (os : Os) (started : os.Started) (H : Type) (enc : TypeId × Value → H) :
    ReturnsInHanded {} Tryd.checked os 10 .any (fun w args => (Rows.hmacPiecesSpec.pre enc Tryd.prog Tryd.f10 [] false w args ∧ laidMetH Tryd.prog laidL w) ∧ sizedMet enc Tryd.prog Tryd.f10 (OpenSpec.ofChange Rows.hmacPiecesSpec) false w args) (Rows.hmacPiecesSpec.post enc Tryd.prog Tryd.f10 false true false false) := by
  refine returnsInHanded_of_change_and (C := Tryd.checked) (X := fun w _ => laidMetH Tryd.prog laidL w) (fun _ _ _ hh h => h.of_heap hh) own started (by kernel_rfl) Tryd.func10
    (ChangeSpec.witness_shaped (enc := enc) (C := Tryd.checked) (os := os) (X := fun w _ => laidMetH Tryd.prog laidL w) false (World.doorLaid Tryd.prog 400 os) #[.int .i64 0, .string ByteArray.empty, .slice none 0 0] 8 rfl (World.shaped_of_RefB (by kernel_rfl) (by kernel_rfl)) (by kernel_rfl) (by kernel_rfl) (by kernel_rfl) (door_met os _)) ?_
  intro W base args ds gs before hval0 hW hcnd hsz0 hL _
  have hT := tabs_of_laid hL
  have hval : ∀ (j : Nat) t v, Tryd.f10.params[j]? = some t → args[j]? = some v → Value.okWide Tryd.prog W .any base t v := hval0
  have hW' := hW
  obtain ⟨p, q, hA0, hV, rfl, hfz, hnd⟩ := hW
  have hA : DataW.TrodAll enc Tryd.prog W 0 (fun _ => true) true Tryd.f10.params.toList args.toList ds p := hA0
  rw [Tryd.params10] at hA hval
  obtain ⟨v0, vs0, d0, ds0, p0, q0, hargs, rfl, rfl, h0, r0⟩ := trodAll_cons hA
  obtain ⟨v1, vs1, d1, ds1, p1, q1, rfl, rfl, rfl, h1, r1⟩ := trodAll_cons r0
  obtain ⟨v2, vs2, d2, ds2, p2, q2, rfl, rfl, rfl, h2, r2⟩ := trodAll_cons r1
  obtain ⟨rfl, rfl, rfl⟩ := trodAll_nil r2
  obtain rfl : args = #[v0, v1, v2] := by cases args; simp_all
  obtain ⟨rfl, rfl⟩ := trodVars_none hV
  have hlt := hW'.lt
  have k0 := h0
  obtain ⟨a0, rfl, rfl, rfl, w0⟩ := open_int Tryd.underlying3 (hval 0 3 v0 rfl rfl) h0
  have k1 := h1
  obtain ⟨a1, rfl, rfl, rfl, w1⟩ := open_string Tryd.underlying9 (hval 1 9 v1 rfl rfl) h1
  have z1 : a1.size ≤ 140737488351232 := by have := sized_string hsz0 (j := 1) (t := 9) rfl rfl; exact Nat.le_trans (by simpa using this) (by decide)
  have k2 := h2
  obtain ⟨x2, len, cap, rfl⟩ := okWide_slice Tryd.underlying45 (hval 2 45 _ rfl rfl)
  obtain ⟨fuel, hf⟩ := h2
  have hw : ∃ R : Ending → World → Prop, Calls Tryd.prog 10 #[.int .i64 a0, .string a1, .slice x2 len cap] W R ∧ ∀ e W', R e W' → e = .returned (.bool true) ∧ Below W.heap.size W W' := by
    rcases open_strings Tryd.underlying45 Tryd.underlying9 (by kernel_rfl) hf with ⟨hcs, hx⟩ | ⟨a, len', cap', ss, hcs, _, hl, hm, hz, hx, hcell, hsz⟩
    · simp only [Value.cells, List.cons.injEq, Value.slice.injEq, and_true] at hcs
      obtain ⟨rfl, rfl, rfl⟩ := hcs
      have h := walk_HmacPieces_nil a0 w0 (byt a1) (by rw [length_byt]; exact z1) W hT
      rw [str_byt] at h
      exact ⟨_, h, fun e W' h => h⟩
    · simp only [Value.cells, List.cons.injEq, Value.slice.injEq, and_true] at hcs
      obtain ⟨rfl, rfl, rfl⟩ := hcs
      obtain ⟨hs, hb⟩ := slice_at Tryd.underlying45 (hval 2 45 _ rfl rfl)
      obtain ⟨g, off, spot⟩ := a
      obtain rfl : spot = none := hs
      have hz' : ss.length = cap := by simpa using hz
      have hd2 := congrArg Prod.fst hx
      simp only at hd2
      have hbytes : len ≤ 140737488351232 := by
        have hsl := sized_slice (e := 9) hsz0 (j := 2) (t := 45) rfl (by rw [hd2]; rfl) Tryd.underlying45
        rw [show Tryd.checked.prog.bytesOf 9 = 16 from by kernel_rfl] at hsl
        simp only [strs, List.length_map, List.length_take, List.length_drop] at hsl
        have := reachBytes_lt
        omega
      have h := walk_HmacPieces a0 w0 (byt a1) (by rw [length_byt]; exact z1) g off len cap hbytes (fun i => byt (ss.getD i ByteArray.empty)) W hT hb (fun i hi => by
        have hc := hcell i (by omega)
        rw [Addr.add_lit] at hc
        rw [str_byt]
        exact hc)
      rw [str_byt] at h
      exact ⟨_, h, fun e W' h => h⟩
  clear hA0 hval0
  simp only [List.append_nil] at hW'
  obtain ⟨R, hwk, hR⟩ := hw
  refine hwk.mono fun e W' hRe => ?_
  obtain ⟨he, hg⟩ := hR e W' hRe
  subst he
  exact ⟨_, rfl, post_of_below (pa := [] ++ ([] ++ (p2 ++ ([])))) (pv := []) hW' (fun _ _ _ => (trodAll_cons_mk (shut_bool Tryd.underlying4 _) trodAll_mk0)) (fun sp hsp => (trodAll_cons_mk (WideElems.Trod_stays (by kernel_rfl) (by kernel_rfl) (of_decide_eq_true (by kernel_rfl)) k0 (fun x hx => hg.same (hlt x (by simp at hx))) (fun x hx => hsp x (by simp at hx))) (trodAll_cons_mk (WideElems.Trod_stays (by kernel_rfl) (by kernel_rfl) (of_decide_eq_true (by kernel_rfl)) k1 (fun x hx => hg.same (hlt x (by simp at hx))) (fun x hx => hsp x (by simp at hx))) (trodAll_cons_mk (WideElems.Trod_stays (by kernel_rfl) (by kernel_rfl) (of_decide_eq_true (by kernel_rfl)) k2 (fun x hx => hg.same (hlt x (by simpa using hx))) (fun x hx => hsp x (by simpa using hx))) trodAll_mk0)))) (fun _ _ => rfl) (by simp)
    hg (ok_one (by kernel_rfl) rfl (okWide_bool_mk Tryd.underlying4 _))⟩
theorem over_HmacPieces : Rows.hmacPiecesRow.holds Tryd.pinned (OpenSpec.ofChange Rows.hmacPiecesSpec) :=
  OpenClaim.holds_of_wide 10 Tryd.f10 rfl rfl rfl rfl rfl rfl rfl ⟨rfl, rfl, rfl, rfl, rfl⟩ rfl rfl rfl rfl rfl (by kernel_rfl) Tryd.func10 (by kernel_rfl)
    (of_decide_eq_true (by kernel_rfl)) (by unfold Func.isWrapper; first | (rw [if_pos (by decide +kernel)]; kernel_rfl) | (rw [if_neg (by decide +kernel)]; exact ⟨rfl, rfl⟩))
    (fun os started H enc _ => lifted_HmacPieces os started H enc)
/-- The statement: the tied card. -/
theorem proved_HmacPieces : Rows.HmacPiecesCardSaid :=
  Claim7.holds_tied_plain_at .later [] [.data, .data] true (true, "f87d812a41ef34f565224aecd07674eea9e34acacbcef1a25433160104f2d20e") false
    over_HmacPieces (fun _ h => by cases h) (by kernel_rfl) (fun _ h => by cases h) hmacPieces_row_tie rfl ⟨rfl, rfl⟩ (by kernel_rfl) rfl
    (fun f fn hf hfn => by
      obtain rfl : f = 10 := Option.some.inj ((show Tryd.prog.funcNamed "pyxis/pyxislaw04.HmacPieces" = some 10 by kernel_rfl).symm.trans hf) |>.symm
      obtain rfl : fn = Tryd.f10 := (Option.some.inj (Tryd.func10.symm.trans hfn)).symm
      exact ⟨by kernel_rfl, fun j t ht => by
        rw [Tryd.params10] at ht
        have hm : t ∈ [3, 9, 45] := by simpa using Array.mem_of_getElem? ht
        have hall : ([3, 9, 45].all fun u => !Tryd.prog.wantsStandIn u) = true := by kernel_rfl
        exact (show Tryd.prog.wantsStandIn t = false by simpa using List.all_eq_true.1 hall t hm)⟩)
    (by kernel_rfl)
#print axioms proved_HmacPieces
end Go.Proofs.YtieepglpejlkoaaDoor
