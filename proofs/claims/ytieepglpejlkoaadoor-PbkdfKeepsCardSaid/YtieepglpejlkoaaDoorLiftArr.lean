/-
  An array of three texts as an argument. No conditions.
-/
import Derived.Test.YtieepglpejlkoaaDoorLift
import Derived.Test.YtieepglpejlkoaaDoorArr
import Derived.ChangeArms
import Derived.ProofKit
namespace Go.Proofs.YtieepglpejlkoaaDoor
open Go.RowKit Go.WideShapes Go.ChangeShapes
section
variable {H : Type} {enc : TypeId × Value → H} {P : Program} {w : World} {base : Nat} {sp : Nat → Bool} {held : Bool}
theorem open_three {t e : TypeId} {v : Value} {d : DataW H} {ps : List MemPlace} (ht : P.underlying t = some (.array 3 e)) (he : P.underlying e = some .string) (ct : P.cellsOf t = 3) (ce : P.cellsOf e = 1) (hd : DataW.Trod enc P w base sp held t v d ps) :
    ∃ a : Nat → List (BitVec 8), v = .agg (arr 3 (fun j => .string (str (a j)))) ∧ ps = [] := by
  obtain ⟨fuel, hf⟩ := hd
  obtain ⟨xs, k, _, hx, hl, hxl, hfs⟩ := DataW.trod_array ht hf
  rw [ct] at hl
  obtain ⟨cs, hcs⟩ : ∃ cs, v.cells.toList = cs := ⟨_, rfl⟩
  rw [hcs] at hl hfs
  match xs, hxl, cs, hl with
  | [y0, y1, y2], _, [v0, v1, v2], _ =>
    have g0 := hfs 0 (by decide)
    have g1 := hfs 1 (by decide)
    have g2 := hfs 2 (by decide)
    simp [ce] at g0 g1 g2
    obtain ⟨s0, e0, q0, z0⟩ := DataW.trod_string he g0
    obtain ⟨s1, e1, q1, z1⟩ := DataW.trod_string he g1
    obtain ⟨s2, e2, q2, z2⟩ := DataW.trod_string he g2
    simp only [List.cons.injEq, and_true] at e0 e1 e2
    subst e0 e1 e2 q0 q1 q2
    simp only [Prod.mk.injEq] at hx
    refine ⟨fun j => if j = 0 then byt s0 else if j = 1 then byt s1 else byt s2, ?_, hx.2⟩
    cases v with
    | agg a =>
      have ha : a.toList = [.string s0, .string s1, .string s2] := hcs
      rw [show a = #[.string s0, .string s1, .string s2] from by rw [← Array.toList_inj, ha]]
      show _ = Value.agg #[.string (str (byt s0)), .string (str (byt s1)), .string (str (byt s2))]
      rw [str_byt, str_byt, str_byt]
    | _ => simp [Value.cells] at hcs
/-- a struct of a number, two texts and two numbers -/
theorem open_ask {t : TypeId} {f0 f1 f2 f3 f4 : Field} {v : Value} {d : DataW H} {ps : List MemPlace} (he : P.underlying t = some (.struct #[f0, f1, f2, f3, f4])) (ce : P.cellsOf t = 5) (ho : f0.offset = 0 ∧ f1.offset = 1 ∧ f2.offset = 2 ∧ f3.offset = 3 ∧ f4.offset = 4)
    (hc : P.cellsOf f0.type = 1 ∧ P.cellsOf f1.type = 1 ∧ P.cellsOf f2.type = 1 ∧ P.cellsOf f3.type = 1 ∧ P.cellsOf f4.type = 1)
    (u0 : P.underlying f0.type = some (.int .i64)) (u1 : P.underlying f1.type = some .string) (u2 : P.underlying f2.type = some .string) (u3 : P.underlying f3.type = some (.int .i64)) (u4 : P.underlying f4.type = some (.int .i64)) (hd : DataW.Trod enc P w base sp held t v d ps) :
    ∃ (k : Int) (p s : List (BitVec 8)) (r l : Int), v = .agg #[.int .i64 k, .string (str p), .string (str s), .int .i64 r, .int .i64 l] ∧ ps = [] ∧ (Lit.int .i64 k).wf = true ∧ (Lit.int .i64 r).wf = true ∧ (Lit.int .i64 l).wf = true := by
  obtain ⟨fuel, hf⟩ := hd
  obtain ⟨xs, k, _, hx, hl, hxl, hfs⟩ := DataW.trod_struct he hf
  rw [ce] at hl
  obtain ⟨o0, o1, o2, o3, o4⟩ := ho
  obtain ⟨c0, c1, c2, c3, c4⟩ := hc
  obtain ⟨cs, hcs⟩ : ∃ cs, v.cells.toList = cs := ⟨_, rfl⟩
  rw [hcs] at hl hfs
  match xs, hxl, cs, hl with
  | [y0, y1, y2, y3, y4], _, [v0, v1, v2, v3, v4], _ =>
    have g0 := hfs 0 f0 rfl
    have g1 := hfs 1 f1 rfl
    have g2 := hfs 2 f2 rfl
    have g3 := hfs 3 f3 rfl
    have g4 := hfs 4 f4 rfl
    simp [o0, o1, o2, o3, o4, c0, c1, c2, c3, c4] at g0 g1 g2 g3 g4
    obtain ⟨n0, e0, q0, z0⟩ := DataW.trod_int u0 g0
    obtain ⟨s1, e1, q1, z1⟩ := DataW.trod_string u1 g1
    obtain ⟨s2, e2, q2, z2⟩ := DataW.trod_string u2 g2
    obtain ⟨n3, e3, q3, z3⟩ := DataW.trod_int u3 g3
    obtain ⟨n4, e4, q4, z4⟩ := DataW.trod_int u4 g4
    simp only [List.cons.injEq, and_true] at e0 e1 e2 e3 e4
    subst e0 e1 e2 e3 e4 q0 q1 q2 q3 q4
    simp only [Prod.mk.injEq] at hx
    refine ⟨n0, byt s1, byt s2, n3, n4, ?_, hx.2, z0, z3, z4⟩
    cases v with
    | agg a =>
      have ha : a.toList = [.int .i64 n0, .string s1, .string s2, .int .i64 n3, .int .i64 n4] := hcs
      rw [str_byt, str_byt, show a = #[.int .i64 n0, .string s1, .string s2, .int .i64 n3, .int .i64 n4] from by rw [← Array.toList_inj, ha]]
    | _ => simp [Value.cells] at hcs
end
end Go.Proofs.YtieepglpejlkoaaDoor
