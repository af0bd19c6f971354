/-
  Structs of texts, numbers and bytes as arguments. No conditions.
-/
import Derived.Test.YtkjdejadambffaaDoorLift
import Derived.ChangeArms
import Derived.ProofKit
namespace Go.Proofs.YtkjdejadambffaaDoor
open Go.RowKit Go.WideShapes Go.ChangeShapes
theorem sized_at {H : Type} {P : Program} {ts : List TypeId} {ds : List (DataW H)} (h : (DataW.weightsEach P ts ds).all (· ≤ reachBytes) = true) {j n : Nat} {t : TypeId} {d : DataW H} (ht : ts[j]? = some t) (hd : ds[j]? = some d) (hn : n ∈ d.weights P t) : n ≤ reachBytes := by
  have := List.all_eq_true.1 h n (DataW.weights_mem_each ht hd n hn)
  simpa using this
section
variable {H : Type} {enc : TypeId × Value → H} {P : Program} {w : World} {base : Nat} {sp : Nat → Bool} {held : Bool}
theorem open_ssss {t : TypeId} {f0 f1 f2 f3 : Field} {v : Value} {d : DataW H} {ps : List MemPlace} (he : P.underlying t = some (.struct #[f0, f1, f2, f3])) (ce : P.cellsOf t = 4) (ho : f0.offset = 0 ∧ f1.offset = 1 ∧ f2.offset = 2 ∧ f3.offset = 3) (hc : P.cellsOf f0.type = 1 ∧ P.cellsOf f1.type = 1 ∧ P.cellsOf f2.type = 1 ∧ P.cellsOf f3.type = 1)
    (u0 : P.underlying f0.type = some .string) (u1 : P.underlying f1.type = some .string) (u2 : P.underlying f2.type = some .string) (u3 : P.underlying f3.type = some .string) (hd : DataW.Trod enc P w base sp held t v d ps) :
    ∃ (a0 : ByteArray) (a1 : ByteArray) (a2 : ByteArray) (a3 : ByteArray), v = .agg #[.string a0, .string a1, .string a2, .string a3] ∧ d = .agg [.lit (.string a0.data.toList), .lit (.string a1.data.toList), .lit (.string a2.data.toList), .lit (.string a3.data.toList)] ∧ ps = [] ∧ a0.data.toList.length ∈ d.weights P t ∧ a1.data.toList.length ∈ d.weights P t ∧ a2.data.toList.length ∈ d.weights P t ∧ a3.data.toList.length ∈ d.weights P t := by
  obtain ⟨fuel, hf⟩ := hd
  obtain ⟨xs, k, _, hx, hl, hxl, hfs⟩ := DataW.trod_struct he hf
  rw [ce] at hl
  obtain ⟨o0, o1, o2, o3⟩ := ho
  obtain ⟨c0, c1, c2, c3⟩ := hc
  obtain ⟨cs, hcs⟩ : ∃ cs, v.cells.toList = cs := ⟨_, rfl⟩
  rw [hcs] at hl hfs
  match xs, hxl, cs, hl with
  | [y0, y1, y2, y3], _, [v0, v1, v2, v3], _ =>
    have g0 := hfs 0 f0 rfl
    have g1 := hfs 1 f1 rfl
    have g2 := hfs 2 f2 rfl
    have g3 := hfs 3 f3 rfl
    simp [o0, o1, o2, o3, c0, c1, c2, c3] at g0 g1 g2 g3
    obtain ⟨a0, e0, q0, z0⟩ := DataW.trod_string u0 g0
    obtain ⟨a1, e1, q1, z1⟩ := DataW.trod_string u1 g1
    obtain ⟨a2, e2, q2, z2⟩ := DataW.trod_string u2 g2
    obtain ⟨a3, e3, q3, z3⟩ := DataW.trod_string u3 g3
    simp only [List.cons.injEq, and_true] at e0 e1 e2 e3
    subst e0 e1 e2 e3 q0 q1 q2 q3
    simp only [Prod.mk.injEq] at hx
    obtain ⟨hx1, hx2⟩ := hx
    subst hx1
    refine ⟨a0, a1, a2, a3, ?_, rfl, hx2, by simp [DataW.weights, DataW.weightsEach, he], by simp [DataW.weights, DataW.weightsEach, he], by simp [DataW.weights, DataW.weightsEach, he], by simp [DataW.weights, DataW.weightsEach, he]⟩
    cases v with
    | agg a =>
      have ha : a.toList = [.string a0, .string a1, .string a2, .string a3] := hcs
      rw [show a = #[.string a0, .string a1, .string a2, .string a3] from by rw [← Array.toList_inj, ha]]
    | _ => simp [Value.cells] at hcs
theorem open_sssi {t : TypeId} {f0 f1 f2 f3 : Field} {v : Value} {d : DataW H} {ps : List MemPlace} (he : P.underlying t = some (.struct #[f0, f1, f2, f3])) (ce : P.cellsOf t = 4) (ho : f0.offset = 0 ∧ f1.offset = 1 ∧ f2.offset = 2 ∧ f3.offset = 3) (hc : P.cellsOf f0.type = 1 ∧ P.cellsOf f1.type = 1 ∧ P.cellsOf f2.type = 1 ∧ P.cellsOf f3.type = 1)
    (u0 : P.underlying f0.type = some .string) (u1 : P.underlying f1.type = some .string) (u2 : P.underlying f2.type = some .string) (u3 : P.underlying f3.type = some (.int .i64)) (hd : DataW.Trod enc P w base sp held t v d ps) :
    ∃ (a0 : ByteArray) (a1 : ByteArray) (a2 : ByteArray) (a3 : Int), v = .agg #[.string a0, .string a1, .string a2, .int .i64 a3] ∧ d = .agg [.lit (.string a0.data.toList), .lit (.string a1.data.toList), .lit (.string a2.data.toList), .lit (.int .i64 a3)] ∧ ps = [] ∧ a0.data.toList.length ∈ d.weights P t ∧ a1.data.toList.length ∈ d.weights P t ∧ a2.data.toList.length ∈ d.weights P t ∧ (Lit.int .i64 a3).wf = true := by
  obtain ⟨fuel, hf⟩ := hd
  obtain ⟨xs, k, _, hx, hl, hxl, hfs⟩ := DataW.trod_struct he hf
  rw [ce] at hl
  obtain ⟨o0, o1, o2, o3⟩ := ho
  obtain ⟨c0, c1, c2, c3⟩ := hc
  obtain ⟨cs, hcs⟩ : ∃ cs, v.cells.toList = cs := ⟨_, rfl⟩
  rw [hcs] at hl hfs
  match xs, hxl, cs, hl with
  | [y0, y1, y2, y3], _, [v0, v1, v2, v3], _ =>
    have g0 := hfs 0 f0 rfl
    have g1 := hfs 1 f1 rfl
    have g2 := hfs 2 f2 rfl
    have g3 := hfs 3 f3 rfl
    simp [o0, o1, o2, o3, c0, c1, c2, c3] at g0 g1 g2 g3
    obtain ⟨a0, e0, q0, z0⟩ := DataW.trod_string u0 g0
    obtain ⟨a1, e1, q1, z1⟩ := DataW.trod_string u1 g1
    obtain ⟨a2, e2, q2, z2⟩ := DataW.trod_string u2 g2
    obtain ⟨a3, e3, q3, z3⟩ := DataW.trod_int u3 g3
    simp only [List.cons.injEq, and_true] at e0 e1 e2 e3
    subst e0 e1 e2 e3 q0 q1 q2 q3
    simp only [Prod.mk.injEq] at hx
    obtain ⟨hx1, hx2⟩ := hx
    subst hx1
    refine ⟨a0, a1, a2, a3, ?_, rfl, hx2, by simp [DataW.weights, DataW.weightsEach, he], by simp [DataW.weights, DataW.weightsEach, he], by simp [DataW.weights, DataW.weightsEach, he], z3⟩
    cases v with
    | agg a =>
      have ha : a.toList = [.string a0, .string a1, .string a2, .int .i64 a3] := hcs
      rw [show a = #[.string a0, .string a1, .string a2, .int .i64 a3] from by rw [← Array.toList_inj, ha]]
    | _ => simp [Value.cells] at hcs
theorem open_iib {t : TypeId} {f0 f1 f2 : Field} {v : Value} {d : DataW H} {ps : List MemPlace} (he : P.underlying t = some (.struct #[f0, f1, f2])) (ce : P.cellsOf t = 3) (ho : f0.offset = 0 ∧ f1.offset = 1 ∧ f2.offset = 2) (hc : P.cellsOf f0.type = 1 ∧ P.cellsOf f1.type = 1 ∧ P.cellsOf f2.type = 1)
    (u0 : P.underlying f0.type = some (.int .i64)) (u1 : P.underlying f1.type = some (.int .i64)) (u2 : P.underlying f2.type = some (.int .u8)) (hd : DataW.Trod enc P w base sp held t v d ps) :
    ∃ (a0 : Int) (a1 : Int) (a2 : Int), v = .agg #[.int .i64 a0, .int .i64 a1, .int .u8 a2] ∧ d = .agg [.lit (.int .i64 a0), .lit (.int .i64 a1), .lit (.int .u8 a2)] ∧ ps = [] ∧ (Lit.int .i64 a0).wf = true ∧ (Lit.int .i64 a1).wf = true ∧ (Lit.int .u8 a2).wf = true := by
  obtain ⟨fuel, hf⟩ := hd
  obtain ⟨xs, k, _, hx, hl, hxl, hfs⟩ := DataW.trod_struct he hf
  rw [ce] at hl
  obtain ⟨o0, o1, o2⟩ := ho
  obtain ⟨c0, c1, c2⟩ := hc
  obtain ⟨cs, hcs⟩ : ∃ cs, v.cells.toList = cs := ⟨_, rfl⟩
  rw [hcs] at hl hfs
  match xs, hxl, cs, hl with
  | [y0, y1, y2], _, [v0, v1, v2], _ =>
    have g0 := hfs 0 f0 rfl
    have g1 := hfs 1 f1 rfl
    have g2 := hfs 2 f2 rfl
    simp [o0, o1, o2, c0, c1, c2] at g0 g1 g2
    obtain ⟨a0, e0, q0, z0⟩ := DataW.trod_int u0 g0
    obtain ⟨a1, e1, q1, z1⟩ := DataW.trod_int u1 g1
    obtain ⟨a2, e2, q2, z2⟩ := DataW.trod_int u2 g2
    simp only [List.cons.injEq, and_true] at e0 e1 e2
    subst e0 e1 e2 q0 q1 q2
    simp only [Prod.mk.injEq] at hx
    obtain ⟨hx1, hx2⟩ := hx
    subst hx1
    refine ⟨a0, a1, a2, ?_, rfl, hx2, z0, z1, z2⟩
    cases v with
    | agg a =>
      have ha : a.toList = [.int .i64 a0, .int .i64 a1, .int .u8 a2] := hcs
      rw [show a = #[.int .i64 a0, .int .i64 a1, .int .u8 a2] from by rw [← Array.toList_inj, ha]]
    | _ => simp [Value.cells] at hcs
theorem open_sss {t : TypeId} {f0 f1 f2 : Field} {v : Value} {d : DataW H} {ps : List MemPlace} (he : P.underlying t = some (.struct #[f0, f1, f2])) (ce : P.cellsOf t = 3) (ho : f0.offset = 0 ∧ f1.offset = 1 ∧ f2.offset = 2) (hc : P.cellsOf f0.type = 1 ∧ P.cellsOf f1.type = 1 ∧ P.cellsOf f2.type = 1)
    (u0 : P.underlying f0.type = some .string) (u1 : P.underlying f1.type = some .string) (u2 : P.underlying f2.type = some .string) (hd : DataW.Trod enc P w base sp held t v d ps) :
    ∃ (a0 : ByteArray) (a1 : ByteArray) (a2 : ByteArray), v = .agg #[.string a0, .string a1, .string a2] ∧ d = .agg [.lit (.string a0.data.toList), .lit (.string a1.data.toList), .lit (.string a2.data.toList)] ∧ ps = [] ∧ a0.data.toList.length ∈ d.weights P t ∧ a1.data.toList.length ∈ d.weights P t ∧ a2.data.toList.length ∈ d.weights P t := by
  obtain ⟨fuel, hf⟩ := hd
  obtain ⟨xs, k, _, hx, hl, hxl, hfs⟩ := DataW.trod_struct he hf
  rw [ce] at hl
  obtain ⟨o0, o1, o2⟩ := ho
  obtain ⟨c0, c1, c2⟩ := hc
  obtain ⟨cs, hcs⟩ : ∃ cs, v.cells.toList = cs := ⟨_, rfl⟩
  rw [hcs] at hl hfs
  match xs, hxl, cs, hl with
  | [y0, y1, y2], _, [v0, v1, v2], _ =>
    have g0 := hfs 0 f0 rfl
    have g1 := hfs 1 f1 rfl
    have g2 := hfs 2 f2 rfl
    simp [o0, o1, o2, c0, c1, c2] at g0 g1 g2
    obtain ⟨a0, e0, q0, z0⟩ := DataW.trod_string u0 g0
    obtain ⟨a1, e1, q1, z1⟩ := DataW.trod_string u1 g1
    obtain ⟨a2, e2, q2, z2⟩ := DataW.trod_string u2 g2
    simp only [List.cons.injEq, and_true] at e0 e1 e2
    subst e0 e1 e2 q0 q1 q2
    simp only [Prod.mk.injEq] at hx
    obtain ⟨hx1, hx2⟩ := hx
    subst hx1
    refine ⟨a0, a1, a2, ?_, rfl, hx2, by simp [DataW.weights, DataW.weightsEach, he], by simp [DataW.weights, DataW.weightsEach, he], by simp [DataW.weights, DataW.weightsEach, he]⟩
    cases v with
    | agg a =>
      have ha : a.toList = [.string a0, .string a1, .string a2] := hcs
      rw [show a = #[.string a0, .string a1, .string a2] from by rw [← Array.toList_inj, ha]]
    | _ => simp [Value.cells] at hcs
theorem open_isss {t : TypeId} {f0 f1 f2 f3 : Field} {v : Value} {d : DataW H} {ps : List MemPlace} (he : P.underlying t = some (.struct #[f0, f1, f2, f3])) (ce : P.cellsOf t = 4) (ho : f0.offset = 0 ∧ f1.offset = 1 ∧ f2.offset = 2 ∧ f3.offset = 3) (hc : P.cellsOf f0.type = 1 ∧ P.cellsOf f1.type = 1 ∧ P.cellsOf f2.type = 1 ∧ P.cellsOf f3.type = 1)
    (u0 : P.underlying f0.type = some (.int .i64)) (u1 : P.underlying f1.type = some .string) (u2 : P.underlying f2.type = some .string) (u3 : P.underlying f3.type = some .string) (hd : DataW.Trod enc P w base sp held t v d ps) :
    ∃ (a0 : Int) (a1 : ByteArray) (a2 : ByteArray) (a3 : ByteArray), v = .agg #[.int .i64 a0, .string a1, .string a2, .string a3] ∧ d = .agg [.lit (.int .i64 a0), .lit (.string a1.data.toList), .lit (.string a2.data.toList), .lit (.string a3.data.toList)] ∧ ps = [] ∧ a1.data.toList.length ∈ d.weights P t ∧ a2.data.toList.length ∈ d.weights P t ∧ a3.data.toList.length ∈ d.weights P t ∧ (Lit.int .i64 a0).wf = true := by
  obtain ⟨fuel, hf⟩ := hd
  obtain ⟨xs, k, _, hx, hl, hxl, hfs⟩ := DataW.trod_struct he hf
  rw [ce] at hl
  obtain ⟨o0, o1, o2, o3⟩ := ho
  obtain ⟨c0, c1, c2, c3⟩ := hc
  obtain ⟨cs, hcs⟩ : ∃ cs, v.cells.toList = cs := ⟨_, rfl⟩
  rw [hcs] at hl hfs
  match xs, hxl, cs, hl with
  | [y0, y1, y2, y3], _, [v0, v1, v2, v3], _ =>
    have g0 := hfs 0 f0 rfl
    have g1 := hfs 1 f1 rfl
    have g2 := hfs 2 f2 rfl
    have g3 := hfs 3 f3 rfl
    simp [o0, o1, o2, o3, c0, c1, c2, c3] at g0 g1 g2 g3
    obtain ⟨a0, e0, q0, z0⟩ := DataW.trod_int u0 g0
    obtain ⟨a1, e1, q1, z1⟩ := DataW.trod_string u1 g1
    obtain ⟨a2, e2, q2, z2⟩ := DataW.trod_string u2 g2
    obtain ⟨a3, e3, q3, z3⟩ := DataW.trod_string u3 g3
    simp only [List.cons.injEq, and_true] at e0 e1 e2 e3
    subst e0 e1 e2 e3 q0 q1 q2 q3
    simp only [Prod.mk.injEq] at hx
    obtain ⟨hx1, hx2⟩ := hx
    subst hx1
    refine ⟨a0, a1, a2, a3, ?_, rfl, hx2, by simp [DataW.weights, DataW.weightsEach, he], by simp [DataW.weights, DataW.weightsEach, he], by simp [DataW.weights, DataW.weightsEach, he], z0⟩
    cases v with
    | agg a =>
      have ha : a.toList = [.int .i64 a0, .string a1, .string a2, .string a3] := hcs
      rw [show a = #[.int .i64 a0, .string a1, .string a2, .string a3] from by rw [← Array.toList_inj, ha]]
    | _ => simp [Value.cells] at hcs
end
end Go.Proofs.YtkjdejadambffaaDoor
