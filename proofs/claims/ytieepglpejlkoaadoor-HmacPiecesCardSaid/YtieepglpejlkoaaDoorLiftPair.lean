/-
  A struct of a text and a number, opened and shut; a number of 64 bits. No conditions.
-/
import Derived.Test.YtieepglpejlkoaaDoorLift
import Derived.ChangeArms
import Derived.ProofKit
namespace Go.Proofs.YtieepglpejlkoaaDoor
open Go.RowKit Go.WideShapes Go.ChangeShapes
section
variable {H : Type} {enc : TypeId × Value → H} {P : Program} {w : World} {base : Nat} {sp : Nat → Bool} {held : Bool}
theorem open_pair {t : TypeId} {f0 f1 : Field} {v : Value} {d : DataW H} {ps : List MemPlace} (he : P.underlying t = some (.struct #[f0, f1])) (ce : P.cellsOf t = 2) (o0 : f0.offset = 0) (o1 : f1.offset = 1) (c0 : P.cellsOf f0.type = 1) (c1 : P.cellsOf f1.type = 1)
    (u0 : P.underlying f0.type = some .string) (u1 : P.underlying f1.type = some (.int .i64)) (hd : DataW.Trod enc P w base sp held t v d ps) :
    ∃ (s : ByteArray) (n : Int), v = .agg #[.string s, .int .i64 n] ∧ d = .agg [.lit (.string s.data.toList), .lit (.int .i64 n)] ∧ ps = [] ∧ s.size ≤ maxLen ∧ (Lit.int .i64 n).wf = true := by
  obtain ⟨fuel, hf⟩ := hd
  obtain ⟨xs, k, _, hx, hl, hxl, hfs⟩ := DataW.trod_struct he hf
  rw [ce] at hl
  obtain ⟨cs, hcs⟩ : ∃ cs, v.cells.toList = cs := ⟨_, rfl⟩
  rw [hcs] at hl hfs
  match xs, hxl, cs, hl with
  | [y0, y1], _, [v0, v1], _ =>
    have g0 := hfs 0 f0 rfl
    have g1 := hfs 1 f1 rfl
    simp [o0, o1, c0, c1] at g0 g1
    obtain ⟨s, e0, q0, z0⟩ := DataW.trod_string u0 g0
    obtain ⟨n, e1, q1, z1⟩ := DataW.trod_int u1 g1
    simp only [List.cons.injEq, and_true] at e0 e1
    subst e0 e1 q0 q1
    simp only [Prod.mk.injEq] at hx
    refine ⟨s, n, ?_, hx.1, hx.2, z0, z1⟩
    cases v with
    | agg a =>
      have ha : a.toList = [.string s, .int .i64 n] := hcs
      rw [show a = #[.string s, .int .i64 n] from by rw [← Array.toList_inj, ha]]
    | _ => simp [Value.cells] at hcs
theorem shut_pair {t : TypeId} {f0 f1 : Field} {s : ByteArray} {n : Int} (he : P.underlying t = some (.struct #[f0, f1])) (ce : P.cellsOf t = 2) (o0 : f0.offset = 0) (o1 : f1.offset = 1) (c0 : P.cellsOf f0.type = 1) (c1 : P.cellsOf f1.type = 1)
    (u0 : P.underlying f0.type = some .string) (u1 : P.underlying f1.type = some (.int .i64)) (h0 : s.size ≤ maxLen) (h1 : (Lit.int .i64 n).wf = true) :
    DataW.Trod enc P w base sp held t (.agg #[.string s, .int .i64 n]) (.agg [.lit (.string s.data.toList), .lit (.int .i64 n)]) [] :=
  ⟨2, by
    have := trod_struct2_mk (enc := enc) (w := w) (base := base) (spare := sp) (held := held) (n := 1) (cs := [.string s, .int .i64 n]) (y0 := (.lit (.string s.data.toList), [])) (y1 := (.lit (.int .i64 n), [])) he (by rw [ce]; rfl)
      (by rw [o0, c0]; simp [DataW.trod, u0, h0]) (by rw [o1, c1]; exact trod_int_mk 0 u1 h1)
    exact this⟩
theorem slice_at {r : Reach} {b0 : Nat} {t e : TypeId} {a : Addr} {len cap : Nat} (ht : P.underlying t = some (.slice e)) (h : Value.okWide P w r b0 t (.slice (some a) len cap)) : a.spot = none ∧ a.block < w.heap.size := by
  simp only [Value.okWide, ht, Cell.okWide, Cell.ok] at h
  obtain ⟨_, _, _, hs, row, cells, hsh, _⟩ := h
  refine ⟨hs, Decidable.byContradiction fun hn => ?_⟩
  have e0 : w.heap[a.block]? = none := by rw [Array.getElem?_eq_none_iff]; omega
  simp [World.shape?, e0] at hsh
theorem U64_of (n : Int) (h : (Lit.int .u64 n).wf = true) : ∃ c : Nat, c < 18446744073709551616 ∧ Value.int .u64 n = U64 (BitVec.ofNat 64 c) := by
  have k : IntKind.u64.min ≤ n ∧ n ≤ IntKind.u64.max := by simpa [Lit.wf] using h
  have h0 : 0 ≤ n := k.1
  have h1 : n < 18446744073709551616 := Int.lt_of_le_of_lt k.2 (by decide)
  exact ⟨n.toNat, by omega, U64_raw n ⟨h0, h1⟩⟩
end
end Go.Proofs.YtieepglpejlkoaaDoor
