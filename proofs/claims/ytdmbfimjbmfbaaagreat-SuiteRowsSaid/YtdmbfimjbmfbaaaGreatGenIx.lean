/-
  Steps of a walk, part 7: an element of an array's value. No conditions.
-/
import Derived.Test.YtdmbfimjbmfbaaaGreatGenMore
namespace Go.Proofs.YtdmbfimjbmfbaaaGreat
open Go.RowKit
set_option linter.unusedSimpArgs false
set_option linter.unusedVariables false
section
variable {P : Program} {w : World} {n : Nat} {f : Nat → Value}
variable {ty : TypeId} {x y : Operand} {v : Value} {t e : TypeId} {F : Nat → Value} {a : Int}
theorem y_idxa {m i : Nat} {k : IntKind} (hx : Ev n f x (.agg (arr m F))) (hy : Ev n f y (.int k a)) (ht : P.underlying t = some (.array m e)) (hu : (P.underlying e).map scal = some true) (hs : (P.info? e).map (·.size) = some 1) (hi : a = (i : Int)) (hlt : i < m) : Yields P n f (.index t x y) ty w (F i) := by
  have h1 : (fr n f).eval x = .agg (arr m F) := hx
  have h2 : (fr n f).eval y = .int k a := hy
  subst hi
  obtain ⟨d, h3, h4⟩ := Option.map_eq_some_iff.1 hu
  have hag : (isAgg e).run P w = .ok false w := by
    unfold isAgg
    rw [Sem.run_bind, run_underlying h3 w]
    cases d <;> simp_all [scal]
  obtain ⟨inf, h5, h6⟩ := Option.map_eq_some_iff.1 hs
  have hsz : (sizeOf e).run P w = .ok 1 w := by
    simp [sizeOf, typeInfo, Sem.run_bind, h5, h6]
  unfold Yields execOp
  simp only [h1, h2]
  have hlt' : (0 : Int) ≤ (i : Int) ∧ (i : Int) < (m : Int) := ⟨by omega, by omega⟩
  simp [Instr.index, asIntOf, Sem.run_bind, run_underlying ht, hlt, hsz, part, hag, arr_at _ _ _ hlt, go_sem]
end
end Go.Proofs.YtdmbfimjbmfbaaaGreat
