/-
  Steps of a walk, part 6: a slice of some elements. No conditions.
-/
import Derived.Test.YtdmbfimjbmfbaaaGreatGenMore
namespace Go.Proofs.YtdmbfimjbmfbaaaGreat
open Go.RowKit
set_option linter.unusedSimpArgs false
set_option linter.unusedVariables false
section
variable {P : Program} {ops : Array Oper} {Q : Exit → Act → World → Prop} {w w' : World} {rest : List Oper} {n : Nat} {f : Nat → Value}
variable {ty : TypeId} {x y z : Operand} {v vx vy vz : Value} {t e : TypeId} {F G : Nat → Value}
/-- T{x, y, ..}: a slice of some elements, in a block of its own -/
theorem w_bsn {d : Nat} {p : String} {aft : Array Edge} {m k : Nat} {ps : Array (Nat × Operand)} {vs : Array (Nat × Value)} (hp : (ps.map fun (i, x) => (i, (fr n f).eval x)) = vs)
    (hr : ∀ w, (Instr.buildSlice t k vs).run P w = .ok (.slice (some ⟨w.heap.size, 0, none⟩) k k) (w.alloc (.cells (arr m F) e)))
    (h : ∀ b w', b = w.heap.size → Row w' b e m F → Below w.heap.size w w' → wpList P ops Q rest (fr n (up f d (.slice (some ⟨b, 0, none⟩) k k))) w') : wpList P ops Q (⟨some d, .buildSlice t k ps, ty, p, aft, none⟩ :: rest) (fr n f) w := by
  refine w_new (v := .slice (some ⟨w.heap.size, 0, none⟩) k k) (c := arr m F) (e := e) ?_ rfl (fun w' => h _ w' rfl)
  unfold execOp
  simp only [hp]
  rw [Sem.run_bind, hr w]
  rfl
end
end Go.Proofs.YtdmbfimjbmfbaaaGreat
