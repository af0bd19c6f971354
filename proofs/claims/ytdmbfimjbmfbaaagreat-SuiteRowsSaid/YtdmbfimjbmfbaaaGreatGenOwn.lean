/-
  Steps of a walk, part 3: rows that grow by append. No conditions.
-/
import Derived.Test.YtdmbfimjbmfbaaaGreatGenOps
import Derived.Maps.AppendAt
import Derived.Laws.MakeOwn
namespace Go.Proofs.YtdmbfimjbmfbaaaGreat
open Go.RowKit
set_option linter.unusedSimpArgs false
set_option linter.unusedVariables false
section
variable {P : Program} {ops : Array Oper} {Q : Exit → Act → World → Prop} {w w' : World} {rest : List Oper} {n : Nat} {f : Nat → Value}
variable {ty : TypeId} {x y z : Operand} {v vx vy vz : Value} {t e : TypeId} {base size k : Nat} {F G : Nat → Value}
/-- the slice v of k elements owns its row; its cells are F's -/
def Own (w : World) (base : Nat) (e : TypeId) (size : Nat) (v : Value) (k : Nat) (F : Nat → Value) : Prop :=
  (v = .slice none 0 0 ∧ k = 0) ∨ ∃ g cap G, v = .slice (some ⟨g, 0, none⟩) k cap ∧ base ≤ g ∧ k ≤ cap ∧ cap ≤ maxLen ∧ Row w g e (cap * size) G ∧ ∀ j, j < k * size → G j = F j
namespace Own
theorem congr (h : Own w base e size v k F) (hF : ∀ j, j < k * size → F j = G j) : Own w base e size v k G := by
  rcases h with h | ⟨g, cap, G', h1, h2, h3, h4, h5, h6⟩
  · exact .inl h
  · exact .inr ⟨g, cap, G', h1, h2, h3, h4, h5, fun j hj => (h6 j hj).trans (hF j hj)⟩
theorem cg (h : Own w base e size v k F) (hF : ∀ j, j < k * size → F j = G j := by intro j hj; (first | with_reducible rfl | (dsimp only; done) | ((try dsimp only); (repeat' split) <;> first | with_reducible rfl | (exfalso; omega) | (subst_vars; with_reducible rfl) | (subst_vars; simp only [Nat.add_sub_cancel_left, Nat.add_sub_cancel, Nat.sub_self, Nat.sub_zero]; done) | (with_reducible congr 1 <;> omega) | (with_reducible congr 2 <;> omega) | (with_reducible congr 3 <;> omega) | rfl | (subst_vars; rfl)))) : Own w base e size v k G := h.congr hF
theorem block_lt (h : Own w base e size v k F) : ∀ g, v.ownBlock = some g → g < w.heap.size ∧ base ≤ g := by
  intro g hg
  rcases h with ⟨hv, _⟩ | ⟨g', cap, G', hv, hb, _, _, hr, _⟩
  · rw [hv] at hg; simp [Value.ownBlock] at hg
  · rw [hv] at hg
    simp only [Value.ownBlock, Option.some.injEq] at hg
    subst hg
    exact ⟨hr.lt, hb⟩
theorem one (h : Own w base e size v k F) : v.oneCell' = true := by
  rcases h with ⟨hv, _⟩ | ⟨g', cap, cur, hv, _⟩ <;> rw [hv] <;> rfl
theorem cells (h : Own w base e size v k F) : v.cells = #[v] := by
  rcases h with ⟨hv, _⟩ | ⟨g', cap, cur, hv, _⟩ <;> rw [hv] <;> rfl
theorem apart (h : Own w base e size v k F) {b : Nat} (hb : w.heap.size ≤ b) : v.ownBlock ≠ some b := fun e => by have := (h.block_lt b e).1; omega
theorem stepO (h : Own w base e size v k F) {r : Option Nat} (hg : w.grownBy w' r) (hne : v.ownBlock = none ∨ v.ownBlock ≠ r) : Own w' base e size v k F := by
  rcases h with h | ⟨g, cap, G', hv, h2, h3, h4, h5, h6⟩
  · exact .inl h
  · refine .inr ⟨g, cap, G', hv, h2, h3, h4, h5.grown hg ?_, h6⟩
    subst hv
    simpa [Value.ownBlock] using hne
theorem step (h : Own w base e size v k F) (hb : Below w.heap.size w w') : Own w' base e size v k F :=
  h.stepO (r := none) (grown_of_below hb) (by
    cases hv : v.ownBlock with
    | none => exact .inl rfl
    | some g => exact .inr (by simp))
theorem stepG (h : Own w base e size v k F) {g : Nat} (hg : w.grownBy w' (some g)) (hne : v.ownBlock ≠ some g) : Own w' base e size v k F :=
  h.stepO hg (.inr hne)
/-- a new block -/
theorem fresh {cs : Array Value} {cap : Nat} (hs : cs.size = cap * size) (hk : k ≤ cap) (hm : cap ≤ maxLen) (hb : base ≤ w.heap.size) (hc : ∀ j, j < k * size → cs[j]? = some (F j)) :
    Own (w.drew.alloc (.cells cs e)) base e size (.slice (some ⟨w.heap.size, 0, none⟩) k cap) k F :=
  .inr ⟨w.heap.size, cap, fun j => cs.getD j undef, rfl, hb, hk, hm, Row.fresh (w := w.drew) hs (fun i hi => by
    have : i < cs.size := by omega
    simp [this]), fun j hj => by simp [Array.getD_eq_getD_getElem?, hc j hj]⟩
end Own
theorem Row.stepO {b m : Nat} (h : Row w b e m F) {r : Option Nat} (hg : w.grownBy w' r) (hne : r ≠ some b) : Row w' b e m F := h.grown hg (fun e => hne e.symm)
end
end Go.Proofs.YtdmbfimjbmfbaaaGreat
