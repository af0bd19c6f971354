/-
  The table that is folded in holds some words, whatever they are: of the world's shape. No conditions.
-/
import Derived.Test.YtdmbfimjbmfbaaaGreatGhMul
import Derived.Test.YtdmbfimjbmfbaaaGreatLiftPair
import Derived.HandedShaped
import Derived.ProofKit
namespace Go.Proofs.YtdmbfimjbmfbaaaGreat
open Go.RowKit
set_option linter.unusedVariables false
set_option maxRecDepth 100000
theorem fold_of_shaped {W : World} (h : W.ShapedOpen Tryz.prog) : ∃ f, Gh.Fold W f := by
  obtain ⟨cs, hh, hs, hr⟩ := h.1 0 (Array.replicate 16 (.int .u64 0)) 140 (of_decide_eq_true (by kernel_rfl)) (by kernel_rfl)
  obtain ⟨ts, hts, _, hall⟩ := hr (by kernel_rfl)
  have hc : Tryz.prog.cellTypes Tryz.prog.depth 140 = some (List.replicate 16 83) := by kernel_rfl
  rw [hc] at hts
  cases hts
  have h16 : cs.size = 16 := by simpa using hs
  have hx : ∀ i, i < 16 → ∃ c : BitVec 64, W.cell? ⟨0, i, none⟩ = some (U64 c) := fun i hi => by
    have h1 : i < cs.size := by omega
    obtain ⟨u, hu', hok⟩ := hall i cs[i] (by simp [h1])
    have e : u = 83 := by
      have := List.mem_of_getElem? hu'
      simpa using this
    subst e
    have hcell : W.cell? ⟨0, i, none⟩ = some cs[i] := by simp [World.cell?, hh, h1]
    unfold Cell.ok at hok
    rw [Tryz.underlying83] at hok
    cases hv : cs[i] <;> rw [hv] at hok <;> simp at hok
    case int k' n =>
      obtain ⟨rfl, hw⟩ := hok
      exact ⟨BitVec.ofNat 64 n.toNat, by rw [hcell, hv, U64_raw n ⟨hw.1, Int.lt_of_le_of_lt hw.2 (by decide)⟩]⟩
  refine ⟨fun i => if hi : i < 16 then Classical.choose (hx i hi) else 0#64, fun i hi => ?_, ?_⟩
  · dsimp only
    rw [dif_pos hi]
    exact Classical.choose_spec (hx i hi)
  · obtain ⟨c, hc0⟩ := hx 0 (by decide)
    exact World.block_lt_of_cell? W _ hc0
end Go.Proofs.YtdmbfimjbmfbaaaGreat
