/-
  The condition on the table that is folded in, opened: it lies as the program's text lays it. No conditions.
-/
import Derived.Test.YtkjdejadambffaaDoorGhPlain
import Derived.Test.YtkjdejadambffaaDoorLift
import Derived.Lib.LaidTab
import Derived.LaidMore
namespace Go.Proofs.YtkjdejadambffaaDoor
open Go.RowKit Go.WideShapes Go.ChangeShapes
set_option linter.unusedVariables false
def laidL : List (String × DataW Unit) := [("pyxis/ghash.fold", Rows.laid_pyxis_ghash_fold)]
theorem gFold : Tryd.prog.globalNamed "pyxis/ghash.fold" = some 0 := by kernel_rfl
theorem tFold : (Tryd.prog.globals[(0 : Nat)]?).map (·.type) = some 140 := by kernel_rfl
def zFold : List Int := (List.range 16).map fun i => ((Gh.fo i).toNat : Int)
theorem dFold : (Rows.laid_pyxis_ghash_fold : DataW Unit) = Lib.tabData .u64 zFold := by kernel_rfl
theorem tabs_of_laid {W : World} (h : laidMetH Tryd.prog laidL W) : Gh.Fold W Gh.fo := by
  rw [MakeChecks.laidMetH_plain _ _ _ (by kernel_rfl)] at h
  obtain ⟨ps, ⟨g0, t0, cs0, f0, p0, q0, hg0, ht0, hv0, hd0, _, _⟩, _, _⟩ := h
  obtain rfl := Option.some.inj (gFold.symm.trans hg0)
  obtain rfl := Option.some.inj (tFold.symm.trans ht0)
  rw [dFold] at hd0
  have e0 := Lib.cells_of_tab Tryd.underlying140 Tryd.underlying62 (by kernel_rfl) (by kernel_rfl) hd0
  have h0 : ∀ i, i < 16 → W.cell? ⟨0, i, none⟩ = some (U64 (Gh.fo i)) := fun i hi => by
    rw [World.var?_cell hg0 hv0 i, ← Array.getElem?_toList, e0]
    simp [zFold, hi, U64]
  exact ⟨h0, World.block_lt_of_cell? W _ (h0 0 (by decide))⟩
theorem door_met (os : Os) (args : Array Value) : laidMetH Tryd.prog laidL ((World.doorLaid Tryd.prog 400 os).forCall (fun _ _ => 0) ⟨#[], args, []⟩).memory :=
  laidMetH_of_parts3 (fuel := 8) (laidMet_of_run' 8 (by kernel_rfl) (by kernel_rfl)) (by kernel_rfl) (by kernel_rfl)
end Go.Proofs.YtkjdejadambffaaDoor
