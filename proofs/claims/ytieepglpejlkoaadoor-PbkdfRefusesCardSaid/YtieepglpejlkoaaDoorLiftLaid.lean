/-
  The condition on the two tables, opened: they lie as the program's text lays them. No conditions.
-/
import Derived.Test.YtieepglpejlkoaaDoorShaTab
import Derived.Test.YtieepglpejlkoaaDoorLift
import Derived.Lib.LaidTab
import Derived.LaidMore
namespace Go.Proofs.YtieepglpejlkoaaDoor
open Go.RowKit Go.WideShapes Go.ChangeShapes
set_option linter.unusedVariables false
def laidL : List (String × DataW Unit) := [("pyxis/sha.small", Rows.laid_pyxis_sha_small), ("pyxis/sha.great", Rows.laid_pyxis_sha_great)]
theorem gSmall : Tryd.prog.globalNamed "pyxis/sha.small" = some 0 := by kernel_rfl
theorem gGreat : Tryd.prog.globalNamed "pyxis/sha.great" = some 1 := by kernel_rfl
theorem tSmall : (Tryd.prog.globals[(0 : Nat)]?).map (·.type) = some 94 := by kernel_rfl
theorem tGreat : (Tryd.prog.globals[(1 : Nat)]?).map (·.type) = some 97 := by kernel_rfl
def zSmall : List Int := (List.range 64).map fun i => ((Sha.k32 i).toNat : Int)
def zGreat : List Int := (List.range 80).map fun i => ((Sha.K false i).toNat : Int)
theorem dSmall : (Rows.laid_pyxis_sha_small : DataW Unit) = Lib.tabData .u32 zSmall := by kernel_rfl
theorem dGreat : (Rows.laid_pyxis_sha_great : DataW Unit) = Lib.tabData .u64 zGreat := by kernel_rfl
theorem tabs_of_laid {W : World} (h : laidMetH Tryd.prog laidL W) : Sha.Tabs W := by
  rw [MakeChecks.laidMetH_plain _ _ _ (by kernel_rfl)] at h
  obtain ⟨ps, ⟨g0, t0, cs0, f0, p0, q0, hg0, ht0, hv0, hd0, ⟨g1, t1, cs1, f1, p1, q1, hg1, ht1, hv1, hd1, _, _⟩, _⟩, _, _⟩ := h
  obtain rfl := Option.some.inj (gSmall.symm.trans hg0)
  obtain rfl := Option.some.inj (gGreat.symm.trans hg1)
  obtain rfl := Option.some.inj (tSmall.symm.trans ht0)
  obtain rfl := Option.some.inj (tGreat.symm.trans ht1)
  rw [dSmall] at hd0
  rw [dGreat] at hd1
  have e0 := Lib.cells_of_tab Tryd.underlying94 Tryd.underlying93 (by kernel_rfl) (by kernel_rfl) hd0
  have e1 := Lib.cells_of_tab Tryd.underlying97 Tryd.underlying39 (by kernel_rfl) (by kernel_rfl) hd1
  have h0 : ∀ i, i < 64 → W.cell? ⟨0, i, none⟩ = some (U32 (Sha.k32 i)) := fun i hi => by
    rw [World.var?_cell hg0 hv0 i, ← Array.getElem?_toList, e0]
    simp [zSmall, hi, U32]
  have h1 : ∀ i, i < 80 → W.cell? ⟨1, i, none⟩ = some (U64 (Sha.K false i)) := fun i hi => by
    rw [World.var?_cell hg1 hv1 i, ← Array.getElem?_toList, e1]
    simp [zGreat, hi, U64]
  exact ⟨h0, h1, World.block_lt_of_cell? W _ (h0 0 (by decide)), World.block_lt_of_cell? W _ (h1 0 (by decide))⟩
theorem door_met (os : Os) (args : Array Value) : laidMetH Tryd.prog laidL ((World.doorLaid Tryd.prog 400 os).forCall (fun _ _ => 0) ⟨#[], args, []⟩).memory :=
  laidMetH_of_parts3 (fuel := 8) (laidMet_of_run' 8 (by kernel_rfl) (by kernel_rfl)) (by kernel_rfl) (by kernel_rfl)
end Go.Proofs.YtieepglpejlkoaaDoor
