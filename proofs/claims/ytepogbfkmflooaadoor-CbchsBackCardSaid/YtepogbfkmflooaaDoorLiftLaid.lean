/-
  AES: the reference's way back, said of lists of bytes (in a seat that holds it). Conditions as it says. Digests, plainly: what the reference's own way of reckoning comes to. No conditions. Numbers of four words, their products, and roots, plainly. No conditions. The condition on the two tables, opened: they lie as the program's text lays them. No conditions.
-/
import Derived.Test.YtepogbfkmflooaaDoorAesBase
import Derived.Test.YtepogbfkmflooaaDoorShaTab
import Derived.Test.YtepogbfkmflooaaDoorLift
import Derived.Lib.LaidTab
import Derived.LaidMore
namespace Go.Proofs.YtepogbfkmflooaaDoor
open Go.RowKit
set_option linter.unusedSimpArgs false
set_option linter.unusedVariables false
end Go.Proofs.YtepogbfkmflooaaDoor
namespace Go.Proofs.YtepogbfkmflooaaDoor
open Go.RowKit
set_option linter.unusedSimpArgs false
set_option linter.unusedVariables false
namespace Sha
/-! ### the cells of a rule -/
def rrow (c0 c1 c2 c3 c4 : Value) (bg : Nat → BitVec 64) (tr : Nat → Value) : Nat → Value := fun j =>
  if j < 1 then c0 else if j < 2 then c1 else if j < 3 then c2 else if j < 4 then c3 else if j < 5 then c4 else if j < 13 then U64 (bg (j - 5)) else tr (j - 13)
section
variable (c0 c1 c2 c3 c4 v : Value) (bg bg' : Nat → BitVec 64) (tr : Nat → Value)
end
end Sha
end Go.Proofs.YtepogbfkmflooaaDoor
namespace Go.Proofs.YtepogbfkmflooaaDoor
open Go.RowKit
set_option linter.unusedSimpArgs false
set_option linter.unusedVariables false
namespace Sha
def wn (X i : Nat) : BitVec 64 := BitVec.ofNat 64 (X / 2 ^ (64 * i))
def hf (X i : Nat) : Nat := X / 2 ^ (32 * i) % 2 ^ 32
/-! ### which is greater -/
/-! ### one bit more -/
/-! ### primes -/
def PL : List Nat := [2, 3, 5, 7, 11, 13, 17, 19, 23, 29, 31, 37, 41, 43, 47, 53, 59, 61, 67, 71, 73, 79, 83, 89, 97, 101, 103, 107, 109, 113, 127, 131, 137, 139, 149, 151, 157, 163, 167, 173, 179, 181, 191, 193, 197, 199, 211, 223, 227, 229, 233, 239, 241, 251, 257, 263, 269, 271, 277, 281, 283, 293, 307, 311, 313, 317, 331, 337, 347, 349, 353, 359, 367, 373, 379, 383, 389, 397, 401, 409]
def pc (p : Nat) : Nat := (PL.filter (fun x => decide (x < p))).length
/-! ### the first words, as they come -/
def bg (fr K p : Nat) (i : Nat) : BitVec 64 := if i + fr < pc p then H0 K i else 0#64
end Sha
end Go.Proofs.YtepogbfkmflooaaDoor
namespace Go.Proofs.YtepogbfkmflooaaDoor
open Go.RowKit Go.WideShapes Go.ChangeShapes
set_option linter.unusedVariables false
def laidL : List (String × DataW Unit) := [("pyxis/sha.small", Rows.laid_pyxis_sha_small), ("pyxis/sha.great", Rows.laid_pyxis_sha_great)]
theorem gSmall : Tryd.prog.globalNamed "pyxis/sha.small" = some 0 := by kernel_rfl
theorem gGreat : Tryd.prog.globalNamed "pyxis/sha.great" = some 1 := by kernel_rfl
theorem tSmall : (Tryd.prog.globals[(0 : Nat)]?).map (·.type) = some 158 := by kernel_rfl
theorem tGreat : (Tryd.prog.globals[(1 : Nat)]?).map (·.type) = some 161 := by kernel_rfl
def zSmall : List Int := (List.range 64).map fun i => ((Sha.k32 i).toNat : Int)
def zGreat : List Int := (List.range 80).map fun i => ((Sha.K false i).toNat : Int)
theorem dSmall : (Rows.laid_pyxis_sha_small : DataW Unit) = Lib.tabData .u32 zSmall := by kernel_rfl
theorem dGreat : (Rows.laid_pyxis_sha_great : DataW Unit) = Lib.tabData .u64 zGreat := by kernel_rfl
theorem tabs_of_laid {W : World} (h : laidMetH Tryd.prog laidL W) : Sha.Tabs W := by
  rw [MakeChecks.laidMetH_plain _ _ _ (by kernel_rfl)] at h
  obtain ⟨ps, ⟨g0, t0, cs0, f0, p0, q0, hg0, ht0, hv0, hd0, ⟨g1, t1, cs1, f1, p1, q1, hg1, ht1, hv1, hd1, _, _⟩, _⟩, _, _⟩ := h
  obtain rfl := Option.some.inj (gSmall.symm.trans hg0)
  obtain rfl := Option.some.inj (gGreat.symm.trans hg1)
  obtain rfl := Option.some.inj (tSmall.symm.trans ht0)
  obtain rfl := Option.some.inj (tGreat.symm.trans ht1)
  rw [dSmall] at hd0
  rw [dGreat] at hd1
  have e0 := Lib.cells_of_tab Tryd.underlying158 Tryd.underlying102 (by kernel_rfl) (by kernel_rfl) hd0
  have e1 := Lib.cells_of_tab Tryd.underlying161 Tryd.underlying58 (by kernel_rfl) (by kernel_rfl) hd1
  have h0 : ∀ i, i < 64 → W.cell? ⟨0, i, none⟩ = some (U32 (Sha.k32 i)) := fun i hi => by
    rw [World.var?_cell hg0 hv0 i, ← Array.getElem?_toList, e0]
    simp [zSmall, hi, U32]
  have h1 : ∀ i, i < 80 → W.cell? ⟨1, i, none⟩ = some (U64 (Sha.K false i)) := fun i hi => by
    rw [World.var?_cell hg1 hv1 i, ← Array.getElem?_toList, e1]
    simp [zGreat, hi, U64]
  exact ⟨h0, h1, World.block_lt_of_cell? W _ (h0 0 (by decide)), World.block_lt_of_cell? W _ (h1 0 (by decide))⟩
theorem door_met (os : Os) (args : Array Value) : laidMetH Tryd.prog laidL ((World.doorLaid Tryd.prog 400 os).forCall (fun _ _ => 0) ⟨#[], args, []⟩).memory :=
  laidMetH_of_parts3 (fuel := 8) (laidMet_of_run' 8 (by kernel_rfl) (by kernel_rfl)) (by kernel_rfl) (by kernel_rfl)
end Go.Proofs.YtepogbfkmflooaaDoor
