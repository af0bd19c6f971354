/-
  Ciphers and tags by their numbers: the rows. No conditions.
-/
import Derived.Test.YtdmbfimjbmfbaaaGreatMem
namespace Go.Proofs.YtdmbfimjbmfbaaaGreat
open Go.RowKit
set_option linter.unusedSimpArgs false
set_option linter.unusedVariables false
namespace Su
def al (i : Nat) : Nat := [1, 2, 3, 4, 5, 6, 10, 11, 12, 13, 30, 31, 32, 33, 104, 105, 106, 107, 114, 115, 125, 126].getD i 0
def ky (i : Nat) : Nat := [16, 24, 32, 32, 48, 64, 16, 32, 16, 32, 16, 32, 16, 32, 32, 32, 48, 64, 16, 32, 16, 32].getD i 0
def iv (i : Nat) : Nat := [12, 12, 12, 16, 16, 16, 13, 13, 7, 7, 13, 13, 7, 7, 0, 0, 0, 0, 0, 0, 0, 0].getD i 0
def tg (i : Nat) : Nat := [16, 16, 16, 16, 24, 32, 8, 8, 8, 8, 16, 16, 16, 16, 8, 32, 48, 64, 8, 8, 16, 16].getD i 0
def ly (i : Nat) : Nat := [9, 9, 9, 11, 11, 11, 10, 10, 10, 10, 10, 10, 10, 10, 4, 4, 4, 4, 6, 6, 6, 6].getD i 0
def cell (i r : Nat) : Nat := if r = 0 then al i else if r = 1 then ky i else if r = 2 then iv i else if r = 3 then tg i else ly i
def wk : List (BitVec 8) := [0x30#8, 0x31#8, 0x32#8, 0x33#8, 0x34#8, 0x35#8, 0x36#8, 0x37#8, 0x38#8, 0x39#8, 0x61#8, 0x62#8, 0x63#8, 0x64#8, 0x65#8, 0x66#8]
def wn : List (BitVec 8) := [0x30#8, 0x31#8, 0x32#8, 0x33#8, 0x34#8, 0x35#8, 0x36#8, 0x37#8, 0x38#8, 0x39#8, 0x61#8, 0x62#8]
def wx : List (BitVec 8) := [0x78#8]
def wt : List (BitVec 8) := [0x61#8, 0x62#8, 0x63#8]
theorem al_inj (i j : Nat) (hi : i < 22) (hj : j < 22) (h : al i = al j) : i = j := by
  have : ∀ i, i < 22 → ∀ j, j < 22 → al i = al j → i = j := by decide
  exact this i hi j hj h
theorem al_pos (i : Nat) (hi : i < 22) : 1 ≤ al i ∧ al i ≤ 126 := by
  have : ∀ i, i < 22 → 1 ≤ al i ∧ al i ≤ 126 := by decide
  exact this i hi
theorem some_row (a : Int) (h : ¬ ∀ i : Nat, i < 22 → (al i : Int) ≠ a) : ∃ i, i < 22 ∧ a = (al i : Int) := by
  apply Classical.byContradiction
  intro hn
  exact h (fun i hi e => hn ⟨i, hi, e.symm⟩)
end Su
end Go.Proofs.YtdmbfimjbmfbaaaGreat
