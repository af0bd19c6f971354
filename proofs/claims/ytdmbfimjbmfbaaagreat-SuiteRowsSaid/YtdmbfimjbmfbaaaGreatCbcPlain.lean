/-
  Chains of blocks, plainly. No conditions.
-/
import Derived.Test.YtdmbfimjbmfbaaaGreatAesBase
import Derived.Test.YtdmbfimjbmfbaaaGreatOct
namespace Go.Proofs.YtdmbfimjbmfbaaaGreat
open Go.RowKit
set_option linter.unusedSimpArgs false
set_option linter.unusedVariables false
namespace Cb
abbrev L8 := List (BitVec 8)
theorem enc_len (key s : L8) (hk : Aes.okKey key.length) : (Aes.enc (Aes.words key) s).length = 16 := by
  obtain ⟨R, h1, h2, h3⟩ := Aes.words_len key hk
  exact Aes.length_enc _ _ R h1 h2
/-- block t of a text -/
def bk (s : L8) (t : Nat) : L8 := (s.drop (16 * t)).take 16
theorem bk_at (s : L8) (t e : Nat) (he : e = 16) : (s.drop (16 * t)).take e = bk s t := by subst he; rfl
/-- filled up by noughts to whole blocks -/
def zn (n : Nat) : Nat := (16 - n % 16) % 16
def z (s : L8) : L8 := s ++ List.replicate (zn s.length) 0#8
theorem z_len (s : L8) : (z s).length = s.length + zn s.length := by simp [z]
def zero16 : L8 := List.replicate 16 0#8
def wk : L8 := [48#8, 49#8, 50#8, 51#8, 52#8, 53#8, 54#8, 55#8, 56#8, 57#8, 97#8, 98#8, 99#8, 100#8, 101#8, 102#8]
def wt : L8 := [97#8, 98#8, 99#8]
end Cb
end Go.Proofs.YtdmbfimjbmfbaaaGreat
