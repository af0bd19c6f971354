/-
  AES: the contracts, said of lists of bytes. Conditions as each says.
-/
import Derived.Test.YtdmbfimjbmfbaaaGreatAesBackPlain
import Derived.Test.YtdmbfimjbmfbaaaGreatAesEnc
import Derived.Test.YtdmbfimjbmfbaaaGreatLiftPair
import Derived.Test.YtdmbfimjbmfbaaaGreatGenOwn
namespace Go.Proofs.YtdmbfimjbmfbaaaGreat
open Go.RowKit
set_option linter.unusedSimpArgs false
set_option linter.unusedVariables false
theorem new_l (key : List (BitVec 8)) (w : World) (hk : Aes.okKey key.length) :
    Calls Tryz.prog 35 #[.string (str key)] w fun e w' => ∃ b, e = .returned (.tuple #[.pointer (some ⟨b, 0, none⟩), .int .i64 0]) ∧ w.heap.size ≤ b ∧ CiphAt Aes.bk Aes.undo w' b (Aes.words key) ∧ Below w.heap.size w w' := by
  have h := new_c Aes.bk Aes.undo (str key) w (by rw [size_str]; exact hk)
  rw [byt_str] at h
  exact h
theorem enc_l (b : Nat) (key s : List (BitVec 8)) (w : World) (hk : Aes.okKey key.length) (h : CiphAt Aes.bk Aes.undo w b (Aes.words key)) (hs : s.length = 16) :
    Calls Tryz.prog 36 #[.pointer (some ⟨b, 0, none⟩), .string (str s)] w fun e w' => e = .returned (.tuple #[.string (str (Aes.enc (Aes.words key) s)), .int .i64 0]) ∧ Below w.heap.size w w' := by
  have h := encrypt_c Aes.bk Aes.undo b key (str s) w hk h (by rw [size_str]; exact hs)
  rw [byt_str] at h
  exact h
theorem CiphAt.onward {w : World} {b g t n : Nat} {F : Nat → Value} {W : List (BitVec 32)} (h : CiphAt Aes.bk Aes.undo w b W) (r : Row w g t n F) (h1 : t ≠ 99) (h2 : t ≠ 55) :
    ∀ w', w.grownBy w' (some g) → CiphAt Aes.bk Aes.undo w' b W := by
  obtain ⟨x, D, r1, r2, r3⟩ := h
  intro w' hg
  refine ⟨x, D, r1.stepG hg (fun e => r.ne_ r1 h1 e.symm), r2.stepG hg (fun e => r.ne_ r2 h2 e.symm), fun u hu => ?_⟩
  obtain ⟨h4, h5⟩ := r3 u hu
  exact ⟨h4, h5.stepG hg (fun e => r.ne_ h5 h2 e.symm)⟩
/-! the reference -/
end Go.Proofs.YtdmbfimjbmfbaaaGreat
