/-
  AES: the contracts, said of lists of bytes. Conditions as each says.
-/
import Derived.Test.YtepogbfkmflooaaDoorAesBackPlain
import Derived.Test.YtepogbfkmflooaaDoorAesEnc
import Derived.Test.YtepogbfkmflooaaDoorAesDec
import Derived.Test.YtepogbfkmflooaaDoorLift
import Derived.Test.YtepogbfkmflooaaDoorGenOwn
namespace Go.Proofs.YtepogbfkmflooaaDoor
open Go.RowKit
set_option linter.unusedSimpArgs false
set_option linter.unusedVariables false
theorem new_l (key : List (BitVec 8)) (w : World) (hk : Aes.okKey key.length) :
    Calls Tryd.prog 44 #[.string (str key)] w fun e w' => ∃ b, e = .returned (.tuple #[.pointer (some ⟨b, 0, none⟩), .int .i64 0]) ∧ w.heap.size ≤ b ∧ CiphAt Aes.bk Aes.undo w' b (Aes.words key) ∧ Below w.heap.size w w' := by
  have h := new_c Aes.bk Aes.undo (str key) w (by rw [size_str]; exact hk)
  rw [byt_str] at h
  exact h
theorem enc_l (b : Nat) (key s : List (BitVec 8)) (w : World) (hk : Aes.okKey key.length) (h : CiphAt Aes.bk Aes.undo w b (Aes.words key)) (hs : s.length = 16) :
    Calls Tryd.prog 46 #[.pointer (some ⟨b, 0, none⟩), .string (str s)] w fun e w' => e = .returned (.tuple #[.string (str (Aes.enc (Aes.words key) s)), .int .i64 0]) ∧ Below w.heap.size w w' := by
  have h := encrypt_c Aes.bk Aes.undo b key (str s) w hk h (by rw [size_str]; exact hs)
  rw [byt_str] at h
  exact h
theorem dec_g (b : Nat) (key s : List (BitVec 8)) (w : World) (hk : Aes.okKey key.length) (h : CiphAt Aes.bk Aes.undo w b (Aes.words key)) (hs : s.length = 16) :
    Calls Tryd.prog 52 #[.pointer (some ⟨b, 0, none⟩), .string (str s)] w fun e w' => e = .returned (.tuple #[.string (str (Aes.dec (Aes.words key) s)), .int .i64 0]) ∧ w.grownBy w' (some b) ∧ CiphAt Aes.bk Aes.undo w' b (Aes.words key) := by
  have h := decrypt_g b key (str s) w hk h (by rw [size_str]; exact hs)
  rw [byt_str] at h
  exact h
/-- a row of other cells lies apart from a cipher -/
theorem CiphAt.ne_row {w : World} {b g t n : Nat} {F : Nat → Value} {W : List (BitVec 32)} (h : CiphAt Aes.bk Aes.undo w b W) (r : Row w g t n F) (h1 : t ≠ 112) : g ≠ b := by
  obtain ⟨_, _, r1, _⟩ := h
  exact r.ne_ r1 h1
theorem CiphAt.onward {w : World} {b g t n : Nat} {F : Nat → Value} {W : List (BitVec 32)} (h : CiphAt Aes.bk Aes.undo w b W) (r : Row w g t n F) (h1 : t ≠ 112) (h2 : t ≠ 102) :
    ∀ w', w.grownBy w' (some g) → CiphAt Aes.bk Aes.undo w' b W := by
  obtain ⟨x, D, r1, r2, r3⟩ := h
  intro w' hg
  refine ⟨x, D, r1.stepG hg (fun e => r.ne_ r1 h1 e.symm), r2.stepG hg (fun e => r.ne_ r2 h2 e.symm), fun u hu => ?_⟩
  obtain ⟨h4, h5⟩ := r3 u hu
  exact ⟨h4, h5.stepG hg (fun e => r.ne_ h5 h2 e.symm)⟩
/-- a growing slice's row lies apart from a cipher -/
theorem CiphAt.ne_own {w : World} {b base e size k : Nat} {v : Value} {F : Nat → Value} {W : List (BitVec 32)} (h : CiphAt Aes.bk Aes.undo w b W) (o : Own w base e size v k F) (h1 : e ≠ 112) : v.ownBlock ≠ some b := by
  rcases o with ⟨rfl, _⟩ | ⟨g, cap, G, rfl, _, _, _, r, _⟩
  · exact fun x => by cases x
  · intro x
    have x' : some g = some b := x
    injection x' with x'
    exact h.ne_row r h1 x'
theorem CiphAt.onwardO {w : World} {b base e size k : Nat} {v : Value} {F : Nat → Value} {W : List (BitVec 32)} (h : CiphAt Aes.bk Aes.undo w b W) (o : Own w base e size v k F) (h1 : e ≠ 112) (h2 : e ≠ 102) :
    ∀ w', w.grownBy w' v.ownBlock → CiphAt Aes.bk Aes.undo w' b W := by
  rcases o with ⟨rfl, _⟩ | ⟨g, cap, G, rfl, _, _, _, r, _⟩
  · intro w' hg
    obtain ⟨x, D, r1, r2, r3⟩ := h
    have hn : ∀ z, (Value.slice none 0 0).ownBlock ≠ some z := fun z e => by cases e
    refine ⟨x, D, r1.stepO hg (hn _), r2.stepO hg (hn _), fun u hu => ?_⟩
    obtain ⟨h4, h5⟩ := r3 u hu
    exact ⟨h4, h5.stepO hg (hn _)⟩
  · exact h.onward r h1 h2
/-! the reference -/
end Go.Proofs.YtepogbfkmflooaaDoor
