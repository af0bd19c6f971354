/-
  AES: the contracts, said of lists of bytes. Conditions as each says.
-/
import Derived.Test.YtkjdejadambffaaDoorAesEnc
import Derived.Test.YtkjdejadambffaaDoorAesBackPlain
import Derived.Test.YtkjdejadambffaaDoorAesRefEq
import Derived.Test.YtkjdejadambffaaDoorAesRight
import Derived.Test.YtkjdejadambffaaDoorGen
namespace Go.Proofs.YtkjdejadambffaaDoor
open Go.RowKit
set_option linter.unusedSimpArgs false
set_option linter.unusedVariables false
theorem new_l (key : List (BitVec 8)) (w : World) (hk : Aes.okKey key.length) :
    Calls Tryd.prog 31 #[.string (str key)] w fun e w' => ∃ b, e = .returned (.tuple #[.pointer (some ⟨b, 0, none⟩), .int .i64 0]) ∧ w.heap.size ≤ b ∧ CiphAt Aes.bk Aes.undo w' b (Aes.words key) ∧ Below w.heap.size w w' := by
  have h := new_c Aes.bk Aes.undo (str key) w (by rw [size_str]; exact hk)
  rw [byt_str] at h
  exact h
theorem new_l_no (key : List (BitVec 8)) (w : World) (hk : ¬ Aes.okKey key.length) : Calls Tryd.prog 31 #[.string (str key)] w fun e w' => e = .returned (.tuple #[.pointer none, .int .i64 3]) ∧ w = w' :=
  new_no (str key) w (by rw [size_str]; exact hk)
theorem right_l (key : List (BitVec 8)) (w : World) (hk : Aes.okKey key.length) : Calls Tryd.prog 40 #[.string (str key)] w fun e w' => e = .returned (.bool true) ∧ w = w' := refRight_yes _ _ (by rw [size_str]; exact hk)
theorem right_l_no (key : List (BitVec 8)) (w : World) (hk : ¬ Aes.okKey key.length) : Calls Tryd.prog 40 #[.string (str key)] w fun e w' => e = .returned (.bool false) ∧ w = w' := refRight_no _ _ (by rw [size_str]; exact hk)
theorem enc_l (b : Nat) (key s : List (BitVec 8)) (w : World) (hk : Aes.okKey key.length) (h : CiphAt Aes.bk Aes.undo w b (Aes.words key)) (hs : s.length = 16) :
    Calls Tryd.prog 32 #[.pointer (some ⟨b, 0, none⟩), .string (str s)] w fun e w' => e = .returned (.tuple #[.string (str (Aes.enc (Aes.words key) s)), .int .i64 0]) ∧ Below w.heap.size w w' := by
  have h := encrypt_c Aes.bk Aes.undo b key (str s) w hk h (by rw [size_str]; exact hs)
  rw [byt_str] at h
  exact h
theorem enc_l_bad (b : Nat) (key s : List (BitVec 8)) (w : World) (hk : Aes.okKey key.length) (h : CiphAt Aes.bk Aes.undo w b (Aes.words key)) (hs : s.length ≠ 16) :
    Calls Tryd.prog 32 #[.pointer (some ⟨b, 0, none⟩), .string (str s)] w fun e w' => e = .returned (.tuple #[.string (str []), .int .i64 6]) ∧ w = w' :=
  encrypt_bad Aes.bk Aes.undo b key (str s) w hk h (by rw [size_str]; exact hs)
/-- a row of other cells lies apart from a cipher -/
theorem CiphAt.ne_row {w : World} {b g t n : Nat} {F : Nat → Value} {W : List (BitVec 32)} (h : CiphAt Aes.bk Aes.undo w b W) (r : Row w g t n F) (h1 : t ≠ 94) : g ≠ b := by
  obtain ⟨_, _, r1, _⟩ := h
  exact r.ne_ r1 h1
theorem CiphAt.onward {w : World} {b g t n : Nat} {F : Nat → Value} {W : List (BitVec 32)} (h : CiphAt Aes.bk Aes.undo w b W) (r : Row w g t n F) (h1 : t ≠ 94) (h2 : t ≠ 84) :
    ∀ w', w.grownBy w' (some g) → CiphAt Aes.bk Aes.undo w' b W := by
  obtain ⟨x, D, r1, r2, r3⟩ := h
  intro w' hg
  refine ⟨x, D, r1.stepG hg (fun e => r.ne_ r1 h1 e.symm), r2.stepG hg (fun e => r.ne_ r2 h2 e.symm), fun u hu => ?_⟩
  obtain ⟨h4, h5⟩ := r3 u hu
  exact ⟨h4, h5.stepG hg (fun e => r.ne_ h5 h2 e.symm)⟩
/-- a growing slice's row lies apart from a cipher -/
theorem CiphAt.ne_own {w : World} {b base e size k : Nat} {v : Value} {F : Nat → Value} {W : List (BitVec 32)} (h : CiphAt Aes.bk Aes.undo w b W) (o : Own w base e size v k F) (h1 : e ≠ 94) : v.ownBlock ≠ some b := by
  rcases o with ⟨rfl, _⟩ | ⟨g, cap, G, rfl, _, _, _, r, _⟩
  · exact fun x => by cases x
  · intro x
    have x' : some g = some b := x
    injection x' with x'
    exact h.ne_row r h1 x'
theorem CiphAt.onwardO {w : World} {b base e size k : Nat} {v : Value} {F : Nat → Value} {W : List (BitVec 32)} (h : CiphAt Aes.bk Aes.undo w b W) (o : Own w base e size v k F) (h1 : e ≠ 94) (h2 : e ≠ 84) :
    ∀ w', w.grownBy w' v.ownBlock → CiphAt Aes.bk Aes.undo w' b W := by
  rcases o with ⟨rfl, _⟩ | ⟨g, cap, G, rfl, _, _, _, r, _⟩
  · intro w' hg
    obtain ⟨x, D, r1, r2, r3⟩ := h
    have hn : ∀ z, (Value.slice none 0 0).ownBlock ≠ some z := fun z e => by cases e
    refine ⟨x, D, r1.stepO hg (hn _), r2.stepO hg (hn _), fun u hu => ?_⟩
    obtain ⟨h4, h5⟩ := r3 u hu
    exact ⟨h4, h5.stepO hg (hn _)⟩
  · exact h.onward r h1 h2
/-! the reference -/
def boxF (n g cap : Nat) : Nat → Value := fun j => if j < 256 then U8 (Aes.sb j) else if j < 512 then U8 (Aes.bk (j - 256)) else .slice (some ⟨g, 0, none⟩) n cap
theorem refNew_l (key : List (BitVec 8)) (w : World) (hk : Aes.okKey key.length) :
    Calls Tryd.prog 22 #[.string (str key)] w fun e w' => ∃ b g cap, e = .returned (.pointer (some ⟨b, 0, none⟩)) ∧ Below w.heap.size w w' ∧ w.heap.size ≤ b ∧ w.heap.size ≤ g ∧
      Row w' b 69 513 (fun j => if j < 256 then U8 (Aes.sb j) else if j < 512 then U8 (Aes.bk (j - 256)) else .slice (some ⟨g, 0, none⟩) (Aes.words key).length cap) ∧
      Row w' g 73 ((Aes.words key).length * 4) (fun j => U8 (Aes.byteOf (Aes.gw (Aes.words key) (j / 4)) (j % 4))) := by
  obtain ⟨n, hn, h4, h8⟩ : ∃ n, key.length = 4 * n ∧ 4 ≤ n ∧ n ≤ 8 := by
    rcases hk with h | h | h
    · exact ⟨4, by omega, by omega, by omega⟩
    · exact ⟨6, by omega, by omega, by omega⟩
    · exact ⟨8, by omega, by omega, by omega⟩
  have e : key.length / 4 = n := by omega
  have hl : (Aes.words key).length = 4 * (n + 7) := by rw [Aes.length_words, e]
  refine (refNew_w key n (Aes.words key) ?_ hn h4 h8 w).mono ?_
  · intro k hk
    unfold Aes.words
    rw [e]
    exact Aes.gw_next _ _ _ _ (by omega) hk
  · rintro _ w' ⟨b, v, rfl, hb, hge, hr, ho⟩
    obtain ⟨g, cap, rfl, hg, hc, _, hrg⟩ := ho.opened (by omega)
    rw [hl]
    exact ⟨b, g, cap, rfl, hb, hge, hg, hr, hrg⟩
theorem refEnc_l (bx g cap : Nat) (key s : List (BitVec 8)) (w : World) (hk : Aes.okKey key.length) (hs : s.length = 16) (r1 : Row w bx 69 513 (fun j => if j < 256 then U8 (Aes.sb j) else if j < 512 then U8 (Aes.bk (j - 256)) else .slice (some ⟨g, 0, none⟩) (Aes.words key).length cap))
    (r2 : Row w g 73 ((Aes.words key).length * 4) (fun j => U8 (Aes.byteOf (Aes.gw (Aes.words key) (j / 4)) (j % 4)))) :
    Calls Tryd.prog 24 #[.pointer (some ⟨bx, 0, none⟩), .string (str s)] w fun e w' => e = .returned (.string (str (Aes.enc (Aes.words key) s))) ∧ Below w.heap.size w w' := by
  obtain ⟨R, h1, h2, h3⟩ := Aes.words_len key hk
  rw [← Aes.rEnc_enc (Aes.words key) R s h1 h2]
  exact refEnc_c bx g _ cap R (Aes.words key) s hs h1 h3 w r1 r2
theorem Aes.words_pos (key : List (BitVec 8)) (hk : Aes.okKey key.length) : 0 < (Aes.words key).length ∧ (Aes.words key).length ≤ 84 := by
  obtain ⟨R, h1, h2, h3⟩ := Aes.words_len key hk
  omega
end Go.Proofs.YtkjdejadambffaaDoor
