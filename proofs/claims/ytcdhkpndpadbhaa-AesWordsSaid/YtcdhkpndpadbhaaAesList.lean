/-
  AES: the contracts, said of lists of bytes. Conditions as each says.
-/
import Derived.Test.YtcdhkpndpadbhaaAesRefEq
import Derived.Test.YtcdhkpndpadbhaaAesDec
import Derived.Test.YtcdhkpndpadbhaaAesExp
import Derived.Test.YtcdhkpndpadbhaaAesBackWalk
namespace Go.Proofs.Ytcdhkpndpadbhaa
open Go.RowKit
set_option linter.unusedSimpArgs false
set_option linter.unusedVariables false
theorem new_l (key : List (BitVec 8)) (w : World) (hk : Aes.okKey key.length) :
    Calls Try.prog 13 #[.string (str key)] w fun e w' => ∃ b, e = .returned (.tuple #[.pointer (some ⟨b, 0, none⟩), .int .i64 0]) ∧ w.heap.size ≤ b ∧ CiphAt Aes.bk Aes.undo w' b (Aes.words key) ∧ Below w.heap.size w w' := by
  have h := new_c Aes.bk Aes.undo (str key) w (by rw [size_str]; exact hk)
  rw [byt_str] at h
  exact h
theorem new_l_no (key : List (BitVec 8)) (w : World) (hk : ¬ Aes.okKey key.length) : Calls Try.prog 13 #[.string (str key)] w fun e w' => e = .returned (.tuple #[.pointer none, .int .i64 3]) ∧ w = w' :=
  new_no (str key) w (by rw [size_str]; exact hk)
theorem expand_l (key : List (BitVec 8)) (w : World) (hk : Aes.okKey key.length) :
    Calls Try.prog 17 #[.string (str key)] w fun e w' => ∃ g, e = .returned (.tuple #[.slice (some ⟨g, 0, none⟩) (Aes.words key).length (Aes.words key).length, .int .i64 0]) ∧ w.heap.size ≤ g ∧
      Row w' g 41 (Aes.words key).length (fun j => U32 (Aes.gw (Aes.words key) j)) ∧ Below w.heap.size w w' := by
  have h := expandAll_c (str key) w (by rw [size_str]; exact hk)
  rw [byt_str] at h
  exact h
theorem expand_l_no (key : List (BitVec 8)) (w : World) (hk : ¬ Aes.okKey key.length) : Calls Try.prog 17 #[.string (str key)] w fun e w' => e = .returned (.tuple #[.slice none 0 0, .int .i64 3]) ∧ w = w' :=
  expandAll_no (str key) w (by rw [size_str]; exact hk)
theorem right_l (key : List (BitVec 8)) (w : World) (hk : Aes.okKey key.length) : Calls Try.prog 18 #[.string (str key)] w fun e w' => e = .returned (.bool true) ∧ w = w' := refRight_yes _ _ (by rw [size_str]; exact hk)
theorem right_l_no (key : List (BitVec 8)) (w : World) (hk : ¬ Aes.okKey key.length) : Calls Try.prog 18 #[.string (str key)] w fun e w' => e = .returned (.bool false) ∧ w = w' := refRight_no _ _ (by rw [size_str]; exact hk)
theorem enc_l (b : Nat) (key s : List (BitVec 8)) (w : World) (hk : Aes.okKey key.length) (h : CiphAt Aes.bk Aes.undo w b (Aes.words key)) (hs : s.length = 16) :
    Calls Try.prog 14 #[.pointer (some ⟨b, 0, none⟩), .string (str s)] w fun e w' => e = .returned (.tuple #[.string (str (Aes.enc (Aes.words key) s)), .int .i64 0]) ∧ Below w.heap.size w w' := by
  have h := encrypt_c Aes.bk Aes.undo b key (str s) w hk h (by rw [size_str]; exact hs)
  rw [byt_str] at h
  exact h
theorem enc_l_bad (b : Nat) (key s : List (BitVec 8)) (w : World) (hk : Aes.okKey key.length) (h : CiphAt Aes.bk Aes.undo w b (Aes.words key)) (hs : s.length ≠ 16) :
    Calls Try.prog 14 #[.pointer (some ⟨b, 0, none⟩), .string (str s)] w fun e w' => e = .returned (.tuple #[.string (str []), .int .i64 6]) ∧ w = w' :=
  encrypt_bad Aes.bk Aes.undo b key (str s) w hk h (by rw [size_str]; exact hs)
theorem dec_l (B b : Nat) (key s : List (BitVec 8)) (w : World) (hk : Aes.okKey key.length) (h : CiphAt Aes.bk Aes.undo w b (Aes.words key)) (hB : B ≤ b) (hs : s.length = 16) :
    Calls Try.prog 21 #[.pointer (some ⟨b, 0, none⟩), .string (str s)] w fun e w' => e = .returned (.tuple #[.string (str (Aes.dec (Aes.words key) s)), .int .i64 0]) ∧ Below B w w' ∧ CiphAt Aes.bk Aes.undo w' b (Aes.words key) := by
  have h := decrypt_c B b key (str s) w hk h hB (by rw [size_str]; exact hs)
  rw [byt_str] at h
  exact h
theorem dec_l_bad (b : Nat) (key s : List (BitVec 8)) (w : World) (hk : Aes.okKey key.length) (h : CiphAt Aes.bk Aes.undo w b (Aes.words key)) (hs : s.length ≠ 16) :
    Calls Try.prog 21 #[.pointer (some ⟨b, 0, none⟩), .string (str s)] w fun e w' => e = .returned (.tuple #[.string (str []), .int .i64 6]) ∧ w = w' := by
  obtain ⟨R, h1, h2, h3⟩ := Aes.words_len key hk
  obtain ⟨g, D, r1, r2, r3⟩ := h
  exact decrypt_size b _ g (str s) w (by rw [r1.cell (by omega)]; rfl) (by omega) (by rw [size_str]; exact hs)
/-! the reference -/
def boxF (n g cap : Nat) : Nat → Value := fun j => if j < 256 then U8 (Aes.sb j) else if j < 512 then U8 (Aes.bk (j - 256)) else .slice (some ⟨g, 0, none⟩) n cap
theorem refNew_l (key : List (BitVec 8)) (w : World) (hk : Aes.okKey key.length) :
    Calls Try.prog 19 #[.string (str key)] w fun e w' => ∃ b g cap, e = .returned (.pointer (some ⟨b, 0, none⟩)) ∧ Below w.heap.size w w' ∧ w.heap.size ≤ b ∧ w.heap.size ≤ g ∧
      Row w' b 71 513 (fun j => if j < 256 then U8 (Aes.sb j) else if j < 512 then U8 (Aes.bk (j - 256)) else .slice (some ⟨g, 0, none⟩) (Aes.words key).length cap) ∧
      Row w' g 73 ((Aes.words key).length * 4) (fun j => U8 (Aes.byteOf (Aes.gw (Aes.words key) (j / 4)) (j % 4))) := by
  obtain ⟨n, hn, h4, h8⟩ : ∃ n, key.length = 4 * n ∧ 4 ≤ n ∧ n ≤ 8 := by
    rcases hk with h | h | h
    · exact ⟨4, by omega, by omega, by omega⟩
    · exact ⟨6, by omega, by omega, by omega⟩
    · exact ⟨8, by omega, by omega, by omega⟩
  have e : key.length / 4 = n := by omega
  have hl : (Aes.words key).length = 4 * (n + 7) := by rw [Aes.length_words, e]
  refine (refNew_w key n (Aes.words key) ?_ hn h4 h8 w).mono ?_
  · intro k hk
    unfold Aes.words
    rw [e]
    exact Aes.gw_next _ _ _ _ (by omega) hk
  · rintro _ w' ⟨b, v, rfl, hb, hge, hr, ho⟩
    obtain ⟨g, cap, rfl, hg, hc, _, hrg⟩ := ho.opened (by omega)
    rw [hl]
    exact ⟨b, g, cap, rfl, hb, hge, hg, hr, hrg⟩
theorem refWords_l (bx g n cap : Nat) (W : List (BitVec 32)) (hn : n ≤ 1000) (h0 : 0 < n) (w : World) (r1 : Row w bx 71 513 (fun j => if j < 256 then U8 (Aes.sb j) else if j < 512 then U8 (Aes.bk (j - 256)) else .slice (some ⟨g, 0, none⟩) n cap))
    (r2 : Row w g 73 (n * 4) (fun j => U8 (Aes.byteOf (Aes.gw W (j / 4)) (j % 4)))) :
    Calls Try.prog 20 #[.pointer (some ⟨bx, 0, none⟩)] w fun e w' => ∃ m c, e = .returned (.slice (some ⟨m, 0, none⟩) n c) ∧ Below w.heap.size w w' ∧ w.heap.size ≤ m ∧ Row w' m 41 n (fun j => U32 (Aes.gw W j)) := by
  refine (refWords_c bx g n cap W hn w r1 r2).mono ?_
  rintro _ w' ⟨v, rfl, ho, hb⟩
  obtain ⟨m, c, rfl, hg, hc, _, hr⟩ := ho.opened h0
  rw [Nat.mul_one] at hr
  exact ⟨m, c, rfl, hb, hg, hr⟩
theorem refEnc_l (bx g cap : Nat) (key s : List (BitVec 8)) (w : World) (hk : Aes.okKey key.length) (hs : s.length = 16) (r1 : Row w bx 71 513 (fun j => if j < 256 then U8 (Aes.sb j) else if j < 512 then U8 (Aes.bk (j - 256)) else .slice (some ⟨g, 0, none⟩) (Aes.words key).length cap))
    (r2 : Row w g 73 ((Aes.words key).length * 4) (fun j => U8 (Aes.byteOf (Aes.gw (Aes.words key) (j / 4)) (j % 4)))) :
    Calls Try.prog 22 #[.pointer (some ⟨bx, 0, none⟩), .string (str s)] w fun e w' => e = .returned (.string (str (Aes.enc (Aes.words key) s))) ∧ Below w.heap.size w w' := by
  obtain ⟨R, h1, h2, h3⟩ := Aes.words_len key hk
  rw [← Aes.rEnc_enc (Aes.words key) R s h1 h2]
  exact refEnc_c bx g _ cap R (Aes.words key) s hs h1 h3 w r1 r2
theorem refDec_l (bx g cap : Nat) (key s : List (BitVec 8)) (w : World) (hk : Aes.okKey key.length) (hs : s.length = 16) (r1 : Row w bx 71 513 (fun j => if j < 256 then U8 (Aes.sb j) else if j < 512 then U8 (Aes.bk (j - 256)) else .slice (some ⟨g, 0, none⟩) (Aes.words key).length cap))
    (r2 : Row w g 73 ((Aes.words key).length * 4) (fun j => U8 (Aes.byteOf (Aes.gw (Aes.words key) (j / 4)) (j % 4)))) :
    Calls Try.prog 23 #[.pointer (some ⟨bx, 0, none⟩), .string (str s)] w fun e w' => e = .returned (.string (str (Aes.dec (Aes.words key) s))) ∧ Below w.heap.size w w' := by
  obtain ⟨R, h1, h2, h3⟩ := Aes.words_len key hk
  rw [← Aes.rDec_dec (Aes.words key) R s h1 h2 hs]
  exact refDec_c bx g _ cap R (Aes.words key) s hs h1 h3 w r1 r2
theorem Aes.words_pos (key : List (BitVec 8)) (hk : Aes.okKey key.length) : 0 < (Aes.words key).length ∧ (Aes.words key).length ≤ 84 := by
  obtain ⟨R, h1, h2, h3⟩ := Aes.words_len key hk
  omega
end Go.Proofs.Ytcdhkpndpadbhaa
