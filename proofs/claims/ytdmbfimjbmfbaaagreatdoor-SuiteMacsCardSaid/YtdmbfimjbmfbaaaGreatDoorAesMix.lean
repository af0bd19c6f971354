/-
  AES: words as four bytes; mixing a column and its way back. No conditions.
-/
import Derived.Test.YtdmbfimjbmfbaaaGreatDoorGenMore
namespace Go.Proofs.YtdmbfimjbmfbaaaGreatDoor
set_option linter.unusedSimpArgs false
set_option linter.unusedVariables false
namespace Aes
theorem bit_word (a b c d : BitVec 8) (i : Nat) : (word a b c d).getLsbD i =
    if i < 8 then d.getLsbD i else if i < 16 then c.getLsbD (i - 8) else if i < 24 then b.getLsbD (i - 16) else if i < 32 then a.getLsbD (i - 24) else false := by
  have z : ∀ (x : BitVec 8) j, 8 ≤ j → x.getLsbD j = false := fun x j h => BitVec.getLsbD_of_ge x j h
  unfold word
  simp only [BitVec.getLsbD_or, BitVec.getLsbD_shiftLeft, BitVec.getLsbD_setWidth]
  by_cases h1 : i < 8
  · simp [h1, show i < 24 by omega, show i < 16 by omega, show i < 32 by omega]
  · by_cases h2 : i < 16
    · simp [h1, h2, show i < 24 by omega, show i < 32 by omega, z d i (by omega), show i - 8 < 32 by omega]
    · by_cases h3 : i < 24
      · simp [h1, h2, h3, show i < 32 by omega, z d i (by omega), z c (i - 8) (by omega), show i - 16 < 32 by omega]
      · by_cases h4 : i < 32
        · simp [h1, h2, h3, h4, z d i (by omega), z c (i - 8) (by omega), z b (i - 16) (by omega), show i - 24 < 32 by omega]
        · simp [h1, h2, h3, h4]
theorem bit_byteOf (w : BitVec 32) (r i : Nat) (hr : r < 4) : (byteOf w r).getLsbD i = (decide (i < 8) && w.getLsbD (24 - 8 * r + i)) := by
  simp [byteOf]
theorem word_byteOf (w : BitVec 32) : word (byteOf w 0) (byteOf w 1) (byteOf w 2) (byteOf w 3) = w := by
  apply BitVec.eq_of_getLsbD_eq
  intro i hi
  rw [bit_word, bit_byteOf _ _ _ (by decide), bit_byteOf _ _ _ (by decide), bit_byteOf _ _ _ (by decide), bit_byteOf _ _ _ (by decide)]
  by_cases h1 : i < 8
  · simp [h1]
  · by_cases h2 : i < 16
    · simp [h1, h2, show i - 8 < 8 by omega, show 8 + (i - 8) = i by omega]
    · by_cases h3 : i < 24
      · simp [h1, h2, h3, show i - 16 < 8 by omega, show 16 + (i - 16) = i by omega]
      · simp [h1, h2, h3, hi, show i - 24 < 8 by omega, show 24 + (i - 24) = i by omega]
theorem byteOf0 (a b c d : BitVec 8) : byteOf (word a b c d) 0 = a := by
  apply BitVec.eq_of_getLsbD_eq
  intro i hi
  rw [bit_byteOf _ _ _ (by decide), bit_word]
  simp [hi, show ¬ 24 + i < 8 by omega, show ¬ 24 + i < 16 by omega, show ¬ 24 + i < 24 by omega, show 24 + i < 32 by omega]
theorem byteOf1 (a b c d : BitVec 8) : byteOf (word a b c d) 1 = b := by
  apply BitVec.eq_of_getLsbD_eq
  intro i hi
  rw [bit_byteOf _ _ _ (by decide), bit_word]
  simp [hi, show ¬ 16 + i < 8 by omega, show ¬ 16 + i < 16 by omega, show 16 + i < 24 by omega]
theorem byteOf2 (a b c d : BitVec 8) : byteOf (word a b c d) 2 = c := by
  apply BitVec.eq_of_getLsbD_eq
  intro i hi
  rw [bit_byteOf _ _ _ (by decide), bit_word]
  simp [hi, show ¬ 8 + i < 8 by omega, show 8 + i < 16 by omega]
theorem byteOf3 (a b c d : BitVec 8) : byteOf (word a b c d) 3 = d := by
  apply BitVec.eq_of_getLsbD_eq
  intro i hi
  rw [bit_byteOf _ _ _ (by decide), bit_word]
  simp [hi]
theorem word_xor (a b c d a' b' c' d' : BitVec 8) : word a b c d ^^^ word a' b' c' d' = word (a ^^^ a') (b ^^^ b') (c ^^^ c') (d ^^^ d') := by
  apply BitVec.eq_of_getLsbD_eq
  intro i hi
  simp only [BitVec.getLsbD_xor, bit_word]
  repeat' split
  all_goals first | rfl | simp
theorem rot8 (a b c d : BitVec 8) : word a b c d <<< 8 ||| word a b c d >>> 24 = word b c d a := by
  apply BitVec.eq_of_getLsbD_eq
  intro i hi
  simp only [BitVec.getLsbD_or, BitVec.getLsbD_shiftLeft, BitVec.getLsbD_ushiftRight, bit_word]
  by_cases h1 : i < 8
  · simp [h1, show ¬ 24 + i < 8 by omega, show ¬ 24 + i < 16 by omega, show ¬ 24 + i < 24 by omega, show 24 + i < 32 by omega]
  · by_cases h2 : i < 16
    · simp [h1, h2, hi, show i - 8 < 8 by omega, show ¬ 24 + i < 32 by omega, show ¬ 24 + i < 24 by omega, show ¬ 24 + i < 16 by omega, show ¬ 24 + i < 8 by omega]
    · by_cases h3 : i < 24
      · simp [h1, h2, h3, hi, show ¬ i - 8 < 8 by omega, show i - 8 < 16 by omega, show i - 8 - 8 = i - 16 by omega, show ¬ 24 + i < 32 by omega, show ¬ 24 + i < 24 by omega, show ¬ 24 + i < 16 by omega, show ¬ 24 + i < 8 by omega]
      · simp [h1, h2, h3, hi, show ¬ i - 8 < 8 by omega, show ¬ i - 8 < 16 by omega, show i - 8 < 24 by omega, show i - 8 - 16 = i - 24 by omega, show ¬ 24 + i < 32 by omega, show ¬ 24 + i < 24 by omega, show ¬ 24 + i < 16 by omega, show ¬ 24 + i < 8 by omega]
theorem rot16 (a b c d : BitVec 8) : word a b c d <<< 16 ||| word a b c d >>> 16 = word c d a b := by
  apply BitVec.eq_of_getLsbD_eq
  intro i hi
  simp only [BitVec.getLsbD_or, BitVec.getLsbD_shiftLeft, BitVec.getLsbD_ushiftRight, bit_word]
  by_cases h1 : i < 8
  · simp [h1, show i < 16 by omega, show ¬ 16 + i < 8 by omega, show ¬ 16 + i < 16 by omega, show 16 + i < 24 by omega]
  · by_cases h2 : i < 16
    · simp [h1, h2, hi, show ¬ 16 + i < 8 by omega, show ¬ 16 + i < 16 by omega, show ¬ 16 + i < 24 by omega, show 16 + i < 32 by omega, show 16 + i - 24 = i - 8 by omega]
    · by_cases h3 : i < 24
      · simp [h1, h2, h3, hi, show i - 16 < 8 by omega, show ¬ 16 + i < 32 by omega, show ¬ 16 + i < 24 by omega, show ¬ 16 + i < 16 by omega, show ¬ 16 + i < 8 by omega]
      · simp [h1, h2, h3, hi, show ¬ i - 16 < 8 by omega, show i - 16 < 16 by omega, show i - 16 - 8 = i - 24 by omega, show ¬ 16 + i < 32 by omega, show ¬ 16 + i < 24 by omega, show ¬ 16 + i < 16 by omega, show ¬ 16 + i < 8 by omega]
theorem rot24 (a b c d : BitVec 8) : word a b c d <<< 24 ||| word a b c d >>> 8 = word d a b c := by
  apply BitVec.eq_of_getLsbD_eq
  intro i hi
  simp only [BitVec.getLsbD_or, BitVec.getLsbD_shiftLeft, BitVec.getLsbD_ushiftRight, bit_word]
  by_cases h1 : i < 8
  · simp [h1, show i < 24 by omega, show ¬ 8 + i < 8 by omega, show 8 + i < 16 by omega]
  · by_cases h2 : i < 16
    · simp [h1, h2, hi, show i < 24 by omega, show ¬ 8 + i < 8 by omega, show ¬ 8 + i < 16 by omega, show 8 + i < 24 by omega, show 8 + i - 16 = i - 8 by omega]
    · by_cases h3 : i < 24
      · simp [h1, h2, h3, hi, show ¬ 8 + i < 24 by omega, show 8 + i < 32 by omega, show ¬ 8 + i < 16 by omega, show ¬ 8 + i < 8 by omega, show 8 + i - 24 = i - 16 by omega]
      · simp [h1, h2, h3, hi, show i - 24 < 8 by omega, show ¬ 8 + i < 32 by omega, show ¬ 8 + i < 24 by omega, show ¬ 8 + i < 16 by omega, show ¬ 8 + i < 8 by omega]
theorem bits254 : ∀ j, j < 8 → (254#8).getLsbD j = decide (1 ≤ j) := by decide
theorem bits1 : ∀ j, j < 8 → (1#8).getLsbD j = decide (j = 0) := by decide
theorem c254 : 4278124286#32 = word 254#8 254#8 254#8 254#8 := by decide
theorem c1 : 16843009#32 = word 1#8 1#8 1#8 1#8 := by decide
theorem word_and (a b c d a' b' c' d' : BitVec 8) : word a b c d &&& word a' b' c' d' = word (a &&& a') (b &&& b') (c &&& c') (d &&& d') := by
  apply BitVec.eq_of_getLsbD_eq
  intro i hi
  simp only [BitVec.getLsbD_and, bit_word]
  repeat' split
  all_goals first | rfl | simp
theorem dbl (a b c d : BitVec 8) : word a b c d <<< 1 &&& 4278124286#32 = word (a <<< 1) (b <<< 1) (c <<< 1) (d <<< 1) := by
  rw [c254]
  apply BitVec.eq_of_getLsbD_eq
  intro i hi
  simp only [BitVec.getLsbD_and, BitVec.getLsbD_shiftLeft, bit_word]
  by_cases h1 : i < 8
  · rcases Nat.eq_zero_or_pos i with h0 | h0
    · simp [h0]
    · simp [h1, hi, bits254 _ h1, show i - 1 < 8 by omega, show 1 ≤ i from h0]
  · by_cases h2 : i < 16
    · rcases Nat.lt_or_ge 8 i with h0 | h0
      · simp [h1, h2, hi, bits254 (i - 8) (by omega), show ¬ i - 1 < 8 by omega, show i - 1 < 16 by omega, show i - 1 - 8 = i - 8 - 1 by omega, show i - 8 < 8 by omega, show 1 ≤ i - 8 by omega, show ¬ i - 8 = 0 by omega, show ¬ i = 0 by omega]
      · have e : i = 8 := by omega
        subst e; simp
    · by_cases h3 : i < 24
      · rcases Nat.lt_or_ge 16 i with h0 | h0
        · simp [h1, h2, h3, hi, bits254 (i - 16) (by omega), show ¬ i - 1 < 8 by omega, show ¬ i - 1 < 16 by omega, show i - 1 < 24 by omega, show i - 1 - 16 = i - 16 - 1 by omega, show i - 16 < 8 by omega, show 1 ≤ i - 16 by omega, show ¬ i - 16 = 0 by omega, show ¬ i = 0 by omega]
        · have e : i = 16 := by omega
          subst e; simp
      · rcases Nat.lt_or_ge 24 i with h0 | h0
        · simp [h1, h2, h3, hi, bits254 (i - 24) (by omega), show ¬ i - 1 < 8 by omega, show ¬ i - 1 < 16 by omega, show ¬ i - 1 < 24 by omega, show i - 1 < 32 by omega, show i - 1 - 24 = i - 24 - 1 by omega, show i - 24 < 8 by omega, show 1 ≤ i - 24 by omega, show ¬ i - 24 = 0 by omega, show ¬ i = 0 by omega]
        · have e : i = 24 := by omega
          subst e; simp
theorem top (a b c d : BitVec 8) : word a b c d >>> 7 &&& 16843009#32 = word (a >>> 7) (b >>> 7) (c >>> 7) (d >>> 7) := by
  have z : ∀ (x : BitVec 8) j, 8 ≤ j → x.getLsbD j = false := fun x j h => BitVec.getLsbD_of_ge x j h
  rw [c1]
  apply BitVec.eq_of_getLsbD_eq
  intro i hi
  simp only [BitVec.getLsbD_and, BitVec.getLsbD_ushiftRight, bit_word]
  by_cases h1 : i < 8
  · rcases Nat.eq_zero_or_pos i with h0 | h0
    · subst h0; simp
    · simp [h1, bits1 _ h1, show ¬ i = 0 by omega, z d (7 + i) (by omega)]
  · by_cases h2 : i < 16
    · rcases Nat.lt_or_ge 8 i with h0 | h0
      · simp [h1, h2, bits1 (i - 8) (by omega), show ¬ i - 8 = 0 by omega, z c (7 + (i - 8)) (by omega)]
      · have e : i = 8 := by omega
        subst e; simp
    · by_cases h3 : i < 24
      · rcases Nat.lt_or_ge 16 i with h0 | h0
        · simp [h1, h2, h3, bits1 (i - 16) (by omega), show ¬ i - 16 = 0 by omega, z b (7 + (i - 16)) (by omega)]
        · have e : i = 16 := by omega
          subst e; simp
      · rcases Nat.lt_or_ge 24 i with h0 | h0
        · simp [h1, h2, h3, hi, bits1 (i - 24) (by omega), show ¬ i - 24 = 0 by omega, z a (7 + (i - 24)) (by omega)]
        · have e : i = 24 := by omega
          subst e; simp
theorem top_bit : ∀ n, n < 256 → (BitVec.ofNat 8 n >>> 7 = 0#8 ∨ BitVec.ofNat 8 n >>> 7 = 1#8) := by decide +kernel
theorem top_or (a : BitVec 8) : a >>> 7 = 0#8 ∨ a >>> 7 = 1#8 := by
  have := top_bit _ a.isLt
  rwa [BitVec.ofNat_toNat, BitVec.setWidth_eq] at this
theorem tw_word (a b c d : BitVec 8) : tw (word a b c d) = word (xt a) (xt b) (xt c) (xt d) := by
  unfold tw
  rw [dbl, top, xt_eq, xt_eq, xt_eq, xt_eq, ← word_xor]
  congr 1
  rcases top_or a with h | h <;> rcases top_or b with h' | h' <;> rcases top_or c with h'' | h'' <;> rcases top_or d with h''' | h''' <;> rw [h, h', h'', h'''] <;> decide
theorem mix_word (a b c d : BitVec 8) : mix (word a b c d) = word (xt (a ^^^ b) ^^^ b ^^^ c ^^^ d) (xt (b ^^^ c) ^^^ c ^^^ d ^^^ a) (xt (c ^^^ d) ^^^ d ^^^ a ^^^ b) (xt (d ^^^ a) ^^^ a ^^^ b ^^^ c) := by
  unfold mix
  rw [rot8, rot16, rot24, word_xor, tw_word, word_xor, word_xor, word_xor]
theorem xc {n : Nat} (x y : BitVec n) : x ^^^ (x ^^^ y) = y := by rw [← BitVec.xor_assoc, BitVec.xor_self, BitVec.zero_xor]
theorem xl {n : Nat} (x y z : BitVec n) : x ^^^ (y ^^^ z) = y ^^^ (x ^^^ z) := by rw [← BitVec.xor_assoc, BitVec.xor_comm x y, BitVec.xor_assoc]
set_option maxHeartbeats 2000000 in
theorem unmix_mix (w : BitVec 32) : unmix (mix w) = w := by
  rw [← word_byteOf w]
  generalize byteOf w 0 = a
  generalize byteOf w 1 = b
  generalize byteOf w 2 = c
  generalize byteOf w 3 = d
  rw [mix_word]
  unfold unmix
  rw [rot16, word_xor, tw_word, tw_word, word_xor, mix_word]
  simp only [xt_xor]
  generalize xt (xt (xt (xt a))) = a4
  generalize xt (xt (xt (xt b))) = b4
  generalize xt (xt (xt (xt c))) = c4
  generalize xt (xt (xt (xt d))) = d4
  generalize xt (xt (xt a)) = a3
  generalize xt (xt (xt b)) = b3
  generalize xt (xt (xt c)) = c3
  generalize xt (xt (xt d)) = d3
  generalize xt (xt a) = a2
  generalize xt (xt b) = b2
  generalize xt (xt c) = c2
  generalize xt (xt d) = d2
  generalize xt a = a1
  generalize xt b = b1
  generalize xt c = c1
  generalize xt d = d1
  congr 1 <;> simp only [BitVec.xor_assoc, BitVec.xor_comm, xl, xc, BitVec.xor_self, BitVec.xor_zero, BitVec.zero_xor]
end Aes
end Go.Proofs.YtdmbfimjbmfbaaaGreatDoor
