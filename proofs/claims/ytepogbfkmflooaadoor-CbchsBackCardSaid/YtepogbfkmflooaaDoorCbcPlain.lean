/-
  Chains of blocks, plainly. No conditions.
-/
import Derived.Test.YtepogbfkmflooaaDoorAesBase
import Derived.Test.YtepogbfkmflooaaDoorOct
namespace Go.Proofs.YtepogbfkmflooaaDoor
open Go.RowKit
set_option linter.unusedSimpArgs false
set_option linter.unusedVariables false
namespace Cb
abbrev L8 := List (BitVec 8)
theorem enc_len (key s : L8) (hk : Aes.okKey key.length) : (Aes.enc (Aes.words key) s).length = 16 := by
  obtain ⟨R, h1, h2, h3⟩ := Aes.words_len key hk
  exact Aes.length_enc _ _ R h1 h2
theorem dec_len (key s : L8) : (Aes.dec (Aes.words key) s).length = 16 := Aes.length_dec _ _
/-- block t of a text -/
def bk (s : L8) (t : Nat) : L8 := (s.drop (16 * t)).take 16
theorem bk_len (s : L8) (t : Nat) (h : 16 * t + 16 ≤ s.length) : (bk s t).length = 16 := by
  unfold bk
  rw [List.length_take, List.length_drop]; omega
theorem gb_bk (s : L8) (t i : Nat) (h : i < 16) : gb (bk s t) i = gb s (16 * t + i) := by
  unfold bk
  rw [gb_take _ _ _ h, gb_drop]
theorem bk_at (s : L8) (t e : Nat) (he : e = 16) : (s.drop (16 * t)).take e = bk s t := by subst he; rfl
/-- the chain behind t blocks -/
def ch (key iv s : L8) : Nat → L8
  | 0 => iv
  | t + 1 => Aes.enc (Aes.words key) (Oct.xor (ch key iv s t) (bk s t))
theorem ch_len (key iv s : L8) (hk : Aes.okKey key.length) (hi : iv.length = 16) : ∀ t, (ch key iv s t).length = 16
  | 0 => hi
  | t + 1 => enc_len key _ hk
theorem ch_at (key iv s : L8) (t e : Nat) (he : e = 16) : Aes.enc (Aes.words key) (Oct.xor (ch key iv s t) ((s.drop (16 * t)).take e)) = ch key iv s (t + 1) := by subst he; rfl
def chain (key iv s : L8) : L8 := (List.range s.length).map fun j => gb (ch key iv s (j / 16 + 1)) (j % 16)
theorem chain_len (key iv s : L8) : (chain key iv s).length = s.length := by simp [chain]
theorem gb_chain (key iv s : L8) (j : Nat) (h : j < s.length) : gb (chain key iv s) j = gb (ch key iv s (j / 16 + 1)) (j % 16) := gb_map _ _ _ h
/-- block t of the way back -/
def un (key iv s : L8) (t : Nat) : L8 := Oct.xor (Aes.dec (Aes.words key) (bk (iv ++ s) (t + 1))) (bk (iv ++ s) t)
def unchain (key iv s : L8) : L8 := (List.range s.length).map fun j => gb (un key iv s (j / 16)) (j % 16)
theorem unchain_len (key iv s : L8) : (unchain key iv s).length = s.length := by simp [unchain]
theorem gb_unchain (key iv s : L8) (j : Nat) (h : j < s.length) : gb (unchain key iv s) j = gb (un key iv s (j / 16)) (j % 16) := gb_map _ _ _ h
theorem bk_cat0 (iv s : L8) (hi : iv.length = 16) : bk (iv ++ s) 0 = iv := by
  unfold bk
  rw [Nat.mul_zero, List.drop_zero, ← hi, List.take_left]
theorem bk_cat (iv s : L8) (t : Nat) (hi : iv.length = 16) : bk (iv ++ s) (t + 1) = bk s t := by
  unfold bk
  rw [show 16 * (t + 1) = iv.length + 16 * t from by rw [hi]; omega, ← List.drop_drop, List.drop_left]
/-- what was joined comes back -/
theorem unchain_chain (key iv s : L8) (hk : Aes.okKey key.length) (hi : iv.length = 16) (hs : s.length % 16 = 0) : unchain key iv (chain key iv s) = s := by
  have hl := ch_len key iv s hk hi
  have hb : ∀ t, 16 * t + 16 ≤ s.length → bk (chain key iv s) t = ch key iv s (t + 1) := fun t ht => by
    refine gb_ext (by rw [bk_len _ _ (by rw [chain_len]; omega), hl]) (fun i hi' => ?_)
    rw [bk_len _ _ (by rw [chain_len]; omega)] at hi'
    rw [gb_bk _ _ _ hi', gb_chain _ _ _ _ (by omega), show (16 * t + i) / 16 = t from by omega, show (16 * t + i) % 16 = i from by omega]
  have hu : ∀ t, 16 * t + 16 ≤ s.length → un key iv (chain key iv s) t = bk s t := fun t ht => by
    have hp : bk (iv ++ chain key iv s) t = ch key iv s t := by
      cases t with
      | zero => exact bk_cat0 _ _ hi
      | succ t => rw [bk_cat _ _ _ hi]; exact hb t (by omega)
    unfold un
    rw [bk_cat _ _ _ hi, hp, hb t ht]
    show Oct.xor (Aes.dec (Aes.words key) (Aes.enc (Aes.words key) (Oct.xor (ch key iv s t) (bk s t)))) _ = _
    obtain ⟨R, h1, h2, h3⟩ := Aes.words_len key hk
    rw [Aes.dec_enc _ R h1 h2 _ (by rw [Oct.length_xor, hl, bk_len _ _ ht]; rfl), Oct.xor_comm (ch key iv s t), Oct.xor_xor _ _ (by rw [hl, bk_len _ _ ht]; exact Nat.le_refl _)]
  refine gb_ext (by rw [unchain_len, chain_len]) (fun j hj => ?_)
  rw [unchain_len, chain_len] at hj
  rw [gb_unchain _ _ _ _ (by rw [chain_len]; exact hj), hu (j / 16) (by omega), gb_bk _ _ _ (by omega), show 16 * (j / 16) + j % 16 = j from by omega]
/-- what is filled up to a size -/
def pn (n z : Nat) : Nat := z - n % z
def pad (s : L8) (z : Nat) : L8 := s ++ List.replicate (pn s.length z) (BitVec.ofNat 8 (pn s.length z))
theorem pn_pos (n z : Nat) (hz : 0 < z) : 1 ≤ pn n z := by have := Nat.mod_lt n hz; unfold pn; omega
theorem pn_le (n z : Nat) : pn n z ≤ z := by unfold pn; omega
theorem pad_len (s : L8) (z : Nat) : (pad s z).length = s.length + pn s.length z := by simp [pad]
theorem pn_mod (n z : Nat) (hz : 0 < z) : (n + pn n z) % z = 0 := by
  have h1 := Nat.mod_lt n hz
  have h2 := Nat.div_add_mod n z
  unfold pn
  rw [show n + (z - n % z) = z * (n / z + 1) from by rw [Nat.mul_add]; omega, Nat.mul_mod_right]
theorem gb_pad (s : L8) (z j : Nat) : gb (pad s z) j = if j < s.length then gb s j else if j < s.length + pn s.length z then BitVec.ofNat 8 (pn s.length z) else 0#8 := by
  unfold pad
  rw [gb_append]
  by_cases h : j < s.length
  · rw [if_pos h, if_pos h]
  · rw [if_neg h, if_neg h]
    by_cases h2 : j < s.length + pn s.length z
    · rw [if_pos h2]
      simp only [gb, List.getD_eq_getElem?_getD, List.getElem?_replicate, if_pos (show j - s.length < pn s.length z by omega), Option.getD_some]
    · rw [if_neg h2]
      exact gb_out _ _ (by rw [List.length_replicate]; omega)
/-- how much was filled up: the last byte tells -/
def last (s : L8) : Nat := (gb s (s.length - 1)).toNat
def Padded (s : L8) (z : Nat) : Prop := 1 ≤ last s ∧ last s ≤ z ∧ ∀ i, s.length - last s ≤ i → i < s.length → (gb s i).toNat = last s
theorem pad_padded (s : L8) (z : Nat) (h1 : 1 ≤ z) (h2 : z ≤ 255) : Padded (pad s z) z ∧ last (pad s z) = pn s.length z := by
  have hp := pn_pos s.length z (by omega)
  have hq := pn_le s.length z
  have hb : (BitVec.ofNat 8 (pn s.length z)).toNat = pn s.length z := by rw [BitVec.toNat_ofNat]; omega
  have hl : last (pad s z) = pn s.length z := by
    unfold last
    rw [pad_len, gb_pad, if_neg (by omega), if_pos (by omega), hb]
  refine ⟨⟨by omega, by omega, fun i h3 h4 => ?_⟩, hl⟩
  rw [pad_len] at h3 h4
  rw [gb_pad, if_neg (by omega), if_pos (by omega), hb, hl]
theorem pad_take (s : L8) (z : Nat) : (pad s z).take ((pad s z).length - pn s.length z) = s := by
  rw [pad_len, Nat.add_sub_cancel]
  unfold pad
  exact List.take_left ..
/-- filled up by noughts to whole blocks -/
def zn (n : Nat) : Nat := (16 - n % 16) % 16
def z (s : L8) : L8 := s ++ List.replicate (zn s.length) 0#8
def zero16 : L8 := List.replicate 16 0#8
def mac (key s : L8) : L8 := ch key zero16 (z s) ((s.length + 15) / 16)
def wk : L8 := [48#8, 49#8, 50#8, 51#8, 52#8, 53#8, 54#8, 55#8, 56#8, 57#8, 97#8, 98#8, 99#8, 100#8, 101#8, 102#8]
def wt : L8 := [97#8, 98#8, 99#8]
end Cb
end Go.Proofs.YtepogbfkmflooaaDoor
