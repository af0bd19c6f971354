/-
  Texts that are sealed by a counter and a sum over a field, plainly. Conditions as each says.
-/
import Derived.Test.YtdmbfimjbmfbaaaGreatGhWord
import Derived.Test.YtdmbfimjbmfbaaaGreatCtrPlain
namespace Go.Proofs.YtdmbfimjbmfbaaaGreat
open Go.RowKit
set_option linter.unusedSimpArgs false
set_option linter.unusedVariables false
namespace Gm
abbrev L8 := List (BitVec 8)
def hk (key : L8) : L8 := Aes.enc (Aes.words key) Cb.zero16
def bl (s : L8) : L8 := Oct.be (BitVec.ofNat 64 (8 * s.length)) 8
theorem bl_len (s : L8) : (bl s).length = 8 := Oct.length_be _ _
def z8 : L8 := List.replicate 8 0#8
def n1 : L8 := [0#8, 0#8, 0#8, 1#8]
def first (f : Nat → BitVec 64) (key v : L8) : L8 := if v.length = 12 then v ++ n1 else Gh.sum f (hk key) ((Cb.z v ++ z8) ++ bl v)
theorem first_12 (f : Nat → BitVec 64) (key v : L8) (h : v.length = 12) : v ++ n1 = first f key v := by
  unfold first
  rw [if_pos h]
theorem first_n (f : Nat → BitVec 64) (key v : L8) (h : v.length ≠ 12) : Gh.sum f (Aes.enc (Aes.words key) (List.replicate 16 0#8)) ((Cb.z v ++ List.replicate 8 0#8) ++ bl v) = first f key v := by
  unfold first
  rw [if_neg h]; rfl
theorem mul8 (n : Nat) : BitVec.ofNat 64 n * 8#64 = BitVec.ofNat 64 (8 * n) := by
  rw [Nat.mul_comm]
  exact (BitVec.ofNat_mul (n := 64) n 8).symm
theorem first_len (f : Nat → BitVec 64) (key v : L8) : (first f key v).length = 16 := by
  unfold first
  split
  · rename_i h; rw [List.length_append, h]; rfl
  · exact Gh.sum_len _ _ _
def body (aad c : L8) : L8 := ((Cb.z aad ++ Cb.z c) ++ bl aad) ++ bl c
theorem z_len16 (s : L8) : (Cb.z s).length % 16 = 0 ∧ s.length ≤ (Cb.z s).length ∧ (Cb.z s).length ≤ s.length + 15 := by
  have h : (Cb.z s).length = s.length + (16 - s.length % 16) % 16 := Cb.z_len s
  omega
theorem body_len (aad c : L8) : (body aad c).length % 16 = 0 ∧ (body aad c).length ≤ aad.length + c.length + 46 := by
  have h1 := z_len16 aad
  have h2 := z_len16 c
  unfold body
  simp only [List.length_append, bl_len]
  omega
def tg (f : Nat → BitVec 64) (key v aad c : L8) (size : Nat) : L8 := (Oct.xor (Gh.sum f (hk key) (body aad c)) (Aes.enc (Aes.words key) (first f key v))).take size
theorem tg_len (f : Nat → BitVec 64) (key v aad c : L8) (size : Nat) (hok : Aes.okKey key.length) (h : size ≤ 16) : (tg f key v aad c size).length = size := by
  unfold tg
  rw [List.length_take, Oct.length_xor, Gh.sum_len, Cb.enc_len _ _ hok]; omega
def xr (f : Nat → BitVec 64) (key v t : L8) : L8 := Ct.x key (Ct.nx (first f key v) 4 1) 4 t
theorem xr_len (f : Nat → BitVec 64) (key v t : L8) : (xr f key v t).length = t.length := Ct.length_x _ _ _ _
theorem xr_xr (f : Nat → BitVec 64) (key v t : L8) : xr f key v (xr f key v t) = t := Ct.x_x _ _ _ _
def sealed (f : Nat → BitVec 64) (key v aad t : L8) (size : Nat) : L8 := xr f key v t ++ tg f key v aad (xr f key v t) size
theorem sealed_len (f : Nat → BitVec 64) (key v aad t : L8) (size : Nat) (hok : Aes.okKey key.length) (h : size ≤ 16) : (sealed f key v aad t size).length = t.length + size := by
  unfold sealed
  rw [List.length_append, xr_len, tg_len _ _ _ _ _ _ hok h]
theorem sealed_take (f : Nat → BitVec 64) (key v aad t : L8) (size : Nat) : (sealed f key v aad t size).take t.length = xr f key v t := by
  unfold sealed
  have h := xr_len f key v t
  rw [← h]
  exact List.take_left ..
theorem sealed_drop (f : Nat → BitVec 64) (key v aad t : L8) (size : Nat) : (sealed f key v aad t size).drop t.length = tg f key v aad (xr f key v t) size := by
  unfold sealed
  have h := xr_len f key v t
  rw [← h]
  exact List.drop_left ..
/-- a text with some bits of a byte turned -/
def turn (s : L8) (a : Nat) (x : BitVec 8) : L8 := (List.range s.length).map fun j => if j = a % s.length then gb s j ^^^ x else gb s j
def turned (s : L8) (a : Int) (x : BitVec 8) : L8 := if s.length = 0 ∨ a < 0 then s else turn s a.toNat x
def wo : L8 := [0x58#8, 0xe2#8, 0xfc#8, 0xce#8, 0xfa#8, 0x7e#8, 0x30#8, 0x61#8, 0x36#8, 0x7f#8, 0x1d#8, 0x57#8, 0xa4#8, 0xe7#8, 0x45#8, 0x5a#8]
end Gm
end Go.Proofs.YtdmbfimjbmfbaaaGreat
