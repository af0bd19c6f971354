/-
  Texts that are sealed by a chain and a digest, plainly. Conditions as each says.
-/
import Derived.Test.YtepogbfkmflooaaDoorShaW
import Derived.Test.YtepogbfkmflooaaDoorCbcPlain
namespace Go.Proofs.YtepogbfkmflooaaDoor
open Go.RowKit
set_option linter.unusedSimpArgs false
set_option linter.unusedVariables false
namespace Ch
abbrev L8 := List (BitVec 8)
def bl (s : L8) : L8 := Oct.be (BitVec.ofNat 64 (8 * s.length)) 8
theorem bl_len (s : L8) : (bl s).length = 8 := Oct.length_be _ _
theorem mul8 (n : Nat) : BitVec.ofNat 64 n * 8#64 = BitVec.ofNat 64 (8 * n) := by
  rw [Nat.mul_comm]
  exact (BitVec.ofNat_mul (n := 64) n 8).symm
/-- the pieces that are told of -/
def pt (aad iv c : L8) (i : Nat) : L8 := if i = 0 then aad else if i = 1 then iv else if i = 2 then c else bl aad
def upto (b aad iv c : L8) : Nat → L8
  | 0 => b
  | i + 1 => upto b aad iv c i ++ pt aad iv c i
theorem upto_4 (b aad iv c : L8) : upto b aad iv c 4 = b ++ (((aad ++ iv) ++ c) ++ bl aad) := by
  show (((b ++ aad) ++ iv) ++ c) ++ bl aad = _
  simp only [List.append_assoc]
theorem pt_len (aad iv c : L8) (i : Nat) : (pt aad iv c i).length ≤ aad.length + iv.length + c.length + 8 := by
  unfold pt
  split
  · omega
  · split
    · omega
    · split
      · omega
      · rw [bl_len]; omega
theorem upto_len' (b aad iv c : L8) : ∀ i, i ≤ 4 → (upto b aad iv c i).length ≤ b.length + i * (aad.length + iv.length + c.length + 8)
  | 0, _ => by show b.length ≤ _; omega
  | i + 1, h => by
    have h1 := upto_len' b aad iv c i (by omega)
    have h2 := pt_len aad iv c i
    show (upto b aad iv c i ++ pt aad iv c i).length ≤ _
    rw [List.length_append, Nat.succ_mul]; omega
theorem upto_len (b aad iv c : L8) (i : Nat) (h : i ≤ 4) : (upto b aad iv c i).length ≤ b.length + 4 * (aad.length + iv.length + c.length + 8) :=
  Nat.le_trans (upto_len' b aad iv c i h) (Nat.add_le_add_left (Nat.mul_le_mul_right _ h) _)
/-- kind: the digest's; n: half of the key -/
def tg (kind n : Nat) (key iv aad c : L8) : L8 := (Hm.mac kind (key.take n) (((aad ++ iv) ++ c) ++ bl aad)).take n
theorem tg_of (kind n : Nat) (key iv aad c : L8) : (Sha.sum kind (Hm.pd kind (key.take n) 92#8 ++ Sha.sum kind (upto (Hm.pd kind (key.take n) 54#8) aad iv c 4))).take n = tg kind n key iv aad c := by
  rw [upto_4]; rfl
theorem n_ol (kind n : Nat) (h : Sha.Known kind) (hn : kind = 16 * n) : Sha.ol kind = 2 * n := by
  rcases h with h | h | h <;> subst h
  · show 32 = 2 * n; omega
  · show 48 = 2 * n; omega
  · show 64 = 2 * n; omega
theorem tg_len (kind n : Nat) (key iv aad c : L8) (h : Sha.Known kind) (hn : kind = 16 * n) : (tg kind n key iv aad c).length = n := by
  unfold tg
  rw [List.length_take, Hm.mac_len, n_ol kind n h hn]; omega
theorem n_cases (kind n : Nat) (h : Sha.Known kind) (hn : kind = 16 * n) : n = 16 ∨ n = 24 ∨ n = 32 := by
  rcases h with h | h | h <;> omega
theorem key_ok (kind n : Nat) (key : L8) (h : Sha.Known kind) (hn : kind = 16 * n) (hk : key.length = 2 * n) : Aes.okKey (key.drop n).length := by
  have hl : (key.drop n).length = n := by rw [List.length_drop]; omega
  rw [hl]
  exact n_cases kind n h hn
def cc (n : Nat) (key iv t : L8) : L8 := Cb.chain (key.drop n) iv (Cb.pad t 16)
theorem cc_len (n : Nat) (key iv t : L8) : (cc n key iv t).length = t.length + Cb.pn t.length 16 := by
  unfold cc
  rw [Cb.chain_len, Cb.pad_len]
def sealed (kind n : Nat) (key iv aad t : L8) : L8 := cc n key iv t ++ tg kind n key iv aad (cc n key iv t)
theorem sealed_len (kind n : Nat) (key iv aad t : L8) (h : Sha.Known kind) (hn : kind = 16 * n) : (sealed kind n key iv aad t).length = (cc n key iv t).length + n := by
  unfold sealed
  rw [List.length_append, tg_len _ _ _ _ _ _ h hn]
theorem cat_take (a b : L8) (m : Nat) (h : m = a.length) : (a ++ b).take m = a := by subst h; exact List.take_left ..
theorem cat_drop (a b : L8) (m : Nat) (h : m = a.length) : (a ++ b).drop m = b := by subst h; exact List.drop_left ..
theorem sealed_take (kind n : Nat) (key iv aad t : L8) : (sealed kind n key iv aad t).take (cc n key iv t).length = cc n key iv t := cat_take _ _ _ rfl
theorem sealed_drop (kind n : Nat) (key iv aad t : L8) : (sealed kind n key iv aad t).drop (cc n key iv t).length = tg kind n key iv aad (cc n key iv t) := cat_drop _ _ _ rfl
theorem cc_mod (n : Nat) (key iv t : L8) : (cc n key iv t).length % 16 = 0 ∧ 16 ≤ (cc n key iv t).length ∧ (cc n key iv t).length ≤ t.length + 16 := by
  rw [cc_len]
  have := Cb.pn_mod t.length 16 (by decide)
  have := Cb.pn_le t.length 16
  have := Cb.pn_pos t.length 16 (by decide)
  omega
/-- what comes of opening the first m -/
def un (n : Nat) (key iv c : L8) : L8 := Cb.unchain (key.drop n) iv c
def op (n : Nat) (key iv c : L8) : L8 := (un n key iv c).take ((un n key iv c).length - Cb.last (un n key iv c))
theorem un_cc (n : Nat) (key iv t : L8) (hk : Aes.okKey (key.drop n).length) (hi : iv.length = 16) : un n key iv (cc n key iv t) = Cb.pad t 16 := by
  refine Cb.unchain_chain (key.drop n) iv (Cb.pad t 16) hk hi ?_
  rw [Cb.pad_len]
  exact Cb.pn_mod _ 16 (by decide)
theorem op_cc (n : Nat) (key iv t : L8) (hk : Aes.okKey (key.drop n).length) (hi : iv.length = 16) : Cb.Padded (un n key iv (cc n key iv t)) 16 ∧ op n key iv (cc n key iv t) = t := by
  unfold op
  rw [un_cc n key iv t hk hi]
  obtain ⟨h1, h2⟩ := Cb.pad_padded t 16 (by decide) (by decide)
  refine ⟨h1, ?_⟩
  rw [h2, Cb.pad_take]
def wk : L8 := [48#8, 49#8, 50#8, 51#8, 52#8, 53#8, 54#8, 55#8, 56#8, 57#8, 97#8, 98#8, 99#8, 100#8, 101#8, 102#8, 48#8, 49#8, 50#8, 51#8, 52#8, 53#8, 54#8, 55#8, 56#8, 57#8, 97#8, 98#8, 99#8, 100#8, 101#8, 102#8]
def wx : L8 := [120#8]
def wy : L8 := [121#8]
theorem wakes : ¬ tg 256 16 wk (wk.take 16) wy (cc 16 wk (wk.take 16) Cb.wt) = tg 256 16 wk (wk.take 16) wx (cc 16 wk (wk.take 16) Cb.wt) := by decide +kernel
theorem wlen : (sealed 256 16 wk (wk.take 16) wx Cb.wt).length = 32 := by
  rw [sealed_len _ _ _ _ _ _ (.inl rfl) rfl, cc_len]; rfl
end Ch
end Go.Proofs.YtepogbfkmflooaaDoor
