/-
  AES: the reference's tables, plainly. No conditions.
-/
import Derived.Test.YtkjdejadambffaaDoorAesBackPlain
namespace Go.Proofs.YtkjdejadambffaaDoor
namespace Aes
theorem mul3_all : ∀ n, n < 256 → mul (BitVec.ofNat 8 n) 3#8 = BitVec.ofNat 8 n ^^^ xt (BitVec.ofNat 8 n) := by decide +kernel
theorem pk_mul (k : Nat) : mul (pk k) 3#8 = pk (k + 1) := by
  have := mul3_all _ (pk k).isLt
  rw [BitVec.ofNat_toNat, BitVec.setWidth_eq] at this
  exact this
/-- the reference's box while it fills -/
def pst : Nat → List (BitVec 8)
  | 0 => (List.replicate 256 0#8).set 0 99#8
  | k + 1 => (pst k).set (pk k).toNat ((rr (pk ((255 - k) % 255)) 4).2 ^^^ 99#8)
theorem length_pst (k : Nat) : (pst k).length = 256 := by
  induction k with
  | zero => exact (List.length_set ..).trans List.length_replicate
  | succ k ih => exact (List.length_set ..).trans ih
theorem pst_sb : pst 255 = (List.range 256).map sb := by decide +kernel
theorem gb_pst (i : Nat) (h : i < 256) : gb (pst 255) i = sb i := by
  rw [pst_sb]; simp [gb, h]
theorem byte_xor (x y : BitVec 32) (r : Nat) : byteOf (x ^^^ y) r = byteOf x r ^^^ byteOf y r := by
  unfold byteOf
  rw [BitVec.ushiftRight_xor_distrib, BitVec.setWidth_xor]
end Aes
end Go.Proofs.YtkjdejadambffaaDoor
