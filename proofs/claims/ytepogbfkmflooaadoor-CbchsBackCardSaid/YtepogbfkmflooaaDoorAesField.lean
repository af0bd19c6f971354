/-
  AES: the laws of the field, and the reference's product. No program in sight.
-/
import Derived.Test.YtepogbfkmflooaaDoorAesPlain
namespace Go.Proofs.YtepogbfkmflooaaDoor
namespace Aes
/-- a property that holds of the single bits, and of sums, holds of all -/
theorem span {P : BitVec 8 → Prop} (h : ∀ i, i < 8 → P (1#8 <<< i)) (h0 : P 0#8) (hx : ∀ x y, P x → P y → P (x ^^^ y)) (a : BitVec 8) : P a := by
  have hb : ∀ i, i < 8 → P (a &&& (1#8 <<< i)) := by
    intro i hi
    have : ∀ a, a < 256 → ∀ i, i < 8 → (BitVec.ofNat 8 a &&& (1#8 <<< i) = 0#8 ∨ BitVec.ofNat 8 a &&& (1#8 <<< i) = 1#8 <<< i) := by decide +kernel
    rcases (by simpa using this a.toNat a.isLt i hi) with e | e
    · rw [e]; exact h0
    · rw [e]; exact h i hi
  have e : ∀ a, a < 256 → BitVec.ofNat 8 a = (BitVec.ofNat 8 a &&& (1#8 <<< 0)) ^^^ (BitVec.ofNat 8 a &&& (1#8 <<< 1)) ^^^ (BitVec.ofNat 8 a &&& (1#8 <<< 2)) ^^^ (BitVec.ofNat 8 a &&& (1#8 <<< 3)) ^^^ (BitVec.ofNat 8 a &&& (1#8 <<< 4)) ^^^ (BitVec.ofNat 8 a &&& (1#8 <<< 5)) ^^^ (BitVec.ofNat 8 a &&& (1#8 <<< 6)) ^^^ (BitVec.ofNat 8 a &&& (1#8 <<< 7)) := by decide +kernel
  have e' := e a.toNat a.isLt
  rw [BitVec.ofNat_toNat, BitVec.setWidth_eq] at e'
  rw [e']
  exact hx _ _ (hx _ _ (hx _ _ (hx _ _ (hx _ _ (hx _ _ (hx _ _ (hb 0 (by decide)) (hb 1 (by decide))) (hb 2 (by decide))) (hb 3 (by decide))) (hb 4 (by decide))) (hb 5 (by decide))) (hb 6 (by decide))) (hb 7 (by decide))
theorem xor4 {n : Nat} (a b c d : BitVec n) : (a ^^^ b) ^^^ (c ^^^ d) = (a ^^^ c) ^^^ (b ^^^ d) := by
  rw [BitVec.xor_assoc, BitVec.xor_assoc, ← BitVec.xor_assoc b, ← BitVec.xor_assoc c, BitVec.xor_comm b c]
theorem xt_bit : ∀ a, a < 256 → xt (BitVec.ofNat 8 a) = (BitVec.ofNat 8 a <<< 1) ^^^ (if BitVec.ofNat 8 a >>> 7 &&& 1#8 == 1#8 then 27#8 else 0#8) := by decide +kernel
theorem xt_eq (a : BitVec 8) : xt a = (a <<< 1) ^^^ (if a >>> 7 &&& 1#8 == 1#8 then 27#8 else 0#8) := by
  have := xt_bit a.toNat a.isLt
  rwa [BitVec.ofNat_toNat, BitVec.setWidth_eq] at this
/-- the low bit of a sum -/
theorem low_xor (a b : BitVec 8) : ((a ^^^ b) &&& 1#8 == 1#8) = ((a &&& 1#8 == 1#8) ^^ (b &&& 1#8 == 1#8)) := by
  have h : ∀ a, a < 256 → ((BitVec.ofNat 8 a &&& 1#8) = 0#8 ∨ (BitVec.ofNat 8 a &&& 1#8) = 1#8) := by decide +kernel
  have ha := h a.toNat a.isLt
  have hb := h b.toNat b.isLt
  rw [BitVec.ofNat_toNat, BitVec.setWidth_eq] at ha hb
  have e : (a ^^^ b) &&& 1#8 = (a &&& 1#8) ^^^ (b &&& 1#8) := by ext i hi; simp [Bool.and_xor_distrib_right]
  rw [e]
  rcases ha with ha | ha <;> rcases hb with hb | hb <;> rw [ha, hb] <;> rfl
theorem xt_xor (a b : BitVec 8) : xt (a ^^^ b) = xt a ^^^ xt b := by
  rw [xt_eq, xt_eq, xt_eq, BitVec.shiftLeft_xor_distrib, BitVec.ushiftRight_xor_distrib, low_xor, xor4]
  congr 1
  cases (a >>> 7 &&& 1#8 == 1#8) <;> cases (b >>> 7 &&& 1#8 == 1#8) <;> rfl
theorem gm_left (k : Nat) : ∀ a a' b o o', gm k (a ^^^ a') b (o ^^^ o') = gm k a b o ^^^ gm k a' b o' := by
  induction k with
  | zero => intros; rfl
  | succ k ih =>
    intro a a' b o o'
    simp only [gm, xt_xor]
    cases (b &&& 1#8 == 1#8)
    · exact ih _ _ _ _ _
    · simp only [if_true]
      rw [xor4]
      exact ih _ _ _ _ _
theorem gm_right (k : Nat) : ∀ a b b' o o', gm k a (b ^^^ b') (o ^^^ o') = gm k a b o ^^^ gm k a b' o' := by
  induction k with
  | zero => intros; rfl
  | succ k ih =>
    intro a b b' o o'
    simp only [gm, low_xor, BitVec.ushiftRight_xor_distrib]
    rw [← ih]
    congr 1
    cases (b &&& 1#8 == 1#8) <;> cases (b' &&& 1#8 == 1#8)
    · rfl
    · simp [BitVec.xor_assoc]
    · simp only [Bool.xor_false, if_true, Bool.false_eq_true, if_false]
      rw [BitVec.xor_assoc, BitVec.xor_assoc, BitVec.xor_comm a]
    · simp only [Bool.xor_true, Bool.not_true, if_true, Bool.false_eq_true, if_false]
      rw [xor4, BitVec.xor_self, BitVec.xor_zero]
theorem mul_left (a a' b : BitVec 8) : mul (a ^^^ a') b = mul a b ^^^ mul a' b := by
  unfold mul
  rw [← gm_left, BitVec.xor_zero]
theorem mul_right (a b b' : BitVec 8) : mul a (b ^^^ b') = mul a b ^^^ mul a b' := by
  unfold mul
  rw [← gm_right, BitVec.xor_zero]
theorem mul_zero_right (a : BitVec 8) : mul a 0#8 = 0#8 := gm_zero 8 a 0#8
theorem mul_zero_left (b : BitVec 8) : mul 0#8 b = 0#8 := by
  have h := mul_left 0#8 0#8 b
  rw [BitVec.xor_self, BitVec.xor_self] at h
  exact h
theorem mul_comm (a b : BitVec 8) : mul a b = mul b a := by
  refine span (P := fun a => mul a b = mul b a) ?_ (by rw [mul_zero_left, mul_zero_right]) (fun x y hx hy => by show mul _ _ = mul _ _; rw [mul_left, mul_right, hx, hy]) a
  intro i hi
  refine span (P := fun b => mul (1#8 <<< i) b = mul b (1#8 <<< i)) ?_ (by rw [mul_zero_left, mul_zero_right]) (fun x y hx hy => by show mul _ _ = mul _ _; rw [mul_left, mul_right, hx, hy]) b
  revert i
  decide +kernel
theorem mul_one_all : ∀ a, a < 256 → mul (BitVec.ofNat 8 a) 1#8 = BitVec.ofNat 8 a := by decide +kernel
theorem mul_one (a : BitVec 8) : mul a 1#8 = a := by
  have := mul_one_all a.toNat a.isLt
  rwa [BitVec.ofNat_toNat, BitVec.setWidth_eq] at this
/-! the reference's product is the same -/
/-! no divisors of nought -/
def inv (a : BitVec 8) : BitVec 8 :=
  let a2 := mul a a; let a3 := mul a2 a; let a6 := mul a3 a3; let a12 := mul a6 a6; let a15 := mul a12 a3
  let a30 := mul a15 a15; let a60 := mul a30 a30; let a120 := mul a60 a60; let a126 := mul a120 a6; let a127 := mul a126 a; mul a127 a127
end Aes
end Go.Proofs.YtepogbfkmflooaaDoor
