/-
  AES: the laws of the field, and the reference's product. No program in sight.
-/
import Derived.Test.YtkjdejadambffaaDoorAesPlain
namespace Go.Proofs.YtkjdejadambffaaDoor
namespace Aes
/-- the reference's product: bit by bit .. -/
def rm1 (a b : BitVec 8) : Nat → Nat
  | 0 => 0
  | i + 1 => if (b >>> i &&& 1#8 == 1#8) then rm1 a b i ^^^ (a.toNat * 2 ^ i) else rm1 a b i
/-- .. then what stands above is taken away: k steps, from bit 14 on -/
def rm2 (p : Nat) : Nat → Nat
  | 0 => p
  | k + 1 => if rm2 p k / 2 ^ (14 - k) % 2 = 1 then rm2 p k ^^^ (283 * 2 ^ (6 - k)) else rm2 p k
def rmul (a b : BitVec 8) : BitVec 8 := BitVec.ofNat 8 (rm2 (rm1 a b 8) 7)

/-- a property that holds of the single bits, and of sums, holds of all -/
theorem span {P : BitVec 8 → Prop} (h : ∀ i, i < 8 → P (1#8 <<< i)) (h0 : P 0#8) (hx : ∀ x y, P x → P y → P (x ^^^ y)) (a : BitVec 8) : P a := by
  have hb : ∀ i, i < 8 → P (a &&& (1#8 <<< i)) := by
    intro i hi
    have : ∀ a, a < 256 → ∀ i, i < 8 → (BitVec.ofNat 8 a &&& (1#8 <<< i) = 0#8 ∨ BitVec.ofNat 8 a &&& (1#8 <<< i) = 1#8 <<< i) := by decide +kernel
    rcases (by simpa using this a.toNat a.isLt i hi) with e | e
    · rw [e]; exact h0
    · rw [e]; exact h i hi
  have e : ∀ a, a < 256 → BitVec.ofNat 8 a = (BitVec.ofNat 8 a &&& (1#8 <<< 0)) ^^^ (BitVec.ofNat 8 a &&& (1#8 <<< 1)) ^^^ (BitVec.ofNat 8 a &&& (1#8 <<< 2)) ^^^ (BitVec.ofNat 8 a &&& (1#8 <<< 3)) ^^^ (BitVec.ofNat 8 a &&& (1#8 <<< 4)) ^^^ (BitVec.ofNat 8 a &&& (1#8 <<< 5)) ^^^ (BitVec.ofNat 8 a &&& (1#8 <<< 6)) ^^^ (BitVec.ofNat 8 a &&& (1#8 <<< 7)) := by decide +kernel
  have e' := e a.toNat a.isLt
  rw [BitVec.ofNat_toNat, BitVec.setWidth_eq] at e'
  rw [e']
  exact hx _ _ (hx _ _ (hx _ _ (hx _ _ (hx _ _ (hx _ _ (hx _ _ (hb 0 (by decide)) (hb 1 (by decide))) (hb 2 (by decide))) (hb 3 (by decide))) (hb 4 (by decide))) (hb 5 (by decide))) (hb 6 (by decide))) (hb 7 (by decide))
theorem xor4 {n : Nat} (a b c d : BitVec n) : (a ^^^ b) ^^^ (c ^^^ d) = (a ^^^ c) ^^^ (b ^^^ d) := by
  rw [BitVec.xor_assoc, BitVec.xor_assoc, ← BitVec.xor_assoc b, ← BitVec.xor_assoc c, BitVec.xor_comm b c]
theorem xt_bit : ∀ a, a < 256 → xt (BitVec.ofNat 8 a) = (BitVec.ofNat 8 a <<< 1) ^^^ (if BitVec.ofNat 8 a >>> 7 &&& 1#8 == 1#8 then 27#8 else 0#8) := by decide +kernel
theorem xt_eq (a : BitVec 8) : xt a = (a <<< 1) ^^^ (if a >>> 7 &&& 1#8 == 1#8 then 27#8 else 0#8) := by
  have := xt_bit a.toNat a.isLt
  rwa [BitVec.ofNat_toNat, BitVec.setWidth_eq] at this
/-- the low bit of a sum -/
theorem low_xor (a b : BitVec 8) : ((a ^^^ b) &&& 1#8 == 1#8) = ((a &&& 1#8 == 1#8) ^^ (b &&& 1#8 == 1#8)) := by
  have h : ∀ a, a < 256 → ((BitVec.ofNat 8 a &&& 1#8) = 0#8 ∨ (BitVec.ofNat 8 a &&& 1#8) = 1#8) := by decide +kernel
  have ha := h a.toNat a.isLt
  have hb := h b.toNat b.isLt
  rw [BitVec.ofNat_toNat, BitVec.setWidth_eq] at ha hb
  have e : (a ^^^ b) &&& 1#8 = (a &&& 1#8) ^^^ (b &&& 1#8) := by ext i hi; simp [Bool.and_xor_distrib_right]
  rw [e]
  rcases ha with ha | ha <;> rcases hb with hb | hb <;> rw [ha, hb] <;> rfl
theorem xt_xor (a b : BitVec 8) : xt (a ^^^ b) = xt a ^^^ xt b := by
  rw [xt_eq, xt_eq, xt_eq, BitVec.shiftLeft_xor_distrib, BitVec.ushiftRight_xor_distrib, low_xor, xor4]
  congr 1
  cases (a >>> 7 &&& 1#8 == 1#8) <;> cases (b >>> 7 &&& 1#8 == 1#8) <;> rfl
theorem gm_left (k : Nat) : ∀ a a' b o o', gm k (a ^^^ a') b (o ^^^ o') = gm k a b o ^^^ gm k a' b o' := by
  induction k with
  | zero => intros; rfl
  | succ k ih =>
    intro a a' b o o'
    simp only [gm, xt_xor]
    cases (b &&& 1#8 == 1#8)
    · exact ih _ _ _ _ _
    · simp only [if_true]
      rw [xor4]
      exact ih _ _ _ _ _
theorem gm_right (k : Nat) : ∀ a b b' o o', gm k a (b ^^^ b') (o ^^^ o') = gm k a b o ^^^ gm k a b' o' := by
  induction k with
  | zero => intros; rfl
  | succ k ih =>
    intro a b b' o o'
    simp only [gm, low_xor, BitVec.ushiftRight_xor_distrib]
    rw [← ih]
    congr 1
    cases (b &&& 1#8 == 1#8) <;> cases (b' &&& 1#8 == 1#8)
    · rfl
    · simp [BitVec.xor_assoc]
    · simp only [Bool.xor_false, if_true, Bool.false_eq_true, if_false]
      rw [BitVec.xor_assoc, BitVec.xor_assoc, BitVec.xor_comm a]
    · simp only [Bool.xor_true, Bool.not_true, if_true, Bool.false_eq_true, if_false]
      rw [xor4, BitVec.xor_self, BitVec.xor_zero]
theorem mul_left (a a' b : BitVec 8) : mul (a ^^^ a') b = mul a b ^^^ mul a' b := by
  unfold mul
  rw [← gm_left, BitVec.xor_zero]
theorem mul_right (a b b' : BitVec 8) : mul a (b ^^^ b') = mul a b ^^^ mul a b' := by
  unfold mul
  rw [← gm_right, BitVec.xor_zero]
theorem mul_zero_right (a : BitVec 8) : mul a 0#8 = 0#8 := gm_zero 8 a 0#8
theorem mul_zero_left (b : BitVec 8) : mul 0#8 b = 0#8 := by
  have h := mul_left 0#8 0#8 b
  rw [BitVec.xor_self, BitVec.xor_self] at h
  exact h
theorem mul_comm (a b : BitVec 8) : mul a b = mul b a := by
  refine span (P := fun a => mul a b = mul b a) ?_ (by rw [mul_zero_left, mul_zero_right]) (fun x y hx hy => by show mul _ _ = mul _ _; rw [mul_left, mul_right, hx, hy]) a
  intro i hi
  refine span (P := fun b => mul (1#8 <<< i) b = mul b (1#8 <<< i)) ?_ (by rw [mul_zero_left, mul_zero_right]) (fun x y hx hy => by show mul _ _ = mul _ _; rw [mul_left, mul_right, hx, hy]) b
  revert i
  decide +kernel
theorem mul_assoc (a b c : BitVec 8) : mul (mul a b) c = mul a (mul b c) := by
  refine span (P := fun a => mul (mul a b) c = mul a (mul b c)) ?_ (by simp only [mul_zero_left]) (fun x y hx hy => by show mul _ _ = mul _ _; simp only [mul_left, hx, hy]) a
  intro i hi
  refine span (P := fun b => mul (mul (1#8 <<< i) b) c = mul (1#8 <<< i) (mul b c)) ?_ (by simp only [mul_zero_left, mul_zero_right]) (fun x y hx hy => by show mul _ _ = mul _ _; simp only [mul_left, mul_right, hx, hy]) b
  intro j hj
  refine span (P := fun c => mul (mul (1#8 <<< i) (1#8 <<< j)) c = mul (1#8 <<< i) (mul (1#8 <<< j) c)) ?_ (by simp only [mul_zero_right]) (fun x y hx hy => by show mul _ _ = mul _ _; simp only [mul_right, hx, hy]) c
  revert i j
  decide +kernel
theorem mul_one_all : ∀ a, a < 256 → mul (BitVec.ofNat 8 a) 1#8 = BitVec.ofNat 8 a := by decide +kernel
theorem mul_one (a : BitVec 8) : mul a 1#8 = a := by
  have := mul_one_all a.toNat a.isLt
  rwa [BitVec.ofNat_toNat, BitVec.setWidth_eq] at this
/-! the reference's product is the same -/
theorem rm1_left (a a' b : BitVec 8) : ∀ i, rm1 (a ^^^ a') b i = rm1 a b i ^^^ rm1 a' b i := by
  intro i
  induction i with
  | zero => exact (Nat.xor_self 0).symm
  | succ i ih =>
    simp only [rm1, ih]
    cases (b >>> i &&& 1#8 == 1#8)
    · rfl
    · simp only [if_true]
      rw [BitVec.toNat_xor, ← Nat.shiftLeft_eq, ← Nat.shiftLeft_eq, ← Nat.shiftLeft_eq, Nat.shiftLeft_xor_distrib]
      ac_rfl
theorem rm2_xor (p q : Nat) : ∀ k, rm2 (p ^^^ q) k = rm2 p k ^^^ rm2 q k := by
  intro k
  induction k with
  | zero => rfl
  | succ k ih =>
    have hb : ∀ x : Nat, (x / 2 ^ (14 - k) % 2 = 1) = (x.testBit (14 - k) = true) := fun x => by rw [Nat.testBit_eq_decide_div_mod_eq]; simp
    simp only [rm2, ih, hb, Nat.testBit_xor]
    cases (rm2 p k).testBit (14 - k) <;> cases (rm2 q k).testBit (14 - k)
    · rfl
    · simp only [Bool.false_xor, if_true, Bool.false_eq_true, if_false]; ac_rfl
    · simp only [Bool.xor_false, if_true, Bool.false_eq_true, if_false]; ac_rfl
    · simp only [Bool.xor_true, Bool.not_true, if_true, Bool.false_eq_true, if_false]
      have : 283 * 2 ^ (6 - k) ^^^ 283 * 2 ^ (6 - k) = 0 := Nat.xor_self _
      rw [show (rm2 p k ^^^ 283 * 2 ^ (6 - k)) ^^^ (rm2 q k ^^^ 283 * 2 ^ (6 - k)) = (rm2 p k ^^^ rm2 q k) ^^^ (283 * 2 ^ (6 - k) ^^^ 283 * 2 ^ (6 - k)) from by ac_rfl, this, Nat.xor_zero]
theorem rmul_left (a a' b : BitVec 8) : rmul (a ^^^ a') b = rmul a b ^^^ rmul a' b := by
  unfold rmul
  rw [rm1_left, rm2_xor]
  apply BitVec.eq_of_toNat_eq
  simp only [BitVec.toNat_ofNat, BitVec.toNat_xor]
  exact Nat.xor_mod_two_pow
theorem rmul_base : ∀ i, i < 8 → ∀ b, b < 256 → rmul (1#8 <<< i) (BitVec.ofNat 8 b) = mul (1#8 <<< i) (BitVec.ofNat 8 b) := by decide +kernel
theorem rmul_eq (a b : BitVec 8) : rmul a b = mul a b := by
  refine span (P := fun a => rmul a b = mul a b) ?_ ?_ (fun x y hx hy => by show rmul _ _ = mul _ _; rw [rmul_left, mul_left, hx, hy]) a
  · intro i hi
    have := rmul_base i hi b.toNat b.isLt
    rwa [BitVec.ofNat_toNat, BitVec.setWidth_eq] at this
  · have h := rmul_left 0#8 0#8 b
    rw [BitVec.xor_self, BitVec.xor_self] at h
    rw [mul_zero_left]; exact h
/-! no divisors of nought -/
def inv (a : BitVec 8) : BitVec 8 :=
  let a2 := mul a a; let a3 := mul a2 a; let a6 := mul a3 a3; let a12 := mul a6 a6; let a15 := mul a12 a3
  let a30 := mul a15 a15; let a60 := mul a30 a30; let a120 := mul a60 a60; let a126 := mul a120 a6; let a127 := mul a126 a; mul a127 a127
theorem inv_all : ∀ a, a < 256 → a ≠ 0 → mul (BitVec.ofNat 8 a) (inv (BitVec.ofNat 8 a)) = 1#8 := by decide +kernel
theorem mul_inv (a : BitVec 8) (h : a ≠ 0#8) : mul a (inv a) = 1#8 := by
  have := inv_all a.toNat a.isLt (fun e => h (BitVec.eq_of_toNat_eq e))
  rwa [BitVec.ofNat_toNat, BitVec.setWidth_eq] at this
theorem mul_ne (a b : BitVec 8) (ha : a ≠ 0#8) (hb : b ≠ 0#8) : mul a b ≠ 0#8 := by
  intro h
  have h2 : mul (mul a b) (inv b) = a := by rw [mul_assoc, mul_inv b hb, mul_one]
  rw [h, mul_zero_left] at h2
  exact ha h2.symm
end Aes
end Go.Proofs.YtkjdejadambffaaDoor
