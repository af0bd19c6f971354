/-
  AES: the laws of the field, and the reference's product. No program in sight. Digests, plainly: what the reference's own way of reckoning comes to. No conditions.
-/
import Derived.Test.YtepogbfkmflooaaDoorAesPlain
import Derived.Test.YtepogbfkmflooaaDoorShaTab
namespace Go.Proofs.YtepogbfkmflooaaDoor
namespace Aes
/-- a property that holds of the single bits, and of sums, holds of all -/
theorem span {P : BitVec 8 → Prop} (h : ∀ i, i < 8 → P (1#8 <<< i)) (h0 : P 0#8) (hx : ∀ x y, P x → P y → P (x ^^^ y)) (a : BitVec 8) : P a := by
  have hb : ∀ i, i < 8 → P (a &&& (1#8 <<< i)) := by
    intro i hi
    have : ∀ a, a < 256 → ∀ i, i < 8 → (BitVec.ofNat 8 a &&& (1#8 <<< i) = 0#8 ∨ BitVec.ofNat 8 a &&& (1#8 <<< i) = 1#8 <<< i) := by decide +kernel
    rcases (by simpa using this a.toNat a.isLt i hi) with e | e
    · rw [e]; exact h0
    · rw [e]; exact h i hi
  have e : ∀ a, a < 256 → BitVec.ofNat 8 a = (BitVec.ofNat 8 a &&& (1#8 <<< 0)) ^^^ (BitVec.ofNat 8 a &&& (1#8 <<< 1)) ^^^ (BitVec.ofNat 8 a &&& (1#8 <<< 2)) ^^^ (BitVec.ofNat 8 a &&& (1#8 <<< 3)) ^^^ (BitVec.ofNat 8 a &&& (1#8 <<< 4)) ^^^ (BitVec.ofNat 8 a &&& (1#8 <<< 5)) ^^^ (BitVec.ofNat 8 a &&& (1#8 <<< 6)) ^^^ (BitVec.ofNat 8 a &&& (1#8 <<< 7)) := by decide +kernel
  have e' := e a.toNat a.isLt
  rw [BitVec.ofNat_toNat, BitVec.setWidth_eq] at e'
  rw [e']
  exact hx _ _ (hx _ _ (hx _ _ (hx _ _ (hx _ _ (hx _ _ (hx _ _ (hb 0 (by decide)) (hb 1 (by decide))) (hb 2 (by decide))) (hb 3 (by decide))) (hb 4 (by decide))) (hb 5 (by decide))) (hb 6 (by decide))) (hb 7 (by decide))
theorem xor4 {n : Nat} (a b c d : BitVec n) : (a ^^^ b) ^^^ (c ^^^ d) = (a ^^^ c) ^^^ (b ^^^ d) := by
  rw [BitVec.xor_assoc, BitVec.xor_assoc, ← BitVec.xor_assoc b, ← BitVec.xor_assoc c, BitVec.xor_comm b c]
theorem xt_bit : ∀ a, a < 256 → xt (BitVec.ofNat 8 a) = (BitVec.ofNat 8 a <<< 1) ^^^ (if BitVec.ofNat 8 a >>> 7 &&& 1#8 == 1#8 then 27#8 else 0#8) := by decide +kernel
theorem xt_eq (a : BitVec 8) : xt a = (a <<< 1) ^^^ (if a >>> 7 &&& 1#8 == 1#8 then 27#8 else 0#8) := by
  have := xt_bit a.toNat a.isLt
  rwa [BitVec.ofNat_toNat, BitVec.setWidth_eq] at this
/-- the low bit of a sum -/
theorem low_xor (a b : BitVec 8) : ((a ^^^ b) &&& 1#8 == 1#8) = ((a &&& 1#8 == 1#8) ^^ (b &&& 1#8 == 1#8)) := by
  have h : ∀ a, a < 256 → ((BitVec.ofNat 8 a &&& 1#8) = 0#8 ∨ (BitVec.ofNat 8 a &&& 1#8) = 1#8) := by decide +kernel
  have ha := h a.toNat a.isLt
  have hb := h b.toNat b.isLt
  rw [BitVec.ofNat_toNat, BitVec.setWidth_eq] at ha hb
  have e : (a ^^^ b) &&& 1#8 = (a &&& 1#8) ^^^ (b &&& 1#8) := by ext i hi; simp [Bool.and_xor_distrib_right]
  rw [e]
  rcases ha with ha | ha <;> rcases hb with hb | hb <;> rw [ha, hb] <;> rfl
theorem xt_xor (a b : BitVec 8) : xt (a ^^^ b) = xt a ^^^ xt b := by
  rw [xt_eq, xt_eq, xt_eq, BitVec.shiftLeft_xor_distrib, BitVec.ushiftRight_xor_distrib, low_xor, xor4]
  congr 1
  cases (a >>> 7 &&& 1#8 == 1#8) <;> cases (b >>> 7 &&& 1#8 == 1#8) <;> rfl
theorem gm_left (k : Nat) : ∀ a a' b o o', gm k (a ^^^ a') b (o ^^^ o') = gm k a b o ^^^ gm k a' b o' := by
  induction k with
  | zero => intros; rfl
  | succ k ih =>
    intro a a' b o o'
    simp only [gm, xt_xor]
    cases (b &&& 1#8 == 1#8)
    · exact ih _ _ _ _ _
    · simp only [if_true]
      rw [xor4]
      exact ih _ _ _ _ _
theorem gm_right (k : Nat) : ∀ a b b' o o', gm k a (b ^^^ b') (o ^^^ o') = gm k a b o ^^^ gm k a b' o' := by
  induction k with
  | zero => intros; rfl
  | succ k ih =>
    intro a b b' o o'
    simp only [gm, low_xor, BitVec.ushiftRight_xor_distrib]
    rw [← ih]
    congr 1
    cases (b &&& 1#8 == 1#8) <;> cases (b' &&& 1#8 == 1#8)
    · rfl
    · simp [BitVec.xor_assoc]
    · simp only [Bool.xor_false, if_true, Bool.false_eq_true, if_false]
      rw [BitVec.xor_assoc, BitVec.xor_assoc, BitVec.xor_comm a]
    · simp only [Bool.xor_true, Bool.not_true, if_true, Bool.false_eq_true, if_false]
      rw [xor4, BitVec.xor_self, BitVec.xor_zero]
theorem mul_left (a a' b : BitVec 8) : mul (a ^^^ a') b = mul a b ^^^ mul a' b := by
  unfold mul
  rw [← gm_left, BitVec.xor_zero]
theorem mul_right (a b b' : BitVec 8) : mul a (b ^^^ b') = mul a b ^^^ mul a b' := by
  unfold mul
  rw [← gm_right, BitVec.xor_zero]
theorem mul_zero_right (a : BitVec 8) : mul a 0#8 = 0#8 := gm_zero 8 a 0#8
theorem mul_zero_left (b : BitVec 8) : mul 0#8 b = 0#8 := by
  have h := mul_left 0#8 0#8 b
  rw [BitVec.xor_self, BitVec.xor_self] at h
  exact h
theorem mul_comm (a b : BitVec 8) : mul a b = mul b a := by
  refine span (P := fun a => mul a b = mul b a) ?_ (by rw [mul_zero_left, mul_zero_right]) (fun x y hx hy => by show mul _ _ = mul _ _; rw [mul_left, mul_right, hx, hy]) a
  intro i hi
  refine span (P := fun b => mul (1#8 <<< i) b = mul b (1#8 <<< i)) ?_ (by rw [mul_zero_left, mul_zero_right]) (fun x y hx hy => by show mul _ _ = mul _ _; rw [mul_left, mul_right, hx, hy]) b
  revert i
  decide +kernel
theorem mul_assoc (a b c : BitVec 8) : mul (mul a b) c = mul a (mul b c) := by
  refine span (P := fun a => mul (mul a b) c = mul a (mul b c)) ?_ (by simp only [mul_zero_left]) (fun x y hx hy => by show mul _ _ = mul _ _; simp only [mul_left, hx, hy]) a
  intro i hi
  refine span (P := fun b => mul (mul (1#8 <<< i) b) c = mul (1#8 <<< i) (mul b c)) ?_ (by simp only [mul_zero_left, mul_zero_right]) (fun x y hx hy => by show mul _ _ = mul _ _; simp only [mul_left, mul_right, hx, hy]) b
  intro j hj
  refine span (P := fun c => mul (mul (1#8 <<< i) (1#8 <<< j)) c = mul (1#8 <<< i) (mul (1#8 <<< j) c)) ?_ (by simp only [mul_zero_right]) (fun x y hx hy => by show mul _ _ = mul _ _; simp only [mul_right, hx, hy]) c
  revert i j
  decide +kernel
theorem mul_one_all : ∀ a, a < 256 → mul (BitVec.ofNat 8 a) 1#8 = BitVec.ofNat 8 a := by decide +kernel
theorem mul_one (a : BitVec 8) : mul a 1#8 = a := by
  have := mul_one_all a.toNat a.isLt
  rwa [BitVec.ofNat_toNat, BitVec.setWidth_eq] at this
/-! the reference's product is the same -/
/-! no divisors of nought -/
def inv (a : BitVec 8) : BitVec 8 :=
  let a2 := mul a a; let a3 := mul a2 a; let a6 := mul a3 a3; let a12 := mul a6 a6; let a15 := mul a12 a3
  let a30 := mul a15 a15; let a60 := mul a30 a30; let a120 := mul a60 a60; let a126 := mul a120 a6; let a127 := mul a126 a; mul a127 a127
end Aes
end Go.Proofs.YtepogbfkmflooaaDoor
namespace Go.Proofs.YtepogbfkmflooaaDoor
open Go.RowKit
set_option linter.unusedSimpArgs false
set_option linter.unusedVariables false
namespace Sha
theorem trn_lt (s : Bool) (i : Nat) : trn s i < 64 := by
  by_cases h : i < 12
  · revert h; revert i; cases s <;> decide +kernel
  · unfold trn; rw [List.getD_eq_getElem?_getD, List.getElem?_eq_none (by cases s <;> (show 12 ≤ i; omega))]; decide
theorem trn_le (i : Nat) : trn true i ≤ 32 := by
  by_cases h : i < 12
  · revert h; revert i; decide +kernel
  · unfold trn; rw [List.getD_eq_getElem?_getD, List.getElem?_eq_none (by show 12 ≤ i; omega)]; decide
theorem sub_ofNat (m n : Nat) (hn : n ≤ m) (hm : m ≤ 64) : (BitVec.ofNat 64 m - BitVec.ofNat 64 n).toNat = m - n := by
  rw [BitVec.toNat_sub, BitVec.toNat_ofNat, BitVec.toNat_ofNat]
  omega
theorem w_lo_k (s : Bool) (p : Nat → BitVec 8) (i k : Nat) (hi : i < 16) (hk : k = wb s) : w s p i = bw (fun j => p (wb s * i + j)) k := by
  subst hk
  rw [w_eq]; unfold wstep; rw [if_pos hi]
theorem w_hi (s : Bool) (p : Nat → BitVec 8) (i : Nat) (hi : ¬ i < 16) : w s p i = wd s (((th s (w s p (i - 2)) 3 true + w s p (i - 7)) + th s (w s p (i - 15)) 0 true) + w s p (i - 16)) := by
  conv => lhs; rw [w_eq]; unfold wstep; rw [if_neg hi]
theorem rnd_row (s : Bool) (p : Nat → BitVec 8) (h : Nat → BitVec 64) (i j : Nat) (hj : j < 8) (T U : BitVec 64) (hT : T = t1 s (K s i) (w s p i) (vs s p h i)) (hU : U = t2 s (vs s p h i)) :
    (if j < 1 then U64 (wd s (T + U)) else if j < 2 then U64 (vs s p h i 0) else if j < 3 then U64 (vs s p h i 1) else if j < 4 then U64 (vs s p h i 2)
     else if j < 5 then U64 (wd s (vs s p h i 3 + T)) else if j < 6 then U64 (vs s p h i 4) else if j < 7 then U64 (vs s p h i 5) else U64 (vs s p h i 6)) = U64 (vs s p h (i + 1) j) := by
  subst hT; subst hU
  have : j = 0 ∨ j = 1 ∨ j = 2 ∨ j = 3 ∨ j = 4 ∨ j = 5 ∨ j = 6 ∨ j = 7 := by omega
  rcases this with h | h | h | h | h | h | h | h <;> subst h <;> rfl
theorem gb_full_lo (kind : Nat) (m : List (BitVec 8)) (j : Nat) (h : j < m.length) : gb (full kind m) j = gb m j := by
  unfold full; rw [gb_append, if_pos h]
theorem gb_full_hi (kind : Nat) (m : List (BitVec 8)) (i : Nat) (h : i < padl kind m.length) : gb (full kind m) (m.length + i) = pb kind m.length i := by
  unfold full; rw [gb_append, if_neg (by omega), show m.length + i - m.length = i from by omega, gb_pad _ _ _ h]
theorem full_80 (kind : Nat) (m : List (BitVec 8)) (j : Nat) (hj : j = m.length) : 128#8 = gb (full kind m) j := by
  subst hj
  have := gb_full_hi kind m 0 (by have := (padl_le kind m.length).1; omega)
  rw [Nat.add_zero] at this
  rw [this]; rfl
theorem full_0 (kind : Nat) (m : List (BitVec 8)) (j : Nat) (h : m.length < j) (h2 : j < m.length + padl kind m.length - 8) : 0#8 = gb (full kind m) j := by
  have := gb_full_hi kind m (j - m.length) (by omega)
  rw [show m.length + (j - m.length) = j from by omega] at this
  rw [this]
  unfold pb
  rw [if_neg (by omega), if_pos (by omega)]
theorem full_n (kind : Nat) (m : List (BitVec 8)) (i j : Nat) (hi : i < 8) (hj : j = m.length + (padl kind m.length - 8 + i)) :
    ((BitVec.ofNat 64 m.length * 8#64) >>> (56 - 8 * i)).setWidth 8 = gb (full kind m) j := by
  subst hj
  have hp := (padl_le kind m.length).1
  rw [gb_full_hi kind m _ (by omega)]
  unfold pb
  rw [if_neg (by omega), if_neg (by omega), show padl kind m.length - 8 + i - (padl kind m.length - 8) = i from by omega, Oct.gb_be _ _ _ hi, show 8 * (8 - 1 - i) = 56 - 8 * i from by omega]
  congr 2
  apply BitVec.eq_of_toNat_eq
  rw [BitVec.toNat_mul, BitVec.toNat_ofNat, BitVec.toNat_ofNat, BitVec.toNat_ofNat]
  omega
/-! ### the cells of a rule -/
def rrow (c0 c1 c2 c3 c4 : Value) (bg : Nat → BitVec 64) (tr : Nat → Value) : Nat → Value := fun j =>
  if j < 1 then c0 else if j < 2 then c1 else if j < 3 then c2 else if j < 4 then c3 else if j < 5 then c4 else if j < 13 then U64 (bg (j - 5)) else tr (j - 13)
section
variable (c0 c1 c2 c3 c4 v : Value) (bg bg' : Nat → BitVec 64) (tr : Nat → Value)
theorem rr_a (h : ∀ i, i < 8 → bg i = bg' i) (j : Nat) : rrow c0 c1 c2 c3 c4 bg tr j = rrow c0 c1 c2 c3 c4 bg' tr j := by
  unfold rrow
  by_cases e : j < 13
  · by_cases e5 : j < 5
    · simp only [e5, if_true]
    · rw [if_neg (by omega), if_neg (by omega), if_neg (by omega), if_neg (by omega), if_neg e5, if_pos e, if_neg (by omega), if_neg (by omega), if_neg (by omega), if_neg (by omega), if_neg e5, if_pos e, h _ (by omega)]
  · simp only [e, if_false]
theorem rr_k (j : Nat) : (if j = 4 then v else rrow c0 c1 c2 c3 c4 bg tr j) = rrow c0 c1 c2 c3 v bg tr j := by
  by_cases e : j = 4
  · subst e; rfl
  · rw [if_neg e]
    unfold rrow
    by_cases e4 : j < 4
    · simp only [e4, if_true]
    · by_cases e5 : j < 5
      · omega
      · simp only [e5, if_false]
theorem rr_g (i : Nat) (x : BitVec 64) (hi : i < 8) (h : ∀ k, k < 8 → (if k = i then x else bg k) = bg' k) (j : Nat) : (if j = 5 + i then U64 x else rrow c0 c1 c2 c3 c4 bg tr j) = rrow c0 c1 c2 c3 c4 bg' tr j := by
  by_cases e : j = 5 + i
  · subst e
    rw [if_pos rfl]
    unfold rrow
    rw [if_neg (by omega), if_neg (by omega), if_neg (by omega), if_neg (by omega), if_neg (by omega), if_pos (by omega), show 5 + i - 5 = i from by omega, ← h i hi, if_pos rfl]
  · rw [if_neg e]
    unfold rrow
    by_cases e13 : j < 13
    · by_cases e5 : j < 5
      · simp only [e5, if_true]
      · rw [if_neg (by omega), if_neg (by omega), if_neg (by omega), if_neg (by omega), if_neg e5, if_pos e13, if_neg (by omega), if_neg (by omega), if_neg (by omega), if_neg (by omega), if_neg e5, if_pos e13, ← h _ (by omega), if_neg (by omega)]
    · simp only [e13, if_false]
theorem rr_b (h : ∀ i, i < 8 → bg i = bg' i) (j : Nat) : (if j = 4 then v else rrow c0 c1 c2 c3 c4 bg tr j) = rrow c0 c1 c2 c3 v bg' tr j := (rr_k c0 c1 c2 c3 c4 v bg tr j).trans (rr_a c0 c1 c2 c3 v bg bg' tr h j)
theorem rr_d (i : Nat) (x : BitVec 64) (hi : i < 8) (h : ∀ k, k < 8 → (if k = i then x else bg k) = bg' k) (j : Nat) : (if j = 5 + i then U64 x else if j = 4 then v else rrow c0 c1 c2 c3 c4 bg tr j) = rrow c0 c1 c2 c3 v bg' tr j := by
  rw [rr_k]; exact rr_g c0 c1 c2 c3 v bg bg' tr i x hi h j
end
end Sha
end Go.Proofs.YtepogbfkmflooaaDoor
