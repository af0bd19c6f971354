/-
  Numbers of four words, their products, and roots, plainly. No conditions.
-/
import Derived.Test.YtdmbfimjbmfbaaaGreatDoorAesLeaf
namespace Go.Proofs.YtdmbfimjbmfbaaaGreatDoor
open Go.RowKit
set_option linter.unusedSimpArgs false
set_option linter.unusedVariables false
namespace Sha
def wn (X i : Nat) : BitVec 64 := BitVec.ofNat 64 (X / 2 ^ (64 * i))
def hf (X i : Nat) : Nat := X / 2 ^ (32 * i) % 2 ^ 32
theorem hf_lt (X i : Nat) : hf X i < 2 ^ 32 := Nat.mod_lt _ (by decide)
theorem div_pow (X a b : Nat) : X / 2 ^ a / 2 ^ b = X / 2 ^ (a + b) := by rw [Nat.div_div_eq_div_mul, Nat.pow_add]
theorem half_hi (X i m : Nat) (h : i = 2 * m + 1) : wn X m >>> 32 = BitVec.ofNat 64 (hf X i) := by
  subst h
  apply BitVec.eq_of_toNat_eq
  unfold wn hf
  rw [BitVec.toNat_ushiftRight, BitVec.toNat_ofNat, BitVec.toNat_ofNat, Nat.shiftRight_eq_div_pow, show 32 * (2 * m + 1) = 64 * m + 32 from by omega, ← div_pow]
  omega
theorem half_lo (X i m : Nat) (h : i = 2 * m) : wn X m % 4294967296#64 = BitVec.ofNat 64 (hf X i) := by
  subst h
  apply BitVec.eq_of_toNat_eq
  unfold wn hf
  rw [BitVec.toNat_umod, show (4294967296#64 : BitVec 64).toNat = 4294967296 from rfl, BitVec.toNat_ofNat, BitVec.toNat_ofNat, show 32 * (2 * m) = 64 * m from by omega]
  omega
def s8 (o : Nat → Nat) : Nat := o 0 + o 1 * 2 ^ 32 + o 2 * 2 ^ 64 + o 3 * 2 ^ 96 + o 4 * 2 ^ 128 + o 5 * 2 ^ 160 + o 6 * 2 ^ 192 + o 7 * 2 ^ 224
theorem s8_up (o : Nat → Nat) (t v : Nat) (ht : t < 8) : s8 (fun j => if j = t then v else o j) + o t * 2 ^ (32 * t) = s8 o + v * 2 ^ (32 * t) := by
  have : t = 0 ∨ t = 1 ∨ t = 2 ∨ t = 3 ∨ t = 4 ∨ t = 5 ∨ t = 6 ∨ t = 7 := by omega
  rcases this with h | h | h | h | h | h | h | h <;> subst h <;> simp [s8] <;> omega
theorem s8_lt (o : Nat → Nat) (h : ∀ j, j < 8 → o j < 2 ^ 32) : s8 o < 2 ^ 256 := by
  have h0 := h 0 (by omega); have h1 := h 1 (by omega); have h2 := h 2 (by omega); have h3 := h 3 (by omega)
  have h4 := h 4 (by omega); have h5 := h 5 (by omega); have h6 := h 6 (by omega); have h7 := h 7 (by omega)
  unfold s8; omega
theorem mod_next (B k : Nat) : B % 2 ^ (32 * (k + 1)) = B % 2 ^ (32 * k) + 2 ^ (32 * k) * hf B k := by
  unfold hf
  rw [show 32 * (k + 1) = 32 * k + 32 from by omega, Nat.pow_add, Nat.mod_mul]
theorem x_lt (a b o c : Nat) (ha : a < 2 ^ 32) (hb : b < 2 ^ 32) (ho : o < 2 ^ 32) (hc : c < 2 ^ 32) : a * b + o + c < 2 ^ 64 := by
  have h : a * b ≤ 4294967295 * 4294967295 := Nat.mul_le_mul (by omega) (by omega)
  omega
theorem mul4 (a P Q b : Nat) : a * P * (Q * b) = a * b * (P * Q) := by ac_rfl
theorem tm_step (A B i k c : Nat) (o : Nat → Nat) (hik : i + k < 8) (h : (s8 o + c * 2 ^ (32 * (i + k))) % 2 ^ 256 = (A % 2 ^ (32 * i) * B + hf A i * 2 ^ (32 * i) * (B % 2 ^ (32 * k))) % 2 ^ 256) :
    (s8 (fun j => if j = i + k then (hf A i * hf B k + o (i + k) + c) % 2 ^ 32 else o j) + (hf A i * hf B k + o (i + k) + c) / 2 ^ 32 * 2 ^ (32 * (i + (k + 1)))) % 2 ^ 256
      = (A % 2 ^ (32 * i) * B + hf A i * 2 ^ (32 * i) * (B % 2 ^ (32 * (k + 1)))) % 2 ^ 256 := by
  generalize hx : hf A i * hf B k + o (i + k) + c = x
  have hu := s8_up o (i + k) (x % 2 ^ 32) hik
  have hE : 2 ^ (32 * (i + (k + 1))) = 2 ^ 32 * 2 ^ (32 * (i + k)) := by rw [← Nat.pow_add, show 32 * (i + (k + 1)) = 32 + 32 * (i + k) from by omega]
  have hE2 : 2 ^ (32 * i) * 2 ^ (32 * k) = 2 ^ (32 * (i + k)) := by rw [← Nat.pow_add, show 32 * i + 32 * k = 32 * (i + k) from by omega]
  have hR : hf A i * 2 ^ (32 * i) * (B % 2 ^ (32 * (k + 1))) = hf A i * 2 ^ (32 * i) * (B % 2 ^ (32 * k)) + hf A i * hf B k * 2 ^ (32 * (i + k)) := by
    rw [mod_next, Nat.mul_add, mul4, hE2]
  rw [hR, hE]
  generalize 2 ^ (32 * (i + k)) = E at *
  have hX : x / 2 ^ 32 * (2 ^ 32 * E) + x % 2 ^ 32 * E = hf A i * hf B k * E + o (i + k) * E + c * E := by
    rw [← Nat.mul_assoc, ← Nat.add_mul, ← Nat.add_mul, ← Nat.add_mul, hx, Nat.mul_comm (x / 2 ^ 32)]
    rw [Nat.div_add_mod]
  have hL : s8 (fun j => if j = i + k then x % 2 ^ 32 else o j) + x / 2 ^ 32 * (2 ^ 32 * E) = (s8 o + c * E) + hf A i * hf B k * E := by omega
  rw [hL, ← Nat.add_assoc, Nat.add_mod, h, ← Nat.add_mod]
theorem tm_row (A B i k c : Nat) (o : Nat → Nat) (hik : i + k = 8) (ho : ∀ j, j < 8 → o j < 2 ^ 32) (h : (s8 o + c * 2 ^ (32 * (i + k))) % 2 ^ 256 = (A % 2 ^ (32 * i) * B + hf A i * 2 ^ (32 * i) * (B % 2 ^ (32 * k))) % 2 ^ 256) :
    s8 o = A % 2 ^ (32 * (i + 1)) * B % 2 ^ 256 := by
  have hlt := s8_lt o ho
  rw [hik, show 32 * 8 = 256 from rfl, Nat.add_mul_mod_self_right, Nat.mod_eq_of_lt hlt] at h
  rw [h, mod_next, Nat.add_mul]
  have hB : hf A i * 2 ^ (32 * i) * B = hf A i * 2 ^ (32 * i) * (B % 2 ^ (32 * k)) + hf A i * (B / 2 ^ (32 * k)) * 2 ^ 256 := by
    conv => lhs; rw [← Nat.div_add_mod B (2 ^ (32 * k))]
    have hE2 : 2 ^ (32 * i) * 2 ^ (32 * k) = 2 ^ 256 := by rw [← Nat.pow_add, show 32 * i + 32 * k = 256 from by omega]
    rw [Nat.mul_add, mul4, hE2, Nat.add_comm]
  rw [show 2 ^ (32 * i) * hf A i = hf A i * 2 ^ (32 * i) from Nat.mul_comm _ _, hB, ← Nat.add_assoc, Nat.add_mul_mod_self_right]
theorem tm_first (A B i : Nat) (o : Nat → Nat) (h : s8 o = A % 2 ^ (32 * i) * B % 2 ^ 256) : (s8 o + 0 * 2 ^ (32 * (i + 0))) % 2 ^ 256 = (A % 2 ^ (32 * i) * B + hf A i * 2 ^ (32 * i) * (B % 2 ^ (32 * 0))) % 2 ^ 256 := by
  rw [h, Nat.zero_mul, Nat.add_zero, Nat.mod_mod, show B % 2 ^ (32 * 0) = 0 from by simp [Nat.mod_one], Nat.mul_zero, Nat.add_zero]
theorem tm_word (A B i : Nat) (o : Nat → Nat) (hi : i < 4) (hA : A < 2 ^ 256) (ho : ∀ j, j < 8 → o j < 2 ^ 32) (h : s8 o = A % 2 ^ (32 * 8) * B % 2 ^ 256) : BitVec.ofNat 64 (o (2 * i)) + BitVec.ofNat 64 (o (2 * i + 1)) <<< 32 = wn (A * B) i := by
  rw [show 32 * 8 = 256 from rfl, Nat.mod_eq_of_lt hA] at h
  have h0 := ho 0 (by omega); have h1 := ho 1 (by omega); have h2 := ho 2 (by omega); have h3 := ho 3 (by omega)
  have h4 := ho 4 (by omega); have h5 := ho 5 (by omega); have h6 := ho 6 (by omega); have h7 := ho 7 (by omega)
  generalize A * B = X at h
  unfold s8 at h
  unfold wn
  apply BitVec.eq_of_toNat_eq
  rw [BitVec.toNat_add, BitVec.toNat_shiftLeft, BitVec.toNat_ofNat, BitVec.toNat_ofNat, BitVec.toNat_ofNat, Nat.shiftLeft_eq]
  have : i = 0 ∨ i = 1 ∨ i = 2 ∨ i = 3 := by omega
  rcases this with e | e | e | e <;> subst e <;> simp only [Nat.mul_zero, Nat.mul_one, Nat.zero_add, Nat.reduceMul, Nat.reduceAdd] <;> omega
theorem prod_word (a b o c : Nat) (h : a * b + o + c < 2 ^ 64) : (BitVec.ofNat 64 a * BitVec.ofNat 64 b + BitVec.ofNat 64 o) + BitVec.ofNat 64 c = BitVec.ofNat 64 (a * b + o + c) := by
  apply BitVec.eq_of_toNat_eq
  simp [BitVec.toNat_add, BitVec.toNat_mul, BitVec.toNat_ofNat, Nat.add_mod, Nat.mul_mod]
theorem low_word (x : Nat) (h : x < 2 ^ 64) : BitVec.ofNat 64 x % 4294967296#64 = BitVec.ofNat 64 (x % 2 ^ 32) := by
  apply BitVec.eq_of_toNat_eq
  rw [BitVec.toNat_umod, show (4294967296#64 : BitVec 64).toNat = 4294967296 from rfl, BitVec.toNat_ofNat, BitVec.toNat_ofNat]; omega
theorem high_word (x : Nat) (h : x < 2 ^ 64) : BitVec.ofNat 64 x >>> 32 = BitVec.ofNat 64 (x / 2 ^ 32) := by
  apply BitVec.eq_of_toNat_eq
  rw [BitVec.toNat_ushiftRight, BitVec.toNat_ofNat, BitVec.toNat_ofNat, Nat.shiftRight_eq_div_pow]; omega
/-! ### which is greater -/
theorem ab_next (A B i : Nat) (h : A / 2 ^ (64 * (i + 1)) = B / 2 ^ (64 * (i + 1))) (e : wn A i = wn B i) : A / 2 ^ (64 * i) = B / 2 ^ (64 * i) := by
  rw [show 64 * (i + 1) = 64 * i + 64 from by omega, ← div_pow, ← div_pow] at h
  have h2 := congrArg BitVec.toNat e
  unfold wn at h2
  rw [BitVec.toNat_ofNat, BitVec.toNat_ofNat] at h2
  omega
theorem ab_ne (A B i : Nat) (h : A / 2 ^ (64 * (i + 1)) = B / 2 ^ (64 * (i + 1))) (e : wn A i ≠ wn B i) : (wn B i).toNat < (wn A i).toNat ↔ B < A := by
  rw [show 64 * (i + 1) = 64 * i + 64 from by omega, ← div_pow, ← div_pow] at h
  have h2 : ¬ (A / 2 ^ (64 * i) % 2 ^ 64 = B / 2 ^ (64 * i) % 2 ^ 64) := fun hh => e (by
    apply BitVec.eq_of_toNat_eq; unfold wn; rw [BitVec.toNat_ofNat, BitVec.toNat_ofNat]; exact hh)
  unfold wn
  rw [BitVec.toNat_ofNat, BitVec.toNat_ofNat]
  constructor
  · intro hh
    exact Nat.lt_of_not_le (fun hle => by have := Nat.div_le_div_right (c := 2 ^ (64 * i)) hle; omega)
  · intro hh
    have := Nat.div_le_div_right (c := 2 ^ (64 * i)) (Nat.le_of_lt hh)
    omega
/-! ### one bit more -/
theorem bit_row (X b j : Nat) (hb : b ≤ 68) (hj : j < 4) (hX : X % 2 ^ (b + 1) = 0) : (if j = b / 64 then wn X (b / 64) ||| 1#64 <<< (b % 64) else wn X j) = wn (X + 2 ^ b) j := by
  have hpb : 2 ^ b = 2 ^ (b % 64) * 2 ^ (64 * (b / 64)) := by rw [← Nat.pow_add, show b % 64 + 64 * (b / 64) = b from by omega]
  by_cases e : j = b / 64
  · subst e
    rw [if_pos rfl]
    unfold wn
    rw [hpb, Nat.add_mul_div_right _ _ (Nat.two_pow_pos _)]
    have hz : X / 2 ^ (64 * (b / 64)) % 2 ^ (b % 64 + 1) = 0 := by
      obtain ⟨q, hq⟩ := Nat.dvd_of_mod_eq_zero hX
      rw [hq, show b + 1 = 64 * (b / 64) + (b % 64 + 1) from by omega, Nat.pow_add, Nat.mul_assoc, Nat.mul_div_cancel_left _ (Nat.two_pow_pos _), Nat.mul_mod_right]
    generalize X / 2 ^ (64 * (b / 64)) = Y at hz
    have hr : b % 64 < 64 := Nat.mod_lt _ (by decide)
    generalize b % 64 = r at hz hr
    have hbit : (BitVec.ofNat 64 Y).getLsbD r = false := by
      rw [BitVec.getLsbD_ofNat]
      have h1 : Y.testBit r = false := by
        rw [Nat.testBit_eq_decide_div_mod_eq]
        have hd : Y / 2 ^ r % 2 = 0 := by
          obtain ⟨q, hq⟩ := Nat.dvd_of_mod_eq_zero hz
          rw [hq, Nat.pow_succ, Nat.mul_assoc, Nat.mul_div_cancel_left _ (Nat.two_pow_pos _), Nat.mul_mod_right]
        simp [hd]
      simp [h1]
    have hand : BitVec.ofNat 64 Y &&& 1#64 <<< r = 0#64 := by
      apply BitVec.eq_of_getLsbD_eq
      intro i hi
      rw [BitVec.getLsbD_and, BitVec.getLsbD_shiftLeft, BitVec.getLsbD_zero]
      by_cases e : i = r
      · subst e; rw [hbit]; rfl
      · by_cases h2 : i < r
        · simp [h2]
        · have h3 : i - r ≠ 0 := by omega
          have h4 : (1#64).getLsbD (i - r) = false := by simp [BitVec.getLsbD_one, h3]
          rw [h4]; simp
    rw [← BitVec.add_eq_or_of_and_eq_zero _ _ hand]
    apply BitVec.eq_of_toNat_eq
    rw [BitVec.toNat_add, BitVec.toNat_shiftLeft, show (1#64 : BitVec 64).toNat = 1 from rfl, BitVec.toNat_ofNat, BitVec.toNat_ofNat, Nat.shiftLeft_eq, Nat.one_mul, ← Nat.add_mod]
  · rw [if_neg e]
    unfold wn
    by_cases h : j < b / 64
    · have : j = 0 := by omega
      subst this
      have : b / 64 = 1 := by omega
      rw [this] at hpb
      apply BitVec.eq_of_toNat_eq
      rw [BitVec.toNat_ofNat, BitVec.toNat_ofNat]
      simp only [Nat.mul_zero, Nat.pow_zero, Nat.div_one, Nat.mul_one] at hpb ⊢
      rw [hpb, Nat.add_mul_mod_self_right]
    · congr 1
      obtain ⟨q, hq⟩ := Nat.dvd_of_mod_eq_zero hX
      have hD : 2 ^ (64 * j) = 2 ^ (b + 1) * 2 ^ (64 * j - (b + 1)) := by rw [← Nat.pow_add, show b + 1 + (64 * j - (b + 1)) = 64 * j from by omega]
      rw [hD, ← Nat.div_div_eq_div_mul, ← Nat.div_div_eq_div_mul]
      congr 1
      rw [hq, Nat.mul_div_cancel_left _ (Nat.two_pow_pos _), Nat.mul_add_div (Nat.two_pow_pos _), Nat.div_eq_of_lt (Nat.pow_lt_pow_right (by decide) (by omega)), Nat.add_zero]
def pw (n y : Nat) : Nat := if n = 3 then y * y * y else y * y
/-- the root's bits, one more each time -/
def rt (p n : Nat) : Nat → Nat
  | 0 => 0
  | k + 1 => if p * 2 ^ (64 * n) < pw n (rt p n k + 2 ^ (68 - k)) then rt p n k else rt p n k + 2 ^ (68 - k)
theorem rt_inv (p n : Nat) : ∀ k, k ≤ 69 → rt p n k % 2 ^ (69 - k) = 0 ∧ rt p n k + 2 ^ (69 - k) ≤ 2 ^ 69
  | 0, _ => ⟨by simp [rt], by simp [rt]⟩
  | k + 1, h => by
    obtain ⟨h1, h2⟩ := rt_inv p n k (by omega)
    have e : 69 - k = (68 - k) + 1 := by omega
    rw [e, Nat.pow_succ] at h1 h2
    have hz : rt p n k % 2 ^ (68 - k) = 0 := by
      obtain ⟨q, hq⟩ := Nat.dvd_of_mod_eq_zero h1
      rw [hq, Nat.mul_assoc, Nat.mul_mod_right]
    unfold rt
    rw [show 69 - (k + 1) = 68 - k from by omega]
    split
    · exact ⟨hz, by omega⟩
    · exact ⟨by rw [Nat.add_mod_right, hz], by omega⟩
theorem rt_lt (p n k : Nat) (h : k < 69) : rt p n k + 2 ^ (68 - k) < 2 ^ 70 := by
  have h2 := (rt_inv p n k (by omega)).2
  rw [show 69 - k = (68 - k) + 1 from by omega, Nat.pow_succ] at h2
  omega
theorem sq_lt (y : Nat) (h : y < 2 ^ 70) : y * y < 2 ^ 140 ∧ y * y * y < 2 ^ 210 := by
  have h1 : y * y ≤ 1180591620717411303423 * 1180591620717411303423 := Nat.mul_le_mul (by omega) (by omega)
  have h2 : y * y * y ≤ 1180591620717411303423 * 1180591620717411303423 * 1180591620717411303423 := Nat.mul_le_mul h1 (by omega)
  exact ⟨by omega, by omega⟩
theorem want_row (p n j : Nat) (hn : n = 2 ∨ n = 3) (hp : p < 2 ^ 16) (hj : j < 4) : (if j = n then BitVec.ofNat 64 p else 0#64) = wn (p * 2 ^ (64 * n)) j := by
  unfold wn
  apply BitVec.eq_of_toNat_eq
  have : j = 0 ∨ j = 1 ∨ j = 2 ∨ j = 3 := by omega
  rcases hn with h | h <;> subst h <;> rcases this with e | e | e | e <;> subst e <;> simp <;> omega
/-! ### primes -/
def PL : List Nat := [2, 3, 5, 7, 11, 13, 17, 19, 23, 29, 31, 37, 41, 43, 47, 53, 59, 61, 67, 71, 73, 79, 83, 89, 97, 101, 103, 107, 109, 113, 127, 131, 137, 139, 149, 151, 157, 163, 167, 173, 179, 181, 191, 193, 197, 199, 211, 223, 227, 229, 233, 239, 241, 251, 257, 263, 269, 271, 277, 281, 283, 293, 307, 311, 313, 317, 331, 337, 347, 349, 353, 359, 367, 373, 379, 383, 389, 397, 401, 409]
def pc (p : Nat) : Nat := (PL.filter (fun x => decide (x < p))).length
def np (p q : Nat) : Bool := (List.range q).all fun d => decide (d < 2) || p % d != 0
def ip (p : Nat) : Bool := PL.contains p
theorem np_two (p : Nat) : np p 2 = true := by simp [np, List.range, List.range.loop]
theorem np_succ (p q : Nat) (hq : 2 ≤ q) : np p (q + 1) = (np p q && p % q != 0) := by
  unfold np
  rw [List.range_succ, List.all_append]
  simp [show ¬ q < 2 from by omega]
theorem mod_word (p q : Nat) (hp : p < 2 ^ 16) (hq : q < 2 ^ 16) : (BitVec.ofNat 64 p % BitVec.ofNat 64 q = 0#64) ↔ p % q = 0 := by
  have h1 : p % 2 ^ 64 = p := Nat.mod_eq_of_lt (by omega)
  have h2 : q % 2 ^ 64 = q := Nat.mod_eq_of_lt (by omega)
  rw [← BitVec.toNat_inj, BitVec.toNat_umod, show (0#64 : BitVec 64).toNat = 0 from rfl, BitVec.toNat_ofNat, BitVec.toNat_ofNat, h1, h2]
theorem np_div (p q : Nat) (hp : p < 2 ^ 16) (hq : 2 ≤ q) (hq2 : q < 2 ^ 16) (h : BitVec.ofNat 64 p % BitVec.ofNat 64 q = 0#64) : np p (q + 1) = false := by
  rw [np_succ p q hq, (mod_word p q hp hq2).1 h]; simp
theorem np_no (p q : Nat) (hp : p < 2 ^ 16) (hq : 2 ≤ q) (hq2 : q < 2 ^ 16) (h : ¬ BitVec.ofNat 64 p % BitVec.ofNat 64 q = 0#64) : np p (q + 1) = np p q := by
  rw [np_succ p q hq]
  have : p % q ≠ 0 := fun e => h ((mod_word p q hp hq2).2 e)
  simp [this]
theorem ofNat_ne (q : Nat) (h0 : 0 < q) (h : q < 2 ^ 16) : BitVec.ofNat 64 q ≠ 0#64 := fun e => by
  have := congrArg BitVec.toNat e
  rw [BitVec.toNat_ofNat, BitVec.toNat_ofNat] at this; omega
theorem sq_word (q : Nat) (h : q ≤ 21) : (BitVec.ofNat 64 q * BitVec.ofNat 64 q).toNat = q * q := by
  revert h; revert q; decide
theorem sq_le (q p : Nat) (hp : p ≤ 409) (h : q * q ≤ p) : q ≤ 20 := by
  refine Nat.le_of_not_lt (fun hq => ?_)
  have : 21 * 21 ≤ q * q := Nat.mul_le_mul hq hq
  omega
theorem np_done' : ∀ p, p < 410 → ∀ q, q < 22 → (decide (2 ≤ q) && decide (2 ≤ p) && (decide (q = 2) || decide ((q - 1) * (q - 1) ≤ p)) && decide (p < q * q)) = true → np p q = ip p := by decide +kernel
theorem np_done (p q : Nat) (hp : p ≤ 409) (hp2 : 2 ≤ p) (hq : 2 ≤ q) (hq2 : q ≤ 21) (h : q = 2 ∨ (q - 1) * (q - 1) ≤ p) (h2 : p < q * q) : np p q = ip p := np_done' p (by omega) q (by omega) (by simp [hq, hp2, h, h2])
theorem pc_step : ∀ p, p < 410 → pc (p + 1) = if ip p then pc p + 1 else pc p := by decide +kernel
theorem pc_yes (p : Nat) (hp : p ≤ 409) (h : ip p = true) : pc (p + 1) = pc p + 1 := by rw [pc_step p (by omega), if_pos h]
theorem pc_no (p : Nat) (hp : p ≤ 409) (h : ¬ ip p = true) : pc (p + 1) = pc p := by rw [pc_step p (by omega), if_neg h]
theorem pc_lt (p : Nat) (hp : p ≤ 410) (h : pc p < 80) : p ≤ 409 := by
  refine Nat.le_of_not_lt (fun hq => ?_)
  have : p = 410 := by omega
  subst this
  exact absurd h (by decide +kernel)
def cutw (s : Bool) (x : BitVec 64) : BitVec 64 := if s then x >>> 32 else x
theorem K_of' : ∀ p, p < 410 → ip p = true → cutw true (BitVec.ofNat 64 (rt p 3 69)) = K true (pc p) ∧ cutw false (BitVec.ofNat 64 (rt p 3 69)) = K false (pc p) := by decide +kernel
theorem K_of (s : Bool) (p : Nat) (hp : p ≤ 409) (h : ip p = true) : cutw s (BitVec.ofNat 64 (rt p 3 69)) = K s (pc p) := by
  have := K_of' p (by omega) h
  cases s
  · exact this.2
  · exact this.1
theorem H_of' : ∀ p, p < 410 → ip p = true → (pc p < 8 → cutw true (BitVec.ofNat 64 (rt p 2 69)) = H0 256 (pc p) ∧ cutw false (BitVec.ofNat 64 (rt p 2 69)) = H0 512 (pc p)) ∧ (8 ≤ pc p → pc p < 16 → cutw false (BitVec.ofNat 64 (rt p 2 69)) = H0 384 (pc p - 8)) := by decide +kernel
theorem H_of_256 (p : Nat) (hp : p ≤ 409) (h : ip p = true) (h8 : pc p < 8) : cutw true (BitVec.ofNat 64 (rt p 2 69)) = H0 256 (pc p - 0) := ((H_of' p (by omega) h).1 h8).1
theorem H_of_512 (p : Nat) (hp : p ≤ 409) (h : ip p = true) (h8 : pc p < 8) : cutw false (BitVec.ofNat 64 (rt p 2 69)) = H0 512 (pc p - 0) := ((H_of' p (by omega) h).1 h8).2
theorem H_of_384 (p : Nat) (hp : p ≤ 409) (h : ip p = true) (h8 : 8 ≤ pc p) (h16 : pc p < 16) : cutw false (BitVec.ofNat 64 (rt p 2 69)) = H0 384 (pc p - 8) := (H_of' p (by omega) h).2 h8 h16
/-! ### the first words, as they come -/
def bg (fr K p : Nat) (i : Nat) : BitVec 64 := if i + fr < pc p then H0 K i else 0#64
theorem bg_no (fr K p : Nat) (h : pc (p + 1) = pc p ∨ (pc (p + 1) = pc p + 1 ∧ (pc p < fr ∨ fr + 8 ≤ pc p))) : ∀ i, i < 8 → bg fr K p i = bg fr K (p + 1) i := by
  intro i hi
  unfold bg
  by_cases e : i + fr < pc p
  · rw [if_pos e, if_pos (by omega)]
  · rw [if_neg e, if_neg (by omega)]
theorem bg_yes (fr K p : Nat) (x : BitVec 64) (h : pc (p + 1) = pc p + 1) (h1 : fr ≤ pc p) (h2 : pc p < fr + 8) (hx : x = H0 K (pc p - fr)) : ∀ k, k < 8 → (if k = pc p - fr then x else bg fr K p k) = bg fr K (p + 1) k := by
  intro k hk
  unfold bg
  by_cases e : k = pc p - fr
  · rw [if_pos e, if_pos (by omega), hx, e]
  · rw [if_neg e]
    by_cases e2 : k + fr < pc p
    · rw [if_pos e2, if_pos (by omega)]
    · rw [if_neg e2, if_neg (by omega)]
end Sha
end Go.Proofs.YtdmbfimjbmfbaaaGreatDoor
