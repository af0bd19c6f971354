/-
  AES: the reference's product. No conditions.
-/
import Derived.Test.YtkjdejadambffaaDoorAesEnc
import Derived.Test.YtkjdejadambffaaDoorAesField
namespace Go.Proofs.YtkjdejadambffaaDoor
open Go.RowKit
set_option linter.unusedSimpArgs false
set_option linter.unusedVariables false
theorem xor_i64 (p q : Nat) (hp : p < 65536) (hq : q < 65536) : bits .xor .i64 (p : Int) (q : Int) = ((p ^^^ q : Nat) : Int) := by
  have hx : p ^^^ q < 2 ^ 16 := Nat.xor_lt_two_pow hp hq
  have e : ∀ a : Nat, a < 65536 → (BitVec.ofInt 64 (a : Int)).toNat = a := fun a ha => by
    rw [BitVec.ofInt_natCast, BitVec.toNat_ofNat]; exact Nat.mod_eq_of_lt (by omega)
  show IntKind.i64.wrap ((BitVec.ofInt 64 (p : Int) ^^^ BitVec.ofInt 64 (q : Int)).toNat : Int) = _
  rw [BitVec.toNat_xor, e p hp, e q hq]
  exact IntWalk.i64_in _ (by omega)
theorem and1_i64 (p : Nat) (hp : p < 65536) : bits .and .i64 (p : Int) 1 = ((p % 2 : Nat) : Int) := by
  have e : (BitVec.ofInt 64 (p : Int)).toNat = p := by
    rw [BitVec.ofInt_natCast, BitVec.toNat_ofNat]; exact Nat.mod_eq_of_lt (by omega)
  show IntKind.i64.wrap ((BitVec.ofInt 64 (p : Int) &&& BitVec.ofInt 64 1).toNat : Int) = _
  rw [BitVec.toNat_and, e, show (BitVec.ofInt 64 1).toNat = 1 from rfl, Nat.and_one_is_mod]
  exact IntWalk.i64_in _ (by omega)
theorem Aes.rm1_lt (a b : BitVec 8) (k : Nat) (hk : k ≤ 8) : Aes.rm1 a b k < 65536 := by
  induction k with
  | zero => exact Nat.zero_lt_succ _
  | succ k ih =>
    have h1 := ih (by omega)
    have h2 : a.toNat * 2 ^ k < 2 ^ 16 := by
      have := a.isLt
      have : 2 ^ k ≤ 2 ^ 7 := Nat.pow_le_pow_right (by decide) (by omega)
      calc a.toNat * 2 ^ k ≤ 255 * 2 ^ 7 := Nat.mul_le_mul (by omega) this
        _ < 2 ^ 16 := by decide
    unfold Aes.rm1
    split
    · exact Nat.xor_lt_two_pow (n := 16) h1 h2
    · exact h1
theorem Aes.rm2_lt (p k : Nat) (hk : k ≤ 7) (hp : p < 65536) : Aes.rm2 p k < 65536 := by
  induction k with
  | zero => exact hp
  | succ k ih =>
    have h1 := ih (by omega)
    have h2 : 283 * 2 ^ (6 - k) < 2 ^ 16 := by
      have : 2 ^ (6 - k) ≤ 2 ^ 6 := Nat.pow_le_pow_right (by decide) (by omega)
      calc 283 * 2 ^ (6 - k) ≤ 283 * 2 ^ 6 := Nat.mul_le_mul (Nat.le_refl _) this
        _ < 2 ^ 16 := by decide
    unfold Aes.rm2
    split
    · exact Nat.xor_lt_two_pow (n := 16) h1 h2
    · exact h1
theorem refMul_c (a b : BitVec 8) (w : World) : Calls Tryd.prog 43 #[U8 a, U8 b] w fun e w' => e = .returned (U8 (Aes.mul a b)) ∧ w = w' := by
  go_enter Tryd.func43, Tryd.ntmps43
  go_wp2
  go_loopg [5, 6] 8 (fun d p i wr => wr = w ∧ ∃ k : Nat, k ≤ 8 ∧ d = 8 - k ∧ i = .int .i64 k ∧ p = .int .i64 (Aes.rm1 a b k : Nat))
  case atStart => exact ⟨rfl, 0, by omega, rfl, rfl, rfl⟩
  case round =>
    obtain ⟨rfl, k, hk, rfl, rfl, rfl⟩ := hrel
    by_cases hlt : k < 8
    · obtain ⟨q, hq⟩ : ∃ q, q = a.toNat * 2 ^ k := ⟨_, rfl⟩
      have hq16 : q < 65536 := by
        have := a.isLt
        have : 2 ^ k ≤ 2 ^ 7 := Nat.pow_le_pow_right (by decide) (by omega)
        calc q = a.toNat * 2 ^ k := hq
          _ ≤ 255 * 2 ^ 7 := Nat.mul_le_mul (by omega) this
          _ < 65536 := by decide
      have hr := Aes.rm1_lt a b k hk
      have h1 : wrap64 ((a.toNat : Int) * 2 ^ k) = (q : Int) := by
        rw [hq, IntWalk.wrap64_in _ (by
          have e : ((a.toNat : Int) * 2 ^ k) = ((a.toNat * 2 ^ k : Nat) : Int) := by simp
          rw [e, ← hq]; omega)]
        simp
      have h2 := xor_i64 (Aes.rm1 a b k) q hr hq16
      have hs : Aes.rm1 a b (k + 1) = if (b >>> k &&& 1#8 == 1#8) then Aes.rm1 a b k ^^^ q else Aes.rm1 a b k := by rw [hq]; rfl
      have HS := Lib.hid hs
      have HQ := Lib.hid hq
      clear hs hq hr hq16
      go_wp2
      · go_roundg (8 - (k + 1))
        case measure => omega
        case rel => exact ⟨rfl, k + 1, by omega, rfl, by go_num, by rw [HS.out, if_pos ‹_›]⟩
      · go_roundg (8 - (k + 1))
        case measure => omega
        case rel => exact ⟨rfl, k + 1, by omega, rfl, by go_num, by rw [HS.out, if_neg (by simp [*])]⟩
    · obtain rfl : k = 8 := by omega
      go_wp2
      go_loopg [5, 7] 7 (fun d x i wr' => wr' = wr ∧ ∃ k p : Nat, k ≤ 7 ∧ d = 7 - k ∧ i = .int .i64 (14 - (k : Int)) ∧ x = .int .i64 (p : Int) ∧ p < 65536 ∧ Hid (p = Aes.rm2 (Aes.rm1 a b 8) k))
      case atStart => exact ⟨rfl, 0, _, by omega, rfl, rfl, rfl, Aes.rm1_lt a b 8 (by decide), rfl⟩
      case round =>
        obtain ⟨rfl, k, p, hk7, rfl, rfl, rfl, hp, HP⟩ := hrel
        by_cases hlt7 : k < 7
        · have hs : Aes.rm2 (Aes.rm1 a b 8) (k + 1) = if p / 2 ^ (14 - k) % 2 = 1 then p ^^^ (283 * 2 ^ (6 - k)) else p := by rw [HP.out]; rfl
          have hp2 : p / 2 ^ (14 - k) < 65536 := Nat.lt_of_le_of_lt (Nat.div_le_self _ _) hp
          have ha : bits .and .i64 ((p : Int) / 2 ^ (14 - k)) 1 = ((p / 2 ^ (14 - k) % 2 : Nat) : Int) := by
            rw [← and1_i64 _ hp2]; simp
          have HS := Lib.hid hs
          clear hs
          by_cases hbit : p / 2 ^ (14 - k) % 2 = 1
          · have ht : (bits .and .i64 ((p : Int) / 2 ^ (14 - k)) 1 == 1) = true := by rw [ha, hbit]; rfl
            obtain ⟨q, hq⟩ : ∃ q, q = 283 * 2 ^ (6 - k) := ⟨_, rfl⟩
            have hq16 : q < 65536 := by
              have : 2 ^ (6 - k) ≤ 2 ^ 6 := Nat.pow_le_pow_right (by decide) (by omega)
              omega
            have h1 : wrap64 (283 * 2 ^ (14 - k - 8)) = (q : Int) := by
              rw [show 14 - k - 8 = 6 - k from by omega, IntWalk.wrap64_in _ (by
                have e : ((283 : Int) * 2 ^ (6 - k)) = ((283 * 2 ^ (6 - k) : Nat) : Int) := by simp
                rw [e, ← hq]; omega), hq]
              simp
            have h2 := xor_i64 p q hp hq16
            have hx : p ^^^ q < 65536 := Nat.xor_lt_two_pow (n := 16) hp hq16
            have HQ := Lib.hid hq
            have HB := Lib.hid hbit
            have HX := Lib.hid hx
            clear hq hbit hq16 ha hp2 hx
            go_wp2
            go_roundg (7 - (k + 1))
            case measure => omega
            case rel => exact ⟨rfl, k + 1, p ^^^ q, by omega, rfl, by rw [show (14 : Int) - ((k + 1 : Nat) : Int) = 14 - (k : Int) - 1 from by omega], rfl, HX.out, by show _ = _; rw [HS.out, if_pos HB.out, HQ.out]⟩
          · have ht : (bits .and .i64 ((p : Int) / 2 ^ (14 - k)) 1 == 1) = false := by rw [ha, beq_eq_false_iff_ne]; omega
            have HB := Lib.hid hbit
            clear hbit ha hp2
            go_wp2
            go_roundg (7 - (k + 1))
            case measure => omega
            case rel => exact ⟨rfl, k + 1, p, by omega, rfl, by rw [show (14 : Int) - ((k + 1 : Nat) : Int) = 14 - (k : Int) - 1 from by omega], rfl, hp, by show _ = _; rw [HS.out, if_neg HB.out]⟩
        · obtain rfl : k = 7 := by omega
          go_wp2
          go_ret
          refine ⟨congrArg Ending.returned ((fold_u8 (p : Int)).trans (congrArg U8 ?_)), rfl⟩
          rw [← Aes.rmul_eq]
          show BitVec.ofInt 8 (p : Int) = BitVec.ofNat 8 (Aes.rm2 (Aes.rm1 a b 8) 7)
          rw [← HP.out]
          simp
end Go.Proofs.YtkjdejadambffaaDoor
