/-
  The law AesMul answers true at every three bytes. No conditions.
-/
import Derived.Test.YtcdhkpndpadbhaaAesWakes
namespace Go.Proofs.Ytcdhkpndpadbhaa
open Go.RowKit
set_option linter.unusedSimpArgs false
set_option linter.unusedVariables false
theorem walk_AesMul (a b c : BitVec 8) (w : World) :
    Calls Try.prog 3 #[U8 a, U8 b, U8 c] w fun e w' => e = .returned (.bool true) ∧ Below w.heap.size w w' := by
  have f1 : (Aes.mul a b == Aes.mul b a) = true := beq_iff_eq.2 (Aes.mul_comm a b)
  have f2 : (Aes.mul (Aes.mul a b) c == Aes.mul a (Aes.mul b c)) = true := beq_iff_eq.2 (Aes.mul_assoc a b c)
  have f3 : (Aes.mul a (b ^^^ c) == Aes.mul a b ^^^ Aes.mul a c) = true := beq_iff_eq.2 (Aes.mul_right a b c)
  have f4 : (Aes.mul a 1#8 == a) = true := beq_iff_eq.2 (Aes.mul_one a)
  obtain ⟨x, hx⟩ : ∃ x, x = Aes.mul a b := ⟨_, rfl⟩
  have f5 : x = 0#8 → a = 0#8 ∨ b = 0#8 := fun h => by
    by_cases ha : a = 0#8
    · exact .inl ha
    · by_cases hb : b = 0#8
      · exact .inr hb
      · exact absurd (hx ▸ h) (Aes.mul_ne a b ha hb)
  have F5 := Lib.hid f5
  clear f5
  go_enter Try.func3, Try.ntmps3
  go_wp2_with (first
    | (go_at_call 10; with_reducible refine (mul_c _ _ _).mono ?_; rintro e w1 ⟨rfl, rfl⟩)
    | (go_at_call 11; refine (wakes_c _).mono ?_; rintro e w2 ⟨rfl, hb2⟩)
    | (go_at_call 12; with_reducible refine (refMul_c _ _ _).mono ?_; rintro e w1 ⟨rfl, rfl⟩)
    | (go_at_call 10; refine (mul_c _ 1#8 _).mono ?_; rintro e w1 ⟨rfl, rfl⟩))
  · go_ret
    exact ⟨rfl, hb2⟩
  · have hn := F5.out (hx.trans ‹Aes.mul a b = 0#8›)
    have hab : (a == 0#8 || b == 0#8) = true := by
      rcases hn with h | h <;> simp [h]
    rw [hab]
    go_ret
    exact ⟨rfl, hb2⟩
  · go_ret
    exact ⟨rfl, hb2⟩
end Go.Proofs.Ytcdhkpndpadbhaa
