/-
  AES: the reference's word on a key's length. No conditions.
-/
import Derived.Test.YtkjdejadambffaaDoorAesNew
namespace Go.Proofs.YtkjdejadambffaaDoor
open Go.RowKit
set_option linter.unusedSimpArgs false
set_option linter.unusedVariables false
theorem refRight_yes (s : ByteArray) (w : World) (h : Aes.okKey s.size) : Calls Tryd.prog 40 #[.string s] w fun e w' => e = .returned (.bool true) ∧ w = w' := by
  rcases h with h | h | h
  all_goals
    go_enter Tryd.func40, Tryd.ntmps40
    go_wp2
    go_ret
    exact ⟨rfl, rfl⟩
theorem refRight_no (s : ByteArray) (w : World) (h : ¬ Aes.okKey s.size) : Calls Tryd.prog 40 #[.string s] w fun e w' => e = .returned (.bool false) ∧ w = w' := by
  have h1 : ((s.size : Int) == 16) = false := by rw [beq_eq_false_iff_ne]; intro e; exact h (.inl (by omega))
  have h2 : ((s.size : Int) == 24) = false := by rw [beq_eq_false_iff_ne]; intro e; exact h (.inr (.inl (by omega)))
  have h3 : ((s.size : Int) == 32) = false := by rw [beq_eq_false_iff_ne]; intro e; exact h (.inr (.inr (by omega)))
  clear h
  go_enter Tryd.func40, Tryd.ntmps40
  go_wp2
  go_ret
  exact ⟨rfl, rfl⟩
end Go.Proofs.YtkjdejadambffaaDoor
