/-
  The law AesNil answers true at every string. No conditions.
-/
import Derived.Test.YtcdhkpndpadbhaaAesWakes
namespace Go.Proofs.Ytcdhkpndpadbhaa
open Go.RowKit
set_option linter.unusedSimpArgs false
set_option linter.unusedVariables false
set_option maxRecDepth 100000 in
theorem decrypt_nil (s : ByteArray) (w : World) :
    Calls Try.prog 21 #[.pointer none, .string s] w fun e w' => e = .returned (.tuple #[.string ByteArray.empty, .int .i64 1]) ∧ w = w' := by
  go_enter Try.func21, Try.ntmps21
  go_wp2
  go_ret2
  exact ⟨rfl, rfl⟩
set_option maxRecDepth 100000 in
theorem encrypt_zero (b : Nat) (s : ByteArray) (w : World) (hw : w.cell? ⟨b, 256, none⟩ = some (.slice none 0 0)) :
    Calls Try.prog 14 #[.pointer (some ⟨b, 0, none⟩), .string s] w fun e w' => e = .returned (.tuple #[.string ByteArray.empty, .int .i64 1]) ∧ w = w' := by
  go_enter Try.func14, Try.ntmps14
  go_wp2
  go_ret2
  exact ⟨rfl, rfl⟩
set_option maxRecDepth 100000 in
theorem decrypt_zero (b : Nat) (s : ByteArray) (w : World) (hw : w.cell? ⟨b, 256, none⟩ = some (.slice none 0 0)) :
    Calls Try.prog 21 #[.pointer (some ⟨b, 0, none⟩), .string s] w fun e w' => e = .returned (.tuple #[.string ByteArray.empty, .int .i64 1]) ∧ w = w' := by
  go_enter Try.func21, Try.ntmps21
  go_wp2
  go_ret2
  exact ⟨rfl, rfl⟩
theorem Try.zeroCiph : Try.zeroCells58[256]? = some (.slice none 0 0) := by kernel_rfl
theorem Try.sizeCiph : Try.zeroCells58.size = 517 := by kernel_rfl
theorem zero_cell (w : World) : (w.alloc (.cells Try.zeroCells58 58)).cell? ⟨w.heap.size, 256, none⟩ = some (.slice none 0 0) := by
  have h := (Row.new w Try.zeroCells58 58 (fun i => (Try.zeroCells58[i]?).getD undef) (fun i hi => by rw [Array.getElem?_eq_getElem hi]; rfl)).cell (i := 256) (by rw [Try.sizeCiph]; decide)
  rw [Try.zeroCiph] at h
  exact h
theorem zero_cell2 (w : World) : ((w.alloc (.cells Try.zeroCells58 58)).alloc (.cells Try.zeroCells58 58)).cell? ⟨w.heap.size + 1, 256, none⟩ = some (.slice none 0 0) := by
  have h := zero_cell (w.alloc (.cells Try.zeroCells58 58))
  rwa [World.size_alloc] at h
set_option maxRecDepth 100000 in
theorem walk_AesNil (s : ByteArray) (hs : s.size ≤ 140737488351232) (w : World) :
    Calls Try.prog 9 #[.string s] w fun e w' => e = .returned (.bool true) ∧ Below w.heap.size w w' := by
  go_enter Try.func9, Try.ntmps9
  go_wp2_with (first
    | (go_at_call 11; refine (wakes_c _).mono ?_; rintro e w1 ⟨rfl, hb1⟩)
    | (go_at_call 14; with_reducible refine (encrypt_nil s _).mono ?_; rintro e w1 ⟨rfl, rfl⟩)
    | (go_at_call 21; with_reducible refine (decrypt_nil s _).mono ?_; rintro e w1 ⟨rfl, rfl⟩)
    | (go_at_call 14; with_reducible refine (encrypt_zero _ s _ (zero_cell w)).mono ?_; rintro e w1 ⟨rfl, rfl⟩)
    | (go_at_call 21; with_reducible refine (decrypt_zero _ s _ (zero_cell2 w)).mono ?_; rintro e w1 ⟨rfl, rfl⟩))
  go_ret
  exact ⟨rfl, (((Below.refl _ _).alloc (Nat.le_refl _) _).alloc (by simp) _).trans (hb1.mono (by simp; omega))⟩
end Go.Proofs.Ytcdhkpndpadbhaa
