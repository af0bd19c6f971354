/-
  AES: Expand. Conditions as each says.
-/
import Derived.Test.YtcdhkpndpadbhaaAesNew
namespace Go.Proofs.Ytcdhkpndpadbhaa
open Go.RowKit
set_option linter.unusedSimpArgs false
set_option linter.unusedVariables false
theorem expandAll_no (s : ByteArray) (w : World) (h : ¬ Aes.okKey s.size) :
    Calls Try.prog 17 #[.string s] w fun e w' => e = .returned (.tuple #[.slice none 0 0, .int .i64 3]) ∧ w = w' := by
  have H := Lib.hid h
  clear h
  go_enter Try.func17, Try.ntmps17
  go_wp2_with (go_at_call 25; refine (right_no _ _ (fun h => H.out (by unfold Aes.okKey; omega))).mono ?_; rintro e w' ⟨rfl, rfl⟩)
  go_ret2
  exact ⟨rfl, rfl⟩
set_option maxHeartbeats 1000000 in
theorem expandAll_c (s : ByteArray) (w : World) (h : Aes.okKey s.size) :
    Calls Try.prog 17 #[.string s] w fun e w' => ∃ g, e = .returned (.tuple #[.slice (some ⟨g, 0, none⟩) (Aes.words (byt s)).length (Aes.words (byt s)).length, .int .i64 0]) ∧ w.heap.size ≤ g ∧
      Row w' g 41 (Aes.words (byt s)).length (fun j => U32 (Aes.gw (Aes.words (byt s)) j)) ∧ Below w.heap.size w w' := by
  obtain ⟨n, hn, h4, h8⟩ : ∃ n, s.size = 4 * n ∧ 4 ≤ n ∧ n ≤ 8 := by
    rcases h with h | h | h
    · exact ⟨4, by omega, by omega, by omega⟩
    · exact ⟨6, by omega, by omega, by omega⟩
    · exact ⟨8, by omega, by omega, by omega⟩
  have H := Lib.hid h
  have HN := Lib.hid hn
  clear h hn
  go_enter Try.func17, Try.ntmps17
  go_wp2_with (first
    | (go_at_call 25; refine (right_yes _ _ (by have := H.out; unfold Aes.okKey at this; omega)).mono ?_; rintro e w' ⟨rfl, rfl⟩)
    | (go_at_call 26; refine (box_c _).mono ?_; rintro e w1 ⟨rfl, hb1⟩)
    | (with_reducible show wpList _ _ _ (Oper.mk _ (Op.store 45 (.tmp 4) (.tmp 9)) _ _ _ _ :: _) _ _
       refine wpList_store_arr rfl rfl 45 (.tmp 4) (.tmp 9) rfl w1.heap.size 0 256 rfl (fun j => U8 (Aes.sb j)) rfl Try.boxSize (fun j _ => U8.oneCell _) _ 256 _ (Row.fresh (f := fun _ => .int .u8 0) (by rw [Try.zeros256]; simp) (fun i hi => by rw [Try.zeros256]; simp [hi])) (by decide) ?_
       intro w9 hw9 hg9 hs9
       have hb9 : Below w.heap.size w w9 := (hb1.alloc hb1.size _).grown hg9 (by simp; have := hb1.size; omega) (fun k hk => by cases hk; exact hb1.size)
       have HW9 := Lib.hid hw9
       clear hw9)
    | (go_at_call 27; refine (expand_c w1.heap.size 0 n s _ HN.out h4 h8 (fun i hi => by rw [Nat.zero_add, HW9.out.cell hi, if_pos ⟨Nat.zero_le _, by omega⟩, Nat.sub_zero]) HW9.out.lt).mono ?_; rintro e w3 ⟨rfl, hr3, hb3⟩; have HR3 := Lib.hid hr3; clear hr3))
  go_ret2
  have e : w9.heap.size = w1.heap.size + 1 := by rw [hs9]; simp
  exact ⟨_, rfl, by rw [← e]; exact hb9.size, by rw [← e]; exact HR3.out, hb9.trans (hb3.mono hb9.size)⟩
end Go.Proofs.Ytcdhkpndpadbhaa
