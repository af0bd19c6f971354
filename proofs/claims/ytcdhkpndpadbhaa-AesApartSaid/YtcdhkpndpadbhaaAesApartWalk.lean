/-
  The law AesApart answers true at every three strings. No conditions.
-/
import Derived.Test.YtcdhkpndpadbhaaAesWakes
import Derived.Test.YtcdhkpndpadbhaaAesBackPlain
namespace Go.Proofs.Ytcdhkpndpadbhaa
open Go.RowKit
set_option linter.unusedSimpArgs false
set_option linter.unusedVariables false
theorem Aes.apart (key a b : ByteArray) (hk : Aes.okKey key.size) (ha : a.size = 16) (hb : b.size = 16) :
    ((byt (str (Aes.enc (Aes.words (byt key)) (byt a))) == byt (str (Aes.enc (Aes.words (byt key)) (byt b)))) == (byt a == byt b)) = true := by
  obtain ⟨R, h1, h2, _⟩ := Aes.words_len (byt key) (by rw [length_byt]; exact hk)
  rw [beq_iff_eq, Bool.eq_iff_iff, beq_iff_eq, beq_iff_eq]
  rw [byt_str, byt_str]
  exact ⟨fun h => Aes.enc_inj _ R h1 h2 (by rw [length_byt]; exact ha) (by rw [length_byt]; exact hb) h, fun h => by rw [h]⟩
theorem Aes.size_enc (key a : ByteArray) (hk : Aes.okKey key.size) : (str (Aes.enc (Aes.words (byt key)) (byt a))).size = 16 := by
  obtain ⟨R, h1, h2, _⟩ := Aes.words_len (byt key) (by rw [length_byt]; exact hk)
  rw [size_str]; exact Aes.length_enc _ _ R h1 h2
set_option maxHeartbeats 1000000 in
set_option maxRecDepth 100000 in
theorem walk_AesApart (key : ByteArray) (hkey : key.size ≤ 140737488351232) (a : ByteArray) (hsa : a.size ≤ 140737488351232) (b : ByteArray) (hsb : b.size ≤ 140737488351232) (w : World) :
    Calls Try.prog 4 #[.string key, .string a, .string b] w fun e w' => e = .returned (.bool true) ∧ Below w.heap.size w w' := by
  by_cases hk : Aes.okKey key.size
  · by_cases ha : a.size = 16
    · by_cases hb : b.size = 16
      · have f1 := Aes.apart key a b hk ha hb
        have f2 := Aes.size_enc key a hk
        obtain ⟨x, hx⟩ : ∃ x, x = str (Aes.enc (Aes.words (byt key)) (byt a)) := ⟨_, rfl⟩
        obtain ⟨y, hy⟩ : ∃ y, y = str (Aes.enc (Aes.words (byt key)) (byt b)) := ⟨_, rfl⟩
        rw [← hx] at f1 f2
        rw [← hy] at f1
        have HX := Lib.hid hx
        have HY := Lib.hid hy
        have HK := Lib.hid hk
        have HA := Lib.hid ha
        have HB := Lib.hid hb
        clear hx hy hk
        go_enter Try.func4, Try.ntmps4
        go_wp2_with (first
          | (go_at_call 11; refine (wakes_c _).mono ?_; rintro e w1 ⟨rfl, hb1⟩)
          | (go_at_call 13; refine (new_c (fun _ => 0#8) id key _ HK.out).mono ?_; rintro e w2 ⟨p, rfl, hp, hc2, hb2⟩)
          | (go_at_call 14; with_reducible refine (encrypt_c (fun _ => 0#8) id p (byt key) a w2 (by rw [length_byt]; exact HK.out) hc2 HA.out).mono ?_; rw [← HX.out]; rintro e w3 ⟨rfl, hb3⟩; have hc3 := hc2.below hb3)
          | (go_at_call 14; with_reducible refine (encrypt_c (fun _ => 0#8) id p (byt key) b w3 (by rw [length_byt]; exact HK.out) hc3 HB.out).mono ?_; rw [← HY.out]; rintro e w4 ⟨rfl, hb4⟩))
        go_ret
        exact ⟨rfl, ((hb1.trans (hb2.mono hb1.size)).trans (hb3.mono (Nat.le_trans hb1.size hb2.size))).trans (hb4.mono (Nat.le_trans hb1.size (Nat.le_trans hb2.size hb3.size)))⟩
      · have HK := Lib.hid hk
        clear hk
        go_enter Try.func4, Try.ntmps4
        go_wp2_with (first
          | (go_at_call 11; refine (wakes_c _).mono ?_; rintro e w1 ⟨rfl, hb1⟩)
          | (go_at_call 13; refine (new_c (fun _ => 0#8) id key _ HK.out).mono ?_; rintro e w2 ⟨p, rfl, hp, hc2, hb2⟩))
        all_goals go_ret
        all_goals exact ⟨rfl, hb1.trans (hb2.mono hb1.size)⟩
    · have HK := Lib.hid hk
      clear hk
      go_enter Try.func4, Try.ntmps4
      go_wp2_with (first
        | (go_at_call 11; refine (wakes_c _).mono ?_; rintro e w1 ⟨rfl, hb1⟩)
        | (go_at_call 13; refine (new_c (fun _ => 0#8) id key _ HK.out).mono ?_; rintro e w2 ⟨p, rfl, hp, hc2, hb2⟩))
      all_goals go_ret
      all_goals exact ⟨rfl, hb1.trans (hb2.mono hb1.size)⟩
  · have HK := Lib.hid hk
    clear hk
    go_enter Try.func4, Try.ntmps4
    go_wp2_with (first
      | (go_at_call 11; refine (wakes_c _).mono ?_; rintro e w1 ⟨rfl, hb1⟩)
      | (go_at_call 13; refine (new_no key _ HK.out).mono ?_; rintro e w2 ⟨rfl, rfl⟩))
    go_ret
    exact ⟨rfl, hb1⟩
end Go.Proofs.Ytcdhkpndpadbhaa
