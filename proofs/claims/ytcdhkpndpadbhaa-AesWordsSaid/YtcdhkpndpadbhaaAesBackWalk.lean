/-
  The law AesBack answers true at every key, block and order. No conditions.
-/
import Derived.Test.YtcdhkpndpadbhaaAesWakes
import Derived.Test.YtcdhkpndpadbhaaAesDec
namespace Go.Proofs.Ytcdhkpndpadbhaa
open Go.RowKit
set_option linter.unusedSimpArgs false
set_option linter.unusedVariables false
theorem refRight_yes (s : ByteArray) (w : World) (h : Aes.okKey s.size) : Calls Try.prog 18 #[.string s] w fun e w' => e = .returned (.bool true) ∧ w = w' := by
  rcases h with h | h | h
  all_goals
    go_enter Try.func18, Try.ntmps18
    go_wp2
    go_ret
    exact ⟨rfl, rfl⟩
theorem refRight_no (s : ByteArray) (w : World) (h : ¬ Aes.okKey s.size) : Calls Try.prog 18 #[.string s] w fun e w' => e = .returned (.bool false) ∧ w = w' := by
  have h1 : ((s.size : Int) == 16) = false := by rw [beq_eq_false_iff_ne]; intro e; exact h (.inl (by omega))
  have h2 : ((s.size : Int) == 24) = false := by rw [beq_eq_false_iff_ne]; intro e; exact h (.inr (.inl (by omega)))
  have h3 : ((s.size : Int) == 32) = false := by rw [beq_eq_false_iff_ne]; intro e; exact h (.inr (.inr (by omega)))
  clear h
  go_enter Try.func18, Try.ntmps18
  go_wp2
  go_ret
  exact ⟨rfl, rfl⟩
theorem Aes.str_dec_enc (key a : ByteArray) (hk : Aes.okKey key.size) (ha : a.size = 16) : str (Aes.dec (Aes.words (byt key)) (byt (str (Aes.enc (Aes.words (byt key)) (byt a))))) = a := by
  obtain ⟨R, h1, h2, _⟩ := Aes.words_len (byt key) (by rw [length_byt]; exact hk)
  rw [byt_str, Aes.dec_enc _ R h1 h2 _ (by rw [length_byt]; exact ha), str_byt]
theorem Aes.str_enc_dec (key a : ByteArray) (hk : Aes.okKey key.size) (ha : a.size = 16) : str (Aes.enc (Aes.words (byt key)) (byt (str (Aes.dec (Aes.words (byt key)) (byt a))))) = a := by
  obtain ⟨R, h1, h2, _⟩ := Aes.words_len (byt key) (by rw [length_byt]; exact hk)
  rw [byt_str, Aes.enc_dec _ R h1 h2 _ (by rw [length_byt]; exact ha), str_byt]
theorem Aes.size_enc' (key a : ByteArray) (hk : Aes.okKey key.size) : (str (Aes.enc (Aes.words (byt key)) (byt a))).size = 16 := by
  obtain ⟨R, h1, h2, _⟩ := Aes.words_len (byt key) (by rw [length_byt]; exact hk)
  rw [size_str]; exact Aes.length_enc _ _ R h1 h2
set_option maxHeartbeats 2000000 in
set_option maxRecDepth 100000 in
theorem walk_AesBack (key : ByteArray) (hkey : key.size ≤ 140737488351232) (a : ByteArray) (hsa : a.size ≤ 140737488351232) (first : Bool) (w : World) :
    Calls Try.prog 8 #[.string key, .string a, .bool first] w fun e w' => e = .returned (.bool true) ∧ Below w.heap.size w w' := by
  by_cases hk : Aes.okKey key.size
  · by_cases ha : a.size = 16
    · obtain ⟨x, hx⟩ : ∃ x, x = str (Aes.enc (Aes.words (byt key)) (byt a)) := ⟨_, rfl⟩
      obtain ⟨z, hz⟩ : ∃ z, z = str (Aes.dec (Aes.words (byt key)) (byt a)) := ⟨_, rfl⟩
      have hdx := Aes.str_dec_enc key a hk ha
      have hez := Aes.str_enc_dec key a hk ha
      have hxs := Aes.size_enc' key a hk
      have hzs : (str (Aes.dec (Aes.words (byt key)) (byt a))).size = 16 := by rw [size_str]; exact Aes.length_dec _ _
      rw [← hx] at hdx hxs
      rw [← hz] at hez hzs
      have hkl : Aes.okKey (byt key).length := by rw [length_byt]; exact hk
      have HX := Lib.hid hx
      have HZ := Lib.hid hz
      have HDX := Lib.hid hdx
      have HEZ := Lib.hid hez
      have HXS := Lib.hid hxs
      have HZS := Lib.hid hzs
      have HK := Lib.hid hk
      have HKL := Lib.hid hkl
      have HA := Lib.hid ha
      clear hx hz hdx hez hxs hzs hk hkl
      cases first
      all_goals
        go_enter Try.func8, Try.ntmps8
        go_wp2_with (first
          | (go_at_call 11; refine (wakes_c _).mono ?_; rintro e w1 ⟨rfl, hb⟩)
          | (go_at_call 13; refine (new_c Aes.bk Aes.undo key _ HK.out).mono ?_; rintro e w2 ⟨p, rfl, hp, hc, hb2⟩; have hp := Nat.le_trans hb.size hp; have hb := hb.trans (hb2.mono hb.size); clear hb2)
          | (go_at_call 14; with_reducible refine (encrypt_c Aes.bk Aes.undo p (byt key) a _ HKL.out hc HA.out).mono ?_; rw [← HX.out]; rintro e w3 ⟨rfl, hb2⟩; have hc := hc.below hb2; have hb := hb.trans (hb2.mono hb.size); clear hb2)
          | (go_at_call 14; with_reducible refine (encrypt_c Aes.bk Aes.undo p (byt key) z _ HKL.out hc HZS.out).mono ?_; rw [HEZ.out]; rintro e w3 ⟨rfl, hb2⟩; have hc := hc.below hb2; have hb := hb.trans (hb2.mono hb.size); clear hb2)
          | (go_at_call 21; with_reducible refine (decrypt_c w.heap.size p (byt key) a _ HKL.out hc hp HA.out).mono ?_; rw [← HZ.out]; rintro e w3 ⟨rfl, hb2, hc⟩; have hb := hb.trans hb2; clear hb2)
          | (go_at_call 21; with_reducible refine (decrypt_c w.heap.size p (byt key) x _ HKL.out hc hp HXS.out).mono ?_; rw [HDX.out]; rintro e w3 ⟨rfl, hb2, hc⟩; have hb := hb.trans hb2; clear hb2))
        go_ret
        exact ⟨rfl, hb⟩
    · have HK := Lib.hid hk
      clear hk
      go_enter Try.func8, Try.ntmps8
      go_wp2_with (first
        | (go_at_call 11; refine (wakes_c _).mono ?_; rintro e w1 ⟨rfl, hb⟩)
        | (go_at_call 18; refine (refRight_yes _ _ HK.out).mono ?_; rintro e w1 ⟨rfl, rfl⟩)
        | (go_at_call 13; refine (new_c Aes.bk Aes.undo key _ HK.out).mono ?_; rintro e w2 ⟨p, rfl, hp, hc, hb2⟩; have hb := hb.trans (hb2.mono hb.size); clear hb2))
      go_ret
      exact ⟨rfl, hb⟩
  · have HK := Lib.hid hk
    clear hk
    go_enter Try.func8, Try.ntmps8
    go_wp2_with (first
      | (go_at_call 11; refine (wakes_c _).mono ?_; rintro e w1 ⟨rfl, hb⟩)
      | (go_at_call 18; refine (refRight_no _ _ HK.out).mono ?_; rintro e w1 ⟨rfl, rfl⟩)
      | (go_at_call 13; refine (new_no key _ HK.out).mono ?_; rintro e w2 ⟨rfl, rfl⟩))
    go_ret
    exact ⟨rfl, hb⟩
end Go.Proofs.Ytcdhkpndpadbhaa
