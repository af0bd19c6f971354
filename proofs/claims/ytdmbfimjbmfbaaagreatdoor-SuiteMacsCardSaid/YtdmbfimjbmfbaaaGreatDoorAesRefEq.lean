/-
  AES: the reference's cipher is the program's. No program in sight. Conditions as each says. AES: the contracts, said of lists of bytes. Conditions as each says. Chains of blocks, plainly. No conditions.
-/
import Derived.Test.YtdmbfimjbmfbaaaGreatDoorAesRefA
import Derived.Test.YtdmbfimjbmfbaaaGreatDoorAesRefN
import Derived.Test.YtdmbfimjbmfbaaaGreatDoorAesMix
import Derived.Test.YtdmbfimjbmfbaaaGreatDoorOct
import Derived.Test.YtdmbfimjbmfbaaaGreatDoorAesBackPlain
import Derived.Test.YtdmbfimjbmfbaaaGreatDoorGenOwn
namespace Go.Proofs.YtdmbfimjbmfbaaaGreatDoor
namespace Aes
theorem c1_all : ∀ n, n < 256 → mul 1#8 (BitVec.ofNat 8 n) = BitVec.ofNat 8 n := by decide +kernel
theorem c2_all : ∀ n, n < 256 → mul 2#8 (BitVec.ofNat 8 n) = xt (BitVec.ofNat 8 n) := by decide +kernel
theorem c3_all : ∀ n, n < 256 → mul 3#8 (BitVec.ofNat 8 n) = xt (BitVec.ofNat 8 n) ^^^ BitVec.ofNat 8 n := by decide +kernel
theorem c0_all : ∀ n, n < 256 → mul 0#8 (BitVec.ofNat 8 n) = 0#8 := by decide +kernel
theorem k1 (x : BitVec 8) : mul 1#8 x = x := by
  have := c1_all _ x.isLt
  rwa [BitVec.ofNat_toNat, BitVec.setWidth_eq] at this
theorem k2 (x : BitVec 8) : mul 2#8 x = xt x := by
  have := c2_all _ x.isLt
  rwa [BitVec.ofNat_toNat, BitVec.setWidth_eq] at this
theorem k3 (x : BitVec 8) : mul 3#8 x = xt x ^^^ x := by
  have := c3_all _ x.isLt
  rwa [BitVec.ofNat_toNat, BitVec.setWidth_eq] at this
theorem k0 (x : BitVec 8) : mul 0#8 x = 0#8 := by
  have := c0_all _ x.isLt
  rwa [BitVec.ofNat_toNat, BitVec.setWidth_eq] at this
theorem mul_left' (a b x : BitVec 8) : mul (a ^^^ b) x = mul a x ^^^ mul b x := by
  rw [mul_comm (a ^^^ b) x, mul_right, mul_comm x a, mul_comm x b]
/-- the columns one by one -/
theorem rCols_eq (f y : Nat → BitVec 8) : ∀ c j, rCols f y c j = if j < 4 * c then colAcc y (j / 4) f (j % 4) 4 else y j := by
  intro c
  induction c with
  | zero => intro j; rw [if_neg (by omega)]; rfl
  | succ c ih =>
    intro j
    show column (rCols f y c) c f j = _
    have hacc : ∀ r k, k ≤ 4 → colAcc (rCols f y c) c f r k = colAcc y c f r k := by
      intro r k
      induction k with
      | zero => intro _; rfl
      | succ k ihk =>
        intro hk
        show colAcc (rCols f y c) c f r k ^^^ mul _ (rCols f y c (4 * c + k)) = colAcc y c f r k ^^^ mul _ (y (4 * c + k))
        rw [ihk (by omega), ih, if_neg (by omega)]
    unfold column
    by_cases h : 4 * c ≤ j ∧ j < 4 * c + 4
    · rw [if_pos h, if_pos (by omega), hacc _ 4 (Nat.le_refl _), show j / 4 = c from by omega, show j % 4 = j - 4 * c from by omega]
    · rw [if_neg h, ih]
      by_cases h2 : j < 4 * c
      · rw [if_pos h2, if_pos (by omega)]
      · rw [if_neg h2, if_neg (by omega)]
theorem acc4 (x : Nat → BitVec 8) (c : Nat) (f : Nat → BitVec 8) (r : Nat) : colAcc x c f r 4 =
    mul (f ((0 + 4 - r) % 4)) (x (4 * c)) ^^^ mul (f ((1 + 4 - r) % 4)) (x (4 * c + 1)) ^^^ mul (f ((2 + 4 - r) % 4)) (x (4 * c + 2)) ^^^ mul (f ((3 + 4 - r) % 4)) (x (4 * c + 3)) := by
  show (((0#8 ^^^ _) ^^^ _) ^^^ _) ^^^ _ = _
  rw [BitVec.zero_xor]
  rfl
/-- four bytes of a state as a word -/
def wd (x : Nat → BitVec 8) (c : Nat) : BitVec 32 := word (x (4 * c)) (x (4 * c + 1)) (x (4 * c + 2)) (x (4 * c + 3))
theorem byte_word (a b c d : BitVec 8) (r : Nat) (hr : r < 4) : byteOf (word a b c d) r = if r = 0 then a else if r = 1 then b else if r = 2 then c else d := by
  match r, hr with
  | 0, _ => exact byteOf0 ..
  | 1, _ => exact byteOf1 ..
  | 2, _ => exact byteOf2 ..
  | 3, _ => exact byteOf3 ..
theorem byte_wd (x : Nat → BitVec 8) (j : Nat) : byteOf (wd x (j / 4)) (j % 4) = x j := by
  unfold wd
  rw [byte_word _ _ _ _ _ (by omega)]
  have h : j % 4 = 0 ∨ j % 4 = 1 ∨ j % 4 = 2 ∨ j % 4 = 3 := by omega
  rcases h with h | h | h | h
  · rw [if_pos h]; congr 1; omega
  · rw [if_neg (by omega), if_pos h]; congr 1; omega
  · rw [if_neg (by omega), if_neg (by omega), if_pos h]; congr 1; omega
  · rw [if_neg (by omega), if_neg (by omega), if_neg (by omega)]; congr 1; omega
theorem mixed (x : Nat → BitVec 8) (c r : Nat) (hr : r < 4) : colAcc x c fm r 4 = byteOf (mix (wd x c)) r := by
  unfold wd
  rw [mix_word, byte_word _ _ _ _ _ hr, acc4]
  generalize x (4 * c) = a
  generalize x (4 * c + 1) = b
  generalize x (4 * c + 2) = d
  generalize x (4 * c + 3) = e
  match r, hr with
  | 0, _ => show mul 2#8 a ^^^ mul 3#8 b ^^^ mul 1#8 d ^^^ mul 1#8 e = _; rw [k2, k3, k1, k1, if_pos rfl, xt_xor]; ac_rfl
  | 1, _ => show mul 1#8 a ^^^ mul 2#8 b ^^^ mul 3#8 d ^^^ mul 1#8 e = xt (b ^^^ d) ^^^ d ^^^ e ^^^ a; rw [k2, k3, k1, k1, xt_xor]; ac_rfl
  | 2, _ => show mul 1#8 a ^^^ mul 1#8 b ^^^ mul 2#8 d ^^^ mul 3#8 e = xt (d ^^^ e) ^^^ e ^^^ a ^^^ b; rw [k2, k3, k1, k1, xt_xor]; ac_rfl
  | 3, _ => show mul 3#8 a ^^^ mul 1#8 b ^^^ mul 1#8 d ^^^ mul 2#8 e = xt (e ^^^ a) ^^^ a ^^^ b ^^^ d; rw [k2, k3, k1, k1, xt_xor]; ac_rfl
theorem four (p q r s x : BitVec 8) : mul p x ^^^ mul q x ^^^ mul r x ^^^ mul s x = mul (p ^^^ q ^^^ r ^^^ s) x := by rw [mul_left', mul_left', mul_left']
/-! the states, word by word -/
theorem shift_word (x : Nat → BitVec 32) (i : Nat) : shifted x i = word (byteOf (x i) 0) (byteOf (x ((i + 1) % 4)) 1) (byteOf (x ((i + 2) % 4)) 2) (byteOf (x ((i + 3) % 4)) 3) := by
  unfold shifted
  generalize x i = a
  generalize x ((i + 1) % 4) = b
  generalize x ((i + 2) % 4) = c
  generalize x ((i + 3) % 4) = d
  rw [show 4278190080#32 = word 255#8 0#8 0#8 0#8 from by decide, show 16711680#32 = word 0#8 255#8 0#8 0#8 from by decide, show 65280#32 = word 0#8 0#8 255#8 0#8 from by decide, show 255#32 = word 0#8 0#8 0#8 255#8 from by decide]
  have e : ∀ y : BitVec 32, y = word (byteOf y 0) (byteOf y 1) (byteOf y 2) (byteOf y 3) := fun y => (word_byteOf y).symm
  have ff : ∀ y : BitVec 8, y &&& 255#8 = y := fun y => by
    have : (255#8 : BitVec 8) = BitVec.allOnes 8 := by decide
    rw [this, BitVec.and_allOnes]
  conv => lhs; rw [e a, e b, e c, e d]
  rw [word_and, word_and, word_and, word_and, ff, ff, ff, ff]
  simp only [BitVec.and_zero]
  unfold word
  simp only [BitVec.setWidth_zero, BitVec.zero_shiftLeft, BitVec.or_zero, BitVec.zero_or]
theorem byte_shift (x : Nat → BitVec 32) (i r : Nat) (hi : i < 4) (hr : r < 4) : byteOf (shifted x i) r = byteOf (x ((i + r) % 4)) r := by
  rw [shift_word, byte_word _ _ _ _ _ hr]
  match r, hr with
  | 0, _ => rw [if_pos rfl, Nat.add_zero, Nat.mod_eq_of_lt hi]
  | 1, _ => rfl
  | 2, _ => rfl
  | 3, _ => rfl
theorem byte_col (s : List (BitVec 8)) (j : Nat) : byteOf (col s (j / 4)) (j % 4) = gb s j := byte_wd (gb s) j
section
variable (W : List (BitVec 32)) (R : Nat) (s : List (BitVec 8))
theorem sub_st (x : Nat → BitVec 8) (X : Nat → BitVec 32) (h : ∀ j, j < 16 → x j = byteOf (X (j / 4)) (j % 4)) (j : Nat) (hj : j < 16) : rSub x j = byteOf (subW sb (shifted X (j / 4))) (j % 4) := by
  unfold rSub
  rw [byte_sub _ _ (by omega), byte_shift _ _ _ (by omega) (by omega), h _ (by omega), show (4 * ((j / 4 + j % 4) % 4) + j % 4) / 4 = (j / 4 + j % 4) % 4 from by omega, show (4 * ((j / 4 + j % 4) % 4) + j % 4) % 4 = j % 4 from by omega]
theorem wd_of (y : Nat → BitVec 8) (Y : Nat → BitVec 32) (h : ∀ j, j < 16 → y j = byteOf (Y (j / 4)) (j % 4)) (c : Nat) (hc : c < 4) : wd y c = Y c := by
  unfold wd
  rw [h _ (by omega), h _ (by omega), h _ (by omega), h _ (by omega), show 4 * c / 4 = c from by omega, show 4 * c % 4 = 0 from by omega, show (4 * c + 1) / 4 = c from by omega, show (4 * c + 1) % 4 = 1 from by omega,
    show (4 * c + 2) / 4 = c from by omega, show (4 * c + 2) % 4 = 2 from by omega, show (4 * c + 3) / 4 = c from by omega, show (4 * c + 3) % 4 = 3 from by omega, word_byteOf]
theorem cols_fm (y : Nat → BitVec 8) (Y : Nat → BitVec 32) (h : ∀ j, j < 16 → y j = byteOf (Y (j / 4)) (j % 4)) (j : Nat) (hj : j < 16) : rCols fm y 4 j = byteOf (mix (Y (j / 4))) (j % 4) := by
  rw [rCols_eq, if_pos (by omega), mixed _ _ _ (by omega), wd_of y Y h _ (by omega)]
theorem add_st (x : Nat → BitVec 8) (X : Nat → BitVec 32) (r j : Nat) (hj : j < 16) (h : ∀ j, j < 16 → x j = byteOf (X (j / 4)) (j % 4)) : rAdd W x r j = byteOf (X (j / 4) ^^^ gw W (4 * r + j / 4)) (j % 4) := by
  unfold rAdd
  rw [h j hj, byte_xor]
theorem rEnc_st : ∀ r j, j < 16 → rEnc W R s r j = byteOf (encSt W R s r (j / 4)) (j % 4) := by
  intro r
  induction r with
  | zero =>
    intro j hj
    show rAdd W (gb s) 0 j = byteOf (col s (j / 4) ^^^ gw W (j / 4)) (j % 4)
    rw [add_st W (gb s) (col s) 0 j hj (fun j _ => (byte_col s j).symm), Nat.mul_zero, Nat.zero_add]
  | succ r ih =>
    intro j hj
    show rAdd W (if r + 1 < R then rCols fm (rSub (rEnc W R s r)) 4 else rSub (rEnc W R s r)) (r + 1) j = byteOf (encCol W R (r + 1) (encSt W R s r) (j / 4)) (j % 4)
    have hs := sub_st (rEnc W R s r) (encSt W R s r) ih
    unfold encCol
    by_cases h : r + 1 < R
    · rw [if_pos h, if_pos h]
      exact add_st W _ (fun i => mix (subW sb (shifted (encSt W R s r) i))) _ j hj (fun j hj => cols_fm _ (fun i => subW sb (shifted (encSt W R s r) i)) hs j hj)
    · rw [if_neg h, if_neg h]
      exact add_st W _ (fun i => subW sb (shifted (encSt W R s r) i)) _ j hj hs
theorem rEnc_enc (hW : W.length = 4 * (R + 1)) (hR : 1 ≤ R) : (List.range 16).map (rEnc W R s R) = enc W s := by
  rw [← enc_eq W s R hW hR]
  exact List.map_congr_left (fun j hj => rEnc_st W R s R j (List.mem_range.1 hj))
end
end Aes
end Go.Proofs.YtdmbfimjbmfbaaaGreatDoor
namespace Go.Proofs.YtdmbfimjbmfbaaaGreatDoor
open Go.RowKit
set_option linter.unusedSimpArgs false
set_option linter.unusedVariables false
theorem new_l (key : List (BitVec 8)) (w : World) (hk : Aes.okKey key.length) :
    Calls Tryz.prog 30 #[.string (str key)] w fun e w' => ∃ b, e = .returned (.tuple #[.pointer (some ⟨b, 0, none⟩), .int .i64 0]) ∧ w.heap.size ≤ b ∧ CiphAt Aes.bk Aes.undo w' b (Aes.words key) ∧ Below w.heap.size w w' := by
  have h := new_c Aes.bk Aes.undo (str key) w (by rw [size_str]; exact hk)
  rw [byt_str] at h
  exact h
theorem right_l (key : List (BitVec 8)) (w : World) (hk : Aes.okKey key.length) : Calls Tryz.prog 22 #[.string (str key)] w fun e w' => e = .returned (.bool true) ∧ w = w' := refRight_yes _ _ (by rw [size_str]; exact hk)
theorem enc_l (b : Nat) (key s : List (BitVec 8)) (w : World) (hk : Aes.okKey key.length) (h : CiphAt Aes.bk Aes.undo w b (Aes.words key)) (hs : s.length = 16) :
    Calls Tryz.prog 31 #[.pointer (some ⟨b, 0, none⟩), .string (str s)] w fun e w' => e = .returned (.tuple #[.string (str (Aes.enc (Aes.words key) s)), .int .i64 0]) ∧ Below w.heap.size w w' := by
  have h := encrypt_c Aes.bk Aes.undo b key (str s) w hk h (by rw [size_str]; exact hs)
  rw [byt_str] at h
  exact h
theorem CiphAt.onward {w : World} {b g t n : Nat} {F : Nat → Value} {W : List (BitVec 32)} (h : CiphAt Aes.bk Aes.undo w b W) (r : Row w g t n F) (h1 : t ≠ 113) (h2 : t ≠ 103) :
    ∀ w', w.grownBy w' (some g) → CiphAt Aes.bk Aes.undo w' b W := by
  obtain ⟨x, D, r1, r2, r3⟩ := h
  intro w' hg
  refine ⟨x, D, r1.stepG hg (fun e => r.ne_ r1 h1 e.symm), r2.stepG hg (fun e => r.ne_ r2 h2 e.symm), fun u hu => ?_⟩
  obtain ⟨h4, h5⟩ := r3 u hu
  exact ⟨h4, h5.stepG hg (fun e => r.ne_ h5 h2 e.symm)⟩
/-! the reference -/
theorem refNew_l (key : List (BitVec 8)) (w : World) (hk : Aes.okKey key.length) :
    Calls Tryz.prog 23 #[.string (str key)] w fun e w' => ∃ b g cap, e = .returned (.pointer (some ⟨b, 0, none⟩)) ∧ Below w.heap.size w w' ∧ w.heap.size ≤ b ∧ w.heap.size ≤ g ∧
      Row w' b 84 513 (fun j => if j < 256 then U8 (Aes.sb j) else if j < 512 then U8 (Aes.bk (j - 256)) else .slice (some ⟨g, 0, none⟩) (Aes.words key).length cap) ∧
      Row w' g 88 ((Aes.words key).length * 4) (fun j => U8 (Aes.byteOf (Aes.gw (Aes.words key) (j / 4)) (j % 4))) := by
  obtain ⟨n, hn, h4, h8⟩ : ∃ n, key.length = 4 * n ∧ 4 ≤ n ∧ n ≤ 8 := by
    rcases hk with h | h | h
    · exact ⟨4, by omega, by omega, by omega⟩
    · exact ⟨6, by omega, by omega, by omega⟩
    · exact ⟨8, by omega, by omega, by omega⟩
  have e : key.length / 4 = n := by omega
  have hl : (Aes.words key).length = 4 * (n + 7) := by rw [Aes.length_words, e]
  refine (refNew_w key n (Aes.words key) ?_ hn h4 h8 w).mono ?_
  · intro k hk
    unfold Aes.words
    rw [e]
    exact Aes.gw_next _ _ _ _ (by omega) hk
  · rintro _ w' ⟨b, v, rfl, hb, hge, hr, ho⟩
    obtain ⟨g, cap, rfl, hg, hc, _, hrg⟩ := ho.opened (by omega)
    rw [hl]
    exact ⟨b, g, cap, rfl, hb, hge, hg, hr, hrg⟩
theorem refEnc_l (bx g cap : Nat) (key s : List (BitVec 8)) (w : World) (hk : Aes.okKey key.length) (hs : s.length = 16) (r1 : Row w bx 84 513 (fun j => if j < 256 then U8 (Aes.sb j) else if j < 512 then U8 (Aes.bk (j - 256)) else .slice (some ⟨g, 0, none⟩) (Aes.words key).length cap))
    (r2 : Row w g 88 ((Aes.words key).length * 4) (fun j => U8 (Aes.byteOf (Aes.gw (Aes.words key) (j / 4)) (j % 4)))) :
    Calls Tryz.prog 25 #[.pointer (some ⟨bx, 0, none⟩), .string (str s)] w fun e w' => e = .returned (.string (str (Aes.enc (Aes.words key) s))) ∧ Below w.heap.size w w' := by
  obtain ⟨R, h1, h2, h3⟩ := Aes.words_len key hk
  rw [← Aes.rEnc_enc (Aes.words key) R s h1 h2]
  exact refEnc_c bx g _ cap R (Aes.words key) s hs h1 h3 w r1 r2
end Go.Proofs.YtdmbfimjbmfbaaaGreatDoor
namespace Go.Proofs.YtdmbfimjbmfbaaaGreatDoor
open Go.RowKit
set_option linter.unusedSimpArgs false
set_option linter.unusedVariables false
namespace Cb
abbrev L8 := List (BitVec 8)
theorem enc_len (key s : L8) (hk : Aes.okKey key.length) : (Aes.enc (Aes.words key) s).length = 16 := by
  obtain ⟨R, h1, h2, h3⟩ := Aes.words_len key hk
  exact Aes.length_enc _ _ R h1 h2
/-- block t of a text -/
def bk (s : L8) (t : Nat) : L8 := (s.drop (16 * t)).take 16
theorem bk_len (s : L8) (t : Nat) (h : 16 * t + 16 ≤ s.length) : (bk s t).length = 16 := by
  unfold bk
  rw [List.length_take, List.length_drop]; omega
theorem gb_bk (s : L8) (t i : Nat) (h : i < 16) : gb (bk s t) i = gb s (16 * t + i) := by
  unfold bk
  rw [gb_take _ _ _ h, gb_drop]
theorem bk_at (s : L8) (t e : Nat) (he : e = 16) : (s.drop (16 * t)).take e = bk s t := by subst he; rfl
/-- the chain behind t blocks -/
def ch (key iv s : L8) : Nat → L8
  | 0 => iv
  | t + 1 => Aes.enc (Aes.words key) (Oct.xor (ch key iv s t) (bk s t))
theorem ch_len (key iv s : L8) (hk : Aes.okKey key.length) (hi : iv.length = 16) : ∀ t, (ch key iv s t).length = 16
  | 0 => hi
  | t + 1 => enc_len key _ hk
def chain (key iv s : L8) : L8 := (List.range s.length).map fun j => gb (ch key iv s (j / 16 + 1)) (j % 16)
/-- what is filled up to a size -/
def pn (n z : Nat) : Nat := z - n % z
def pad (s : L8) (z : Nat) : L8 := s ++ List.replicate (pn s.length z) (BitVec.ofNat 8 (pn s.length z))
theorem gb_pad (s : L8) (z j : Nat) : gb (pad s z) j = if j < s.length then gb s j else if j < s.length + pn s.length z then BitVec.ofNat 8 (pn s.length z) else 0#8 := by
  unfold pad
  rw [gb_append]
  by_cases h : j < s.length
  · rw [if_pos h, if_pos h]
  · rw [if_neg h, if_neg h]
    by_cases h2 : j < s.length + pn s.length z
    · rw [if_pos h2]
      simp only [gb, List.getD_eq_getElem?_getD, List.getElem?_replicate, if_pos (show j - s.length < pn s.length z by omega), Option.getD_some]
    · rw [if_neg h2]
      exact gb_out _ _ (by rw [List.length_replicate]; omega)
/-- filled up by noughts to whole blocks -/
def zn (n : Nat) : Nat := (16 - n % 16) % 16
def z (s : L8) : L8 := s ++ List.replicate (zn s.length) 0#8
theorem z_len (s : L8) : (z s).length = s.length + zn s.length := by simp [z]
theorem gb_z (s : L8) (j : Nat) : gb (z s) j = gb s j := by
  unfold z
  rw [gb_append]
  split
  · rfl
  · rename_i h
    rw [gb_rep, gb_out s j (by omega)]
def zero16 : L8 := List.replicate 16 0#8
def mac (key s : L8) : L8 := ch key zero16 (z s) ((s.length + 15) / 16)
theorem mac_step (key s : L8) (t k j : Nat) (hk : Aes.okKey key.length) (hj : j < 16) (ht : 16 * t < s.length) (hm : k = min 16 (s.length - 16 * t)) :
    gb (Oct.xor (ch key zero16 (z s) t) (bk (z s) t)) j = if j < k then gb (ch key zero16 (z s) t) j ^^^ gb s (16 * t + j) else gb (ch key zero16 (z s) t) j := by
  have hl := ch_len key zero16 (z s) hk rfl t
  have hz : (z s).length = s.length + (16 - s.length % 16) % 16 := z_len s
  have hb := bk_len (z s) t (by omega)
  rw [Oct.gb_xor _ _ _ (by omega), gb_bk _ _ _ hj, gb_z]
  by_cases e : j < k
  · rw [if_pos e]
  · rw [if_neg e, gb_out s _ (by omega)]
    exact BitVec.xor_zero
def wk : L8 := [48#8, 49#8, 50#8, 51#8, 52#8, 53#8, 54#8, 55#8, 56#8, 57#8, 97#8, 98#8, 99#8, 100#8, 101#8, 102#8]
def wt : L8 := [97#8, 98#8, 99#8]
end Cb
end Go.Proofs.YtdmbfimjbmfbaaaGreatDoor
