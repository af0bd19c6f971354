/-
  AES: the reference's cipher is the program's. No program in sight. Conditions as each says.
-/
import Derived.Test.YtepogbfkmflooaaGreatDoorAesRefA
import Derived.Test.YtepogbfkmflooaaGreatDoorAesRefN
import Derived.Test.YtepogbfkmflooaaGreatDoorAesMix
import Derived.Test.YtepogbfkmflooaaGreatDoorAesPlain
namespace Go.Proofs.YtepogbfkmflooaaGreatDoor
namespace Aes
theorem c1_all : ∀ n, n < 256 → mul 1#8 (BitVec.ofNat 8 n) = BitVec.ofNat 8 n := by decide +kernel
theorem c2_all : ∀ n, n < 256 → mul 2#8 (BitVec.ofNat 8 n) = xt (BitVec.ofNat 8 n) := by decide +kernel
theorem c3_all : ∀ n, n < 256 → mul 3#8 (BitVec.ofNat 8 n) = xt (BitVec.ofNat 8 n) ^^^ BitVec.ofNat 8 n := by decide +kernel
theorem c0_all : ∀ n, n < 256 → mul 0#8 (BitVec.ofNat 8 n) = 0#8 := by decide +kernel
theorem k1 (x : BitVec 8) : mul 1#8 x = x := by
  have := c1_all _ x.isLt
  rwa [BitVec.ofNat_toNat, BitVec.setWidth_eq] at this
theorem k2 (x : BitVec 8) : mul 2#8 x = xt x := by
  have := c2_all _ x.isLt
  rwa [BitVec.ofNat_toNat, BitVec.setWidth_eq] at this
theorem k3 (x : BitVec 8) : mul 3#8 x = xt x ^^^ x := by
  have := c3_all _ x.isLt
  rwa [BitVec.ofNat_toNat, BitVec.setWidth_eq] at this
theorem k0 (x : BitVec 8) : mul 0#8 x = 0#8 := by
  have := c0_all _ x.isLt
  rwa [BitVec.ofNat_toNat, BitVec.setWidth_eq] at this
theorem mul_left' (a b x : BitVec 8) : mul (a ^^^ b) x = mul a x ^^^ mul b x := by
  rw [mul_comm (a ^^^ b) x, mul_right, mul_comm x a, mul_comm x b]
/-- the columns one by one -/
theorem rCols_eq (f y : Nat → BitVec 8) : ∀ c j, rCols f y c j = if j < 4 * c then colAcc y (j / 4) f (j % 4) 4 else y j := by
  intro c
  induction c with
  | zero => intro j; rw [if_neg (by omega)]; rfl
  | succ c ih =>
    intro j
    show column (rCols f y c) c f j = _
    have hacc : ∀ r k, k ≤ 4 → colAcc (rCols f y c) c f r k = colAcc y c f r k := by
      intro r k
      induction k with
      | zero => intro _; rfl
      | succ k ihk =>
        intro hk
        show colAcc (rCols f y c) c f r k ^^^ mul _ (rCols f y c (4 * c + k)) = colAcc y c f r k ^^^ mul _ (y (4 * c + k))
        rw [ihk (by omega), ih, if_neg (by omega)]
    unfold column
    by_cases h : 4 * c ≤ j ∧ j < 4 * c + 4
    · rw [if_pos h, if_pos (by omega), hacc _ 4 (Nat.le_refl _), show j / 4 = c from by omega, show j % 4 = j - 4 * c from by omega]
    · rw [if_neg h, ih]
      by_cases h2 : j < 4 * c
      · rw [if_pos h2, if_pos (by omega)]
      · rw [if_neg h2, if_neg (by omega)]
theorem acc4 (x : Nat → BitVec 8) (c : Nat) (f : Nat → BitVec 8) (r : Nat) : colAcc x c f r 4 =
    mul (f ((0 + 4 - r) % 4)) (x (4 * c)) ^^^ mul (f ((1 + 4 - r) % 4)) (x (4 * c + 1)) ^^^ mul (f ((2 + 4 - r) % 4)) (x (4 * c + 2)) ^^^ mul (f ((3 + 4 - r) % 4)) (x (4 * c + 3)) := by
  show (((0#8 ^^^ _) ^^^ _) ^^^ _) ^^^ _ = _
  rw [BitVec.zero_xor]
  rfl
/-- four bytes of a state as a word -/
def wd (x : Nat → BitVec 8) (c : Nat) : BitVec 32 := word (x (4 * c)) (x (4 * c + 1)) (x (4 * c + 2)) (x (4 * c + 3))
theorem byte_word (a b c d : BitVec 8) (r : Nat) (hr : r < 4) : byteOf (word a b c d) r = if r = 0 then a else if r = 1 then b else if r = 2 then c else d := by
  match r, hr with
  | 0, _ => exact byteOf0 ..
  | 1, _ => exact byteOf1 ..
  | 2, _ => exact byteOf2 ..
  | 3, _ => exact byteOf3 ..
theorem byte_wd (x : Nat → BitVec 8) (j : Nat) : byteOf (wd x (j / 4)) (j % 4) = x j := by
  unfold wd
  rw [byte_word _ _ _ _ _ (by omega)]
  have h : j % 4 = 0 ∨ j % 4 = 1 ∨ j % 4 = 2 ∨ j % 4 = 3 := by omega
  rcases h with h | h | h | h
  · rw [if_pos h]; congr 1; omega
  · rw [if_neg (by omega), if_pos h]; congr 1; omega
  · rw [if_neg (by omega), if_neg (by omega), if_pos h]; congr 1; omega
  · rw [if_neg (by omega), if_neg (by omega), if_neg (by omega)]; congr 1; omega
theorem mixed (x : Nat → BitVec 8) (c r : Nat) (hr : r < 4) : colAcc x c fm r 4 = byteOf (mix (wd x c)) r := by
  unfold wd
  rw [mix_word, byte_word _ _ _ _ _ hr, acc4]
  generalize x (4 * c) = a
  generalize x (4 * c + 1) = b
  generalize x (4 * c + 2) = d
  generalize x (4 * c + 3) = e
  match r, hr with
  | 0, _ => show mul 2#8 a ^^^ mul 3#8 b ^^^ mul 1#8 d ^^^ mul 1#8 e = _; rw [k2, k3, k1, k1, if_pos rfl, xt_xor]; ac_rfl
  | 1, _ => show mul 1#8 a ^^^ mul 2#8 b ^^^ mul 3#8 d ^^^ mul 1#8 e = xt (b ^^^ d) ^^^ d ^^^ e ^^^ a; rw [k2, k3, k1, k1, xt_xor]; ac_rfl
  | 2, _ => show mul 1#8 a ^^^ mul 1#8 b ^^^ mul 2#8 d ^^^ mul 3#8 e = xt (d ^^^ e) ^^^ e ^^^ a ^^^ b; rw [k2, k3, k1, k1, xt_xor]; ac_rfl
  | 3, _ => show mul 3#8 a ^^^ mul 1#8 b ^^^ mul 1#8 d ^^^ mul 2#8 e = xt (e ^^^ a) ^^^ a ^^^ b ^^^ d; rw [k2, k3, k1, k1, xt_xor]; ac_rfl
theorem four (p q r s x : BitVec 8) : mul p x ^^^ mul q x ^^^ mul r x ^^^ mul s x = mul (p ^^^ q ^^^ r ^^^ s) x := by rw [mul_left', mul_left', mul_left']
theorem un_mixed (x y : Nat → BitVec 8) (c r : Nat) (hr : r < 4) (hy : ∀ k, k < 4 → y (4 * c + k) = colAcc x c fm k 4) : colAcc y c fu r 4 = x (4 * c + r) := by
  have y0 := hy 0 (by omega)
  have y1 := hy 1 (by omega)
  have y2 := hy 2 (by omega)
  have y3 := hy 3 (by omega)
  rw [acc4] at y0 y1 y2 y3 ⊢
  rw [Nat.add_zero] at y0
  rw [y0, y1, y2, y3]
  clear hy y0 y1 y2 y3
  generalize h0 : x (4 * c) = a
  generalize h1 : x (4 * c + 1) = b
  generalize h2 : x (4 * c + 2) = d
  generalize h3 : x (4 * c + 3) = e
  show mul (fu ((0 + 4 - r) % 4)) (mul 2#8 a ^^^ mul 3#8 b ^^^ mul 1#8 d ^^^ mul 1#8 e) ^^^ mul (fu ((1 + 4 - r) % 4)) (mul 1#8 a ^^^ mul 2#8 b ^^^ mul 3#8 d ^^^ mul 1#8 e) ^^^
    mul (fu ((2 + 4 - r) % 4)) (mul 1#8 a ^^^ mul 1#8 b ^^^ mul 2#8 d ^^^ mul 3#8 e) ^^^ mul (fu ((3 + 4 - r) % 4)) (mul 3#8 a ^^^ mul 1#8 b ^^^ mul 1#8 d ^^^ mul 2#8 e) = _
  have key : ∀ p q s t : BitVec 8,
      mul p (mul 2#8 a ^^^ mul 3#8 b ^^^ mul 1#8 d ^^^ mul 1#8 e) ^^^ mul q (mul 1#8 a ^^^ mul 2#8 b ^^^ mul 3#8 d ^^^ mul 1#8 e) ^^^ mul s (mul 1#8 a ^^^ mul 1#8 b ^^^ mul 2#8 d ^^^ mul 3#8 e) ^^^ mul t (mul 3#8 a ^^^ mul 1#8 b ^^^ mul 1#8 d ^^^ mul 2#8 e) =
      mul (mul p 2#8 ^^^ mul q 1#8 ^^^ mul s 1#8 ^^^ mul t 3#8) a ^^^ mul (mul p 3#8 ^^^ mul q 2#8 ^^^ mul s 1#8 ^^^ mul t 1#8) b ^^^ mul (mul p 1#8 ^^^ mul q 3#8 ^^^ mul s 2#8 ^^^ mul t 1#8) d ^^^ mul (mul p 1#8 ^^^ mul q 1#8 ^^^ mul s 3#8 ^^^ mul t 2#8) e := by
    intro p q s t
    simp only [mul_right, ← mul_assoc, ← four]
    ac_rfl
  rw [key]
  match r, hr with
  | 0, _ =>
    show mul (mul 14#8 2#8 ^^^ mul 11#8 1#8 ^^^ mul 13#8 1#8 ^^^ mul 9#8 3#8) a ^^^ mul (mul 14#8 3#8 ^^^ mul 11#8 2#8 ^^^ mul 13#8 1#8 ^^^ mul 9#8 1#8) b ^^^ mul (mul 14#8 1#8 ^^^ mul 11#8 3#8 ^^^ mul 13#8 2#8 ^^^ mul 9#8 1#8) d ^^^ mul (mul 14#8 1#8 ^^^ mul 11#8 1#8 ^^^ mul 13#8 3#8 ^^^ mul 9#8 2#8) e = _
    rw [show mul 14#8 2#8 ^^^ mul 11#8 1#8 ^^^ mul 13#8 1#8 ^^^ mul 9#8 3#8 = 1#8 from by decide +kernel, show mul 14#8 3#8 ^^^ mul 11#8 2#8 ^^^ mul 13#8 1#8 ^^^ mul 9#8 1#8 = 0#8 from by decide +kernel, show mul 14#8 1#8 ^^^ mul 11#8 3#8 ^^^ mul 13#8 2#8 ^^^ mul 9#8 1#8 = 0#8 from by decide +kernel, show mul 14#8 1#8 ^^^ mul 11#8 1#8 ^^^ mul 13#8 3#8 ^^^ mul 9#8 2#8 = 0#8 from by decide +kernel, k0, k0, k0, k1, Nat.add_zero, h0]
    simp
  | 1, _ =>
    show mul (mul 9#8 2#8 ^^^ mul 14#8 1#8 ^^^ mul 11#8 1#8 ^^^ mul 13#8 3#8) a ^^^ mul (mul 9#8 3#8 ^^^ mul 14#8 2#8 ^^^ mul 11#8 1#8 ^^^ mul 13#8 1#8) b ^^^ mul (mul 9#8 1#8 ^^^ mul 14#8 3#8 ^^^ mul 11#8 2#8 ^^^ mul 13#8 1#8) d ^^^ mul (mul 9#8 1#8 ^^^ mul 14#8 1#8 ^^^ mul 11#8 3#8 ^^^ mul 13#8 2#8) e = _
    rw [show mul 9#8 2#8 ^^^ mul 14#8 1#8 ^^^ mul 11#8 1#8 ^^^ mul 13#8 3#8 = 0#8 from by decide +kernel, show mul 9#8 3#8 ^^^ mul 14#8 2#8 ^^^ mul 11#8 1#8 ^^^ mul 13#8 1#8 = 1#8 from by decide +kernel, show mul 9#8 1#8 ^^^ mul 14#8 3#8 ^^^ mul 11#8 2#8 ^^^ mul 13#8 1#8 = 0#8 from by decide +kernel, show mul 9#8 1#8 ^^^ mul 14#8 1#8 ^^^ mul 11#8 3#8 ^^^ mul 13#8 2#8 = 0#8 from by decide +kernel, k0, k0, k0, k1, h1]
    simp
  | 2, _ =>
    show mul (mul 13#8 2#8 ^^^ mul 9#8 1#8 ^^^ mul 14#8 1#8 ^^^ mul 11#8 3#8) a ^^^ mul (mul 13#8 3#8 ^^^ mul 9#8 2#8 ^^^ mul 14#8 1#8 ^^^ mul 11#8 1#8) b ^^^ mul (mul 13#8 1#8 ^^^ mul 9#8 3#8 ^^^ mul 14#8 2#8 ^^^ mul 11#8 1#8) d ^^^ mul (mul 13#8 1#8 ^^^ mul 9#8 1#8 ^^^ mul 14#8 3#8 ^^^ mul 11#8 2#8) e = _
    rw [show mul 13#8 2#8 ^^^ mul 9#8 1#8 ^^^ mul 14#8 1#8 ^^^ mul 11#8 3#8 = 0#8 from by decide +kernel, show mul 13#8 3#8 ^^^ mul 9#8 2#8 ^^^ mul 14#8 1#8 ^^^ mul 11#8 1#8 = 0#8 from by decide +kernel, show mul 13#8 1#8 ^^^ mul 9#8 3#8 ^^^ mul 14#8 2#8 ^^^ mul 11#8 1#8 = 1#8 from by decide +kernel, show mul 13#8 1#8 ^^^ mul 9#8 1#8 ^^^ mul 14#8 3#8 ^^^ mul 11#8 2#8 = 0#8 from by decide +kernel, k0, k0, k0, k1, h2]
    simp
  | 3, _ =>
    show mul (mul 11#8 2#8 ^^^ mul 13#8 1#8 ^^^ mul 9#8 1#8 ^^^ mul 14#8 3#8) a ^^^ mul (mul 11#8 3#8 ^^^ mul 13#8 2#8 ^^^ mul 9#8 1#8 ^^^ mul 14#8 1#8) b ^^^ mul (mul 11#8 1#8 ^^^ mul 13#8 3#8 ^^^ mul 9#8 2#8 ^^^ mul 14#8 1#8) d ^^^ mul (mul 11#8 1#8 ^^^ mul 13#8 1#8 ^^^ mul 9#8 3#8 ^^^ mul 14#8 2#8) e = _
    rw [show mul 11#8 2#8 ^^^ mul 13#8 1#8 ^^^ mul 9#8 1#8 ^^^ mul 14#8 3#8 = 0#8 from by decide +kernel, show mul 11#8 3#8 ^^^ mul 13#8 2#8 ^^^ mul 9#8 1#8 ^^^ mul 14#8 1#8 = 0#8 from by decide +kernel, show mul 11#8 1#8 ^^^ mul 13#8 3#8 ^^^ mul 9#8 2#8 ^^^ mul 14#8 1#8 = 0#8 from by decide +kernel, show mul 11#8 1#8 ^^^ mul 13#8 1#8 ^^^ mul 9#8 3#8 ^^^ mul 14#8 2#8 = 1#8 from by decide +kernel, k0, k0, k0, k1, h3]
    simp
/-! the states, word by word -/
theorem shift_word (x : Nat → BitVec 32) (i : Nat) : shifted x i = word (byteOf (x i) 0) (byteOf (x ((i + 1) % 4)) 1) (byteOf (x ((i + 2) % 4)) 2) (byteOf (x ((i + 3) % 4)) 3) := by
  unfold shifted
  generalize x i = a
  generalize x ((i + 1) % 4) = b
  generalize x ((i + 2) % 4) = c
  generalize x ((i + 3) % 4) = d
  rw [show 4278190080#32 = word 255#8 0#8 0#8 0#8 from by decide, show 16711680#32 = word 0#8 255#8 0#8 0#8 from by decide, show 65280#32 = word 0#8 0#8 255#8 0#8 from by decide, show 255#32 = word 0#8 0#8 0#8 255#8 from by decide]
  have e : ∀ y : BitVec 32, y = word (byteOf y 0) (byteOf y 1) (byteOf y 2) (byteOf y 3) := fun y => (word_byteOf y).symm
  have ff : ∀ y : BitVec 8, y &&& 255#8 = y := fun y => by
    have : (255#8 : BitVec 8) = BitVec.allOnes 8 := by decide
    rw [this, BitVec.and_allOnes]
  conv => lhs; rw [e a, e b, e c, e d]
  rw [word_and, word_and, word_and, word_and, ff, ff, ff, ff]
  simp only [BitVec.and_zero]
  unfold word
  simp only [BitVec.setWidth_zero, BitVec.zero_shiftLeft, BitVec.or_zero, BitVec.zero_or]
theorem byte_shift (x : Nat → BitVec 32) (i r : Nat) (hi : i < 4) (hr : r < 4) : byteOf (shifted x i) r = byteOf (x ((i + r) % 4)) r := by
  rw [shift_word, byte_word _ _ _ _ _ hr]
  match r, hr with
  | 0, _ => rw [if_pos rfl, Nat.add_zero, Nat.mod_eq_of_lt hi]
  | 1, _ => rfl
  | 2, _ => rfl
  | 3, _ => rfl
theorem byte_col (s : List (BitVec 8)) (j : Nat) : byteOf (col s (j / 4)) (j % 4) = gb s j := byte_wd (gb s) j
section
variable (W : List (BitVec 32)) (R : Nat) (s : List (BitVec 8))
theorem sub_st (x : Nat → BitVec 8) (X : Nat → BitVec 32) (h : ∀ j, j < 16 → x j = byteOf (X (j / 4)) (j % 4)) (j : Nat) (hj : j < 16) : rSub x j = byteOf (subW sb (shifted X (j / 4))) (j % 4) := by
  unfold rSub
  rw [byte_sub _ _ (by omega), byte_shift _ _ _ (by omega) (by omega), h _ (by omega), show (4 * ((j / 4 + j % 4) % 4) + j % 4) / 4 = (j / 4 + j % 4) % 4 from by omega, show (4 * ((j / 4 + j % 4) % 4) + j % 4) % 4 = j % 4 from by omega]
theorem wd_of (y : Nat → BitVec 8) (Y : Nat → BitVec 32) (h : ∀ j, j < 16 → y j = byteOf (Y (j / 4)) (j % 4)) (c : Nat) (hc : c < 4) : wd y c = Y c := by
  unfold wd
  rw [h _ (by omega), h _ (by omega), h _ (by omega), h _ (by omega), show 4 * c / 4 = c from by omega, show 4 * c % 4 = 0 from by omega, show (4 * c + 1) / 4 = c from by omega, show (4 * c + 1) % 4 = 1 from by omega,
    show (4 * c + 2) / 4 = c from by omega, show (4 * c + 2) % 4 = 2 from by omega, show (4 * c + 3) / 4 = c from by omega, show (4 * c + 3) % 4 = 3 from by omega, word_byteOf]
theorem cols_fm (y : Nat → BitVec 8) (Y : Nat → BitVec 32) (h : ∀ j, j < 16 → y j = byteOf (Y (j / 4)) (j % 4)) (j : Nat) (hj : j < 16) : rCols fm y 4 j = byteOf (mix (Y (j / 4))) (j % 4) := by
  rw [rCols_eq, if_pos (by omega), mixed _ _ _ (by omega), wd_of y Y h _ (by omega)]
theorem add_st (x : Nat → BitVec 8) (X : Nat → BitVec 32) (r j : Nat) (hj : j < 16) (h : ∀ j, j < 16 → x j = byteOf (X (j / 4)) (j % 4)) : rAdd W x r j = byteOf (X (j / 4) ^^^ gw W (4 * r + j / 4)) (j % 4) := by
  unfold rAdd
  rw [h j hj, byte_xor]
theorem rEnc_st : ∀ r j, j < 16 → rEnc W R s r j = byteOf (encSt W R s r (j / 4)) (j % 4) := by
  intro r
  induction r with
  | zero =>
    intro j hj
    show rAdd W (gb s) 0 j = byteOf (col s (j / 4) ^^^ gw W (j / 4)) (j % 4)
    rw [add_st W (gb s) (col s) 0 j hj (fun j _ => (byte_col s j).symm), Nat.mul_zero, Nat.zero_add]
  | succ r ih =>
    intro j hj
    show rAdd W (if r + 1 < R then rCols fm (rSub (rEnc W R s r)) 4 else rSub (rEnc W R s r)) (r + 1) j = byteOf (encCol W R (r + 1) (encSt W R s r) (j / 4)) (j % 4)
    have hs := sub_st (rEnc W R s r) (encSt W R s r) ih
    unfold encCol
    by_cases h : r + 1 < R
    · rw [if_pos h, if_pos h]
      exact add_st W _ (fun i => mix (subW sb (shifted (encSt W R s r) i))) _ j hj (fun j hj => cols_fm _ (fun i => subW sb (shifted (encSt W R s r) i)) hs j hj)
    · rw [if_neg h, if_neg h]
      exact add_st W _ (fun i => subW sb (shifted (encSt W R s r) i)) _ j hj hs
theorem rAdd_twice (X : Nat → BitVec 32) (x : Nat → BitVec 8) (r j : Nat) (hj : j < 16) (h : ∀ j, j < 16 → x j = byteOf (X (j / 4) ^^^ gw W (4 * r + j / 4)) (j % 4)) : rAdd W x r j = byteOf (X (j / 4)) (j % 4) := by
  unfold rAdd
  rw [h j hj, byte_xor, BitVec.xor_assoc, BitVec.xor_self, BitVec.xor_zero]
theorem un_sub (x : Nat → BitVec 8) (y : Nat → BitVec 8) (h : ∀ j, j < 16 → x j = rSub y j) (j : Nat) (hj : j < 16) : rUn x j = y j := by
  unfold rUn
  rw [h _ (by omega)]
  unfold rSub
  rw [bk_sb, show 4 * (((4 * ((j / 4 + 4 - j % 4) % 4) + j % 4) / 4 + (4 * ((j / 4 + 4 - j % 4) % 4) + j % 4) % 4) % 4) + (4 * ((j / 4 + 4 - j % 4) % 4) + j % 4) % 4 = j from by omega]
theorem cols_back (x y : Nat → BitVec 8) (h : ∀ j, j < 16 → x j = rCols fm y 4 j) (j : Nat) (hj : j < 16) : rCols fu x 4 j = y j := by
  rw [rCols_eq, if_pos (by omega), un_mixed y x (j / 4) (j % 4) (by omega) (fun k hk => by
    rw [h _ (by omega), rCols_eq, if_pos (by omega), show (4 * (j / 4) + k) / 4 = j / 4 from by omega, show (4 * (j / 4) + k) % 4 = k from by omega])]
  congr 1
  omega
theorem rDec_st (p : List (BitVec 8)) : ∀ q, q ≤ R → ∀ j, j < 16 → rDec W R (block (encSt W R p R)) q j = byteOf (encSt W R p (R - q) (j / 4)) (j % 4) := by
  intro q
  induction q with
  | zero => intro _ j hj; exact gb_block _ j hj
  | succ q ih =>
    intro hq j hj
    have ih := ih (by omega)
    obtain ⟨m, hm⟩ : ∃ m, R - q = m + 1 := ⟨R - q - 1, by omega⟩
    have hm' : R - (q + 1) = m := by omega
    rw [hm] at ih
    show rUn (if q = 0 then rAdd W (rDec W R (block (encSt W R p R)) q) (R - q) else rCols fu (rAdd W (rDec W R (block (encSt W R p R)) q) (R - q)) 4) j = _
    rw [hm, hm', ← rEnc_st W R p m j hj]
    by_cases h0 : q = 0
    · rw [if_pos h0]
      refine un_sub _ _ (fun j hj => ?_) j hj
      rw [sub_st _ _ (rEnc_st W R p m) j hj]
      refine rAdd_twice W (fun i => subW sb (shifted (encSt W R p m) i)) _ _ j hj (fun j hj => ?_)
      rw [ih j hj]
      show byteOf (encCol W R (m + 1) _ _) _ = _
      unfold encCol
      rw [if_neg (by omega)]
    · rw [if_neg h0]
      refine un_sub _ _ (fun j hj => ?_) j hj
      refine cols_back _ _ (fun j hj => ?_) j hj
      rw [cols_fm (rSub (rEnc W R p m)) (fun i => subW sb (shifted (encSt W R p m) i)) (sub_st _ _ (rEnc_st W R p m)) j hj]
      refine rAdd_twice W (fun i => mix (subW sb (shifted (encSt W R p m) i))) _ _ j hj (fun j hj => ?_)
      rw [ih j hj]
      show byteOf (encCol W R (m + 1) _ _) _ = _
      unfold encCol
      rw [if_pos (by omega)]
theorem rDec_dec (hW : W.length = 4 * (R + 1)) (hR : 1 ≤ R) (hs : s.length = 16) : (List.range 16).map (rAdd W (rDec W R s R) 0) = dec W s := by
  have e := enc_dec W R hW hR s hs
  have hl : (dec W s).length = 16 := length_dec _ _
  generalize dec W s = p at *
  rw [← enc_eq W p R hW hR] at e
  rw [← e]
  apply List.ext_getElem
  · simp [hl]
  · intro j h1 h2
    have hj : j < 16 := by simpa using h1
    rw [List.getElem_map, List.getElem_range, rAdd_twice W (col p) _ 0 j hj (fun j hj => by
      rw [rDec_st W R p R (Nat.le_refl _) j hj, Nat.sub_self, Nat.mul_zero, Nat.zero_add]; rfl), byte_col]
    simp [gb, h2]
end
end Aes
end Go.Proofs.YtepogbfkmflooaaGreatDoor
