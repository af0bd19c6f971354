/-
  Digests, plainly: words of 32 bits and of 64 bits, as the program reckons them, are the document's. No conditions.
-/
import Derived.Test.YtdmbfimjbmfbaaaGreatDoorArr
namespace Go.Proofs.YtdmbfimjbmfbaaaGreatDoor
open Go.RowKit
set_option linter.unusedSimpArgs false
set_option linter.unusedVariables false
namespace Sha
/-- the math/bits functions, as they reckon -/
def rl32 (x : BitVec 32) (k : Int) : BitVec 32 := x <<< (BitVec.ofInt 64 k &&& 31#64).toNat ||| x >>> (32#64 - (BitVec.ofInt 64 k &&& 31#64)).toNat
def rl64 (x : BitVec 64) (k : Int) : BitVec 64 := x <<< (BitVec.ofInt 64 k &&& 63#64).toNat ||| x >>> (64#64 - (BitVec.ofInt 64 k &&& 63#64)).toNat
theorem mod32 (x : BitVec 64) : x % 4294967296#64 = (x.setWidth 32).setWidth 64 := by
  apply BitVec.eq_of_toNat_eq
  simp [BitVec.toNat_umod, BitVec.toNat_setWidth]
  omega
theorem sw32 (x : BitVec 32) : (x.setWidth 64).setWidth 32 = x := by
  apply BitVec.eq_of_toNat_eq
  simp [BitVec.toNat_setWidth]
theorem wd_t (x : BitVec 64) : wd true x = (x.setWidth 32).setWidth 64 := mod32 x
theorem wd_f (x : BitVec 64) : wd false x = x := rfl
theorem sw_add (x y : BitVec 64) : (x + y).setWidth 32 = x.setWidth 32 + y.setWidth 32 := BitVec.setWidth_add _ _ (by decide)
theorem sw_xor (x y : BitVec 32) : (x ^^^ y).setWidth 64 = x.setWidth 64 ^^^ y.setWidth 64 := by
  apply BitVec.eq_of_getLsbD_eq; intro i hi; simp only [BitVec.getLsbD_setWidth, BitVec.getLsbD_xor]; cases x.getLsbD i <;> cases y.getLsbD i <;> simp
theorem sw_and (x y : BitVec 32) : (x &&& y).setWidth 64 = x.setWidth 64 &&& y.setWidth 64 := by
  apply BitVec.eq_of_getLsbD_eq; intro i hi; simp only [BitVec.getLsbD_setWidth, BitVec.getLsbD_and]; cases x.getLsbD i <;> cases y.getLsbD i <;> simp
theorem sw_shr (x : BitVec 32) (n : Nat) : (x >>> n).setWidth 64 = x.setWidth 64 >>> n := by
  apply BitVec.eq_of_toNat_eq
  rw [BitVec.toNat_setWidth, BitVec.toNat_ushiftRight, BitVec.toNat_ushiftRight, BitVec.toNat_setWidth]
  have h : x.toNat >>> n ≤ x.toNat := by rw [Nat.shiftRight_eq_div_pow]; exact Nat.div_le_self _ _
  rw [Nat.mod_eq_of_lt (by omega), Nat.mod_eq_of_lt (by omega)]
theorem tn_t (x : BitVec 32) (n : Nat) (h0 : 1 ≤ n) (h : n < 32) : tn true (x.setWidth 64) n = (x <<< (32 - n) ||| x >>> n).setWidth 64 := by
  show (_ : BitVec 64) % 4294967296#64 = _
  rw [mod32]
  congr 1
  apply BitVec.eq_of_getLsbD_eq
  intro i hi
  simp only [BitVec.getLsbD_setWidth, BitVec.getLsbD_or, BitVec.getLsbD_shiftLeft, BitVec.getLsbD_ushiftRight]
  have e1 : decide (i < 32) = true := by simpa using hi
  have e2 : decide (i < 64) = true := by simp; omega
  have e3 : decide (n + i < 64) = true := by simp; omega
  have e4 : decide (i - (32 - n) < 64) = true := by simp; omega
  rw [e1, e2, e3, e4]
  simp only [Bool.true_and]
  rw [Bool.or_comm]
theorem rl32_eq (x : BitVec 32) (n : Nat) (k : Int) (h1 : (BitVec.ofInt 64 k &&& 31#64).toNat = 32 - n) (h2 : (32#64 - (BitVec.ofInt 64 k &&& 31#64)).toNat = n) (h0 : 1 ≤ n) (h : n < 32) : tn true (x.setWidth 64) n = (rl32 x k).setWidth 64 := by
  unfold rl32; rw [h1, h2]; exact tn_t x n h0 h
theorem rl64_eq (x : BitVec 64) (n : Nat) (k : Int) (h1 : (BitVec.ofInt 64 k &&& 63#64).toNat = 64 - n) (h2 : (64#64 - (BitVec.ofInt 64 k &&& 63#64)).toNat = n) : tn false x n = rl64 x k := by
  unfold rl64; rw [h1, h2]
  show x >>> n ||| x <<< (64 - n) = _
  apply BitVec.eq_of_getLsbD_eq; intro i hi
  rw [BitVec.getLsbD_or, BitVec.getLsbD_or, Bool.or_comm]
/-! ### the four threes -/
def a32 (x : BitVec 32) : BitVec 32 := (rl32 x (-7) ^^^ rl32 x (-18)) ^^^ x >>> 3
def b32 (x : BitVec 32) : BitVec 32 := (rl32 x (-17) ^^^ rl32 x (-19)) ^^^ x >>> 10
def c32 (x : BitVec 32) : BitVec 32 := (rl32 x (-2) ^^^ rl32 x (-13)) ^^^ rl32 x (-22)
def d32 (x : BitVec 32) : BitVec 32 := (rl32 x (-6) ^^^ rl32 x (-11)) ^^^ rl32 x (-25)
def a64 (x : BitVec 64) : BitVec 64 := (rl64 x (-1) ^^^ rl64 x (-8)) ^^^ x >>> 7
def b64 (x : BitVec 64) : BitVec 64 := (rl64 x (-19) ^^^ rl64 x (-61)) ^^^ x >>> 6
def c64 (x : BitVec 64) : BitVec 64 := (rl64 x (-28) ^^^ rl64 x (-34)) ^^^ rl64 x (-39)
def d64 (x : BitVec 64) : BitVec 64 := (rl64 x (-14) ^^^ rl64 x (-18)) ^^^ rl64 x (-41)
theorem th_a32 (x : BitVec 32) : th true (x.setWidth 64) 0 true = (a32 x).setWidth 64 := by
  unfold a32; rw [sw_xor, sw_xor, sw_shr, ← rl32_eq x 7 (-7) (by decide) (by decide) (by decide) (by decide), ← rl32_eq x 18 (-18) (by decide) (by decide) (by decide) (by decide)]; rfl
theorem th_b32 (x : BitVec 32) : th true (x.setWidth 64) 3 true = (b32 x).setWidth 64 := by
  unfold b32; rw [sw_xor, sw_xor, sw_shr, ← rl32_eq x 17 (-17) (by decide) (by decide) (by decide) (by decide), ← rl32_eq x 19 (-19) (by decide) (by decide) (by decide) (by decide)]; rfl
theorem th_c32 (x : BitVec 32) : th true (x.setWidth 64) 6 false = (c32 x).setWidth 64 := by
  unfold c32; rw [sw_xor, sw_xor, ← rl32_eq x 2 (-2) (by decide) (by decide) (by decide) (by decide), ← rl32_eq x 13 (-13) (by decide) (by decide) (by decide) (by decide), ← rl32_eq x 22 (-22) (by decide) (by decide) (by decide) (by decide)]; rfl
theorem th_d32 (x : BitVec 32) : th true (x.setWidth 64) 9 false = (d32 x).setWidth 64 := by
  unfold d32; rw [sw_xor, sw_xor, ← rl32_eq x 6 (-6) (by decide) (by decide) (by decide) (by decide), ← rl32_eq x 11 (-11) (by decide) (by decide) (by decide) (by decide), ← rl32_eq x 25 (-25) (by decide) (by decide) (by decide) (by decide)]; rfl
theorem th_a64 (x : BitVec 64) : th false x 0 true = a64 x := by
  unfold a64; rw [← rl64_eq x 1 (-1) (by decide) (by decide), ← rl64_eq x 8 (-8) (by decide) (by decide)]; rfl
theorem th_b64 (x : BitVec 64) : th false x 3 true = b64 x := by
  unfold b64; rw [← rl64_eq x 19 (-19) (by decide) (by decide), ← rl64_eq x 61 (-61) (by decide) (by decide)]; rfl
theorem th_c64 (x : BitVec 64) : th false x 6 false = c64 x := by
  unfold c64; rw [← rl64_eq x 28 (-28) (by decide) (by decide), ← rl64_eq x 34 (-34) (by decide) (by decide), ← rl64_eq x 39 (-39) (by decide) (by decide)]; rfl
theorem th_d64 (x : BitVec 64) : th false x 9 false = d64 x := by
  unfold d64; rw [← rl64_eq x 14 (-14) (by decide) (by decide), ← rl64_eq x 18 (-18) (by decide) (by decide), ← rl64_eq x 41 (-41) (by decide) (by decide)]; rfl
/-! ### bytes to words -/
theorem shl8_or (x : BitVec 64) (b : BitVec 8) : x <<< 8 ||| b.setWidth 64 = x * 256#64 + b.setWidth 64 := by
  have e : x * 256#64 = x <<< 8 := by
    apply BitVec.eq_of_toNat_eq
    rw [BitVec.toNat_mul, BitVec.toNat_shiftLeft, Nat.shiftLeft_eq]; rfl
  rw [e]
  refine (BitVec.add_eq_or_of_and_eq_zero _ _ ?_).symm
  apply BitVec.eq_of_getLsbD_eq
  intro i hi
  simp only [BitVec.getLsbD_and, BitVec.getLsbD_shiftLeft, BitVec.getLsbD_setWidth, BitVec.getLsbD_zero]
  by_cases h : i < 8
  · simp [h]
  · rw [show b.getLsbD i = false from BitVec.getLsbD_of_ge b i (by omega)]; simp
theorem bw_succ (p : Nat → BitVec 8) (k : Nat) : bw p (k + 1) = bw p k <<< 8 ||| (p k).setWidth 64 := (shl8_or _ _).symm
theorem b4 (a b c d : BitVec 8) : (a.setWidth 32 <<< 24 ||| b.setWidth 32 <<< 16 ||| c.setWidth 32 <<< 8 ||| d.setWidth 32).setWidth 64 = (((0#64 <<< 8 ||| a.setWidth 64) <<< 8 ||| b.setWidth 64) <<< 8 ||| c.setWidth 64) <<< 8 ||| d.setWidth 64 := by
  apply BitVec.eq_of_getLsbD_eq
  intro i hi
  simp only [BitVec.getLsbD_or, BitVec.getLsbD_shiftLeft, BitVec.getLsbD_setWidth, BitVec.getLsbD_zero, Bool.and_false, Bool.false_or]
  have ha : ∀ (x : BitVec 8) j, 8 ≤ j → x.getLsbD j = false := fun x j h => BitVec.getLsbD_of_ge x j h
  have e64 : decide (i < 64) = true := by simpa using hi
  by_cases h32 : i < 32
  · rw [show i - 8 - 8 - 8 = i - 24 from by omega, show i - 8 - 8 = i - 16 from by omega]
    rw [e64, show decide (i < 32) = true from by simpa using h32, show decide (i - 8 < 64) = true from by simp; omega, show decide (i - 16 < 64) = true from by simp; omega, show decide (i - 24 < 64) = true from by simp; omega,
      show decide (i - 8 < 32) = true from by simp; omega, show decide (i - 16 < 32) = true from by simp; omega, show decide (i - 24 < 32) = true from by simp; omega]
    simp only [Bool.true_and]
    by_cases g1 : i < 8
    · simp [g1, show i < 24 from by omega, show i < 16 from by omega]
    · by_cases g2 : i < 16
      · simp [g1, g2, show i < 24 from by omega, show i - 8 < 8 from by omega, ha d i (by omega)]
      · by_cases g3 : i < 24
        · simp [g1, g2, g3, show ¬ i - 8 < 8 from by omega, show i - 16 < 8 from by omega, ha d i (by omega), ha c (i - 8) (by omega)]
        · simp [g1, g2, g3, show ¬ i - 8 < 8 from by omega, show ¬ i - 16 < 8 from by omega, ha d i (by omega), ha c (i - 8) (by omega), ha b (i - 16) (by omega)]
  · rw [show decide (i < 32) = false from by simpa using h32, ha d i (by omega), ha c (i - 8) (by omega), ha b (i - 8 - 8) (by omega), ha a (i - 8 - 8 - 8) (by omega)]
    simp
/-! ### few -/
def w32 (p : Nat → BitVec 8) (i : Nat) : BitVec 32 := (w true p i).setWidth 32
theorem w_true (p : Nat → BitVec 8) (i : Nat) : w true p i = (w32 p i).setWidth 64 := by
  have h : ∃ y : BitVec 32, w true p i = y.setWidth 64 := by
    rw [w_eq]
    unfold wstep
    by_cases e : i < 16
    · rw [if_pos e]
      refine ⟨_, Eq.trans ?_ (b4 (p (4 * i + 0)) (p (4 * i + 1)) (p (4 * i + 2)) (p (4 * i + 3))).symm⟩
      rw [show wb true = 3 + 1 from rfl, bw_succ, bw_succ, bw_succ, bw_succ]; rfl
    · rw [if_neg e, wd_t]; exact ⟨_, rfl⟩
  obtain ⟨y, h⟩ := h
  unfold w32; rw [h, sw32]
theorem w32_lo (p : Nat → BitVec 8) (i : Nat) (h : i < 16) : w32 p i = (p (4 * i + 0)).setWidth 32 <<< 24 ||| (p (4 * i + 1)).setWidth 32 <<< 16 ||| (p (4 * i + 2)).setWidth 32 <<< 8 ||| (p (4 * i + 3)).setWidth 32 := by
  unfold w32
  rw [w_eq]
  unfold wstep
  rw [if_pos h, show wb true = 3 + 1 from rfl, bw_succ, bw_succ, bw_succ, bw_succ, show bw (fun k => p ((3 + 1) * i + k)) 0 = 0#64 from rfl]
  show ((((0#64 <<< 8 ||| (p (4 * i + 0)).setWidth 64) <<< 8 ||| (p (4 * i + 1)).setWidth 64) <<< 8 ||| (p (4 * i + 2)).setWidth 64) <<< 8 ||| (p (4 * i + 3)).setWidth 64 : BitVec 64).setWidth 32 = _
  rw [← b4, sw32]
theorem w32_hi (p : Nat → BitVec 8) (i : Nat) (h : ¬ i < 16) : w32 p i = ((w32 p (i - 16) + a32 (w32 p (i - 15))) + w32 p (i - 7)) + b32 (w32 p (i - 2)) := by
  conv => lhs; unfold w32; rw [w_eq]; unfold wstep; rw [if_neg h]
  rw [wd_t, sw32, w_true p (i - 2), w_true p (i - 7), w_true p (i - 15), w_true p (i - 16), th_b32, th_a32, sw_add, sw_add, sw_add, sw32, sw32, sw32, sw32]
  ac_rfl
def k32 (i : Nat) : BitVec 32 := (K true i).setWidth 32
theorem K_true (i : Nat) : K true i = (k32 i).setWidth 64 := by
  unfold k32
  apply BitVec.eq_of_toNat_eq
  rw [BitVec.toNat_setWidth, BitVec.toNat_setWidth]
  have h : (K true i).toNat < 2 ^ 32 := by
    by_cases hi : i < 80
    · revert i; decide +kernel
    · unfold K; rw [List.getD_eq_getElem?_getD, List.getElem?_eq_none (by show 80 ≤ i; omega)]; decide
  omega
def v32 (p : Nat → BitVec 8) (h : Nat → BitVec 32) : Nat → Nat → BitVec 32
  | 0 => h
  | i + 1 => fun j =>
    let v := v32 p h i
    let t := (((v 7 + d32 (v 4)) + (v 6 ^^^ (v 4 &&& (v 5 ^^^ v 6)))) + k32 i) + w32 p i
    eight (t + (c32 (v 0) + ((v 0 &&& v 1) ||| (v 2 &&& (v 0 ||| v 1))))) (v 0) (v 1) (v 2) (v 3 + t) (v 4) (v 5) (v 6) j
theorem ch_eq {n : Nat} (e f g : BitVec n) : g ^^^ (e &&& (f ^^^ g)) = (e &&& f) ^^^ (~~~ e &&& g) := by
  apply BitVec.eq_of_getLsbD_eq; intro i hi
  simp only [BitVec.getLsbD_xor, BitVec.getLsbD_and, BitVec.getLsbD_not, decide_eq_true hi, Bool.true_and]
  cases e.getLsbD i <;> cases f.getLsbD i <;> cases g.getLsbD i <;> rfl
theorem maj_eq {n : Nat} (a b c : BitVec n) : (a &&& b) ||| (c &&& (a ||| b)) = ((a &&& b) ^^^ (a &&& c)) ^^^ (b &&& c) := by
  apply BitVec.eq_of_getLsbD_eq; intro i hi
  simp only [BitVec.getLsbD_xor, BitVec.getLsbD_and, BitVec.getLsbD_or]
  cases a.getLsbD i <;> cases b.getLsbD i <;> cases c.getLsbD i <;> rfl
theorem ch_sw (e f g : BitVec 32) : ((e.setWidth 64 &&& f.setWidth 64) ^^^ (~~~ (e.setWidth 64) &&& g.setWidth 64) : BitVec 64) = (g ^^^ (e &&& (f ^^^ g))).setWidth 64 := by
  rw [← ch_eq, ← sw_xor, ← sw_and, ← sw_xor]
theorem maj_sw (a b c : BitVec 32) : ((a.setWidth 64 &&& b.setWidth 64) ^^^ (a.setWidth 64 &&& c.setWidth 64)) ^^^ (b.setWidth 64 &&& c.setWidth 64) = ((a &&& b) ||| (c &&& (a ||| b)) : BitVec 32).setWidth 64 := by
  rw [maj_eq, sw_xor, sw_xor, sw_and, sw_and, sw_and]
theorem t1_sw (k x : BitVec 32) (v : Nat → BitVec 32) (V : Nat → BitVec 64) (e : ∀ j, V j = (v j).setWidth 64) : (t1 true (k.setWidth 64) (x.setWidth 64) V).setWidth 32 = (((v 7 + d32 (v 4)) + (v 6 ^^^ (v 4 &&& (v 5 ^^^ v 6)))) + k) + x := by
  unfold t1
  rw [e 7, e 4, e 5, e 6, th_d32, ch_sw, sw_add, sw_add, sw_add, sw_add, sw32, sw32, sw32, sw32, sw32]
theorem t2_sw (v : Nat → BitVec 32) (V : Nat → BitVec 64) (e : ∀ j, V j = (v j).setWidth 64) : (t2 true V).setWidth 32 = c32 (v 0) + ((v 0 &&& v 1) ||| (v 2 &&& (v 0 ||| v 1))) := by
  unfold t2
  rw [e 0, e 1, e 2, th_c32, maj_sw, sw_add, sw32, sw32]
theorem v32_eq (p : Nat → BitVec 8) (h : Nat → BitVec 64) (g : Nat → BitVec 32) (e : ∀ j, h j = (g j).setWidth 64) : ∀ i j, vs true p h i j = (v32 p g i j).setWidth 64
  | 0, j => e j
  | i + 1, j => by
    have ih := v32_eq p h g e i
    show rnd true (K true i) (w true p i) (vs true p h i) j = _
    rw [K_true, w_true]
    unfold rnd
    rw [wd_t, wd_t, sw_add, sw_add, t1_sw _ _ _ _ ih, t2_sw _ _ ih, ih 3, sw32, ih 0, ih 1, ih 2, ih 4, ih 5, ih 6]
    unfold eight
    show _ = (eight _ _ _ _ _ _ _ _ j : BitVec 32).setWidth 64
    unfold eight
    split <;> first | rfl | (split <;> first | rfl | (split <;> first | rfl | (split <;> first | rfl | (split <;> first | rfl | (split <;> first | rfl | (split <;> rfl))))))
/-- few's words, behind it -/
theorem few_eq (p : Nat → BitVec 8) (h : Nat → BitVec 64) (j : Nat) (e : ∀ j, h j = ((h j).setWidth 32).setWidth 64) : ((h j).setWidth 32 + v32 p (fun j => (h j).setWidth 32) 64 j).setWidth 64 = comp true p h j := by
  unfold comp
  rw [wd_t, sw_add, v32_eq p h _ e, sw32]; rfl
/-! ### many -/
theorem w64_hi (p : Nat → BitVec 8) (i : Nat) (h : ¬ i < 16) : w false p i = ((w false p (i - 16) + a64 (w false p (i - 15))) + w false p (i - 7)) + b64 (w false p (i - 2)) := by
  conv => lhs; rw [w_eq]; unfold wstep; rw [if_neg h]
  rw [wd_f, th_b64, th_a64]
  ac_rfl
theorem vs64 (p : Nat → BitVec 8) (h : Nat → BitVec 64) (i : Nat) : vs false p h (i + 1) = fun j =>
    let v := vs false p h i
    let t := (((v 7 + d64 (v 4)) + (v 6 ^^^ (v 4 &&& (v 5 ^^^ v 6)))) + K false i) + w false p i
    eight (t + (c64 (v 0) + ((v 0 &&& v 1) ||| (v 2 &&& (v 0 ||| v 1))))) (v 0) (v 1) (v 2) (v 3 + t) (v 4) (v 5) (v 6) j := by
  show rnd false _ _ _ = _
  unfold rnd t1 t2
  rw [th_d64, th_c64, wd_f, wd_f, ← ch_eq, ← maj_eq]
theorem H0_small (j : Nat) : H0 256 j = ((H0 256 j).setWidth 32).setWidth 64 := by
  apply BitVec.eq_of_toNat_eq
  rw [BitVec.toNat_setWidth, BitVec.toNat_setWidth]
  have h : (H0 256 j).toNat < 2 ^ 32 := by
    by_cases hi : j < 16
    · revert j; decide +kernel
    · unfold H0; rw [List.getD_eq_getElem?_getD, List.getElem?_eq_none (by show 16 ≤ 0 + j; omega)]; decide
  omega
theorem comp_small (p : Nat → BitVec 8) (h : Nat → BitVec 64) (j : Nat) : comp true p h j = ((comp true p h j).setWidth 32).setWidth 64 := by
  unfold comp
  rw [wd_t, sw32]
theorem st_small (p : Nat → BitVec 8) (t j : Nat) : st 256 p t j = ((st 256 p t j).setWidth 32).setWidth 64 := by
  cases t with
  | zero => exact H0_small j
  | succ t => exact comp_small _ _ j
theorem st_next (kind : Nat) (q r : Nat → BitVec 8) (t : Nat) (h : ∀ j, j < bs kind → r j = q (bs kind * t + j)) : comp (sm kind) r (st kind q t) = st kind q (t + 1) :=
  comp_congr _ _ _ _ (fun j hj => h j (by rw [wb_bs]; exact hj))
end Sha
end Go.Proofs.YtdmbfimjbmfbaaaGreatDoor
