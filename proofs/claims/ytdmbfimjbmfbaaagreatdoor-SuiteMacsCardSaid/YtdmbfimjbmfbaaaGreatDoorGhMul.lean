/-
  Multiples of an element by the sixteen polynomials of four bits, plainly. Conditions as each says.
-/
import Derived.Test.YtdmbfimjbmfbaaaGreatDoorSuPlain
namespace Go.Proofs.YtdmbfimjbmfbaaaGreatDoor
open Go.RowKit
set_option linter.unusedSimpArgs false
set_option linter.unusedVariables false
namespace Gh
def cl (p : W2) (r : Nat) : BitVec 64 := if r = 0 then p.1 else p.2
theorem cl_xw (p q : W2) (r : Nat) : cl (xw p q) r = cl p r ^^^ cl q r := by unfold cl; split <;> rfl
theorem xw_z2 (p : W2) : xw p z2 = p := by
  unfold xw z2
  simp
theorem z2_xw (p : W2) : xw z2 p = p := by
  unfold xw z2
  simp
/-- times x, so often as one of four bits tells -/
def pw (b : W2) (n : Nat) : W2 := if n = 8 then b else if n = 4 then tmw b else if n = 2 then tmw (tmw b) else if n = 1 then tmw (tmw (tmw b)) else tmw (tmw (tmw (tmw b)))
theorem pw_step (b : W2) (n : Nat) (h : n = 8 ∨ n = 4 ∨ n = 2 ∨ n = 1) : tmw (pw b n) = pw b (n / 2) := by
  rcases h with rfl | rfl | rfl | rfl <;> rfl
def mA (b : W2) (n e : Nat) : W2 := if (e = 8 ∨ e = 4 ∨ e = 2 ∨ e = 1) ∧ n < e then pw b e else z2
def cA (b : W2) (n j : Nat) : Value := U64 (cl (mA b n (j / 2)) (j % 2))
theorem mA_8 (b : W2) (e : Nat) : mA b 8 e = z2 := by
  unfold mA
  rw [if_neg (by omega)]
theorem cA_8 (b : W2) (j : Nat) : U64 0#64 = cA b 8 j := by
  unfold cA
  rw [mA_8]
  unfold cl
  split <;> rfl
theorem cA_step (b : W2) (n j : Nat) (h : n = 8 ∨ n = 4 ∨ n = 2 ∨ n = 1) : (if n * 2 ≤ j ∧ j < n * 2 + 2 then U64 (cl (pw b n) (j - n * 2)) else cA b n j) = cA b (n / 2) j := by
  unfold cA
  by_cases c : n * 2 ≤ j ∧ j < n * 2 + 2
  · rw [if_pos c, show j / 2 = n from by omega, show j % 2 = j - n * 2 from by omega]
    unfold mA
    rw [if_pos ⟨h, by omega⟩]
  · rw [if_neg c]
    unfold mA
    by_cases d : (j / 2 = 8 ∨ j / 2 = 4 ∨ j / 2 = 2 ∨ j / 2 = 1) ∧ n < j / 2
    · rw [if_pos d, if_pos ⟨d.1, by omega⟩]
    · rw [if_neg d, if_neg (by omega)]
/-- what is found so far of multiple e, behind the bits above n -/
def mB (b : W2) (e n : Nat) : W2 :=
  if e = 8 ∨ e = 4 ∨ e = 2 ∨ e = 1 then pw b e
  else xw (xw (xw (sel (e.testBit 3 && decide (n < 8)) b) (sel (e.testBit 2 && decide (n < 4)) (tmw b))) (sel (e.testBit 1 && decide (n < 2)) (tmw (tmw b)))) (sel (e.testBit 0 && decide (n < 1)) (tmw (tmw (tmw b))))
def mR (b : W2) (i n e : Nat) : W2 := if e < i then mw b e else if e = i then mB b i n else mA b 0 e
def m0 (b : W2) (i e : Nat) : W2 := if e < i then mw b e else mA b 0 e
def cR (b : W2) (i n j : Nat) : Value := U64 (cl (mR b i n (j / 2)) (j % 2))
def c0 (b : W2) (i j : Nat) : Value := U64 (cl (m0 b i (j / 2)) (j % 2))
def cm (b : W2) (j : Nat) : Value := U64 (cl (mw b (j / 2)) (j % 2))
theorem sixteen (e : Nat) (h : e < 16) : e = 0 ∨ e = 1 ∨ e = 2 ∨ e = 3 ∨ e = 4 ∨ e = 5 ∨ e = 6 ∨ e = 7 ∨ e = 8 ∨ e = 9 ∨ e = 10 ∨ e = 11 ∨ e = 12 ∨ e = 13 ∨ e = 14 ∨ e = 15 := by omega
theorem selt (p : W2) : sel true p = p := rfl
theorem self (p : W2) : sel false p = z2 := rfl
theorem mB_8 (b : W2) (e : Nat) (h : e < 16) : mB b e 8 = mA b 0 e := by
  unfold mB mA
  by_cases c : e = 8 ∨ e = 4 ∨ e = 2 ∨ e = 1
  · rw [if_pos c, if_pos ⟨c, by omega⟩]
  · rw [if_neg c, if_neg (fun d => c d.1)]
    simp [self, xw_z2]
theorem mB_0 (b : W2) (e : Nat) (h : e < 16) : mB b e 0 = mw b e := by
  unfold mB
  by_cases c : e = 8 ∨ e = 4 ∨ e = 2 ∨ e = 1
  · rw [if_pos c]
    rcases c with rfl | rfl | rfl | rfl
    · show b = xw (xw (xw b z2) z2) z2; simp only [xw_z2, z2_xw]
    · show tmw b = xw (xw (xw z2 (tmw b)) z2) z2; simp only [xw_z2, z2_xw]
    · show tmw (tmw b) = xw (xw (xw z2 z2) (tmw (tmw b))) z2; simp only [xw_z2, z2_xw]
    · show tmw (tmw (tmw b)) = xw (xw (xw z2 z2) z2) (tmw (tmw (tmw b))); simp only [xw_z2, z2_xw]
  · rw [if_neg c]
    simp [mw]
theorem mw_pow (b : W2) (n : Nat) (h : n = 8 ∨ n = 4 ∨ n = 2 ∨ n = 1) : mw b n = pw b n := by
  have h2 := mB_0 b n (by omega)
  unfold mB at h2
  rw [if_pos h] at h2
  exact h2.symm
theorem mB_yes (b : W2) (i n : Nat) (hi : i < 16) (h : n = 8 ∨ n = 4 ∨ n = 2 ∨ n = 1) (c : i &&& n ≠ 0) (d : i ≠ n) : xw (mB b i n) (pw b n) = mB b i (n / 2) := by
  rcases h with rfl | rfl | rfl | rfl <;> rcases sixteen i hi with rfl | rfl | rfl | rfl | rfl | rfl | rfl | rfl | rfl | rfl | rfl | rfl | rfl | rfl | rfl | rfl <;>
    first
    | exact absurd rfl c
    | exact absurd rfl d
    | (simp [mB, pw, Nat.testBit, selt, self, xw_z2, z2_xw]; done)
theorem mB_no (b : W2) (i n : Nat) (hi : i < 16) (h : n = 8 ∨ n = 4 ∨ n = 2 ∨ n = 1) (c : ¬ (i &&& n ≠ 0 ∧ i ≠ n)) : mB b i n = mB b i (n / 2) := by
  rcases h with rfl | rfl | rfl | rfl <;> rcases sixteen i hi with rfl | rfl | rfl | rfl | rfl | rfl | rfl | rfl | rfl | rfl | rfl | rfl | rfl | rfl | rfl | rfl <;>
    first
    | (exact absurd ⟨by decide, by decide⟩ c)
    | (simp [mB, Nat.testBit, selt, self, xw_z2, z2_xw]; done)
theorem lt_of_bit (i n : Nat) (hi : i < 16) (h : n = 8 ∨ n = 4 ∨ n = 2 ∨ n = 1) (c : i &&& n ≠ 0) (d : i ≠ n) : n < i := by
  have : n ≤ i := by
    rcases h with rfl | rfl | rfl | rfl <;> rcases sixteen i hi with rfl | rfl | rfl | rfl | rfl | rfl | rfl | rfl | rfl | rfl | rfl | rfl | rfl | rfl | rfl | rfl <;>
      first
      | exact absurd rfl c
      | decide
  omega
theorem cR_8 (b : W2) (i j : Nat) (hi : i < 16) : c0 b i j = cR b i 8 j := by
  unfold c0 cR m0 mR
  by_cases c : j / 2 < i
  · rw [if_pos c, if_pos c]
  · rw [if_neg c, if_neg c]
    by_cases d : j / 2 = i
    · rw [if_pos d, d, mB_8 _ _ hi]
    · rw [if_neg d]
theorem cR_0 (b : W2) (i j : Nat) (hi : i < 16) : cR b i 0 j = c0 b (i + 1) j := by
  unfold c0 cR m0 mR
  by_cases c : j / 2 < i
  · rw [if_pos c, if_pos (by omega)]
  · rw [if_neg c]
    by_cases d : j / 2 = i
    · rw [if_pos d, if_pos (by omega), d, mB_0 _ _ hi]
    · rw [if_neg d, if_neg (by omega)]
theorem c0_16 (b : W2) (j : Nat) (h : j < 32) : c0 b 16 j = cm b j := by
  unfold c0 m0
  rw [if_pos (by omega)]; rfl
theorem cR_no (b : W2) (i n j : Nat) (hi : i < 16) (h : n = 8 ∨ n = 4 ∨ n = 2 ∨ n = 1) (c : ¬ (i &&& n ≠ 0 ∧ i ≠ n)) : cR b i n j = cR b i (n / 2) j := by
  unfold cR mR
  rw [mB_no b i n hi h c]
theorem mR_i (b : W2) (i n : Nat) : mR b i n i = mB b i n := by
  unfold mR
  rw [if_neg (Nat.lt_irrefl i), if_pos rfl]
theorem cR_yes (b : W2) (i n j : Nat) (hi : i < 16) (h : n = 8 ∨ n = 4 ∨ n = 2 ∨ n = 1) (c : i &&& n ≠ 0) (d : i ≠ n) :
    (if j = i * 2 + 1 then U64 (cl (mR b i n i) 1 ^^^ cl (mR b i n n) 1) else if j = i * 2 then U64 (cl (mR b i n i) 0 ^^^ cl (mR b i n n) 0) else cR b i n j) = cR b i (n / 2) j := by
  have hs := mB_yes b i n hi h c d
  have hn : mR b i n n = pw b n := by
    unfold mR
    rw [if_pos (lt_of_bit i n hi h c d), mw_pow _ _ h]
  rw [mR_i, hn, ← cl_xw, ← cl_xw, hs]
  unfold cR
  by_cases e1 : j = i * 2 + 1
  · rw [if_pos e1, show j / 2 = i from by omega, show j % 2 = 1 from by omega, mR_i]
  · rw [if_neg e1]
    by_cases e2 : j = i * 2
    · rw [if_pos e2, show j / 2 = i from by omega, show j % 2 = 0 from by omega, mR_i]
    · rw [if_neg e2]
      unfold mR
      rw [if_neg (show ¬ j / 2 = i from by omega), if_neg (show ¬ j / 2 = i from by omega)]
/-! ### loads, stores, rounds, as the cells have them -/
def lp (s : L8) (i : Nat) : W2 := (ld s 0 i, ld s 8 i)
theorem two (j : Nat) (h : j < 2) : j = 0 ∨ j = 1 := by omega
theorem lp_0 (s : L8) (j : Nat) (hj : j < 2) : (if j < 1 then U64 0#64 else U64 0#64) = U64 (cl (lp s 0) j) := by
  rcases two j hj with rfl | rfl <;> rfl
theorem lp_step (s : L8) (i j : Nat) (hj : j < 2) : (if j = 1 then U64 ((cl (lp s i) 1 <<< 8) ||| ((gb s (8 + i)).setWidth 64)) else if j = 0 then U64 ((cl (lp s i) 0 <<< 8) ||| ((gb s i).setWidth 64)) else U64 (cl (lp s i) j)) = U64 (cl (lp s (i + 1)) j) := by
  rcases two j hj with rfl | rfl
  · show U64 ((ld s 0 i <<< 8) ||| ((gb s i).setWidth 64)) = U64 ((ld s 0 i <<< 8) ||| (gb s (0 + i)).setWidth 64)
    rw [Nat.zero_add]
  · rfl
theorem sb_step (p : W2) (i j : Nat) (hi : i < 8) (hj : j < 16) :
    (if j = (8 + i) then U8 ((cl p 1 >>> (56 - (8 * i))).setWidth 8) else if j = i then U8 ((cl p 0 >>> (56 - (8 * i))).setWidth 8) else if j < i ∨ 8 ≤ j ∧ j < 8 + i then U8 (sb p j) else U8 0#8) = if j < i + 1 ∨ 8 ≤ j ∧ j < 8 + (i + 1) then U8 (sb p j) else U8 0#8 := by
  by_cases e : j = 8 + i
  · rw [if_pos e, if_pos (by omega)]
    unfold sb
    rw [if_neg (by omega), show j - 8 = i from by omega]
    rfl
  rw [if_neg e]
  by_cases e2 : j = i
  · rw [if_pos e2, if_pos (by omega)]
    unfold sb
    rw [if_pos (by omega), e2]
    rfl
  rw [if_neg e2]
  by_cases e3 : j < i ∨ 8 ≤ j ∧ j < 8 + i
  · rw [if_pos e3, if_pos (by omega)]
  · rw [if_neg e3, if_neg (by omega)]
theorem tm_yes (p : W2) (j : Nat) (hj : j < 2) (c : cl p 1 &&& 1#64 = 1#64) : (if j = 0 then U64 ((cl p 0 >>> 1) ^^^ 16212958658533785600#64) else if j < 1 then U64 (cl p 0 >>> 1) else U64 ((cl p 1 >>> 1) ||| (cl p 0 <<< 63))) = U64 (cl (tmw p) j) := by
  have h : p.2 &&& 1#64 = 1#64 := c
  rcases two j hj with rfl | rfl
  · show U64 ((p.1 >>> 1) ^^^ e1) = U64 (if p.2 &&& 1#64 = 1#64 then (p.1 >>> 1) ^^^ e1 else p.1 >>> 1)
    rw [if_pos h]
  · rfl
theorem tm_no (p : W2) (j : Nat) (hj : j < 2) (c : ¬ cl p 1 &&& 1#64 = 1#64) : (if j < 1 then U64 (cl p 0 >>> 1) else U64 ((cl p 1 >>> 1) ||| (cl p 0 <<< 63))) = U64 (cl (tmw p) j) := by
  have h : ¬ p.2 &&& 1#64 = 1#64 := c
  rcases two j hj with rfl | rfl
  · show U64 (p.1 >>> 1) = U64 (if p.2 &&& 1#64 = 1#64 then (p.1 >>> 1) ^^^ e1 else p.1 >>> 1)
    rw [if_neg h]
  · rfl
def wq (a : W2) (q : Nat) : BitVec 64 := if q = 0 then a.2 else a.1
def zz (f : Nat → BitVec 64) (a b : W2) : Nat → W2
  | 0 => z2
  | q + 1 => bh f b (wq a q) (zz f a b q) 16
theorem zz_0 (f : Nat → BitVec 64) (a b : W2) (j : Nat) (hj : j < 2) : (if j < 1 then U64 0#64 else U64 0#64) = U64 (cl (zz f a b 0) j) := by
  rcases two j hj with rfl | rfl <;> rfl
theorem bh_row (f : Nat → BitVec 64) (b : W2) (w : BitVec 64) (z : W2) (k j : Nat) (hj : j < 2) :
    (if j = 1 then U64 (((cl (bh f b w z k) 1 >>> 4) ||| (cl (bh f b w z k) 0 <<< 60)) ^^^ cl (mw b (w >>> (4 * k) &&& 15#64).toNat) 1)
      else if j = 0 then U64 (((cl (bh f b w z k) 0 >>> 4) ^^^ (f (cl (bh f b w z k) 1 &&& 15#64).toNat <<< 48)) ^^^ cl (mw b (w >>> (4 * k) &&& 15#64).toNat) 0)
      else if j = 0 then U64 ((cl (bh f b w z k) 0 >>> 4) ^^^ (f (cl (bh f b w z k) 1 &&& 15#64).toNat <<< 48))
      else if j < 1 then U64 (cl (bh f b w z k) 0 >>> 4) else U64 ((cl (bh f b w z k) 1 >>> 4) ||| (cl (bh f b w z k) 0 <<< 60))) = U64 (cl (bh f b w z (k + 1)) j) := by
  rcases two j hj with rfl | rfl <;> rfl
/-! ### the reference's cells -/
/-! ### the table that is folded in, as it lies in memory -/
def Fold (w : World) (f : Nat → BitVec 64) : Prop := (∀ i, i < 16 → w.cell? ⟨2, i, none⟩ = some (U64 (f i))) ∧ 2 < w.heap.size
theorem cell_same {w w' : World} {b i : Nat} (e : w'.heap[b]? = w.heap[b]?) : w'.cell? ⟨b, i, none⟩ = w.cell? ⟨b, i, none⟩ := by
  simp only [World.cell?, e]
namespace Fold
variable {w w' : World} {f : Nat → BitVec 64}
theorem at_ (h : Fold w f) {i : Nat} (hi : i < 16) : w.cell? ⟨2, i, none⟩ = some (U64 (f i)) := h.1 i hi
theorem of_block (h : Fold w f) (hs : w.heap.size ≤ w'.heap.size) (h0 : w'.heap[(2 : Nat)]? = w.heap[(2 : Nat)]?) : Fold w' f :=
  ⟨fun i hi => (cell_same h0).trans (h.1 i hi), Nat.lt_of_lt_of_le h.2 hs⟩
theorem below (h : Fold w f) (hb : Below w.heap.size w w') : Fold w' f := h.of_block hb.size (hb.block _ h.2)
theorem grownO {r : Option Nat} (h : Fold w f) (hg : w.grownBy w' r) (ho : ∀ g, r = some g → g ≠ 2) : Fold w' f :=
  h.of_block hg.size (hg.block _ h.2 (fun e => ho _ e.symm rfl))
theorem grown {g : Nat} (h : Fold w f) (hg : w.grownBy w' (some g)) (h0 : g ≠ 2) : Fold w' f :=
  h.grownO hg (fun k e => by cases e; exact h0)
end Fold
end Gh
end Go.Proofs.YtdmbfimjbmfbaaaGreatDoor
