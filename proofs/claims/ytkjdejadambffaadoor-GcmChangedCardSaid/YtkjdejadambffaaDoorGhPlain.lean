/-
  Sums over a field of 128 bits, plainly: elements as bits, and as two words. Conditions as each says. Sums over a field of 128 bits, plainly: elements as two words, and as sixteen bytes. Conditions as each says. Multiples of an element by the sixteen polynomials of four bits, plainly. Conditions as each says.
-/
import Derived.Test.YtkjdejadambffaaDoorCbcPlain
namespace Go.Proofs.YtkjdejadambffaaDoor
open Go.RowKit
set_option linter.unusedSimpArgs false
set_option linter.unusedVariables false
namespace Gh
abbrev L8 := List (BitVec 8)
abbrev E := Nat → Bool
/-! ### elements as bits: number i is the factor of x to the power of i -/
def zero : E := fun _ => false
def add (e f : E) : E := fun i => e i ^^ f i
def sc (c : Bool) (e : E) : E := fun i => c && e i
def low (i : Nat) : Bool := i == 0 || i == 1 || i == 2 || i == 7
def tm (e : E) : E := fun i => decide (i < 128) && ((decide (0 < i) && e (i - 1)) ^^ (e 127 && low i))
theorem add_comm (e f : E) : add e f = add f e := funext fun i => Bool.xor_comm _ _
theorem add_assoc (e f g : E) : add (add e f) g = add e (add f g) := funext fun i => Bool.xor_assoc _ _ _
theorem add_zero (e : E) : add e zero = e := funext fun i => Bool.xor_false _
theorem zero_add (e : E) : add zero e = e := funext fun i => Bool.false_xor _
theorem add_self (e : E) : add e e = zero := funext fun i => Bool.xor_self _
theorem sc_true (e : E) : sc true e = e := funext fun i => Bool.true_and _
theorem sc_false (e : E) : sc false e = zero := funext fun i => Bool.false_and _
theorem sc_zero (c : Bool) : sc c zero = zero := funext fun i => Bool.and_false _
theorem tm_add (e f : E) : tm (add e f) = add (tm e) (tm f) := funext fun i => by
  unfold tm add
  dsimp only
  generalize decide (i < 128) = a
  generalize decide (0 < i) = b
  generalize e (i - 1) = c
  generalize f (i - 1) = d
  generalize e 127 = p
  generalize f 127 = q
  generalize low i = r
  revert a b c d p q r
  decide
theorem tm_sc (k : Bool) (e : E) : tm (sc k e) = sc k (tm e) := funext fun i => by
  unfold tm sc
  dsimp only
  generalize decide (i < 128) = a
  generalize decide (0 < i) = b
  generalize e (i - 1) = c
  generalize e 127 = p
  generalize low i = r
  revert a b c p r k
  decide
theorem tm_zero : tm zero = zero := funext fun i => by unfold tm zero; simp
theorem sc_add (k : Bool) (e f : E) : sc k (add e f) = add (sc k e) (sc k f) := funext fun i => Bool.and_xor_distrib_left _ _ _
def tn : Nat → E → E
  | 0, e => e
  | n + 1, e => tm (tn n e)
theorem tn_add (n : Nat) (e f : E) : tn n (add e f) = add (tn n e) (tn n f) := by
  induction n with
  | zero => rfl
  | succ n ih => show tm (tn n _) = _; rw [ih, tm_add]; rfl
theorem tn_sc (n : Nat) (c : Bool) (e : E) : tn n (sc c e) = sc c (tn n e) := by
  induction n with
  | zero => rfl
  | succ n ih => show tm (tn n _) = _; rw [ih, tm_sc]; rfl
theorem tn_zero (n : Nat) : tn n zero = zero := by
  induction n with
  | zero => rfl
  | succ n ih => show tm (tn n _) = _; rw [ih, tm_zero]
theorem tn_tm (n : Nat) (e : E) : tn n (tm e) = tm (tn n e) := by
  induction n with
  | zero => rfl
  | succ n ih => show tm (tn n _) = _; rw [ih]; rfl
theorem tn_tn (n m : Nat) (e : E) : tn n (tn m e) = tn (n + m) e := by
  induction n with
  | zero => rw [Nat.zero_add]; rfl
  | succ n ih => show tm (tn n _) = _; rw [ih, Nat.add_right_comm]; rfl
/-- the product: Horner's way, from the highest power on -/
def hn (a b : E) : Nat → E
  | 0 => zero
  | n + 1 => add (tm (hn a b n)) (sc (a (127 - n)) b)
def mul (a b : E) : E := hn a b 128
/-- the sum of products of powers s, s + 1, .. (n of them) -/
def ts (a b : E) (s : Nat) : Nat → E
  | 0 => zero
  | n + 1 => add (ts a b s n) (sc (a (s + n)) (tn n b))
theorem ts_front (a b : E) (s n : Nat) : ts a b s (n + 1) = add (sc (a s) b) (tm (ts a b (s + 1) n)) := by
  induction n with
  | zero => show add zero (sc (a (s + 0)) (tn 0 b)) = add (sc (a s) b) (tm zero); rw [tm_zero, zero_add, add_zero]; rfl
  | succ n ih =>
    show add (ts a b s (n + 1)) (sc (a (s + (n + 1))) (tn (n + 1) b)) = add (sc (a s) b) (tm (add (ts a b (s + 1) n) (sc (a (s + 1 + n)) (tn n b))))
    rw [ih, tm_add, tm_sc, add_assoc, show s + (n + 1) = s + 1 + n from by omega]; rfl
theorem hn_ts (a b : E) (n : Nat) (h : n ≤ 128) : hn a b n = ts a b (128 - n) n := by
  induction n with
  | zero => rfl
  | succ n ih =>
    rw [ts_front, show 128 - (n + 1) + 1 = 128 - n from by omega, ← ih (by omega), add_comm, show 128 - (n + 1) = 127 - n from by omega]; rfl
theorem mul_ts (a b : E) : mul a b = ts a b 0 128 := hn_ts a b 128 (Nat.le_refl _)
/-! ### the reference's product -/
def one : E := fun i => i == 0
def xp (m : Nat) : E := tn m one
theorem xp_lt (m : Nat) (h : m < 128) : xp m = fun i => i == m := by
  induction m with
  | zero => rfl
  | succ m ih =>
    show tm (xp m) = _
    rw [ih (by omega)]
    funext i
    unfold tm
    simp only [show ((127 : Nat) == m) = false from by simp; omega, Bool.false_and, Bool.xor_false]
    by_cases e : i = m + 1
    · subst e; simp; omega
    · simp only [show (i == m + 1) = false from by simpa using e]
      by_cases e2 : 0 < i
      · simp; omega
      · simp [e2]
theorem xp_128 : xp 128 = add (add (xp 0) (xp 1)) (add (xp 2) (xp 7)) := by
  show tm (xp 127) = _
  rw [xp_lt 127 (by decide), xp_lt 0 (by decide), xp_lt 1 (by decide), xp_lt 2 (by decide), xp_lt 7 (by decide)]
  funext i
  unfold tm add low
  by_cases e : i < 128
  · have hz : (decide (0 < i) && (i - 1 == 127)) = false := by simp; omega
    rw [hz]
    simp only [e, decide_true, Bool.true_and, Bool.false_xor, beq_self_eq_true]
    by_cases h0 : i = 0
    · subst h0; rfl
    by_cases h1 : i = 1
    · subst h1; rfl
    by_cases h2 : i = 2
    · subst h2; rfl
    by_cases h7 : i = 7
    · subst h7; rfl
    rw [show (i == 0) = false from by simpa using h0, show (i == 1) = false from by simpa using h1, show (i == 2) = false from by simpa using h2, show (i == 7) = false from by simpa using h7]; rfl
  · have : (i == 0) = false ∧ (i == 1) = false ∧ (i == 2) = false ∧ (i == 7) = false := by simp; omega
    simp [e, this.1, this.2.1, this.2.2.1, this.2.2.2]
theorem xp_add (n m : Nat) : tn n (xp m) = xp (n + m) := tn_tn n m one
theorem xp_red (i : Nat) (h : 128 ≤ i) : xp i = add (add (xp (i - 128)) (xp (i - 127))) (add (xp (i - 126)) (xp (i - 121))) := by
  have h2 : xp i = tn (i - 128) (xp 128) := by rw [xp_add, show i - 128 + 128 = i from by omega]
  rw [h2, xp_128, tn_add, tn_add, tn_add, xp_add, xp_add, xp_add, xp_add, show i - 128 + 0 = i - 128 from Nat.add_zero _, show i - 128 + 1 = i - 127 from by omega, show i - 128 + 2 = i - 126 from by omega, show i - 128 + 7 = i - 121 from by omega]
/-- what a row of factors comes to -/
def val (p : E) : Nat → E
  | 0 => zero
  | n + 1 => add (val p n) (sc (p n) (xp n))
theorem val_congr (p q : E) (n : Nat) (h : ∀ i, i < n → p i = q i) : val p n = val q n := by
  induction n with
  | zero => rfl
  | succ n ih => show add _ _ = add _ _; rw [ih (fun i hi => h i (by omega)), h n (by omega)]
theorem sc_xor (a b : Bool) (e : E) : sc (a ^^ b) e = add (sc a e) (sc b e) := funext fun i => Bool.and_xor_distrib_right _ _ _
theorem add4 (a b c d : E) : add (add a b) (add c d) = add (add a c) (add b d) := by rw [add_assoc, add_assoc, ← add_assoc b c d, ← add_assoc c b d, add_comm b c]
theorem val_add (p q : E) (n : Nat) : val (add p q) n = add (val p n) (val q n) := by
  induction n with
  | zero => exact (add_zero zero).symm
  | succ n ih =>
    show add (val (add p q) n) (sc (p n ^^ q n) (xp n)) = add (add (val p n) (sc (p n) (xp n))) (add (val q n) (sc (q n) (xp n)))
    rw [ih, sc_xor, add4]
/-- one factor turned -/
def flip (p : E) (c : Bool) (j : Nat) : E := fun i => p i ^^ (c && i == j)
theorem val_flip (p : E) (c : Bool) (j n : Nat) (h : j < n) : val (flip p c j) n = add (val p n) (sc c (xp j)) := by
  induction n with
  | zero => omega
  | succ n ih =>
    show add (val (flip p c j) n) (sc (p n ^^ (c && n == j)) (xp n)) = add (add (val p n) (sc (p n) (xp n))) (sc c (xp j))
    by_cases e : j = n
    · subst e
      rw [val_congr (flip p c j) p j (fun i hi => by unfold flip; rw [show (i == j) = false from by simpa using Nat.ne_of_lt hi]; simp), beq_self_eq_true, Bool.and_true, sc_xor, add_assoc]
    · rw [ih (by omega), show (n == j) = false from by simp; omega, Bool.and_false, Bool.xor_false, add_assoc, add_comm (sc c (xp j)), ← add_assoc]
/-- power i taken down -/
def down (p : E) (i : Nat) : E := flip (flip (flip (flip p (p i) (i - 128)) (p i) (i - 127)) (p i) (i - 126)) (p i) (i - 121)
theorem val_down (p : E) (i : Nat) (h : 128 ≤ i) : val (down p i) i = val p (i + 1) := by
  unfold down
  rw [val_flip _ _ _ _ (by omega), val_flip _ _ _ _ (by omega), val_flip _ _ _ _ (by omega), val_flip _ _ _ _ (by omega)]
  show _ = add (val p i) (sc (p i) (xp i))
  rw [xp_red i h, sc_add, sc_add, sc_add]
  simp only [add_assoc]
/-- all powers from 254 on taken down, n of them -/
def red (p : E) : Nat → E
  | 0 => p
  | n + 1 => down (red p n) (254 - n)
theorem val_red (p : E) (n : Nat) (h : n ≤ 127) : val (red p n) (255 - n) = val p 255 := by
  induction n with
  | zero => rfl
  | succ n ih =>
    rw [← ih (by omega)]
    show val (down (red p n) (254 - n)) (255 - (n + 1)) = _
    rw [show 255 - (n + 1) = 254 - n from by omega, val_down _ _ (by omega), show 254 - n + 1 = 255 - n from by omega]
theorem val_128 (p : E) (n : Nat) (h : n ≤ 128) : val p n = fun i => decide (i < n) && p i := by
  induction n with
  | zero => funext i; simp [val, zero]
  | succ n ih =>
    show add (val p n) (sc (p n) (xp n)) = _
    rw [ih (by omega), xp_lt n (by omega)]
    funext i
    unfold add sc
    dsimp only
    by_cases e : i = n
    · subst e; simp
    · by_cases e2 : i < n
      · rw [show (i == n) = false from by simpa using e]; simp [e2, Nat.lt_succ_of_lt e2]
      · rw [show (i == n) = false from by simpa using e]; simp [e2, show ¬ i < n + 1 from by omega]
def cutE (b : E) : E := fun i => decide (i < 128) && b i
def shifted (b : E) (k : Nat) : E := fun m => decide (k ≤ m) && cutE b (m - k)
theorem val_shift (b : E) (k n : Nat) : val (shifted b k) (k + n) = tn k (val (cutE b) n) := by
  induction n with
  | zero =>
    have : ∀ j, j ≤ k → val (shifted b k) j = zero := fun j => by
      induction j with
      | zero => intro _; rfl
      | succ j ih =>
        intro hj
        show add (val (shifted b k) j) (sc (decide (k ≤ j) && _) (xp j)) = zero
        rw [ih (by omega), show decide (k ≤ j) = false from by simp; omega, Bool.false_and, sc_false, add_zero]
    rw [Nat.add_zero, this k (Nat.le_refl _)]
    exact (tn_zero k).symm
  | succ n ih =>
    show add (val (shifted b k) (k + n)) (sc (decide (k ≤ k + n) && cutE b (k + n - k)) (xp (k + n))) = tn k (add (val (cutE b) n) (sc (cutE b n) (xp n)))
    rw [ih, tn_add, tn_sc, xp_add, show decide (k ≤ k + n) = true from by simp, Bool.true_and, Nat.add_sub_cancel_left]
theorem val_more (b : E) (n m : Nat) (h : ∀ i, n ≤ i → b i = false) : val b (n + m) = val b n := by
  induction m with
  | zero => rfl
  | succ m ih => show add (val b (n + m)) (sc (b (n + m)) (xp (n + m))) = _; rw [ih, h _ (by omega), sc_false, add_zero]
/-- the row of all products of powers, of the first n powers of a -/
def prod (a b : E) : Nat → E
  | 0 => zero
  | n + 1 => add (prod a b n) (sc (a n) (shifted b n))
theorem val_sc (c : Bool) (p : E) (n : Nat) : val (sc c p) n = sc c (val p n) := by
  induction n with
  | zero => exact (sc_zero c).symm
  | succ n ih =>
    show add (val (sc c p) n) (sc (c && p n) (xp n)) = sc c (add (val p n) (sc (p n) (xp n)))
    rw [ih, sc_add]
    congr 1
    funext i
    exact Bool.and_assoc _ _ _
theorem val_zero (n : Nat) : val zero n = zero := by
  induction n with
  | zero => rfl
  | succ n ih => show add (val zero n) (sc false (xp n)) = _; rw [ih, sc_false, add_zero]
theorem val_prod (a b : E) (n : Nat) (h : n ≤ 128) : val (prod a b n) 255 = ts a (cutE b) 0 n := by
  induction n with
  | zero => exact val_zero 255
  | succ n ih =>
    show val (add (prod a b n) (sc (a n) (shifted b n))) 255 = add (ts a (cutE b) 0 n) (sc (a (0 + n)) (tn n (cutE b)))
    rw [val_add, ih (by omega), val_sc, Nat.zero_add]
    have h1 : val (shifted b n) (n + 128) = tn n (cutE b) := by
      rw [val_shift, val_128 _ 128 (Nat.le_refl _)]
      congr 1
      funext i
      unfold cutE
      cases decide (i < 128) <;> rfl
    have h2 : val (shifted b n) 255 = val (shifted b n) (n + 128) := by
      rw [show 255 = n + 128 + (127 - n) from by omega]
      refine val_more _ _ _ (fun i hi => ?_)
      unfold shifted cutE
      rw [show decide (i - n < 128) = false from by simp; omega, Bool.false_and, Bool.and_false]
    rw [h2, h1]
theorem mul_red (a b : E) : mul a (cutE b) = cutE (red (prod a b 128) 127) := by
  rw [mul_ts, ← val_prod a b 128 (Nat.le_refl _), ← val_red _ 127 (Nat.le_refl _)]
  exact val_128 _ 128 (Nat.le_refl _)
end Gh
end Go.Proofs.YtkjdejadambffaaDoor
namespace Go.Proofs.YtkjdejadambffaaDoor
open Go.RowKit
set_option linter.unusedSimpArgs false
set_option linter.unusedVariables false
namespace Gh
abbrev W2 := BitVec 64 × BitVec 64
def bit (p : W2) : E := fun i => if i < 64 then p.1.getLsbD (63 - i) else if i < 128 then p.2.getLsbD (127 - i) else false
theorem bit_out (p : W2) (i : Nat) (h : 128 ≤ i) : bit p i = false := by unfold bit; rw [if_neg (by omega), if_neg (by omega)]
theorem bit_hi (p : W2) (i : Nat) (h : i < 64) : bit p i = p.1.getLsbD (63 - i) := by unfold bit; rw [if_pos h]
theorem bit_lo (p : W2) (i : Nat) (h : 64 ≤ i) (h2 : i < 128) : bit p i = p.2.getLsbD (127 - i) := by unfold bit; rw [if_neg (by omega), if_pos h2]
def xw (p q : W2) : W2 := (p.1 ^^^ q.1, p.2 ^^^ q.2)
theorem bit_xw (p q : W2) : bit (xw p q) = add (bit p) (bit q) := funext fun i => by
  unfold add
  by_cases h : i < 64
  · rw [bit_hi _ _ h, bit_hi _ _ h, bit_hi _ _ h]; exact BitVec.getLsbD_xor
  by_cases h2 : i < 128
  · rw [bit_lo _ _ (by omega) h2, bit_lo _ _ (by omega) h2, bit_lo _ _ (by omega) h2]; exact BitVec.getLsbD_xor
  · rw [bit_out _ _ (by omega), bit_out _ _ (by omega), bit_out _ _ (by omega)]; rfl
def z2 : W2 := (0#64, 0#64)
theorem bit_z2 : bit z2 = zero := funext fun i => by unfold bit z2 zero; simp
def e1 : BitVec 64 := 16212958658533785600#64
def tmw (p : W2) : W2 := (if p.2 &&& 1#64 = 1#64 then (p.1 >>> 1) ^^^ e1 else p.1 >>> 1, (p.2 >>> 1) ||| (p.1 <<< 63))
theorem e1_bits : ∀ i : Fin 64, e1.getLsbD (63 - i.1) = low i.1 := by decide +kernel
theorem low_big (i : Nat) (h : 8 ≤ i) : low i = false := by
  unfold low
  simp; omega
theorem lsb0 (x : BitVec 64) : (x &&& 1#64 = 1#64) ↔ x.getLsbD 0 = true := by
  constructor
  · intro h
    have := congrArg (fun y => y.getLsbD 0) h
    simpa using this
  · intro h
    apply BitVec.eq_of_getLsbD_eq
    intro i hi
    rw [BitVec.getLsbD_and]
    by_cases e : i = 0
    · subst e; simp [h]
    · simp [BitVec.getLsbD_one, e]
theorem bit_tmw (p : W2) : bit (tmw p) = tm (bit p) := funext fun i => by
  have h127 : bit p 127 = p.2.getLsbD 0 := bit_lo _ _ (by omega) (by omega)
  unfold tm
  rw [h127]
  by_cases h : i < 64
  · rw [bit_hi _ _ h, show decide (i < 128) = true from by simp; omega, Bool.true_and]
    have hs : (p.1 >>> 1).getLsbD (63 - i) = (decide (0 < i) && bit p (i - 1)) := by
      rw [BitVec.getLsbD_ushiftRight]
      by_cases e : 0 < i
      · rw [bit_hi _ _ (by omega), show decide (0 < i) = true from by simpa using e, Bool.true_and, show 1 + (63 - i) = 63 - (i - 1) from by omega]
      · rw [show decide (0 < i) = false from by simpa using e, Bool.false_and]
        exact BitVec.getLsbD_of_ge _ _ (by omega)
    show (if p.2 &&& 1#64 = 1#64 then (p.1 >>> 1) ^^^ e1 else p.1 >>> 1).getLsbD (63 - i) = _
    by_cases c : p.2 &&& 1#64 = 1#64
    · rw [if_pos c, BitVec.getLsbD_xor, hs, (lsb0 _).1 c, Bool.true_and, e1_bits ⟨i, h⟩]
    · rw [if_neg c, hs, show p.2.getLsbD 0 = false from by
        cases hb : p.2.getLsbD 0 with
        | false => rfl
        | true => exact absurd ((lsb0 _).2 hb) c, Bool.false_and, Bool.xor_false]
  by_cases h2 : i < 128
  · rw [bit_lo _ _ (by omega) h2, show decide (i < 128) = true from by simpa using h2, Bool.true_and, low_big i (by omega), Bool.and_false, Bool.xor_false, show decide (0 < i) = true from by simp; omega, Bool.true_and]
    show ((p.2 >>> 1) ||| (p.1 <<< 63)).getLsbD (127 - i) = _
    rw [BitVec.getLsbD_or, BitVec.getLsbD_ushiftRight, BitVec.getLsbD_shiftLeft]
    by_cases e : i = 64
    · subst e
      rw [bit_hi _ _ (by omega), BitVec.getLsbD_of_ge _ _ (by omega)]
      simp
    · rw [bit_lo _ _ (by omega) (by omega), show decide (127 - i < 63) = true from by simp; omega, show 1 + (127 - i) = 127 - (i - 1) from by omega]
      simp
  · rw [bit_out _ _ (by omega), show decide (i < 128) = false from by simpa using h2, Bool.false_and]
/-! ### four bits at once -/
def foL : List (BitVec 64) := [0x0000#64, 0x1c20#64, 0x3840#64, 0x2460#64, 0x7080#64, 0x6ca0#64, 0x48c0#64, 0x54e0#64, 0xe100#64, 0xfd20#64, 0xd940#64, 0xc560#64, 0x9180#64, 0x8da0#64, 0xa9c0#64, 0xb5e0#64]
def fo (n : Nat) : BitVec 64 := foL.getD n 0#64
theorem fo_bits : ∀ n : Fin 16, ∀ i : Fin 16, (fo n.1).getLsbD (15 - i.1) = ((((n.1.testBit 3 && low i.1) ^^ (n.1.testBit 2 && (decide (0 < i.1) && low (i.1 - 1)))) ^^ (n.1.testBit 1 && (decide (1 < i.1) && low (i.1 - 2)))) ^^ (n.1.testBit 0 && (decide (2 < i.1) && low (i.1 - 3)))) := by decide +kernel
theorem fo_lt : ∀ n : Fin 16, ∀ i : Fin 48, (fo n.1).getLsbD (16 + i.1) = false := by decide +kernel
def sh4 (f : Nat → BitVec 64) (z : W2) : W2 := ((z.1 >>> 4) ^^^ (f (z.2 &&& 15#64).toNat <<< 48), (z.2 >>> 4) ||| (z.1 <<< 60))
theorem tn_127 (e : E) (k : Nat) (h : k ≤ 100) : tn k e 127 = e (127 - k) := by
  induction k generalizing e with
  | zero => rfl
  | succ k ih =>
    show tn (k + 1) e 127 = _
    rw [show tn (k + 1) e = tn k (tm e) from (tn_tm k e).symm, ih (tm e) (by omega)]
    unfold tm
    rw [low_big _ (by omega), Bool.and_false, Bool.xor_false, show decide (127 - k < 128) = true from by simp; omega, show decide (0 < 127 - k) = true from by simp; omega, show 127 - k - 1 = 127 - (k + 1) from by omega]
    rfl
theorem tn4 (e : E) (i : Nat) (h : i < 128) : tn 4 e i = ((decide (3 < i) && e (i - 4)) ^^ ((((e 124 && low i) ^^ (e 125 && (decide (0 < i) && low (i - 1)))) ^^ (e 126 && (decide (1 < i) && low (i - 2)))) ^^ (e 127 && (decide (2 < i) && low (i - 3))))) := by
  have s : ∀ (k j : Nat), k ≤ 100 → j < 128 → tn (k + 1) e j = ((decide (0 < j) && tn k e (j - 1)) ^^ (e (127 - k) && low j)) := fun k j hk hj => by
    show tm (tn k e) j = _
    unfold tm
    rw [tn_127 e k hk, show decide (j < 128) = true from by simpa using hj, Bool.true_and]
  rw [s 3 i (by omega) h, s 2 (i - 1) (by omega) (by omega), s 1 (i - 1 - 1) (by omega) (by omega), s 0 (i - 1 - 1 - 1) (by omega) (by omega)]
  rw [show i - 1 - 1 = i - 2 from by omega, show i - 2 - 1 = i - 3 from by omega, show i - 3 - 1 = i - 4 from by omega]
  rw [show decide (0 < i - 1) = decide (1 < i) from by congr 1; exact propext ⟨fun h => by omega, fun h => by omega⟩, show decide (0 < i - 2) = decide (2 < i) from by congr 1; exact propext ⟨fun h => by omega, fun h => by omega⟩, show decide (0 < i - 3) = decide (3 < i) from by congr 1; exact propext ⟨fun h => by omega, fun h => by omega⟩]
  show ((decide (0 < i) && ((decide (1 < i) && ((decide (2 < i) && ((decide (3 < i) && e (i - 4)) ^^ (e 127 && low (i - 3)))) ^^ (e 126 && low (i - 2)))) ^^ (e 125 && low (i - 1)))) ^^ (e 124 && low i)) = _
  by_cases h0 : 0 < i
  · by_cases h1 : 1 < i
    · by_cases h2 : 2 < i
      · simp only [h0, h1, h2, decide_true, Bool.true_and]
        generalize (decide (3 < i) && e (i - 4)) = a
        generalize (e 127 && low (i - 3)) = b
        generalize (e 126 && low (i - 2)) = c
        generalize (e 125 && low (i - 1)) = d
        generalize (e 124 && low i) = f
        revert a b c d f; decide
      · simp only [h0, h1, h2, show decide (3 < i) = false from by simp; omega, decide_true, decide_false, Bool.true_and, Bool.false_and, Bool.and_false]
        generalize (e 126 && low (i - 2)) = c
        generalize (e 125 && low (i - 1)) = d
        generalize (e 124 && low i) = f
        revert c d f; decide
    · simp only [h0, h1, show decide (2 < i) = false from by simp; omega, show decide (3 < i) = false from by simp; omega, decide_true, decide_false, Bool.true_and, Bool.false_and, Bool.and_false]
      generalize (e 125 && low (i - 1)) = d
      generalize (e 124 && low i) = f
      revert d f; decide
  · simp only [h0, show decide (1 < i) = false from by simp; omega, show decide (2 < i) = false from by simp; omega, show decide (3 < i) = false from by simp; omega, decide_true, decide_false, Bool.true_and, Bool.false_and, Bool.and_false]
    generalize (e 124 && low i) = f
    revert f; decide
theorem nib_bit (x : BitVec 64) (k : Nat) (h : k < 4) : (x &&& 15#64).toNat.testBit k = x.getLsbD k := by
  rw [← BitVec.getLsbD, BitVec.getLsbD_and]
  have : ∀ k : Fin 4, (15#64).getLsbD k.1 = true := by decide
  rw [this ⟨k, h⟩, Bool.and_true]
theorem nib_lt (x : BitVec 64) : (x &&& 15#64).toNat < 16 := by
  rw [BitVec.toNat_and]
  exact Nat.lt_of_le_of_lt Nat.and_le_right (by decide)
theorem bit_sh4 (z : W2) : bit (sh4 fo z) = tn 4 (bit z) := funext fun i => by
  by_cases h : i < 128
  · rw [tn4 _ _ h, bit_lo z 124 (by omega) (by omega), bit_lo z 125 (by omega) (by omega), bit_lo z 126 (by omega) (by omega), bit_lo z 127 (by omega) (by omega)]
    show bit (sh4 fo z) i = ((decide (3 < i) && bit z (i - 4)) ^^ ((((z.2.getLsbD 3 && low i) ^^ (z.2.getLsbD 2 && (decide (0 < i) && low (i - 1)))) ^^ (z.2.getLsbD 1 && (decide (1 < i) && low (i - 2)))) ^^ (z.2.getLsbD 0 && (decide (2 < i) && low (i - 3)))))
    by_cases h2 : i < 64
    · rw [bit_hi _ _ h2]
      show ((z.1 >>> 4) ^^^ (fo (z.2 &&& 15#64).toNat <<< 48)).getLsbD (63 - i) = _
      rw [BitVec.getLsbD_xor, BitVec.getLsbD_ushiftRight, BitVec.getLsbD_shiftLeft]
      have ha : z.1.getLsbD (4 + (63 - i)) = (decide (3 < i) && bit z (i - 4)) := by
        by_cases e : 3 < i
        · rw [show decide (3 < i) = true from by simpa using e, Bool.true_and, bit_hi _ _ (by omega), show 4 + (63 - i) = 63 - (i - 4) from by omega]
        · rw [show decide (3 < i) = false from by simpa using e, Bool.false_and]
          exact BitVec.getLsbD_of_ge _ _ (by omega)
      rw [ha]
      congr 1
      by_cases e : i < 16
      · have hf := fo_bits ⟨(z.2 &&& 15#64).toNat, nib_lt _⟩ ⟨i, e⟩
        simp only [nib_bit _ _ (show 3 < 4 by decide), nib_bit _ _ (show 2 < 4 by decide), nib_bit _ _ (show 1 < 4 by decide), nib_bit _ _ (show 0 < 4 by decide)] at hf
        rw [← hf, show 63 - i - 48 = 15 - i from by omega, show decide (63 - i < 64) = true from by simp; omega, show decide (63 - i < 48) = false from by simp; omega]
        simp
      · rw [show decide (63 - i < 48) = true from by simp; omega, low_big i (by omega), low_big (i - 1) (by omega), low_big (i - 2) (by omega), low_big (i - 3) (by omega)]
        simp
    · rw [bit_lo _ _ (by omega) h]
      show ((z.2 >>> 4) ||| (z.1 <<< 60)).getLsbD (127 - i) = _
      rw [low_big i (by omega), low_big (i - 1) (by omega), low_big (i - 2) (by omega), low_big (i - 3) (by omega), show decide (3 < i) = true from by simp; omega, BitVec.getLsbD_or, BitVec.getLsbD_ushiftRight, BitVec.getLsbD_shiftLeft]
      simp only [Bool.and_false, Bool.xor_false, Bool.true_and]
      by_cases e : i < 68
      · rw [bit_hi _ _ (by omega), BitVec.getLsbD_of_ge z.2 _ (by omega), show decide (127 - i < 60) = false from by simp; omega, show decide (127 - i < 64) = true from by simp; omega, show 127 - i - 60 = 63 - (i - 4) from by omega]
        simp
      · rw [bit_lo _ _ (by omega) (by omega), show decide (127 - i < 60) = true from by simp; omega, show 4 + (127 - i) = 127 - (i - 4) from by omega]
        simp
  · rw [bit_out _ _ (by omega)]
    show false = tm (tn 3 (bit z)) i
    unfold tm
    rw [show decide (i < 128) = false from by simpa using h, Bool.false_and]
def sel (c : Bool) (p : W2) : W2 := if c then p else z2
theorem bit_sel (c : Bool) (p : W2) : bit (sel c p) = sc c (bit p) := by
  cases c
  · exact bit_z2.trans (sc_false _).symm
  · exact (sc_true _).symm
/-- the multiples by four bits -/
def mw (b : W2) (n : Nat) : W2 := xw (xw (xw (sel (n.testBit 3) b) (sel (n.testBit 2) (tmw b))) (sel (n.testBit 1) (tmw (tmw b)))) (sel (n.testBit 0) (tmw (tmw (tmw b))))
def step (f : Nat → BitVec 64) (z b : W2) (w : BitVec 64) : W2 := xw (sh4 f z) (mw b (w &&& 15#64).toNat)
theorem hn4 (a b : E) (n : Nat) : hn a b (n + 4) = add (tn 4 (hn a b n)) (add (add (add (sc (a (124 - n)) b) (sc (a (125 - n)) (tn 1 b))) (sc (a (126 - n)) (tn 2 b))) (sc (a (127 - n)) (tn 3 b))) := by
  show add (tm (add (tm (add (tm (add (tm (hn a b n)) (sc (a (127 - n)) b))) (sc (a (127 - (n + 1))) b))) (sc (a (127 - (n + 2))) b))) (sc (a (127 - (n + 3))) b) = _
  rw [show 127 - (n + 1) = 126 - n from by omega, show 127 - (n + 2) = 125 - n from by omega, show 127 - (n + 3) = 124 - n from by omega]
  simp only [tm_add, tm_sc]
  show add (add (add (add (tn 4 (hn a b n)) (sc (a (127 - n)) (tn 3 b))) (sc (a (126 - n)) (tn 2 b))) (sc (a (125 - n)) (tn 1 b))) (sc (a (124 - n)) b) = _
  simp only [add_assoc]
  congr 1
  rw [add_comm (sc (a (127 - n)) (tn 3 b))]
  simp only [add_assoc]
  rw [add_comm (sc (a (126 - n)) (tn 2 b))]
  simp only [add_assoc]
  rw [add_comm (sc (a (125 - n)) (tn 1 b))]
  simp only [add_assoc]
  congr 1
  rw [add_comm (sc (a (127 - n)) (tn 3 b))]
  simp only [add_assoc]
  rw [← add_assoc, add_comm (sc (a (126 - n)) (tn 2 b)) (sc (a (125 - n)) (tn 1 b)), add_assoc]
theorem bit_step (z b : W2) (w : BitVec 64) : bit (step fo z b w) = add (tn 4 (bit z)) (add (add (add (sc (w.getLsbD 3) (bit b)) (sc (w.getLsbD 2) (tn 1 (bit b)))) (sc (w.getLsbD 1) (tn 2 (bit b)))) (sc (w.getLsbD 0) (tn 3 (bit b)))) := by
  unfold step mw
  simp only [bit_xw, bit_sh4, bit_sel, bit_tmw, nib_bit _ _ (show 3 < 4 by decide), nib_bit _ _ (show 2 < 4 by decide), nib_bit _ _ (show 1 < 4 by decide), nib_bit _ _ (show 0 < 4 by decide)]
  rfl
/-- k times four bits of a word -/
def bh (f : Nat → BitVec 64) (b : W2) (w : BitVec 64) (z : W2) : Nat → W2
  | 0 => z
  | k + 1 => step f (bh f b w z k) b (w >>> (4 * k))
theorem bh_lo (a b : W2) (k : Nat) (h : k ≤ 16) : bit (bh fo b a.2 z2 k) = hn (bit a) (bit b) (4 * k) := by
  induction k with
  | zero => exact bit_z2
  | succ k ih =>
    show bit (step fo (bh fo b a.2 z2 k) b (a.2 >>> (4 * k))) = _
    rw [bit_step, ih (by omega), show 4 * (k + 1) = 4 * k + 4 from rfl, hn4]
    simp only [BitVec.getLsbD_ushiftRight]
    rw [bit_lo a (124 - 4 * k) (by omega) (by omega), bit_lo a (125 - 4 * k) (by omega) (by omega), bit_lo a (126 - 4 * k) (by omega) (by omega), bit_lo a (127 - 4 * k) (by omega) (by omega)]
    rw [show 127 - (124 - 4 * k) = 4 * k + 3 from by omega, show 127 - (125 - 4 * k) = 4 * k + 2 from by omega, show 127 - (126 - 4 * k) = 4 * k + 1 from by omega, show 127 - (127 - 4 * k) = 4 * k + 0 from by omega]
theorem bh_hi (a b : W2) (k : Nat) (h : k ≤ 16) : bit (bh fo b a.1 (bh fo b a.2 z2 16) k) = hn (bit a) (bit b) (64 + 4 * k) := by
  induction k with
  | zero => exact bh_lo a b 16 (Nat.le_refl _)
  | succ k ih =>
    show bit (step fo (bh fo b a.1 (bh fo b a.2 z2 16) k) b (a.1 >>> (4 * k))) = _
    rw [bit_step, ih (by omega), show 64 + 4 * (k + 1) = 64 + 4 * k + 4 from rfl, hn4]
    simp only [BitVec.getLsbD_ushiftRight]
    rw [bit_hi a (124 - (64 + 4 * k)) (by omega), bit_hi a (125 - (64 + 4 * k)) (by omega), bit_hi a (126 - (64 + 4 * k)) (by omega), bit_hi a (127 - (64 + 4 * k)) (by omega)]
    rw [show 63 - (124 - (64 + 4 * k)) = 4 * k + 3 from by omega, show 63 - (125 - (64 + 4 * k)) = 4 * k + 2 from by omega, show 63 - (126 - (64 + 4 * k)) = 4 * k + 1 from by omega, show 63 - (127 - (64 + 4 * k)) = 4 * k + 0 from by omega]
def byw (f : Nat → BitVec 64) (a b : W2) : W2 := bh f b a.1 (bh f b a.2 z2 16) 16
theorem bit_byw (a b : W2) : bit (byw fo a b) = mul (bit a) (bit b) := bh_hi a b 16 (Nat.le_refl _)
/-! ### sixteen bytes -/
def bits (s : L8) : E := fun i => decide (i < 128) && (gb s (i / 8)).getLsbD (7 - i % 8)
def ld (s : L8) (off : Nat) : Nat → BitVec 64
  | 0 => 0#64
  | n + 1 => (ld s off n <<< 8) ||| (gb s (off + n)).setWidth 64
theorem ld_bit (s : L8) (off n q : Nat) (h : n ≤ 8) : (ld s off n).getLsbD q = (decide (q < 8 * n) && (gb s (off + (n - 1 - q / 8))).getLsbD (q % 8)) := by
  induction n generalizing q with
  | zero => simp [ld]
  | succ n ih =>
    show ((ld s off n <<< 8) ||| (gb s (off + n)).setWidth 64).getLsbD q = _
    rw [BitVec.getLsbD_or, BitVec.getLsbD_shiftLeft, BitVec.getLsbD_setWidth]
    by_cases e : q < 8
    · rw [show decide (q < 8 * (n + 1)) = true from by simp; omega, show n + 1 - 1 - q / 8 = n from by omega, show q % 8 = q from by omega, show decide (q < 8) = true from by simpa using e, show decide (q < 64) = true from by simp; omega]
      simp
    · rw [ih (q - 8) (by omega), show decide (q < 8) = false from by simpa using e, BitVec.getLsbD_of_ge (gb s (off + n)) q (by omega), Bool.and_false, Bool.or_false, show (q - 8) % 8 = q % 8 from by omega, show n - 1 - (q - 8) / 8 = n + 1 - 1 - q / 8 from by omega]
      by_cases e2 : q < 8 * (n + 1)
      · rw [show decide (q < 8 * (n + 1)) = true from by simpa using e2, show decide (q - 8 < 8 * n) = true from by simp; omega, show decide (q < 64) = true from by simp; omega]
        simp
      · rw [show decide (q < 8 * (n + 1)) = false from by simpa using e2, show decide (q - 8 < 8 * n) = false from by simp; omega]
        simp
def lw (s : L8) : W2 := (ld s 0 8, ld s 8 8)
theorem bit_lw (s : L8) : bit (lw s) = bits s := funext fun i => by
  unfold bits
  by_cases h : i < 64
  · rw [bit_hi _ _ h]
    show (ld s 0 8).getLsbD (63 - i) = _
    rw [ld_bit _ _ _ _ (by omega), show decide (63 - i < 8 * 8) = true from by simp; omega, show decide (i < 128) = true from by simp; omega, show 0 + (8 - 1 - (63 - i) / 8) = i / 8 from by omega, show (63 - i) % 8 = 7 - i % 8 from by omega]
  by_cases h2 : i < 128
  · rw [bit_lo _ _ (by omega) h2]
    show (ld s 8 8).getLsbD (127 - i) = _
    rw [ld_bit _ _ _ _ (by omega), show decide (127 - i < 8 * 8) = true from by simp; omega, show decide (i < 128) = true from by simpa using h2, show 8 + (8 - 1 - (127 - i) / 8) = i / 8 from by omega, show (127 - i) % 8 = 7 - i % 8 from by omega]
  · rw [bit_out _ _ (by omega), show decide (i < 128) = false from by simpa using h2, Bool.false_and]
def sb (p : W2) (j : Nat) : BitVec 8 := if j < 8 then (p.1 >>> (56 - 8 * j)).setWidth 8 else (p.2 >>> (56 - 8 * (j - 8))).setWidth 8
def st (p : W2) : L8 := (List.range 16).map (sb p)
theorem st_len (p : W2) : (st p).length = 16 := by simp [st]
theorem gb_st (p : W2) (j : Nat) (h : j < 16) : gb (st p) j = sb p j := gb_map _ _ _ h
theorem bits_st (p : W2) : bits (st p) = bit p := funext fun i => by
  unfold bits
  by_cases h2 : i < 128
  · rw [show decide (i < 128) = true from by simpa using h2, Bool.true_and, gb_st _ _ (by omega)]
    unfold sb
    by_cases h : i < 64
    · rw [if_pos (by omega), bit_hi _ _ h, BitVec.getLsbD_setWidth, BitVec.getLsbD_ushiftRight, show decide (7 - i % 8 < 8) = true from by simp; omega, Bool.true_and, show 56 - 8 * (i / 8) + (7 - i % 8) = 63 - i from by omega]
    · rw [if_neg (by omega), bit_lo _ _ (by omega) h2, BitVec.getLsbD_setWidth, BitVec.getLsbD_ushiftRight, show decide (7 - i % 8 < 8) = true from by simp; omega, Bool.true_and, show 56 - 8 * (i / 8 - 8) + (7 - i % 8) = 127 - i from by omega]
  · rw [bit_out _ _ (by omega), show decide (i < 128) = false from by simpa using h2, Bool.false_and]
theorem bits_ext (a b : L8) (ha : a.length = 16) (hb : b.length = 16) (h : bits a = bits b) : a = b := by
  refine gb_ext (by rw [ha, hb]) (fun j hj => BitVec.eq_of_getLsbD_eq fun q hq => ?_)
  rw [ha] at hj
  have := congrFun h (8 * j + (7 - q))
  unfold bits at this
  rw [show decide (8 * j + (7 - q) < 128) = true from by simp; omega, show (8 * j + (7 - q)) / 8 = j from by omega, show 7 - (8 * j + (7 - q)) % 8 = q from by omega] at this
  exact this
theorem bits_xor (a b : L8) (ha : a.length = 16) (hb : b.length = 16) : bits (Oct.xor a b) = add (bits a) (bits b) := funext fun i => by
  unfold bits add
  dsimp only
  by_cases h : i < 128
  · rw [Oct.gb_xor _ _ _ (by omega), BitVec.getLsbD_xor, show decide (i < 128) = true from by simpa using h]
    rfl
  · rw [show decide (i < 128) = false from by simpa using h]
    rfl
theorem bits_cut (s : L8) : cutE (bits s) = bits s := funext fun i => by
  unfold cutE bits
  cases decide (i < 128) <;> rfl
/-- the reference's bytes -/
def byB (e : E) (j : Nat) : Nat → BitVec 8
  | 0 => 0#8
  | n + 1 => if j = n / 8 ∧ e n = true then byB e j n ||| (1#8 <<< (7 - n % 8)) else byB e j n
theorem byB_bit (e : E) (j n q : Nat) (hq : q < 8) : (byB e j n).getLsbD q = (decide (8 * j + (7 - q) < n) && e (8 * j + (7 - q))) := by
  induction n with
  | zero => simp [byB]
  | succ n ih =>
    show (if j = n / 8 ∧ e n = true then byB e j n ||| (1#8 <<< (7 - n % 8)) else byB e j n).getLsbD q = _
    by_cases c : j = n / 8 ∧ e n = true
    · rw [if_pos c, BitVec.getLsbD_or, ih, BitVec.getLsbD_shiftLeft]
      by_cases d : q = 7 - n % 8
      · have hn : 8 * j + (7 - q) = n := by omega
        rw [hn, show decide (n < n + 1) = true from by simp, Bool.true_and, c.2, show decide (q < 8) = true from by simpa using hq, show decide (q < 7 - n % 8) = false from by simp; omega, show q - (7 - n % 8) = 0 from by omega]
        simp
      · have hb : (decide (q < 8) && !decide (q < 7 - n % 8) && (1#8).getLsbD (q - (7 - n % 8))) = false := by
          by_cases f : q < 7 - n % 8
          · rw [show decide (q < 7 - n % 8) = true from by simpa using f]; simp
          · rw [BitVec.getLsbD_one, show decide (q - (7 - n % 8) = 0) = false from by simp; omega]; simp
        rw [hb, Bool.or_false]
        congr 1
        by_cases f : 8 * j + (7 - q) < n
        · simp [f]; omega
        · simp [f]; omega
    · rw [if_neg c, ih]
      by_cases f : 8 * j + (7 - q) = n
      · rw [f]
        have : e n = false := by
          cases hb : e n with
          | false => rfl
          | true => exact absurd ⟨by omega, hb⟩ c
        rw [this]; simp
      · congr 1
        by_cases g : 8 * j + (7 - q) < n
        · simp [g]; omega
        · simp [g]; omega
def tx (e : E) : L8 := (List.range 16).map fun j => byB e j 128
theorem tx_len (e : E) : (tx e).length = 16 := by simp [tx]
theorem bits_tx (e : E) : bits (tx e) = cutE e := funext fun i => by
  unfold bits cutE
  by_cases h : i < 128
  · rw [show gb (tx e) (i / 8) = byB e (i / 8) 128 from gb_map _ _ _ (by omega), byB_bit _ _ _ _ (by omega), show 8 * (i / 8) + (7 - (7 - i % 8)) = i from by omega]
    cases decide (i < 128) <;> rfl
  · rw [show decide (i < 128) = false from by simpa using h]; rfl
/-! ### sums -/
def gw (f : Nat → BitVec 64) (key s : L8) : Nat → W2
  | 0 => z2
  | t + 1 => byw f (xw (gw f key s t) (lw (Cb.bk s t))) (lw key)
def sum (f : Nat → BitVec 64) (key s : L8) : L8 := st (gw f key s (s.length / 16))
theorem sum_len (f : Nat → BitVec 64) (key s : L8) : (sum f key s).length = 16 := st_len _
/-- one round of the reference's -/
theorem ref_round (key s : L8) (t : Nat) (h : 16 * t + 16 ≤ s.length) :
    tx (red (prod (bits (Oct.xor (st (gw fo key s t)) (Cb.bk s t))) (bits key) 128) 127) = st (gw fo key s (t + 1)) := by
  refine bits_ext _ _ (tx_len _) (st_len _) ?_
  rw [bits_tx, ← mul_red, bits_cut, bits_st, bits_xor _ _ (st_len _) (Cb.bk_len _ _ h), bits_st]
  show mul _ _ = bit (byw fo (xw (gw fo key s t) (lw (Cb.bk s t))) (lw key))
  rw [bit_byw, bit_xw, bit_lw, bit_lw]
end Gh
end Go.Proofs.YtkjdejadambffaaDoor
namespace Go.Proofs.YtkjdejadambffaaDoor
open Go.RowKit
set_option linter.unusedSimpArgs false
set_option linter.unusedVariables false
namespace Gh
def cl (p : W2) (r : Nat) : BitVec 64 := if r = 0 then p.1 else p.2
theorem cl_xw (p q : W2) (r : Nat) : cl (xw p q) r = cl p r ^^^ cl q r := by unfold cl; split <;> rfl
theorem xw_z2 (p : W2) : xw p z2 = p := by
  unfold xw z2
  simp
theorem z2_xw (p : W2) : xw z2 p = p := by
  unfold xw z2
  simp
/-- times x, so often as one of four bits tells -/
def pw (b : W2) (n : Nat) : W2 := if n = 8 then b else if n = 4 then tmw b else if n = 2 then tmw (tmw b) else if n = 1 then tmw (tmw (tmw b)) else tmw (tmw (tmw (tmw b)))
theorem pw_step (b : W2) (n : Nat) (h : n = 8 ∨ n = 4 ∨ n = 2 ∨ n = 1) : tmw (pw b n) = pw b (n / 2) := by
  rcases h with rfl | rfl | rfl | rfl <;> rfl
def mA (b : W2) (n e : Nat) : W2 := if (e = 8 ∨ e = 4 ∨ e = 2 ∨ e = 1) ∧ n < e then pw b e else z2
def cA (b : W2) (n j : Nat) : Value := U64 (cl (mA b n (j / 2)) (j % 2))
theorem mA_8 (b : W2) (e : Nat) : mA b 8 e = z2 := by
  unfold mA
  rw [if_neg (by omega)]
theorem cA_8 (b : W2) (j : Nat) : U64 0#64 = cA b 8 j := by
  unfold cA
  rw [mA_8]
  unfold cl
  split <;> rfl
theorem cA_step (b : W2) (n j : Nat) (h : n = 8 ∨ n = 4 ∨ n = 2 ∨ n = 1) : (if n * 2 ≤ j ∧ j < n * 2 + 2 then U64 (cl (pw b n) (j - n * 2)) else cA b n j) = cA b (n / 2) j := by
  unfold cA
  by_cases c : n * 2 ≤ j ∧ j < n * 2 + 2
  · rw [if_pos c, show j / 2 = n from by omega, show j % 2 = j - n * 2 from by omega]
    unfold mA
    rw [if_pos ⟨h, by omega⟩]
  · rw [if_neg c]
    unfold mA
    by_cases d : (j / 2 = 8 ∨ j / 2 = 4 ∨ j / 2 = 2 ∨ j / 2 = 1) ∧ n < j / 2
    · rw [if_pos d, if_pos ⟨d.1, by omega⟩]
    · rw [if_neg d, if_neg (by omega)]
/-- what is found so far of multiple e, behind the bits above n -/
def mB (b : W2) (e n : Nat) : W2 :=
  if e = 8 ∨ e = 4 ∨ e = 2 ∨ e = 1 then pw b e
  else xw (xw (xw (sel (e.testBit 3 && decide (n < 8)) b) (sel (e.testBit 2 && decide (n < 4)) (tmw b))) (sel (e.testBit 1 && decide (n < 2)) (tmw (tmw b)))) (sel (e.testBit 0 && decide (n < 1)) (tmw (tmw (tmw b))))
def mR (b : W2) (i n e : Nat) : W2 := if e < i then mw b e else if e = i then mB b i n else mA b 0 e
def m0 (b : W2) (i e : Nat) : W2 := if e < i then mw b e else mA b 0 e
def cR (b : W2) (i n j : Nat) : Value := U64 (cl (mR b i n (j / 2)) (j % 2))
def c0 (b : W2) (i j : Nat) : Value := U64 (cl (m0 b i (j / 2)) (j % 2))
def cm (b : W2) (j : Nat) : Value := U64 (cl (mw b (j / 2)) (j % 2))
theorem sixteen (e : Nat) (h : e < 16) : e = 0 ∨ e = 1 ∨ e = 2 ∨ e = 3 ∨ e = 4 ∨ e = 5 ∨ e = 6 ∨ e = 7 ∨ e = 8 ∨ e = 9 ∨ e = 10 ∨ e = 11 ∨ e = 12 ∨ e = 13 ∨ e = 14 ∨ e = 15 := by omega
theorem selt (p : W2) : sel true p = p := rfl
theorem self (p : W2) : sel false p = z2 := rfl
theorem mB_8 (b : W2) (e : Nat) (h : e < 16) : mB b e 8 = mA b 0 e := by
  unfold mB mA
  by_cases c : e = 8 ∨ e = 4 ∨ e = 2 ∨ e = 1
  · rw [if_pos c, if_pos ⟨c, by omega⟩]
  · rw [if_neg c, if_neg (fun d => c d.1)]
    simp [self, xw_z2]
theorem mB_0 (b : W2) (e : Nat) (h : e < 16) : mB b e 0 = mw b e := by
  unfold mB
  by_cases c : e = 8 ∨ e = 4 ∨ e = 2 ∨ e = 1
  · rw [if_pos c]
    rcases c with rfl | rfl | rfl | rfl
    · show b = xw (xw (xw b z2) z2) z2; simp only [xw_z2, z2_xw]
    · show tmw b = xw (xw (xw z2 (tmw b)) z2) z2; simp only [xw_z2, z2_xw]
    · show tmw (tmw b) = xw (xw (xw z2 z2) (tmw (tmw b))) z2; simp only [xw_z2, z2_xw]
    · show tmw (tmw (tmw b)) = xw (xw (xw z2 z2) z2) (tmw (tmw (tmw b))); simp only [xw_z2, z2_xw]
  · rw [if_neg c]
    simp [mw]
theorem mw_pow (b : W2) (n : Nat) (h : n = 8 ∨ n = 4 ∨ n = 2 ∨ n = 1) : mw b n = pw b n := by
  have h2 := mB_0 b n (by omega)
  unfold mB at h2
  rw [if_pos h] at h2
  exact h2.symm
theorem mB_yes (b : W2) (i n : Nat) (hi : i < 16) (h : n = 8 ∨ n = 4 ∨ n = 2 ∨ n = 1) (c : i &&& n ≠ 0) (d : i ≠ n) : xw (mB b i n) (pw b n) = mB b i (n / 2) := by
  rcases h with rfl | rfl | rfl | rfl <;> rcases sixteen i hi with rfl | rfl | rfl | rfl | rfl | rfl | rfl | rfl | rfl | rfl | rfl | rfl | rfl | rfl | rfl | rfl <;>
    first
    | exact absurd rfl c
    | exact absurd rfl d
    | (simp [mB, pw, Nat.testBit, selt, self, xw_z2, z2_xw]; done)
theorem mB_no (b : W2) (i n : Nat) (hi : i < 16) (h : n = 8 ∨ n = 4 ∨ n = 2 ∨ n = 1) (c : ¬ (i &&& n ≠ 0 ∧ i ≠ n)) : mB b i n = mB b i (n / 2) := by
  rcases h with rfl | rfl | rfl | rfl <;> rcases sixteen i hi with rfl | rfl | rfl | rfl | rfl | rfl | rfl | rfl | rfl | rfl | rfl | rfl | rfl | rfl | rfl | rfl <;>
    first
    | (exact absurd ⟨by decide, by decide⟩ c)
    | (simp [mB, Nat.testBit, selt, self, xw_z2, z2_xw]; done)
theorem lt_of_bit (i n : Nat) (hi : i < 16) (h : n = 8 ∨ n = 4 ∨ n = 2 ∨ n = 1) (c : i &&& n ≠ 0) (d : i ≠ n) : n < i := by
  have : n ≤ i := by
    rcases h with rfl | rfl | rfl | rfl <;> rcases sixteen i hi with rfl | rfl | rfl | rfl | rfl | rfl | rfl | rfl | rfl | rfl | rfl | rfl | rfl | rfl | rfl | rfl <;>
      first
      | exact absurd rfl c
      | decide
  omega
theorem cR_8 (b : W2) (i j : Nat) (hi : i < 16) : c0 b i j = cR b i 8 j := by
  unfold c0 cR m0 mR
  by_cases c : j / 2 < i
  · rw [if_pos c, if_pos c]
  · rw [if_neg c, if_neg c]
    by_cases d : j / 2 = i
    · rw [if_pos d, d, mB_8 _ _ hi]
    · rw [if_neg d]
theorem cR_0 (b : W2) (i j : Nat) (hi : i < 16) : cR b i 0 j = c0 b (i + 1) j := by
  unfold c0 cR m0 mR
  by_cases c : j / 2 < i
  · rw [if_pos c, if_pos (by omega)]
  · rw [if_neg c]
    by_cases d : j / 2 = i
    · rw [if_pos d, if_pos (by omega), d, mB_0 _ _ hi]
    · rw [if_neg d, if_neg (by omega)]
theorem c0_0 (b : W2) (j : Nat) : cA b 0 j = c0 b 0 j := rfl
theorem c0_16 (b : W2) (j : Nat) (h : j < 32) : c0 b 16 j = cm b j := by
  unfold c0 m0
  rw [if_pos (by omega)]; rfl
theorem cR_no (b : W2) (i n j : Nat) (hi : i < 16) (h : n = 8 ∨ n = 4 ∨ n = 2 ∨ n = 1) (c : ¬ (i &&& n ≠ 0 ∧ i ≠ n)) : cR b i n j = cR b i (n / 2) j := by
  unfold cR mR
  rw [mB_no b i n hi h c]
theorem mR_i (b : W2) (i n : Nat) : mR b i n i = mB b i n := by
  unfold mR
  rw [if_neg (Nat.lt_irrefl i), if_pos rfl]
theorem cR_yes (b : W2) (i n j : Nat) (hi : i < 16) (h : n = 8 ∨ n = 4 ∨ n = 2 ∨ n = 1) (c : i &&& n ≠ 0) (d : i ≠ n) :
    (if j = i * 2 + 1 then U64 (cl (mR b i n i) 1 ^^^ cl (mR b i n n) 1) else if j = i * 2 then U64 (cl (mR b i n i) 0 ^^^ cl (mR b i n n) 0) else cR b i n j) = cR b i (n / 2) j := by
  have hs := mB_yes b i n hi h c d
  have hn : mR b i n n = pw b n := by
    unfold mR
    rw [if_pos (lt_of_bit i n hi h c d), mw_pow _ _ h]
  rw [mR_i, hn, ← cl_xw, ← cl_xw, hs]
  unfold cR
  by_cases e1 : j = i * 2 + 1
  · rw [if_pos e1, show j / 2 = i from by omega, show j % 2 = 1 from by omega, mR_i]
  · rw [if_neg e1]
    by_cases e2 : j = i * 2
    · rw [if_pos e2, show j / 2 = i from by omega, show j % 2 = 0 from by omega, mR_i]
    · rw [if_neg e2]
      unfold mR
      rw [if_neg (show ¬ j / 2 = i from by omega), if_neg (show ¬ j / 2 = i from by omega)]
/-! ### loads, stores, rounds, as the cells have them -/
def lp (s : L8) (i : Nat) : W2 := (ld s 0 i, ld s 8 i)
theorem two (j : Nat) (h : j < 2) : j = 0 ∨ j = 1 := by omega
theorem lp_0 (s : L8) (j : Nat) (hj : j < 2) : (if j < 1 then U64 0#64 else U64 0#64) = U64 (cl (lp s 0) j) := by
  rcases two j hj with rfl | rfl <;> rfl
theorem lp_step (s : L8) (i j : Nat) (hj : j < 2) : (if j = 1 then U64 ((cl (lp s i) 1 <<< 8) ||| ((gb s (8 + i)).setWidth 64)) else if j = 0 then U64 ((cl (lp s i) 0 <<< 8) ||| ((gb s i).setWidth 64)) else U64 (cl (lp s i) j)) = U64 (cl (lp s (i + 1)) j) := by
  rcases two j hj with rfl | rfl
  · show U64 ((ld s 0 i <<< 8) ||| ((gb s i).setWidth 64)) = U64 ((ld s 0 i <<< 8) ||| (gb s (0 + i)).setWidth 64)
    rw [Nat.zero_add]
  · rfl
theorem sb_step (p : W2) (i j : Nat) (hi : i < 8) (hj : j < 16) :
    (if j = (8 + i) then U8 ((cl p 1 >>> (56 - (8 * i))).setWidth 8) else if j = i then U8 ((cl p 0 >>> (56 - (8 * i))).setWidth 8) else if j < i ∨ 8 ≤ j ∧ j < 8 + i then U8 (sb p j) else U8 0#8) = if j < i + 1 ∨ 8 ≤ j ∧ j < 8 + (i + 1) then U8 (sb p j) else U8 0#8 := by
  by_cases e : j = 8 + i
  · rw [if_pos e, if_pos (by omega)]
    unfold sb
    rw [if_neg (by omega), show j - 8 = i from by omega]
    rfl
  rw [if_neg e]
  by_cases e2 : j = i
  · rw [if_pos e2, if_pos (by omega)]
    unfold sb
    rw [if_pos (by omega), e2]
    rfl
  rw [if_neg e2]
  by_cases e3 : j < i ∨ 8 ≤ j ∧ j < 8 + i
  · rw [if_pos e3, if_pos (by omega)]
  · rw [if_neg e3, if_neg (by omega)]
theorem tm_yes (p : W2) (j : Nat) (hj : j < 2) (c : cl p 1 &&& 1#64 = 1#64) : (if j = 0 then U64 ((cl p 0 >>> 1) ^^^ 16212958658533785600#64) else if j < 1 then U64 (cl p 0 >>> 1) else U64 ((cl p 1 >>> 1) ||| (cl p 0 <<< 63))) = U64 (cl (tmw p) j) := by
  have h : p.2 &&& 1#64 = 1#64 := c
  rcases two j hj with rfl | rfl
  · show U64 ((p.1 >>> 1) ^^^ e1) = U64 (if p.2 &&& 1#64 = 1#64 then (p.1 >>> 1) ^^^ e1 else p.1 >>> 1)
    rw [if_pos h]
  · rfl
theorem tm_no (p : W2) (j : Nat) (hj : j < 2) (c : ¬ cl p 1 &&& 1#64 = 1#64) : (if j < 1 then U64 (cl p 0 >>> 1) else U64 ((cl p 1 >>> 1) ||| (cl p 0 <<< 63))) = U64 (cl (tmw p) j) := by
  have h : ¬ p.2 &&& 1#64 = 1#64 := c
  rcases two j hj with rfl | rfl
  · show U64 (p.1 >>> 1) = U64 (if p.2 &&& 1#64 = 1#64 then (p.1 >>> 1) ^^^ e1 else p.1 >>> 1)
    rw [if_neg h]
  · rfl
def wq (a : W2) (q : Nat) : BitVec 64 := if q = 0 then a.2 else a.1
def zz (f : Nat → BitVec 64) (a b : W2) : Nat → W2
  | 0 => z2
  | q + 1 => bh f b (wq a q) (zz f a b q) 16
theorem zz_0 (f : Nat → BitVec 64) (a b : W2) (j : Nat) (hj : j < 2) : (if j < 1 then U64 0#64 else U64 0#64) = U64 (cl (zz f a b 0) j) := by
  rcases two j hj with rfl | rfl <;> rfl
theorem bh_row (f : Nat → BitVec 64) (b : W2) (w : BitVec 64) (z : W2) (k j : Nat) (hj : j < 2) :
    (if j = 1 then U64 (((cl (bh f b w z k) 1 >>> 4) ||| (cl (bh f b w z k) 0 <<< 60)) ^^^ cl (mw b (w >>> (4 * k) &&& 15#64).toNat) 1)
      else if j = 0 then U64 (((cl (bh f b w z k) 0 >>> 4) ^^^ (f (cl (bh f b w z k) 1 &&& 15#64).toNat <<< 48)) ^^^ cl (mw b (w >>> (4 * k) &&& 15#64).toNat) 0)
      else if j = 0 then U64 ((cl (bh f b w z k) 0 >>> 4) ^^^ (f (cl (bh f b w z k) 1 &&& 15#64).toNat <<< 48))
      else if j < 1 then U64 (cl (bh f b w z k) 0 >>> 4) else U64 ((cl (bh f b w z k) 1 >>> 4) ||| (cl (bh f b w z k) 0 <<< 60))) = U64 (cl (bh f b w z (k + 1)) j) := by
  rcases two j hj with rfl | rfl <;> rfl
theorem st_z2 (j : Nat) : gb (st z2) j = 0#8 := by
  by_cases h : j < 16
  · rw [gb_st _ _ h]
    unfold sb z2
    split <;> simp
  · exact gb_out _ _ (by rw [st_len]; omega)
/-! ### the reference's cells -/
theorem bits_row (s : L8) (i j : Nat) (hi : i < 128) : (if j = i then Value.bool (decide ((gb s (i / 8) >>> (7 - i % 8)) &&& 1#8 = 1#8)) else if j < i then Value.bool (bits s j) else Value.bool false) = if j < i + 1 then Value.bool (bits s j) else Value.bool false := by
  have one : ∀ x : BitVec 8, ∀ k, decide ((x >>> k) &&& 1#8 = 1#8) = x.getLsbD k := fun x k => by
    have h : ((x >>> k) &&& 1#8 = 1#8) ↔ (x >>> k).getLsbD 0 = true := by
      constructor
      · intro h
        have := congrArg (fun y => y.getLsbD 0) h
        simpa using this
      · intro h
        apply BitVec.eq_of_getLsbD_eq
        intro i hi
        rw [BitVec.getLsbD_and]
        by_cases e : i = 0
        · subst e; simp at h; simp [h]
        · simp [BitVec.getLsbD_one, e]
    rw [BitVec.getLsbD_ushiftRight] at h
    rw [Bool.eq_iff_iff, decide_eq_true_iff]
    exact h
  by_cases e : j = i
  · rw [if_pos e, if_pos (by omega), e]
    unfold bits
    rw [one, show decide (i < 128) = true from by simpa using hi]
    rfl
  · rw [if_neg e]
    by_cases e2 : j < i
    · rw [if_pos e2, if_pos (by omega)]
    · rw [if_neg e2, if_neg (by omega)]
theorem byB_yes (e : E) (i j : Nat) (h : e i = true) : (if j = (i / 8) then U8 (byB e (i / 8) i ||| (1#8 <<< (7 - (i % 8)))) else U8 (byB e j i)) = U8 (byB e j (i + 1)) := by
  show _ = U8 (if j = i / 8 ∧ e i = true then byB e j i ||| (1#8 <<< (7 - i % 8)) else byB e j i)
  by_cases c : j = i / 8
  · rw [if_pos c, if_pos ⟨c, h⟩, c]
  · rw [if_neg c, if_neg (fun d => c d.1)]
theorem byB_no (e : E) (i j : Nat) (h : ¬ e i = true) : U8 (byB e j i) = U8 (byB e j (i + 1)) := by
  show _ = U8 (if j = i / 8 ∧ e i = true then byB e j i ||| (1#8 <<< (7 - i % 8)) else byB e j i)
  rw [if_neg (fun d => h d.2)]
theorem gb_tx (e : E) (j : Nat) (h : j < 16) : gb (tx e) j = byB e j 128 := gb_map _ _ _ h
def prk (a b : E) (i k : Nat) : E := fun m => prod a b i m ^^ (a i && (decide (i ≤ m) && (decide (m < i + k) && b (m - i))))
theorem prk_0 (a b : E) (i j : Nat) : prk a b i 0 j = prod a b i j := by
  unfold prk
  by_cases e : i ≤ j
  · rw [show decide (j < i + 0) = false from by simp; omega]; simp
  · rw [show decide (i ≤ j) = false from by simpa using e]; simp
theorem prk_end (a b : E) (i k j : Nat) (hk : k ≤ 128) (h : k = 128 ∨ a i = false) : prk a b i k j = prod a b (i + 1) j := by
  show (prod a b i j ^^ (a i && (decide (i ≤ j) && (decide (j < i + k) && b (j - i))))) = (prod a b i j ^^ (a i && (decide (i ≤ j) && (decide (j - i < 128) && b (j - i)))))
  rcases h with rfl | h
  · by_cases e : i ≤ j
    · rw [show decide (j < i + 128) = decide (j - i < 128) from decide_eq_decide.2 ⟨fun _ => by omega, fun _ => by omega⟩]
    · rw [show decide (i ≤ j) = false from by simpa using e]; rfl
  · rw [h]; rfl
theorem prk_row (a b : E) (i k j : Nat) (hk : k < 128) (h : a i = true) : (if j = (i + k) then Value.bool (!(prk a b i k (i + k) == b k)) else Value.bool (prk a b i k j)) = Value.bool (prk a b i (k + 1) j) := by
  by_cases e : j = i + k
  · rw [if_pos e, e]
    unfold prk
    rw [h, show decide (i ≤ i + k) = true from by simp, show decide (i + k < i + k) = false from by simp, show decide (i + k < i + (k + 1)) = true from by simp, Nat.add_sub_cancel_left]
    cases prod a b i (i + k) <;> cases b k <;> rfl
  · rw [if_neg e]
    unfold prk
    rw [show decide (j < i + (k + 1)) = decide (j < i + k) from decide_eq_decide.2 ⟨fun _ => by omega, fun _ => by omega⟩]
theorem red_no (p : E) (n j : Nat) (h : ¬ red p n (254 - n) = true) : Value.bool (red p n j) = Value.bool (red p (n + 1) j) := by
  have h2 : red p n (254 - n) = false := Bool.eq_false_iff.2 h
  show _ = Value.bool (down (red p n) (254 - n) j)
  unfold down flip
  rw [h2]
  simp
theorem red_yes (p : E) (n j : Nat) (hn : n ≤ 126) (h : red p n (254 - n) = true) :
    (if j = (254 - n - 121) then Value.bool (!red p n (254 - n - 121)) else if j = (254 - n - 126) then Value.bool (!red p n (254 - n - 126)) else if j = (254 - n - 127) then Value.bool (!red p n (254 - n - 127)) else if j = (254 - n - 128) then Value.bool (!red p n (254 - n - 128)) else Value.bool (red p n j)) = Value.bool (red p (n + 1) j) := by
  show _ = Value.bool (down (red p n) (254 - n) j)
  unfold down flip
  rw [h]
  simp only [Bool.true_and]
  by_cases e1 : j = 254 - n - 121
  · rw [if_pos e1, ← e1, show (j == 254 - n - 128) = false from by simp; omega, show (j == 254 - n - 127) = false from by simp; omega, show (j == 254 - n - 126) = false from by simp; omega, beq_self_eq_true]
    simp
  rw [if_neg e1, show (j == 254 - n - 121) = false from by simpa using e1]
  by_cases e2 : j = 254 - n - 126
  · rw [if_pos e2, ← e2, show (j == 254 - n - 128) = false from by simp; omega, show (j == 254 - n - 127) = false from by simp; omega, beq_self_eq_true]
    simp
  rw [if_neg e2, show (j == 254 - n - 126) = false from by simpa using e2]
  by_cases e3 : j = 254 - n - 127
  · rw [if_pos e3, ← e3, show (j == 254 - n - 128) = false from by simp; omega, beq_self_eq_true]
    simp
  rw [if_neg e3, show (j == 254 - n - 127) = false from by simpa using e3]
  by_cases e4 : j = 254 - n - 128
  · rw [if_pos e4, ← e4, beq_self_eq_true]
    simp
  rw [if_neg e4, show (j == 254 - n - 128) = false from by simpa using e4]
  simp
/-! ### the table that is folded in, as it lies in memory -/
def Fold (w : World) (f : Nat → BitVec 64) : Prop := (∀ i, i < 16 → w.cell? ⟨0, i, none⟩ = some (U64 (f i))) ∧ 0 < w.heap.size
theorem cell_same {w w' : World} {b i : Nat} (e : w'.heap[b]? = w.heap[b]?) : w'.cell? ⟨b, i, none⟩ = w.cell? ⟨b, i, none⟩ := by
  simp only [World.cell?, e]
namespace Fold
variable {w w' : World} {f : Nat → BitVec 64}
theorem at_ (h : Fold w f) {i : Nat} (hi : i < 16) : w.cell? ⟨0, i, none⟩ = some (U64 (f i)) := h.1 i hi
theorem of_block (h : Fold w f) (hs : w.heap.size ≤ w'.heap.size) (h0 : w'.heap[(0 : Nat)]? = w.heap[(0 : Nat)]?) : Fold w' f :=
  ⟨fun i hi => (cell_same h0).trans (h.1 i hi), Nat.lt_of_lt_of_le h.2 hs⟩
theorem below (h : Fold w f) (hb : Below w.heap.size w w') : Fold w' f := h.of_block hb.size (hb.block _ h.2)
theorem grownO {r : Option Nat} (h : Fold w f) (hg : w.grownBy w' r) (ho : ∀ g, r = some g → g ≠ 0) : Fold w' f :=
  h.of_block hg.size (hg.block _ h.2 (fun e => ho _ e.symm rfl))
theorem grown {g : Nat} (h : Fold w f) (hg : w.grownBy w' (some g)) (h0 : g ≠ 0) : Fold w' f :=
  h.grownO hg (fun k e => by cases e; exact h0)
end Fold
end Gh
end Go.Proofs.YtkjdejadambffaaDoor
