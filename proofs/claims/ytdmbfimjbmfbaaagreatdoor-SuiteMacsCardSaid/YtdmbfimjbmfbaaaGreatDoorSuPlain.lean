/-
  Ciphers and tags by their numbers: the rows. No conditions. Sums over a field of 128 bits, plainly: elements as bits, and as two words. Conditions as each says. Sums over a field of 128 bits, plainly: elements as two words, and as sixteen bytes. Conditions as each says. Digests: of texts; the example. Conditions as each says.
-/
import Derived.Test.YtdmbfimjbmfbaaaGreatDoorQuiet
import Derived.Test.YtdmbfimjbmfbaaaGreatDoorAesRefEq
import Derived.Test.YtdmbfimjbmfbaaaGreatDoorRows
import Derived.Test.YtdmbfimjbmfbaaaGreatDoorAesMulRef
import Derived.Test.YtdmbfimjbmfbaaaGreatDoorGenSh
import Derived.ProofKit
namespace Go.Proofs.YtdmbfimjbmfbaaaGreatDoor
open Go.RowKit
set_option linter.unusedSimpArgs false
set_option linter.unusedVariables false
namespace Su
def al (i : Nat) : Nat := [1, 2, 3, 4, 5, 6, 10, 11, 12, 13, 30, 31, 32, 33, 104, 105, 106, 107, 114, 115, 125, 126].getD i 0
def ky (i : Nat) : Nat := [16, 24, 32, 32, 48, 64, 16, 32, 16, 32, 16, 32, 16, 32, 32, 32, 48, 64, 16, 32, 16, 32].getD i 0
def iv (i : Nat) : Nat := [12, 12, 12, 16, 16, 16, 13, 13, 7, 7, 13, 13, 7, 7, 0, 0, 0, 0, 0, 0, 0, 0].getD i 0
def tg (i : Nat) : Nat := [16, 16, 16, 16, 24, 32, 8, 8, 8, 8, 16, 16, 16, 16, 8, 32, 48, 64, 8, 8, 16, 16].getD i 0
def ly (i : Nat) : Nat := [9, 9, 9, 11, 11, 11, 10, 10, 10, 10, 10, 10, 10, 10, 4, 4, 4, 4, 6, 6, 6, 6].getD i 0
def cell (i r : Nat) : Nat := if r = 0 then al i else if r = 1 then ky i else if r = 2 then iv i else if r = 3 then tg i else ly i
def wk : List (BitVec 8) := [0x30#8, 0x31#8, 0x32#8, 0x33#8, 0x34#8, 0x35#8, 0x36#8, 0x37#8, 0x38#8, 0x39#8, 0x61#8, 0x62#8, 0x63#8, 0x64#8, 0x65#8, 0x66#8]
def wn : List (BitVec 8) := [0x30#8, 0x31#8, 0x32#8, 0x33#8, 0x34#8, 0x35#8, 0x36#8, 0x37#8, 0x38#8, 0x39#8, 0x61#8, 0x62#8]
def wx : List (BitVec 8) := [0x78#8]
def wt : List (BitVec 8) := [0x61#8, 0x62#8, 0x63#8]
theorem als : ((al 0 : Nat) : Int) = 1 ∧ ((al 1 : Nat) : Int) = 2 ∧ ((al 2 : Nat) : Int) = 3 ∧ ((al 3 : Nat) : Int) = 4 ∧ ((al 4 : Nat) : Int) = 5 ∧ ((al 5 : Nat) : Int) = 6 ∧ ((al 6 : Nat) : Int) = 10 ∧ ((al 7 : Nat) : Int) = 11 ∧ ((al 8 : Nat) : Int) = 12 ∧ ((al 9 : Nat) : Int) = 13 ∧ ((al 10 : Nat) : Int) = 30 ∧ ((al 11 : Nat) : Int) = 31 ∧ ((al 12 : Nat) : Int) = 32 ∧ ((al 13 : Nat) : Int) = 33 ∧ ((al 14 : Nat) : Int) = 104 ∧ ((al 15 : Nat) : Int) = 105 ∧ ((al 16 : Nat) : Int) = 106 ∧ ((al 17 : Nat) : Int) = 107 ∧ ((al 18 : Nat) : Int) = 114 ∧ ((al 19 : Nat) : Int) = 115 ∧ ((al 20 : Nat) : Int) = 125 ∧ ((al 21 : Nat) : Int) = 126 := ⟨rfl, rfl, rfl, rfl, rfl, rfl, rfl, rfl, rfl, rfl, rfl, rfl, rfl, rfl, rfl, rfl, rfl, rfl, rfl, rfl, rfl, rfl⟩
theorem al_inj (i j : Nat) (hi : i < 22) (hj : j < 22) (h : al i = al j) : i = j := by
  have : ∀ i, i < 22 → ∀ j, j < 22 → al i = al j → i = j := by decide
  exact this i hi j hj h
theorem al_pos (i : Nat) (hi : i < 22) : 1 ≤ al i ∧ al i ≤ 126 := by
  have : ∀ i, i < 22 → 1 ≤ al i ∧ al i ≤ 126 := by decide
  exact this i hi
theorem some_row (a : Int) (h : ¬ ∀ i : Nat, i < 22 → (al i : Int) ≠ a) : ∃ i, i < 22 ∧ a = (al i : Int) := by
  apply Classical.byContradiction
  intro hn
  exact h (fun i hi e => hn ⟨i, hi, e.symm⟩)
end Su
end Go.Proofs.YtdmbfimjbmfbaaaGreatDoor
namespace Go.Proofs.YtdmbfimjbmfbaaaGreatDoor
open Go.RowKit
set_option linter.unusedSimpArgs false
set_option linter.unusedVariables false
namespace Gh
abbrev L8 := List (BitVec 8)
abbrev E := Nat → Bool
/-! ### elements as bits: number i is the factor of x to the power of i -/
def zero : E := fun _ => false
def add (e f : E) : E := fun i => e i ^^ f i
def sc (c : Bool) (e : E) : E := fun i => c && e i
def low (i : Nat) : Bool := i == 0 || i == 1 || i == 2 || i == 7
def tm (e : E) : E := fun i => decide (i < 128) && ((decide (0 < i) && e (i - 1)) ^^ (e 127 && low i))
theorem add_comm (e f : E) : add e f = add f e := funext fun i => Bool.xor_comm _ _
theorem add_assoc (e f g : E) : add (add e f) g = add e (add f g) := funext fun i => Bool.xor_assoc _ _ _
theorem add_zero (e : E) : add e zero = e := funext fun i => Bool.xor_false _
theorem zero_add (e : E) : add zero e = e := funext fun i => Bool.false_xor _
def tn : Nat → E → E
  | 0, e => e
  | n + 1, e => tm (tn n e)
/-- the product: Horner's way, from the highest power on -/
def hn (a b : E) : Nat → E
  | 0 => zero
  | n + 1 => add (tm (hn a b n)) (sc (a (127 - n)) b)
def mul (a b : E) : E := hn a b 128
/-- the sum of products of powers s, s + 1, .. (n of them) -/
def ts (a b : E) (s : Nat) : Nat → E
  | 0 => zero
  | n + 1 => add (ts a b s n) (sc (a (s + n)) (tn n b))
/-! ### the reference's product -/
def one : E := fun i => i == 0
def xp (m : Nat) : E := tn m one
/-- what a row of factors comes to -/
def val (p : E) : Nat → E
  | 0 => zero
  | n + 1 => add (val p n) (sc (p n) (xp n))
def cutE (b : E) : E := fun i => decide (i < 128) && b i
def shifted (b : E) (k : Nat) : E := fun m => decide (k ≤ m) && cutE b (m - k)
end Gh
end Go.Proofs.YtdmbfimjbmfbaaaGreatDoor
namespace Go.Proofs.YtdmbfimjbmfbaaaGreatDoor
open Go.RowKit
set_option linter.unusedSimpArgs false
set_option linter.unusedVariables false
namespace Gh
abbrev W2 := BitVec 64 × BitVec 64
def bit (p : W2) : E := fun i => if i < 64 then p.1.getLsbD (63 - i) else if i < 128 then p.2.getLsbD (127 - i) else false
def xw (p q : W2) : W2 := (p.1 ^^^ q.1, p.2 ^^^ q.2)
def z2 : W2 := (0#64, 0#64)
def e1 : BitVec 64 := 16212958658533785600#64
def tmw (p : W2) : W2 := (if p.2 &&& 1#64 = 1#64 then (p.1 >>> 1) ^^^ e1 else p.1 >>> 1, (p.2 >>> 1) ||| (p.1 <<< 63))
/-! ### four bits at once -/
def sh4 (f : Nat → BitVec 64) (z : W2) : W2 := ((z.1 >>> 4) ^^^ (f (z.2 &&& 15#64).toNat <<< 48), (z.2 >>> 4) ||| (z.1 <<< 60))
theorem nib_lt (x : BitVec 64) : (x &&& 15#64).toNat < 16 := by
  rw [BitVec.toNat_and]
  exact Nat.lt_of_le_of_lt Nat.and_le_right (by decide)
def sel (c : Bool) (p : W2) : W2 := if c then p else z2
/-- the multiples by four bits -/
def mw (b : W2) (n : Nat) : W2 := xw (xw (xw (sel (n.testBit 3) b) (sel (n.testBit 2) (tmw b))) (sel (n.testBit 1) (tmw (tmw b)))) (sel (n.testBit 0) (tmw (tmw (tmw b))))
def step (f : Nat → BitVec 64) (z b : W2) (w : BitVec 64) : W2 := xw (sh4 f z) (mw b (w &&& 15#64).toNat)
/-- k times four bits of a word -/
def bh (f : Nat → BitVec 64) (b : W2) (w : BitVec 64) (z : W2) : Nat → W2
  | 0 => z
  | k + 1 => step f (bh f b w z k) b (w >>> (4 * k))
def byw (f : Nat → BitVec 64) (a b : W2) : W2 := bh f b a.1 (bh f b a.2 z2 16) 16
/-! ### sixteen bytes -/
def bits (s : L8) : E := fun i => decide (i < 128) && (gb s (i / 8)).getLsbD (7 - i % 8)
def ld (s : L8) (off : Nat) : Nat → BitVec 64
  | 0 => 0#64
  | n + 1 => (ld s off n <<< 8) ||| (gb s (off + n)).setWidth 64
def lw (s : L8) : W2 := (ld s 0 8, ld s 8 8)
def sb (p : W2) (j : Nat) : BitVec 8 := if j < 8 then (p.1 >>> (56 - 8 * j)).setWidth 8 else (p.2 >>> (56 - 8 * (j - 8))).setWidth 8
def st (p : W2) : L8 := (List.range 16).map (sb p)
theorem st_len (p : W2) : (st p).length = 16 := by simp [st]
theorem gb_st (p : W2) (j : Nat) (h : j < 16) : gb (st p) j = sb p j := gb_map _ _ _ h
/-! ### sums -/
def gw (f : Nat → BitVec 64) (key s : L8) : Nat → W2
  | 0 => z2
  | t + 1 => byw f (xw (gw f key s t) (lw (Cb.bk s t))) (lw key)
def sum (f : Nat → BitVec 64) (key s : L8) : L8 := st (gw f key s (s.length / 16))
theorem sum_len (f : Nat → BitVec 64) (key s : L8) : (sum f key s).length = 16 := st_len _
end Gh
end Go.Proofs.YtdmbfimjbmfbaaaGreatDoor
namespace Go.Proofs.YtdmbfimjbmfbaaaGreatDoor
open Go.RowKit
set_option linter.unusedSimpArgs false
set_option linter.unusedVariables false
set_option maxRecDepth 100000
set_option maxHeartbeats 1000000
namespace ShaWT
theorem mixed : Tryz.prog.follows .mixedOrders = true := by kernel_rfl
end ShaWT
theorem shaText_l (kind : Nat) (hkd : Sha.Known kind) (s : List (BitVec 8)) (hs : s.length ≤ 140737488351232) (w0 : World) (hT : Sha.Tabs w0) : Calls Tryz.prog 49 #[.int .i64 ((kind : Nat) : Int), .string (str s)] w0 fun e w' => e = .returned (.tuple #[.string (str (Sha.sum kind s)), .int .i64 0]) ∧ Below w0.heap.size w0 w' := by
 have ag := hT.lt
 refine enter (n := 23) Tryz.func49 rfl rfl rfl ?_
 have hk : Below w0.heap.size w0 w0 := Below.refl _ _
 refine sr (w_as (evc (.string (str ([] : List (BitVec 8))))) (w_as Ev.c (nt (sr (w_mv ei (w_call (Tryz.func50) kr rfl (m1 ei) (new_at kind w0 hkd) ?_))))))
 rintro _ w1 ⟨p, rfl, ad, ha, aa⟩
 refine ⟨_, rfl, ?_⟩
 have af : w0.heap.size ≤ p := by have := hk.size; omega
 replace hk := thenB hk aa
 replace hT := Sha.Tabs.below hT aa
 refine w_mv (ex (.tuple #[pt p 0, .int .i64 0])) (w_val ye (w_val ye (w_as (ex (pt p 0)) (w_as ei (nt (wp_seq (sr (w_mv ei (w_val (y_bin ei Ev.c b_neq) (nt (c_ff eb (wp_skip (then_n (sr (w_mv (ex (pt p 0)) (w_mv es ?_))))))))))))))))
 have ae := ha
 clear ha
 refine w_call (Tryz.func51) kr rfl (m2 (ex (pt p 0)) es) (write_l kind ([]) s w1 p om hkd om ae hT) ?_
 rintro _ w2 ⟨rfl, ha, ac⟩
 refine ⟨_, rfl, ?_⟩
 replace hk := thenG hk ac om
 replace hT := Sha.Tabs.grown hT ac om om
 refine nt (sr (w_mv (ex (pt p 0)) (w_call (Tryz.func53) kr rfl (m1 (ex (pt p 0))) (sum_l kind (([]) ++ s) w2 p om hkd (by (try simp only [List.nil_append, List.length_append, List.length_nil, Sha.length_sum]); omega) ha hT) ?_)))
 rintro _ w3 ⟨rfl, ab⟩
 refine ⟨_, rfl, ?_⟩
 replace hk := thenB hk ab
 replace hT := Sha.Tabs.below hT ab
 replace ha := Sha.At.below ha ab
 refine w_val ye (w_val ye (w_as es (w_as ei (nt (wp_ret (fin_ret2 rfl es ei ?_))))))
 refine ⟨congrArg Ending.returned ?_, hk⟩
 show (.tuple #[.string (str (Sha.sum kind (([]) ++ s))), .int .i64 0] : Value) = .tuple #[.string (str (Sha.sum kind s)), .int .i64 0]
 simp only [List.nil_append]

end Go.Proofs.YtdmbfimjbmfbaaaGreatDoor
