/-
  Sums over a field of 128 bits, plainly: elements as two words, and as sixteen bytes. Conditions as each says.
-/
import Derived.Test.YtdmbfimjbmfbaaaGreatGhPlain
namespace Go.Proofs.YtdmbfimjbmfbaaaGreat
open Go.RowKit
set_option linter.unusedSimpArgs false
set_option linter.unusedVariables false
namespace Gh
abbrev W2 := BitVec 64 × BitVec 64
def bit (p : W2) : E := fun i => if i < 64 then p.1.getLsbD (63 - i) else if i < 128 then p.2.getLsbD (127 - i) else false
def xw (p q : W2) : W2 := (p.1 ^^^ q.1, p.2 ^^^ q.2)
def z2 : W2 := (0#64, 0#64)
def e1 : BitVec 64 := 16212958658533785600#64
def tmw (p : W2) : W2 := (if p.2 &&& 1#64 = 1#64 then (p.1 >>> 1) ^^^ e1 else p.1 >>> 1, (p.2 >>> 1) ||| (p.1 <<< 63))
/-! ### four bits at once -/
def sh4 (f : Nat → BitVec 64) (z : W2) : W2 := ((z.1 >>> 4) ^^^ (f (z.2 &&& 15#64).toNat <<< 48), (z.2 >>> 4) ||| (z.1 <<< 60))
theorem nib_lt (x : BitVec 64) : (x &&& 15#64).toNat < 16 := by
  rw [BitVec.toNat_and]
  exact Nat.lt_of_le_of_lt Nat.and_le_right (by decide)
def sel (c : Bool) (p : W2) : W2 := if c then p else z2
/-- the multiples by four bits -/
def mw (b : W2) (n : Nat) : W2 := xw (xw (xw (sel (n.testBit 3) b) (sel (n.testBit 2) (tmw b))) (sel (n.testBit 1) (tmw (tmw b)))) (sel (n.testBit 0) (tmw (tmw (tmw b))))
def step (f : Nat → BitVec 64) (z b : W2) (w : BitVec 64) : W2 := xw (sh4 f z) (mw b (w &&& 15#64).toNat)
/-- k times four bits of a word -/
def bh (f : Nat → BitVec 64) (b : W2) (w : BitVec 64) (z : W2) : Nat → W2
  | 0 => z
  | k + 1 => step f (bh f b w z k) b (w >>> (4 * k))
def byw (f : Nat → BitVec 64) (a b : W2) : W2 := bh f b a.1 (bh f b a.2 z2 16) 16
/-! ### sixteen bytes -/
def bits (s : L8) : E := fun i => decide (i < 128) && (gb s (i / 8)).getLsbD (7 - i % 8)
def ld (s : L8) (off : Nat) : Nat → BitVec 64
  | 0 => 0#64
  | n + 1 => (ld s off n <<< 8) ||| (gb s (off + n)).setWidth 64
def lw (s : L8) : W2 := (ld s 0 8, ld s 8 8)
def sb (p : W2) (j : Nat) : BitVec 8 := if j < 8 then (p.1 >>> (56 - 8 * j)).setWidth 8 else (p.2 >>> (56 - 8 * (j - 8))).setWidth 8
def st (p : W2) : L8 := (List.range 16).map (sb p)
theorem st_len (p : W2) : (st p).length = 16 := by simp [st]
theorem gb_st (p : W2) (j : Nat) (h : j < 16) : gb (st p) j = sb p j := gb_map _ _ _ h
/-! ### sums -/
def gw (f : Nat → BitVec 64) (key s : L8) : Nat → W2
  | 0 => z2
  | t + 1 => byw f (xw (gw f key s t) (lw (Cb.bk s t))) (lw key)
def sum (f : Nat → BitVec 64) (key s : L8) : L8 := st (gw f key s (s.length / 16))
theorem sum_len (f : Nat → BitVec 64) (key s : L8) : (sum f key s).length = 16 := st_len _
end Gh
end Go.Proofs.YtdmbfimjbmfbaaaGreat
