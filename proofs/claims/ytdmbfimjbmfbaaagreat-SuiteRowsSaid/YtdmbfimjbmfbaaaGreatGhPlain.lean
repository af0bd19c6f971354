/-
  Sums over a field of 128 bits, plainly: elements as bits, and as two words. Conditions as each says.
-/
import Derived.Test.YtdmbfimjbmfbaaaGreatCbcPlain
namespace Go.Proofs.YtdmbfimjbmfbaaaGreat
open Go.RowKit
set_option linter.unusedSimpArgs false
set_option linter.unusedVariables false
namespace Gh
abbrev L8 := List (BitVec 8)
abbrev E := Nat → Bool
/-! ### elements as bits: number i is the factor of x to the power of i -/
def zero : E := fun _ => false
def add (e f : E) : E := fun i => e i ^^ f i
def sc (c : Bool) (e : E) : E := fun i => c && e i
def low (i : Nat) : Bool := i == 0 || i == 1 || i == 2 || i == 7
def tm (e : E) : E := fun i => decide (i < 128) && ((decide (0 < i) && e (i - 1)) ^^ (e 127 && low i))
theorem add_comm (e f : E) : add e f = add f e := funext fun i => Bool.xor_comm _ _
theorem add_assoc (e f g : E) : add (add e f) g = add e (add f g) := funext fun i => Bool.xor_assoc _ _ _
theorem add_zero (e : E) : add e zero = e := funext fun i => Bool.xor_false _
theorem zero_add (e : E) : add zero e = e := funext fun i => Bool.false_xor _
def tn : Nat → E → E
  | 0, e => e
  | n + 1, e => tm (tn n e)
/-- the product: Horner's way, from the highest power on -/
def hn (a b : E) : Nat → E
  | 0 => zero
  | n + 1 => add (tm (hn a b n)) (sc (a (127 - n)) b)
def mul (a b : E) : E := hn a b 128
/-- the sum of products of powers s, s + 1, .. (n of them) -/
def ts (a b : E) (s : Nat) : Nat → E
  | 0 => zero
  | n + 1 => add (ts a b s n) (sc (a (s + n)) (tn n b))
/-! ### the reference's product -/
def one : E := fun i => i == 0
def xp (m : Nat) : E := tn m one
/-- what a row of factors comes to -/
def val (p : E) : Nat → E
  | 0 => zero
  | n + 1 => add (val p n) (sc (p n) (xp n))
def cutE (b : E) : E := fun i => decide (i < 128) && b i
def shifted (b : E) (k : Nat) : E := fun m => decide (k ≤ m) && cutE b (m - k)
end Gh
end Go.Proofs.YtdmbfimjbmfbaaaGreat
