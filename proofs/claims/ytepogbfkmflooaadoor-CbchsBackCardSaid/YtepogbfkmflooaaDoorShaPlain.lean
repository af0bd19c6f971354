/-
  Digests, plainly: words, rounds, blocks, what is filled up. No conditions.
-/
import Derived.Test.YtepogbfkmflooaaDoorOct
namespace Go.Proofs.YtepogbfkmflooaaDoor
open Go.RowKit
set_option linter.unusedSimpArgs false
set_option linter.unusedVariables false
namespace Sha
def kN : List Nat := [0x428a2f98d728ae22, 0x7137449123ef65cd, 0xb5c0fbcfec4d3b2f, 0xe9b5dba58189dbbc, 0x3956c25bf348b538, 0x59f111f1b605d019, 0x923f82a4af194f9b, 0xab1c5ed5da6d8118, 0xd807aa98a3030242, 0x12835b0145706fbe, 0x243185be4ee4b28c, 0x550c7dc3d5ffb4e2, 0x72be5d74f27b896f, 0x80deb1fe3b1696b1, 0x9bdc06a725c71235, 0xc19bf174cf692694, 0xe49b69c19ef14ad2, 0xefbe4786384f25e3, 0x0fc19dc68b8cd5b5, 0x240ca1cc77ac9c65, 0x2de92c6f592b0275, 0x4a7484aa6ea6e483, 0x5cb0a9dcbd41fbd4, 0x76f988da831153b5, 0x983e5152ee66dfab, 0xa831c66d2db43210, 0xb00327c898fb213f, 0xbf597fc7beef0ee4, 0xc6e00bf33da88fc2, 0xd5a79147930aa725, 0x06ca6351e003826f, 0x142929670a0e6e70, 0x27b70a8546d22ffc, 0x2e1b21385c26c926, 0x4d2c6dfc5ac42aed, 0x53380d139d95b3df, 0x650a73548baf63de, 0x766a0abb3c77b2a8, 0x81c2c92e47edaee6, 0x92722c851482353b, 0xa2bfe8a14cf10364, 0xa81a664bbc423001, 0xc24b8b70d0f89791, 0xc76c51a30654be30, 0xd192e819d6ef5218, 0xd69906245565a910, 0xf40e35855771202a, 0x106aa07032bbd1b8, 0x19a4c116b8d2d0c8, 0x1e376c085141ab53, 0x2748774cdf8eeb99, 0x34b0bcb5e19b48a8, 0x391c0cb3c5c95a63, 0x4ed8aa4ae3418acb, 0x5b9cca4f7763e373, 0x682e6ff3d6b2b8a3, 0x748f82ee5defb2fc, 0x78a5636f43172f60, 0x84c87814a1f0ab72, 0x8cc702081a6439ec, 0x90befffa23631e28, 0xa4506cebde82bde9, 0xbef9a3f7b2c67915, 0xc67178f2e372532b, 0xca273eceea26619c, 0xd186b8c721c0c207, 0xeada7dd6cde0eb1e, 0xf57d4f7fee6ed178, 0x06f067aa72176fba, 0x0a637dc5a2c898a6, 0x113f9804bef90dae, 0x1b710b35131c471b, 0x28db77f523047d84, 0x32caab7b40c72493, 0x3c9ebe0a15c9bebc, 0x431d67c49c100d4c, 0x4cc5d4becb3e42b6, 0x597f299cfc657e2a, 0x5fcb6fab3ad6faec, 0x6c44198c4a475817]
/-- the first bits of the square roots: of the first eight primes, and of the eight behind them -/
def rN : List Nat := [0x6a09e667f3bcc908, 0xbb67ae8584caa73b, 0x3c6ef372fe94f82b, 0xa54ff53a5f1d36f1, 0x510e527fade682d1, 0x9b05688c2b3e6c1f, 0x1f83d9abfb41bd6b, 0x5be0cd19137e2179, 0xcbbb9d5dc1059ed8, 0x629a292a367cd507, 0x9159015a3070dd17, 0x152fecd8f70e5939, 0x67332667ffc00b31, 0x8eb44a8768581511, 0xdb0c2e0d64f98fa7, 0x47b5481dbefa4fa4]
def sm (kind : Nat) : Bool := kind == 256
def bs (kind : Nat) : Nat := if sm kind then 64 else 128
def rounds (s : Bool) : Nat := if s then 64 else 80
/-- bytes of a word -/
def wb (s : Bool) : Nat := if s then 4 else 8
def ol (kind : Nat) : Nat := if kind = 256 then 32 else if kind = 384 then 48 else 64
def cut (s : Bool) (n : Nat) : Nat := if s then n / 2 ^ 32 else n
def K (s : Bool) (i : Nat) : BitVec 64 := BitVec.ofNat 64 (cut s (kN.getD i 0))
def H0 (kind : Nat) (i : Nat) : BitVec 64 := BitVec.ofNat 64 (cut (sm kind) (rN.getD ((if kind = 384 then 8 else 0) + i) 0))
def wd (s : Bool) (x : BitVec 64) : BitVec 64 := if s then x % 4294967296#64 else x
def tn (s : Bool) (x : BitVec 64) (n : Nat) : BitVec 64 := if s then (x >>> n ||| x <<< (32 - n)) % 4294967296#64 else x >>> n ||| x <<< (64 - n)
def trn (s : Bool) (i : Nat) : Nat := (if s then [7, 18, 3, 17, 19, 10, 2, 13, 22, 6, 11, 25] else [1, 8, 7, 19, 61, 6, 28, 34, 39, 14, 18, 41]).getD i 0
def th (s : Bool) (x : BitVec 64) (a : Nat) (sh : Bool) : BitVec 64 := (tn s x (trn s a) ^^^ tn s x (trn s (a + 1))) ^^^ (if sh then x >>> trn s (a + 2) else tn s x (trn s (a + 2)))
def bw (p : Nat → BitVec 8) : Nat → BitVec 64
  | 0 => 0#64
  | k + 1 => bw p k * 256#64 + (p k).setWidth 64
/-- a word of the plan, of the bytes p and of the words ahead of it -/
def wstep (s : Bool) (p : Nat → BitVec 8) (W : Nat → BitVec 64) (i : Nat) : BitVec 64 :=
  if i < 16 then bw (fun k => p (wb s * i + k)) (wb s) else wd s (((th s (W (i - 2)) 3 true + W (i - 7)) + th s (W (i - 15)) 0 true) + W (i - 16))
def wtab (s : Bool) (p : Nat → BitVec 8) : Nat → Nat → BitVec 64
  | 0 => fun _ => 0#64
  | n + 1 => fun j => if j = n then wstep s p (wtab s p n) n else wtab s p n j
def w (s : Bool) (p : Nat → BitVec 8) (i : Nat) : BitVec 64 := wtab s p (i + 1) i
theorem wtab_eq (s : Bool) (p : Nat → BitVec 8) : ∀ n j, j < n → wtab s p n j = w s p j
  | 0, j, h => absurd h (by omega)
  | n + 1, j, h => by
    by_cases e : j = n
    · subst e; rfl
    · rw [show wtab s p (n + 1) j = wtab s p n j from if_neg e]
      exact wtab_eq s p n j (by omega)
theorem wstep_congr (s : Bool) (p : Nat → BitVec 8) (V W : Nat → BitVec 64) (i : Nat) (h : ∀ j, j < i → V j = W j) : wstep s p V i = wstep s p W i := by
  unfold wstep
  by_cases e : i < 16
  · rw [if_pos e, if_pos e]
  · rw [if_neg e, if_neg e, h _ (by omega), h _ (by omega), h _ (by omega), h _ (by omega)]
theorem w_eq (s : Bool) (p : Nat → BitVec 8) (i : Nat) : w s p i = wstep s p (w s p) i := by
  show (if i = i then wstep s p (wtab s p i) i else _) = _
  rw [if_pos rfl]
  exact wstep_congr _ _ _ _ _ (fun j hj => wtab_eq s p i j hj)
/-- the two sums of a round -/
def t1 (s : Bool) (k x : BitVec 64) (v : Nat → BitVec 64) : BitVec 64 := (((v 7 + th s (v 4) 9 false) + ((v 4 &&& v 5) ^^^ (~~~ v 4 &&& v 6))) + k) + x
def t2 (s : Bool) (v : Nat → BitVec 64) : BitVec 64 := th s (v 0) 6 false + (((v 0 &&& v 1) ^^^ (v 0 &&& v 2)) ^^^ (v 1 &&& v 2))
def eight {α : Type} (a0 a1 a2 a3 a4 a5 a6 a7 : α) (j : Nat) : α := if j = 0 then a0 else if j = 1 then a1 else if j = 2 then a2 else if j = 3 then a3 else if j = 4 then a4 else if j = 5 then a5 else if j = 6 then a6 else a7
def rnd (s : Bool) (k x : BitVec 64) (v : Nat → BitVec 64) : Nat → BitVec 64 :=
  eight (wd s (t1 s k x v + t2 s v)) (v 0) (v 1) (v 2) (wd s (v 3 + t1 s k x v)) (v 4) (v 5) (v 6)
def vs (s : Bool) (p : Nat → BitVec 8) (h : Nat → BitVec 64) : Nat → Nat → BitVec 64
  | 0 => h
  | i + 1 => rnd s (K s i) (w s p i) (vs s p h i)
def comp (s : Bool) (p : Nat → BitVec 8) (h : Nat → BitVec 64) (j : Nat) : BitVec 64 := wd s (h j + vs s p h (rounds s) j)
/-- behind t blocks -/
def st (kind : Nat) (p : Nat → BitVec 8) : Nat → Nat → BitVec 64
  | 0 => H0 kind
  | t + 1 => comp (sm kind) (fun j => p (bs kind * t + j)) (st kind p t)
theorem bw_congr (p q : Nat → BitVec 8) (n : Nat) (h : ∀ j, j < n → p j = q j) : bw p n = bw q n := by
  induction n with
  | zero => rfl
  | succ n ih => show bw p n * 256#64 + _ = bw q n * 256#64 + _; rw [ih (fun j hj => h j (by omega)), h n (by omega)]
theorem wb_bs (kind : Nat) : bs kind = 16 * wb (sm kind) := by unfold bs wb; cases sm kind <;> rfl
theorem w_congr (s : Bool) (p q : Nat → BitVec 8) (h : ∀ j, j < 16 * wb s → p j = q j) : ∀ i, w s p i = w s q i := by
  intro i
  induction i using Nat.strongRecOn with
  | ind i ih =>
    rw [w_eq, w_eq, wstep_congr s p _ _ i ih]
    unfold wstep
    by_cases e : i < 16
    · rw [if_pos e, if_pos e]
      exact bw_congr _ _ _ (fun j hj => h _ (by have : wb s * i ≤ wb s * 15 := Nat.mul_le_mul_left _ (by omega); omega))
    · rw [if_neg e, if_neg e]
theorem vs_congr (s : Bool) (p q : Nat → BitVec 8) (h : Nat → BitVec 64) (e : ∀ j, j < 16 * wb s → p j = q j) : ∀ i, vs s p h i = vs s q h i
  | 0 => rfl
  | i + 1 => by show rnd _ _ _ _ = rnd _ _ _ _; rw [vs_congr s p q h e i, w_congr s p q e]
theorem comp_congr (s : Bool) (p q : Nat → BitVec 8) (h : Nat → BitVec 64) (e : ∀ j, j < 16 * wb s → p j = q j) : comp s p h = comp s q h := by
  funext j; unfold comp; rw [vs_congr s p q h e]
theorem st_congr (kind : Nat) (p q : Nat → BitVec 8) : ∀ t, (∀ j, j < bs kind * t → p j = q j) → st kind p t = st kind q t
  | 0, _ => rfl
  | t + 1, e => by
    have hm : bs kind * (t + 1) = bs kind * t + bs kind := Nat.mul_succ _ _
    show comp _ _ _ = comp _ _ _
    rw [st_congr kind p q t (fun j hj => e j (by omega))]
    exact comp_congr _ _ _ _ (fun j hj => e _ (by have := wb_bs kind; omega))
theorem bs_cases (kind : Nat) : (kind = 256 ∧ sm kind = true ∧ bs kind = 64) ∨ (kind ≠ 256 ∧ sm kind = false ∧ bs kind = 128) := by
  by_cases h : kind = 256
  · subst h; exact .inl ⟨rfl, rfl, rfl⟩
  · have : sm kind = false := by unfold sm; simpa using h
    exact .inr ⟨h, this, by unfold bs; rw [this]; rfl⟩
/-- the bytes that are put behind a text of n bytes -/
def padl (kind n : Nat) : Nat := (2 * bs kind - bs kind / 8 - 1 - n % bs kind) % bs kind + 1 + bs kind / 8
theorem padl_le (kind n : Nat) : 17 - 8 ≤ padl kind n ∧ padl kind n ≤ 145 ∧ (n + padl kind n) % bs kind = 0 := by
  unfold padl
  rcases bs_cases kind with ⟨_, _, h⟩ | ⟨_, _, h⟩ <;> rw [h] <;> omega
def pb (kind n i : Nat) : BitVec 8 := if i = 0 then 128#8 else if i < padl kind n - 8 then 0#8 else gb (Oct.be (BitVec.ofNat 64 (8 * n)) 8) (i - (padl kind n - 8))
def pad (kind n : Nat) : List (BitVec 8) := (List.range (padl kind n)).map (pb kind n)
theorem length_pad (kind n : Nat) : (pad kind n).length = padl kind n := by simp [pad]
theorem gb_pad (kind n i : Nat) (h : i < padl kind n) : gb (pad kind n) i = pb kind n i := gb_map _ _ _ h
/-- the digest's bytes, out of the words -/
def dg (kind : Nat) (h : Nat → BitVec 64) : List (BitVec 8) := (List.range (ol kind)).map fun j => (h (j / wb (sm kind)) >>> (8 * (wb (sm kind) - 1 - j % wb (sm kind)))).setWidth 8
def full (kind : Nat) (m : List (BitVec 8)) : List (BitVec 8) := m ++ pad kind m.length
def nb (kind : Nat) (m : List (BitVec 8)) : Nat := (m.length + padl kind m.length) / bs kind
def sum (kind : Nat) (m : List (BitVec 8)) : List (BitVec 8) := dg kind (st kind (gb (full kind m)) (nb kind m))
theorem length_sum (kind : Nat) (m : List (BitVec 8)) : (sum kind m).length = ol kind := by simp [sum, dg]
def Known (kind : Nat) : Prop := kind = 256 ∨ kind = 384 ∨ kind = 512
end Sha
end Go.Proofs.YtepogbfkmflooaaDoor
