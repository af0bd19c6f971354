/-
  AES, plainly: the field, the substitution box, the round words, both ways. No program in sight.
-/
import Derived.Test.YtdmbfimjbmfbaaaGreatDoorQuiet
namespace Go.Proofs.YtdmbfimjbmfbaaaGreatDoor
namespace Aes
/-- twice a byte, in the field -/
def xt (b : BitVec 8) : BitVec 8 := if 128 ≤ b.toNat then (b <<< 1) ^^^ 27#8 else b <<< 1
/-- so many bits of b, from the lowest, times a, added to out -/
def gm : Nat → BitVec 8 → BitVec 8 → BitVec 8 → BitVec 8
  | 0, _, _, out => out
  | k + 1, a, b, out => gm k (xt a) (b >>> 1) (if b &&& 1#8 == 1#8 then out ^^^ a else out)
def mul (a b : BitVec 8) : BitVec 8 := gm 8 a b 0#8
theorem gm_zero (k : Nat) : ∀ a out, gm k a 0#8 out = out := by
  induction k with
  | zero => intros; rfl
  | succ k ih => intro a out; simp [gm, ih]
theorem half_lt (b : BitVec 8) (h : 0 < b.toNat) : (b >>> 1).toNat < b.toNat := by
  rw [BitVec.toNat_ushiftRight, Nat.shiftRight_eq_div_pow]; omega
theorem half_pow (b : BitVec 8) (k : Nat) (h : b.toNat < 2 ^ (k + 1)) : (b >>> 1).toNat < 2 ^ k := by
  rw [BitVec.toNat_ushiftRight, Nat.shiftRight_eq_div_pow]
  have : 2 ^ (k + 1) = 2 ^ k * 2 := Nat.pow_succ ..
  omega
def turned (b : BitVec 8) (n : Nat) : BitVec 8 := b <<< n ||| b >>> (8 - n)
def tw (w : BitVec 32) : BitVec 32 := (w <<< 1 &&& 4278124286#32) ^^^ (w >>> 7 &&& 16843009#32) * 27#32
def mix (w : BitVec 32) : BitVec 32 :=
  tw (w ^^^ (w <<< 8 ||| w >>> 24)) ^^^ (w <<< 8 ||| w >>> 24) ^^^ (w <<< 16 ||| w >>> 16) ^^^ (w <<< 24 ||| w >>> 8)
def unmix (w : BitVec 32) : BitVec 32 := mix (w ^^^ tw (tw (w ^^^ (w <<< 16 ||| w >>> 16))))
/-- a word's bytes, each by a table -/
def subW (s : Nat → BitVec 8) (w : BitVec 32) : BitVec 32 :=
  (s (idx (w >>> 24))).setWidth 32 <<< 24 ||| (s (idx (w >>> 16 &&& 255#32))).setWidth 32 <<< 16 |||
    (s (idx (w >>> 8 &&& 255#32))).setWidth 32 <<< 8 ||| (s (idx (w &&& 255#32))).setWidth 32
theorem idx_high (x : BitVec 32) : idx (x >>> 24) < 256 := by
  have := x.isLt
  show (x >>> 24).toNat < 256
  rw [BitVec.toNat_ushiftRight, Nat.shiftRight_eq_div_pow]; omega
theorem idx_low (x : BitVec 32) : idx (x &&& 255#32) < 256 := by
  show (x &&& 255#32).toNat < 256
  rw [BitVec.toNat_and]; exact Nat.lt_of_le_of_lt Nat.and_le_right (by decide)
/-- four bytes, the highest first -/
def word (a b c d : BitVec 8) : BitVec 32 := a.setWidth 32 <<< 24 ||| b.setWidth 32 <<< 16 ||| c.setWidth 32 <<< 8 ||| d.setWidth 32
/-- column i of a block -/
def col (s : List (BitVec 8)) (i : Nat) : BitVec 32 := word (gb s (4 * i)) (gb s (4 * i + 1)) (gb s (4 * i + 2)) (gb s (4 * i + 3))
/-- byte r of a word, the highest is number 0 -/
def byteOf (w : BitVec 32) (r : Nat) : BitVec 8 := (w >>> (24 - 8 * r)).setWidth 8
/-- four columns as a block -/
def block (x : Nat → BitVec 32) : List (BitVec 8) := (List.range 16).map fun j => byteOf (x (j / 4)) (j % 4)
theorem length_block (x : Nat → BitVec 32) : (block x).length = 16 := by simp [block]
theorem gb_block (x : Nat → BitVec 32) (j : Nat) (h : j < 16) : gb (block x) j = byteOf (x (j / 4)) (j % 4) := by
  simp [gb, block, h]
/-! the substitution box -/
def val (q : BitVec 8) : BitVec 8 := q ^^^ turned q 1 ^^^ turned q 2 ^^^ turned q 3 ^^^ turned q 4 ^^^ 99#8
def pk : Nat → BitVec 8
  | 0 => 1#8
  | k + 1 => pk k ^^^ xt (pk k)
def qk : Nat → BitVec 8
  | 0 => 1#8
  | k + 1 => mul (qk k) 246#8
def tk : Nat → List (BitVec 8)
  | 0 => List.replicate 256 0#8
  | k + 1 => (tk k).set (pk k).toNat (val (qk k))
theorem length_tk (k : Nat) : (tk k).length = 256 := by
  induction k with
  | zero => exact List.length_replicate
  | succ k ih => simp [tk, ih]
/-- the box, as one number -/
def sbN : Nat := 0x16bb54b00f2d99416842e6bf0d89a18cdf2855cee9871e9b948ed9691198f8e19e1dc186b95735610ef6034866b53e708a8bbd4b1f74dde8c6b4a61c2e2578ba08ae7a65eaf4566ca94ed58d6d37c8e779e4959162acd3c25c2406490a3a32e0db0b5ede14b8ee4688902a22dc4f816073195d643d7ea7c41744975fec130ccdd2f3ff1021dab6bcf5389d928f40a351a89f3c507f02f94585334d43fbaaefd0cf584c4a39becb6a5bb1fc20ed00d153842fe329b3d63b52a05a6e1b1a2c830975b227ebe28012079a059618c323c7041531d871f1e5a534ccf73f362693fdb7c072a49cafa2d4adf04759fa7dc982ca76abd7fe2b670130c56f6bf27b777c63
def sb (i : Nat) : BitVec 8 := BitVec.ofNat 8 (sbN >>> (8 * i))
theorem pk_one : ∀ k, k < 255 → (pk (k + 1) == 1#8) = decide (k = 254) := by decide +kernel
theorem tk_sb : (tk 255).set 0 99#8 = (List.range 256).map sb := by decide +kernel
theorem gb_sb (i : Nat) (h : i < 256) : gb ((tk 255).set 0 99#8) i = sb i := by
  rw [tk_sb]; simp [gb, h]
theorem gb_set (l : List (BitVec 8)) (i j : Nat) (v : BitVec 8) (h : j < l.length) : gb (l.set i v) j = if j = i then v else gb l j := by
  unfold gb
  simp only [List.getD_eq_getElem?_getD, List.getElem?_set]
  by_cases e : i = j
  · subst e; simp [h]
  · rw [if_neg e, if_neg (fun x => e x.symm)]
/-! round words -/
def gw (l : List (BitVec 32)) (i : Nat) : BitVec 32 := l.getD i 0#32
def rc : Nat → BitVec 8
  | 0 => 1#8
  | k + 1 => xt (rc k)
def nextW (key : List (BitVec 8)) (n : Nat) (l : List (BitVec 32)) (k : Nat) : BitVec 32 :=
  if k < n then col key k
  else gw l (k - n) ^^^
    (if k % n = 0 then subW sb (gw l (k - 1) <<< 8 ||| gw l (k - 1) >>> 24) ^^^ (rc (k / n - 1)).setWidth 32 <<< 24
     else if n = 8 ∧ k % 8 = 4 then subW sb (gw l (k - 1)) else gw l (k - 1))
def ws (key : List (BitVec 8)) (n : Nat) : Nat → List (BitVec 32)
  | 0 => []
  | k + 1 => ws key n k ++ [nextW key n (ws key n k) k]
theorem length_ws (key : List (BitVec 8)) (n k : Nat) : (ws key n k).length = k := by
  induction k with
  | zero => rfl
  | succ k ih => simp [ws, ih]
theorem gw_ws (key : List (BitVec 8)) (n : Nat) : ∀ m k j, j < k → k ≤ m → gw (ws key n m) j = gw (ws key n k) j := by
  intro m
  induction m with
  | zero => intro k j h1 h2; omega
  | succ m ih =>
    intro k j h1 h2
    by_cases e : k = m + 1
    · rw [e]
    · rw [← ih k j h1 (by omega)]
      show gw (ws key n m ++ [_]) j = _
      unfold gw
      rw [List.getD_eq_getElem?_getD, List.getElem?_append_left (by rw [length_ws]; omega), ← List.getD_eq_getElem?_getD]
theorem gw_next (key : List (BitVec 8)) (n m k : Nat) (hn : 1 ≤ n) (hk : k < m) : gw (ws key n m) k = nextW key n (ws key n m) k := by
  have h1 : gw (ws key n m) k = nextW key n (ws key n k) k := by
    rw [gw_ws key n m (k + 1) k (by omega) (by omega)]
    show gw (ws key n k ++ [_]) k = _
    unfold gw
    rw [List.getD_eq_getElem?_getD, List.getElem?_append_right (by rw [length_ws]; exact Nat.le_refl _), length_ws]
    simp
  rw [h1]
  unfold nextW
  by_cases e : k < n
  · rw [if_pos e, if_pos e]
  · rw [if_neg e, if_neg e, gw_ws key n m k (k - 1) (by omega) (by omega), gw_ws key n m k (k - n) (by omega) (by omega)]
/-- all round words of a key -/
def words (key : List (BitVec 8)) : List (BitVec 32) := ws key (key.length / 4) (4 * (key.length / 4 + 7))
theorem length_words (key : List (BitVec 8)) : (words key).length = 4 * (key.length / 4 + 7) := length_ws ..
/-! to encrypt -/
def shifted (x : Nat → BitVec 32) (i : Nat) : BitVec 32 :=
  x i &&& 4278190080#32 ||| x ((i + 1) % 4) &&& 16711680#32 ||| x ((i + 2) % 4) &&& 65280#32 ||| x ((i + 3) % 4) &&& 255#32
/-- column i behind a round -/
def encCol (W : List (BitVec 32)) (R r : Nat) (x : Nat → BitVec 32) (i : Nat) : BitVec 32 :=
  (if r < R then mix (subW sb (shifted x i)) else subW sb (shifted x i)) ^^^ gw W (4 * r + i)
/-- the state behind r rounds of R -/
def encSt (W : List (BitVec 32)) (R : Nat) (s : List (BitVec 8)) : Nat → Nat → BitVec 32
  | 0, i => col s i ^^^ gw W i
  | r + 1, i => encCol W R (r + 1) (encSt W R s r) i
/-! the same, as it is reckoned fast -/
def sh4 (a b c d : BitVec 32) : BitVec 32 := a &&& 4278190080#32 ||| b &&& 16711680#32 ||| c &&& 65280#32 ||| d &&& 255#32
def fullCol (a b c d k : BitVec 32) : BitVec 32 := mix (subW sb (sh4 a b c d)) ^^^ k
def lastCol (a b c d k : BitVec 32) : BitVec 32 := subW sb (sh4 a b c d) ^^^ k
def run4 : Nat → List (BitVec 32) → BitVec 32 → BitVec 32 → BitVec 32 → BitVec 32 → List (BitVec 32)
  | 0, W, a, b, c, d => [lastCol a b c d (gw W 0), lastCol b c d a (gw W 1), lastCol c d a b (gw W 2), lastCol d a b c (gw W 3)]
  | n + 1, W, a, b, c, d => run4 n (W.drop 4) (fullCol a b c d (gw W 0)) (fullCol b c d a (gw W 1)) (fullCol c d a b (gw W 2)) (fullCol d a b c (gw W 3))
def bytes4 (w : BitVec 32) : List (BitVec 8) := [byteOf w 0, byteOf w 1, byteOf w 2, byteOf w 3]
def enc (W : List (BitVec 32)) (s : List (BitVec 8)) : List (BitVec 8) :=
  (run4 (W.length / 4 - 2) (W.drop 4) (col s 0 ^^^ gw W 0) (col s 1 ^^^ gw W 1) (col s 2 ^^^ gw W 2) (col s 3 ^^^ gw W 3)).flatMap bytes4
theorem gw_drop (W : List (BitVec 32)) (k i : Nat) : gw (W.drop k) i = gw W (k + i) := by
  simp [gw, List.getD_eq_getElem?_getD, List.getElem?_drop]
theorem run4_st (W : List (BitVec 32)) (R : Nat) (s : List (BitVec 8)) : ∀ n r, r + n + 1 = R →
    run4 n (W.drop (4 * (r + 1))) (encSt W R s r 0) (encSt W R s r 1) (encSt W R s r 2) (encSt W R s r 3) = [encSt W R s R 0, encSt W R s R 1, encSt W R s R 2, encSt W R s R 3] := by
  intro n
  induction n with
  | zero =>
    intro r hr
    subst hr
    simp only [run4, gw_drop, encSt, encCol, Nat.lt_irrefl, if_false]
    rfl
  | succ n ih =>
    intro r hr
    have h := ih (r + 1) (by omega)
    simp only [run4, gw_drop, List.drop_drop]
    rw [show 4 * (r + 1) + 4 = 4 * (r + 1 + 1) from by omega, ← h]
    have hlt : r + 1 < R := by omega
    simp only [encSt, encCol, if_pos hlt]
    rfl
theorem block_bytes (x : Nat → BitVec 32) : block x = [x 0, x 1, x 2, x 3].flatMap bytes4 := rfl
theorem enc_eq (W : List (BitVec 32)) (s : List (BitVec 8)) (R : Nat) (hW : W.length = 4 * (R + 1)) (hR : 1 ≤ R) : block (encSt W R s R) = enc W s := by
  have h := run4_st W R s (R - 1) 0 (by omega)
  unfold enc
  rw [show W.length / 4 - 2 = R - 1 from by omega, block_bytes, ← h]
  rfl
theorem length_enc (W : List (BitVec 32)) (s : List (BitVec 8)) (R : Nat) (hW : W.length = 4 * (R + 1)) (hR : 1 ≤ R) : (enc W s).length = 16 := by
  rw [← enc_eq W s R hW hR]; exact length_block _
end Aes
end Go.Proofs.YtdmbfimjbmfbaaaGreatDoor
