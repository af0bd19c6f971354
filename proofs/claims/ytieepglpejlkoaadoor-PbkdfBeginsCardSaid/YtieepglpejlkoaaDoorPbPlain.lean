/-
  Keys from passwords, plainly. No conditions.
-/
import Derived.Test.YtieepglpejlkoaaDoorHmacPlain
namespace Go.Proofs.YtieepglpejlkoaaDoor
open Go.RowKit
set_option linter.unusedSimpArgs false
set_option linter.unusedVariables false
namespace Pb
def err (k : Int) (salt : List (BitVec 8)) (r l : Int) : Int :=
  if ¬ (k = 256 ∨ k = 384 ∨ k = 512) then 11 else if r < 1 ∨ l < 1 ∨ 256 < l then 2 else if 4096 < r then 14 else if 1024 < salt.length then 4 else 0
def un (kind : Nat) (pw salt : List (BitVec 8)) (i : Nat) : Nat → List (BitVec 8)
  | 0 => Hm.mac kind pw (salt ++ Oct.be (BitVec.ofNat 64 i) 4)
  | k + 1 => Hm.mac kind pw (un kind pw salt i k)
def tn (kind : Nat) (pw salt : List (BitVec 8)) (i : Nat) : Nat → List (BitVec 8)
  | 0 => un kind pw salt i 0
  | k + 1 => Oct.xor (tn kind pw salt i k) (un kind pw salt i (k + 1))
def out (kind : Nat) (pw salt : List (BitVec 8)) (r : Nat) : Nat → List (BitVec 8)
  | 0 => []
  | n + 1 => out kind pw salt r n ++ tn kind pw salt (n + 1) (r - 1)
def dk (kind : Nat) (pw salt : List (BitVec 8)) (r l : Nat) : List (BitVec 8) :=
  (List.range l).map fun j => gb (tn kind pw salt (j / Sha.ol kind + 1) (r - 1)) (j % Sha.ol kind)
def key (k : Int) (pw salt : List (BitVec 8)) (r l : Int) : List (BitVec 8) × Int :=
  if err k salt r l = 0 then (dk k.toNat pw salt r.toNat l.toNat, 0) else ([], err k salt r l)
theorem un_len (kind : Nat) (pw salt : List (BitVec 8)) (i : Nat) : ∀ k, (un kind pw salt i k).length = Sha.ol kind
  | 0 => Hm.mac_len _ _ _
  | _ + 1 => Hm.mac_len _ _ _
theorem tn_len (kind : Nat) (pw salt : List (BitVec 8)) (i : Nat) : ∀ k, (tn kind pw salt i k).length = Sha.ol kind
  | 0 => un_len kind pw salt i 0
  | k + 1 => by show (Oct.xor _ _).length = _; rw [Oct.length_xor, tn_len kind pw salt i k, un_len]; omega
theorem out_len (kind : Nat) (pw salt : List (BitVec 8)) (r : Nat) : ∀ n, (out kind pw salt r n).length = Sha.ol kind * n
  | 0 => rfl
  | n + 1 => by show (out kind pw salt r n ++ tn kind pw salt (n + 1) (r - 1)).length = _; rw [List.length_append, out_len kind pw salt r n, tn_len, Nat.mul_succ]
theorem dk_len (kind : Nat) (pw salt : List (BitVec 8)) (r l : Nat) : (dk kind pw salt r l).length = l := by simp [dk]
theorem gb_tn (kind : Nat) (pw salt : List (BitVec 8)) (i k j : Nat) (h : j < Sha.ol kind) : gb (tn kind pw salt i (k + 1)) j = gb (tn kind pw salt i k) j ^^^ gb (un kind pw salt i (k + 1)) j := by
  show gb (Oct.xor _ _) j = _
  rw [Oct.gb_xor _ _ _ (by rw [tn_len, un_len]; omega)]
theorem gb_out (kind : Nat) (pw salt : List (BitVec 8)) (r : Nat) : ∀ n j, j < Sha.ol kind * n → gb (out kind pw salt r n) j = gb (tn kind pw salt (j / Sha.ol kind + 1) (r - 1)) (j % Sha.ol kind)
  | 0, j, h => absurd h (by omega)
  | n + 1, j, h => by
    have hol := Sha.ol_lt kind
    rw [Nat.mul_succ] at h
    show gb (out kind pw salt r n ++ tn kind pw salt (n + 1) (r - 1)) j = _
    rw [gb_append, out_len]
    by_cases e : j < Sha.ol kind * n
    · rw [if_pos e]; exact gb_out kind pw salt r n j e
    · rw [if_neg e]
      obtain ⟨q, rfl⟩ : ∃ q, j = Sha.ol kind * n + q := ⟨j - Sha.ol kind * n, by omega⟩
      rw [Nat.mul_add_div (by omega), Nat.mul_add_mod, Nat.div_eq_of_lt (by omega), Nat.mod_eq_of_lt (by omega), Nat.add_sub_cancel_left, Nat.add_zero]
theorem gb_dk (kind : Nat) (pw salt : List (BitVec 8)) (r l j : Nat) (h : j < l) : gb (dk kind pw salt r l) j = gb (tn kind pw salt (j / Sha.ol kind + 1) (r - 1)) (j % Sha.ol kind) := gb_map _ _ _ h
theorem out_take (kind : Nat) (pw salt : List (BitVec 8)) (r n l : Nat) (h : l ≤ Sha.ol kind * n) : (out kind pw salt r n).take l = dk kind pw salt r l := by
  refine gb_ext ?_ (fun i hi => ?_)
  · rw [List.length_take, out_len, dk_len]; omega
  · rw [List.length_take, out_len] at hi
    rw [gb_take _ _ _ (by omega), gb_out _ _ _ _ _ _ (by omega)]
    exact (gb_dk _ _ _ _ _ _ (by omega)).symm
theorem dk_take (kind : Nat) (pw salt : List (BitVec 8)) (r l l' : Nat) (h : l ≤ l') : (dk kind pw salt r l').take l = dk kind pw salt r l := by
  refine gb_ext ?_ (fun i hi => ?_)
  · rw [List.length_take, dk_len, dk_len]; omega
  · rw [List.length_take, dk_len] at hi
    rw [gb_take _ _ _ (by omega)]
    exact (gb_dk _ _ _ _ _ _ (by omega)).trans (gb_dk _ _ _ _ _ _ (by omega)).symm
theorem err_bound (k : Int) (salt : List (BitVec 8)) (r l : Int) : 0 ≤ err k salt r l ∧ err k salt r l ≤ 14 := by
  unfold err; split <;> (try split) <;> (try split) <;> (try split) <;> omega
theorem key_bound (k : Int) (pw salt : List (BitVec 8)) (r l : Int) : 0 ≤ (key k pw salt r l).2 ∧ (key k pw salt r l).2 ≤ 14 := by
  unfold key
  split
  · exact ⟨Int.le_refl 0, (by decide : (0 : Int) ≤ 14)⟩
  · exact err_bound k salt r l
theorem key_err (k : Int) (pw salt : List (BitVec 8)) (r l : Int) (h : err k salt r l ≠ 0) : key k pw salt r l = ([], err k salt r l) := if_neg h
theorem key_ok (kind : Nat) (hk : Sha.Known kind) (pw salt : List (BitVec 8)) (r l : Nat) (hr : 1 ≤ r) (hr2 : r ≤ 4096) (hl : 1 ≤ l) (hl2 : l ≤ 256) (hs : salt.length ≤ 1024) : key (kind : Int) pw salt (r : Int) (l : Int) = (dk kind pw salt r l, 0) := by
  have e : err (kind : Int) salt (r : Int) (l : Int) = 0 := by
    unfold err
    rw [if_neg (fun h => h (by rcases hk with h | h | h <;> omega)), if_neg (by omega), if_neg (by omega), if_neg (by omega)]
  unfold key
  rw [if_pos e]
  simp
theorem shr_zero (i : Nat) (h : i < 4294967296) : BitVec.ofNat 64 i >>> (8 * 4) = 0#64 := by
  apply BitVec.eq_of_toNat_eq
  rw [BitVec.toNat_ushiftRight, BitVec.toNat_ofNat, Nat.shiftRight_eq_div_pow, show (0#64 : BitVec 64).toNat = 0 from rfl]
  omega
theorem err_args (k : Int) (salt : List (BitVec 8)) (r l : Int) (h : err k salt r l = 0) : (k = 256 ∨ k = 384 ∨ k = 512) ∧ ¬ (r < 1 ∨ l < 1 ∨ 256 < l) ∧ r ≤ 4096 ∧ salt.length ≤ 1024 := by
  unfold err at h
  by_cases h1 : k = 256 ∨ k = 384 ∨ k = 512
  · rw [if_neg (fun x => x h1)] at h
    by_cases h2 : r < 1 ∨ l < 1 ∨ 256 < l
    · rw [if_pos h2] at h; omega
    · rw [if_neg h2] at h
      by_cases h3 : 4096 < r
      · rw [if_pos h3] at h; omega
      · rw [if_neg h3] at h
        by_cases h4 : 1024 < salt.length
        · rw [if_pos h4] at h; omega
        · exact ⟨h1, h2, by omega, by omega⟩
  · rw [if_pos h1] at h; omega
theorem err_len (k : Int) (salt : List (BitVec 8)) (r l l' : Int) (h : err k salt r l = 0) (h1 : 1 ≤ l') (h2 : l' ≤ 256) : err k salt r l' = 0 := by
  obtain ⟨a, b, c, d⟩ := err_args k salt r l h
  unfold err
  rw [if_neg (fun x => x a), if_neg (by omega), if_neg (by omega), if_neg (by omega)]
theorem key_fine (k : Int) (pw salt : List (BitVec 8)) (r l : Int) (h : err k salt r l = 0) : key k pw salt r l = (dk k.toNat pw salt r.toNat l.toNat, 0) := if_pos h
def pword : List (BitVec 8) := [112#8, 97#8, 115#8, 115#8, 119#8, 111#8, 114#8, 100#8]
def psalt : List (BitVec 8) := [115#8, 97#8, 108#8, 116#8]
theorem wake : (key 256 pword psalt 2 4).1 = ([174#8, 77#8, 12#8, 149#8]) := by decide +kernel
theorem wake2 : (key 256 pword psalt 2 4).2 = 0 := by decide +kernel
end Pb
end Go.Proofs.YtieepglpejlkoaaDoor
