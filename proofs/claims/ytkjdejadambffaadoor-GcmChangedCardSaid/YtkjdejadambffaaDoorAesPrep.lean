/-
  AES: what decrypting wants is made ready. Conditions as each says.
-/
import Derived.Test.YtkjdejadambffaaDoorAesNew
import Derived.Test.YtkjdejadambffaaDoorAesBackPlain
import Derived.Test.YtkjdejadambffaaDoorAesEnc
namespace Go.Proofs.YtkjdejadambffaaDoor
open Go.RowKit
set_option linter.unusedSimpArgs false
set_option linter.unusedVariables false
/-- the way back, as it fills -/
def Aes.bt : Nat → List (BitVec 8)
  | 0 => List.replicate 256 0#8
  | k + 1 => (Aes.bt k).set (Aes.sb k).toNat (BitVec.ofNat 8 k)
theorem Aes.length_bt (k : Nat) : (Aes.bt k).length = 256 := by
  induction k with
  | zero => exact List.length_replicate
  | succ k ih => simp [Aes.bt, ih]
theorem gr_refl (w : World) (b : Nat) : w.grownBy w (some b) := ⟨rfl, rfl, rfl, Nat.le_refl _, fun _ _ _ => rfl⟩
theorem gr_trans {w a c : World} {b : Nat} (h : w.grownBy a (some b)) (k : a.grownBy c (some b)) : w.grownBy c (some b) :=
  ⟨k.os.trans h.os, k.tape.trans h.tape, k.output.trans h.output, Nat.le_trans h.size k.size, fun i hi hn => (k.block i (Nat.lt_of_lt_of_le hi h.size) hn).trans (h.block i hi hn)⟩
theorem gr_below {w a c : World} {b : Nat} (h : w.grownBy a (some b)) (k : Below w.heap.size a c) : w.grownBy c (some b) :=
  ⟨k.os.trans h.os, k.tape.trans h.tape, k.output.trans h.output, Nat.le_trans h.size k.size, fun i hi hn => (k.block i hi).trans (h.block i hi hn)⟩
theorem gr_drewN {w a : World} {b : Nat} (h : w.grownBy a (some b)) (n : Nat) : w.grownBy (a.drewN n) (some b) := gr_below h (below_drewN (Below.refl _ _) n)
theorem gr_drew {w a : World} {b : Nat} (h : w.grownBy a (some b)) : w.grownBy a.drew (some b) := gr_below h (Below.refl _ _).drew
theorem gr_set {w a : World} {b : Nat} (h : w.grownBy a (some b)) {p : Addr} (hp : p.block = b ∨ w.heap.size ≤ p.block) (u : Value) : w.grownBy (a.setCell p u) (some b) :=
  ⟨h.os, h.tape, h.output, Nat.le_trans h.size (by simp [World.setCell]), fun i hi hn => (Below.heap_setCell _ _ _ _ (by rcases hp with e | e; exact fun e2 => hn (by rw [e2, e]); omega)).trans (h.block i hi hn)⟩
theorem gr_alloc {w a : World} {b : Nat} (h : w.grownBy a (some b)) (o : Obj) : w.grownBy (a.alloc o) (some b) := gr_below h ((Below.refl _ _).alloc h.size o)
theorem gr_to {w a : World} {B b : Nat} (h : w.grownBy a (some b)) (hB : B ≤ b) (hw : B ≤ w.heap.size) : Below B w a :=
  ⟨h.os, h.tape, h.output, h.size, fun k hk => h.block k (by omega) (fun e => by cases e; omega)⟩
theorem Aes.bt_bk : Aes.bt 256 = (List.range 256).map Aes.bk := by decide +kernel
theorem Aes.gb_bt (i : Nat) (h : i < 256) : gb (Aes.bt 256) i = Aes.bk i := by
  rw [Aes.bt_bk]; simp [gb, h]
/-- the cipher's cells while it is made ready -/
def cipP (L g : Nat) (l : List (BitVec 8)) (v : Value) : Nat → Value := fun i =>
  if i < 256 then U8 (Aes.sb i) else if i = 256 then .slice (some ⟨g, 0, none⟩) L L else if i = 257 then .int .u32 0
  else if i = 258 then .int .i32 1 else if i = 259 then .int .u32 0 else if i < 516 then U8 (gb l (i - 260)) else v
theorem cipP_in (L g : Nat) (l : List (BitVec 8)) (v : Value) (j : Nat) (h : j < 256) : cipP L g l v (260 + j) = U8 (gb l j) := by
  unfold cipP
  rw [if_neg (by omega), if_neg (by omega), if_neg (by omega), if_neg (by omega), if_neg (by omega), if_pos (by omega), show 260 + j - 260 = j by omega]
theorem cipP_out (L g : Nat) (l l' : List (BitVec 8)) (v : Value) (i : Nat) (h : ¬ (260 ≤ i ∧ i < 516)) : cipP L g l v i = cipP L g l' v i := by
  unfold cipP
  by_cases e : i < 516
  · by_cases h1 : i < 256
    · rw [if_pos h1, if_pos h1]
    · rw [if_neg h1, if_neg h1]
      by_cases h2 : i = 256
      · rw [if_pos h2, if_pos h2]
      · rw [if_neg h2, if_neg h2]
        by_cases h3 : i = 257
        · rw [if_pos h3, if_pos h3]
        · rw [if_neg h3, if_neg h3]
          by_cases h4 : i = 258
          · rw [if_pos h4, if_pos h4]
          · rw [if_neg h4, if_neg h4, if_pos (by omega), if_pos (by omega)]
  · simp only [if_neg e]
theorem cipP_last (L g : Nat) (l : List (BitVec 8)) (v v' : Value) (i : Nat) (h : i < 517) : (if i = 516 then v' else cipP L g l v i) = cipP L g l v' i := by
  by_cases e : i = 516
  · rw [if_pos e, e]; rfl
  · rw [if_neg e]
    unfold cipP
    have h5 : i < 516 := by omega
    simp only [if_pos h5]
theorem cipP_set (L g k : Nat) (v : Value) (i : Nat) (hk : k < 256) : (if i = 260 + idx (Aes.sb k) then .int .u8 (k : Int) else cipP L g (Aes.bt k) v i) = cipP L g (Aes.bt (k + 1)) v i := by
  have hi := idx_lt (Aes.sb k)
  rw [U8_raw (k : Int) (by omega), Int.toNat_natCast]
  by_cases h : 260 ≤ i ∧ i < 516
  · obtain ⟨j, rfl⟩ : ∃ j, i = 260 + j := ⟨i - 260, by omega⟩
    rw [cipP_in _ _ _ _ _ (by omega), cipP_in _ _ _ _ _ (by omega)]
    show _ = U8 (gb ((Aes.bt k).set (Aes.sb k).toNat (BitVec.ofNat 8 k)) j)
    rw [Aes.gb_set _ _ _ _ (by rw [Aes.length_bt]; omega)]
    have hx : idx (Aes.sb k) = (Aes.sb k).toNat := rfl
    by_cases e : j = (Aes.sb k).toNat
    · rw [if_pos (by omega), if_pos e]
    · rw [if_neg (by omega), if_neg e]
  · rw [if_neg (by omega)]
    exact cipP_out _ _ _ _ _ _ h
end Go.Proofs.YtkjdejadambffaaDoor
