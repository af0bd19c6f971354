/-
  AES: what the small functions of the program compute. No conditions. Digests, plainly: what the reference's own way of reckoning comes to. No conditions.
-/
import Derived.Test.YtdmbfimjbmfbaaaGreatDoorRows
import Derived.Test.YtdmbfimjbmfbaaaGreatDoorAesPlain
import Derived.Test.YtdmbfimjbmfbaaaGreatDoorQuiet
import Derived.Test.YtdmbfimjbmfbaaaGreatDoorArr
import Derived.ProofKit
import Derived.Deep.QuietTactic
import Derived.BigQuiet
import Derived.StillTailTactics
import Derived.Deep.RegionHeld3
import Derived.Deep.LoopGhost
import Derived.Test.YtdmbfimjbmfbaaaGreatDoorShaTab
namespace Go.Proofs.YtdmbfimjbmfbaaaGreatDoor
open Go.RowKit
set_option linter.unusedSimpArgs false
set_option linter.unusedVariables false
theorem ret_u8 {a b : BitVec 8} (h : a = b) : Ending.returned (U8 a) = .returned (U8 b) := by rw [h]

theorem ret_bool {a b : Bool} (h : a = b) : Ending.returned (.bool a) = .returned (.bool b) := by rw [h]

theorem double_c (b : BitVec 8) (w : World) : Calls Tryz.prog 58 #[U8 b] w fun e w' => e = .returned (U8 (Aes.xt b)) ∧ w = w' := by
  go_enter Tryz.func58, Tryz.ntmps58
  go_wp2
  · go_ret
    exact ⟨ret_u8 (by rw [Aes.xt, if_pos ‹_›]), rfl⟩
  · go_ret
    exact ⟨ret_u8 (by rw [Aes.xt, if_neg ‹_›]), rfl⟩

theorem mul_c (a b : BitVec 8) (w : World) : Calls Tryz.prog 59 #[U8 a, U8 b] w fun e w' => e = .returned (U8 (Aes.mul a b)) ∧ w = w' := by
  go_enter Tryz.func59, Tryz.ntmps59
  go_wp2
  go_loop [0, 1, 5] (fun x y o => ∃ (k : Nat) (a' b' o' : BitVec 8), x = U8 a' ∧ y = U8 b' ∧ o = U8 o' ∧ b'.toNat < 2 ^ k ∧ Hid (Aes.gm k a' b' o' = Aes.mul a b)) (fun _ y _ => (intOf y).toNat)
  case atStart => exact ⟨8, a, b, 0#8, rfl, rfl, rfl, b.isLt, rfl⟩
  case round =>
    obtain ⟨k, a', b', o', rfl, rfl, rfl, hk, H⟩ := hrel
    by_cases h0 : 0 < b'.toNat
    · obtain ⟨k, rfl⟩ : ∃ j, k = j + 1 := by
        cases k with
        | zero => simp at hk; omega
        | succ j => exact ⟨j, rfl⟩
      have hp := Aes.half_pow b' k hk
      have hl := Aes.half_lt b' h0
      have H2 : Hid (Aes.gm k (Aes.xt a') (b' >>> 1) (if b' &&& 1#8 == 1#8 then o' ^^^ a' else o') = Aes.mul a b) := H.out
      clear H
      go_wp2_with (go_at_call 58; refine (double_c _ _).mono ?_; rintro e w' ⟨rfl, rfl⟩)
      · go_round
        case rel => exact ⟨k, _, _, _, rfl, rfl, rfl, hp, by have h := H2.out; rw [if_pos ‹_›] at h; exact h⟩
        case measure => simp only [intOf, U8, Int.toNat_natCast]; exact hl
      · go_round
        case rel => exact ⟨k, _, _, _, rfl, rfl, rfl, hp, by have h := H2.out; rw [if_neg (by simp [*])] at h; exact h⟩
        case measure => simp only [intOf, U8, Int.toNat_natCast]; exact hl
    · have e : b' = 0#8 := BitVec.eq_of_toNat_eq (by simp; omega)
      go_wp2
      go_ret
      refine ⟨ret_u8 ?_, rfl⟩
      rw [← H.out, e, Aes.gm_zero]

theorem turned_c (b : BitVec 8) (n : Int) (w : World) (h0 : 0 ≤ n) (h1 : n ≤ 8) :
    Calls Tryz.prog 57 #[U8 b, .int .i64 n] w fun e w' => e = .returned (U8 (Aes.turned b n.toNat)) ∧ ∃ k, w' = w.drewN k := by
  have h2 : 0 ≤ 8 - n := by omega
  go_enter Tryz.func57, Tryz.ntmps57
  go_wp2
  go_quiet (fail)
  go_wp2
  go_ret
  refine ⟨ret_u8 ?_, _, rfl⟩
  rw [Aes.turned, show (8 - n).toNat = 8 - n.toNat from by omega]

theorem twice_c (x : BitVec 32) (w : World) : Calls Tryz.prog 60 #[U32 x] w fun e w' => e = .returned (U32 (Aes.tw x)) ∧ w = w' := by
  go_enter Tryz.func60, Tryz.ntmps60
  go_wp2
  go_ret
  exact ⟨rfl, rfl⟩
theorem mix_c (x : BitVec 32) (w : World) : Calls Tryz.prog 46 #[U32 x] w fun e w' => e = .returned (U32 (Aes.mix x)) ∧ w = w' := by
  go_enter Tryz.func46, Tryz.ntmps46
  go_wp2_with (go_at_call 60; refine (twice_c _ _).mono ?_; rintro e w' ⟨rfl, rfl⟩)
  go_ret
  exact ⟨rfl, rfl⟩
theorem right_c (n : Int) (w : World) : Calls Tryz.prog 41 #[.int .i64 n] w fun e w' => e = .returned (.bool (decide (n = 16 ∨ n = 24 ∨ n = 32))) ∧ w = w' := by
  go_enter Tryz.func41, Tryz.ntmps41
  go_wp2
  · go_ret
    exact ⟨ret_bool (by simp [*]), rfl⟩
  · go_ret
    exact ⟨ret_bool (by simp [*]), rfl⟩
  · go_ret
    exact ⟨ret_bool (by rw [Bool.eq_iff_iff]; simp [or_assoc]), rfl⟩
theorem subWord_c (g off : Nat) (s : Nat → BitVec 8) (x : BitVec 32) (w : World) (hr : ∀ i, i < 256 → w.cell? ⟨g, off + i, none⟩ = some (U8 (s i))) :
    Calls Tryz.prog 45 #[.pointer (some ⟨g, off, none⟩), U32 x] w fun e w' => e = .returned (U32 (Aes.subW s x)) ∧ ∃ k, w' = w.drewN k := by
  have b1 := Aes.idx_high x
  have b2 := Aes.idx_low (x >>> 16)
  have b3 := Aes.idx_low (x >>> 8)
  have b4 := Aes.idx_low x
  have c1 := hr _ b1
  have c2 := hr _ b2
  have c3 := hr _ b3
  have c4 := hr _ b4
  clear hr
  go_enter Tryz.func45, Tryz.ntmps45
  go_wp2
  go_quiet (fail)
  go_wp2
  go_ret
  exact ⟨rfl, nq, rfl⟩

theorem load_c (s : ByteArray) (w : World) (hs : s.size = 16) :
    Calls Tryz.prog 44 #[.string s] w fun e w' => e = .returned (.agg #[U32 (Aes.col (byt s) 0), U32 (Aes.col (byt s) 1), U32 (Aes.col (byt s) 2), U32 (Aes.col (byt s) 3)]) ∧ Below w.heap.size w w' := by
  have hs1 : 16 ≤ s.size := by omega
  have hs2 : s.size ≤ 16 := by omega
  clear hs
  go_enter Tryz.func44, Tryz.ntmps44
  go_wp2
  go_loopw [3, 4] (fun v i wr => ∃ k : Nat, k ≤ 4 ∧ i = .int .i64 k ∧ Row wr w.heap.size 116 4 (fun j => if j < k then U32 (Aes.col (byt s) j) else U32 0#32) ∧ Below w.heap.size w wr) (fun _ i _ => 4 - (intOf i).toNat)
  case atStart =>
    exact ⟨0, by omega, rfl, Row.fresh rfl (all4 rfl rfl rfl rfl), (Below.refl _ _).alloc (Nat.le_refl _) _⟩
  case round =>
    obtain ⟨k, hk, rfl, hrow, hb⟩ := hrel
    by_cases hlt : k < 4
    · have hc := hrow.cell (i := k) hlt
      rw [if_neg (Nat.lt_irrefl k)] at hc
      have hz := hrow.frozen (i := k) hlt
      go_wp2
      refine wp_region_tail (fun w' => ∃ n, w' = wr.drewN n) 31 (by kernel_rfl) (by kernel_rfl) ⟨1, rfl⟩ ?_
      simp only [List.take_succ_cons, List.take_zero, List.drop_succ_cons, List.drop_zero]
      repeat (go_big_quiet_step (fail))
      refine wpQuiet_nil ?_
      intro w' hw'; obtain ⟨nq, rfl⟩ := hw'
      go_wp2
      refine ⟨⟨k + 1, by omega, by go_num, ((hrow.drewN nq).set_ k _).congr ?_, (below_drewN hb nq).setCell (Nat.le_refl _) _⟩, by simp [intOf]; omega⟩
      intro i hi
      by_cases e : i = k
      · subst e
        rw [if_pos rfl, if_pos (by omega)]
        rfl
      · rw [if_neg e]
        by_cases e2 : i < k
        · rw [if_pos e2, if_pos (by omega)]
        · rw [if_neg e2, if_neg (by omega)]
    · obtain rfl : k = 4 := by omega
      have h0 := hrow.cell (i := 0) (by omega)
      have h1 := hrow.cell (i := 1) (by omega)
      have h2 := hrow.cell (i := 2) (by omega)
      have h3 := hrow.cell (i := 3) (by omega)
      have z0 := hrow.frozen (i := 0) (by omega)
      have z1 := hrow.frozen (i := 1) (by omega)
      have z2 := hrow.frozen (i := 2) (by omega)
      have z3 := hrow.frozen (i := 3) (by omega)
      rw [if_pos (by omega)] at h0 h1 h2 h3
      go_wp2
      exact bodyPost_ret (v := .agg #[U32 (Aes.col (byt s) 0), U32 (Aes.col (byt s) 1), U32 (Aes.col (byt s) 2), U32 (Aes.col (byt s) 3)]) (by simp [results, Tryz.results44, go_sem, h0, h1, h2, h3]) rfl
        ⟨rfl, (((hb.setCell (Nat.le_refl _) _).setCell (Nat.le_refl _) _).setCell (Nat.le_refl _) _).setCell (Nat.le_refl _) _⟩
end Go.Proofs.YtdmbfimjbmfbaaaGreatDoor
namespace Go.Proofs.YtdmbfimjbmfbaaaGreatDoor
open Go.RowKit
set_option linter.unusedSimpArgs false
set_option linter.unusedVariables false
namespace Sha
theorem trn_lt (s : Bool) (i : Nat) : trn s i < 64 := by
  by_cases h : i < 12
  · revert h; revert i; cases s <;> decide +kernel
  · unfold trn; rw [List.getD_eq_getElem?_getD, List.getElem?_eq_none (by cases s <;> (show 12 ≤ i; omega))]; decide
theorem trn_le (i : Nat) : trn true i ≤ 32 := by
  by_cases h : i < 12
  · revert h; revert i; decide +kernel
  · unfold trn; rw [List.getD_eq_getElem?_getD, List.getElem?_eq_none (by show 12 ≤ i; omega)]; decide
theorem sub_ofNat (m n : Nat) (hn : n ≤ m) (hm : m ≤ 64) : (BitVec.ofNat 64 m - BitVec.ofNat 64 n).toNat = m - n := by
  rw [BitVec.toNat_sub, BitVec.toNat_ofNat, BitVec.toNat_ofNat]
  omega
theorem w_lo_k (s : Bool) (p : Nat → BitVec 8) (i k : Nat) (hi : i < 16) (hk : k = wb s) : w s p i = bw (fun j => p (wb s * i + j)) k := by
  subst hk
  rw [w_eq]; unfold wstep; rw [if_pos hi]
theorem w_hi (s : Bool) (p : Nat → BitVec 8) (i : Nat) (hi : ¬ i < 16) : w s p i = wd s (((th s (w s p (i - 2)) 3 true + w s p (i - 7)) + th s (w s p (i - 15)) 0 true) + w s p (i - 16)) := by
  conv => lhs; rw [w_eq]; unfold wstep; rw [if_neg hi]
theorem rnd_row (s : Bool) (p : Nat → BitVec 8) (h : Nat → BitVec 64) (i j : Nat) (hj : j < 8) (T U : BitVec 64) (hT : T = t1 s (K s i) (w s p i) (vs s p h i)) (hU : U = t2 s (vs s p h i)) :
    (if j < 1 then U64 (wd s (T + U)) else if j < 2 then U64 (vs s p h i 0) else if j < 3 then U64 (vs s p h i 1) else if j < 4 then U64 (vs s p h i 2)
     else if j < 5 then U64 (wd s (vs s p h i 3 + T)) else if j < 6 then U64 (vs s p h i 4) else if j < 7 then U64 (vs s p h i 5) else U64 (vs s p h i 6)) = U64 (vs s p h (i + 1) j) := by
  subst hT; subst hU
  have : j = 0 ∨ j = 1 ∨ j = 2 ∨ j = 3 ∨ j = 4 ∨ j = 5 ∨ j = 6 ∨ j = 7 := by omega
  rcases this with h | h | h | h | h | h | h | h <;> subst h <;> rfl
theorem gb_full_lo (kind : Nat) (m : List (BitVec 8)) (j : Nat) (h : j < m.length) : gb (full kind m) j = gb m j := by
  unfold full; rw [gb_append, if_pos h]
theorem gb_full_hi (kind : Nat) (m : List (BitVec 8)) (i : Nat) (h : i < padl kind m.length) : gb (full kind m) (m.length + i) = pb kind m.length i := by
  unfold full; rw [gb_append, if_neg (by omega), show m.length + i - m.length = i from by omega, gb_pad _ _ _ h]
theorem full_80 (kind : Nat) (m : List (BitVec 8)) (j : Nat) (hj : j = m.length) : 128#8 = gb (full kind m) j := by
  subst hj
  have := gb_full_hi kind m 0 (by have := (padl_le kind m.length).1; omega)
  rw [Nat.add_zero] at this
  rw [this]; rfl
theorem full_0 (kind : Nat) (m : List (BitVec 8)) (j : Nat) (h : m.length < j) (h2 : j < m.length + padl kind m.length - 8) : 0#8 = gb (full kind m) j := by
  have := gb_full_hi kind m (j - m.length) (by omega)
  rw [show m.length + (j - m.length) = j from by omega] at this
  rw [this]
  unfold pb
  rw [if_neg (by omega), if_pos (by omega)]
theorem full_n (kind : Nat) (m : List (BitVec 8)) (i j : Nat) (hi : i < 8) (hj : j = m.length + (padl kind m.length - 8 + i)) :
    ((BitVec.ofNat 64 m.length * 8#64) >>> (56 - 8 * i)).setWidth 8 = gb (full kind m) j := by
  subst hj
  have hp := (padl_le kind m.length).1
  rw [gb_full_hi kind m _ (by omega)]
  unfold pb
  rw [if_neg (by omega), if_neg (by omega), show padl kind m.length - 8 + i - (padl kind m.length - 8) = i from by omega, Oct.gb_be _ _ _ hi, show 8 * (8 - 1 - i) = 56 - 8 * i from by omega]
  congr 2
  apply BitVec.eq_of_toNat_eq
  rw [BitVec.toNat_mul, BitVec.toNat_ofNat, BitVec.toNat_ofNat, BitVec.toNat_ofNat]
  omega
/-! ### the cells of a rule -/
def rrow (c0 c1 c2 c3 c4 : Value) (bg : Nat → BitVec 64) (tr : Nat → Value) : Nat → Value := fun j =>
  if j < 1 then c0 else if j < 2 then c1 else if j < 3 then c2 else if j < 4 then c3 else if j < 5 then c4 else if j < 13 then U64 (bg (j - 5)) else tr (j - 13)
section
variable (c0 c1 c2 c3 c4 v : Value) (bg bg' : Nat → BitVec 64) (tr : Nat → Value)
theorem rr_a (h : ∀ i, i < 8 → bg i = bg' i) (j : Nat) : rrow c0 c1 c2 c3 c4 bg tr j = rrow c0 c1 c2 c3 c4 bg' tr j := by
  unfold rrow
  by_cases e : j < 13
  · by_cases e5 : j < 5
    · simp only [e5, if_true]
    · rw [if_neg (by omega), if_neg (by omega), if_neg (by omega), if_neg (by omega), if_neg e5, if_pos e, if_neg (by omega), if_neg (by omega), if_neg (by omega), if_neg (by omega), if_neg e5, if_pos e, h _ (by omega)]
  · simp only [e, if_false]
theorem rr_k (j : Nat) : (if j = 4 then v else rrow c0 c1 c2 c3 c4 bg tr j) = rrow c0 c1 c2 c3 v bg tr j := by
  by_cases e : j = 4
  · subst e; rfl
  · rw [if_neg e]
    unfold rrow
    by_cases e4 : j < 4
    · simp only [e4, if_true]
    · by_cases e5 : j < 5
      · omega
      · simp only [e5, if_false]
theorem rr_g (i : Nat) (x : BitVec 64) (hi : i < 8) (h : ∀ k, k < 8 → (if k = i then x else bg k) = bg' k) (j : Nat) : (if j = 5 + i then U64 x else rrow c0 c1 c2 c3 c4 bg tr j) = rrow c0 c1 c2 c3 c4 bg' tr j := by
  by_cases e : j = 5 + i
  · subst e
    rw [if_pos rfl]
    unfold rrow
    rw [if_neg (by omega), if_neg (by omega), if_neg (by omega), if_neg (by omega), if_neg (by omega), if_pos (by omega), show 5 + i - 5 = i from by omega, ← h i hi, if_pos rfl]
  · rw [if_neg e]
    unfold rrow
    by_cases e13 : j < 13
    · by_cases e5 : j < 5
      · simp only [e5, if_true]
      · rw [if_neg (by omega), if_neg (by omega), if_neg (by omega), if_neg (by omega), if_neg e5, if_pos e13, if_neg (by omega), if_neg (by omega), if_neg (by omega), if_neg (by omega), if_neg e5, if_pos e13, ← h _ (by omega), if_neg (by omega)]
    · simp only [e13, if_false]
theorem rr_b (h : ∀ i, i < 8 → bg i = bg' i) (j : Nat) : (if j = 4 then v else rrow c0 c1 c2 c3 c4 bg tr j) = rrow c0 c1 c2 c3 v bg' tr j := (rr_k c0 c1 c2 c3 c4 v bg tr j).trans (rr_a c0 c1 c2 c3 v bg bg' tr h j)
theorem rr_d (i : Nat) (x : BitVec 64) (hi : i < 8) (h : ∀ k, k < 8 → (if k = i then x else bg k) = bg' k) (j : Nat) : (if j = 5 + i then U64 x else if j = 4 then v else rrow c0 c1 c2 c3 c4 bg tr j) = rrow c0 c1 c2 c3 v bg' tr j := by
  rw [rr_k]; exact rr_g c0 c1 c2 c3 v bg bg' tr i x hi h j
end
end Sha
end Go.Proofs.YtdmbfimjbmfbaaaGreatDoor
