/-
  AES: what the small functions of the program compute. No conditions.
-/
import Derived.Test.YtepogbfkmflooaaDoorRows
import Derived.Test.YtepogbfkmflooaaDoorAesPlain
import Derived.Test.YtepogbfkmflooaaDoorQuiet
import Derived.Test.YtepogbfkmflooaaDoorArr
import Derived.ProofKit
import Derived.Deep.QuietTactic
import Derived.BigQuiet
import Derived.StillTailTactics
import Derived.Deep.RegionHeld3
import Derived.Deep.LoopGhost
namespace Go.Proofs.YtepogbfkmflooaaDoor
open Go.RowKit
set_option linter.unusedSimpArgs false
set_option linter.unusedVariables false
theorem ret_u8 {a b : BitVec 8} (h : a = b) : Ending.returned (U8 a) = .returned (U8 b) := by rw [h]

theorem ret_bool {a b : Bool} (h : a = b) : Ending.returned (.bool a) = .returned (.bool b) := by rw [h]

theorem double_c (b : BitVec 8) (w : World) : Calls Tryd.prog 80 #[U8 b] w fun e w' => e = .returned (U8 (Aes.xt b)) ∧ w = w' := by
  go_enter Tryd.func80, Tryd.ntmps80
  go_wp2
  · go_ret
    exact ⟨ret_u8 (by rw [Aes.xt, if_pos ‹_›]), rfl⟩
  · go_ret
    exact ⟨ret_u8 (by rw [Aes.xt, if_neg ‹_›]), rfl⟩

theorem mul_c (a b : BitVec 8) (w : World) : Calls Tryd.prog 81 #[U8 a, U8 b] w fun e w' => e = .returned (U8 (Aes.mul a b)) ∧ w = w' := by
  go_enter Tryd.func81, Tryd.ntmps81
  go_wp2
  go_loop [0, 1, 5] (fun x y o => ∃ (k : Nat) (a' b' o' : BitVec 8), x = U8 a' ∧ y = U8 b' ∧ o = U8 o' ∧ b'.toNat < 2 ^ k ∧ Hid (Aes.gm k a' b' o' = Aes.mul a b)) (fun _ y _ => (intOf y).toNat)
  case atStart => exact ⟨8, a, b, 0#8, rfl, rfl, rfl, b.isLt, rfl⟩
  case round =>
    obtain ⟨k, a', b', o', rfl, rfl, rfl, hk, H⟩ := hrel
    by_cases h0 : 0 < b'.toNat
    · obtain ⟨k, rfl⟩ : ∃ j, k = j + 1 := by
        cases k with
        | zero => simp at hk; omega
        | succ j => exact ⟨j, rfl⟩
      have hp := Aes.half_pow b' k hk
      have hl := Aes.half_lt b' h0
      have H2 : Hid (Aes.gm k (Aes.xt a') (b' >>> 1) (if b' &&& 1#8 == 1#8 then o' ^^^ a' else o') = Aes.mul a b) := H.out
      clear H
      go_wp2_with (go_at_call 80; refine (double_c _ _).mono ?_; rintro e w' ⟨rfl, rfl⟩)
      · go_round
        case rel => exact ⟨k, _, _, _, rfl, rfl, rfl, hp, by have h := H2.out; rw [if_pos ‹_›] at h; exact h⟩
        case measure => simp only [intOf, U8, Int.toNat_natCast]; exact hl
      · go_round
        case rel => exact ⟨k, _, _, _, rfl, rfl, rfl, hp, by have h := H2.out; rw [if_neg (by simp [*])] at h; exact h⟩
        case measure => simp only [intOf, U8, Int.toNat_natCast]; exact hl
    · have e : b' = 0#8 := BitVec.eq_of_toNat_eq (by simp; omega)
      go_wp2
      go_ret
      refine ⟨ret_u8 ?_, rfl⟩
      rw [← H.out, e, Aes.gm_zero]

theorem turned_c (b : BitVec 8) (n : Int) (w : World) (h0 : 0 ≤ n) (h1 : n ≤ 8) :
    Calls Tryd.prog 79 #[U8 b, .int .i64 n] w fun e w' => e = .returned (U8 (Aes.turned b n.toNat)) ∧ ∃ k, w' = w.drewN k := by
  have h2 : 0 ≤ 8 - n := by omega
  go_enter Tryd.func79, Tryd.ntmps79
  go_wp2
  go_quiet (fail)
  go_wp2
  go_ret
  refine ⟨ret_u8 ?_, _, rfl⟩
  rw [Aes.turned, show (8 - n).toNat = 8 - n.toNat from by omega]

theorem twice_c (x : BitVec 32) (w : World) : Calls Tryd.prog 87 #[U32 x] w fun e w' => e = .returned (U32 (Aes.tw x)) ∧ w = w' := by
  go_enter Tryd.func87, Tryd.ntmps87
  go_wp2
  go_ret
  exact ⟨rfl, rfl⟩
theorem mix_c (x : BitVec 32) (w : World) : Calls Tryd.prog 70 #[U32 x] w fun e w' => e = .returned (U32 (Aes.mix x)) ∧ w = w' := by
  go_enter Tryd.func70, Tryd.ntmps70
  go_wp2_with (go_at_call 87; refine (twice_c _ _).mono ?_; rintro e w' ⟨rfl, rfl⟩)
  go_ret
  exact ⟨rfl, rfl⟩
theorem right_c (n : Int) (w : World) : Calls Tryd.prog 59 #[.int .i64 n] w fun e w' => e = .returned (.bool (decide (n = 16 ∨ n = 24 ∨ n = 32))) ∧ w = w' := by
  go_enter Tryd.func59, Tryd.ntmps59
  go_wp2
  · go_ret
    exact ⟨ret_bool (by simp [*]), rfl⟩
  · go_ret
    exact ⟨ret_bool (by simp [*]), rfl⟩
  · go_ret
    exact ⟨ret_bool (by rw [Bool.eq_iff_iff]; simp [or_assoc]), rfl⟩
theorem subWord_c (g off : Nat) (s : Nat → BitVec 8) (x : BitVec 32) (w : World) (hr : ∀ i, i < 256 → w.cell? ⟨g, off + i, none⟩ = some (U8 (s i))) :
    Calls Tryd.prog 69 #[.pointer (some ⟨g, off, none⟩), U32 x] w fun e w' => e = .returned (U32 (Aes.subW s x)) ∧ ∃ k, w' = w.drewN k := by
  have b1 := Aes.idx_high x
  have b2 := Aes.idx_low (x >>> 16)
  have b3 := Aes.idx_low (x >>> 8)
  have b4 := Aes.idx_low x
  have c1 := hr _ b1
  have c2 := hr _ b2
  have c3 := hr _ b3
  have c4 := hr _ b4
  clear hr
  go_enter Tryd.func69, Tryd.ntmps69
  go_wp2
  go_quiet (fail)
  go_wp2
  go_ret
  exact ⟨rfl, nq, rfl⟩

theorem load_c (s : ByteArray) (w : World) (hs : s.size = 16) :
    Calls Tryd.prog 68 #[.string s] w fun e w' => e = .returned (.agg #[U32 (Aes.col (byt s) 0), U32 (Aes.col (byt s) 1), U32 (Aes.col (byt s) 2), U32 (Aes.col (byt s) 3)]) ∧ Below w.heap.size w w' := by
  have hs1 : 16 ≤ s.size := by omega
  have hs2 : s.size ≤ 16 := by omega
  clear hs
  go_enter Tryd.func68, Tryd.ntmps68
  go_wp2
  go_loopw [3, 4] (fun v i wr => ∃ k : Nat, k ≤ 4 ∧ i = .int .i64 k ∧ Row wr w.heap.size 127 4 (fun j => if j < k then U32 (Aes.col (byt s) j) else U32 0#32) ∧ Below w.heap.size w wr) (fun _ i _ => 4 - (intOf i).toNat)
  case atStart =>
    exact ⟨0, by omega, rfl, Row.fresh rfl (all4 rfl rfl rfl rfl), (Below.refl _ _).alloc (Nat.le_refl _) _⟩
  case round =>
    obtain ⟨k, hk, rfl, hrow, hb⟩ := hrel
    by_cases hlt : k < 4
    · have hc := hrow.cell (i := k) hlt
      rw [if_neg (Nat.lt_irrefl k)] at hc
      have hz := hrow.frozen (i := k) hlt
      go_wp2
      refine wp_region_tail (fun w' => ∃ n, w' = wr.drewN n) 31 (by kernel_rfl) (by kernel_rfl) ⟨1, rfl⟩ ?_
      simp only [List.take_succ_cons, List.take_zero, List.drop_succ_cons, List.drop_zero]
      repeat (go_big_quiet_step (fail))
      refine wpQuiet_nil ?_
      intro w' hw'; obtain ⟨nq, rfl⟩ := hw'
      go_wp2
      refine ⟨⟨k + 1, by omega, by go_num, ((hrow.drewN nq).set_ k _).congr ?_, (below_drewN hb nq).setCell (Nat.le_refl _) _⟩, by simp [intOf]; omega⟩
      intro i hi
      by_cases e : i = k
      · subst e
        rw [if_pos rfl, if_pos (by omega)]
        rfl
      · rw [if_neg e]
        by_cases e2 : i < k
        · rw [if_pos e2, if_pos (by omega)]
        · rw [if_neg e2, if_neg (by omega)]
    · obtain rfl : k = 4 := by omega
      have h0 := hrow.cell (i := 0) (by omega)
      have h1 := hrow.cell (i := 1) (by omega)
      have h2 := hrow.cell (i := 2) (by omega)
      have h3 := hrow.cell (i := 3) (by omega)
      have z0 := hrow.frozen (i := 0) (by omega)
      have z1 := hrow.frozen (i := 1) (by omega)
      have z2 := hrow.frozen (i := 2) (by omega)
      have z3 := hrow.frozen (i := 3) (by omega)
      rw [if_pos (by omega)] at h0 h1 h2 h3
      go_wp2
      exact bodyPost_ret (v := .agg #[U32 (Aes.col (byt s) 0), U32 (Aes.col (byt s) 1), U32 (Aes.col (byt s) 2), U32 (Aes.col (byt s) 3)]) (by simp [results, Tryd.results68, go_sem, h0, h1, h2, h3]) rfl
        ⟨rfl, (((hb.setCell (Nat.le_refl _) _).setCell (Nat.le_refl _) _).setCell (Nat.le_refl _) _).setCell (Nat.le_refl _) _⟩
end Go.Proofs.YtepogbfkmflooaaDoor
