/-
  The law AesSub answers true at every two bytes. No conditions.
-/
import Derived.Test.YtcdhkpndpadbhaaAesWakes
import Derived.Test.YtcdhkpndpadbhaaAesInv
namespace Go.Proofs.Ytcdhkpndpadbhaa
open Go.RowKit
set_option linter.unusedSimpArgs false
set_option linter.unusedVariables false
set_option maxHeartbeats 1000000 in
theorem sub_c (b : BitVec 8) (w : World) :
    Calls Try.prog 15 #[U8 b] w fun e w' => e = .returned (U8 (Aes.sb b.toNat)) ∧ Below w.heap.size w w' := by
  have hi := idx_lt b
  go_enter Try.func15, Try.ntmps15
  go_wp2_with (first
    | (go_at_call 26; refine (box_c _).mono ?_; rintro e w1 ⟨rfl, hb1⟩)
    | (with_reducible show wpList _ _ _ (Oper.mk _ (Op.store 45 (.tmp 3) (.tmp 4)) _ _ _ _ :: _) _ _
       refine wpList_store_arr rfl rfl 45 (.tmp 3) (.tmp 4) rfl w1.heap.size 0 256 rfl (fun j => U8 (Aes.sb j)) rfl Try.boxSize (fun j _ => U8.oneCell _) _ 256 _ (Row.fresh (f := fun _ => .int .u8 0) (by rw [Try.zeros256]; simp) (fun i hi => by rw [Try.zeros256]; simp [hi])) (by decide) ?_
       intro w9 hw9 hg9 hs9
       have hc := hw9.cell (i := idx b) hi
       rw [if_pos ⟨Nat.zero_le _, by omega⟩, Nat.sub_zero] at hc))
  go_ret
  exact ⟨rfl, hb1.trans (((Below.refl _ _).alloc (Nat.le_refl _) _ |>.grown hg9 (by simp) (fun k hk => by cases hk; exact Nat.le_refl _)).mono hb1.size)⟩
set_option maxRecDepth 20000 in
theorem refInv_c (b : BitVec 8) (w : World) :
    Calls Try.prog 32 #[U8 b] w fun e w' => e = .returned (U8 (Aes.pw b 254)) ∧ w = w' := by
  obtain ⟨y, hy⟩ : ∃ y, y = Aes.pw b 254 := ⟨_, rfl⟩
  rw [← hy]
  have HY := Lib.hid hy
  clear hy
  go_enter Try.func32, Try.ntmps32
  go_wp2
  go_loopg [3, 4] 254 (fun g p i wr => wr = w ∧ ∃ k : Nat, k ≤ 254 ∧ g = 254 - k ∧ i = .int .i64 k ∧ Hid (p = U8 (Aes.pw b k)))
  case atStart => exact ⟨rfl, 0, by omega, rfl, rfl, rfl⟩
  case round =>
    obtain ⟨rfl, k, hk, rfl, rfl, HP⟩ := hrel
    obtain ⟨x, HX, rfl⟩ : ∃ x, Hid (x = Aes.pw b k) ∧ u3 = U8 x := ⟨_, rfl, HP.out⟩
    clear HP
    by_cases hlt : k < 254
    · go_wp2_with (first | (go_at_call 12; refine (refMul_c _ _ _).mono ?_; rintro e w1 ⟨rfl, rfl⟩))
      go_roundg (254 - (k + 1))
      case measure => omega
      case rel => exact ⟨rfl, k + 1, by omega, rfl, by go_num, by rw [HX.out]; rfl⟩
    · have e : k = 254 := by omega
      rw [e] at HX
      obtain rfl := e
      go_wp2
      go_ret
      exact ⟨ret_u8 (HX.out.trans HY.out.symm), rfl⟩
theorem refSub_c (b : BitVec 8) (w : World) :
    Calls Try.prog 16 #[U8 b] w fun e w' => e = .returned (U8 (Aes.sb b.toNat)) ∧ w = w' := by
  rw [← Aes.psub b]
  obtain ⟨q, hq⟩ : ∃ q, q = Aes.pw b 254 := ⟨_, rfl⟩
  rw [← hq]
  have HQ := Lib.hid hq
  clear hq
  go_enter Try.func16, Try.ntmps16
  go_wp2_with (first | (go_at_call 32; refine (refInv_c _ _).mono ?_; rintro e w1 ⟨rfl, rfl⟩))
  rw [← HQ.out]
  go_loopg [3, 4, 5] 4 (fun g p o i wr => wr = w ∧ ∃ k : Nat, k ≤ 4 ∧ g = 4 - k ∧ i = .int .i64 k ∧ p = U8 (Aes.rr q k).1 ∧ o = U8 (Aes.rr q k).2)
  case atStart => exact ⟨rfl, 0, by omega, rfl, rfl, rfl, rfl⟩
  case round =>
    obtain ⟨rfl, k, hk, rfl, rfl, rfl, rfl⟩ := hrel
    by_cases hlt : k < 4
    · go_wp2
      go_roundg (4 - (k + 1))
      case measure => omega
      case rel => exact ⟨rfl, k + 1, by omega, rfl, by go_num, rfl, rfl⟩
    · obtain rfl : k = 4 := by omega
      go_wp2
      go_ret
      exact ⟨rfl, rfl⟩
theorem walk_AesSub (a b : BitVec 8) (w : World) :
    Calls Try.prog 5 #[U8 a, U8 b] w fun e w' => e = .returned (.bool true) ∧ Below w.heap.size w w' := by
  have f1 : ((Aes.sb a.toNat == Aes.sb b.toNat) == (a == b)) = true := by
    rw [beq_iff_eq, Bool.eq_iff_iff, beq_iff_eq, beq_iff_eq]
    exact ⟨Aes.sb_inj, fun h => by rw [h]⟩
  go_enter Try.func5, Try.ntmps5
  go_wp2_with (first
    | (go_at_call 11; refine (wakes_c _).mono ?_; rintro e w1 ⟨rfl, hb1⟩)
    | (go_at_call 16; refine (refSub_c _ _).mono ?_; rintro e w2 ⟨rfl, rfl⟩)
    | (go_at_call 15; refine (sub_c _ _).mono ?_; rintro e w2 ⟨rfl, hb2⟩; have hb1 := hb1.trans (hb2.mono hb1.size); clear hb2))
  go_ret
  exact ⟨rfl, hb1⟩
end Go.Proofs.Ytcdhkpndpadbhaa
