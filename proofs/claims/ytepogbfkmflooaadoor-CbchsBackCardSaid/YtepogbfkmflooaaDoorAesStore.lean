/-
  AES: what the program's store computes. No conditions.
-/
import Derived.Test.YtepogbfkmflooaaDoorAesLeaf
namespace Go.Proofs.YtepogbfkmflooaaDoor
open Go.RowKit
set_option linter.unusedSimpArgs false
set_option linter.unusedVariables false
theorem storeStep (x : Nat → BitVec 32) (k i : Nat) (hi : i < 16) :
    (if i = 4 * k + 3 then U8 ((x k).setWidth 8) else if i = 4 * k + 2 then U8 ((x k >>> 8).setWidth 8) else if i = 4 * k + 1 then U8 ((x k >>> 16).setWidth 8) else if i = 4 * k then U8 ((x k >>> 24).setWidth 8) else if i < 4 * k then U8 (Aes.byteOf (x (i / 4)) (i % 4)) else U8 0#8) =
      if i < 4 * (k + 1) then U8 (Aes.byteOf (x (i / 4)) (i % 4)) else U8 0#8 := by
  by_cases h3 : i = 4 * k + 3
  · subst h3
    rw [if_pos rfl, if_pos (by omega), show (4 * k + 3) / 4 = k from by omega, show (4 * k + 3) % 4 = 3 from by omega]
    simp [Aes.byteOf]
  rw [if_neg h3]
  by_cases h2 : i = 4 * k + 2
  · subst h2
    rw [if_pos rfl, if_pos (by omega), show (4 * k + 2) / 4 = k from by omega, show (4 * k + 2) % 4 = 2 from by omega]
    simp [Aes.byteOf]
  rw [if_neg h2]
  by_cases h1 : i = 4 * k + 1
  · subst h1
    rw [if_pos rfl, if_pos (by omega), show (4 * k + 1) / 4 = k from by omega, show (4 * k + 1) % 4 = 1 from by omega]
    simp [Aes.byteOf]
  rw [if_neg h1]
  by_cases h0 : i = 4 * k
  · subst h0
    rw [if_pos rfl, if_pos (by omega), show (4 * k) / 4 = k from by omega, show (4 * k) % 4 = 0 from by omega]
    simp [Aes.byteOf]
  rw [if_neg h0]
  by_cases h : i < 4 * k
  · rw [if_pos h, if_pos (by omega)]
  · rw [if_neg h, if_neg (by omega)]

set_option maxHeartbeats 4000000 in
theorem store_c (x : Nat → BitVec 32) (w : World) :
    Calls Tryd.prog 71 #[.agg #[U32 (x 0), U32 (x 1), U32 (x 2), U32 (x 3)]] w fun e w' => e = .returned (.string (str (Aes.block x))) ∧ Below w.heap.size w w' := by
  go_enter Tryd.func71, Tryd.ntmps71
  go_wp2
  go_loopw [4, 5] (fun _ i wr => ∃ k : Nat, k ≤ 4 ∧ i = .int .i64 k ∧ Row wr (w.heap.size + 1) 151 16 (fun j => if j < 4 * k then U8 (Aes.byteOf (x (j / 4)) (j % 4)) else U8 0#8) ∧ Row wr w.heap.size 127 4 (fun j => U32 (x j)) ∧ Below w.heap.size w wr) (fun _ i _ => 4 - (intOf i).toNat)
  case atStart =>
    refine ⟨0, by omega, rfl, ?_, ?_, ((Below.refl _ _).alloc (Nat.le_refl _) _).alloc (by simp) _⟩
    · have h := Row.fresh (w := w.alloc (.cells #[U32 (x 0), U32 (x 1), U32 (x 2), U32 (x 3)] 127)) (c := Array.replicate 16 (.int .u8 0)) (t := 151) (n := 16) (f := fun _ => U8 0#8) (by simp) (fun i hi => by simp [hi]; rfl)
      rw [World.size_alloc] at h
      exact h.congr (fun i _ => by rw [if_neg (by omega)])
    · exact (Row.fresh (n := 4) (f := fun j => U32 (x j)) rfl (all4 rfl rfl rfl rfl)).alloc _
  case round =>
    obtain ⟨k, hk, rfl, hrow, hx, hb⟩ := hrel
    by_cases hlt : k < 4
    · have h0 := hrow.cell (i := 4 * k) (by omega)
      have h1 := hrow.cell (i := 4 * k + 1) (by omega)
      have h2 := hrow.cell (i := 4 * k + 2) (by omega)
      have h3 := hrow.cell (i := 4 * k + 3) (by omega)
      rw [if_neg (by omega)] at h0 h1 h2 h3
      have z0 := hrow.frozen (i := 4 * k) (by omega)
      have z1 := hrow.frozen (i := 4 * k + 1) (by omega)
      have z2 := hrow.frozen (i := 4 * k + 2) (by omega)
      have z3 := hrow.frozen (i := 4 * k + 3) (by omega)
      have hc := hx.cell (i := k) hlt
      go_wp2
      have w0 : IntKind.i64.wrap (4 * (k : Int)) = 4 * (k : Int) := IntWalk.i64_in _ (by omega)
      have w1 : IntKind.i64.wrap (4 * (k : Int) + 1) = 4 * (k : Int) + 1 := IntWalk.i64_in _ (by omega)
      have w2 : IntKind.i64.wrap (4 * (k : Int) + 2) = 4 * (k : Int) + 2 := IntWalk.i64_in _ (by omega)
      have w3 : IntKind.i64.wrap (4 * (k : Int) + 3) = 4 * (k : Int) + 3 := IntWalk.i64_in _ (by omega)
      have p0 : (0 : Int) ≤ 4 * (k : Int) := by omega
      have p1 : (0 : Int) ≤ 4 * (k : Int) + 1 := by omega
      have p2 : (0 : Int) ≤ 4 * (k : Int) + 2 := by omega
      have p3 : (0 : Int) ≤ 4 * (k : Int) + 3 := by omega
      have q0 : 4 * (k : Int) < 16 := by omega
      have q1 : 4 * (k : Int) + 1 < 16 := by omega
      have q2 : 4 * (k : Int) + 2 < 16 := by omega
      have q3 : 4 * (k : Int) + 3 < 16 := by omega
      have t0 : (4 * (k : Int)).toNat = 4 * k := by omega
      have t1 : (4 * (k : Int) + 1).toNat = 4 * k + 1 := by omega
      have t2 : (4 * (k : Int) + 2).toNat = 4 * k + 2 := by omega
      have t3 : (4 * (k : Int) + 3).toNat = 4 * k + 3 := by omega
      go_region_held3 (fun w' => w'.cell? ⟨w.heap.size, k, none⟩ = some (U32 (x k))) (go_keep) (first | fail)
      go_wp2
      refine ⟨⟨k + 1, by omega, by go_num, ?_, ?_, ?_⟩, by simp [intOf]; omega⟩
      · exact ((((hrow.drew.set_ _ _).set_ _ _).set_ _ _).set_ _ _).congr (fun i hi => storeStep x k i hi)
      · exact (((hx.drew.other (by simp) _).other (by simp) _).other (by simp) _).other (by simp) _
      · exact (((hb.drew.setCell (by simp) _).setCell (by simp) _).setCell (by simp) _).setCell (by simp) _
    · obtain rfl : k = 4 := by omega
      have hcv := run_string_of (P := Tryd.prog) wr 63 9 5 (w.heap.size + 1) 0 16 16 (Aes.block x) (Aes.length_block x) Tryd.underlying63 Tryd.underlying5 Tryd.underlying9 (fun j hj => by
        rw [Nat.zero_add, hrow.cell hj, if_pos (by omega), Aes.gb_block x j hj])
      go_wp2
      go_ret
      exact ⟨rfl, hb⟩
end Go.Proofs.YtepogbfkmflooaaDoor
