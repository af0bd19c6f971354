/-
  AES: the substitution box that the program makes. No conditions.
-/
import Derived.Test.YtepogbfkmflooaaDoorAesLeaf
namespace Go.Proofs.YtepogbfkmflooaaDoor
open Go.RowKit
set_option linter.unusedSimpArgs false
set_option linter.unusedVariables false
theorem Tryd.boxAgg : (Tryd.prog.underlying 96).map isAggD = some true := by kernel_rfl
theorem Tryd.boxSize : (Tryd.prog.info? 96).map (·.size) = some 256 := by kernel_rfl
theorem Tryd.zeros256 : Tryd.zeroCells96 = Array.replicate 256 (.int .u8 0) := by kernel_rfl
theorem Aes.gb_zeros (i : Nat) (h : i < 256) : gb (Aes.tk 0) i = 0#8 := by
  show gb (List.replicate 256 0#8) i = 0#8
  unfold gb
  rw [List.getD_eq_getElem?_getD, List.getElem?_replicate, if_pos h]
  rfl
set_option maxHeartbeats 1000000 in
theorem box_c (w : World) :
    Calls Tryd.prog 60 #[] w fun e w' => e = .returned (.agg (arr 256 fun j => U8 (Aes.sb j))) ∧ Below w.heap.size w w' := by
  go_enter Tryd.func60, Tryd.ntmps60
  go_wp2
  go_loopg [1, 2] 255 (fun g p q wr => ∃ k : Nat, k < 255 ∧ g = 255 - k ∧ p = U8 (Aes.pk k) ∧ q = U8 (Aes.qk k) ∧ Row wr w.heap.size 96 256 (fun j => U8 (gb (Aes.tk k) j)) ∧ Below w.heap.size w wr)
  case atStart =>
    refine ⟨0, by omega, rfl, rfl, rfl, ?_, (Below.refl _ _).alloc (Nat.le_refl _) _⟩
    exact Row.fresh (by rw [Tryd.zeros256]; simp) (fun i hi => by rw [Tryd.zeros256]; simp [hi]; exact congrArg (fun x => U8 x) (Aes.gb_zeros i hi).symm)
  case round =>
    obtain ⟨k, hk, rfl, rfl, rfl, hrow, hb⟩ := hrel
    have hi := idx_lt (Aes.pk k)
    have hc := hrow.cell (i := idx (Aes.pk k)) hi
    have hz := hrow.frozen (i := idx (Aes.pk k)) hi
    have hnext : ∀ n : Nat, Row (((wr.drewN n)).setCell ⟨w.heap.size, idx (Aes.pk k), none⟩ (U8 (Aes.val (Aes.qk k)))) w.heap.size 96 256 (fun j => U8 (gb (Aes.tk (k + 1)) j)) := fun n =>
      ((hrow.drewN n).set_ _ _).congr (fun i h => by
        show (if i = (Aes.pk k).toNat then _ else _) = U8 (gb ((Aes.tk k).set (Aes.pk k).toNat (Aes.val (Aes.qk k))) i)
        rw [Aes.gb_set _ _ _ _ (by rw [Aes.length_tk]; exact h)]
        split <;> rfl)
    by_cases h254 : k = 254
    · have hp1 : (Aes.pk k ^^^ Aes.xt (Aes.pk k) == 1#8) = true := by
        have := Aes.pk_one k hk; rw [decide_eq_true h254] at this; exact this
      have hc0 : ∀ (n : Nat) (v : Value), ((wr.drewN n).setCell ⟨w.heap.size, idx (Aes.pk k), none⟩ v).cell? ⟨w.heap.size, 0, none⟩ = some (if 0 = idx (Aes.pk k) then v else U8 (gb (Aes.tk k) 0)) := fun n v => ((hrow.drewN n).set_ _ v).cell (by omega)
      have hz0 : ∀ (n : Nat) (v : Value), ((wr.drewN n).setCell ⟨w.heap.size, idx (Aes.pk k), none⟩ v).frozen? ⟨w.heap.size, 0, none⟩ = false := fun n v => ((hrow.drewN n).set_ _ v).frozen (by omega)
      have hfin : ∀ n : Nat, Row ((((wr.drewN n)).setCell ⟨w.heap.size, idx (Aes.pk k), none⟩ (U8 (Aes.val (Aes.qk k)))).setCell ⟨w.heap.size, 0, none⟩ (.int .u8 99)) w.heap.size 96 256 (fun j => U8 (Aes.sb j)) := fun n =>
        ((hnext n).set_ 0 (.int .u8 99)).congr (fun i h => by
          rw [← Aes.gb_sb i h, Aes.gb_set _ _ _ _ (by rw [Aes.length_tk]; exact h), h254]
          split <;> rfl)
      have hcell : ∀ n : Nat, ∀ j, j < 256 → ((((wr.drewN n)).setCell ⟨w.heap.size, idx (Aes.pk k), none⟩ (U8 (Aes.val (Aes.qk k)))).setCell ⟨w.heap.size, 0, none⟩ (.int .u8 99)).cell? ⟨w.heap.size, 0 + j, none⟩ = some (U8 (Aes.sb j)) := fun n j hj => by rw [Nat.zero_add]; exact (hfin n).cell hj
      have H0 : Hid (k = 254) := h254
      have H1 : Hid _ := hfin
      have H2 : Hid _ := hcell
      clear hfin hcell hnext hrow h254
      go_wp2_with (first | (go_at_call 79; refine (turned_c _ _ _ (by decide) (by decide)).mono ?_; rintro e w' ⟨rfl, nk, rfl⟩) | (go_at_call 80; refine (double_c _ _).mono ?_; rintro e w' ⟨rfl, rfl⟩) | (go_at_call 81; refine (mul_c _ 246#8 _).mono ?_; rintro e w' ⟨rfl, rfl⟩) | (with_reducible show wpList _ _ _ (Oper.mk _ (Op.load 96 (.tmp 0)) _ _ _ _ :: _) _ _; refine wpList_load_arr rfl 96 (.tmp 0) rfl w.heap.size 0 256 rfl (fun j => U8 (Aes.sb j)) Tryd.boxAgg Tryd.boxSize (H2.out _) ?_; have tok : True := trivial) | (with_reducible show wpList _ _ _ (Oper.mk _ (Op.store 96 (.tmp 0) (.tmp 28)) _ _ _ _ :: _) _ _; refine wpList_store_arr rfl rfl 96 (.tmp 0) (.tmp 28) rfl w.heap.size 0 256 rfl (fun j => U8 (Aes.sb j)) rfl Tryd.boxSize (fun j _ => U8.oneCell _) _ 256 _ (H1.out _) (by decide) ?_; intro w9 hw9 hg9 hs9))
      refine bodyPost_ret (v := .agg (arr 256 fun j => U8 (Aes.sb j))) (results_arr rfl _ _ w.heap.size 256 _ rfl Tryd.boxAgg Tryd.boxSize (fun j hj => ?_)) rfl ⟨rfl, ?_⟩
      · rw [hw9.cell hj, if_pos (by omega)]; rfl
      · exact (((below_drewN hb _).setCell (Nat.le_refl _) _).setCell (Nat.le_refl _) _).grown hg9 (by simp; exact hb.size) (fun k hk => by cases hk; exact Nat.le_refl _)
    · have hp1 : (Aes.pk k ^^^ Aes.xt (Aes.pk k) == 1#8) = false := by
        have := Aes.pk_one k hk; rw [decide_eq_false h254] at this; exact this
      go_wp2_with (first | (go_at_call 79; refine (turned_c _ _ _ (by decide) (by decide)).mono ?_; rintro e w' ⟨rfl, nk, rfl⟩) | (go_at_call 80; refine (double_c _ _).mono ?_; rintro e w' ⟨rfl, rfl⟩) | (go_at_call 81; refine (mul_c _ 246#8 _).mono ?_; rintro e w' ⟨rfl, rfl⟩))
      go_roundg (255 - (k + 1))
      case measure => omega
      case rel =>
        exact ⟨k + 1, by omega, rfl, rfl, rfl, hnext _, (below_drewN hb _).setCell (Nat.le_refl _) _⟩
end Go.Proofs.YtepogbfkmflooaaDoor
