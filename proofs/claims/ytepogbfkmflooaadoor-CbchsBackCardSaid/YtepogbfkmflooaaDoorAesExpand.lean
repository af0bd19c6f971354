/-
  AES: the round words that the program makes of a key. No conditions.
-/
import Derived.Test.YtepogbfkmflooaaDoorAesLeaf
import Derived.Deep.OwnRows
namespace Go.Proofs.YtepogbfkmflooaaDoor
open Go.RowKit
set_option linter.unusedSimpArgs false
set_option linter.unusedVariables false
theorem Tryd.infoU32 : (Tryd.prog.info? 102).map (fun i => (i.zero, i.size, i.bytes)) = some (some (.int .u32 0), 1, 4) := by kernel_rfl
theorem upd_lt {α : Type} (v : α) (f z : Nat → α) (k : Nat) (hv : v = f k) (i : Nat) : (if i = k then v else if i < k then f i else z i) = if i < k + 1 then f i else z i := by
  by_cases e : i = k
  · subst e
    rw [if_pos rfl, if_pos (by omega), hv]
  · rw [if_neg e]
    by_cases h : i < k
    · rw [if_pos h, if_pos (by omega)]
    · rw [if_neg h, if_neg (by omega)]
theorem Aes.rc_step (k n : Nat) (hn : 1 ≤ n) (hk : n ≤ k) (h : k % n = 0) : Aes.xt (Aes.rc ((k - 1) / n)) = Aes.rc ((k + 1 - 1) / n) := by
  obtain ⟨q, rfl⟩ := Nat.dvd_of_mod_eq_zero h
  have hq : 1 ≤ q := by
    rcases Nat.eq_zero_or_pos q with e | e
    · subst e; omega
    · exact e
  have e1 : (n * q - 1) / n = q - 1 := by
    obtain ⟨q, rfl⟩ : ∃ p, q = p + 1 := ⟨q - 1, by omega⟩
    rw [Nat.mul_add, Nat.mul_one, show n * q + n - 1 = n * q + (n - 1) from by omega, Nat.mul_add_div (by omega), Nat.div_eq_of_lt (by omega)]
    simp
  rw [e1, Nat.add_sub_cancel, Nat.mul_div_cancel_left _ (by omega)]
  obtain ⟨q, rfl⟩ : ∃ p, q = p + 1 := ⟨q - 1, by omega⟩
  rfl
theorem Aes.div_pred (k n : Nat) (hn : 1 ≤ n) (hk : n ≤ k) (h : k % n = 0) : (k - 1) / n = k / n - 1 := by
  obtain ⟨q, rfl⟩ := Nat.dvd_of_mod_eq_zero h
  have hq : 1 ≤ q := by
    rcases Nat.eq_zero_or_pos q with e | e
    · subst e; omega
    · exact e
  obtain ⟨q, rfl⟩ : ∃ p, q = p + 1 := ⟨q - 1, by omega⟩
  rw [Nat.mul_div_cancel_left _ (by omega : 0 < n), Nat.mul_add, Nat.mul_one, show n * q + n - 1 = n * q + (n - 1) from by omega, Nat.mul_add_div (by omega), Nat.div_eq_of_lt (by omega)]
  rfl
theorem Aes.rc_same (k n : Nat) (hn : 1 ≤ n) (h : k < n ∨ k % n ≠ 0) : Aes.rc ((k - 1) / n) = Aes.rc ((k + 1 - 1) / n) := by
  congr 1
  rw [Nat.add_sub_cancel]
  rcases h with h | h
  · rw [Nat.div_eq_of_lt h, Nat.div_eq_of_lt (by omega)]
  · have hk : 1 ≤ k := by
      rcases Nat.eq_zero_or_pos k with e | e
      · subst e; simp at h
      · exact e
    obtain ⟨k, rfl⟩ : ∃ j, k = j + 1 := ⟨k - 1, by omega⟩
    rw [Nat.add_sub_cancel, Nat.succ_div, if_neg (fun hd => h (Nat.mod_eq_zero_of_dvd hd))]
    rfl
set_option maxRecDepth 100000 in
set_option maxHeartbeats 2000000 in
theorem expand_w (W : List (BitVec 32)) (g off n m : Nat) (s : ByteArray) (w : World) (hW : ∀ k, k < m → Aes.gw W k = Aes.nextW (byt s) n W k) (hm : m = 4 * (n + 7)) (hs : s.size = 4 * n) (h4 : 4 ≤ n) (h8 : n ≤ 8) (hbox : ∀ i, i < 256 → w.cell? ⟨g, off + i, none⟩ = some (U8 (Aes.sb i))) (hg : g < w.heap.size) :
    Calls Tryd.prog 61 #[.pointer (some ⟨g, off, none⟩), .string s] w fun e w' => e = .returned (.slice (some ⟨w.heap.size, 0, none⟩) m m) ∧
      Row w' w.heap.size 102 m (fun j => U32 (Aes.gw W j)) ∧ Below w.heap.size w w' := by
  have HW : Hid _ := hW
  have hdiv : (s.size : Int) / 4 = (n : Int) := by omega
  have hs1 : 4 * n ≤ s.size := by omega
  have hs2 : s.size ≤ 4 * n := by omega
  have hmk : ∀ w, (Instr.makeSlice 98 (.int .i64 (4 * ((n : Int) + 7))) (.int .i64 (4 * ((n : Int) + 7)))).run Tryd.prog w = .ok (.slice (some ⟨w.heap.size, 0, none⟩) (m) (m)) (w.alloc (.cells (madeCells #[.int .u32 0] (m)) 102)) := fun w => by
    have h := run_make_row' (P := Tryd.prog) 98 102 (.int .u32 0) 4 Tryd.underlying98 Tryd.infoU32 rfl .i64 .i64 (m) (by omega) (by omega) w
    have e : ((m : Nat) : Int) = 4 * ((n : Int) + 7) := by omega
    rwa [e] at h
  have hm1 : n < m := by omega
  have hm2 : m ≤ 60 := by omega
  clear hW hs hm
  go_enter Tryd.func61, Tryd.ntmps61
  go_wp2
  clear hmk hdiv
  go_loopg [7, 19] m (fun d r i wr => ∃ k : Nat, k ≤ m ∧ d = m - k ∧ i = .int .i64 k ∧ r = U8 (Aes.rc ((k - 1) / n)) ∧ Row wr w.heap.size 102 (m) (fun j => if j < k then U32 (Aes.gw W j) else U32 0#32) ∧ Below w.heap.size w wr)
  case atStart =>
    refine ⟨0, by omega, by omega, rfl, ?_, (Row.made w _ _ _).congr (fun i _ => by rw [if_neg (by omega)]; rfl), (Below.refl _ _).alloc (Nat.le_refl _) _⟩
    rw [show (0 - 1) / n = 0 from by simp]
    rfl
  case round =>
    obtain ⟨k, hk, rfl, rfl, rfl, hrow, hb⟩ := hrel
    by_cases hlt : k < m
    · have hkn := HW.out k hlt
      have hc := hrow.cell (i := k) hlt
      rw [if_neg (Nat.lt_irrefl k)] at hc
      have hz := hrow.frozen (i := k) hlt
      by_cases h1 : k < n
      · rw [Aes.nextW, if_pos h1] at hkn
        have hkn' : Hid _ := hkn
        clear hkn
        go_wp2
        refine wp_region_tail (fun w' => ∃ n, w' = wr.drewN n) 31 (by kernel_rfl) (by kernel_rfl) ⟨1, rfl⟩ ?_
        simp only [List.take_succ_cons, List.take_zero, List.drop_succ_cons, List.drop_zero]
        repeat (go_big_quiet_step (fail))
        refine wpQuiet_nil ?_
        intro w' hw'; obtain ⟨nq, rfl⟩ := hw'
        go_wp2
        go_roundg (m - (k + 1))
        case measure => omega
        case rel =>
          refine ⟨k + 1, by omega, rfl, by go_num, by rw [Aes.rc_same k n (by omega) (.inl h1)], ((hrow.drewN nq).set_ _ _).congr (fun i _ => upd_lt _ (fun j => U32 (Aes.gw W j)) (fun _ => U32 0#32) k ?_ i), (below_drewN hb _).setCell (Nat.le_refl _) _⟩
          rw [hkn'.out]
          rfl
      · rw [Aes.nextW, if_neg h1] at hkn
        have hc1 := hrow.cell (i := k - 1) (by omega)
        have hcn := hrow.cell (i := k - n) (by omega)
        rw [if_pos (by omega)] at hc1 hcn
        have hge : n ≤ k := by omega
        have hbw : ∀ i, i < 256 → wr.cell? ⟨g, off + i, none⟩ = some (U8 (Aes.sb i)) := fun i hi => (hb.cell (p := ⟨g, off + i, none⟩) hg).trans (hbox i hi)
        have HB : Hid _ := hbw
        clear hbw
        by_cases h2 : k % n = 0
        · have ht : (((k : Int) % (n : Int)) == 0) = true := by
            rw [beq_iff_eq, ← Int.natCast_emod, h2]; rfl
          rw [if_pos h2, ← Aes.div_pred k n (by omega) hge h2] at hkn
          have hkn' : Hid _ := hkn
          have H2 : Hid (k % n = 0) := h2
          clear hkn h2
          go_wp2_with (first | (go_at_call 69; refine (subWord_c g off Aes.sb _ _ HB.out).mono ?_; rintro e w' ⟨rfl, nq, rfl⟩) | (go_at_call 80; refine (double_c _ _).mono ?_; rintro e w' ⟨rfl, rfl⟩))
          go_roundg (m - (k + 1))
          case measure => omega
          case rel =>
            refine ⟨k + 1, by omega, rfl, by go_num, by rw [Aes.rc_step k n (by omega) hge H2.out], ((hrow.drewN _).set_ _ _).congr (fun i _ => upd_lt _ (fun j => U32 (Aes.gw W j)) (fun _ => U32 0#32) k ?_ i), (below_drewN hb _).setCell (Nat.le_refl _) _⟩
            rw [hkn'.out]
        · have ht : (((k : Int) % (n : Int)) == 0) = false := by
            rw [beq_eq_false_iff_ne, ← Int.natCast_emod]; omega
          rw [if_neg h2] at hkn
          have H2 : Hid (¬ k % n = 0) := h2
          clear h2
          by_cases h3 : n = 8 ∧ k % 8 = 4
          · have ht1 : ((n : Int) == 8) = true := by rw [beq_iff_eq]; omega
            have ht2 : ((k : Int) % 8 == 4) = true := by rw [beq_iff_eq]; omega
            rw [if_pos h3] at hkn
            have hkn' : Hid _ := hkn
            clear hkn h3
            go_wp2_with (go_at_call 69; refine (subWord_c g off Aes.sb _ _ HB.out).mono ?_; rintro e w' ⟨rfl, nq, rfl⟩)
            go_roundg (m - (k + 1))
            case measure => omega
            case rel =>
              refine ⟨k + 1, by omega, rfl, by go_num, by rw [Aes.rc_same k n (by omega) (.inr H2.out)], ((hrow.drewN _).set_ _ _).congr (fun i _ => upd_lt _ (fun j => U32 (Aes.gw W j)) (fun _ => U32 0#32) k ?_ i), (below_drewN hb _).setCell (Nat.le_refl _) _⟩
              rw [hkn'.out]
          · rw [if_neg h3] at hkn
            have hkn' : Hid _ := hkn
            clear hkn
            by_cases h8' : n = 8
            · have ht1 : ((n : Int) == 8) = true := by rw [beq_iff_eq]; omega
              have ht2 : ((k : Int) % 8 == 4) = false := by rw [beq_eq_false_iff_ne]; omega
              clear h3 h8'
              go_wp2
              go_roundg (m - (k + 1))
              case measure => omega
              case rel =>
                refine ⟨k + 1, by omega, rfl, by go_num, by rw [Aes.rc_same k n (by omega) (.inr H2.out)], (hrow.set_ _ _).congr (fun i _ => upd_lt _ (fun j => U32 (Aes.gw W j)) (fun _ => U32 0#32) k ?_ i), (hb).setCell (Nat.le_refl _) _⟩
                rw [hkn'.out]
            · have ht1 : ((n : Int) == 8) = false := by rw [beq_eq_false_iff_ne]; omega
              clear h3 h8'
              go_wp2
              go_roundg (m - (k + 1))
              case measure => omega
              case rel =>
                refine ⟨k + 1, by omega, rfl, by go_num, by rw [Aes.rc_same k n (by omega) (.inr H2.out)], (hrow.set_ _ _).congr (fun i _ => upd_lt _ (fun j => U32 (Aes.gw W j)) (fun _ => U32 0#32) k ?_ i), (hb).setCell (Nat.le_refl _) _⟩
                rw [hkn'.out]
    · obtain rfl : k = m := by omega
      go_wp2
      go_ret
      exact ⟨rfl, hrow.congr (fun i hi => by rw [if_pos hi]), hb⟩
theorem expand_c (g off n : Nat) (s : ByteArray) (w : World) (hs : s.size = 4 * n) (h4 : 4 ≤ n) (h8 : n ≤ 8) (hbox : ∀ i, i < 256 → w.cell? ⟨g, off + i, none⟩ = some (U8 (Aes.sb i))) (hg : g < w.heap.size) :
    Calls Tryd.prog 61 #[.pointer (some ⟨g, off, none⟩), .string s] w fun e w' => e = .returned (.slice (some ⟨w.heap.size, 0, none⟩) (Aes.words (byt s)).length (Aes.words (byt s)).length) ∧
      Row w' w.heap.size 102 (Aes.words (byt s)).length (fun j => U32 (Aes.gw (Aes.words (byt s)) j)) ∧ Below w.heap.size w w' := by
  have e : (byt s).length / 4 = n := by rw [length_byt]; omega
  have hl : (Aes.words (byt s)).length = 4 * (n + 7) := by rw [Aes.length_words, e]
  refine expand_w (Aes.words (byt s)) g off n _ s w ?_ hl hs h4 h8 hbox hg
  rw [hl]
  intro k hk
  unfold Aes.words
  rw [e]
  exact Aes.gw_next _ _ _ _ (by omega) hk
end Go.Proofs.YtepogbfkmflooaaDoor
