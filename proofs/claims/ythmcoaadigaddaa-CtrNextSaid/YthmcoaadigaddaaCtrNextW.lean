/-
  The law CtrNext answers true. No conditions.
-/
import Derived.Test.YthmcoaadigaddaaRows
import Derived.Test.YthmcoaadigaddaaCtrWakes
import Derived.ProofKit
namespace Go.Proofs.Ythmcoaadigaddaa
open Go.RowKit
set_option linter.unusedSimpArgs false
set_option linter.unusedVariables false
namespace CtrNextWT
theorem mixed : Try.prog.follows .mixedOrders = true := by kernel_rfl
theorem fa34_0 (g off : Nat) : ∀ w, (Instr.fieldAt 34 (.pointer (some ⟨g, off, none⟩)) 0).run Try.prog w = .ok (.pointer (some ⟨g, off + 0, none⟩)) w := fun w => by kernel_rfl
theorem fa34_1 (g off : Nat) : ∀ w, (Instr.fieldAt 34 (.pointer (some ⟨g, off, none⟩)) 1).run Try.prog w = .ok (.pointer (some ⟨g, off + 1, none⟩)) w := fun w => by kernel_rfl
theorem sc3 : (Try.prog.underlying 3).map scal = some true := by rw [Try.underlying3]; rfl
theorem sc9 : (Try.prog.underlying 9).map scal = some true := by rw [Try.underlying9]; rfl
end CtrNextWT
set_option maxRecDepth 100000 in
set_option maxHeartbeats 1000000 in
theorem ctrNext_i (s : List (BitVec 8)) (d : Int) (hs : s.length ≠ 16) (n m : BitVec 64) (w0 : World) : Calls Try.prog 7 #[.agg (arr 2 (fun j => if j < 1 then .string (str s) else .int .i64 d)), U64 n, U64 m] w0 fun e w' => e = .returned (.bool true) ∧ Below w0.heap.size w0 w' := by
  refine enter (n := 83) Try.func7 rfl rfl rfl ?_
  have hk : Below w0.heap.size w0 w0 := Below.refl _ _
  refine wp_seq ?_
  refine wp_region_lit ?_
  refine w_box (m := 2) (F := fun j => if j < 1 then .string (str s) else .int .i64 d) (Ev.t (v := .agg (arr 2 (fun j => if j < 1 then .string (str s) else .int .i64 d))) rfl rfl) rfl ?_
  intro b_c w1 hbe_b_c r_b_c hb2
  have ge_b_c : w0.heap.size ≤ b_c := by have := hk.size; omega
  clear hbe_b_c
  replace hk := thenB hk hb2
  refine w_val (v := .bool false) (y_as (Ev.c (v := .bool false))) ?_
  refine wpList_nil ?_
  refine then_n ?_
  refine wp_seq ?_
  refine wp_seq ?_
  refine wp_region_lit ?_
  refine w_call (Try.func18) (by kernel_rfl) rfl m0 (ctrWakes_c  w1) ?_
  rintro _ w3 ⟨rfl, hb4⟩
  refine ⟨_, rfl, ?_⟩
  replace r_b_c := r_b_c.step hb4
  replace hk := thenB hk hb4
  refine w_val (v := .bool false) (y_not (Ev.t (v := .bool true) rfl rfl)) ?_
  refine wpList_nil ?_
  refine then_n ?_
  refine c_ff (Ev.t (v := .bool false) rfl rfl) ?_
  refine wp_skip ?_
  refine then_n ?_
  refine wp_seq ?_
  refine wp_region_lit ?_
  refine w_val (v := .pointer (some ⟨b_c, 0, none⟩)) (y_off (y_fa (Ev.t (v := .pointer (some ⟨b_c, 0, none⟩)) rfl rfl) (CtrNextWT.fa34_0 _ _)) (by first | rfl | omega)) ?_
  refine w_val (v := .string (str s)) (y_ld (Ev.t (v := .pointer (some ⟨b_c, 0, none⟩)) rfl rfl) CtrNextWT.sc9 (r_b_c.val (v := .string (str s)) (by omega) ((if_pos (by omega)).trans (by first | with_reducible rfl | (with_reducible congr 1 <;> omega) | (with_reducible congr 2 <;> omega) | (with_reducible congr 3 <;> omega) | rfl)))) ?_
  refine w_val (v := .pointer (some ⟨b_c, 1, none⟩)) (y_off (y_fa (Ev.t (v := .pointer (some ⟨b_c, 0, none⟩)) rfl rfl) (CtrNextWT.fa34_1 _ _)) (by first | rfl | omega)) ?_
  refine w_val (v := .int .i64 d) (y_ld (Ev.t (v := .pointer (some ⟨b_c, 1, none⟩)) rfl rfl) CtrNextWT.sc3 (r_b_c.val (v := .int .i64 d) (by omega) ((if_neg (by omega)).trans (by first | with_reducible rfl | (with_reducible congr 1 <;> omega) | (with_reducible congr 2 <;> omega) | (with_reducible congr 3 <;> omega) | rfl)))) ?_
  refine w_val (v := U64 n) (y_mv (Ev.t (v := U64 n) rfl rfl)) ?_
  refine w_call (Try.func19) (by kernel_rfl) rfl (m3 (Ev.t (v := .string (str s)) rfl rfl) (Ev.t (v := .int .i64 d) rfl rfl) (Ev.t (v := U64 n) rfl rfl)) (next_i s d hs n w3) ?_
  rintro _ w5 ⟨rfl, hb6⟩
  refine ⟨_, rfl, ?_⟩
  replace r_b_c := r_b_c.step hb6
  replace hk := thenB hk hb6
  refine w_val (v := .tuple #[.string (str ([] : List (BitVec 8))), .int .i64 4]) (y_mv (Ev.t (v := .tuple #[.string (str ([] : List (BitVec 8))), .int .i64 4]) rfl rfl)) ?_
  refine w_val (v := .string (str ([] : List (BitVec 8)))) (y_ext (v := .string (str ([] : List (BitVec 8)))) (Ev.t (v := .tuple #[.string (str ([] : List (BitVec 8))), .int .i64 4]) rfl rfl) rfl) ?_
  refine w_val (v := .int .i64 4) (y_ext (v := .int .i64 4) (Ev.t (v := .tuple #[.string (str ([] : List (BitVec 8))), .int .i64 4]) rfl rfl) rfl) ?_
  refine w_val (v := .string (str ([] : List (BitVec 8)))) (y_as (Ev.t (v := .string (str ([] : List (BitVec 8)))) rfl rfl)) ?_
  refine w_val (v := .int .i64 4) (y_as (Ev.t (v := .int .i64 4) rfl rfl)) ?_
  refine wpList_nil ?_
  refine then_n ?_
  refine wp_seq ?_
  refine wp_region_lit ?_
  refine w_val (v := .pointer (some ⟨b_c, 0, none⟩)) (y_off (y_fa (Ev.t (v := .pointer (some ⟨b_c, 0, none⟩)) rfl rfl) (CtrNextWT.fa34_0 _ _)) (by first | rfl | omega)) ?_
  refine w_val (v := .string (str s)) (y_ld (Ev.t (v := .pointer (some ⟨b_c, 0, none⟩)) rfl rfl) CtrNextWT.sc9 (r_b_c.val (v := .string (str s)) (by omega) ((if_pos (by omega)).trans (by first | with_reducible rfl | (with_reducible congr 1 <;> omega) | (with_reducible congr 2 <;> omega) | (with_reducible congr 3 <;> omega) | rfl)))) ?_
  refine w_val (v := .pointer (some ⟨b_c, 1, none⟩)) (y_off (y_fa (Ev.t (v := .pointer (some ⟨b_c, 0, none⟩)) rfl rfl) (CtrNextWT.fa34_1 _ _)) (by first | rfl | omega)) ?_
  refine w_val (v := .int .i64 d) (y_ld (Ev.t (v := .pointer (some ⟨b_c, 1, none⟩)) rfl rfl) CtrNextWT.sc3 (r_b_c.val (v := .int .i64 d) (by omega) ((if_neg (by omega)).trans (by first | with_reducible rfl | (with_reducible congr 1 <;> omega) | (with_reducible congr 2 <;> omega) | (with_reducible congr 3 <;> omega) | rfl)))) ?_
  refine w_val (v := U64 n) (y_mv (Ev.t (v := U64 n) rfl rfl)) ?_
  refine w_call (Try.func20) (by kernel_rfl) rfl (m3 (Ev.t (v := .string (str s)) rfl rfl) (Ev.t (v := .int .i64 d) rfl rfl) (Ev.t (v := U64 n) rfl rfl)) (refNext_i s d hs n w5) ?_
  rintro _ w7 ⟨rfl, hb8⟩
  refine ⟨_, rfl, ?_⟩
  replace r_b_c := r_b_c.step hb8
  replace hk := thenB hk hb8
  refine w_val (v := .tuple #[.string (str ([] : List (BitVec 8))), .int .i64 4]) (y_mv (Ev.t (v := .tuple #[.string (str ([] : List (BitVec 8))), .int .i64 4]) rfl rfl)) ?_
  refine w_val (v := .string (str ([] : List (BitVec 8)))) (y_ext (v := .string (str ([] : List (BitVec 8)))) (Ev.t (v := .tuple #[.string (str ([] : List (BitVec 8))), .int .i64 4]) rfl rfl) rfl) ?_
  refine w_val (v := .int .i64 4) (y_ext (v := .int .i64 4) (Ev.t (v := .tuple #[.string (str ([] : List (BitVec 8))), .int .i64 4]) rfl rfl) rfl) ?_
  refine w_val (v := .string (str ([] : List (BitVec 8)))) (y_as (Ev.t (v := .string (str ([] : List (BitVec 8)))) rfl rfl)) ?_
  refine w_val (v := .int .i64 4) (y_as (Ev.t (v := .int .i64 4) rfl rfl)) ?_
  refine wpList_nil ?_
  refine then_n ?_
  refine wp_seq ?_
  refine wp_seq ?_
  refine wp_region_lit ?_
  refine w_val (v := .string (str ([] : List (BitVec 8)))) (y_mv (Ev.t (v := .string (str ([] : List (BitVec 8)))) rfl rfl)) ?_
  refine w_val (v := .string (str ([] : List (BitVec 8)))) (y_mv (Ev.t (v := .string (str ([] : List (BitVec 8)))) rfl rfl)) ?_
  refine w_val (v := .bool false) (y_bin (Ev.t (v := .string (str ([] : List (BitVec 8)))) rfl rfl) (Ev.t (v := .string (str ([] : List (BitVec 8)))) rfl rfl) b_nes_same) ?_
  refine w_val (v := .bool false) (y_mv (Ev.t (v := .bool false) rfl rfl)) ?_
  refine w_val_g (v := .int .i64 4) (want_yes (j := 3) rfl rfl (Ev.t (v := .bool false) rfl rfl) rfl) (y_mv (Ev.t (v := .int .i64 4) rfl rfl)) ?_
  refine w_val_g (v := .int .i64 4) (want_yes (j := 3) rfl rfl (Ev.t (v := .bool false) rfl rfl) rfl) (y_mv (Ev.t (v := .int .i64 4) rfl rfl)) ?_
  refine w_val_g (v := .bool false) (want_yes (j := 3) rfl rfl (Ev.t (v := .bool false) rfl rfl) rfl) (y_bin (Ev.t (v := .int .i64 4) rfl rfl) (Ev.t (v := .int .i64 4) rfl rfl) b_neq) ?_
  refine w_val (v := .bool false) (y_pick_f (Ev.t (v := .bool false) rfl rfl) (Ev.t (v := .bool false) rfl rfl)) ?_
  refine wpList_nil ?_
  refine then_n ?_
  refine c_ff (Ev.t (v := .bool false) rfl rfl) ?_
  refine wp_skip ?_
  refine then_n ?_
  refine wp_seq ?_
  refine wp_seq ?_
  refine wp_region_lit ?_
  refine w_val (v := .int .i64 4) (y_mv (Ev.t (v := .int .i64 4) rfl rfl)) ?_
  refine w_val (v := .bool true) (y_bin (Ev.t (v := .int .i64 4) rfl rfl) (Ev.c (v := .int .i64 0)) b_neq) ?_
  refine w_val (v := .bool true) (y_mv (Ev.t (v := .bool true) rfl rfl)) ?_
  first | with_reducible refine w_skip ?_ ?_ | refine w_skip ?_ ?_
  · exact want_no (j := 2) rfl rfl (Ev.t (v := .bool true) rfl rfl) rfl
  first | with_reducible refine w_skip ?_ ?_ | refine w_skip ?_ ?_
  · exact want_no (j := 2) rfl rfl (Ev.t (v := .bool true) rfl rfl) rfl
  refine w_val (v := .bool true) (y_pick_t (Ev.t (v := .bool true) rfl rfl) (Ev.c (v := .bool true))) ?_
  refine w_val (v := .bool true) (y_mv (Ev.t (v := .bool true) rfl rfl)) ?_
  first | with_reducible refine w_skip ?_ ?_ | refine w_skip ?_ ?_
  · exact want_no (j := 6) rfl rfl (Ev.t (v := .bool true) rfl rfl) rfl
  first | with_reducible refine w_skip ?_ ?_ | refine w_skip ?_ ?_
  · exact want_no (j := 6) rfl rfl (Ev.t (v := .bool true) rfl rfl) rfl
  refine w_val (v := .bool true) (y_pick_t (Ev.t (v := .bool true) rfl rfl) (Ev.c (v := .bool true))) ?_
  refine wpList_nil ?_
  refine then_n ?_
  refine c_tt (Ev.t (v := .bool true) rfl rfl) ?_
  refine wp_seq ?_
  refine wp_region_lit ?_
  refine w_val (v := .bool true) (y_as (Ev.c (v := .bool true))) ?_
  refine wpList_nil ?_
  refine then_n ?_
  refine wp_ret ?_
  refine then_r ?_
  refine fin_ret1 rfl (Ev.t (v := .bool true) rfl rfl) ?_
  exact ⟨rfl, hk⟩

set_option maxRecDepth 100000 in
set_option maxHeartbeats 1000000 in
theorem ctrNext_d (s : List (BitVec 8)) (d : Int) (hs : s.length = 16) (hd : ¬ (1 ≤ d ∧ d ≤ 16)) (n m : BitVec 64) (w0 : World) : Calls Try.prog 7 #[.agg (arr 2 (fun j => if j < 1 then .string (str s) else .int .i64 d)), U64 n, U64 m] w0 fun e w' => e = .returned (.bool true) ∧ Below w0.heap.size w0 w' := by
  refine enter (n := 83) Try.func7 rfl rfl rfl ?_
  have hk : Below w0.heap.size w0 w0 := Below.refl _ _
  refine wp_seq ?_
  refine wp_region_lit ?_
  refine w_box (m := 2) (F := fun j => if j < 1 then .string (str s) else .int .i64 d) (Ev.t (v := .agg (arr 2 (fun j => if j < 1 then .string (str s) else .int .i64 d))) rfl rfl) rfl ?_
  intro b_c w1 hbe_b_c r_b_c hb2
  have ge_b_c : w0.heap.size ≤ b_c := by have := hk.size; omega
  clear hbe_b_c
  replace hk := thenB hk hb2
  refine w_val (v := .bool false) (y_as (Ev.c (v := .bool false))) ?_
  refine wpList_nil ?_
  refine then_n ?_
  refine wp_seq ?_
  refine wp_seq ?_
  refine wp_region_lit ?_
  refine w_call (Try.func18) (by kernel_rfl) rfl m0 (ctrWakes_c  w1) ?_
  rintro _ w3 ⟨rfl, hb4⟩
  refine ⟨_, rfl, ?_⟩
  replace r_b_c := r_b_c.step hb4
  replace hk := thenB hk hb4
  refine w_val (v := .bool false) (y_not (Ev.t (v := .bool true) rfl rfl)) ?_
  refine wpList_nil ?_
  refine then_n ?_
  refine c_ff (Ev.t (v := .bool false) rfl rfl) ?_
  refine wp_skip ?_
  refine then_n ?_
  refine wp_seq ?_
  refine wp_region_lit ?_
  refine w_val (v := .pointer (some ⟨b_c, 0, none⟩)) (y_off (y_fa (Ev.t (v := .pointer (some ⟨b_c, 0, none⟩)) rfl rfl) (CtrNextWT.fa34_0 _ _)) (by first | rfl | omega)) ?_
  refine w_val (v := .string (str s)) (y_ld (Ev.t (v := .pointer (some ⟨b_c, 0, none⟩)) rfl rfl) CtrNextWT.sc9 (r_b_c.val (v := .string (str s)) (by omega) ((if_pos (by omega)).trans (by first | with_reducible rfl | (with_reducible congr 1 <;> omega) | (with_reducible congr 2 <;> omega) | (with_reducible congr 3 <;> omega) | rfl)))) ?_
  refine w_val (v := .pointer (some ⟨b_c, 1, none⟩)) (y_off (y_fa (Ev.t (v := .pointer (some ⟨b_c, 0, none⟩)) rfl rfl) (CtrNextWT.fa34_1 _ _)) (by first | rfl | omega)) ?_
  refine w_val (v := .int .i64 d) (y_ld (Ev.t (v := .pointer (some ⟨b_c, 1, none⟩)) rfl rfl) CtrNextWT.sc3 (r_b_c.val (v := .int .i64 d) (by omega) ((if_neg (by omega)).trans (by first | with_reducible rfl | (with_reducible congr 1 <;> omega) | (with_reducible congr 2 <;> omega) | (with_reducible congr 3 <;> omega) | rfl)))) ?_
  refine w_val (v := U64 n) (y_mv (Ev.t (v := U64 n) rfl rfl)) ?_
  refine w_call (Try.func19) (by kernel_rfl) rfl (m3 (Ev.t (v := .string (str s)) rfl rfl) (Ev.t (v := .int .i64 d) rfl rfl) (Ev.t (v := U64 n) rfl rfl)) (next_d s d hs hd n w3) ?_
  rintro _ w5 ⟨rfl, hb6⟩
  refine ⟨_, rfl, ?_⟩
  replace r_b_c := r_b_c.step hb6
  replace hk := thenB hk hb6
  refine w_val (v := .tuple #[.string (str ([] : List (BitVec 8))), .int .i64 2]) (y_mv (Ev.t (v := .tuple #[.string (str ([] : List (BitVec 8))), .int .i64 2]) rfl rfl)) ?_
  refine w_val (v := .string (str ([] : List (BitVec 8)))) (y_ext (v := .string (str ([] : List (BitVec 8)))) (Ev.t (v := .tuple #[.string (str ([] : List (BitVec 8))), .int .i64 2]) rfl rfl) rfl) ?_
  refine w_val (v := .int .i64 2) (y_ext (v := .int .i64 2) (Ev.t (v := .tuple #[.string (str ([] : List (BitVec 8))), .int .i64 2]) rfl rfl) rfl) ?_
  refine w_val (v := .string (str ([] : List (BitVec 8)))) (y_as (Ev.t (v := .string (str ([] : List (BitVec 8)))) rfl rfl)) ?_
  refine w_val (v := .int .i64 2) (y_as (Ev.t (v := .int .i64 2) rfl rfl)) ?_
  refine wpList_nil ?_
  refine then_n ?_
  refine wp_seq ?_
  refine wp_region_lit ?_
  refine w_val (v := .pointer (some ⟨b_c, 0, none⟩)) (y_off (y_fa (Ev.t (v := .pointer (some ⟨b_c, 0, none⟩)) rfl rfl) (CtrNextWT.fa34_0 _ _)) (by first | rfl | omega)) ?_
  refine w_val (v := .string (str s)) (y_ld (Ev.t (v := .pointer (some ⟨b_c, 0, none⟩)) rfl rfl) CtrNextWT.sc9 (r_b_c.val (v := .string (str s)) (by omega) ((if_pos (by omega)).trans (by first | with_reducible rfl | (with_reducible congr 1 <;> omega) | (with_reducible congr 2 <;> omega) | (with_reducible congr 3 <;> omega) | rfl)))) ?_
  refine w_val (v := .pointer (some ⟨b_c, 1, none⟩)) (y_off (y_fa (Ev.t (v := .pointer (some ⟨b_c, 0, none⟩)) rfl rfl) (CtrNextWT.fa34_1 _ _)) (by first | rfl | omega)) ?_
  refine w_val (v := .int .i64 d) (y_ld (Ev.t (v := .pointer (some ⟨b_c, 1, none⟩)) rfl rfl) CtrNextWT.sc3 (r_b_c.val (v := .int .i64 d) (by omega) ((if_neg (by omega)).trans (by first | with_reducible rfl | (with_reducible congr 1 <;> omega) | (with_reducible congr 2 <;> omega) | (with_reducible congr 3 <;> omega) | rfl)))) ?_
  refine w_val (v := U64 n) (y_mv (Ev.t (v := U64 n) rfl rfl)) ?_
  refine w_call (Try.func20) (by kernel_rfl) rfl (m3 (Ev.t (v := .string (str s)) rfl rfl) (Ev.t (v := .int .i64 d) rfl rfl) (Ev.t (v := U64 n) rfl rfl)) (refNext_d s d hs hd n w5) ?_
  rintro _ w7 ⟨rfl, hb8⟩
  refine ⟨_, rfl, ?_⟩
  replace r_b_c := r_b_c.step hb8
  replace hk := thenB hk hb8
  refine w_val (v := .tuple #[.string (str ([] : List (BitVec 8))), .int .i64 2]) (y_mv (Ev.t (v := .tuple #[.string (str ([] : List (BitVec 8))), .int .i64 2]) rfl rfl)) ?_
  refine w_val (v := .string (str ([] : List (BitVec 8)))) (y_ext (v := .string (str ([] : List (BitVec 8)))) (Ev.t (v := .tuple #[.string (str ([] : List (BitVec 8))), .int .i64 2]) rfl rfl) rfl) ?_
  refine w_val (v := .int .i64 2) (y_ext (v := .int .i64 2) (Ev.t (v := .tuple #[.string (str ([] : List (BitVec 8))), .int .i64 2]) rfl rfl) rfl) ?_
  refine w_val (v := .string (str ([] : List (BitVec 8)))) (y_as (Ev.t (v := .string (str ([] : List (BitVec 8)))) rfl rfl)) ?_
  refine w_val (v := .int .i64 2) (y_as (Ev.t (v := .int .i64 2) rfl rfl)) ?_
  refine wpList_nil ?_
  refine then_n ?_
  refine wp_seq ?_
  refine wp_seq ?_
  refine wp_region_lit ?_
  refine w_val (v := .string (str ([] : List (BitVec 8)))) (y_mv (Ev.t (v := .string (str ([] : List (BitVec 8)))) rfl rfl)) ?_
  refine w_val (v := .string (str ([] : List (BitVec 8)))) (y_mv (Ev.t (v := .string (str ([] : List (BitVec 8)))) rfl rfl)) ?_
  refine w_val (v := .bool false) (y_bin (Ev.t (v := .string (str ([] : List (BitVec 8)))) rfl rfl) (Ev.t (v := .string (str ([] : List (BitVec 8)))) rfl rfl) b_nes_same) ?_
  refine w_val (v := .bool false) (y_mv (Ev.t (v := .bool false) rfl rfl)) ?_
  refine w_val_g (v := .int .i64 2) (want_yes (j := 3) rfl rfl (Ev.t (v := .bool false) rfl rfl) rfl) (y_mv (Ev.t (v := .int .i64 2) rfl rfl)) ?_
  refine w_val_g (v := .int .i64 2) (want_yes (j := 3) rfl rfl (Ev.t (v := .bool false) rfl rfl) rfl) (y_mv (Ev.t (v := .int .i64 2) rfl rfl)) ?_
  refine w_val_g (v := .bool false) (want_yes (j := 3) rfl rfl (Ev.t (v := .bool false) rfl rfl) rfl) (y_bin (Ev.t (v := .int .i64 2) rfl rfl) (Ev.t (v := .int .i64 2) rfl rfl) b_neq) ?_
  refine w_val (v := .bool false) (y_pick_f (Ev.t (v := .bool false) rfl rfl) (Ev.t (v := .bool false) rfl rfl)) ?_
  refine wpList_nil ?_
  refine then_n ?_
  refine c_ff (Ev.t (v := .bool false) rfl rfl) ?_
  refine wp_skip ?_
  refine then_n ?_
  refine wp_seq ?_
  refine wp_seq ?_
  refine wp_region_lit ?_
  refine w_val (v := .int .i64 2) (y_mv (Ev.t (v := .int .i64 2) rfl rfl)) ?_
  refine w_val (v := .bool true) (y_bin (Ev.t (v := .int .i64 2) rfl rfl) (Ev.c (v := .int .i64 0)) b_neq) ?_
  refine w_val (v := .bool true) (y_mv (Ev.t (v := .bool true) rfl rfl)) ?_
  first | with_reducible refine w_skip ?_ ?_ | refine w_skip ?_ ?_
  · exact want_no (j := 2) rfl rfl (Ev.t (v := .bool true) rfl rfl) rfl
  first | with_reducible refine w_skip ?_ ?_ | refine w_skip ?_ ?_
  · exact want_no (j := 2) rfl rfl (Ev.t (v := .bool true) rfl rfl) rfl
  refine w_val (v := .bool true) (y_pick_t (Ev.t (v := .bool true) rfl rfl) (Ev.c (v := .bool true))) ?_
  refine w_val (v := .bool true) (y_mv (Ev.t (v := .bool true) rfl rfl)) ?_
  first | with_reducible refine w_skip ?_ ?_ | refine w_skip ?_ ?_
  · exact want_no (j := 6) rfl rfl (Ev.t (v := .bool true) rfl rfl) rfl
  first | with_reducible refine w_skip ?_ ?_ | refine w_skip ?_ ?_
  · exact want_no (j := 6) rfl rfl (Ev.t (v := .bool true) rfl rfl) rfl
  refine w_val (v := .bool true) (y_pick_t (Ev.t (v := .bool true) rfl rfl) (Ev.c (v := .bool true))) ?_
  refine wpList_nil ?_
  refine then_n ?_
  refine c_tt (Ev.t (v := .bool true) rfl rfl) ?_
  refine wp_seq ?_
  refine wp_region_lit ?_
  refine w_val (v := .bool true) (y_as (Ev.c (v := .bool true))) ?_
  refine wpList_nil ?_
  refine then_n ?_
  refine wp_ret ?_
  refine then_r ?_
  refine fin_ret1 rfl (Ev.t (v := .bool true) rfl rfl) ?_
  exact ⟨rfl, hk⟩

theorem nextSum (s : List (BitVec 8)) (d : Nat) (hs : s.length = 16) (h1 : 1 ≤ d) (h16 : d ≤ 16) (n m : Nat) (h : n + m < 18446744073709551616) (w0 : World) : Calls Try.prog 19 #[.string (str s), .int .i64 ((d : Nat) : Int), U64 (BitVec.ofNat 64 n + BitVec.ofNat 64 m)] w0 fun e w' => e = .returned (.tuple #[.string (str (Ct.nx s d (n + m))), .int .i64 0]) ∧ Below w0.heap.size w0 w' := by
  rw [← BitVec.ofNat_add]
  exact next_y s d hs h1 h16 (n + m) h w0

set_option maxRecDepth 100000 in
set_option maxHeartbeats 1000000 in
theorem ctrNext_y (s : List (BitVec 8)) (d : Nat) (hs : s.length = 16) (h1 : 1 ≤ d) (h16 : d ≤ 16) (n m : Nat) (hn : n < 18446744073709551616) (hm : m < 18446744073709551616) (w0 : World) : Calls Try.prog 7 #[.agg (arr 2 (fun j => if j < 1 then .string (str s) else .int .i64 ((d : Nat) : Int))), U64 (BitVec.ofNat 64 n), U64 (BitVec.ofNat 64 m)] w0 fun e w' => e = .returned (.bool true) ∧ Below w0.heap.size w0 w' := by
  have htn : (BitVec.ofNat 64 n).toNat = n := by rw [BitVec.toNat_ofNat]; omega
  have htm : (BitVec.ofNat 64 m).toNat = m := by rw [BitVec.toNat_ofNat]; omega
  have ht62 : (4611686018427387904#64).toNat = 4611686018427387904 := rfl
  refine enter (n := 83) Try.func7 rfl rfl rfl ?_
  have hk : Below w0.heap.size w0 w0 := Below.refl _ _
  refine wp_seq ?_
  refine wp_region_lit ?_
  refine w_box (m := 2) (F := fun j => if j < 1 then .string (str s) else .int .i64 ((d : Nat) : Int)) (Ev.t (v := .agg (arr 2 (fun j => if j < 1 then .string (str s) else .int .i64 ((d : Nat) : Int)))) rfl rfl) rfl ?_
  intro b_c w1 hbe_b_c r_b_c hb2
  have ge_b_c : w0.heap.size ≤ b_c := by have := hk.size; omega
  clear hbe_b_c
  replace hk := thenB hk hb2
  refine w_val (v := .bool false) (y_as (Ev.c (v := .bool false))) ?_
  refine wpList_nil ?_
  refine then_n ?_
  refine wp_seq ?_
  refine wp_seq ?_
  refine wp_region_lit ?_
  refine w_call (Try.func18) (by kernel_rfl) rfl m0 (ctrWakes_c  w1) ?_
  rintro _ w3 ⟨rfl, hb4⟩
  refine ⟨_, rfl, ?_⟩
  replace r_b_c := r_b_c.step hb4
  replace hk := thenB hk hb4
  refine w_val (v := .bool false) (y_not (Ev.t (v := .bool true) rfl rfl)) ?_
  refine wpList_nil ?_
  refine then_n ?_
  refine c_ff (Ev.t (v := .bool false) rfl rfl) ?_
  refine wp_skip ?_
  refine then_n ?_
  refine wp_seq ?_
  refine wp_region_lit ?_
  refine w_val (v := .pointer (some ⟨b_c, 0, none⟩)) (y_off (y_fa (Ev.t (v := .pointer (some ⟨b_c, 0, none⟩)) rfl rfl) (CtrNextWT.fa34_0 _ _)) (by first | rfl | omega)) ?_
  refine w_val (v := .string (str s)) (y_ld (Ev.t (v := .pointer (some ⟨b_c, 0, none⟩)) rfl rfl) CtrNextWT.sc9 (r_b_c.val (v := .string (str s)) (by omega) ((if_pos (by omega)).trans (by first | with_reducible rfl | (with_reducible congr 1 <;> omega) | (with_reducible congr 2 <;> omega) | (with_reducible congr 3 <;> omega) | rfl)))) ?_
  refine w_val (v := .pointer (some ⟨b_c, 1, none⟩)) (y_off (y_fa (Ev.t (v := .pointer (some ⟨b_c, 0, none⟩)) rfl rfl) (CtrNextWT.fa34_1 _ _)) (by first | rfl | omega)) ?_
  refine w_val (v := .int .i64 ((d : Nat) : Int)) (y_ld (Ev.t (v := .pointer (some ⟨b_c, 1, none⟩)) rfl rfl) CtrNextWT.sc3 (r_b_c.val (v := .int .i64 ((d : Nat) : Int)) (by omega) ((if_neg (by omega)).trans (by first | with_reducible rfl | (with_reducible congr 1 <;> omega) | (with_reducible congr 2 <;> omega) | (with_reducible congr 3 <;> omega) | rfl)))) ?_
  refine w_val (v := U64 (BitVec.ofNat 64 n)) (y_mv (Ev.t (v := U64 (BitVec.ofNat 64 n)) rfl rfl)) ?_
  refine w_call (Try.func19) (by kernel_rfl) rfl (m3 (Ev.t (v := .string (str s)) rfl rfl) (Ev.t (v := .int .i64 ((d : Nat) : Int)) rfl rfl) (Ev.t (v := U64 (BitVec.ofNat 64 n)) rfl rfl)) (next_y s d hs h1 h16 n hn w3) ?_
  rintro _ w5 ⟨rfl, hb6⟩
  refine ⟨_, rfl, ?_⟩
  replace r_b_c := r_b_c.step hb6
  replace hk := thenB hk hb6
  refine w_val (v := .tuple #[.string (str (Ct.nx s d n)), .int .i64 0]) (y_mv (Ev.t (v := .tuple #[.string (str (Ct.nx s d n)), .int .i64 0]) rfl rfl)) ?_
  refine w_val (v := .string (str (Ct.nx s d n))) (y_ext (v := .string (str (Ct.nx s d n))) (Ev.t (v := .tuple #[.string (str (Ct.nx s d n)), .int .i64 0]) rfl rfl) rfl) ?_
  refine w_val (v := .int .i64 0) (y_ext (v := .int .i64 0) (Ev.t (v := .tuple #[.string (str (Ct.nx s d n)), .int .i64 0]) rfl rfl) rfl) ?_
  refine w_val (v := .string (str (Ct.nx s d n))) (y_as (Ev.t (v := .string (str (Ct.nx s d n))) rfl rfl)) ?_
  refine w_val (v := .int .i64 0) (y_as (Ev.t (v := .int .i64 0) rfl rfl)) ?_
  refine wpList_nil ?_
  refine then_n ?_
  refine wp_seq ?_
  refine wp_region_lit ?_
  refine w_val (v := .pointer (some ⟨b_c, 0, none⟩)) (y_off (y_fa (Ev.t (v := .pointer (some ⟨b_c, 0, none⟩)) rfl rfl) (CtrNextWT.fa34_0 _ _)) (by first | rfl | omega)) ?_
  refine w_val (v := .string (str s)) (y_ld (Ev.t (v := .pointer (some ⟨b_c, 0, none⟩)) rfl rfl) CtrNextWT.sc9 (r_b_c.val (v := .string (str s)) (by omega) ((if_pos (by omega)).trans (by first | with_reducible rfl | (with_reducible congr 1 <;> omega) | (with_reducible congr 2 <;> omega) | (with_reducible congr 3 <;> omega) | rfl)))) ?_
  refine w_val (v := .pointer (some ⟨b_c, 1, none⟩)) (y_off (y_fa (Ev.t (v := .pointer (some ⟨b_c, 0, none⟩)) rfl rfl) (CtrNextWT.fa34_1 _ _)) (by first | rfl | omega)) ?_
  refine w_val (v := .int .i64 ((d : Nat) : Int)) (y_ld (Ev.t (v := .pointer (some ⟨b_c, 1, none⟩)) rfl rfl) CtrNextWT.sc3 (r_b_c.val (v := .int .i64 ((d : Nat) : Int)) (by omega) ((if_neg (by omega)).trans (by first | with_reducible rfl | (with_reducible congr 1 <;> omega) | (with_reducible congr 2 <;> omega) | (with_reducible congr 3 <;> omega) | rfl)))) ?_
  refine w_val (v := U64 (BitVec.ofNat 64 n)) (y_mv (Ev.t (v := U64 (BitVec.ofNat 64 n)) rfl rfl)) ?_
  refine w_call (Try.func20) (by kernel_rfl) rfl (m3 (Ev.t (v := .string (str s)) rfl rfl) (Ev.t (v := .int .i64 ((d : Nat) : Int)) rfl rfl) (Ev.t (v := U64 (BitVec.ofNat 64 n)) rfl rfl)) (refNext_y s d hs h1 h16 n hn w5) ?_
  rintro _ w7 ⟨rfl, hb8⟩
  refine ⟨_, rfl, ?_⟩
  replace r_b_c := r_b_c.step hb8
  replace hk := thenB hk hb8
  refine w_val (v := .tuple #[.string (str (Ct.nx s d n)), .int .i64 0]) (y_mv (Ev.t (v := .tuple #[.string (str (Ct.nx s d n)), .int .i64 0]) rfl rfl)) ?_
  refine w_val (v := .string (str (Ct.nx s d n))) (y_ext (v := .string (str (Ct.nx s d n))) (Ev.t (v := .tuple #[.string (str (Ct.nx s d n)), .int .i64 0]) rfl rfl) rfl) ?_
  refine w_val (v := .int .i64 0) (y_ext (v := .int .i64 0) (Ev.t (v := .tuple #[.string (str (Ct.nx s d n)), .int .i64 0]) rfl rfl) rfl) ?_
  refine w_val (v := .string (str (Ct.nx s d n))) (y_as (Ev.t (v := .string (str (Ct.nx s d n))) rfl rfl)) ?_
  refine w_val (v := .int .i64 0) (y_as (Ev.t (v := .int .i64 0) rfl rfl)) ?_
  refine wpList_nil ?_
  refine then_n ?_
  refine wp_seq ?_
  refine wp_seq ?_
  refine wp_region_lit ?_
  refine w_val (v := .string (str (Ct.nx s d n))) (y_mv (Ev.t (v := .string (str (Ct.nx s d n))) rfl rfl)) ?_
  refine w_val (v := .string (str (Ct.nx s d n))) (y_mv (Ev.t (v := .string (str (Ct.nx s d n))) rfl rfl)) ?_
  refine w_val (v := .bool false) (y_bin (Ev.t (v := .string (str (Ct.nx s d n))) rfl rfl) (Ev.t (v := .string (str (Ct.nx s d n))) rfl rfl) b_nes_same) ?_
  refine w_val (v := .bool false) (y_mv (Ev.t (v := .bool false) rfl rfl)) ?_
  refine w_val_g (v := .int .i64 0) (want_yes (j := 3) rfl rfl (Ev.t (v := .bool false) rfl rfl) rfl) (y_mv (Ev.t (v := .int .i64 0) rfl rfl)) ?_
  refine w_val_g (v := .int .i64 0) (want_yes (j := 3) rfl rfl (Ev.t (v := .bool false) rfl rfl) rfl) (y_mv (Ev.t (v := .int .i64 0) rfl rfl)) ?_
  refine w_val_g (v := .bool false) (want_yes (j := 3) rfl rfl (Ev.t (v := .bool false) rfl rfl) rfl) (y_bin (Ev.t (v := .int .i64 0) rfl rfl) (Ev.t (v := .int .i64 0) rfl rfl) b_neq) ?_
  refine w_val (v := .bool false) (y_pick_f (Ev.t (v := .bool false) rfl rfl) (Ev.t (v := .bool false) rfl rfl)) ?_
  refine wpList_nil ?_
  refine then_n ?_
  refine c_ff (Ev.t (v := .bool false) rfl rfl) ?_
  refine wp_skip ?_
  refine then_n ?_
  refine wp_seq ?_
  refine wp_seq ?_
  refine wp_region_lit ?_
  refine w_val (v := .int .i64 0) (y_mv (Ev.t (v := .int .i64 0) rfl rfl)) ?_
  refine w_val (v := .bool false) (y_bin (Ev.t (v := .int .i64 0) rfl rfl) (Ev.c (v := .int .i64 0)) b_neq) ?_
  refine w_val (v := .bool false) (y_mv (Ev.t (v := .bool false) rfl rfl)) ?_
  refine w_val_g (v := U64 (BitVec.ofNat 64 n)) (want_yes (j := 2) rfl rfl (Ev.t (v := .bool false) rfl rfl) rfl) (y_mv (Ev.t (v := U64 (BitVec.ofNat 64 n)) rfl rfl)) ?_
  refine w_val_g (v := .bool (decide ((4611686018427387904#64).toNat < (BitVec.ofNat 64 n).toNat))) (want_yes (j := 2) rfl rfl (Ev.t (v := .bool false) rfl rfl) rfl) (y_bin (Ev.t (v := U64 (BitVec.ofNat 64 n)) rfl rfl) (Ev.c (v := U64 (4611686018427387904#64))) gtr64) ?_
  refine w_val (v := .bool (decide ((4611686018427387904#64).toNat < (BitVec.ofNat 64 n).toNat))) (y_pick_f (Ev.t (v := .bool false) rfl rfl) (Ev.t (v := .bool (decide ((4611686018427387904#64).toNat < (BitVec.ofNat 64 n).toNat))) rfl rfl)) ?_
  refine w_val (v := .bool (decide ((4611686018427387904#64).toNat < (BitVec.ofNat 64 n).toNat))) (y_mv (Ev.t (v := .bool (decide ((4611686018427387904#64).toNat < (BitVec.ofNat 64 n).toNat))) rfl rfl)) ?_
  by_cases hc9 : (4611686018427387904#64).toNat < (BitVec.ofNat 64 n).toNat
  · skip
    first | with_reducible refine w_skip ?_ ?_ | refine w_skip ?_ ?_
    · exact want_no (j := 6) rfl rfl (Ev.t (v := .bool true) (Eq.trans (b := .bool (decide ((4611686018427387904#64).toNat < (BitVec.ofNat 64 n).toNat))) rfl (by rw [decide_eq_true hc9])) rfl) rfl
    first | with_reducible refine w_skip ?_ ?_ | refine w_skip ?_ ?_
    · exact want_no (j := 6) rfl rfl (Ev.t (v := .bool true) (Eq.trans (b := .bool (decide ((4611686018427387904#64).toNat < (BitVec.ofNat 64 n).toNat))) rfl (by rw [decide_eq_true hc9])) rfl) rfl
    refine w_val (v := .bool true) (y_pick_t (Ev.t (v := .bool true) (Eq.trans (b := .bool (decide ((4611686018427387904#64).toNat < (BitVec.ofNat 64 n).toNat))) rfl (by rw [decide_eq_true hc9])) rfl) (Ev.c (v := .bool true))) ?_
    refine wpList_nil ?_
    refine then_n ?_
    refine c_tt (Ev.t (v := .bool true) rfl rfl) ?_
    refine wp_seq ?_
    refine wp_region_lit ?_
    refine w_val (v := .bool true) (y_as (Ev.c (v := .bool true))) ?_
    refine wpList_nil ?_
    refine then_n ?_
    refine wp_ret ?_
    refine then_r ?_
    refine fin_ret1 rfl (Ev.t (v := .bool true) rfl rfl) ?_
    exact ⟨rfl, hk⟩
  · skip
    refine w_val_g (v := U64 (BitVec.ofNat 64 m)) (want_yes (j := 6) rfl rfl (Ev.t (v := .bool false) (Eq.trans (b := .bool (decide ((4611686018427387904#64).toNat < (BitVec.ofNat 64 n).toNat))) rfl (by rw [decide_eq_false hc9])) rfl) rfl) (y_mv (Ev.t (v := U64 (BitVec.ofNat 64 m)) rfl rfl)) ?_
    refine w_val_g (v := .bool (decide ((4611686018427387904#64).toNat < (BitVec.ofNat 64 m).toNat))) (want_yes (j := 6) rfl rfl (Ev.t (v := .bool false) (Eq.trans (b := .bool (decide ((4611686018427387904#64).toNat < (BitVec.ofNat 64 n).toNat))) rfl (by rw [decide_eq_false hc9])) rfl) rfl) (y_bin (Ev.t (v := U64 (BitVec.ofNat 64 m)) rfl rfl) (Ev.c (v := U64 (4611686018427387904#64))) gtr64) ?_
    refine w_val (v := .bool (decide ((4611686018427387904#64).toNat < (BitVec.ofNat 64 m).toNat))) (y_pick_f (Ev.t (v := .bool false) (Eq.trans (b := .bool (decide ((4611686018427387904#64).toNat < (BitVec.ofNat 64 n).toNat))) rfl (by rw [decide_eq_false hc9])) rfl) (Ev.t (v := .bool (decide ((4611686018427387904#64).toNat < (BitVec.ofNat 64 m).toNat))) rfl rfl)) ?_
    refine wpList_nil ?_
    refine then_n ?_
    refine c_if (p := (4611686018427387904#64).toNat < (BitVec.ofNat 64 m).toNat) (Ev.t (v := .bool (decide ((4611686018427387904#64).toNat < (BitVec.ofNat 64 m).toNat))) rfl rfl) (fun hc10 => ?_) (fun hc10 => ?_)
    · skip
      refine wp_seq ?_
      refine wp_region_lit ?_
      refine w_val (v := .bool true) (y_as (Ev.c (v := .bool true))) ?_
      refine wpList_nil ?_
      refine then_n ?_
      refine wp_ret ?_
      refine then_r ?_
      refine fin_ret1 rfl (Ev.t (v := .bool true) rfl rfl) ?_
      exact ⟨rfl, hk⟩
    · skip
      refine wp_skip ?_
      refine then_n ?_
      refine wp_seq ?_
      refine wp_region_lit ?_
      refine w_val (v := .string (str (Ct.nx s d n))) (y_mv (Ev.t (v := .string (str (Ct.nx s d n))) rfl rfl)) ?_
      refine w_val (v := .pointer (some ⟨b_c, 1, none⟩)) (y_off (y_fa (Ev.t (v := .pointer (some ⟨b_c, 0, none⟩)) rfl rfl) (CtrNextWT.fa34_1 _ _)) (by first | rfl | omega)) ?_
      refine w_val (v := .int .i64 ((d : Nat) : Int)) (y_ld (Ev.t (v := .pointer (some ⟨b_c, 1, none⟩)) rfl rfl) CtrNextWT.sc3 (r_b_c.val (v := .int .i64 ((d : Nat) : Int)) (by omega) ((if_neg (by omega)).trans (by first | with_reducible rfl | (with_reducible congr 1 <;> omega) | (with_reducible congr 2 <;> omega) | (with_reducible congr 3 <;> omega) | rfl)))) ?_
      refine w_val (v := U64 (BitVec.ofNat 64 m)) (y_mv (Ev.t (v := U64 (BitVec.ofNat 64 m)) rfl rfl)) ?_
      refine w_call (Try.func19) (by kernel_rfl) rfl (m3 (Ev.t (v := .string (str (Ct.nx s d n))) rfl rfl) (Ev.t (v := .int .i64 ((d : Nat) : Int)) rfl rfl) (Ev.t (v := U64 (BitVec.ofNat 64 m)) rfl rfl)) (next_y (Ct.nx s d n) d (Ct.length_nx s d n hs) h1 h16 m hm w7) ?_
      rintro _ w11 ⟨rfl, hb12⟩
      refine ⟨_, rfl, ?_⟩
      replace r_b_c := r_b_c.step hb12
      replace hk := thenB hk hb12
      refine w_val (v := .tuple #[.string (str (Ct.nx (Ct.nx s d n) d m)), .int .i64 0]) (y_mv (Ev.t (v := .tuple #[.string (str (Ct.nx (Ct.nx s d n) d m)), .int .i64 0]) rfl rfl)) ?_
      refine w_val (v := .string (str (Ct.nx (Ct.nx s d n) d m))) (y_ext (v := .string (str (Ct.nx (Ct.nx s d n) d m))) (Ev.t (v := .tuple #[.string (str (Ct.nx (Ct.nx s d n) d m)), .int .i64 0]) rfl rfl) rfl) ?_
      refine w_val (v := .int .i64 0) (y_ext (v := .int .i64 0) (Ev.t (v := .tuple #[.string (str (Ct.nx (Ct.nx s d n) d m)), .int .i64 0]) rfl rfl) rfl) ?_
      refine w_val (v := .string (str (Ct.nx (Ct.nx s d n) d m))) (y_as (Ev.t (v := .string (str (Ct.nx (Ct.nx s d n) d m))) rfl rfl)) ?_
      refine w_val (v := .int .i64 0) (y_as (Ev.t (v := .int .i64 0) rfl rfl)) ?_
      refine wpList_nil ?_
      refine then_n ?_
      refine wp_seq ?_
      refine wp_region_lit ?_
      refine w_val (v := .pointer (some ⟨b_c, 0, none⟩)) (y_off (y_fa (Ev.t (v := .pointer (some ⟨b_c, 0, none⟩)) rfl rfl) (CtrNextWT.fa34_0 _ _)) (by first | rfl | omega)) ?_
      refine w_val (v := .string (str s)) (y_ld (Ev.t (v := .pointer (some ⟨b_c, 0, none⟩)) rfl rfl) CtrNextWT.sc9 (r_b_c.val (v := .string (str s)) (by omega) ((if_pos (by omega)).trans (by first | with_reducible rfl | (with_reducible congr 1 <;> omega) | (with_reducible congr 2 <;> omega) | (with_reducible congr 3 <;> omega) | rfl)))) ?_
      refine w_val (v := .pointer (some ⟨b_c, 1, none⟩)) (y_off (y_fa (Ev.t (v := .pointer (some ⟨b_c, 0, none⟩)) rfl rfl) (CtrNextWT.fa34_1 _ _)) (by first | rfl | omega)) ?_
      refine w_val (v := .int .i64 ((d : Nat) : Int)) (y_ld (Ev.t (v := .pointer (some ⟨b_c, 1, none⟩)) rfl rfl) CtrNextWT.sc3 (r_b_c.val (v := .int .i64 ((d : Nat) : Int)) (by omega) ((if_neg (by omega)).trans (by first | with_reducible rfl | (with_reducible congr 1 <;> omega) | (with_reducible congr 2 <;> omega) | (with_reducible congr 3 <;> omega) | rfl)))) ?_
      refine w_val (v := U64 (BitVec.ofNat 64 n)) (y_mv (Ev.t (v := U64 (BitVec.ofNat 64 n)) rfl rfl)) ?_
      refine w_val (v := U64 (BitVec.ofNat 64 m)) (y_mv (Ev.t (v := U64 (BitVec.ofNat 64 m)) rfl rfl)) ?_
      refine w_val (v := U64 ((BitVec.ofNat 64 n) + (BitVec.ofNat 64 m))) (y_bin (Ev.t (v := U64 (BitVec.ofNat 64 n)) rfl rfl) (Ev.t (v := U64 (BitVec.ofNat 64 m)) rfl rfl) add64) ?_
      refine w_call (Try.func19) (by kernel_rfl) rfl (m3 (Ev.t (v := .string (str s)) rfl rfl) (Ev.t (v := .int .i64 ((d : Nat) : Int)) rfl rfl) (Ev.t (v := U64 ((BitVec.ofNat 64 n) + (BitVec.ofNat 64 m))) rfl rfl)) (nextSum s d hs h1 h16 n m (by omega) w11) ?_
      rintro _ w13 ⟨rfl, hb14⟩
      refine ⟨_, rfl, ?_⟩
      replace r_b_c := r_b_c.step hb14
      replace hk := thenB hk hb14
      refine w_val (v := .tuple #[.string (str (Ct.nx s d (n + m))), .int .i64 0]) (y_mv (Ev.t (v := .tuple #[.string (str (Ct.nx s d (n + m))), .int .i64 0]) rfl rfl)) ?_
      refine w_val (v := .string (str (Ct.nx s d (n + m)))) (y_ext (v := .string (str (Ct.nx s d (n + m)))) (Ev.t (v := .tuple #[.string (str (Ct.nx s d (n + m))), .int .i64 0]) rfl rfl) rfl) ?_
      refine w_val (v := .int .i64 0) (y_ext (v := .int .i64 0) (Ev.t (v := .tuple #[.string (str (Ct.nx s d (n + m))), .int .i64 0]) rfl rfl) rfl) ?_
      refine w_val (v := .string (str (Ct.nx s d (n + m)))) (y_as (Ev.t (v := .string (str (Ct.nx s d (n + m)))) rfl rfl)) ?_
      refine w_val (v := .int .i64 0) (y_as (Ev.t (v := .int .i64 0) rfl rfl)) ?_
      refine wpList_nil ?_
      refine then_n ?_
      refine wp_seq ?_
      refine wp_region_lit ?_
      refine w_val (v := .string (str (Ct.nx (Ct.nx s d n) d m))) (y_mv (Ev.t (v := .string (str (Ct.nx (Ct.nx s d n) d m))) rfl rfl)) ?_
      refine w_val (v := .string (str (Ct.nx s d (n + m)))) (y_mv (Ev.t (v := .string (str (Ct.nx s d (n + m)))) rfl rfl)) ?_
      refine w_val (v := .bool (decide ((Ct.nx (Ct.nx s d n) d m) = (Ct.nx s d (n + m))))) (y_bin (Ev.t (v := .string (str (Ct.nx (Ct.nx s d n) d m))) rfl rfl) (Ev.t (v := .string (str (Ct.nx s d (n + m)))) rfl rfl) b_eqs) ?_
      refine w_val (v := .bool (decide ((Ct.nx (Ct.nx s d n) d m) = (Ct.nx s d (n + m))))) (y_mv (Ev.t (v := .bool (decide ((Ct.nx (Ct.nx s d n) d m) = (Ct.nx s d (n + m))))) rfl rfl)) ?_
      have hc15 : (Ct.nx (Ct.nx s d n) d m) = (Ct.nx s d (n + m)) := by exact Ct.nx_add s d n m hs
      refine w_val_g (v := .int .i64 0) (want_yes (j := 3) rfl rfl (Ev.t (v := .bool true) (Eq.trans (b := .bool (decide ((Ct.nx (Ct.nx s d n) d m) = (Ct.nx s d (n + m))))) rfl (by rw [decide_eq_true hc15])) rfl) rfl) (y_mv (Ev.t (v := .int .i64 0) rfl rfl)) ?_
      refine w_val_g (v := .bool true) (want_yes (j := 3) rfl rfl (Ev.t (v := .bool true) (Eq.trans (b := .bool (decide ((Ct.nx (Ct.nx s d n) d m) = (Ct.nx s d (n + m))))) rfl (by rw [decide_eq_true hc15])) rfl) rfl) (y_bin (Ev.t (v := .int .i64 0) rfl rfl) (Ev.c (v := .int .i64 0)) b_eql) ?_
      refine w_val (v := .bool true) (y_pick_t (Ev.t (v := .bool true) (Eq.trans (b := .bool (decide ((Ct.nx (Ct.nx s d n) d m) = (Ct.nx s d (n + m))))) rfl (by rw [decide_eq_true hc15])) rfl) (Ev.t (v := .bool true) rfl rfl)) ?_
      refine w_val (v := .bool true) (y_mv (Ev.t (v := .bool true) rfl rfl)) ?_
      refine w_val_g (v := .int .i64 0) (want_yes (j := 7) rfl rfl (Ev.t (v := .bool true) rfl rfl) rfl) (y_mv (Ev.t (v := .int .i64 0) rfl rfl)) ?_
      refine w_val_g (v := .bool true) (want_yes (j := 7) rfl rfl (Ev.t (v := .bool true) rfl rfl) rfl) (y_bin (Ev.t (v := .int .i64 0) rfl rfl) (Ev.c (v := .int .i64 0)) b_eql) ?_
      refine w_val (v := .bool true) (y_pick_t (Ev.t (v := .bool true) rfl rfl) (Ev.t (v := .bool true) rfl rfl)) ?_
      refine w_val (v := .bool true) (y_as (Ev.t (v := .bool true) rfl rfl)) ?_
      refine wpList_nil ?_
      refine then_n ?_
      refine wp_ret ?_
      refine fin_ret1 rfl (Ev.t (v := .bool true) rfl rfl) ?_
      exact ⟨rfl, hk⟩

theorem walk_CtrNext (s : List (BitVec 8)) (d : Int) (n : Nat) (hn : n < 18446744073709551616) (m : Nat) (hm : m < 18446744073709551616) (w : World) : Calls Try.prog 7 #[.agg #[.string (str s), .int .i64 d], U64 (BitVec.ofNat 64 n), U64 (BitVec.ofNat 64 m)] w fun e w' => e = .returned (.bool true) ∧ Below w.heap.size w w' := by
  by_cases hs : s.length = 16
  · by_cases hd : 1 ≤ d ∧ d ≤ 16
    · obtain ⟨k, rfl⟩ : ∃ k : Nat, d = k := ⟨d.toNat, by omega⟩
      exact ctrNext_y s k hs (by omega) (by omega) n m hn hm w
    · exact ctrNext_d s d hs hd _ _ w
  · exact ctrNext_i s d hs _ _ w
end Go.Proofs.Ythmcoaadigaddaa
