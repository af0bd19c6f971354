/-
  The laws CtrXors and CtrBegins answer true. No conditions.
-/
import Derived.Test.YthmcoaadigaddaaRows
import Derived.Test.YthmcoaadigaddaaCtrWakes
import Derived.ProofKit
namespace Go.Proofs.Ythmcoaadigaddaa
open Go.RowKit
set_option linter.unusedSimpArgs false
set_option linter.unusedVariables false
namespace CtrXorsWT
theorem mixed : Try.prog.follows .mixedOrders = true := by kernel_rfl
theorem fa34_0 (g off : Nat) : ∀ w, (Instr.fieldAt 34 (.pointer (some ⟨g, off, none⟩)) 0).run Try.prog w = .ok (.pointer (some ⟨g, off + 0, none⟩)) w := fun w => by kernel_rfl
theorem fa34_1 (g off : Nat) : ∀ w, (Instr.fieldAt 34 (.pointer (some ⟨g, off, none⟩)) 1).run Try.prog w = .ok (.pointer (some ⟨g, off + 1, none⟩)) w := fun w => by kernel_rfl
theorem sc3 : (Try.prog.underlying 3).map scal = some true := by rw [Try.underlying3]; rfl
theorem sc9 : (Try.prog.underlying 9).map scal = some true := by rw [Try.underlying9]; rfl
end CtrXorsWT
theorem Ct.x_take (key s : List (BitVec 8)) (d : Nat) (t : List (BitVec 8)) (m : Nat) : Ct.x key s d (t.take m) = (Ct.x key s d t).take (Ct.x key s d (t.take m)).length := by
  have hl := Ct.length_x key s d (t.take m)
  have hl2 := Ct.length_x key s d t
  have hm := List.length_take (l := t) (i := m)
  refine gb_ext (by rw [List.length_take]; omega) (fun i hi => ?_)
  rw [gb_take _ _ _ hi, Ct.gb_x _ _ _ _ _ (by omega), Ct.gb_x _ _ _ _ _ (by omega), gb_take _ _ _ (by omega)]
theorem ctrXorBack (key text : List (BitVec 8)) (hok : Aes.okKey key.length) (s : List (BitVec 8)) (d : Nat) (hs : s.length = 16) (h1 : 1 ≤ d) (h16 : d ≤ 16) (ht : text.length ≤ 70000) (w0 : World) : Calls Try.prog 21 #[.string (str key), .string (str s), .int .i64 ((d : Nat) : Int), .string (str (Ct.x key s d text))] w0 fun e w' => e = .returned (.tuple #[.string (str text), .int .i64 0]) ∧ Below w0.heap.size w0 w' := by
  have h := ctrXor_y key (Ct.x key s d text) hok s d hs h1 h16 (by rw [Ct.length_x]; exact ht) w0
  rwa [Ct.x_x] at h

set_option maxRecDepth 100000 in
set_option maxHeartbeats 1000000 in
theorem ctrXors_k (key text : List (BitVec 8)) (hok : ¬ Aes.okKey key.length) (s : List (BitVec 8)) (d : Int) (w0 : World) : Calls Try.prog 8 #[.string (str key), .agg (arr 2 (fun j => if j < 1 then .string (str s) else .int .i64 d)), .string (str text)] w0 fun e w' => e = .returned (.bool true) ∧ Below w0.heap.size w0 w' := by
  refine enter (n := 72) Try.func8 rfl rfl rfl ?_
  have hk : Below w0.heap.size w0 w0 := Below.refl _ _
  refine wp_seq ?_
  refine wp_region_lit ?_
  refine w_box (m := 2) (F := fun j => if j < 1 then .string (str s) else .int .i64 d) (Ev.t (v := .agg (arr 2 (fun j => if j < 1 then .string (str s) else .int .i64 d))) rfl rfl) rfl ?_
  intro b_c w1 hbe_b_c r_b_c hb2
  have ge_b_c : w0.heap.size ≤ b_c := by have := hk.size; omega
  clear hbe_b_c
  replace hk := thenB hk hb2
  refine w_val (v := .bool false) (y_as (Ev.c (v := .bool false))) ?_
  refine wpList_nil ?_
  refine then_n ?_
  refine wp_seq ?_
  refine wp_seq ?_
  refine wp_region_lit ?_
  refine w_call (Try.func18) (by kernel_rfl) rfl m0 (ctrWakes_c  w1) ?_
  rintro _ w3 ⟨rfl, hb4⟩
  refine ⟨_, rfl, ?_⟩
  replace r_b_c := r_b_c.step hb4
  replace hk := thenB hk hb4
  refine w_val (v := .bool false) (y_not (Ev.t (v := .bool true) rfl rfl)) ?_
  refine wpList_nil ?_
  refine then_n ?_
  refine c_ff (Ev.t (v := .bool false) rfl rfl) ?_
  refine wp_skip ?_
  refine then_n ?_
  refine wp_seq ?_
  refine wp_seq ?_
  refine wp_region_lit ?_
  refine w_val (v := .string (str text)) (y_mv (Ev.t (v := .string (str text)) rfl rfl)) ?_
  refine w_val (v := .int .i64 ((text.length : Nat) : Int)) (y_len (Ev.t (v := .string (str text)) rfl rfl) Try.underlying9) ?_
  refine w_val (v := .bool (decide (3000 < ((text.length : Nat) : Int)))) (y_bin (Ev.t (v := .int .i64 ((text.length : Nat) : Int)) rfl rfl) (Ev.c (v := .int .i64 3000)) b_gtr) ?_
  refine w_val (v := .bool (decide (3000 < ((text.length : Nat) : Int)))) (y_mv (Ev.t (v := .bool (decide (3000 < ((text.length : Nat) : Int)))) rfl rfl)) ?_
  by_cases hc5 : 3000 < ((text.length : Nat) : Int)
  · skip
    refine w_val_g (v := .string (str text)) (want_yes (j := 3) rfl rfl (Ev.t (v := .bool true) (Eq.trans (b := .bool (decide (3000 < ((text.length : Nat) : Int)))) rfl (by rw [decide_eq_true hc5])) rfl) rfl) (y_mv (Ev.t (v := .string (str text)) rfl rfl)) ?_
    refine w_val_g (v := .int .i64 ((text.length : Nat) : Int)) (want_yes (j := 3) rfl rfl (Ev.t (v := .bool true) (Eq.trans (b := .bool (decide (3000 < ((text.length : Nat) : Int)))) rfl (by rw [decide_eq_true hc5])) rfl) rfl) (y_len (Ev.t (v := .string (str text)) rfl rfl) Try.underlying9) ?_
    refine w_val_g (v := .bool (decide (((text.length : Nat) : Int) ≤ 70000))) (want_yes (j := 3) rfl rfl (Ev.t (v := .bool true) (Eq.trans (b := .bool (decide (3000 < ((text.length : Nat) : Int)))) rfl (by rw [decide_eq_true hc5])) rfl) rfl) (y_bin (Ev.t (v := .int .i64 ((text.length : Nat) : Int)) rfl rfl) (Ev.c (v := .int .i64 70000)) b_leq) ?_
    refine w_val (v := .bool (decide (((text.length : Nat) : Int) ≤ 70000))) (y_pick_t (Ev.t (v := .bool true) (Eq.trans (b := .bool (decide (3000 < ((text.length : Nat) : Int)))) rfl (by rw [decide_eq_true hc5])) rfl) (Ev.t (v := .bool (decide (((text.length : Nat) : Int) ≤ 70000))) rfl rfl)) ?_
    refine wpList_nil ?_
    refine then_n ?_
    refine c_if (p := ((text.length : Nat) : Int) ≤ 70000) (Ev.t (v := .bool (decide (((text.length : Nat) : Int) ≤ 70000))) rfl rfl) (fun hc6 => ?_) (fun hc6 => ?_)
    · skip
      refine wp_seq ?_
      refine wp_region_lit ?_
      refine w_val (v := .bool true) (y_as (Ev.c (v := .bool true))) ?_
      refine wpList_nil ?_
      refine then_n ?_
      refine wp_ret ?_
      refine then_r ?_
      refine fin_ret1 rfl (Ev.t (v := .bool true) rfl rfl) ?_
      exact ⟨rfl, hk⟩
    · skip
      refine wp_skip ?_
      refine then_n ?_
      refine wp_seq ?_
      refine wp_region_lit ?_
      refine w_val (v := .string (str key)) (y_mv (Ev.t (v := .string (str key)) rfl rfl)) ?_
      refine w_val (v := .pointer (some ⟨b_c, 0, none⟩)) (y_off (y_fa (Ev.t (v := .pointer (some ⟨b_c, 0, none⟩)) rfl rfl) (CtrXorsWT.fa34_0 _ _)) (by first | rfl | omega)) ?_
      refine w_val (v := .string (str s)) (y_ld (Ev.t (v := .pointer (some ⟨b_c, 0, none⟩)) rfl rfl) CtrXorsWT.sc9 (r_b_c.val (v := .string (str s)) (by omega) ((if_pos (by omega)).trans (by first | with_reducible rfl | (with_reducible congr 1 <;> omega) | (with_reducible congr 2 <;> omega) | (with_reducible congr 3 <;> omega) | rfl)))) ?_
      refine w_val (v := .pointer (some ⟨b_c, 1, none⟩)) (y_off (y_fa (Ev.t (v := .pointer (some ⟨b_c, 0, none⟩)) rfl rfl) (CtrXorsWT.fa34_1 _ _)) (by first | rfl | omega)) ?_
      refine w_val (v := .int .i64 d) (y_ld (Ev.t (v := .pointer (some ⟨b_c, 1, none⟩)) rfl rfl) CtrXorsWT.sc3 (r_b_c.val (v := .int .i64 d) (by omega) ((if_neg (by omega)).trans (by first | with_reducible rfl | (with_reducible congr 1 <;> omega) | (with_reducible congr 2 <;> omega) | (with_reducible congr 3 <;> omega) | rfl)))) ?_
      refine w_val (v := .string (str text)) (y_mv (Ev.t (v := .string (str text)) rfl rfl)) ?_
      refine w_call (Try.func21) (by kernel_rfl) rfl (m4 (Ev.t (v := .string (str key)) rfl rfl) (Ev.t (v := .string (str s)) rfl rfl) (Ev.t (v := .int .i64 d) rfl rfl) (Ev.t (v := .string (str text)) rfl rfl)) (ctrXor_k key hok s d text w3) ?_
      rintro _ w7 ⟨rfl, hb8⟩
      refine ⟨_, rfl, ?_⟩
      replace r_b_c := r_b_c.step hb8
      replace hk := thenB hk hb8
      refine w_val (v := .tuple #[.string (str ([] : List (BitVec 8))), .int .i64 3]) (y_mv (Ev.t (v := .tuple #[.string (str ([] : List (BitVec 8))), .int .i64 3]) rfl rfl)) ?_
      refine w_val (v := .string (str ([] : List (BitVec 8)))) (y_ext (v := .string (str ([] : List (BitVec 8)))) (Ev.t (v := .tuple #[.string (str ([] : List (BitVec 8))), .int .i64 3]) rfl rfl) rfl) ?_
      refine w_val (v := .int .i64 3) (y_ext (v := .int .i64 3) (Ev.t (v := .tuple #[.string (str ([] : List (BitVec 8))), .int .i64 3]) rfl rfl) rfl) ?_
      refine w_val (v := .string (str ([] : List (BitVec 8)))) (y_as (Ev.t (v := .string (str ([] : List (BitVec 8)))) rfl rfl)) ?_
      refine w_val (v := .int .i64 3) (y_as (Ev.t (v := .int .i64 3) rfl rfl)) ?_
      refine wpList_nil ?_
      refine then_n ?_
      refine wp_seq ?_
      refine wp_region_lit ?_
      refine w_val (v := .string (str key)) (y_mv (Ev.t (v := .string (str key)) rfl rfl)) ?_
      refine w_val (v := .pointer (some ⟨b_c, 0, none⟩)) (y_off (y_fa (Ev.t (v := .pointer (some ⟨b_c, 0, none⟩)) rfl rfl) (CtrXorsWT.fa34_0 _ _)) (by first | rfl | omega)) ?_
      refine w_val (v := .string (str s)) (y_ld (Ev.t (v := .pointer (some ⟨b_c, 0, none⟩)) rfl rfl) CtrXorsWT.sc9 (r_b_c.val (v := .string (str s)) (by omega) ((if_pos (by omega)).trans (by first | with_reducible rfl | (with_reducible congr 1 <;> omega) | (with_reducible congr 2 <;> omega) | (with_reducible congr 3 <;> omega) | rfl)))) ?_
      refine w_val (v := .pointer (some ⟨b_c, 1, none⟩)) (y_off (y_fa (Ev.t (v := .pointer (some ⟨b_c, 0, none⟩)) rfl rfl) (CtrXorsWT.fa34_1 _ _)) (by first | rfl | omega)) ?_
      refine w_val (v := .int .i64 d) (y_ld (Ev.t (v := .pointer (some ⟨b_c, 1, none⟩)) rfl rfl) CtrXorsWT.sc3 (r_b_c.val (v := .int .i64 d) (by omega) ((if_neg (by omega)).trans (by first | with_reducible rfl | (with_reducible congr 1 <;> omega) | (with_reducible congr 2 <;> omega) | (with_reducible congr 3 <;> omega) | rfl)))) ?_
      refine w_val (v := .string (str text)) (y_mv (Ev.t (v := .string (str text)) rfl rfl)) ?_
      refine w_call (Try.func22) (by kernel_rfl) rfl (m4 (Ev.t (v := .string (str key)) rfl rfl) (Ev.t (v := .string (str s)) rfl rfl) (Ev.t (v := .int .i64 d) rfl rfl) (Ev.t (v := .string (str text)) rfl rfl)) (refCtr_k key hok s d text w7) ?_
      rintro _ w9 ⟨rfl, hb10⟩
      refine ⟨_, rfl, ?_⟩
      replace r_b_c := r_b_c.step hb10
      replace hk := thenB hk hb10
      refine w_val (v := .tuple #[.string (str ([] : List (BitVec 8))), .int .i64 3]) (y_mv (Ev.t (v := .tuple #[.string (str ([] : List (BitVec 8))), .int .i64 3]) rfl rfl)) ?_
      refine w_val (v := .string (str ([] : List (BitVec 8)))) (y_ext (v := .string (str ([] : List (BitVec 8)))) (Ev.t (v := .tuple #[.string (str ([] : List (BitVec 8))), .int .i64 3]) rfl rfl) rfl) ?_
      refine w_val (v := .int .i64 3) (y_ext (v := .int .i64 3) (Ev.t (v := .tuple #[.string (str ([] : List (BitVec 8))), .int .i64 3]) rfl rfl) rfl) ?_
      refine w_val (v := .string (str ([] : List (BitVec 8)))) (y_as (Ev.t (v := .string (str ([] : List (BitVec 8)))) rfl rfl)) ?_
      refine w_val (v := .int .i64 3) (y_as (Ev.t (v := .int .i64 3) rfl rfl)) ?_
      refine wpList_nil ?_
      refine then_n ?_
      refine wp_seq ?_
      refine wp_seq ?_
      refine wp_region_lit ?_
      refine w_val (v := .string (str ([] : List (BitVec 8)))) (y_mv (Ev.t (v := .string (str ([] : List (BitVec 8)))) rfl rfl)) ?_
      refine w_val (v := .string (str ([] : List (BitVec 8)))) (y_mv (Ev.t (v := .string (str ([] : List (BitVec 8)))) rfl rfl)) ?_
      refine w_val (v := .bool false) (y_bin (Ev.t (v := .string (str ([] : List (BitVec 8)))) rfl rfl) (Ev.t (v := .string (str ([] : List (BitVec 8)))) rfl rfl) b_nes_same) ?_
      refine w_val (v := .bool false) (y_mv (Ev.t (v := .bool false) rfl rfl)) ?_
      refine w_val_g (v := .int .i64 3) (want_yes (j := 3) rfl rfl (Ev.t (v := .bool false) rfl rfl) rfl) (y_mv (Ev.t (v := .int .i64 3) rfl rfl)) ?_
      refine w_val_g (v := .int .i64 3) (want_yes (j := 3) rfl rfl (Ev.t (v := .bool false) rfl rfl) rfl) (y_mv (Ev.t (v := .int .i64 3) rfl rfl)) ?_
      refine w_val_g (v := .bool false) (want_yes (j := 3) rfl rfl (Ev.t (v := .bool false) rfl rfl) rfl) (y_bin (Ev.t (v := .int .i64 3) rfl rfl) (Ev.t (v := .int .i64 3) rfl rfl) b_neq) ?_
      refine w_val (v := .bool false) (y_pick_f (Ev.t (v := .bool false) rfl rfl) (Ev.t (v := .bool false) rfl rfl)) ?_
      refine wpList_nil ?_
      refine then_n ?_
      refine c_ff (Ev.t (v := .bool false) rfl rfl) ?_
      refine wp_skip ?_
      refine then_n ?_
      refine wp_seq ?_
      refine wp_region_lit ?_
      refine w_val (v := .string (str key)) (y_mv (Ev.t (v := .string (str key)) rfl rfl)) ?_
      refine w_val (v := .pointer (some ⟨b_c, 0, none⟩)) (y_off (y_fa (Ev.t (v := .pointer (some ⟨b_c, 0, none⟩)) rfl rfl) (CtrXorsWT.fa34_0 _ _)) (by first | rfl | omega)) ?_
      refine w_val (v := .string (str s)) (y_ld (Ev.t (v := .pointer (some ⟨b_c, 0, none⟩)) rfl rfl) CtrXorsWT.sc9 (r_b_c.val (v := .string (str s)) (by omega) ((if_pos (by omega)).trans (by first | with_reducible rfl | (with_reducible congr 1 <;> omega) | (with_reducible congr 2 <;> omega) | (with_reducible congr 3 <;> omega) | rfl)))) ?_
      refine w_val (v := .pointer (some ⟨b_c, 1, none⟩)) (y_off (y_fa (Ev.t (v := .pointer (some ⟨b_c, 0, none⟩)) rfl rfl) (CtrXorsWT.fa34_1 _ _)) (by first | rfl | omega)) ?_
      refine w_val (v := .int .i64 d) (y_ld (Ev.t (v := .pointer (some ⟨b_c, 1, none⟩)) rfl rfl) CtrXorsWT.sc3 (r_b_c.val (v := .int .i64 d) (by omega) ((if_neg (by omega)).trans (by first | with_reducible rfl | (with_reducible congr 1 <;> omega) | (with_reducible congr 2 <;> omega) | (with_reducible congr 3 <;> omega) | rfl)))) ?_
      refine w_val (v := .string (str ([] : List (BitVec 8)))) (y_mv (Ev.t (v := .string (str ([] : List (BitVec 8)))) rfl rfl)) ?_
      refine w_call (Try.func21) (by kernel_rfl) rfl (m4 (Ev.t (v := .string (str key)) rfl rfl) (Ev.t (v := .string (str s)) rfl rfl) (Ev.t (v := .int .i64 d) rfl rfl) (Ev.t (v := .string (str ([] : List (BitVec 8)))) rfl rfl)) (ctrXor_k key hok s d ([] : List (BitVec 8)) w9) ?_
      rintro _ w11 ⟨rfl, hb12⟩
      refine ⟨_, rfl, ?_⟩
      replace r_b_c := r_b_c.step hb12
      replace hk := thenB hk hb12
      refine w_val (v := .tuple #[.string (str ([] : List (BitVec 8))), .int .i64 3]) (y_mv (Ev.t (v := .tuple #[.string (str ([] : List (BitVec 8))), .int .i64 3]) rfl rfl)) ?_
      refine w_val (v := .string (str ([] : List (BitVec 8)))) (y_ext (v := .string (str ([] : List (BitVec 8)))) (Ev.t (v := .tuple #[.string (str ([] : List (BitVec 8))), .int .i64 3]) rfl rfl) rfl) ?_
      refine w_val (v := .int .i64 3) (y_ext (v := .int .i64 3) (Ev.t (v := .tuple #[.string (str ([] : List (BitVec 8))), .int .i64 3]) rfl rfl) rfl) ?_
      refine w_val (v := .string (str ([] : List (BitVec 8)))) (y_as (Ev.t (v := .string (str ([] : List (BitVec 8)))) rfl rfl)) ?_
      refine w_val (v := .int .i64 3) (y_as (Ev.t (v := .int .i64 3) rfl rfl)) ?_
      refine wpList_nil ?_
      refine then_n ?_
      refine wp_seq ?_
      refine wp_region_lit ?_
      refine w_val (v := .int .i64 3) (y_mv (Ev.t (v := .int .i64 3) rfl rfl)) ?_
      refine w_val (v := .bool true) (y_bin (Ev.t (v := .int .i64 3) rfl rfl) (Ev.c (v := .int .i64 0)) b_neq) ?_
      refine w_val (v := .bool true) (y_mv (Ev.t (v := .bool true) rfl rfl)) ?_
      first | with_reducible refine w_skip ?_ ?_ | refine w_skip ?_ ?_
      · exact want_no (j := 2) rfl rfl (Ev.t (v := .bool true) rfl rfl) rfl
      first | with_reducible refine w_skip ?_ ?_ | refine w_skip ?_ ?_
      · exact want_no (j := 2) rfl rfl (Ev.t (v := .bool true) rfl rfl) rfl
      first | with_reducible refine w_skip ?_ ?_ | refine w_skip ?_ ?_
      · exact want_no (j := 2) rfl rfl (Ev.t (v := .bool true) rfl rfl) rfl
      first | with_reducible refine w_skip ?_ ?_ | refine w_skip ?_ ?_
      · exact want_un (j := 5) rfl rfl (Ev.t (v := undef) rfl rfl) rfl
      first | with_reducible refine w_skip ?_ ?_ | refine w_skip ?_ ?_
      · exact want_un (j := 5) rfl rfl (Ev.t (v := undef) rfl rfl) rfl
      first | with_reducible refine w_skip ?_ ?_ | refine w_skip ?_ ?_
      · exact want_un (j := 5) rfl rfl (Ev.t (v := undef) rfl rfl) rfl
      first | with_reducible refine w_skip ?_ ?_ | refine w_skip ?_ ?_
      · exact want_no (j := 2) rfl rfl (Ev.t (v := .bool true) rfl rfl) rfl
      refine w_val (v := .bool true) (y_pick_t (Ev.t (v := .bool true) rfl rfl) (Ev.c (v := .bool true))) ?_
      refine w_val (v := .bool true) (y_as (Ev.t (v := .bool true) rfl rfl)) ?_
      refine wpList_nil ?_
      refine then_n ?_
      refine wp_ret ?_
      refine fin_ret1 rfl (Ev.t (v := .bool true) rfl rfl) ?_
      exact ⟨rfl, hk⟩
  · skip
    first | with_reducible refine w_skip ?_ ?_ | refine w_skip ?_ ?_
    · exact want_no (j := 3) rfl rfl (Ev.t (v := .bool false) (Eq.trans (b := .bool (decide (3000 < ((text.length : Nat) : Int)))) rfl (by rw [decide_eq_false hc5])) rfl) rfl
    first | with_reducible refine w_skip ?_ ?_ | refine w_skip ?_ ?_
    · exact want_no (j := 3) rfl rfl (Ev.t (v := .bool false) (Eq.trans (b := .bool (decide (3000 < ((text.length : Nat) : Int)))) rfl (by rw [decide_eq_false hc5])) rfl) rfl
    first | with_reducible refine w_skip ?_ ?_ | refine w_skip ?_ ?_
    · exact want_no (j := 3) rfl rfl (Ev.t (v := .bool false) (Eq.trans (b := .bool (decide (3000 < ((text.length : Nat) : Int)))) rfl (by rw [decide_eq_false hc5])) rfl) rfl
    refine w_val (v := .bool false) (y_pick_f (Ev.t (v := .bool false) (Eq.trans (b := .bool (decide (3000 < ((text.length : Nat) : Int)))) rfl (by rw [decide_eq_false hc5])) rfl) (Ev.c (v := .bool false))) ?_
    refine wpList_nil ?_
    refine then_n ?_
    refine c_ff (Ev.t (v := .bool false) rfl rfl) ?_
    refine wp_skip ?_
    refine then_n ?_
    refine wp_seq ?_
    refine wp_region_lit ?_
    refine w_val (v := .string (str key)) (y_mv (Ev.t (v := .string (str key)) rfl rfl)) ?_
    refine w_val (v := .pointer (some ⟨b_c, 0, none⟩)) (y_off (y_fa (Ev.t (v := .pointer (some ⟨b_c, 0, none⟩)) rfl rfl) (CtrXorsWT.fa34_0 _ _)) (by first | rfl | omega)) ?_
    refine w_val (v := .string (str s)) (y_ld (Ev.t (v := .pointer (some ⟨b_c, 0, none⟩)) rfl rfl) CtrXorsWT.sc9 (r_b_c.val (v := .string (str s)) (by omega) ((if_pos (by omega)).trans (by first | with_reducible rfl | (with_reducible congr 1 <;> omega) | (with_reducible congr 2 <;> omega) | (with_reducible congr 3 <;> omega) | rfl)))) ?_
    refine w_val (v := .pointer (some ⟨b_c, 1, none⟩)) (y_off (y_fa (Ev.t (v := .pointer (some ⟨b_c, 0, none⟩)) rfl rfl) (CtrXorsWT.fa34_1 _ _)) (by first | rfl | omega)) ?_
    refine w_val (v := .int .i64 d) (y_ld (Ev.t (v := .pointer (some ⟨b_c, 1, none⟩)) rfl rfl) CtrXorsWT.sc3 (r_b_c.val (v := .int .i64 d) (by omega) ((if_neg (by omega)).trans (by first | with_reducible rfl | (with_reducible congr 1 <;> omega) | (with_reducible congr 2 <;> omega) | (with_reducible congr 3 <;> omega) | rfl)))) ?_
    refine w_val (v := .string (str text)) (y_mv (Ev.t (v := .string (str text)) rfl rfl)) ?_
    refine w_call (Try.func21) (by kernel_rfl) rfl (m4 (Ev.t (v := .string (str key)) rfl rfl) (Ev.t (v := .string (str s)) rfl rfl) (Ev.t (v := .int .i64 d) rfl rfl) (Ev.t (v := .string (str text)) rfl rfl)) (ctrXor_k key hok s d text w3) ?_
    rintro _ w13 ⟨rfl, hb14⟩
    refine ⟨_, rfl, ?_⟩
    replace r_b_c := r_b_c.step hb14
    replace hk := thenB hk hb14
    refine w_val (v := .tuple #[.string (str ([] : List (BitVec 8))), .int .i64 3]) (y_mv (Ev.t (v := .tuple #[.string (str ([] : List (BitVec 8))), .int .i64 3]) rfl rfl)) ?_
    refine w_val (v := .string (str ([] : List (BitVec 8)))) (y_ext (v := .string (str ([] : List (BitVec 8)))) (Ev.t (v := .tuple #[.string (str ([] : List (BitVec 8))), .int .i64 3]) rfl rfl) rfl) ?_
    refine w_val (v := .int .i64 3) (y_ext (v := .int .i64 3) (Ev.t (v := .tuple #[.string (str ([] : List (BitVec 8))), .int .i64 3]) rfl rfl) rfl) ?_
    refine w_val (v := .string (str ([] : List (BitVec 8)))) (y_as (Ev.t (v := .string (str ([] : List (BitVec 8)))) rfl rfl)) ?_
    refine w_val (v := .int .i64 3) (y_as (Ev.t (v := .int .i64 3) rfl rfl)) ?_
    refine wpList_nil ?_
    refine then_n ?_
    refine wp_seq ?_
    refine wp_region_lit ?_
    refine w_val (v := .string (str key)) (y_mv (Ev.t (v := .string (str key)) rfl rfl)) ?_
    refine w_val (v := .pointer (some ⟨b_c, 0, none⟩)) (y_off (y_fa (Ev.t (v := .pointer (some ⟨b_c, 0, none⟩)) rfl rfl) (CtrXorsWT.fa34_0 _ _)) (by first | rfl | omega)) ?_
    refine w_val (v := .string (str s)) (y_ld (Ev.t (v := .pointer (some ⟨b_c, 0, none⟩)) rfl rfl) CtrXorsWT.sc9 (r_b_c.val (v := .string (str s)) (by omega) ((if_pos (by omega)).trans (by first | with_reducible rfl | (with_reducible congr 1 <;> omega) | (with_reducible congr 2 <;> omega) | (with_reducible congr 3 <;> omega) | rfl)))) ?_
    refine w_val (v := .pointer (some ⟨b_c, 1, none⟩)) (y_off (y_fa (Ev.t (v := .pointer (some ⟨b_c, 0, none⟩)) rfl rfl) (CtrXorsWT.fa34_1 _ _)) (by first | rfl | omega)) ?_
    refine w_val (v := .int .i64 d) (y_ld (Ev.t (v := .pointer (some ⟨b_c, 1, none⟩)) rfl rfl) CtrXorsWT.sc3 (r_b_c.val (v := .int .i64 d) (by omega) ((if_neg (by omega)).trans (by first | with_reducible rfl | (with_reducible congr 1 <;> omega) | (with_reducible congr 2 <;> omega) | (with_reducible congr 3 <;> omega) | rfl)))) ?_
    refine w_val (v := .string (str text)) (y_mv (Ev.t (v := .string (str text)) rfl rfl)) ?_
    refine w_call (Try.func22) (by kernel_rfl) rfl (m4 (Ev.t (v := .string (str key)) rfl rfl) (Ev.t (v := .string (str s)) rfl rfl) (Ev.t (v := .int .i64 d) rfl rfl) (Ev.t (v := .string (str text)) rfl rfl)) (refCtr_k key hok s d text w13) ?_
    rintro _ w15 ⟨rfl, hb16⟩
    refine ⟨_, rfl, ?_⟩
    replace r_b_c := r_b_c.step hb16
    replace hk := thenB hk hb16
    refine w_val (v := .tuple #[.string (str ([] : List (BitVec 8))), .int .i64 3]) (y_mv (Ev.t (v := .tuple #[.string (str ([] : List (BitVec 8))), .int .i64 3]) rfl rfl)) ?_
    refine w_val (v := .string (str ([] : List (BitVec 8)))) (y_ext (v := .string (str ([] : List (BitVec 8)))) (Ev.t (v := .tuple #[.string (str ([] : List (BitVec 8))), .int .i64 3]) rfl rfl) rfl) ?_
    refine w_val (v := .int .i64 3) (y_ext (v := .int .i64 3) (Ev.t (v := .tuple #[.string (str ([] : List (BitVec 8))), .int .i64 3]) rfl rfl) rfl) ?_
    refine w_val (v := .string (str ([] : List (BitVec 8)))) (y_as (Ev.t (v := .string (str ([] : List (BitVec 8)))) rfl rfl)) ?_
    refine w_val (v := .int .i64 3) (y_as (Ev.t (v := .int .i64 3) rfl rfl)) ?_
    refine wpList_nil ?_
    refine then_n ?_
    refine wp_seq ?_
    refine wp_seq ?_
    refine wp_region_lit ?_
    refine w_val (v := .string (str ([] : List (BitVec 8)))) (y_mv (Ev.t (v := .string (str ([] : List (BitVec 8)))) rfl rfl)) ?_
    refine w_val (v := .string (str ([] : List (BitVec 8)))) (y_mv (Ev.t (v := .string (str ([] : List (BitVec 8)))) rfl rfl)) ?_
    refine w_val (v := .bool false) (y_bin (Ev.t (v := .string (str ([] : List (BitVec 8)))) rfl rfl) (Ev.t (v := .string (str ([] : List (BitVec 8)))) rfl rfl) b_nes_same) ?_
    refine w_val (v := .bool false) (y_mv (Ev.t (v := .bool false) rfl rfl)) ?_
    refine w_val_g (v := .int .i64 3) (want_yes (j := 3) rfl rfl (Ev.t (v := .bool false) rfl rfl) rfl) (y_mv (Ev.t (v := .int .i64 3) rfl rfl)) ?_
    refine w_val_g (v := .int .i64 3) (want_yes (j := 3) rfl rfl (Ev.t (v := .bool false) rfl rfl) rfl) (y_mv (Ev.t (v := .int .i64 3) rfl rfl)) ?_
    refine w_val_g (v := .bool false) (want_yes (j := 3) rfl rfl (Ev.t (v := .bool false) rfl rfl) rfl) (y_bin (Ev.t (v := .int .i64 3) rfl rfl) (Ev.t (v := .int .i64 3) rfl rfl) b_neq) ?_
    refine w_val (v := .bool false) (y_pick_f (Ev.t (v := .bool false) rfl rfl) (Ev.t (v := .bool false) rfl rfl)) ?_
    refine wpList_nil ?_
    refine then_n ?_
    refine c_ff (Ev.t (v := .bool false) rfl rfl) ?_
    refine wp_skip ?_
    refine then_n ?_
    refine wp_seq ?_
    refine wp_region_lit ?_
    refine w_val (v := .string (str key)) (y_mv (Ev.t (v := .string (str key)) rfl rfl)) ?_
    refine w_val (v := .pointer (some ⟨b_c, 0, none⟩)) (y_off (y_fa (Ev.t (v := .pointer (some ⟨b_c, 0, none⟩)) rfl rfl) (CtrXorsWT.fa34_0 _ _)) (by first | rfl | omega)) ?_
    refine w_val (v := .string (str s)) (y_ld (Ev.t (v := .pointer (some ⟨b_c, 0, none⟩)) rfl rfl) CtrXorsWT.sc9 (r_b_c.val (v := .string (str s)) (by omega) ((if_pos (by omega)).trans (by first | with_reducible rfl | (with_reducible congr 1 <;> omega) | (with_reducible congr 2 <;> omega) | (with_reducible congr 3 <;> omega) | rfl)))) ?_
    refine w_val (v := .pointer (some ⟨b_c, 1, none⟩)) (y_off (y_fa (Ev.t (v := .pointer (some ⟨b_c, 0, none⟩)) rfl rfl) (CtrXorsWT.fa34_1 _ _)) (by first | rfl | omega)) ?_
    refine w_val (v := .int .i64 d) (y_ld (Ev.t (v := .pointer (some ⟨b_c, 1, none⟩)) rfl rfl) CtrXorsWT.sc3 (r_b_c.val (v := .int .i64 d) (by omega) ((if_neg (by omega)).trans (by first | with_reducible rfl | (with_reducible congr 1 <;> omega) | (with_reducible congr 2 <;> omega) | (with_reducible congr 3 <;> omega) | rfl)))) ?_
    refine w_val (v := .string (str ([] : List (BitVec 8)))) (y_mv (Ev.t (v := .string (str ([] : List (BitVec 8)))) rfl rfl)) ?_
    refine w_call (Try.func21) (by kernel_rfl) rfl (m4 (Ev.t (v := .string (str key)) rfl rfl) (Ev.t (v := .string (str s)) rfl rfl) (Ev.t (v := .int .i64 d) rfl rfl) (Ev.t (v := .string (str ([] : List (BitVec 8)))) rfl rfl)) (ctrXor_k key hok s d ([] : List (BitVec 8)) w15) ?_
    rintro _ w17 ⟨rfl, hb18⟩
    refine ⟨_, rfl, ?_⟩
    replace r_b_c := r_b_c.step hb18
    replace hk := thenB hk hb18
    refine w_val (v := .tuple #[.string (str ([] : List (BitVec 8))), .int .i64 3]) (y_mv (Ev.t (v := .tuple #[.string (str ([] : List (BitVec 8))), .int .i64 3]) rfl rfl)) ?_
    refine w_val (v := .string (str ([] : List (BitVec 8)))) (y_ext (v := .string (str ([] : List (BitVec 8)))) (Ev.t (v := .tuple #[.string (str ([] : List (BitVec 8))), .int .i64 3]) rfl rfl) rfl) ?_
    refine w_val (v := .int .i64 3) (y_ext (v := .int .i64 3) (Ev.t (v := .tuple #[.string (str ([] : List (BitVec 8))), .int .i64 3]) rfl rfl) rfl) ?_
    refine w_val (v := .string (str ([] : List (BitVec 8)))) (y_as (Ev.t (v := .string (str ([] : List (BitVec 8)))) rfl rfl)) ?_
    refine w_val (v := .int .i64 3) (y_as (Ev.t (v := .int .i64 3) rfl rfl)) ?_
    refine wpList_nil ?_
    refine then_n ?_
    refine wp_seq ?_
    refine wp_region_lit ?_
    refine w_val (v := .int .i64 3) (y_mv (Ev.t (v := .int .i64 3) rfl rfl)) ?_
    refine w_val (v := .bool true) (y_bin (Ev.t (v := .int .i64 3) rfl rfl) (Ev.c (v := .int .i64 0)) b_neq) ?_
    refine w_val (v := .bool true) (y_mv (Ev.t (v := .bool true) rfl rfl)) ?_
    first | with_reducible refine w_skip ?_ ?_ | refine w_skip ?_ ?_
    · exact want_no (j := 2) rfl rfl (Ev.t (v := .bool true) rfl rfl) rfl
    first | with_reducible refine w_skip ?_ ?_ | refine w_skip ?_ ?_
    · exact want_no (j := 2) rfl rfl (Ev.t (v := .bool true) rfl rfl) rfl
    first | with_reducible refine w_skip ?_ ?_ | refine w_skip ?_ ?_
    · exact want_no (j := 2) rfl rfl (Ev.t (v := .bool true) rfl rfl) rfl
    first | with_reducible refine w_skip ?_ ?_ | refine w_skip ?_ ?_
    · exact want_un (j := 5) rfl rfl (Ev.t (v := undef) rfl rfl) rfl
    first | with_reducible refine w_skip ?_ ?_ | refine w_skip ?_ ?_
    · exact want_un (j := 5) rfl rfl (Ev.t (v := undef) rfl rfl) rfl
    first | with_reducible refine w_skip ?_ ?_ | refine w_skip ?_ ?_
    · exact want_un (j := 5) rfl rfl (Ev.t (v := undef) rfl rfl) rfl
    first | with_reducible refine w_skip ?_ ?_ | refine w_skip ?_ ?_
    · exact want_no (j := 2) rfl rfl (Ev.t (v := .bool true) rfl rfl) rfl
    refine w_val (v := .bool true) (y_pick_t (Ev.t (v := .bool true) rfl rfl) (Ev.c (v := .bool true))) ?_
    refine w_val (v := .bool true) (y_as (Ev.t (v := .bool true) rfl rfl)) ?_
    refine wpList_nil ?_
    refine then_n ?_
    refine wp_ret ?_
    refine fin_ret1 rfl (Ev.t (v := .bool true) rfl rfl) ?_
    exact ⟨rfl, hk⟩

set_option maxRecDepth 100000 in
set_option maxHeartbeats 1000000 in
theorem ctrBegins_k (key text : List (BitVec 8)) (hok : ¬ Aes.okKey key.length) (s : List (BitVec 8)) (d : Int) (w0 : World) : Calls Try.prog 10 #[.string (str key), .agg (arr 2 (fun j => if j < 1 then .string (str s) else .int .i64 d)), .string (str text)] w0 fun e w' => e = .returned (.bool true) ∧ Below w0.heap.size w0 w' := by
  refine enter (n := 62) Try.func10 rfl rfl rfl ?_
  have hk : Below w0.heap.size w0 w0 := Below.refl _ _
  refine wp_seq ?_
  refine wp_region_lit ?_
  refine w_box (m := 2) (F := fun j => if j < 1 then .string (str s) else .int .i64 d) (Ev.t (v := .agg (arr 2 (fun j => if j < 1 then .string (str s) else .int .i64 d))) rfl rfl) rfl ?_
  intro b_c w1 hbe_b_c r_b_c hb2
  have ge_b_c : w0.heap.size ≤ b_c := by have := hk.size; omega
  clear hbe_b_c
  replace hk := thenB hk hb2
  refine w_val (v := .bool false) (y_as (Ev.c (v := .bool false))) ?_
  refine wpList_nil ?_
  refine then_n ?_
  refine wp_seq ?_
  refine wp_seq ?_
  refine wp_region_lit ?_
  refine w_call (Try.func18) (by kernel_rfl) rfl m0 (ctrWakes_c  w1) ?_
  rintro _ w3 ⟨rfl, hb4⟩
  refine ⟨_, rfl, ?_⟩
  replace r_b_c := r_b_c.step hb4
  replace hk := thenB hk hb4
  refine w_val (v := .bool false) (y_not (Ev.t (v := .bool true) rfl rfl)) ?_
  refine wpList_nil ?_
  refine then_n ?_
  refine c_ff (Ev.t (v := .bool false) rfl rfl) ?_
  refine wp_skip ?_
  refine then_n ?_
  refine wp_seq ?_
  refine wp_seq ?_
  refine wp_region_lit ?_
  refine w_val (v := .string (str text)) (y_mv (Ev.t (v := .string (str text)) rfl rfl)) ?_
  refine w_val (v := .int .i64 ((text.length : Nat) : Int)) (y_len (Ev.t (v := .string (str text)) rfl rfl) Try.underlying9) ?_
  refine w_val (v := .bool (decide (1000 < ((text.length : Nat) : Int)))) (y_bin (Ev.t (v := .int .i64 ((text.length : Nat) : Int)) rfl rfl) (Ev.c (v := .int .i64 1000)) b_gtr) ?_
  refine wpList_nil ?_
  refine then_n ?_
  refine c_if (p := 1000 < ((text.length : Nat) : Int)) (Ev.t (v := .bool (decide (1000 < ((text.length : Nat) : Int)))) rfl rfl) (fun hc5 => ?_) (fun hc5 => ?_)
  · skip
    refine wp_seq ?_
    refine wp_region_lit ?_
    refine w_val (v := .bool true) (y_as (Ev.c (v := .bool true))) ?_
    refine wpList_nil ?_
    refine then_n ?_
    refine wp_ret ?_
    refine then_r ?_
    refine fin_ret1 rfl (Ev.t (v := .bool true) rfl rfl) ?_
    exact ⟨rfl, hk⟩
  · skip
    refine wp_skip ?_
    refine then_n ?_
    refine wp_seq ?_
    refine wp_region_lit ?_
    refine w_val (v := .string (str key)) (y_mv (Ev.t (v := .string (str key)) rfl rfl)) ?_
    refine w_val (v := .pointer (some ⟨b_c, 0, none⟩)) (y_off (y_fa (Ev.t (v := .pointer (some ⟨b_c, 0, none⟩)) rfl rfl) (CtrXorsWT.fa34_0 _ _)) (by first | rfl | omega)) ?_
    refine w_val (v := .string (str s)) (y_ld (Ev.t (v := .pointer (some ⟨b_c, 0, none⟩)) rfl rfl) CtrXorsWT.sc9 (r_b_c.val (v := .string (str s)) (by omega) ((if_pos (by omega)).trans (by first | with_reducible rfl | (with_reducible congr 1 <;> omega) | (with_reducible congr 2 <;> omega) | (with_reducible congr 3 <;> omega) | rfl)))) ?_
    refine w_val (v := .pointer (some ⟨b_c, 1, none⟩)) (y_off (y_fa (Ev.t (v := .pointer (some ⟨b_c, 0, none⟩)) rfl rfl) (CtrXorsWT.fa34_1 _ _)) (by first | rfl | omega)) ?_
    refine w_val (v := .int .i64 d) (y_ld (Ev.t (v := .pointer (some ⟨b_c, 1, none⟩)) rfl rfl) CtrXorsWT.sc3 (r_b_c.val (v := .int .i64 d) (by omega) ((if_neg (by omega)).trans (by first | with_reducible rfl | (with_reducible congr 1 <;> omega) | (with_reducible congr 2 <;> omega) | (with_reducible congr 3 <;> omega) | rfl)))) ?_
    refine w_val (v := .string (str text)) (y_mv (Ev.t (v := .string (str text)) rfl rfl)) ?_
    refine w_call (Try.func21) (by kernel_rfl) rfl (m4 (Ev.t (v := .string (str key)) rfl rfl) (Ev.t (v := .string (str s)) rfl rfl) (Ev.t (v := .int .i64 d) rfl rfl) (Ev.t (v := .string (str text)) rfl rfl)) (ctrXor_k key hok s d text w3) ?_
    rintro _ w6 ⟨rfl, hb7⟩
    refine ⟨_, rfl, ?_⟩
    replace r_b_c := r_b_c.step hb7
    replace hk := thenB hk hb7
    refine w_val (v := .tuple #[.string (str ([] : List (BitVec 8))), .int .i64 3]) (y_mv (Ev.t (v := .tuple #[.string (str ([] : List (BitVec 8))), .int .i64 3]) rfl rfl)) ?_
    refine w_val (v := .string (str ([] : List (BitVec 8)))) (y_ext (v := .string (str ([] : List (BitVec 8)))) (Ev.t (v := .tuple #[.string (str ([] : List (BitVec 8))), .int .i64 3]) rfl rfl) rfl) ?_
    refine w_val (v := .int .i64 3) (y_ext (v := .int .i64 3) (Ev.t (v := .tuple #[.string (str ([] : List (BitVec 8))), .int .i64 3]) rfl rfl) rfl) ?_
    refine w_val (v := .string (str ([] : List (BitVec 8)))) (y_as (Ev.t (v := .string (str ([] : List (BitVec 8)))) rfl rfl)) ?_
    refine w_val (v := .int .i64 3) (y_as (Ev.t (v := .int .i64 3) rfl rfl)) ?_
    refine wpList_nil ?_
    refine then_n ?_
    refine wp_seq ?_
    refine region_dc (Nat.testBit 0) 16 CtrXorsWT.mixed rfl ?_
    intro w8 hb9
    replace r_b_c := r_b_c.step hb9
    replace hk := thenB hk hb9
    have hS : Cls w8 w8 := Below.refl _ _
    refine d_pure (v := .string (str key)) 0 rfl (by kernel_rfl) (by kernel_rfl) (by kernel_rfl) (by kernel_rfl) (fun _ _ _ h => h) (fun w' => y_mv (Ev.t (v := .string (str key)) rfl rfl)) ?_
    refine d_pure (v := .pointer (some ⟨b_c, 0, none⟩)) 1 rfl (by kernel_rfl) (by kernel_rfl) (by kernel_rfl) (by kernel_rfl) (fun _ _ _ h => h) (fun w' => y_off (y_fa (Ev.t (v := .pointer (some ⟨b_c, 0, none⟩)) rfl rfl) (CtrXorsWT.fa34_0 _ _)) (by first | rfl | omega)) ?_
    refine d_take (v := .string (str s)) 2 (Nat.testBit 64516) rfl (by kernel_rfl) (by kernel_rfl) (by kernel_rfl) (by kernel_rfl) (by kernel_rfl) (by kernel_rfl) (fun _ _ _ h => h) hS (fun w' hw' => y_ld (Ev.t (v := .pointer (some ⟨b_c, 0, none⟩)) rfl rfl) CtrXorsWT.sc9 (cls_cell (r_b_c.val (v := .string (str s)) (by omega) ((if_pos (by omega)).trans (by first | with_reducible rfl | (with_reducible congr 1 <;> omega) | (with_reducible congr 2 <;> omega) | (with_reducible congr 3 <;> omega) | rfl))) r_b_c.lt w' hw')) ?_
    refine d_pure (v := .pointer (some ⟨b_c, 1, none⟩)) 3 rfl (by kernel_rfl) (by kernel_rfl) (by kernel_rfl) (by kernel_rfl) (fun _ _ _ h => h) (fun w' => y_off (y_fa (Ev.t (v := .pointer (some ⟨b_c, 0, none⟩)) rfl rfl) (CtrXorsWT.fa34_1 _ _)) (by first | rfl | omega)) ?_
    refine d_take (v := .int .i64 d) 4 (Nat.testBit 64528) rfl (by kernel_rfl) (by kernel_rfl) (by kernel_rfl) (by kernel_rfl) (by kernel_rfl) (by kernel_rfl) (fun _ _ _ h => h) hS (fun w' hw' => y_ld (Ev.t (v := .pointer (some ⟨b_c, 1, none⟩)) rfl rfl) CtrXorsWT.sc3 (cls_cell (r_b_c.val (v := .int .i64 d) (by omega) ((if_neg (by omega)).trans (by first | with_reducible rfl | (with_reducible congr 1 <;> omega) | (with_reducible congr 2 <;> omega) | (with_reducible congr 3 <;> omega) | rfl))) r_b_c.lt w' hw')) ?_
    refine d_pure (v := .string (str text)) 5 rfl (by kernel_rfl) (by kernel_rfl) (by kernel_rfl) (by kernel_rfl) (fun _ _ _ h => h) (fun w' => y_mv (Ev.t (v := .string (str text)) rfl rfl)) ?_
    refine d_pure (v := .string (str text)) 6 rfl (by kernel_rfl) (by kernel_rfl) (by kernel_rfl) (by kernel_rfl) (fun _ _ _ h => h) (fun w' => y_mv (Ev.t (v := .string (str text)) rfl rfl)) ?_
    refine d_pure (v := .int .i64 ((text.length : Nat) : Int)) 7 rfl (by kernel_rfl) (by kernel_rfl) (by kernel_rfl) (by kernel_rfl) (fun _ _ _ h => h) (fun w' => y_len (Ev.t (v := .string (str text)) rfl rfl) Try.underlying9) ?_
    refine d_pure (v := .int .i64 (((text.length : Nat) : Int) / 2)) 8 rfl (by kernel_rfl) (by kernel_rfl) (by kernel_rfl) (by kernel_rfl) (fun _ _ _ h => h) (fun w' => y_bin (Ev.t (v := .int .i64 ((text.length : Nat) : Int)) rfl rfl) (Ev.c (v := .int .i64 2)) (b_quo (by omega))) ?_
    refine d_pure (v := .string (str (text.take (text.length / 2)))) 9 rfl (by kernel_rfl) (by kernel_rfl) (by kernel_rfl) (by kernel_rfl) (fun _ _ _ h => h) (fun w' => y_sls (Ev.t (v := .string (str text)) rfl rfl) evo.no (evo.s (Ev.t (v := .int .i64 (((text.length : Nat) : Int) / 2)) rfl rfl)) Try.underlying9 (bnd_h (h := (text.length / 2)) (by omega) (by omega))) ?_
    refine d_one 10 (by kernel_rfl) rfl ?_
    refine w_call (Try.func21) (by kernel_rfl) rfl (m4 (Ev.t (v := .string (str key)) rfl rfl) (Ev.t (v := .string (str s)) rfl rfl) (Ev.t (v := .int .i64 d) rfl rfl) (Ev.t (v := .string (str (text.take (text.length / 2)))) rfl rfl)) (ctrXor_k key hok s d (text.take (text.length / 2)) w8) ?_
    rintro _ w10 ⟨rfl, hb11⟩
    refine ⟨_, rfl, ?_⟩
    replace r_b_c := r_b_c.step hb11
    replace hk := thenB hk hb11
    replace hS := thenB hS hb11
    refine wpList_nil ?_
    refine then_n ⟨fun _ h => thenB h (by assumption), ?_⟩
    refine d_pure (v := .tuple #[.string (str ([] : List (BitVec 8))), .int .i64 3]) 11 rfl (by kernel_rfl) (by kernel_rfl) (by kernel_rfl) (by kernel_rfl) (fun _ _ _ h => h) (fun w' => y_mv (Ev.t (v := .tuple #[.string (str ([] : List (BitVec 8))), .int .i64 3]) rfl rfl)) ?_
    refine d_pure (v := .string (str ([] : List (BitVec 8)))) 12 rfl (by kernel_rfl) (by kernel_rfl) (by kernel_rfl) (by kernel_rfl) (fun _ _ _ h => h) (fun w' => y_ext (v := .string (str ([] : List (BitVec 8)))) (Ev.t (v := .tuple #[.string (str ([] : List (BitVec 8))), .int .i64 3]) rfl rfl) rfl) ?_
    refine d_pure (v := .int .i64 3) 13 rfl (by kernel_rfl) (by kernel_rfl) (by kernel_rfl) (by kernel_rfl) (fun _ _ _ h => h) (fun w' => y_ext (v := .int .i64 3) (Ev.t (v := .tuple #[.string (str ([] : List (BitVec 8))), .int .i64 3]) rfl rfl) rfl) ?_
    refine d_pure (v := .string (str ([] : List (BitVec 8)))) 14 rfl (by kernel_rfl) (by kernel_rfl) (by kernel_rfl) (by kernel_rfl) (fun _ _ _ h => h) (fun w' => y_as (Ev.t (v := .string (str ([] : List (BitVec 8)))) rfl rfl)) ?_
    refine d_pure (v := .int .i64 3) 15 rfl (by kernel_rfl) (by kernel_rfl) (by kernel_rfl) (by kernel_rfl) (fun _ _ _ h => h) (fun w' => y_as (Ev.t (v := .int .i64 3) rfl rfl)) ?_
    refine d_done (by kernel_rfl) ?_
    clear hS
    refine then_n ?_
    refine wp_seq ?_
    refine wp_region_lit ?_
    refine w_val (v := .int .i64 3) (y_mv (Ev.t (v := .int .i64 3) rfl rfl)) ?_
    refine w_val (v := .int .i64 3) (y_mv (Ev.t (v := .int .i64 3) rfl rfl)) ?_
    refine w_val (v := .bool true) (y_bin (Ev.t (v := .int .i64 3) rfl rfl) (Ev.t (v := .int .i64 3) rfl rfl) b_eql) ?_
    refine w_val (v := .bool true) (y_mv (Ev.t (v := .bool true) rfl rfl)) ?_
    refine w_val_g (v := .int .i64 3) (want_yes (j := 3) rfl rfl (Ev.t (v := .bool true) rfl rfl) rfl) (y_mv (Ev.t (v := .int .i64 3) rfl rfl)) ?_
    refine w_val_g (v := .bool true) (want_yes (j := 3) rfl rfl (Ev.t (v := .bool true) rfl rfl) rfl) (y_bin (Ev.t (v := .int .i64 3) rfl rfl) (Ev.c (v := .int .i64 0)) b_neq) ?_
    refine w_val_g (v := .bool true) (want_yes (j := 3) rfl rfl (Ev.t (v := .bool true) rfl rfl) rfl) (y_mv (Ev.t (v := .bool true) rfl rfl)) ?_
    first | with_reducible refine w_skip ?_ ?_ | refine w_skip ?_ ?_
    · exact want_no (j := 6) rfl rfl (Ev.t (v := .bool true) rfl rfl) rfl
    first | with_reducible refine w_skip ?_ ?_ | refine w_skip ?_ ?_
    · exact want_no (j := 6) rfl rfl (Ev.t (v := .bool true) rfl rfl) rfl
    first | with_reducible refine w_skip ?_ ?_ | refine w_skip ?_ ?_
    · exact want_no (j := 6) rfl rfl (Ev.t (v := .bool true) rfl rfl) rfl
    first | with_reducible refine w_skip ?_ ?_ | refine w_skip ?_ ?_
    · exact want_no (j := 6) rfl rfl (Ev.t (v := .bool true) rfl rfl) rfl
    first | with_reducible refine w_skip ?_ ?_ | refine w_skip ?_ ?_
    · exact want_no (j := 6) rfl rfl (Ev.t (v := .bool true) rfl rfl) rfl
    first | with_reducible refine w_skip ?_ ?_ | refine w_skip ?_ ?_
    · exact want_no (j := 6) rfl rfl (Ev.t (v := .bool true) rfl rfl) rfl
    first | with_reducible refine w_skip ?_ ?_ | refine w_skip ?_ ?_
    · exact want_no (j := 6) rfl rfl (Ev.t (v := .bool true) rfl rfl) rfl
    first | with_reducible refine w_skip ?_ ?_ | refine w_skip ?_ ?_
    · exact want_un (j := 13) rfl rfl (Ev.t (v := undef) rfl rfl) rfl
    first | with_reducible refine w_skip ?_ ?_ | refine w_skip ?_ ?_
    · exact want_un (j := 13) rfl rfl (Ev.t (v := undef) rfl rfl) rfl
    first | with_reducible refine w_skip ?_ ?_ | refine w_skip ?_ ?_
    · exact want_un (j := 13) rfl rfl (Ev.t (v := undef) rfl rfl) rfl
    first | with_reducible refine w_skip ?_ ?_ | refine w_skip ?_ ?_
    · exact want_un (j := 13) rfl rfl (Ev.t (v := undef) rfl rfl) rfl
    first | with_reducible refine w_skip ?_ ?_ | refine w_skip ?_ ?_
    · exact want_un (j := 13) rfl rfl (Ev.t (v := undef) rfl rfl) rfl
    first | with_reducible refine w_skip ?_ ?_ | refine w_skip ?_ ?_
    · exact want_no (j := 6) rfl rfl (Ev.t (v := .bool true) rfl rfl) rfl
    refine w_val_g (v := .bool true) (want_yes (j := 3) rfl rfl (Ev.t (v := .bool true) rfl rfl) rfl) (y_pick_t (Ev.t (v := .bool true) rfl rfl) (Ev.c (v := .bool true))) ?_
    refine w_val (v := .bool true) (y_pick_t (Ev.t (v := .bool true) rfl rfl) (Ev.t (v := .bool true) rfl rfl)) ?_
    refine w_val (v := .bool true) (y_as (Ev.t (v := .bool true) rfl rfl)) ?_
    refine wpList_nil ?_
    refine then_n ?_
    refine wp_ret ?_
    refine fin_ret1 rfl (Ev.t (v := .bool true) rfl rfl) ?_
    exact ⟨rfl, hk⟩

set_option maxRecDepth 100000 in
set_option maxHeartbeats 1000000 in
theorem ctrXors_i (key text : List (BitVec 8)) (hok : Aes.okKey key.length) (s : List (BitVec 8)) (d : Int) (hs : s.length ≠ 16) (w0 : World) : Calls Try.prog 8 #[.string (str key), .agg (arr 2 (fun j => if j < 1 then .string (str s) else .int .i64 d)), .string (str text)] w0 fun e w' => e = .returned (.bool true) ∧ Below w0.heap.size w0 w' := by
  refine enter (n := 72) Try.func8 rfl rfl rfl ?_
  have hk : Below w0.heap.size w0 w0 := Below.refl _ _
  refine wp_seq ?_
  refine wp_region_lit ?_
  refine w_box (m := 2) (F := fun j => if j < 1 then .string (str s) else .int .i64 d) (Ev.t (v := .agg (arr 2 (fun j => if j < 1 then .string (str s) else .int .i64 d))) rfl rfl) rfl ?_
  intro b_c w1 hbe_b_c r_b_c hb2
  have ge_b_c : w0.heap.size ≤ b_c := by have := hk.size; omega
  clear hbe_b_c
  replace hk := thenB hk hb2
  refine w_val (v := .bool false) (y_as (Ev.c (v := .bool false))) ?_
  refine wpList_nil ?_
  refine then_n ?_
  refine wp_seq ?_
  refine wp_seq ?_
  refine wp_region_lit ?_
  refine w_call (Try.func18) (by kernel_rfl) rfl m0 (ctrWakes_c  w1) ?_
  rintro _ w3 ⟨rfl, hb4⟩
  refine ⟨_, rfl, ?_⟩
  replace r_b_c := r_b_c.step hb4
  replace hk := thenB hk hb4
  refine w_val (v := .bool false) (y_not (Ev.t (v := .bool true) rfl rfl)) ?_
  refine wpList_nil ?_
  refine then_n ?_
  refine c_ff (Ev.t (v := .bool false) rfl rfl) ?_
  refine wp_skip ?_
  refine then_n ?_
  refine wp_seq ?_
  refine wp_seq ?_
  refine wp_region_lit ?_
  refine w_val (v := .string (str text)) (y_mv (Ev.t (v := .string (str text)) rfl rfl)) ?_
  refine w_val (v := .int .i64 ((text.length : Nat) : Int)) (y_len (Ev.t (v := .string (str text)) rfl rfl) Try.underlying9) ?_
  refine w_val (v := .bool (decide (3000 < ((text.length : Nat) : Int)))) (y_bin (Ev.t (v := .int .i64 ((text.length : Nat) : Int)) rfl rfl) (Ev.c (v := .int .i64 3000)) b_gtr) ?_
  refine w_val (v := .bool (decide (3000 < ((text.length : Nat) : Int)))) (y_mv (Ev.t (v := .bool (decide (3000 < ((text.length : Nat) : Int)))) rfl rfl)) ?_
  by_cases hc5 : 3000 < ((text.length : Nat) : Int)
  · skip
    refine w_val_g (v := .string (str text)) (want_yes (j := 3) rfl rfl (Ev.t (v := .bool true) (Eq.trans (b := .bool (decide (3000 < ((text.length : Nat) : Int)))) rfl (by rw [decide_eq_true hc5])) rfl) rfl) (y_mv (Ev.t (v := .string (str text)) rfl rfl)) ?_
    refine w_val_g (v := .int .i64 ((text.length : Nat) : Int)) (want_yes (j := 3) rfl rfl (Ev.t (v := .bool true) (Eq.trans (b := .bool (decide (3000 < ((text.length : Nat) : Int)))) rfl (by rw [decide_eq_true hc5])) rfl) rfl) (y_len (Ev.t (v := .string (str text)) rfl rfl) Try.underlying9) ?_
    refine w_val_g (v := .bool (decide (((text.length : Nat) : Int) ≤ 70000))) (want_yes (j := 3) rfl rfl (Ev.t (v := .bool true) (Eq.trans (b := .bool (decide (3000 < ((text.length : Nat) : Int)))) rfl (by rw [decide_eq_true hc5])) rfl) rfl) (y_bin (Ev.t (v := .int .i64 ((text.length : Nat) : Int)) rfl rfl) (Ev.c (v := .int .i64 70000)) b_leq) ?_
    refine w_val (v := .bool (decide (((text.length : Nat) : Int) ≤ 70000))) (y_pick_t (Ev.t (v := .bool true) (Eq.trans (b := .bool (decide (3000 < ((text.length : Nat) : Int)))) rfl (by rw [decide_eq_true hc5])) rfl) (Ev.t (v := .bool (decide (((text.length : Nat) : Int) ≤ 70000))) rfl rfl)) ?_
    refine wpList_nil ?_
    refine then_n ?_
    refine c_if (p := ((text.length : Nat) : Int) ≤ 70000) (Ev.t (v := .bool (decide (((text.length : Nat) : Int) ≤ 70000))) rfl rfl) (fun hc6 => ?_) (fun hc6 => ?_)
    · skip
      refine wp_seq ?_
      refine wp_region_lit ?_
      refine w_val (v := .bool true) (y_as (Ev.c (v := .bool true))) ?_
      refine wpList_nil ?_
      refine then_n ?_
      refine wp_ret ?_
      refine then_r ?_
      refine fin_ret1 rfl (Ev.t (v := .bool true) rfl rfl) ?_
      exact ⟨rfl, hk⟩
    · skip
      refine wp_skip ?_
      refine then_n ?_
      refine wp_seq ?_
      refine wp_region_lit ?_
      refine w_val (v := .string (str key)) (y_mv (Ev.t (v := .string (str key)) rfl rfl)) ?_
      refine w_val (v := .pointer (some ⟨b_c, 0, none⟩)) (y_off (y_fa (Ev.t (v := .pointer (some ⟨b_c, 0, none⟩)) rfl rfl) (CtrXorsWT.fa34_0 _ _)) (by first | rfl | omega)) ?_
      refine w_val (v := .string (str s)) (y_ld (Ev.t (v := .pointer (some ⟨b_c, 0, none⟩)) rfl rfl) CtrXorsWT.sc9 (r_b_c.val (v := .string (str s)) (by omega) ((if_pos (by omega)).trans (by first | with_reducible rfl | (with_reducible congr 1 <;> omega) | (with_reducible congr 2 <;> omega) | (with_reducible congr 3 <;> omega) | rfl)))) ?_
      refine w_val (v := .pointer (some ⟨b_c, 1, none⟩)) (y_off (y_fa (Ev.t (v := .pointer (some ⟨b_c, 0, none⟩)) rfl rfl) (CtrXorsWT.fa34_1 _ _)) (by first | rfl | omega)) ?_
      refine w_val (v := .int .i64 d) (y_ld (Ev.t (v := .pointer (some ⟨b_c, 1, none⟩)) rfl rfl) CtrXorsWT.sc3 (r_b_c.val (v := .int .i64 d) (by omega) ((if_neg (by omega)).trans (by first | with_reducible rfl | (with_reducible congr 1 <;> omega) | (with_reducible congr 2 <;> omega) | (with_reducible congr 3 <;> omega) | rfl)))) ?_
      refine w_val (v := .string (str text)) (y_mv (Ev.t (v := .string (str text)) rfl rfl)) ?_
      refine w_call (Try.func21) (by kernel_rfl) rfl (m4 (Ev.t (v := .string (str key)) rfl rfl) (Ev.t (v := .string (str s)) rfl rfl) (Ev.t (v := .int .i64 d) rfl rfl) (Ev.t (v := .string (str text)) rfl rfl)) (ctrXor_i key text hok s d hs w3) ?_
      rintro _ w7 ⟨rfl, hb8⟩
      refine ⟨_, rfl, ?_⟩
      replace r_b_c := r_b_c.step hb8
      replace hk := thenB hk hb8
      refine w_val (v := .tuple #[.string (str ([] : List (BitVec 8))), .int .i64 4]) (y_mv (Ev.t (v := .tuple #[.string (str ([] : List (BitVec 8))), .int .i64 4]) rfl rfl)) ?_
      refine w_val (v := .string (str ([] : List (BitVec 8)))) (y_ext (v := .string (str ([] : List (BitVec 8)))) (Ev.t (v := .tuple #[.string (str ([] : List (BitVec 8))), .int .i64 4]) rfl rfl) rfl) ?_
      refine w_val (v := .int .i64 4) (y_ext (v := .int .i64 4) (Ev.t (v := .tuple #[.string (str ([] : List (BitVec 8))), .int .i64 4]) rfl rfl) rfl) ?_
      refine w_val (v := .string (str ([] : List (BitVec 8)))) (y_as (Ev.t (v := .string (str ([] : List (BitVec 8)))) rfl rfl)) ?_
      refine w_val (v := .int .i64 4) (y_as (Ev.t (v := .int .i64 4) rfl rfl)) ?_
      refine wpList_nil ?_
      refine then_n ?_
      refine wp_seq ?_
      refine wp_region_lit ?_
      refine w_val (v := .string (str key)) (y_mv (Ev.t (v := .string (str key)) rfl rfl)) ?_
      refine w_val (v := .pointer (some ⟨b_c, 0, none⟩)) (y_off (y_fa (Ev.t (v := .pointer (some ⟨b_c, 0, none⟩)) rfl rfl) (CtrXorsWT.fa34_0 _ _)) (by first | rfl | omega)) ?_
      refine w_val (v := .string (str s)) (y_ld (Ev.t (v := .pointer (some ⟨b_c, 0, none⟩)) rfl rfl) CtrXorsWT.sc9 (r_b_c.val (v := .string (str s)) (by omega) ((if_pos (by omega)).trans (by first | with_reducible rfl | (with_reducible congr 1 <;> omega) | (with_reducible congr 2 <;> omega) | (with_reducible congr 3 <;> omega) | rfl)))) ?_
      refine w_val (v := .pointer (some ⟨b_c, 1, none⟩)) (y_off (y_fa (Ev.t (v := .pointer (some ⟨b_c, 0, none⟩)) rfl rfl) (CtrXorsWT.fa34_1 _ _)) (by first | rfl | omega)) ?_
      refine w_val (v := .int .i64 d) (y_ld (Ev.t (v := .pointer (some ⟨b_c, 1, none⟩)) rfl rfl) CtrXorsWT.sc3 (r_b_c.val (v := .int .i64 d) (by omega) ((if_neg (by omega)).trans (by first | with_reducible rfl | (with_reducible congr 1 <;> omega) | (with_reducible congr 2 <;> omega) | (with_reducible congr 3 <;> omega) | rfl)))) ?_
      refine w_val (v := .string (str text)) (y_mv (Ev.t (v := .string (str text)) rfl rfl)) ?_
      refine w_call (Try.func22) (by kernel_rfl) rfl (m4 (Ev.t (v := .string (str key)) rfl rfl) (Ev.t (v := .string (str s)) rfl rfl) (Ev.t (v := .int .i64 d) rfl rfl) (Ev.t (v := .string (str text)) rfl rfl)) (refCtr_i key text hok s d hs w7) ?_
      rintro _ w9 ⟨rfl, hb10⟩
      refine ⟨_, rfl, ?_⟩
      replace r_b_c := r_b_c.step hb10
      replace hk := thenB hk hb10
      refine w_val (v := .tuple #[.string (str ([] : List (BitVec 8))), .int .i64 4]) (y_mv (Ev.t (v := .tuple #[.string (str ([] : List (BitVec 8))), .int .i64 4]) rfl rfl)) ?_
      refine w_val (v := .string (str ([] : List (BitVec 8)))) (y_ext (v := .string (str ([] : List (BitVec 8)))) (Ev.t (v := .tuple #[.string (str ([] : List (BitVec 8))), .int .i64 4]) rfl rfl) rfl) ?_
      refine w_val (v := .int .i64 4) (y_ext (v := .int .i64 4) (Ev.t (v := .tuple #[.string (str ([] : List (BitVec 8))), .int .i64 4]) rfl rfl) rfl) ?_
      refine w_val (v := .string (str ([] : List (BitVec 8)))) (y_as (Ev.t (v := .string (str ([] : List (BitVec 8)))) rfl rfl)) ?_
      refine w_val (v := .int .i64 4) (y_as (Ev.t (v := .int .i64 4) rfl rfl)) ?_
      refine wpList_nil ?_
      refine then_n ?_
      refine wp_seq ?_
      refine wp_seq ?_
      refine wp_region_lit ?_
      refine w_val (v := .string (str ([] : List (BitVec 8)))) (y_mv (Ev.t (v := .string (str ([] : List (BitVec 8)))) rfl rfl)) ?_
      refine w_val (v := .string (str ([] : List (BitVec 8)))) (y_mv (Ev.t (v := .string (str ([] : List (BitVec 8)))) rfl rfl)) ?_
      refine w_val (v := .bool false) (y_bin (Ev.t (v := .string (str ([] : List (BitVec 8)))) rfl rfl) (Ev.t (v := .string (str ([] : List (BitVec 8)))) rfl rfl) b_nes_same) ?_
      refine w_val (v := .bool false) (y_mv (Ev.t (v := .bool false) rfl rfl)) ?_
      refine w_val_g (v := .int .i64 4) (want_yes (j := 3) rfl rfl (Ev.t (v := .bool false) rfl rfl) rfl) (y_mv (Ev.t (v := .int .i64 4) rfl rfl)) ?_
      refine w_val_g (v := .int .i64 4) (want_yes (j := 3) rfl rfl (Ev.t (v := .bool false) rfl rfl) rfl) (y_mv (Ev.t (v := .int .i64 4) rfl rfl)) ?_
      refine w_val_g (v := .bool false) (want_yes (j := 3) rfl rfl (Ev.t (v := .bool false) rfl rfl) rfl) (y_bin (Ev.t (v := .int .i64 4) rfl rfl) (Ev.t (v := .int .i64 4) rfl rfl) b_neq) ?_
      refine w_val (v := .bool false) (y_pick_f (Ev.t (v := .bool false) rfl rfl) (Ev.t (v := .bool false) rfl rfl)) ?_
      refine wpList_nil ?_
      refine then_n ?_
      refine c_ff (Ev.t (v := .bool false) rfl rfl) ?_
      refine wp_skip ?_
      refine then_n ?_
      refine wp_seq ?_
      refine wp_region_lit ?_
      refine w_val (v := .string (str key)) (y_mv (Ev.t (v := .string (str key)) rfl rfl)) ?_
      refine w_val (v := .pointer (some ⟨b_c, 0, none⟩)) (y_off (y_fa (Ev.t (v := .pointer (some ⟨b_c, 0, none⟩)) rfl rfl) (CtrXorsWT.fa34_0 _ _)) (by first | rfl | omega)) ?_
      refine w_val (v := .string (str s)) (y_ld (Ev.t (v := .pointer (some ⟨b_c, 0, none⟩)) rfl rfl) CtrXorsWT.sc9 (r_b_c.val (v := .string (str s)) (by omega) ((if_pos (by omega)).trans (by first | with_reducible rfl | (with_reducible congr 1 <;> omega) | (with_reducible congr 2 <;> omega) | (with_reducible congr 3 <;> omega) | rfl)))) ?_
      refine w_val (v := .pointer (some ⟨b_c, 1, none⟩)) (y_off (y_fa (Ev.t (v := .pointer (some ⟨b_c, 0, none⟩)) rfl rfl) (CtrXorsWT.fa34_1 _ _)) (by first | rfl | omega)) ?_
      refine w_val (v := .int .i64 d) (y_ld (Ev.t (v := .pointer (some ⟨b_c, 1, none⟩)) rfl rfl) CtrXorsWT.sc3 (r_b_c.val (v := .int .i64 d) (by omega) ((if_neg (by omega)).trans (by first | with_reducible rfl | (with_reducible congr 1 <;> omega) | (with_reducible congr 2 <;> omega) | (with_reducible congr 3 <;> omega) | rfl)))) ?_
      refine w_val (v := .string (str ([] : List (BitVec 8)))) (y_mv (Ev.t (v := .string (str ([] : List (BitVec 8)))) rfl rfl)) ?_
      refine w_call (Try.func21) (by kernel_rfl) rfl (m4 (Ev.t (v := .string (str key)) rfl rfl) (Ev.t (v := .string (str s)) rfl rfl) (Ev.t (v := .int .i64 d) rfl rfl) (Ev.t (v := .string (str ([] : List (BitVec 8)))) rfl rfl)) (ctrXor_i key ([] : List (BitVec 8)) hok s d hs w9) ?_
      rintro _ w11 ⟨rfl, hb12⟩
      refine ⟨_, rfl, ?_⟩
      replace r_b_c := r_b_c.step hb12
      replace hk := thenB hk hb12
      refine w_val (v := .tuple #[.string (str ([] : List (BitVec 8))), .int .i64 4]) (y_mv (Ev.t (v := .tuple #[.string (str ([] : List (BitVec 8))), .int .i64 4]) rfl rfl)) ?_
      refine w_val (v := .string (str ([] : List (BitVec 8)))) (y_ext (v := .string (str ([] : List (BitVec 8)))) (Ev.t (v := .tuple #[.string (str ([] : List (BitVec 8))), .int .i64 4]) rfl rfl) rfl) ?_
      refine w_val (v := .int .i64 4) (y_ext (v := .int .i64 4) (Ev.t (v := .tuple #[.string (str ([] : List (BitVec 8))), .int .i64 4]) rfl rfl) rfl) ?_
      refine w_val (v := .string (str ([] : List (BitVec 8)))) (y_as (Ev.t (v := .string (str ([] : List (BitVec 8)))) rfl rfl)) ?_
      refine w_val (v := .int .i64 4) (y_as (Ev.t (v := .int .i64 4) rfl rfl)) ?_
      refine wpList_nil ?_
      refine then_n ?_
      refine wp_seq ?_
      refine wp_region_lit ?_
      refine w_val (v := .int .i64 4) (y_mv (Ev.t (v := .int .i64 4) rfl rfl)) ?_
      refine w_val (v := .bool true) (y_bin (Ev.t (v := .int .i64 4) rfl rfl) (Ev.c (v := .int .i64 0)) b_neq) ?_
      refine w_val (v := .bool true) (y_mv (Ev.t (v := .bool true) rfl rfl)) ?_
      first | with_reducible refine w_skip ?_ ?_ | refine w_skip ?_ ?_
      · exact want_no (j := 2) rfl rfl (Ev.t (v := .bool true) rfl rfl) rfl
      first | with_reducible refine w_skip ?_ ?_ | refine w_skip ?_ ?_
      · exact want_no (j := 2) rfl rfl (Ev.t (v := .bool true) rfl rfl) rfl
      first | with_reducible refine w_skip ?_ ?_ | refine w_skip ?_ ?_
      · exact want_no (j := 2) rfl rfl (Ev.t (v := .bool true) rfl rfl) rfl
      first | with_reducible refine w_skip ?_ ?_ | refine w_skip ?_ ?_
      · exact want_un (j := 5) rfl rfl (Ev.t (v := undef) rfl rfl) rfl
      first | with_reducible refine w_skip ?_ ?_ | refine w_skip ?_ ?_
      · exact want_un (j := 5) rfl rfl (Ev.t (v := undef) rfl rfl) rfl
      first | with_reducible refine w_skip ?_ ?_ | refine w_skip ?_ ?_
      · exact want_un (j := 5) rfl rfl (Ev.t (v := undef) rfl rfl) rfl
      first | with_reducible refine w_skip ?_ ?_ | refine w_skip ?_ ?_
      · exact want_no (j := 2) rfl rfl (Ev.t (v := .bool true) rfl rfl) rfl
      refine w_val (v := .bool true) (y_pick_t (Ev.t (v := .bool true) rfl rfl) (Ev.c (v := .bool true))) ?_
      refine w_val (v := .bool true) (y_as (Ev.t (v := .bool true) rfl rfl)) ?_
      refine wpList_nil ?_
      refine then_n ?_
      refine wp_ret ?_
      refine fin_ret1 rfl (Ev.t (v := .bool true) rfl rfl) ?_
      exact ⟨rfl, hk⟩
  · skip
    first | with_reducible refine w_skip ?_ ?_ | refine w_skip ?_ ?_
    · exact want_no (j := 3) rfl rfl (Ev.t (v := .bool false) (Eq.trans (b := .bool (decide (3000 < ((text.length : Nat) : Int)))) rfl (by rw [decide_eq_false hc5])) rfl) rfl
    first | with_reducible refine w_skip ?_ ?_ | refine w_skip ?_ ?_
    · exact want_no (j := 3) rfl rfl (Ev.t (v := .bool false) (Eq.trans (b := .bool (decide (3000 < ((text.length : Nat) : Int)))) rfl (by rw [decide_eq_false hc5])) rfl) rfl
    first | with_reducible refine w_skip ?_ ?_ | refine w_skip ?_ ?_
    · exact want_no (j := 3) rfl rfl (Ev.t (v := .bool false) (Eq.trans (b := .bool (decide (3000 < ((text.length : Nat) : Int)))) rfl (by rw [decide_eq_false hc5])) rfl) rfl
    refine w_val (v := .bool false) (y_pick_f (Ev.t (v := .bool false) (Eq.trans (b := .bool (decide (3000 < ((text.length : Nat) : Int)))) rfl (by rw [decide_eq_false hc5])) rfl) (Ev.c (v := .bool false))) ?_
    refine wpList_nil ?_
    refine then_n ?_
    refine c_ff (Ev.t (v := .bool false) rfl rfl) ?_
    refine wp_skip ?_
    refine then_n ?_
    refine wp_seq ?_
    refine wp_region_lit ?_
    refine w_val (v := .string (str key)) (y_mv (Ev.t (v := .string (str key)) rfl rfl)) ?_
    refine w_val (v := .pointer (some ⟨b_c, 0, none⟩)) (y_off (y_fa (Ev.t (v := .pointer (some ⟨b_c, 0, none⟩)) rfl rfl) (CtrXorsWT.fa34_0 _ _)) (by first | rfl | omega)) ?_
    refine w_val (v := .string (str s)) (y_ld (Ev.t (v := .pointer (some ⟨b_c, 0, none⟩)) rfl rfl) CtrXorsWT.sc9 (r_b_c.val (v := .string (str s)) (by omega) ((if_pos (by omega)).trans (by first | with_reducible rfl | (with_reducible congr 1 <;> omega) | (with_reducible congr 2 <;> omega) | (with_reducible congr 3 <;> omega) | rfl)))) ?_
    refine w_val (v := .pointer (some ⟨b_c, 1, none⟩)) (y_off (y_fa (Ev.t (v := .pointer (some ⟨b_c, 0, none⟩)) rfl rfl) (CtrXorsWT.fa34_1 _ _)) (by first | rfl | omega)) ?_
    refine w_val (v := .int .i64 d) (y_ld (Ev.t (v := .pointer (some ⟨b_c, 1, none⟩)) rfl rfl) CtrXorsWT.sc3 (r_b_c.val (v := .int .i64 d) (by omega) ((if_neg (by omega)).trans (by first | with_reducible rfl | (with_reducible congr 1 <;> omega) | (with_reducible congr 2 <;> omega) | (with_reducible congr 3 <;> omega) | rfl)))) ?_
    refine w_val (v := .string (str text)) (y_mv (Ev.t (v := .string (str text)) rfl rfl)) ?_
    refine w_call (Try.func21) (by kernel_rfl) rfl (m4 (Ev.t (v := .string (str key)) rfl rfl) (Ev.t (v := .string (str s)) rfl rfl) (Ev.t (v := .int .i64 d) rfl rfl) (Ev.t (v := .string (str text)) rfl rfl)) (ctrXor_i key text hok s d hs w3) ?_
    rintro _ w13 ⟨rfl, hb14⟩
    refine ⟨_, rfl, ?_⟩
    replace r_b_c := r_b_c.step hb14
    replace hk := thenB hk hb14
    refine w_val (v := .tuple #[.string (str ([] : List (BitVec 8))), .int .i64 4]) (y_mv (Ev.t (v := .tuple #[.string (str ([] : List (BitVec 8))), .int .i64 4]) rfl rfl)) ?_
    refine w_val (v := .string (str ([] : List (BitVec 8)))) (y_ext (v := .string (str ([] : List (BitVec 8)))) (Ev.t (v := .tuple #[.string (str ([] : List (BitVec 8))), .int .i64 4]) rfl rfl) rfl) ?_
    refine w_val (v := .int .i64 4) (y_ext (v := .int .i64 4) (Ev.t (v := .tuple #[.string (str ([] : List (BitVec 8))), .int .i64 4]) rfl rfl) rfl) ?_
    refine w_val (v := .string (str ([] : List (BitVec 8)))) (y_as (Ev.t (v := .string (str ([] : List (BitVec 8)))) rfl rfl)) ?_
    refine w_val (v := .int .i64 4) (y_as (Ev.t (v := .int .i64 4) rfl rfl)) ?_
    refine wpList_nil ?_
    refine then_n ?_
    refine wp_seq ?_
    refine wp_region_lit ?_
    refine w_val (v := .string (str key)) (y_mv (Ev.t (v := .string (str key)) rfl rfl)) ?_
    refine w_val (v := .pointer (some ⟨b_c, 0, none⟩)) (y_off (y_fa (Ev.t (v := .pointer (some ⟨b_c, 0, none⟩)) rfl rfl) (CtrXorsWT.fa34_0 _ _)) (by first | rfl | omega)) ?_
    refine w_val (v := .string (str s)) (y_ld (Ev.t (v := .pointer (some ⟨b_c, 0, none⟩)) rfl rfl) CtrXorsWT.sc9 (r_b_c.val (v := .string (str s)) (by omega) ((if_pos (by omega)).trans (by first | with_reducible rfl | (with_reducible congr 1 <;> omega) | (with_reducible congr 2 <;> omega) | (with_reducible congr 3 <;> omega) | rfl)))) ?_
    refine w_val (v := .pointer (some ⟨b_c, 1, none⟩)) (y_off (y_fa (Ev.t (v := .pointer (some ⟨b_c, 0, none⟩)) rfl rfl) (CtrXorsWT.fa34_1 _ _)) (by first | rfl | omega)) ?_
    refine w_val (v := .int .i64 d) (y_ld (Ev.t (v := .pointer (some ⟨b_c, 1, none⟩)) rfl rfl) CtrXorsWT.sc3 (r_b_c.val (v := .int .i64 d) (by omega) ((if_neg (by omega)).trans (by first | with_reducible rfl | (with_reducible congr 1 <;> omega) | (with_reducible congr 2 <;> omega) | (with_reducible congr 3 <;> omega) | rfl)))) ?_
    refine w_val (v := .string (str text)) (y_mv (Ev.t (v := .string (str text)) rfl rfl)) ?_
    refine w_call (Try.func22) (by kernel_rfl) rfl (m4 (Ev.t (v := .string (str key)) rfl rfl) (Ev.t (v := .string (str s)) rfl rfl) (Ev.t (v := .int .i64 d) rfl rfl) (Ev.t (v := .string (str text)) rfl rfl)) (refCtr_i key text hok s d hs w13) ?_
    rintro _ w15 ⟨rfl, hb16⟩
    refine ⟨_, rfl, ?_⟩
    replace r_b_c := r_b_c.step hb16
    replace hk := thenB hk hb16
    refine w_val (v := .tuple #[.string (str ([] : List (BitVec 8))), .int .i64 4]) (y_mv (Ev.t (v := .tuple #[.string (str ([] : List (BitVec 8))), .int .i64 4]) rfl rfl)) ?_
    refine w_val (v := .string (str ([] : List (BitVec 8)))) (y_ext (v := .string (str ([] : List (BitVec 8)))) (Ev.t (v := .tuple #[.string (str ([] : List (BitVec 8))), .int .i64 4]) rfl rfl) rfl) ?_
    refine w_val (v := .int .i64 4) (y_ext (v := .int .i64 4) (Ev.t (v := .tuple #[.string (str ([] : List (BitVec 8))), .int .i64 4]) rfl rfl) rfl) ?_
    refine w_val (v := .string (str ([] : List (BitVec 8)))) (y_as (Ev.t (v := .string (str ([] : List (BitVec 8)))) rfl rfl)) ?_
    refine w_val (v := .int .i64 4) (y_as (Ev.t (v := .int .i64 4) rfl rfl)) ?_
    refine wpList_nil ?_
    refine then_n ?_
    refine wp_seq ?_
    refine wp_seq ?_
    refine wp_region_lit ?_
    refine w_val (v := .string (str ([] : List (BitVec 8)))) (y_mv (Ev.t (v := .string (str ([] : List (BitVec 8)))) rfl rfl)) ?_
    refine w_val (v := .string (str ([] : List (BitVec 8)))) (y_mv (Ev.t (v := .string (str ([] : List (BitVec 8)))) rfl rfl)) ?_
    refine w_val (v := .bool false) (y_bin (Ev.t (v := .string (str ([] : List (BitVec 8)))) rfl rfl) (Ev.t (v := .string (str ([] : List (BitVec 8)))) rfl rfl) b_nes_same) ?_
    refine w_val (v := .bool false) (y_mv (Ev.t (v := .bool false) rfl rfl)) ?_
    refine w_val_g (v := .int .i64 4) (want_yes (j := 3) rfl rfl (Ev.t (v := .bool false) rfl rfl) rfl) (y_mv (Ev.t (v := .int .i64 4) rfl rfl)) ?_
    refine w_val_g (v := .int .i64 4) (want_yes (j := 3) rfl rfl (Ev.t (v := .bool false) rfl rfl) rfl) (y_mv (Ev.t (v := .int .i64 4) rfl rfl)) ?_
    refine w_val_g (v := .bool false) (want_yes (j := 3) rfl rfl (Ev.t (v := .bool false) rfl rfl) rfl) (y_bin (Ev.t (v := .int .i64 4) rfl rfl) (Ev.t (v := .int .i64 4) rfl rfl) b_neq) ?_
    refine w_val (v := .bool false) (y_pick_f (Ev.t (v := .bool false) rfl rfl) (Ev.t (v := .bool false) rfl rfl)) ?_
    refine wpList_nil ?_
    refine then_n ?_
    refine c_ff (Ev.t (v := .bool false) rfl rfl) ?_
    refine wp_skip ?_
    refine then_n ?_
    refine wp_seq ?_
    refine wp_region_lit ?_
    refine w_val (v := .string (str key)) (y_mv (Ev.t (v := .string (str key)) rfl rfl)) ?_
    refine w_val (v := .pointer (some ⟨b_c, 0, none⟩)) (y_off (y_fa (Ev.t (v := .pointer (some ⟨b_c, 0, none⟩)) rfl rfl) (CtrXorsWT.fa34_0 _ _)) (by first | rfl | omega)) ?_
    refine w_val (v := .string (str s)) (y_ld (Ev.t (v := .pointer (some ⟨b_c, 0, none⟩)) rfl rfl) CtrXorsWT.sc9 (r_b_c.val (v := .string (str s)) (by omega) ((if_pos (by omega)).trans (by first | with_reducible rfl | (with_reducible congr 1 <;> omega) | (with_reducible congr 2 <;> omega) | (with_reducible congr 3 <;> omega) | rfl)))) ?_
    refine w_val (v := .pointer (some ⟨b_c, 1, none⟩)) (y_off (y_fa (Ev.t (v := .pointer (some ⟨b_c, 0, none⟩)) rfl rfl) (CtrXorsWT.fa34_1 _ _)) (by first | rfl | omega)) ?_
    refine w_val (v := .int .i64 d) (y_ld (Ev.t (v := .pointer (some ⟨b_c, 1, none⟩)) rfl rfl) CtrXorsWT.sc3 (r_b_c.val (v := .int .i64 d) (by omega) ((if_neg (by omega)).trans (by first | with_reducible rfl | (with_reducible congr 1 <;> omega) | (with_reducible congr 2 <;> omega) | (with_reducible congr 3 <;> omega) | rfl)))) ?_
    refine w_val (v := .string (str ([] : List (BitVec 8)))) (y_mv (Ev.t (v := .string (str ([] : List (BitVec 8)))) rfl rfl)) ?_
    refine w_call (Try.func21) (by kernel_rfl) rfl (m4 (Ev.t (v := .string (str key)) rfl rfl) (Ev.t (v := .string (str s)) rfl rfl) (Ev.t (v := .int .i64 d) rfl rfl) (Ev.t (v := .string (str ([] : List (BitVec 8)))) rfl rfl)) (ctrXor_i key ([] : List (BitVec 8)) hok s d hs w15) ?_
    rintro _ w17 ⟨rfl, hb18⟩
    refine ⟨_, rfl, ?_⟩
    replace r_b_c := r_b_c.step hb18
    replace hk := thenB hk hb18
    refine w_val (v := .tuple #[.string (str ([] : List (BitVec 8))), .int .i64 4]) (y_mv (Ev.t (v := .tuple #[.string (str ([] : List (BitVec 8))), .int .i64 4]) rfl rfl)) ?_
    refine w_val (v := .string (str ([] : List (BitVec 8)))) (y_ext (v := .string (str ([] : List (BitVec 8)))) (Ev.t (v := .tuple #[.string (str ([] : List (BitVec 8))), .int .i64 4]) rfl rfl) rfl) ?_
    refine w_val (v := .int .i64 4) (y_ext (v := .int .i64 4) (Ev.t (v := .tuple #[.string (str ([] : List (BitVec 8))), .int .i64 4]) rfl rfl) rfl) ?_
    refine w_val (v := .string (str ([] : List (BitVec 8)))) (y_as (Ev.t (v := .string (str ([] : List (BitVec 8)))) rfl rfl)) ?_
    refine w_val (v := .int .i64 4) (y_as (Ev.t (v := .int .i64 4) rfl rfl)) ?_
    refine wpList_nil ?_
    refine then_n ?_
    refine wp_seq ?_
    refine wp_region_lit ?_
    refine w_val (v := .int .i64 4) (y_mv (Ev.t (v := .int .i64 4) rfl rfl)) ?_
    refine w_val (v := .bool true) (y_bin (Ev.t (v := .int .i64 4) rfl rfl) (Ev.c (v := .int .i64 0)) b_neq) ?_
    refine w_val (v := .bool true) (y_mv (Ev.t (v := .bool true) rfl rfl)) ?_
    first | with_reducible refine w_skip ?_ ?_ | refine w_skip ?_ ?_
    · exact want_no (j := 2) rfl rfl (Ev.t (v := .bool true) rfl rfl) rfl
    first | with_reducible refine w_skip ?_ ?_ | refine w_skip ?_ ?_
    · exact want_no (j := 2) rfl rfl (Ev.t (v := .bool true) rfl rfl) rfl
    first | with_reducible refine w_skip ?_ ?_ | refine w_skip ?_ ?_
    · exact want_no (j := 2) rfl rfl (Ev.t (v := .bool true) rfl rfl) rfl
    first | with_reducible refine w_skip ?_ ?_ | refine w_skip ?_ ?_
    · exact want_un (j := 5) rfl rfl (Ev.t (v := undef) rfl rfl) rfl
    first | with_reducible refine w_skip ?_ ?_ | refine w_skip ?_ ?_
    · exact want_un (j := 5) rfl rfl (Ev.t (v := undef) rfl rfl) rfl
    first | with_reducible refine w_skip ?_ ?_ | refine w_skip ?_ ?_
    · exact want_un (j := 5) rfl rfl (Ev.t (v := undef) rfl rfl) rfl
    first | with_reducible refine w_skip ?_ ?_ | refine w_skip ?_ ?_
    · exact want_no (j := 2) rfl rfl (Ev.t (v := .bool true) rfl rfl) rfl
    refine w_val (v := .bool true) (y_pick_t (Ev.t (v := .bool true) rfl rfl) (Ev.c (v := .bool true))) ?_
    refine w_val (v := .bool true) (y_as (Ev.t (v := .bool true) rfl rfl)) ?_
    refine wpList_nil ?_
    refine then_n ?_
    refine wp_ret ?_
    refine fin_ret1 rfl (Ev.t (v := .bool true) rfl rfl) ?_
    exact ⟨rfl, hk⟩

set_option maxRecDepth 100000 in
set_option maxHeartbeats 1000000 in
theorem ctrBegins_i (key text : List (BitVec 8)) (hok : Aes.okKey key.length) (s : List (BitVec 8)) (d : Int) (hs : s.length ≠ 16) (w0 : World) : Calls Try.prog 10 #[.string (str key), .agg (arr 2 (fun j => if j < 1 then .string (str s) else .int .i64 d)), .string (str text)] w0 fun e w' => e = .returned (.bool true) ∧ Below w0.heap.size w0 w' := by
  refine enter (n := 62) Try.func10 rfl rfl rfl ?_
  have hk : Below w0.heap.size w0 w0 := Below.refl _ _
  refine wp_seq ?_
  refine wp_region_lit ?_
  refine w_box (m := 2) (F := fun j => if j < 1 then .string (str s) else .int .i64 d) (Ev.t (v := .agg (arr 2 (fun j => if j < 1 then .string (str s) else .int .i64 d))) rfl rfl) rfl ?_
  intro b_c w1 hbe_b_c r_b_c hb2
  have ge_b_c : w0.heap.size ≤ b_c := by have := hk.size; omega
  clear hbe_b_c
  replace hk := thenB hk hb2
  refine w_val (v := .bool false) (y_as (Ev.c (v := .bool false))) ?_
  refine wpList_nil ?_
  refine then_n ?_
  refine wp_seq ?_
  refine wp_seq ?_
  refine wp_region_lit ?_
  refine w_call (Try.func18) (by kernel_rfl) rfl m0 (ctrWakes_c  w1) ?_
  rintro _ w3 ⟨rfl, hb4⟩
  refine ⟨_, rfl, ?_⟩
  replace r_b_c := r_b_c.step hb4
  replace hk := thenB hk hb4
  refine w_val (v := .bool false) (y_not (Ev.t (v := .bool true) rfl rfl)) ?_
  refine wpList_nil ?_
  refine then_n ?_
  refine c_ff (Ev.t (v := .bool false) rfl rfl) ?_
  refine wp_skip ?_
  refine then_n ?_
  refine wp_seq ?_
  refine wp_seq ?_
  refine wp_region_lit ?_
  refine w_val (v := .string (str text)) (y_mv (Ev.t (v := .string (str text)) rfl rfl)) ?_
  refine w_val (v := .int .i64 ((text.length : Nat) : Int)) (y_len (Ev.t (v := .string (str text)) rfl rfl) Try.underlying9) ?_
  refine w_val (v := .bool (decide (1000 < ((text.length : Nat) : Int)))) (y_bin (Ev.t (v := .int .i64 ((text.length : Nat) : Int)) rfl rfl) (Ev.c (v := .int .i64 1000)) b_gtr) ?_
  refine wpList_nil ?_
  refine then_n ?_
  refine c_if (p := 1000 < ((text.length : Nat) : Int)) (Ev.t (v := .bool (decide (1000 < ((text.length : Nat) : Int)))) rfl rfl) (fun hc5 => ?_) (fun hc5 => ?_)
  · skip
    refine wp_seq ?_
    refine wp_region_lit ?_
    refine w_val (v := .bool true) (y_as (Ev.c (v := .bool true))) ?_
    refine wpList_nil ?_
    refine then_n ?_
    refine wp_ret ?_
    refine then_r ?_
    refine fin_ret1 rfl (Ev.t (v := .bool true) rfl rfl) ?_
    exact ⟨rfl, hk⟩
  · skip
    refine wp_skip ?_
    refine then_n ?_
    refine wp_seq ?_
    refine wp_region_lit ?_
    refine w_val (v := .string (str key)) (y_mv (Ev.t (v := .string (str key)) rfl rfl)) ?_
    refine w_val (v := .pointer (some ⟨b_c, 0, none⟩)) (y_off (y_fa (Ev.t (v := .pointer (some ⟨b_c, 0, none⟩)) rfl rfl) (CtrXorsWT.fa34_0 _ _)) (by first | rfl | omega)) ?_
    refine w_val (v := .string (str s)) (y_ld (Ev.t (v := .pointer (some ⟨b_c, 0, none⟩)) rfl rfl) CtrXorsWT.sc9 (r_b_c.val (v := .string (str s)) (by omega) ((if_pos (by omega)).trans (by first | with_reducible rfl | (with_reducible congr 1 <;> omega) | (with_reducible congr 2 <;> omega) | (with_reducible congr 3 <;> omega) | rfl)))) ?_
    refine w_val (v := .pointer (some ⟨b_c, 1, none⟩)) (y_off (y_fa (Ev.t (v := .pointer (some ⟨b_c, 0, none⟩)) rfl rfl) (CtrXorsWT.fa34_1 _ _)) (by first | rfl | omega)) ?_
    refine w_val (v := .int .i64 d) (y_ld (Ev.t (v := .pointer (some ⟨b_c, 1, none⟩)) rfl rfl) CtrXorsWT.sc3 (r_b_c.val (v := .int .i64 d) (by omega) ((if_neg (by omega)).trans (by first | with_reducible rfl | (with_reducible congr 1 <;> omega) | (with_reducible congr 2 <;> omega) | (with_reducible congr 3 <;> omega) | rfl)))) ?_
    refine w_val (v := .string (str text)) (y_mv (Ev.t (v := .string (str text)) rfl rfl)) ?_
    refine w_call (Try.func21) (by kernel_rfl) rfl (m4 (Ev.t (v := .string (str key)) rfl rfl) (Ev.t (v := .string (str s)) rfl rfl) (Ev.t (v := .int .i64 d) rfl rfl) (Ev.t (v := .string (str text)) rfl rfl)) (ctrXor_i key text hok s d hs w3) ?_
    rintro _ w6 ⟨rfl, hb7⟩
    refine ⟨_, rfl, ?_⟩
    replace r_b_c := r_b_c.step hb7
    replace hk := thenB hk hb7
    refine w_val (v := .tuple #[.string (str ([] : List (BitVec 8))), .int .i64 4]) (y_mv (Ev.t (v := .tuple #[.string (str ([] : List (BitVec 8))), .int .i64 4]) rfl rfl)) ?_
    refine w_val (v := .string (str ([] : List (BitVec 8)))) (y_ext (v := .string (str ([] : List (BitVec 8)))) (Ev.t (v := .tuple #[.string (str ([] : List (BitVec 8))), .int .i64 4]) rfl rfl) rfl) ?_
    refine w_val (v := .int .i64 4) (y_ext (v := .int .i64 4) (Ev.t (v := .tuple #[.string (str ([] : List (BitVec 8))), .int .i64 4]) rfl rfl) rfl) ?_
    refine w_val (v := .string (str ([] : List (BitVec 8)))) (y_as (Ev.t (v := .string (str ([] : List (BitVec 8)))) rfl rfl)) ?_
    refine w_val (v := .int .i64 4) (y_as (Ev.t (v := .int .i64 4) rfl rfl)) ?_
    refine wpList_nil ?_
    refine then_n ?_
    refine wp_seq ?_
    refine region_dc (Nat.testBit 0) 16 CtrXorsWT.mixed rfl ?_
    intro w8 hb9
    replace r_b_c := r_b_c.step hb9
    replace hk := thenB hk hb9
    have hS : Cls w8 w8 := Below.refl _ _
    refine d_pure (v := .string (str key)) 0 rfl (by kernel_rfl) (by kernel_rfl) (by kernel_rfl) (by kernel_rfl) (fun _ _ _ h => h) (fun w' => y_mv (Ev.t (v := .string (str key)) rfl rfl)) ?_
    refine d_pure (v := .pointer (some ⟨b_c, 0, none⟩)) 1 rfl (by kernel_rfl) (by kernel_rfl) (by kernel_rfl) (by kernel_rfl) (fun _ _ _ h => h) (fun w' => y_off (y_fa (Ev.t (v := .pointer (some ⟨b_c, 0, none⟩)) rfl rfl) (CtrXorsWT.fa34_0 _ _)) (by first | rfl | omega)) ?_
    refine d_take (v := .string (str s)) 2 (Nat.testBit 64516) rfl (by kernel_rfl) (by kernel_rfl) (by kernel_rfl) (by kernel_rfl) (by kernel_rfl) (by kernel_rfl) (fun _ _ _ h => h) hS (fun w' hw' => y_ld (Ev.t (v := .pointer (some ⟨b_c, 0, none⟩)) rfl rfl) CtrXorsWT.sc9 (cls_cell (r_b_c.val (v := .string (str s)) (by omega) ((if_pos (by omega)).trans (by first | with_reducible rfl | (with_reducible congr 1 <;> omega) | (with_reducible congr 2 <;> omega) | (with_reducible congr 3 <;> omega) | rfl))) r_b_c.lt w' hw')) ?_
    refine d_pure (v := .pointer (some ⟨b_c, 1, none⟩)) 3 rfl (by kernel_rfl) (by kernel_rfl) (by kernel_rfl) (by kernel_rfl) (fun _ _ _ h => h) (fun w' => y_off (y_fa (Ev.t (v := .pointer (some ⟨b_c, 0, none⟩)) rfl rfl) (CtrXorsWT.fa34_1 _ _)) (by first | rfl | omega)) ?_
    refine d_take (v := .int .i64 d) 4 (Nat.testBit 64528) rfl (by kernel_rfl) (by kernel_rfl) (by kernel_rfl) (by kernel_rfl) (by kernel_rfl) (by kernel_rfl) (fun _ _ _ h => h) hS (fun w' hw' => y_ld (Ev.t (v := .pointer (some ⟨b_c, 1, none⟩)) rfl rfl) CtrXorsWT.sc3 (cls_cell (r_b_c.val (v := .int .i64 d) (by omega) ((if_neg (by omega)).trans (by first | with_reducible rfl | (with_reducible congr 1 <;> omega) | (with_reducible congr 2 <;> omega) | (with_reducible congr 3 <;> omega) | rfl))) r_b_c.lt w' hw')) ?_
    refine d_pure (v := .string (str text)) 5 rfl (by kernel_rfl) (by kernel_rfl) (by kernel_rfl) (by kernel_rfl) (fun _ _ _ h => h) (fun w' => y_mv (Ev.t (v := .string (str text)) rfl rfl)) ?_
    refine d_pure (v := .string (str text)) 6 rfl (by kernel_rfl) (by kernel_rfl) (by kernel_rfl) (by kernel_rfl) (fun _ _ _ h => h) (fun w' => y_mv (Ev.t (v := .string (str text)) rfl rfl)) ?_
    refine d_pure (v := .int .i64 ((text.length : Nat) : Int)) 7 rfl (by kernel_rfl) (by kernel_rfl) (by kernel_rfl) (by kernel_rfl) (fun _ _ _ h => h) (fun w' => y_len (Ev.t (v := .string (str text)) rfl rfl) Try.underlying9) ?_
    refine d_pure (v := .int .i64 (((text.length : Nat) : Int) / 2)) 8 rfl (by kernel_rfl) (by kernel_rfl) (by kernel_rfl) (by kernel_rfl) (fun _ _ _ h => h) (fun w' => y_bin (Ev.t (v := .int .i64 ((text.length : Nat) : Int)) rfl rfl) (Ev.c (v := .int .i64 2)) (b_quo (by omega))) ?_
    refine d_pure (v := .string (str (text.take (text.length / 2)))) 9 rfl (by kernel_rfl) (by kernel_rfl) (by kernel_rfl) (by kernel_rfl) (fun _ _ _ h => h) (fun w' => y_sls (Ev.t (v := .string (str text)) rfl rfl) evo.no (evo.s (Ev.t (v := .int .i64 (((text.length : Nat) : Int) / 2)) rfl rfl)) Try.underlying9 (bnd_h (h := (text.length / 2)) (by omega) (by omega))) ?_
    refine d_one 10 (by kernel_rfl) rfl ?_
    refine w_call (Try.func21) (by kernel_rfl) rfl (m4 (Ev.t (v := .string (str key)) rfl rfl) (Ev.t (v := .string (str s)) rfl rfl) (Ev.t (v := .int .i64 d) rfl rfl) (Ev.t (v := .string (str (text.take (text.length / 2)))) rfl rfl)) (ctrXor_i key (text.take (text.length / 2)) hok s d hs w8) ?_
    rintro _ w10 ⟨rfl, hb11⟩
    refine ⟨_, rfl, ?_⟩
    replace r_b_c := r_b_c.step hb11
    replace hk := thenB hk hb11
    replace hS := thenB hS hb11
    refine wpList_nil ?_
    refine then_n ⟨fun _ h => thenB h (by assumption), ?_⟩
    refine d_pure (v := .tuple #[.string (str ([] : List (BitVec 8))), .int .i64 4]) 11 rfl (by kernel_rfl) (by kernel_rfl) (by kernel_rfl) (by kernel_rfl) (fun _ _ _ h => h) (fun w' => y_mv (Ev.t (v := .tuple #[.string (str ([] : List (BitVec 8))), .int .i64 4]) rfl rfl)) ?_
    refine d_pure (v := .string (str ([] : List (BitVec 8)))) 12 rfl (by kernel_rfl) (by kernel_rfl) (by kernel_rfl) (by kernel_rfl) (fun _ _ _ h => h) (fun w' => y_ext (v := .string (str ([] : List (BitVec 8)))) (Ev.t (v := .tuple #[.string (str ([] : List (BitVec 8))), .int .i64 4]) rfl rfl) rfl) ?_
    refine d_pure (v := .int .i64 4) 13 rfl (by kernel_rfl) (by kernel_rfl) (by kernel_rfl) (by kernel_rfl) (fun _ _ _ h => h) (fun w' => y_ext (v := .int .i64 4) (Ev.t (v := .tuple #[.string (str ([] : List (BitVec 8))), .int .i64 4]) rfl rfl) rfl) ?_
    refine d_pure (v := .string (str ([] : List (BitVec 8)))) 14 rfl (by kernel_rfl) (by kernel_rfl) (by kernel_rfl) (by kernel_rfl) (fun _ _ _ h => h) (fun w' => y_as (Ev.t (v := .string (str ([] : List (BitVec 8)))) rfl rfl)) ?_
    refine d_pure (v := .int .i64 4) 15 rfl (by kernel_rfl) (by kernel_rfl) (by kernel_rfl) (by kernel_rfl) (fun _ _ _ h => h) (fun w' => y_as (Ev.t (v := .int .i64 4) rfl rfl)) ?_
    refine d_done (by kernel_rfl) ?_
    clear hS
    refine then_n ?_
    refine wp_seq ?_
    refine wp_region_lit ?_
    refine w_val (v := .int .i64 4) (y_mv (Ev.t (v := .int .i64 4) rfl rfl)) ?_
    refine w_val (v := .int .i64 4) (y_mv (Ev.t (v := .int .i64 4) rfl rfl)) ?_
    refine w_val (v := .bool true) (y_bin (Ev.t (v := .int .i64 4) rfl rfl) (Ev.t (v := .int .i64 4) rfl rfl) b_eql) ?_
    refine w_val (v := .bool true) (y_mv (Ev.t (v := .bool true) rfl rfl)) ?_
    refine w_val_g (v := .int .i64 4) (want_yes (j := 3) rfl rfl (Ev.t (v := .bool true) rfl rfl) rfl) (y_mv (Ev.t (v := .int .i64 4) rfl rfl)) ?_
    refine w_val_g (v := .bool true) (want_yes (j := 3) rfl rfl (Ev.t (v := .bool true) rfl rfl) rfl) (y_bin (Ev.t (v := .int .i64 4) rfl rfl) (Ev.c (v := .int .i64 0)) b_neq) ?_
    refine w_val_g (v := .bool true) (want_yes (j := 3) rfl rfl (Ev.t (v := .bool true) rfl rfl) rfl) (y_mv (Ev.t (v := .bool true) rfl rfl)) ?_
    first | with_reducible refine w_skip ?_ ?_ | refine w_skip ?_ ?_
    · exact want_no (j := 6) rfl rfl (Ev.t (v := .bool true) rfl rfl) rfl
    first | with_reducible refine w_skip ?_ ?_ | refine w_skip ?_ ?_
    · exact want_no (j := 6) rfl rfl (Ev.t (v := .bool true) rfl rfl) rfl
    first | with_reducible refine w_skip ?_ ?_ | refine w_skip ?_ ?_
    · exact want_no (j := 6) rfl rfl (Ev.t (v := .bool true) rfl rfl) rfl
    first | with_reducible refine w_skip ?_ ?_ | refine w_skip ?_ ?_
    · exact want_no (j := 6) rfl rfl (Ev.t (v := .bool true) rfl rfl) rfl
    first | with_reducible refine w_skip ?_ ?_ | refine w_skip ?_ ?_
    · exact want_no (j := 6) rfl rfl (Ev.t (v := .bool true) rfl rfl) rfl
    first | with_reducible refine w_skip ?_ ?_ | refine w_skip ?_ ?_
    · exact want_no (j := 6) rfl rfl (Ev.t (v := .bool true) rfl rfl) rfl
    first | with_reducible refine w_skip ?_ ?_ | refine w_skip ?_ ?_
    · exact want_no (j := 6) rfl rfl (Ev.t (v := .bool true) rfl rfl) rfl
    first | with_reducible refine w_skip ?_ ?_ | refine w_skip ?_ ?_
    · exact want_un (j := 13) rfl rfl (Ev.t (v := undef) rfl rfl) rfl
    first | with_reducible refine w_skip ?_ ?_ | refine w_skip ?_ ?_
    · exact want_un (j := 13) rfl rfl (Ev.t (v := undef) rfl rfl) rfl
    first | with_reducible refine w_skip ?_ ?_ | refine w_skip ?_ ?_
    · exact want_un (j := 13) rfl rfl (Ev.t (v := undef) rfl rfl) rfl
    first | with_reducible refine w_skip ?_ ?_ | refine w_skip ?_ ?_
    · exact want_un (j := 13) rfl rfl (Ev.t (v := undef) rfl rfl) rfl
    first | with_reducible refine w_skip ?_ ?_ | refine w_skip ?_ ?_
    · exact want_un (j := 13) rfl rfl (Ev.t (v := undef) rfl rfl) rfl
    first | with_reducible refine w_skip ?_ ?_ | refine w_skip ?_ ?_
    · exact want_no (j := 6) rfl rfl (Ev.t (v := .bool true) rfl rfl) rfl
    refine w_val_g (v := .bool true) (want_yes (j := 3) rfl rfl (Ev.t (v := .bool true) rfl rfl) rfl) (y_pick_t (Ev.t (v := .bool true) rfl rfl) (Ev.c (v := .bool true))) ?_
    refine w_val (v := .bool true) (y_pick_t (Ev.t (v := .bool true) rfl rfl) (Ev.t (v := .bool true) rfl rfl)) ?_
    refine w_val (v := .bool true) (y_as (Ev.t (v := .bool true) rfl rfl)) ?_
    refine wpList_nil ?_
    refine then_n ?_
    refine wp_ret ?_
    refine fin_ret1 rfl (Ev.t (v := .bool true) rfl rfl) ?_
    exact ⟨rfl, hk⟩

set_option maxRecDepth 100000 in
set_option maxHeartbeats 1000000 in
theorem ctrXors_d (key text : List (BitVec 8)) (hok : Aes.okKey key.length) (s : List (BitVec 8)) (d : Int) (hs : s.length = 16) (hd : ¬ (1 ≤ d ∧ d ≤ 16)) (w0 : World) : Calls Try.prog 8 #[.string (str key), .agg (arr 2 (fun j => if j < 1 then .string (str s) else .int .i64 d)), .string (str text)] w0 fun e w' => e = .returned (.bool true) ∧ Below w0.heap.size w0 w' := by
  refine enter (n := 72) Try.func8 rfl rfl rfl ?_
  have hk : Below w0.heap.size w0 w0 := Below.refl _ _
  refine wp_seq ?_
  refine wp_region_lit ?_
  refine w_box (m := 2) (F := fun j => if j < 1 then .string (str s) else .int .i64 d) (Ev.t (v := .agg (arr 2 (fun j => if j < 1 then .string (str s) else .int .i64 d))) rfl rfl) rfl ?_
  intro b_c w1 hbe_b_c r_b_c hb2
  have ge_b_c : w0.heap.size ≤ b_c := by have := hk.size; omega
  clear hbe_b_c
  replace hk := thenB hk hb2
  refine w_val (v := .bool false) (y_as (Ev.c (v := .bool false))) ?_
  refine wpList_nil ?_
  refine then_n ?_
  refine wp_seq ?_
  refine wp_seq ?_
  refine wp_region_lit ?_
  refine w_call (Try.func18) (by kernel_rfl) rfl m0 (ctrWakes_c  w1) ?_
  rintro _ w3 ⟨rfl, hb4⟩
  refine ⟨_, rfl, ?_⟩
  replace r_b_c := r_b_c.step hb4
  replace hk := thenB hk hb4
  refine w_val (v := .bool false) (y_not (Ev.t (v := .bool true) rfl rfl)) ?_
  refine wpList_nil ?_
  refine then_n ?_
  refine c_ff (Ev.t (v := .bool false) rfl rfl) ?_
  refine wp_skip ?_
  refine then_n ?_
  refine wp_seq ?_
  refine wp_seq ?_
  refine wp_region_lit ?_
  refine w_val (v := .string (str text)) (y_mv (Ev.t (v := .string (str text)) rfl rfl)) ?_
  refine w_val (v := .int .i64 ((text.length : Nat) : Int)) (y_len (Ev.t (v := .string (str text)) rfl rfl) Try.underlying9) ?_
  refine w_val (v := .bool (decide (3000 < ((text.length : Nat) : Int)))) (y_bin (Ev.t (v := .int .i64 ((text.length : Nat) : Int)) rfl rfl) (Ev.c (v := .int .i64 3000)) b_gtr) ?_
  refine w_val (v := .bool (decide (3000 < ((text.length : Nat) : Int)))) (y_mv (Ev.t (v := .bool (decide (3000 < ((text.length : Nat) : Int)))) rfl rfl)) ?_
  by_cases hc5 : 3000 < ((text.length : Nat) : Int)
  · skip
    refine w_val_g (v := .string (str text)) (want_yes (j := 3) rfl rfl (Ev.t (v := .bool true) (Eq.trans (b := .bool (decide (3000 < ((text.length : Nat) : Int)))) rfl (by rw [decide_eq_true hc5])) rfl) rfl) (y_mv (Ev.t (v := .string (str text)) rfl rfl)) ?_
    refine w_val_g (v := .int .i64 ((text.length : Nat) : Int)) (want_yes (j := 3) rfl rfl (Ev.t (v := .bool true) (Eq.trans (b := .bool (decide (3000 < ((text.length : Nat) : Int)))) rfl (by rw [decide_eq_true hc5])) rfl) rfl) (y_len (Ev.t (v := .string (str text)) rfl rfl) Try.underlying9) ?_
    refine w_val_g (v := .bool (decide (((text.length : Nat) : Int) ≤ 70000))) (want_yes (j := 3) rfl rfl (Ev.t (v := .bool true) (Eq.trans (b := .bool (decide (3000 < ((text.length : Nat) : Int)))) rfl (by rw [decide_eq_true hc5])) rfl) rfl) (y_bin (Ev.t (v := .int .i64 ((text.length : Nat) : Int)) rfl rfl) (Ev.c (v := .int .i64 70000)) b_leq) ?_
    refine w_val (v := .bool (decide (((text.length : Nat) : Int) ≤ 70000))) (y_pick_t (Ev.t (v := .bool true) (Eq.trans (b := .bool (decide (3000 < ((text.length : Nat) : Int)))) rfl (by rw [decide_eq_true hc5])) rfl) (Ev.t (v := .bool (decide (((text.length : Nat) : Int) ≤ 70000))) rfl rfl)) ?_
    refine wpList_nil ?_
    refine then_n ?_
    refine c_if (p := ((text.length : Nat) : Int) ≤ 70000) (Ev.t (v := .bool (decide (((text.length : Nat) : Int) ≤ 70000))) rfl rfl) (fun hc6 => ?_) (fun hc6 => ?_)
    · skip
      refine wp_seq ?_
      refine wp_region_lit ?_
      refine w_val (v := .bool true) (y_as (Ev.c (v := .bool true))) ?_
      refine wpList_nil ?_
      refine then_n ?_
      refine wp_ret ?_
      refine then_r ?_
      refine fin_ret1 rfl (Ev.t (v := .bool true) rfl rfl) ?_
      exact ⟨rfl, hk⟩
    · skip
      refine wp_skip ?_
      refine then_n ?_
      refine wp_seq ?_
      refine wp_region_lit ?_
      refine w_val (v := .string (str key)) (y_mv (Ev.t (v := .string (str key)) rfl rfl)) ?_
      refine w_val (v := .pointer (some ⟨b_c, 0, none⟩)) (y_off (y_fa (Ev.t (v := .pointer (some ⟨b_c, 0, none⟩)) rfl rfl) (CtrXorsWT.fa34_0 _ _)) (by first | rfl | omega)) ?_
      refine w_val (v := .string (str s)) (y_ld (Ev.t (v := .pointer (some ⟨b_c, 0, none⟩)) rfl rfl) CtrXorsWT.sc9 (r_b_c.val (v := .string (str s)) (by omega) ((if_pos (by omega)).trans (by first | with_reducible rfl | (with_reducible congr 1 <;> omega) | (with_reducible congr 2 <;> omega) | (with_reducible congr 3 <;> omega) | rfl)))) ?_
      refine w_val (v := .pointer (some ⟨b_c, 1, none⟩)) (y_off (y_fa (Ev.t (v := .pointer (some ⟨b_c, 0, none⟩)) rfl rfl) (CtrXorsWT.fa34_1 _ _)) (by first | rfl | omega)) ?_
      refine w_val (v := .int .i64 d) (y_ld (Ev.t (v := .pointer (some ⟨b_c, 1, none⟩)) rfl rfl) CtrXorsWT.sc3 (r_b_c.val (v := .int .i64 d) (by omega) ((if_neg (by omega)).trans (by first | with_reducible rfl | (with_reducible congr 1 <;> omega) | (with_reducible congr 2 <;> omega) | (with_reducible congr 3 <;> omega) | rfl)))) ?_
      refine w_val (v := .string (str text)) (y_mv (Ev.t (v := .string (str text)) rfl rfl)) ?_
      refine w_call (Try.func21) (by kernel_rfl) rfl (m4 (Ev.t (v := .string (str key)) rfl rfl) (Ev.t (v := .string (str s)) rfl rfl) (Ev.t (v := .int .i64 d) rfl rfl) (Ev.t (v := .string (str text)) rfl rfl)) (ctrXor_d key text hok s d hs hd w3) ?_
      rintro _ w7 ⟨rfl, hb8⟩
      refine ⟨_, rfl, ?_⟩
      replace r_b_c := r_b_c.step hb8
      replace hk := thenB hk hb8
      refine w_val (v := .tuple #[.string (str ([] : List (BitVec 8))), .int .i64 2]) (y_mv (Ev.t (v := .tuple #[.string (str ([] : List (BitVec 8))), .int .i64 2]) rfl rfl)) ?_
      refine w_val (v := .string (str ([] : List (BitVec 8)))) (y_ext (v := .string (str ([] : List (BitVec 8)))) (Ev.t (v := .tuple #[.string (str ([] : List (BitVec 8))), .int .i64 2]) rfl rfl) rfl) ?_
      refine w_val (v := .int .i64 2) (y_ext (v := .int .i64 2) (Ev.t (v := .tuple #[.string (str ([] : List (BitVec 8))), .int .i64 2]) rfl rfl) rfl) ?_
      refine w_val (v := .string (str ([] : List (BitVec 8)))) (y_as (Ev.t (v := .string (str ([] : List (BitVec 8)))) rfl rfl)) ?_
      refine w_val (v := .int .i64 2) (y_as (Ev.t (v := .int .i64 2) rfl rfl)) ?_
      refine wpList_nil ?_
      refine then_n ?_
      refine wp_seq ?_
      refine wp_region_lit ?_
      refine w_val (v := .string (str key)) (y_mv (Ev.t (v := .string (str key)) rfl rfl)) ?_
      refine w_val (v := .pointer (some ⟨b_c, 0, none⟩)) (y_off (y_fa (Ev.t (v := .pointer (some ⟨b_c, 0, none⟩)) rfl rfl) (CtrXorsWT.fa34_0 _ _)) (by first | rfl | omega)) ?_
      refine w_val (v := .string (str s)) (y_ld (Ev.t (v := .pointer (some ⟨b_c, 0, none⟩)) rfl rfl) CtrXorsWT.sc9 (r_b_c.val (v := .string (str s)) (by omega) ((if_pos (by omega)).trans (by first | with_reducible rfl | (with_reducible congr 1 <;> omega) | (with_reducible congr 2 <;> omega) | (with_reducible congr 3 <;> omega) | rfl)))) ?_
      refine w_val (v := .pointer (some ⟨b_c, 1, none⟩)) (y_off (y_fa (Ev.t (v := .pointer (some ⟨b_c, 0, none⟩)) rfl rfl) (CtrXorsWT.fa34_1 _ _)) (by first | rfl | omega)) ?_
      refine w_val (v := .int .i64 d) (y_ld (Ev.t (v := .pointer (some ⟨b_c, 1, none⟩)) rfl rfl) CtrXorsWT.sc3 (r_b_c.val (v := .int .i64 d) (by omega) ((if_neg (by omega)).trans (by first | with_reducible rfl | (with_reducible congr 1 <;> omega) | (with_reducible congr 2 <;> omega) | (with_reducible congr 3 <;> omega) | rfl)))) ?_
      refine w_val (v := .string (str text)) (y_mv (Ev.t (v := .string (str text)) rfl rfl)) ?_
      refine w_call (Try.func22) (by kernel_rfl) rfl (m4 (Ev.t (v := .string (str key)) rfl rfl) (Ev.t (v := .string (str s)) rfl rfl) (Ev.t (v := .int .i64 d) rfl rfl) (Ev.t (v := .string (str text)) rfl rfl)) (refCtr_d key text hok s d hs hd w7) ?_
      rintro _ w9 ⟨rfl, hb10⟩
      refine ⟨_, rfl, ?_⟩
      replace r_b_c := r_b_c.step hb10
      replace hk := thenB hk hb10
      refine w_val (v := .tuple #[.string (str ([] : List (BitVec 8))), .int .i64 2]) (y_mv (Ev.t (v := .tuple #[.string (str ([] : List (BitVec 8))), .int .i64 2]) rfl rfl)) ?_
      refine w_val (v := .string (str ([] : List (BitVec 8)))) (y_ext (v := .string (str ([] : List (BitVec 8)))) (Ev.t (v := .tuple #[.string (str ([] : List (BitVec 8))), .int .i64 2]) rfl rfl) rfl) ?_
      refine w_val (v := .int .i64 2) (y_ext (v := .int .i64 2) (Ev.t (v := .tuple #[.string (str ([] : List (BitVec 8))), .int .i64 2]) rfl rfl) rfl) ?_
      refine w_val (v := .string (str ([] : List (BitVec 8)))) (y_as (Ev.t (v := .string (str ([] : List (BitVec 8)))) rfl rfl)) ?_
      refine w_val (v := .int .i64 2) (y_as (Ev.t (v := .int .i64 2) rfl rfl)) ?_
      refine wpList_nil ?_
      refine then_n ?_
      refine wp_seq ?_
      refine wp_seq ?_
      refine wp_region_lit ?_
      refine w_val (v := .string (str ([] : List (BitVec 8)))) (y_mv (Ev.t (v := .string (str ([] : List (BitVec 8)))) rfl rfl)) ?_
      refine w_val (v := .string (str ([] : List (BitVec 8)))) (y_mv (Ev.t (v := .string (str ([] : List (BitVec 8)))) rfl rfl)) ?_
      refine w_val (v := .bool false) (y_bin (Ev.t (v := .string (str ([] : List (BitVec 8)))) rfl rfl) (Ev.t (v := .string (str ([] : List (BitVec 8)))) rfl rfl) b_nes_same) ?_
      refine w_val (v := .bool false) (y_mv (Ev.t (v := .bool false) rfl rfl)) ?_
      refine w_val_g (v := .int .i64 2) (want_yes (j := 3) rfl rfl (Ev.t (v := .bool false) rfl rfl) rfl) (y_mv (Ev.t (v := .int .i64 2) rfl rfl)) ?_
      refine w_val_g (v := .int .i64 2) (want_yes (j := 3) rfl rfl (Ev.t (v := .bool false) rfl rfl) rfl) (y_mv (Ev.t (v := .int .i64 2) rfl rfl)) ?_
      refine w_val_g (v := .bool false) (want_yes (j := 3) rfl rfl (Ev.t (v := .bool false) rfl rfl) rfl) (y_bin (Ev.t (v := .int .i64 2) rfl rfl) (Ev.t (v := .int .i64 2) rfl rfl) b_neq) ?_
      refine w_val (v := .bool false) (y_pick_f (Ev.t (v := .bool false) rfl rfl) (Ev.t (v := .bool false) rfl rfl)) ?_
      refine wpList_nil ?_
      refine then_n ?_
      refine c_ff (Ev.t (v := .bool false) rfl rfl) ?_
      refine wp_skip ?_
      refine then_n ?_
      refine wp_seq ?_
      refine wp_region_lit ?_
      refine w_val (v := .string (str key)) (y_mv (Ev.t (v := .string (str key)) rfl rfl)) ?_
      refine w_val (v := .pointer (some ⟨b_c, 0, none⟩)) (y_off (y_fa (Ev.t (v := .pointer (some ⟨b_c, 0, none⟩)) rfl rfl) (CtrXorsWT.fa34_0 _ _)) (by first | rfl | omega)) ?_
      refine w_val (v := .string (str s)) (y_ld (Ev.t (v := .pointer (some ⟨b_c, 0, none⟩)) rfl rfl) CtrXorsWT.sc9 (r_b_c.val (v := .string (str s)) (by omega) ((if_pos (by omega)).trans (by first | with_reducible rfl | (with_reducible congr 1 <;> omega) | (with_reducible congr 2 <;> omega) | (with_reducible congr 3 <;> omega) | rfl)))) ?_
      refine w_val (v := .pointer (some ⟨b_c, 1, none⟩)) (y_off (y_fa (Ev.t (v := .pointer (some ⟨b_c, 0, none⟩)) rfl rfl) (CtrXorsWT.fa34_1 _ _)) (by first | rfl | omega)) ?_
      refine w_val (v := .int .i64 d) (y_ld (Ev.t (v := .pointer (some ⟨b_c, 1, none⟩)) rfl rfl) CtrXorsWT.sc3 (r_b_c.val (v := .int .i64 d) (by omega) ((if_neg (by omega)).trans (by first | with_reducible rfl | (with_reducible congr 1 <;> omega) | (with_reducible congr 2 <;> omega) | (with_reducible congr 3 <;> omega) | rfl)))) ?_
      refine w_val (v := .string (str ([] : List (BitVec 8)))) (y_mv (Ev.t (v := .string (str ([] : List (BitVec 8)))) rfl rfl)) ?_
      refine w_call (Try.func21) (by kernel_rfl) rfl (m4 (Ev.t (v := .string (str key)) rfl rfl) (Ev.t (v := .string (str s)) rfl rfl) (Ev.t (v := .int .i64 d) rfl rfl) (Ev.t (v := .string (str ([] : List (BitVec 8)))) rfl rfl)) (ctrXor_d key ([] : List (BitVec 8)) hok s d hs hd w9) ?_
      rintro _ w11 ⟨rfl, hb12⟩
      refine ⟨_, rfl, ?_⟩
      replace r_b_c := r_b_c.step hb12
      replace hk := thenB hk hb12
      refine w_val (v := .tuple #[.string (str ([] : List (BitVec 8))), .int .i64 2]) (y_mv (Ev.t (v := .tuple #[.string (str ([] : List (BitVec 8))), .int .i64 2]) rfl rfl)) ?_
      refine w_val (v := .string (str ([] : List (BitVec 8)))) (y_ext (v := .string (str ([] : List (BitVec 8)))) (Ev.t (v := .tuple #[.string (str ([] : List (BitVec 8))), .int .i64 2]) rfl rfl) rfl) ?_
      refine w_val (v := .int .i64 2) (y_ext (v := .int .i64 2) (Ev.t (v := .tuple #[.string (str ([] : List (BitVec 8))), .int .i64 2]) rfl rfl) rfl) ?_
      refine w_val (v := .string (str ([] : List (BitVec 8)))) (y_as (Ev.t (v := .string (str ([] : List (BitVec 8)))) rfl rfl)) ?_
      refine w_val (v := .int .i64 2) (y_as (Ev.t (v := .int .i64 2) rfl rfl)) ?_
      refine wpList_nil ?_
      refine then_n ?_
      refine wp_seq ?_
      refine wp_region_lit ?_
      refine w_val (v := .int .i64 2) (y_mv (Ev.t (v := .int .i64 2) rfl rfl)) ?_
      refine w_val (v := .bool true) (y_bin (Ev.t (v := .int .i64 2) rfl rfl) (Ev.c (v := .int .i64 0)) b_neq) ?_
      refine w_val (v := .bool true) (y_mv (Ev.t (v := .bool true) rfl rfl)) ?_
      first | with_reducible refine w_skip ?_ ?_ | refine w_skip ?_ ?_
      · exact want_no (j := 2) rfl rfl (Ev.t (v := .bool true) rfl rfl) rfl
      first | with_reducible refine w_skip ?_ ?_ | refine w_skip ?_ ?_
      · exact want_no (j := 2) rfl rfl (Ev.t (v := .bool true) rfl rfl) rfl
      first | with_reducible refine w_skip ?_ ?_ | refine w_skip ?_ ?_
      · exact want_no (j := 2) rfl rfl (Ev.t (v := .bool true) rfl rfl) rfl
      first | with_reducible refine w_skip ?_ ?_ | refine w_skip ?_ ?_
      · exact want_un (j := 5) rfl rfl (Ev.t (v := undef) rfl rfl) rfl
      first | with_reducible refine w_skip ?_ ?_ | refine w_skip ?_ ?_
      · exact want_un (j := 5) rfl rfl (Ev.t (v := undef) rfl rfl) rfl
      first | with_reducible refine w_skip ?_ ?_ | refine w_skip ?_ ?_
      · exact want_un (j := 5) rfl rfl (Ev.t (v := undef) rfl rfl) rfl
      first | with_reducible refine w_skip ?_ ?_ | refine w_skip ?_ ?_
      · exact want_no (j := 2) rfl rfl (Ev.t (v := .bool true) rfl rfl) rfl
      refine w_val (v := .bool true) (y_pick_t (Ev.t (v := .bool true) rfl rfl) (Ev.c (v := .bool true))) ?_
      refine w_val (v := .bool true) (y_as (Ev.t (v := .bool true) rfl rfl)) ?_
      refine wpList_nil ?_
      refine then_n ?_
      refine wp_ret ?_
      refine fin_ret1 rfl (Ev.t (v := .bool true) rfl rfl) ?_
      exact ⟨rfl, hk⟩
  · skip
    first | with_reducible refine w_skip ?_ ?_ | refine w_skip ?_ ?_
    · exact want_no (j := 3) rfl rfl (Ev.t (v := .bool false) (Eq.trans (b := .bool (decide (3000 < ((text.length : Nat) : Int)))) rfl (by rw [decide_eq_false hc5])) rfl) rfl
    first | with_reducible refine w_skip ?_ ?_ | refine w_skip ?_ ?_
    · exact want_no (j := 3) rfl rfl (Ev.t (v := .bool false) (Eq.trans (b := .bool (decide (3000 < ((text.length : Nat) : Int)))) rfl (by rw [decide_eq_false hc5])) rfl) rfl
    first | with_reducible refine w_skip ?_ ?_ | refine w_skip ?_ ?_
    · exact want_no (j := 3) rfl rfl (Ev.t (v := .bool false) (Eq.trans (b := .bool (decide (3000 < ((text.length : Nat) : Int)))) rfl (by rw [decide_eq_false hc5])) rfl) rfl
    refine w_val (v := .bool false) (y_pick_f (Ev.t (v := .bool false) (Eq.trans (b := .bool (decide (3000 < ((text.length : Nat) : Int)))) rfl (by rw [decide_eq_false hc5])) rfl) (Ev.c (v := .bool false))) ?_
    refine wpList_nil ?_
    refine then_n ?_
    refine c_ff (Ev.t (v := .bool false) rfl rfl) ?_
    refine wp_skip ?_
    refine then_n ?_
    refine wp_seq ?_
    refine wp_region_lit ?_
    refine w_val (v := .string (str key)) (y_mv (Ev.t (v := .string (str key)) rfl rfl)) ?_
    refine w_val (v := .pointer (some ⟨b_c, 0, none⟩)) (y_off (y_fa (Ev.t (v := .pointer (some ⟨b_c, 0, none⟩)) rfl rfl) (CtrXorsWT.fa34_0 _ _)) (by first | rfl | omega)) ?_
    refine w_val (v := .string (str s)) (y_ld (Ev.t (v := .pointer (some ⟨b_c, 0, none⟩)) rfl rfl) CtrXorsWT.sc9 (r_b_c.val (v := .string (str s)) (by omega) ((if_pos (by omega)).trans (by first | with_reducible rfl | (with_reducible congr 1 <;> omega) | (with_reducible congr 2 <;> omega) | (with_reducible congr 3 <;> omega) | rfl)))) ?_
    refine w_val (v := .pointer (some ⟨b_c, 1, none⟩)) (y_off (y_fa (Ev.t (v := .pointer (some ⟨b_c, 0, none⟩)) rfl rfl) (CtrXorsWT.fa34_1 _ _)) (by first | rfl | omega)) ?_
    refine w_val (v := .int .i64 d) (y_ld (Ev.t (v := .pointer (some ⟨b_c, 1, none⟩)) rfl rfl) CtrXorsWT.sc3 (r_b_c.val (v := .int .i64 d) (by omega) ((if_neg (by omega)).trans (by first | with_reducible rfl | (with_reducible congr 1 <;> omega) | (with_reducible congr 2 <;> omega) | (with_reducible congr 3 <;> omega) | rfl)))) ?_
    refine w_val (v := .string (str text)) (y_mv (Ev.t (v := .string (str text)) rfl rfl)) ?_
    refine w_call (Try.func21) (by kernel_rfl) rfl (m4 (Ev.t (v := .string (str key)) rfl rfl) (Ev.t (v := .string (str s)) rfl rfl) (Ev.t (v := .int .i64 d) rfl rfl) (Ev.t (v := .string (str text)) rfl rfl)) (ctrXor_d key text hok s d hs hd w3) ?_
    rintro _ w13 ⟨rfl, hb14⟩
    refine ⟨_, rfl, ?_⟩
    replace r_b_c := r_b_c.step hb14
    replace hk := thenB hk hb14
    refine w_val (v := .tuple #[.string (str ([] : List (BitVec 8))), .int .i64 2]) (y_mv (Ev.t (v := .tuple #[.string (str ([] : List (BitVec 8))), .int .i64 2]) rfl rfl)) ?_
    refine w_val (v := .string (str ([] : List (BitVec 8)))) (y_ext (v := .string (str ([] : List (BitVec 8)))) (Ev.t (v := .tuple #[.string (str ([] : List (BitVec 8))), .int .i64 2]) rfl rfl) rfl) ?_
    refine w_val (v := .int .i64 2) (y_ext (v := .int .i64 2) (Ev.t (v := .tuple #[.string (str ([] : List (BitVec 8))), .int .i64 2]) rfl rfl) rfl) ?_
    refine w_val (v := .string (str ([] : List (BitVec 8)))) (y_as (Ev.t (v := .string (str ([] : List (BitVec 8)))) rfl rfl)) ?_
    refine w_val (v := .int .i64 2) (y_as (Ev.t (v := .int .i64 2) rfl rfl)) ?_
    refine wpList_nil ?_
    refine then_n ?_
    refine wp_seq ?_
    refine wp_region_lit ?_
    refine w_val (v := .string (str key)) (y_mv (Ev.t (v := .string (str key)) rfl rfl)) ?_
    refine w_val (v := .pointer (some ⟨b_c, 0, none⟩)) (y_off (y_fa (Ev.t (v := .pointer (some ⟨b_c, 0, none⟩)) rfl rfl) (CtrXorsWT.fa34_0 _ _)) (by first | rfl | omega)) ?_
    refine w_val (v := .string (str s)) (y_ld (Ev.t (v := .pointer (some ⟨b_c, 0, none⟩)) rfl rfl) CtrXorsWT.sc9 (r_b_c.val (v := .string (str s)) (by omega) ((if_pos (by omega)).trans (by first | with_reducible rfl | (with_reducible congr 1 <;> omega) | (with_reducible congr 2 <;> omega) | (with_reducible congr 3 <;> omega) | rfl)))) ?_
    refine w_val (v := .pointer (some ⟨b_c, 1, none⟩)) (y_off (y_fa (Ev.t (v := .pointer (some ⟨b_c, 0, none⟩)) rfl rfl) (CtrXorsWT.fa34_1 _ _)) (by first | rfl | omega)) ?_
    refine w_val (v := .int .i64 d) (y_ld (Ev.t (v := .pointer (some ⟨b_c, 1, none⟩)) rfl rfl) CtrXorsWT.sc3 (r_b_c.val (v := .int .i64 d) (by omega) ((if_neg (by omega)).trans (by first | with_reducible rfl | (with_reducible congr 1 <;> omega) | (with_reducible congr 2 <;> omega) | (with_reducible congr 3 <;> omega) | rfl)))) ?_
    refine w_val (v := .string (str text)) (y_mv (Ev.t (v := .string (str text)) rfl rfl)) ?_
    refine w_call (Try.func22) (by kernel_rfl) rfl (m4 (Ev.t (v := .string (str key)) rfl rfl) (Ev.t (v := .string (str s)) rfl rfl) (Ev.t (v := .int .i64 d) rfl rfl) (Ev.t (v := .string (str text)) rfl rfl)) (refCtr_d key text hok s d hs hd w13) ?_
    rintro _ w15 ⟨rfl, hb16⟩
    refine ⟨_, rfl, ?_⟩
    replace r_b_c := r_b_c.step hb16
    replace hk := thenB hk hb16
    refine w_val (v := .tuple #[.string (str ([] : List (BitVec 8))), .int .i64 2]) (y_mv (Ev.t (v := .tuple #[.string (str ([] : List (BitVec 8))), .int .i64 2]) rfl rfl)) ?_
    refine w_val (v := .string (str ([] : List (BitVec 8)))) (y_ext (v := .string (str ([] : List (BitVec 8)))) (Ev.t (v := .tuple #[.string (str ([] : List (BitVec 8))), .int .i64 2]) rfl rfl) rfl) ?_
    refine w_val (v := .int .i64 2) (y_ext (v := .int .i64 2) (Ev.t (v := .tuple #[.string (str ([] : List (BitVec 8))), .int .i64 2]) rfl rfl) rfl) ?_
    refine w_val (v := .string (str ([] : List (BitVec 8)))) (y_as (Ev.t (v := .string (str ([] : List (BitVec 8)))) rfl rfl)) ?_
    refine w_val (v := .int .i64 2) (y_as (Ev.t (v := .int .i64 2) rfl rfl)) ?_
    refine wpList_nil ?_
    refine then_n ?_
    refine wp_seq ?_
    refine wp_seq ?_
    refine wp_region_lit ?_
    refine w_val (v := .string (str ([] : List (BitVec 8)))) (y_mv (Ev.t (v := .string (str ([] : List (BitVec 8)))) rfl rfl)) ?_
    refine w_val (v := .string (str ([] : List (BitVec 8)))) (y_mv (Ev.t (v := .string (str ([] : List (BitVec 8)))) rfl rfl)) ?_
    refine w_val (v := .bool false) (y_bin (Ev.t (v := .string (str ([] : List (BitVec 8)))) rfl rfl) (Ev.t (v := .string (str ([] : List (BitVec 8)))) rfl rfl) b_nes_same) ?_
    refine w_val (v := .bool false) (y_mv (Ev.t (v := .bool false) rfl rfl)) ?_
    refine w_val_g (v := .int .i64 2) (want_yes (j := 3) rfl rfl (Ev.t (v := .bool false) rfl rfl) rfl) (y_mv (Ev.t (v := .int .i64 2) rfl rfl)) ?_
    refine w_val_g (v := .int .i64 2) (want_yes (j := 3) rfl rfl (Ev.t (v := .bool false) rfl rfl) rfl) (y_mv (Ev.t (v := .int .i64 2) rfl rfl)) ?_
    refine w_val_g (v := .bool false) (want_yes (j := 3) rfl rfl (Ev.t (v := .bool false) rfl rfl) rfl) (y_bin (Ev.t (v := .int .i64 2) rfl rfl) (Ev.t (v := .int .i64 2) rfl rfl) b_neq) ?_
    refine w_val (v := .bool false) (y_pick_f (Ev.t (v := .bool false) rfl rfl) (Ev.t (v := .bool false) rfl rfl)) ?_
    refine wpList_nil ?_
    refine then_n ?_
    refine c_ff (Ev.t (v := .bool false) rfl rfl) ?_
    refine wp_skip ?_
    refine then_n ?_
    refine wp_seq ?_
    refine wp_region_lit ?_
    refine w_val (v := .string (str key)) (y_mv (Ev.t (v := .string (str key)) rfl rfl)) ?_
    refine w_val (v := .pointer (some ⟨b_c, 0, none⟩)) (y_off (y_fa (Ev.t (v := .pointer (some ⟨b_c, 0, none⟩)) rfl rfl) (CtrXorsWT.fa34_0 _ _)) (by first | rfl | omega)) ?_
    refine w_val (v := .string (str s)) (y_ld (Ev.t (v := .pointer (some ⟨b_c, 0, none⟩)) rfl rfl) CtrXorsWT.sc9 (r_b_c.val (v := .string (str s)) (by omega) ((if_pos (by omega)).trans (by first | with_reducible rfl | (with_reducible congr 1 <;> omega) | (with_reducible congr 2 <;> omega) | (with_reducible congr 3 <;> omega) | rfl)))) ?_
    refine w_val (v := .pointer (some ⟨b_c, 1, none⟩)) (y_off (y_fa (Ev.t (v := .pointer (some ⟨b_c, 0, none⟩)) rfl rfl) (CtrXorsWT.fa34_1 _ _)) (by first | rfl | omega)) ?_
    refine w_val (v := .int .i64 d) (y_ld (Ev.t (v := .pointer (some ⟨b_c, 1, none⟩)) rfl rfl) CtrXorsWT.sc3 (r_b_c.val (v := .int .i64 d) (by omega) ((if_neg (by omega)).trans (by first | with_reducible rfl | (with_reducible congr 1 <;> omega) | (with_reducible congr 2 <;> omega) | (with_reducible congr 3 <;> omega) | rfl)))) ?_
    refine w_val (v := .string (str ([] : List (BitVec 8)))) (y_mv (Ev.t (v := .string (str ([] : List (BitVec 8)))) rfl rfl)) ?_
    refine w_call (Try.func21) (by kernel_rfl) rfl (m4 (Ev.t (v := .string (str key)) rfl rfl) (Ev.t (v := .string (str s)) rfl rfl) (Ev.t (v := .int .i64 d) rfl rfl) (Ev.t (v := .string (str ([] : List (BitVec 8)))) rfl rfl)) (ctrXor_d key ([] : List (BitVec 8)) hok s d hs hd w15) ?_
    rintro _ w17 ⟨rfl, hb18⟩
    refine ⟨_, rfl, ?_⟩
    replace r_b_c := r_b_c.step hb18
    replace hk := thenB hk hb18
    refine w_val (v := .tuple #[.string (str ([] : List (BitVec 8))), .int .i64 2]) (y_mv (Ev.t (v := .tuple #[.string (str ([] : List (BitVec 8))), .int .i64 2]) rfl rfl)) ?_
    refine w_val (v := .string (str ([] : List (BitVec 8)))) (y_ext (v := .string (str ([] : List (BitVec 8)))) (Ev.t (v := .tuple #[.string (str ([] : List (BitVec 8))), .int .i64 2]) rfl rfl) rfl) ?_
    refine w_val (v := .int .i64 2) (y_ext (v := .int .i64 2) (Ev.t (v := .tuple #[.string (str ([] : List (BitVec 8))), .int .i64 2]) rfl rfl) rfl) ?_
    refine w_val (v := .string (str ([] : List (BitVec 8)))) (y_as (Ev.t (v := .string (str ([] : List (BitVec 8)))) rfl rfl)) ?_
    refine w_val (v := .int .i64 2) (y_as (Ev.t (v := .int .i64 2) rfl rfl)) ?_
    refine wpList_nil ?_
    refine then_n ?_
    refine wp_seq ?_
    refine wp_region_lit ?_
    refine w_val (v := .int .i64 2) (y_mv (Ev.t (v := .int .i64 2) rfl rfl)) ?_
    refine w_val (v := .bool true) (y_bin (Ev.t (v := .int .i64 2) rfl rfl) (Ev.c (v := .int .i64 0)) b_neq) ?_
    refine w_val (v := .bool true) (y_mv (Ev.t (v := .bool true) rfl rfl)) ?_
    first | with_reducible refine w_skip ?_ ?_ | refine w_skip ?_ ?_
    · exact want_no (j := 2) rfl rfl (Ev.t (v := .bool true) rfl rfl) rfl
    first | with_reducible refine w_skip ?_ ?_ | refine w_skip ?_ ?_
    · exact want_no (j := 2) rfl rfl (Ev.t (v := .bool true) rfl rfl) rfl
    first | with_reducible refine w_skip ?_ ?_ | refine w_skip ?_ ?_
    · exact want_no (j := 2) rfl rfl (Ev.t (v := .bool true) rfl rfl) rfl
    first | with_reducible refine w_skip ?_ ?_ | refine w_skip ?_ ?_
    · exact want_un (j := 5) rfl rfl (Ev.t (v := undef) rfl rfl) rfl
    first | with_reducible refine w_skip ?_ ?_ | refine w_skip ?_ ?_
    · exact want_un (j := 5) rfl rfl (Ev.t (v := undef) rfl rfl) rfl
    first | with_reducible refine w_skip ?_ ?_ | refine w_skip ?_ ?_
    · exact want_un (j := 5) rfl rfl (Ev.t (v := undef) rfl rfl) rfl
    first | with_reducible refine w_skip ?_ ?_ | refine w_skip ?_ ?_
    · exact want_no (j := 2) rfl rfl (Ev.t (v := .bool true) rfl rfl) rfl
    refine w_val (v := .bool true) (y_pick_t (Ev.t (v := .bool true) rfl rfl) (Ev.c (v := .bool true))) ?_
    refine w_val (v := .bool true) (y_as (Ev.t (v := .bool true) rfl rfl)) ?_
    refine wpList_nil ?_
    refine then_n ?_
    refine wp_ret ?_
    refine fin_ret1 rfl (Ev.t (v := .bool true) rfl rfl) ?_
    exact ⟨rfl, hk⟩

set_option maxRecDepth 100000 in
set_option maxHeartbeats 1000000 in
theorem ctrBegins_d (key text : List (BitVec 8)) (hok : Aes.okKey key.length) (s : List (BitVec 8)) (d : Int) (hs : s.length = 16) (hd : ¬ (1 ≤ d ∧ d ≤ 16)) (w0 : World) : Calls Try.prog 10 #[.string (str key), .agg (arr 2 (fun j => if j < 1 then .string (str s) else .int .i64 d)), .string (str text)] w0 fun e w' => e = .returned (.bool true) ∧ Below w0.heap.size w0 w' := by
  refine enter (n := 62) Try.func10 rfl rfl rfl ?_
  have hk : Below w0.heap.size w0 w0 := Below.refl _ _
  refine wp_seq ?_
  refine wp_region_lit ?_
  refine w_box (m := 2) (F := fun j => if j < 1 then .string (str s) else .int .i64 d) (Ev.t (v := .agg (arr 2 (fun j => if j < 1 then .string (str s) else .int .i64 d))) rfl rfl) rfl ?_
  intro b_c w1 hbe_b_c r_b_c hb2
  have ge_b_c : w0.heap.size ≤ b_c := by have := hk.size; omega
  clear hbe_b_c
  replace hk := thenB hk hb2
  refine w_val (v := .bool false) (y_as (Ev.c (v := .bool false))) ?_
  refine wpList_nil ?_
  refine then_n ?_
  refine wp_seq ?_
  refine wp_seq ?_
  refine wp_region_lit ?_
  refine w_call (Try.func18) (by kernel_rfl) rfl m0 (ctrWakes_c  w1) ?_
  rintro _ w3 ⟨rfl, hb4⟩
  refine ⟨_, rfl, ?_⟩
  replace r_b_c := r_b_c.step hb4
  replace hk := thenB hk hb4
  refine w_val (v := .bool false) (y_not (Ev.t (v := .bool true) rfl rfl)) ?_
  refine wpList_nil ?_
  refine then_n ?_
  refine c_ff (Ev.t (v := .bool false) rfl rfl) ?_
  refine wp_skip ?_
  refine then_n ?_
  refine wp_seq ?_
  refine wp_seq ?_
  refine wp_region_lit ?_
  refine w_val (v := .string (str text)) (y_mv (Ev.t (v := .string (str text)) rfl rfl)) ?_
  refine w_val (v := .int .i64 ((text.length : Nat) : Int)) (y_len (Ev.t (v := .string (str text)) rfl rfl) Try.underlying9) ?_
  refine w_val (v := .bool (decide (1000 < ((text.length : Nat) : Int)))) (y_bin (Ev.t (v := .int .i64 ((text.length : Nat) : Int)) rfl rfl) (Ev.c (v := .int .i64 1000)) b_gtr) ?_
  refine wpList_nil ?_
  refine then_n ?_
  refine c_if (p := 1000 < ((text.length : Nat) : Int)) (Ev.t (v := .bool (decide (1000 < ((text.length : Nat) : Int)))) rfl rfl) (fun hc5 => ?_) (fun hc5 => ?_)
  · skip
    refine wp_seq ?_
    refine wp_region_lit ?_
    refine w_val (v := .bool true) (y_as (Ev.c (v := .bool true))) ?_
    refine wpList_nil ?_
    refine then_n ?_
    refine wp_ret ?_
    refine then_r ?_
    refine fin_ret1 rfl (Ev.t (v := .bool true) rfl rfl) ?_
    exact ⟨rfl, hk⟩
  · skip
    refine wp_skip ?_
    refine then_n ?_
    refine wp_seq ?_
    refine wp_region_lit ?_
    refine w_val (v := .string (str key)) (y_mv (Ev.t (v := .string (str key)) rfl rfl)) ?_
    refine w_val (v := .pointer (some ⟨b_c, 0, none⟩)) (y_off (y_fa (Ev.t (v := .pointer (some ⟨b_c, 0, none⟩)) rfl rfl) (CtrXorsWT.fa34_0 _ _)) (by first | rfl | omega)) ?_
    refine w_val (v := .string (str s)) (y_ld (Ev.t (v := .pointer (some ⟨b_c, 0, none⟩)) rfl rfl) CtrXorsWT.sc9 (r_b_c.val (v := .string (str s)) (by omega) ((if_pos (by omega)).trans (by first | with_reducible rfl | (with_reducible congr 1 <;> omega) | (with_reducible congr 2 <;> omega) | (with_reducible congr 3 <;> omega) | rfl)))) ?_
    refine w_val (v := .pointer (some ⟨b_c, 1, none⟩)) (y_off (y_fa (Ev.t (v := .pointer (some ⟨b_c, 0, none⟩)) rfl rfl) (CtrXorsWT.fa34_1 _ _)) (by first | rfl | omega)) ?_
    refine w_val (v := .int .i64 d) (y_ld (Ev.t (v := .pointer (some ⟨b_c, 1, none⟩)) rfl rfl) CtrXorsWT.sc3 (r_b_c.val (v := .int .i64 d) (by omega) ((if_neg (by omega)).trans (by first | with_reducible rfl | (with_reducible congr 1 <;> omega) | (with_reducible congr 2 <;> omega) | (with_reducible congr 3 <;> omega) | rfl)))) ?_
    refine w_val (v := .string (str text)) (y_mv (Ev.t (v := .string (str text)) rfl rfl)) ?_
    refine w_call (Try.func21) (by kernel_rfl) rfl (m4 (Ev.t (v := .string (str key)) rfl rfl) (Ev.t (v := .string (str s)) rfl rfl) (Ev.t (v := .int .i64 d) rfl rfl) (Ev.t (v := .string (str text)) rfl rfl)) (ctrXor_d key text hok s d hs hd w3) ?_
    rintro _ w6 ⟨rfl, hb7⟩
    refine ⟨_, rfl, ?_⟩
    replace r_b_c := r_b_c.step hb7
    replace hk := thenB hk hb7
    refine w_val (v := .tuple #[.string (str ([] : List (BitVec 8))), .int .i64 2]) (y_mv (Ev.t (v := .tuple #[.string (str ([] : List (BitVec 8))), .int .i64 2]) rfl rfl)) ?_
    refine w_val (v := .string (str ([] : List (BitVec 8)))) (y_ext (v := .string (str ([] : List (BitVec 8)))) (Ev.t (v := .tuple #[.string (str ([] : List (BitVec 8))), .int .i64 2]) rfl rfl) rfl) ?_
    refine w_val (v := .int .i64 2) (y_ext (v := .int .i64 2) (Ev.t (v := .tuple #[.string (str ([] : List (BitVec 8))), .int .i64 2]) rfl rfl) rfl) ?_
    refine w_val (v := .string (str ([] : List (BitVec 8)))) (y_as (Ev.t (v := .string (str ([] : List (BitVec 8)))) rfl rfl)) ?_
    refine w_val (v := .int .i64 2) (y_as (Ev.t (v := .int .i64 2) rfl rfl)) ?_
    refine wpList_nil ?_
    refine then_n ?_
    refine wp_seq ?_
    refine region_dc (Nat.testBit 0) 16 CtrXorsWT.mixed rfl ?_
    intro w8 hb9
    replace r_b_c := r_b_c.step hb9
    replace hk := thenB hk hb9
    have hS : Cls w8 w8 := Below.refl _ _
    refine d_pure (v := .string (str key)) 0 rfl (by kernel_rfl) (by kernel_rfl) (by kernel_rfl) (by kernel_rfl) (fun _ _ _ h => h) (fun w' => y_mv (Ev.t (v := .string (str key)) rfl rfl)) ?_
    refine d_pure (v := .pointer (some ⟨b_c, 0, none⟩)) 1 rfl (by kernel_rfl) (by kernel_rfl) (by kernel_rfl) (by kernel_rfl) (fun _ _ _ h => h) (fun w' => y_off (y_fa (Ev.t (v := .pointer (some ⟨b_c, 0, none⟩)) rfl rfl) (CtrXorsWT.fa34_0 _ _)) (by first | rfl | omega)) ?_
    refine d_take (v := .string (str s)) 2 (Nat.testBit 64516) rfl (by kernel_rfl) (by kernel_rfl) (by kernel_rfl) (by kernel_rfl) (by kernel_rfl) (by kernel_rfl) (fun _ _ _ h => h) hS (fun w' hw' => y_ld (Ev.t (v := .pointer (some ⟨b_c, 0, none⟩)) rfl rfl) CtrXorsWT.sc9 (cls_cell (r_b_c.val (v := .string (str s)) (by omega) ((if_pos (by omega)).trans (by first | with_reducible rfl | (with_reducible congr 1 <;> omega) | (with_reducible congr 2 <;> omega) | (with_reducible congr 3 <;> omega) | rfl))) r_b_c.lt w' hw')) ?_
    refine d_pure (v := .pointer (some ⟨b_c, 1, none⟩)) 3 rfl (by kernel_rfl) (by kernel_rfl) (by kernel_rfl) (by kernel_rfl) (fun _ _ _ h => h) (fun w' => y_off (y_fa (Ev.t (v := .pointer (some ⟨b_c, 0, none⟩)) rfl rfl) (CtrXorsWT.fa34_1 _ _)) (by first | rfl | omega)) ?_
    refine d_take (v := .int .i64 d) 4 (Nat.testBit 64528) rfl (by kernel_rfl) (by kernel_rfl) (by kernel_rfl) (by kernel_rfl) (by kernel_rfl) (by kernel_rfl) (fun _ _ _ h => h) hS (fun w' hw' => y_ld (Ev.t (v := .pointer (some ⟨b_c, 1, none⟩)) rfl rfl) CtrXorsWT.sc3 (cls_cell (r_b_c.val (v := .int .i64 d) (by omega) ((if_neg (by omega)).trans (by first | with_reducible rfl | (with_reducible congr 1 <;> omega) | (with_reducible congr 2 <;> omega) | (with_reducible congr 3 <;> omega) | rfl))) r_b_c.lt w' hw')) ?_
    refine d_pure (v := .string (str text)) 5 rfl (by kernel_rfl) (by kernel_rfl) (by kernel_rfl) (by kernel_rfl) (fun _ _ _ h => h) (fun w' => y_mv (Ev.t (v := .string (str text)) rfl rfl)) ?_
    refine d_pure (v := .string (str text)) 6 rfl (by kernel_rfl) (by kernel_rfl) (by kernel_rfl) (by kernel_rfl) (fun _ _ _ h => h) (fun w' => y_mv (Ev.t (v := .string (str text)) rfl rfl)) ?_
    refine d_pure (v := .int .i64 ((text.length : Nat) : Int)) 7 rfl (by kernel_rfl) (by kernel_rfl) (by kernel_rfl) (by kernel_rfl) (fun _ _ _ h => h) (fun w' => y_len (Ev.t (v := .string (str text)) rfl rfl) Try.underlying9) ?_
    refine d_pure (v := .int .i64 (((text.length : Nat) : Int) / 2)) 8 rfl (by kernel_rfl) (by kernel_rfl) (by kernel_rfl) (by kernel_rfl) (fun _ _ _ h => h) (fun w' => y_bin (Ev.t (v := .int .i64 ((text.length : Nat) : Int)) rfl rfl) (Ev.c (v := .int .i64 2)) (b_quo (by omega))) ?_
    refine d_pure (v := .string (str (text.take (text.length / 2)))) 9 rfl (by kernel_rfl) (by kernel_rfl) (by kernel_rfl) (by kernel_rfl) (fun _ _ _ h => h) (fun w' => y_sls (Ev.t (v := .string (str text)) rfl rfl) evo.no (evo.s (Ev.t (v := .int .i64 (((text.length : Nat) : Int) / 2)) rfl rfl)) Try.underlying9 (bnd_h (h := (text.length / 2)) (by omega) (by omega))) ?_
    refine d_one 10 (by kernel_rfl) rfl ?_
    refine w_call (Try.func21) (by kernel_rfl) rfl (m4 (Ev.t (v := .string (str key)) rfl rfl) (Ev.t (v := .string (str s)) rfl rfl) (Ev.t (v := .int .i64 d) rfl rfl) (Ev.t (v := .string (str (text.take (text.length / 2)))) rfl rfl)) (ctrXor_d key (text.take (text.length / 2)) hok s d hs hd w8) ?_
    rintro _ w10 ⟨rfl, hb11⟩
    refine ⟨_, rfl, ?_⟩
    replace r_b_c := r_b_c.step hb11
    replace hk := thenB hk hb11
    replace hS := thenB hS hb11
    refine wpList_nil ?_
    refine then_n ⟨fun _ h => thenB h (by assumption), ?_⟩
    refine d_pure (v := .tuple #[.string (str ([] : List (BitVec 8))), .int .i64 2]) 11 rfl (by kernel_rfl) (by kernel_rfl) (by kernel_rfl) (by kernel_rfl) (fun _ _ _ h => h) (fun w' => y_mv (Ev.t (v := .tuple #[.string (str ([] : List (BitVec 8))), .int .i64 2]) rfl rfl)) ?_
    refine d_pure (v := .string (str ([] : List (BitVec 8)))) 12 rfl (by kernel_rfl) (by kernel_rfl) (by kernel_rfl) (by kernel_rfl) (fun _ _ _ h => h) (fun w' => y_ext (v := .string (str ([] : List (BitVec 8)))) (Ev.t (v := .tuple #[.string (str ([] : List (BitVec 8))), .int .i64 2]) rfl rfl) rfl) ?_
    refine d_pure (v := .int .i64 2) 13 rfl (by kernel_rfl) (by kernel_rfl) (by kernel_rfl) (by kernel_rfl) (fun _ _ _ h => h) (fun w' => y_ext (v := .int .i64 2) (Ev.t (v := .tuple #[.string (str ([] : List (BitVec 8))), .int .i64 2]) rfl rfl) rfl) ?_
    refine d_pure (v := .string (str ([] : List (BitVec 8)))) 14 rfl (by kernel_rfl) (by kernel_rfl) (by kernel_rfl) (by kernel_rfl) (fun _ _ _ h => h) (fun w' => y_as (Ev.t (v := .string (str ([] : List (BitVec 8)))) rfl rfl)) ?_
    refine d_pure (v := .int .i64 2) 15 rfl (by kernel_rfl) (by kernel_rfl) (by kernel_rfl) (by kernel_rfl) (fun _ _ _ h => h) (fun w' => y_as (Ev.t (v := .int .i64 2) rfl rfl)) ?_
    refine d_done (by kernel_rfl) ?_
    clear hS
    refine then_n ?_
    refine wp_seq ?_
    refine wp_region_lit ?_
    refine w_val (v := .int .i64 2) (y_mv (Ev.t (v := .int .i64 2) rfl rfl)) ?_
    refine w_val (v := .int .i64 2) (y_mv (Ev.t (v := .int .i64 2) rfl rfl)) ?_
    refine w_val (v := .bool true) (y_bin (Ev.t (v := .int .i64 2) rfl rfl) (Ev.t (v := .int .i64 2) rfl rfl) b_eql) ?_
    refine w_val (v := .bool true) (y_mv (Ev.t (v := .bool true) rfl rfl)) ?_
    refine w_val_g (v := .int .i64 2) (want_yes (j := 3) rfl rfl (Ev.t (v := .bool true) rfl rfl) rfl) (y_mv (Ev.t (v := .int .i64 2) rfl rfl)) ?_
    refine w_val_g (v := .bool true) (want_yes (j := 3) rfl rfl (Ev.t (v := .bool true) rfl rfl) rfl) (y_bin (Ev.t (v := .int .i64 2) rfl rfl) (Ev.c (v := .int .i64 0)) b_neq) ?_
    refine w_val_g (v := .bool true) (want_yes (j := 3) rfl rfl (Ev.t (v := .bool true) rfl rfl) rfl) (y_mv (Ev.t (v := .bool true) rfl rfl)) ?_
    first | with_reducible refine w_skip ?_ ?_ | refine w_skip ?_ ?_
    · exact want_no (j := 6) rfl rfl (Ev.t (v := .bool true) rfl rfl) rfl
    first | with_reducible refine w_skip ?_ ?_ | refine w_skip ?_ ?_
    · exact want_no (j := 6) rfl rfl (Ev.t (v := .bool true) rfl rfl) rfl
    first | with_reducible refine w_skip ?_ ?_ | refine w_skip ?_ ?_
    · exact want_no (j := 6) rfl rfl (Ev.t (v := .bool true) rfl rfl) rfl
    first | with_reducible refine w_skip ?_ ?_ | refine w_skip ?_ ?_
    · exact want_no (j := 6) rfl rfl (Ev.t (v := .bool true) rfl rfl) rfl
    first | with_reducible refine w_skip ?_ ?_ | refine w_skip ?_ ?_
    · exact want_no (j := 6) rfl rfl (Ev.t (v := .bool true) rfl rfl) rfl
    first | with_reducible refine w_skip ?_ ?_ | refine w_skip ?_ ?_
    · exact want_no (j := 6) rfl rfl (Ev.t (v := .bool true) rfl rfl) rfl
    first | with_reducible refine w_skip ?_ ?_ | refine w_skip ?_ ?_
    · exact want_no (j := 6) rfl rfl (Ev.t (v := .bool true) rfl rfl) rfl
    first | with_reducible refine w_skip ?_ ?_ | refine w_skip ?_ ?_
    · exact want_un (j := 13) rfl rfl (Ev.t (v := undef) rfl rfl) rfl
    first | with_reducible refine w_skip ?_ ?_ | refine w_skip ?_ ?_
    · exact want_un (j := 13) rfl rfl (Ev.t (v := undef) rfl rfl) rfl
    first | with_reducible refine w_skip ?_ ?_ | refine w_skip ?_ ?_
    · exact want_un (j := 13) rfl rfl (Ev.t (v := undef) rfl rfl) rfl
    first | with_reducible refine w_skip ?_ ?_ | refine w_skip ?_ ?_
    · exact want_un (j := 13) rfl rfl (Ev.t (v := undef) rfl rfl) rfl
    first | with_reducible refine w_skip ?_ ?_ | refine w_skip ?_ ?_
    · exact want_un (j := 13) rfl rfl (Ev.t (v := undef) rfl rfl) rfl
    first | with_reducible refine w_skip ?_ ?_ | refine w_skip ?_ ?_
    · exact want_no (j := 6) rfl rfl (Ev.t (v := .bool true) rfl rfl) rfl
    refine w_val_g (v := .bool true) (want_yes (j := 3) rfl rfl (Ev.t (v := .bool true) rfl rfl) rfl) (y_pick_t (Ev.t (v := .bool true) rfl rfl) (Ev.c (v := .bool true))) ?_
    refine w_val (v := .bool true) (y_pick_t (Ev.t (v := .bool true) rfl rfl) (Ev.t (v := .bool true) rfl rfl)) ?_
    refine w_val (v := .bool true) (y_as (Ev.t (v := .bool true) rfl rfl)) ?_
    refine wpList_nil ?_
    refine then_n ?_
    refine wp_ret ?_
    refine fin_ret1 rfl (Ev.t (v := .bool true) rfl rfl) ?_
    exact ⟨rfl, hk⟩

set_option maxRecDepth 100000 in
set_option maxHeartbeats 1000000 in
theorem ctrXors_z (key text : List (BitVec 8)) (hok : Aes.okKey key.length) (s : List (BitVec 8)) (d : Nat) (hs : s.length = 16) (h1 : 1 ≤ d) (h16 : d ≤ 16) (ht : 70000 < text.length) (w0 : World) : Calls Try.prog 8 #[.string (str key), .agg (arr 2 (fun j => if j < 1 then .string (str s) else .int .i64 ((d : Nat) : Int))), .string (str text)] w0 fun e w' => e = .returned (.bool true) ∧ Below w0.heap.size w0 w' := by
  refine enter (n := 72) Try.func8 rfl rfl rfl ?_
  have hk : Below w0.heap.size w0 w0 := Below.refl _ _
  refine wp_seq ?_
  refine wp_region_lit ?_
  refine w_box (m := 2) (F := fun j => if j < 1 then .string (str s) else .int .i64 ((d : Nat) : Int)) (Ev.t (v := .agg (arr 2 (fun j => if j < 1 then .string (str s) else .int .i64 ((d : Nat) : Int)))) rfl rfl) rfl ?_
  intro b_c w1 hbe_b_c r_b_c hb2
  have ge_b_c : w0.heap.size ≤ b_c := by have := hk.size; omega
  clear hbe_b_c
  replace hk := thenB hk hb2
  refine w_val (v := .bool false) (y_as (Ev.c (v := .bool false))) ?_
  refine wpList_nil ?_
  refine then_n ?_
  refine wp_seq ?_
  refine wp_seq ?_
  refine wp_region_lit ?_
  refine w_call (Try.func18) (by kernel_rfl) rfl m0 (ctrWakes_c  w1) ?_
  rintro _ w3 ⟨rfl, hb4⟩
  refine ⟨_, rfl, ?_⟩
  replace r_b_c := r_b_c.step hb4
  replace hk := thenB hk hb4
  refine w_val (v := .bool false) (y_not (Ev.t (v := .bool true) rfl rfl)) ?_
  refine wpList_nil ?_
  refine then_n ?_
  refine c_ff (Ev.t (v := .bool false) rfl rfl) ?_
  refine wp_skip ?_
  refine then_n ?_
  refine wp_seq ?_
  refine wp_seq ?_
  refine wp_region_lit ?_
  refine w_val (v := .string (str text)) (y_mv (Ev.t (v := .string (str text)) rfl rfl)) ?_
  refine w_val (v := .int .i64 ((text.length : Nat) : Int)) (y_len (Ev.t (v := .string (str text)) rfl rfl) Try.underlying9) ?_
  refine w_val (v := .bool (decide (3000 < ((text.length : Nat) : Int)))) (y_bin (Ev.t (v := .int .i64 ((text.length : Nat) : Int)) rfl rfl) (Ev.c (v := .int .i64 3000)) b_gtr) ?_
  refine w_val (v := .bool (decide (3000 < ((text.length : Nat) : Int)))) (y_mv (Ev.t (v := .bool (decide (3000 < ((text.length : Nat) : Int)))) rfl rfl)) ?_
  by_cases hc5 : 3000 < ((text.length : Nat) : Int)
  · skip
    refine w_val_g (v := .string (str text)) (want_yes (j := 3) rfl rfl (Ev.t (v := .bool true) (Eq.trans (b := .bool (decide (3000 < ((text.length : Nat) : Int)))) rfl (by rw [decide_eq_true hc5])) rfl) rfl) (y_mv (Ev.t (v := .string (str text)) rfl rfl)) ?_
    refine w_val_g (v := .int .i64 ((text.length : Nat) : Int)) (want_yes (j := 3) rfl rfl (Ev.t (v := .bool true) (Eq.trans (b := .bool (decide (3000 < ((text.length : Nat) : Int)))) rfl (by rw [decide_eq_true hc5])) rfl) rfl) (y_len (Ev.t (v := .string (str text)) rfl rfl) Try.underlying9) ?_
    refine w_val_g (v := .bool (decide (((text.length : Nat) : Int) ≤ 70000))) (want_yes (j := 3) rfl rfl (Ev.t (v := .bool true) (Eq.trans (b := .bool (decide (3000 < ((text.length : Nat) : Int)))) rfl (by rw [decide_eq_true hc5])) rfl) rfl) (y_bin (Ev.t (v := .int .i64 ((text.length : Nat) : Int)) rfl rfl) (Ev.c (v := .int .i64 70000)) b_leq) ?_
    refine w_val (v := .bool (decide (((text.length : Nat) : Int) ≤ 70000))) (y_pick_t (Ev.t (v := .bool true) (Eq.trans (b := .bool (decide (3000 < ((text.length : Nat) : Int)))) rfl (by rw [decide_eq_true hc5])) rfl) (Ev.t (v := .bool (decide (((text.length : Nat) : Int) ≤ 70000))) rfl rfl)) ?_
    refine wpList_nil ?_
    refine then_n ?_
    refine c_if (p := ((text.length : Nat) : Int) ≤ 70000) (Ev.t (v := .bool (decide (((text.length : Nat) : Int) ≤ 70000))) rfl rfl) (fun hc6 => ?_) (fun hc6 => ?_)
    · skip
      refine wp_seq ?_
      refine wp_region_lit ?_
      refine w_val (v := .bool true) (y_as (Ev.c (v := .bool true))) ?_
      refine wpList_nil ?_
      refine then_n ?_
      refine wp_ret ?_
      refine then_r ?_
      refine fin_ret1 rfl (Ev.t (v := .bool true) rfl rfl) ?_
      exact ⟨rfl, hk⟩
    · skip
      refine wp_skip ?_
      refine then_n ?_
      refine wp_seq ?_
      refine wp_region_lit ?_
      refine w_val (v := .string (str key)) (y_mv (Ev.t (v := .string (str key)) rfl rfl)) ?_
      refine w_val (v := .pointer (some ⟨b_c, 0, none⟩)) (y_off (y_fa (Ev.t (v := .pointer (some ⟨b_c, 0, none⟩)) rfl rfl) (CtrXorsWT.fa34_0 _ _)) (by first | rfl | omega)) ?_
      refine w_val (v := .string (str s)) (y_ld (Ev.t (v := .pointer (some ⟨b_c, 0, none⟩)) rfl rfl) CtrXorsWT.sc9 (r_b_c.val (v := .string (str s)) (by omega) ((if_pos (by omega)).trans (by first | with_reducible rfl | (with_reducible congr 1 <;> omega) | (with_reducible congr 2 <;> omega) | (with_reducible congr 3 <;> omega) | rfl)))) ?_
      refine w_val (v := .pointer (some ⟨b_c, 1, none⟩)) (y_off (y_fa (Ev.t (v := .pointer (some ⟨b_c, 0, none⟩)) rfl rfl) (CtrXorsWT.fa34_1 _ _)) (by first | rfl | omega)) ?_
      refine w_val (v := .int .i64 ((d : Nat) : Int)) (y_ld (Ev.t (v := .pointer (some ⟨b_c, 1, none⟩)) rfl rfl) CtrXorsWT.sc3 (r_b_c.val (v := .int .i64 ((d : Nat) : Int)) (by omega) ((if_neg (by omega)).trans (by first | with_reducible rfl | (with_reducible congr 1 <;> omega) | (with_reducible congr 2 <;> omega) | (with_reducible congr 3 <;> omega) | rfl)))) ?_
      refine w_val (v := .string (str text)) (y_mv (Ev.t (v := .string (str text)) rfl rfl)) ?_
      refine w_call (Try.func21) (by kernel_rfl) rfl (m4 (Ev.t (v := .string (str key)) rfl rfl) (Ev.t (v := .string (str s)) rfl rfl) (Ev.t (v := .int .i64 ((d : Nat) : Int)) rfl rfl) (Ev.t (v := .string (str text)) rfl rfl)) (ctrXor_z key text hok s d hs h1 h16 ht w3) ?_
      rintro _ w7 ⟨rfl, hb8⟩
      refine ⟨_, rfl, ?_⟩
      replace r_b_c := r_b_c.step hb8
      replace hk := thenB hk hb8
      refine w_val (v := .tuple #[.string (str ([] : List (BitVec 8))), .int .i64 6]) (y_mv (Ev.t (v := .tuple #[.string (str ([] : List (BitVec 8))), .int .i64 6]) rfl rfl)) ?_
      refine w_val (v := .string (str ([] : List (BitVec 8)))) (y_ext (v := .string (str ([] : List (BitVec 8)))) (Ev.t (v := .tuple #[.string (str ([] : List (BitVec 8))), .int .i64 6]) rfl rfl) rfl) ?_
      refine w_val (v := .int .i64 6) (y_ext (v := .int .i64 6) (Ev.t (v := .tuple #[.string (str ([] : List (BitVec 8))), .int .i64 6]) rfl rfl) rfl) ?_
      refine w_val (v := .string (str ([] : List (BitVec 8)))) (y_as (Ev.t (v := .string (str ([] : List (BitVec 8)))) rfl rfl)) ?_
      refine w_val (v := .int .i64 6) (y_as (Ev.t (v := .int .i64 6) rfl rfl)) ?_
      refine wpList_nil ?_
      refine then_n ?_
      refine wp_seq ?_
      refine wp_region_lit ?_
      refine w_val (v := .string (str key)) (y_mv (Ev.t (v := .string (str key)) rfl rfl)) ?_
      refine w_val (v := .pointer (some ⟨b_c, 0, none⟩)) (y_off (y_fa (Ev.t (v := .pointer (some ⟨b_c, 0, none⟩)) rfl rfl) (CtrXorsWT.fa34_0 _ _)) (by first | rfl | omega)) ?_
      refine w_val (v := .string (str s)) (y_ld (Ev.t (v := .pointer (some ⟨b_c, 0, none⟩)) rfl rfl) CtrXorsWT.sc9 (r_b_c.val (v := .string (str s)) (by omega) ((if_pos (by omega)).trans (by first | with_reducible rfl | (with_reducible congr 1 <;> omega) | (with_reducible congr 2 <;> omega) | (with_reducible congr 3 <;> omega) | rfl)))) ?_
      refine w_val (v := .pointer (some ⟨b_c, 1, none⟩)) (y_off (y_fa (Ev.t (v := .pointer (some ⟨b_c, 0, none⟩)) rfl rfl) (CtrXorsWT.fa34_1 _ _)) (by first | rfl | omega)) ?_
      refine w_val (v := .int .i64 ((d : Nat) : Int)) (y_ld (Ev.t (v := .pointer (some ⟨b_c, 1, none⟩)) rfl rfl) CtrXorsWT.sc3 (r_b_c.val (v := .int .i64 ((d : Nat) : Int)) (by omega) ((if_neg (by omega)).trans (by first | with_reducible rfl | (with_reducible congr 1 <;> omega) | (with_reducible congr 2 <;> omega) | (with_reducible congr 3 <;> omega) | rfl)))) ?_
      refine w_val (v := .string (str text)) (y_mv (Ev.t (v := .string (str text)) rfl rfl)) ?_
      refine w_call (Try.func22) (by kernel_rfl) rfl (m4 (Ev.t (v := .string (str key)) rfl rfl) (Ev.t (v := .string (str s)) rfl rfl) (Ev.t (v := .int .i64 ((d : Nat) : Int)) rfl rfl) (Ev.t (v := .string (str text)) rfl rfl)) (refCtr_z key text hok s d hs h1 h16 ht w7) ?_
      rintro _ w9 ⟨rfl, hb10⟩
      refine ⟨_, rfl, ?_⟩
      replace r_b_c := r_b_c.step hb10
      replace hk := thenB hk hb10
      refine w_val (v := .tuple #[.string (str ([] : List (BitVec 8))), .int .i64 6]) (y_mv (Ev.t (v := .tuple #[.string (str ([] : List (BitVec 8))), .int .i64 6]) rfl rfl)) ?_
      refine w_val (v := .string (str ([] : List (BitVec 8)))) (y_ext (v := .string (str ([] : List (BitVec 8)))) (Ev.t (v := .tuple #[.string (str ([] : List (BitVec 8))), .int .i64 6]) rfl rfl) rfl) ?_
      refine w_val (v := .int .i64 6) (y_ext (v := .int .i64 6) (Ev.t (v := .tuple #[.string (str ([] : List (BitVec 8))), .int .i64 6]) rfl rfl) rfl) ?_
      refine w_val (v := .string (str ([] : List (BitVec 8)))) (y_as (Ev.t (v := .string (str ([] : List (BitVec 8)))) rfl rfl)) ?_
      refine w_val (v := .int .i64 6) (y_as (Ev.t (v := .int .i64 6) rfl rfl)) ?_
      refine wpList_nil ?_
      refine then_n ?_
      refine wp_seq ?_
      refine wp_seq ?_
      refine wp_region_lit ?_
      refine w_val (v := .string (str ([] : List (BitVec 8)))) (y_mv (Ev.t (v := .string (str ([] : List (BitVec 8)))) rfl rfl)) ?_
      refine w_val (v := .string (str ([] : List (BitVec 8)))) (y_mv (Ev.t (v := .string (str ([] : List (BitVec 8)))) rfl rfl)) ?_
      refine w_val (v := .bool false) (y_bin (Ev.t (v := .string (str ([] : List (BitVec 8)))) rfl rfl) (Ev.t (v := .string (str ([] : List (BitVec 8)))) rfl rfl) b_nes_same) ?_
      refine w_val (v := .bool false) (y_mv (Ev.t (v := .bool false) rfl rfl)) ?_
      refine w_val_g (v := .int .i64 6) (want_yes (j := 3) rfl rfl (Ev.t (v := .bool false) rfl rfl) rfl) (y_mv (Ev.t (v := .int .i64 6) rfl rfl)) ?_
      refine w_val_g (v := .int .i64 6) (want_yes (j := 3) rfl rfl (Ev.t (v := .bool false) rfl rfl) rfl) (y_mv (Ev.t (v := .int .i64 6) rfl rfl)) ?_
      refine w_val_g (v := .bool false) (want_yes (j := 3) rfl rfl (Ev.t (v := .bool false) rfl rfl) rfl) (y_bin (Ev.t (v := .int .i64 6) rfl rfl) (Ev.t (v := .int .i64 6) rfl rfl) b_neq) ?_
      refine w_val (v := .bool false) (y_pick_f (Ev.t (v := .bool false) rfl rfl) (Ev.t (v := .bool false) rfl rfl)) ?_
      refine wpList_nil ?_
      refine then_n ?_
      refine c_ff (Ev.t (v := .bool false) rfl rfl) ?_
      refine wp_skip ?_
      refine then_n ?_
      refine wp_seq ?_
      refine wp_region_lit ?_
      refine w_val (v := .string (str key)) (y_mv (Ev.t (v := .string (str key)) rfl rfl)) ?_
      refine w_val (v := .pointer (some ⟨b_c, 0, none⟩)) (y_off (y_fa (Ev.t (v := .pointer (some ⟨b_c, 0, none⟩)) rfl rfl) (CtrXorsWT.fa34_0 _ _)) (by first | rfl | omega)) ?_
      refine w_val (v := .string (str s)) (y_ld (Ev.t (v := .pointer (some ⟨b_c, 0, none⟩)) rfl rfl) CtrXorsWT.sc9 (r_b_c.val (v := .string (str s)) (by omega) ((if_pos (by omega)).trans (by first | with_reducible rfl | (with_reducible congr 1 <;> omega) | (with_reducible congr 2 <;> omega) | (with_reducible congr 3 <;> omega) | rfl)))) ?_
      refine w_val (v := .pointer (some ⟨b_c, 1, none⟩)) (y_off (y_fa (Ev.t (v := .pointer (some ⟨b_c, 0, none⟩)) rfl rfl) (CtrXorsWT.fa34_1 _ _)) (by first | rfl | omega)) ?_
      refine w_val (v := .int .i64 ((d : Nat) : Int)) (y_ld (Ev.t (v := .pointer (some ⟨b_c, 1, none⟩)) rfl rfl) CtrXorsWT.sc3 (r_b_c.val (v := .int .i64 ((d : Nat) : Int)) (by omega) ((if_neg (by omega)).trans (by first | with_reducible rfl | (with_reducible congr 1 <;> omega) | (with_reducible congr 2 <;> omega) | (with_reducible congr 3 <;> omega) | rfl)))) ?_
      refine w_val (v := .string (str ([] : List (BitVec 8)))) (y_mv (Ev.t (v := .string (str ([] : List (BitVec 8)))) rfl rfl)) ?_
      refine w_call (Try.func21) (by kernel_rfl) rfl (m4 (Ev.t (v := .string (str key)) rfl rfl) (Ev.t (v := .string (str s)) rfl rfl) (Ev.t (v := .int .i64 ((d : Nat) : Int)) rfl rfl) (Ev.t (v := .string (str ([] : List (BitVec 8)))) rfl rfl)) (ctrXor_y key ([] : List (BitVec 8)) hok s d hs h1 h16 (by (try simp only [List.length_take]); (try simp only [List.length_nil]); omega) w9) ?_
      rintro _ w11 ⟨rfl, hb12⟩
      refine ⟨_, rfl, ?_⟩
      replace r_b_c := r_b_c.step hb12
      replace hk := thenB hk hb12
      refine w_val (v := .tuple #[.string (str (Ct.x key s d ([] : List (BitVec 8)))), .int .i64 0]) (y_mv (Ev.t (v := .tuple #[.string (str (Ct.x key s d ([] : List (BitVec 8)))), .int .i64 0]) rfl rfl)) ?_
      refine w_val (v := .string (str (Ct.x key s d ([] : List (BitVec 8))))) (y_ext (v := .string (str (Ct.x key s d ([] : List (BitVec 8))))) (Ev.t (v := .tuple #[.string (str (Ct.x key s d ([] : List (BitVec 8)))), .int .i64 0]) rfl rfl) rfl) ?_
      refine w_val (v := .int .i64 0) (y_ext (v := .int .i64 0) (Ev.t (v := .tuple #[.string (str (Ct.x key s d ([] : List (BitVec 8)))), .int .i64 0]) rfl rfl) rfl) ?_
      refine w_val (v := .string (str (Ct.x key s d ([] : List (BitVec 8))))) (y_as (Ev.t (v := .string (str (Ct.x key s d ([] : List (BitVec 8))))) rfl rfl)) ?_
      refine w_val (v := .int .i64 0) (y_as (Ev.t (v := .int .i64 0) rfl rfl)) ?_
      refine wpList_nil ?_
      refine then_n ?_
      refine wp_seq ?_
      refine wp_region_lit ?_
      refine w_val (v := .int .i64 6) (y_mv (Ev.t (v := .int .i64 6) rfl rfl)) ?_
      refine w_val (v := .bool true) (y_bin (Ev.t (v := .int .i64 6) rfl rfl) (Ev.c (v := .int .i64 0)) b_neq) ?_
      refine w_val (v := .bool true) (y_mv (Ev.t (v := .bool true) rfl rfl)) ?_
      first | with_reducible refine w_skip ?_ ?_ | refine w_skip ?_ ?_
      · exact want_no (j := 2) rfl rfl (Ev.t (v := .bool true) rfl rfl) rfl
      first | with_reducible refine w_skip ?_ ?_ | refine w_skip ?_ ?_
      · exact want_no (j := 2) rfl rfl (Ev.t (v := .bool true) rfl rfl) rfl
      first | with_reducible refine w_skip ?_ ?_ | refine w_skip ?_ ?_
      · exact want_no (j := 2) rfl rfl (Ev.t (v := .bool true) rfl rfl) rfl
      first | with_reducible refine w_skip ?_ ?_ | refine w_skip ?_ ?_
      · exact want_un (j := 5) rfl rfl (Ev.t (v := undef) rfl rfl) rfl
      first | with_reducible refine w_skip ?_ ?_ | refine w_skip ?_ ?_
      · exact want_un (j := 5) rfl rfl (Ev.t (v := undef) rfl rfl) rfl
      first | with_reducible refine w_skip ?_ ?_ | refine w_skip ?_ ?_
      · exact want_un (j := 5) rfl rfl (Ev.t (v := undef) rfl rfl) rfl
      first | with_reducible refine w_skip ?_ ?_ | refine w_skip ?_ ?_
      · exact want_no (j := 2) rfl rfl (Ev.t (v := .bool true) rfl rfl) rfl
      refine w_val (v := .bool true) (y_pick_t (Ev.t (v := .bool true) rfl rfl) (Ev.c (v := .bool true))) ?_
      refine w_val (v := .bool true) (y_as (Ev.t (v := .bool true) rfl rfl)) ?_
      refine wpList_nil ?_
      refine then_n ?_
      refine wp_ret ?_
      refine fin_ret1 rfl (Ev.t (v := .bool true) rfl rfl) ?_
      exact ⟨rfl, hk⟩
  · skip
    first | with_reducible refine w_skip ?_ ?_ | refine w_skip ?_ ?_
    · exact want_no (j := 3) rfl rfl (Ev.t (v := .bool false) (Eq.trans (b := .bool (decide (3000 < ((text.length : Nat) : Int)))) rfl (by rw [decide_eq_false hc5])) rfl) rfl
    first | with_reducible refine w_skip ?_ ?_ | refine w_skip ?_ ?_
    · exact want_no (j := 3) rfl rfl (Ev.t (v := .bool false) (Eq.trans (b := .bool (decide (3000 < ((text.length : Nat) : Int)))) rfl (by rw [decide_eq_false hc5])) rfl) rfl
    first | with_reducible refine w_skip ?_ ?_ | refine w_skip ?_ ?_
    · exact want_no (j := 3) rfl rfl (Ev.t (v := .bool false) (Eq.trans (b := .bool (decide (3000 < ((text.length : Nat) : Int)))) rfl (by rw [decide_eq_false hc5])) rfl) rfl
    refine w_val (v := .bool false) (y_pick_f (Ev.t (v := .bool false) (Eq.trans (b := .bool (decide (3000 < ((text.length : Nat) : Int)))) rfl (by rw [decide_eq_false hc5])) rfl) (Ev.c (v := .bool false))) ?_
    refine wpList_nil ?_
    refine then_n ?_
    refine c_ff (Ev.t (v := .bool false) rfl rfl) ?_
    refine wp_skip ?_
    refine then_n ?_
    refine wp_seq ?_
    refine wp_region_lit ?_
    refine w_val (v := .string (str key)) (y_mv (Ev.t (v := .string (str key)) rfl rfl)) ?_
    refine w_val (v := .pointer (some ⟨b_c, 0, none⟩)) (y_off (y_fa (Ev.t (v := .pointer (some ⟨b_c, 0, none⟩)) rfl rfl) (CtrXorsWT.fa34_0 _ _)) (by first | rfl | omega)) ?_
    refine w_val (v := .string (str s)) (y_ld (Ev.t (v := .pointer (some ⟨b_c, 0, none⟩)) rfl rfl) CtrXorsWT.sc9 (r_b_c.val (v := .string (str s)) (by omega) ((if_pos (by omega)).trans (by first | with_reducible rfl | (with_reducible congr 1 <;> omega) | (with_reducible congr 2 <;> omega) | (with_reducible congr 3 <;> omega) | rfl)))) ?_
    refine w_val (v := .pointer (some ⟨b_c, 1, none⟩)) (y_off (y_fa (Ev.t (v := .pointer (some ⟨b_c, 0, none⟩)) rfl rfl) (CtrXorsWT.fa34_1 _ _)) (by first | rfl | omega)) ?_
    refine w_val (v := .int .i64 ((d : Nat) : Int)) (y_ld (Ev.t (v := .pointer (some ⟨b_c, 1, none⟩)) rfl rfl) CtrXorsWT.sc3 (r_b_c.val (v := .int .i64 ((d : Nat) : Int)) (by omega) ((if_neg (by omega)).trans (by first | with_reducible rfl | (with_reducible congr 1 <;> omega) | (with_reducible congr 2 <;> omega) | (with_reducible congr 3 <;> omega) | rfl)))) ?_
    refine w_val (v := .string (str text)) (y_mv (Ev.t (v := .string (str text)) rfl rfl)) ?_
    refine w_call (Try.func21) (by kernel_rfl) rfl (m4 (Ev.t (v := .string (str key)) rfl rfl) (Ev.t (v := .string (str s)) rfl rfl) (Ev.t (v := .int .i64 ((d : Nat) : Int)) rfl rfl) (Ev.t (v := .string (str text)) rfl rfl)) (ctrXor_z key text hok s d hs h1 h16 ht w3) ?_
    rintro _ w13 ⟨rfl, hb14⟩
    refine ⟨_, rfl, ?_⟩
    replace r_b_c := r_b_c.step hb14
    replace hk := thenB hk hb14
    refine w_val (v := .tuple #[.string (str ([] : List (BitVec 8))), .int .i64 6]) (y_mv (Ev.t (v := .tuple #[.string (str ([] : List (BitVec 8))), .int .i64 6]) rfl rfl)) ?_
    refine w_val (v := .string (str ([] : List (BitVec 8)))) (y_ext (v := .string (str ([] : List (BitVec 8)))) (Ev.t (v := .tuple #[.string (str ([] : List (BitVec 8))), .int .i64 6]) rfl rfl) rfl) ?_
    refine w_val (v := .int .i64 6) (y_ext (v := .int .i64 6) (Ev.t (v := .tuple #[.string (str ([] : List (BitVec 8))), .int .i64 6]) rfl rfl) rfl) ?_
    refine w_val (v := .string (str ([] : List (BitVec 8)))) (y_as (Ev.t (v := .string (str ([] : List (BitVec 8)))) rfl rfl)) ?_
    refine w_val (v := .int .i64 6) (y_as (Ev.t (v := .int .i64 6) rfl rfl)) ?_
    refine wpList_nil ?_
    refine then_n ?_
    refine wp_seq ?_
    refine wp_region_lit ?_
    refine w_val (v := .string (str key)) (y_mv (Ev.t (v := .string (str key)) rfl rfl)) ?_
    refine w_val (v := .pointer (some ⟨b_c, 0, none⟩)) (y_off (y_fa (Ev.t (v := .pointer (some ⟨b_c, 0, none⟩)) rfl rfl) (CtrXorsWT.fa34_0 _ _)) (by first | rfl | omega)) ?_
    refine w_val (v := .string (str s)) (y_ld (Ev.t (v := .pointer (some ⟨b_c, 0, none⟩)) rfl rfl) CtrXorsWT.sc9 (r_b_c.val (v := .string (str s)) (by omega) ((if_pos (by omega)).trans (by first | with_reducible rfl | (with_reducible congr 1 <;> omega) | (with_reducible congr 2 <;> omega) | (with_reducible congr 3 <;> omega) | rfl)))) ?_
    refine w_val (v := .pointer (some ⟨b_c, 1, none⟩)) (y_off (y_fa (Ev.t (v := .pointer (some ⟨b_c, 0, none⟩)) rfl rfl) (CtrXorsWT.fa34_1 _ _)) (by first | rfl | omega)) ?_
    refine w_val (v := .int .i64 ((d : Nat) : Int)) (y_ld (Ev.t (v := .pointer (some ⟨b_c, 1, none⟩)) rfl rfl) CtrXorsWT.sc3 (r_b_c.val (v := .int .i64 ((d : Nat) : Int)) (by omega) ((if_neg (by omega)).trans (by first | with_reducible rfl | (with_reducible congr 1 <;> omega) | (with_reducible congr 2 <;> omega) | (with_reducible congr 3 <;> omega) | rfl)))) ?_
    refine w_val (v := .string (str text)) (y_mv (Ev.t (v := .string (str text)) rfl rfl)) ?_
    refine w_call (Try.func22) (by kernel_rfl) rfl (m4 (Ev.t (v := .string (str key)) rfl rfl) (Ev.t (v := .string (str s)) rfl rfl) (Ev.t (v := .int .i64 ((d : Nat) : Int)) rfl rfl) (Ev.t (v := .string (str text)) rfl rfl)) (refCtr_z key text hok s d hs h1 h16 ht w13) ?_
    rintro _ w15 ⟨rfl, hb16⟩
    refine ⟨_, rfl, ?_⟩
    replace r_b_c := r_b_c.step hb16
    replace hk := thenB hk hb16
    refine w_val (v := .tuple #[.string (str ([] : List (BitVec 8))), .int .i64 6]) (y_mv (Ev.t (v := .tuple #[.string (str ([] : List (BitVec 8))), .int .i64 6]) rfl rfl)) ?_
    refine w_val (v := .string (str ([] : List (BitVec 8)))) (y_ext (v := .string (str ([] : List (BitVec 8)))) (Ev.t (v := .tuple #[.string (str ([] : List (BitVec 8))), .int .i64 6]) rfl rfl) rfl) ?_
    refine w_val (v := .int .i64 6) (y_ext (v := .int .i64 6) (Ev.t (v := .tuple #[.string (str ([] : List (BitVec 8))), .int .i64 6]) rfl rfl) rfl) ?_
    refine w_val (v := .string (str ([] : List (BitVec 8)))) (y_as (Ev.t (v := .string (str ([] : List (BitVec 8)))) rfl rfl)) ?_
    refine w_val (v := .int .i64 6) (y_as (Ev.t (v := .int .i64 6) rfl rfl)) ?_
    refine wpList_nil ?_
    refine then_n ?_
    refine wp_seq ?_
    refine wp_seq ?_
    refine wp_region_lit ?_
    refine w_val (v := .string (str ([] : List (BitVec 8)))) (y_mv (Ev.t (v := .string (str ([] : List (BitVec 8)))) rfl rfl)) ?_
    refine w_val (v := .string (str ([] : List (BitVec 8)))) (y_mv (Ev.t (v := .string (str ([] : List (BitVec 8)))) rfl rfl)) ?_
    refine w_val (v := .bool false) (y_bin (Ev.t (v := .string (str ([] : List (BitVec 8)))) rfl rfl) (Ev.t (v := .string (str ([] : List (BitVec 8)))) rfl rfl) b_nes_same) ?_
    refine w_val (v := .bool false) (y_mv (Ev.t (v := .bool false) rfl rfl)) ?_
    refine w_val_g (v := .int .i64 6) (want_yes (j := 3) rfl rfl (Ev.t (v := .bool false) rfl rfl) rfl) (y_mv (Ev.t (v := .int .i64 6) rfl rfl)) ?_
    refine w_val_g (v := .int .i64 6) (want_yes (j := 3) rfl rfl (Ev.t (v := .bool false) rfl rfl) rfl) (y_mv (Ev.t (v := .int .i64 6) rfl rfl)) ?_
    refine w_val_g (v := .bool false) (want_yes (j := 3) rfl rfl (Ev.t (v := .bool false) rfl rfl) rfl) (y_bin (Ev.t (v := .int .i64 6) rfl rfl) (Ev.t (v := .int .i64 6) rfl rfl) b_neq) ?_
    refine w_val (v := .bool false) (y_pick_f (Ev.t (v := .bool false) rfl rfl) (Ev.t (v := .bool false) rfl rfl)) ?_
    refine wpList_nil ?_
    refine then_n ?_
    refine c_ff (Ev.t (v := .bool false) rfl rfl) ?_
    refine wp_skip ?_
    refine then_n ?_
    refine wp_seq ?_
    refine wp_region_lit ?_
    refine w_val (v := .string (str key)) (y_mv (Ev.t (v := .string (str key)) rfl rfl)) ?_
    refine w_val (v := .pointer (some ⟨b_c, 0, none⟩)) (y_off (y_fa (Ev.t (v := .pointer (some ⟨b_c, 0, none⟩)) rfl rfl) (CtrXorsWT.fa34_0 _ _)) (by first | rfl | omega)) ?_
    refine w_val (v := .string (str s)) (y_ld (Ev.t (v := .pointer (some ⟨b_c, 0, none⟩)) rfl rfl) CtrXorsWT.sc9 (r_b_c.val (v := .string (str s)) (by omega) ((if_pos (by omega)).trans (by first | with_reducible rfl | (with_reducible congr 1 <;> omega) | (with_reducible congr 2 <;> omega) | (with_reducible congr 3 <;> omega) | rfl)))) ?_
    refine w_val (v := .pointer (some ⟨b_c, 1, none⟩)) (y_off (y_fa (Ev.t (v := .pointer (some ⟨b_c, 0, none⟩)) rfl rfl) (CtrXorsWT.fa34_1 _ _)) (by first | rfl | omega)) ?_
    refine w_val (v := .int .i64 ((d : Nat) : Int)) (y_ld (Ev.t (v := .pointer (some ⟨b_c, 1, none⟩)) rfl rfl) CtrXorsWT.sc3 (r_b_c.val (v := .int .i64 ((d : Nat) : Int)) (by omega) ((if_neg (by omega)).trans (by first | with_reducible rfl | (with_reducible congr 1 <;> omega) | (with_reducible congr 2 <;> omega) | (with_reducible congr 3 <;> omega) | rfl)))) ?_
    refine w_val (v := .string (str ([] : List (BitVec 8)))) (y_mv (Ev.t (v := .string (str ([] : List (BitVec 8)))) rfl rfl)) ?_
    refine w_call (Try.func21) (by kernel_rfl) rfl (m4 (Ev.t (v := .string (str key)) rfl rfl) (Ev.t (v := .string (str s)) rfl rfl) (Ev.t (v := .int .i64 ((d : Nat) : Int)) rfl rfl) (Ev.t (v := .string (str ([] : List (BitVec 8)))) rfl rfl)) (ctrXor_y key ([] : List (BitVec 8)) hok s d hs h1 h16 (by (try simp only [List.length_take]); (try simp only [List.length_nil]); omega) w15) ?_
    rintro _ w17 ⟨rfl, hb18⟩
    refine ⟨_, rfl, ?_⟩
    replace r_b_c := r_b_c.step hb18
    replace hk := thenB hk hb18
    refine w_val (v := .tuple #[.string (str (Ct.x key s d ([] : List (BitVec 8)))), .int .i64 0]) (y_mv (Ev.t (v := .tuple #[.string (str (Ct.x key s d ([] : List (BitVec 8)))), .int .i64 0]) rfl rfl)) ?_
    refine w_val (v := .string (str (Ct.x key s d ([] : List (BitVec 8))))) (y_ext (v := .string (str (Ct.x key s d ([] : List (BitVec 8))))) (Ev.t (v := .tuple #[.string (str (Ct.x key s d ([] : List (BitVec 8)))), .int .i64 0]) rfl rfl) rfl) ?_
    refine w_val (v := .int .i64 0) (y_ext (v := .int .i64 0) (Ev.t (v := .tuple #[.string (str (Ct.x key s d ([] : List (BitVec 8)))), .int .i64 0]) rfl rfl) rfl) ?_
    refine w_val (v := .string (str (Ct.x key s d ([] : List (BitVec 8))))) (y_as (Ev.t (v := .string (str (Ct.x key s d ([] : List (BitVec 8))))) rfl rfl)) ?_
    refine w_val (v := .int .i64 0) (y_as (Ev.t (v := .int .i64 0) rfl rfl)) ?_
    refine wpList_nil ?_
    refine then_n ?_
    refine wp_seq ?_
    refine wp_region_lit ?_
    refine w_val (v := .int .i64 6) (y_mv (Ev.t (v := .int .i64 6) rfl rfl)) ?_
    refine w_val (v := .bool true) (y_bin (Ev.t (v := .int .i64 6) rfl rfl) (Ev.c (v := .int .i64 0)) b_neq) ?_
    refine w_val (v := .bool true) (y_mv (Ev.t (v := .bool true) rfl rfl)) ?_
    first | with_reducible refine w_skip ?_ ?_ | refine w_skip ?_ ?_
    · exact want_no (j := 2) rfl rfl (Ev.t (v := .bool true) rfl rfl) rfl
    first | with_reducible refine w_skip ?_ ?_ | refine w_skip ?_ ?_
    · exact want_no (j := 2) rfl rfl (Ev.t (v := .bool true) rfl rfl) rfl
    first | with_reducible refine w_skip ?_ ?_ | refine w_skip ?_ ?_
    · exact want_no (j := 2) rfl rfl (Ev.t (v := .bool true) rfl rfl) rfl
    first | with_reducible refine w_skip ?_ ?_ | refine w_skip ?_ ?_
    · exact want_un (j := 5) rfl rfl (Ev.t (v := undef) rfl rfl) rfl
    first | with_reducible refine w_skip ?_ ?_ | refine w_skip ?_ ?_
    · exact want_un (j := 5) rfl rfl (Ev.t (v := undef) rfl rfl) rfl
    first | with_reducible refine w_skip ?_ ?_ | refine w_skip ?_ ?_
    · exact want_un (j := 5) rfl rfl (Ev.t (v := undef) rfl rfl) rfl
    first | with_reducible refine w_skip ?_ ?_ | refine w_skip ?_ ?_
    · exact want_no (j := 2) rfl rfl (Ev.t (v := .bool true) rfl rfl) rfl
    refine w_val (v := .bool true) (y_pick_t (Ev.t (v := .bool true) rfl rfl) (Ev.c (v := .bool true))) ?_
    refine w_val (v := .bool true) (y_as (Ev.t (v := .bool true) rfl rfl)) ?_
    refine wpList_nil ?_
    refine then_n ?_
    refine wp_ret ?_
    refine fin_ret1 rfl (Ev.t (v := .bool true) rfl rfl) ?_
    exact ⟨rfl, hk⟩

set_option maxRecDepth 100000 in
set_option maxHeartbeats 1000000 in
theorem ctrXors_0 (key text : List (BitVec 8)) (hok : Aes.okKey key.length) (s : List (BitVec 8)) (d : Nat) (hs : s.length = 16) (h1 : 1 ≤ d) (h16 : d ≤ 16) (ht : text.length = 0) (w0 : World) : Calls Try.prog 8 #[.string (str key), .agg (arr 2 (fun j => if j < 1 then .string (str s) else .int .i64 ((d : Nat) : Int))), .string (str text)] w0 fun e w' => e = .returned (.bool true) ∧ Below w0.heap.size w0 w' := by
  refine enter (n := 72) Try.func8 rfl rfl rfl ?_
  have hk : Below w0.heap.size w0 w0 := Below.refl _ _
  refine wp_seq ?_
  refine wp_region_lit ?_
  refine w_box (m := 2) (F := fun j => if j < 1 then .string (str s) else .int .i64 ((d : Nat) : Int)) (Ev.t (v := .agg (arr 2 (fun j => if j < 1 then .string (str s) else .int .i64 ((d : Nat) : Int)))) rfl rfl) rfl ?_
  intro b_c w1 hbe_b_c r_b_c hb2
  have ge_b_c : w0.heap.size ≤ b_c := by have := hk.size; omega
  clear hbe_b_c
  replace hk := thenB hk hb2
  refine w_val (v := .bool false) (y_as (Ev.c (v := .bool false))) ?_
  refine wpList_nil ?_
  refine then_n ?_
  refine wp_seq ?_
  refine wp_seq ?_
  refine wp_region_lit ?_
  refine w_call (Try.func18) (by kernel_rfl) rfl m0 (ctrWakes_c  w1) ?_
  rintro _ w3 ⟨rfl, hb4⟩
  refine ⟨_, rfl, ?_⟩
  replace r_b_c := r_b_c.step hb4
  replace hk := thenB hk hb4
  refine w_val (v := .bool false) (y_not (Ev.t (v := .bool true) rfl rfl)) ?_
  refine wpList_nil ?_
  refine then_n ?_
  refine c_ff (Ev.t (v := .bool false) rfl rfl) ?_
  refine wp_skip ?_
  refine then_n ?_
  refine wp_seq ?_
  refine wp_seq ?_
  refine wp_region_lit ?_
  refine w_val (v := .string (str text)) (y_mv (Ev.t (v := .string (str text)) rfl rfl)) ?_
  refine w_val (v := .int .i64 ((text.length : Nat) : Int)) (y_len (Ev.t (v := .string (str text)) rfl rfl) Try.underlying9) ?_
  refine w_val (v := .bool (decide (3000 < ((text.length : Nat) : Int)))) (y_bin (Ev.t (v := .int .i64 ((text.length : Nat) : Int)) rfl rfl) (Ev.c (v := .int .i64 3000)) b_gtr) ?_
  refine w_val (v := .bool (decide (3000 < ((text.length : Nat) : Int)))) (y_mv (Ev.t (v := .bool (decide (3000 < ((text.length : Nat) : Int)))) rfl rfl)) ?_
  by_cases hc5 : 3000 < ((text.length : Nat) : Int)
  · skip
    refine w_val_g (v := .string (str text)) (want_yes (j := 3) rfl rfl (Ev.t (v := .bool true) (Eq.trans (b := .bool (decide (3000 < ((text.length : Nat) : Int)))) rfl (by rw [decide_eq_true hc5])) rfl) rfl) (y_mv (Ev.t (v := .string (str text)) rfl rfl)) ?_
    refine w_val_g (v := .int .i64 ((text.length : Nat) : Int)) (want_yes (j := 3) rfl rfl (Ev.t (v := .bool true) (Eq.trans (b := .bool (decide (3000 < ((text.length : Nat) : Int)))) rfl (by rw [decide_eq_true hc5])) rfl) rfl) (y_len (Ev.t (v := .string (str text)) rfl rfl) Try.underlying9) ?_
    refine w_val_g (v := .bool (decide (((text.length : Nat) : Int) ≤ 70000))) (want_yes (j := 3) rfl rfl (Ev.t (v := .bool true) (Eq.trans (b := .bool (decide (3000 < ((text.length : Nat) : Int)))) rfl (by rw [decide_eq_true hc5])) rfl) rfl) (y_bin (Ev.t (v := .int .i64 ((text.length : Nat) : Int)) rfl rfl) (Ev.c (v := .int .i64 70000)) b_leq) ?_
    refine w_val (v := .bool (decide (((text.length : Nat) : Int) ≤ 70000))) (y_pick_t (Ev.t (v := .bool true) (Eq.trans (b := .bool (decide (3000 < ((text.length : Nat) : Int)))) rfl (by rw [decide_eq_true hc5])) rfl) (Ev.t (v := .bool (decide (((text.length : Nat) : Int) ≤ 70000))) rfl rfl)) ?_
    refine wpList_nil ?_
    refine then_n ?_
    refine c_if (p := ((text.length : Nat) : Int) ≤ 70000) (Ev.t (v := .bool (decide (((text.length : Nat) : Int) ≤ 70000))) rfl rfl) (fun hc6 => ?_) (fun hc6 => ?_)
    · skip
      refine wp_seq ?_
      refine wp_region_lit ?_
      refine w_val (v := .bool true) (y_as (Ev.c (v := .bool true))) ?_
      refine wpList_nil ?_
      refine then_n ?_
      refine wp_ret ?_
      refine then_r ?_
      refine fin_ret1 rfl (Ev.t (v := .bool true) rfl rfl) ?_
      exact ⟨rfl, hk⟩
    · skip
      refine wp_skip ?_
      refine then_n ?_
      refine wp_seq ?_
      refine wp_region_lit ?_
      refine w_val (v := .string (str key)) (y_mv (Ev.t (v := .string (str key)) rfl rfl)) ?_
      refine w_val (v := .pointer (some ⟨b_c, 0, none⟩)) (y_off (y_fa (Ev.t (v := .pointer (some ⟨b_c, 0, none⟩)) rfl rfl) (CtrXorsWT.fa34_0 _ _)) (by first | rfl | omega)) ?_
      refine w_val (v := .string (str s)) (y_ld (Ev.t (v := .pointer (some ⟨b_c, 0, none⟩)) rfl rfl) CtrXorsWT.sc9 (r_b_c.val (v := .string (str s)) (by omega) ((if_pos (by omega)).trans (by first | with_reducible rfl | (with_reducible congr 1 <;> omega) | (with_reducible congr 2 <;> omega) | (with_reducible congr 3 <;> omega) | rfl)))) ?_
      refine w_val (v := .pointer (some ⟨b_c, 1, none⟩)) (y_off (y_fa (Ev.t (v := .pointer (some ⟨b_c, 0, none⟩)) rfl rfl) (CtrXorsWT.fa34_1 _ _)) (by first | rfl | omega)) ?_
      refine w_val (v := .int .i64 ((d : Nat) : Int)) (y_ld (Ev.t (v := .pointer (some ⟨b_c, 1, none⟩)) rfl rfl) CtrXorsWT.sc3 (r_b_c.val (v := .int .i64 ((d : Nat) : Int)) (by omega) ((if_neg (by omega)).trans (by first | with_reducible rfl | (with_reducible congr 1 <;> omega) | (with_reducible congr 2 <;> omega) | (with_reducible congr 3 <;> omega) | rfl)))) ?_
      refine w_val (v := .string (str text)) (y_mv (Ev.t (v := .string (str text)) rfl rfl)) ?_
      refine w_call (Try.func21) (by kernel_rfl) rfl (m4 (Ev.t (v := .string (str key)) rfl rfl) (Ev.t (v := .string (str s)) rfl rfl) (Ev.t (v := .int .i64 ((d : Nat) : Int)) rfl rfl) (Ev.t (v := .string (str text)) rfl rfl)) (ctrXor_y key text hok s d hs h1 h16 (by (try simp only [List.length_take]); (try simp only [List.length_nil]); omega) w3) ?_
      rintro _ w7 ⟨rfl, hb8⟩
      refine ⟨_, rfl, ?_⟩
      replace r_b_c := r_b_c.step hb8
      replace hk := thenB hk hb8
      refine w_val (v := .tuple #[.string (str (Ct.x key s d text)), .int .i64 0]) (y_mv (Ev.t (v := .tuple #[.string (str (Ct.x key s d text)), .int .i64 0]) rfl rfl)) ?_
      refine w_val (v := .string (str (Ct.x key s d text))) (y_ext (v := .string (str (Ct.x key s d text))) (Ev.t (v := .tuple #[.string (str (Ct.x key s d text)), .int .i64 0]) rfl rfl) rfl) ?_
      refine w_val (v := .int .i64 0) (y_ext (v := .int .i64 0) (Ev.t (v := .tuple #[.string (str (Ct.x key s d text)), .int .i64 0]) rfl rfl) rfl) ?_
      refine w_val (v := .string (str (Ct.x key s d text))) (y_as (Ev.t (v := .string (str (Ct.x key s d text))) rfl rfl)) ?_
      refine w_val (v := .int .i64 0) (y_as (Ev.t (v := .int .i64 0) rfl rfl)) ?_
      refine wpList_nil ?_
      refine then_n ?_
      refine wp_seq ?_
      refine wp_region_lit ?_
      refine w_val (v := .string (str key)) (y_mv (Ev.t (v := .string (str key)) rfl rfl)) ?_
      refine w_val (v := .pointer (some ⟨b_c, 0, none⟩)) (y_off (y_fa (Ev.t (v := .pointer (some ⟨b_c, 0, none⟩)) rfl rfl) (CtrXorsWT.fa34_0 _ _)) (by first | rfl | omega)) ?_
      refine w_val (v := .string (str s)) (y_ld (Ev.t (v := .pointer (some ⟨b_c, 0, none⟩)) rfl rfl) CtrXorsWT.sc9 (r_b_c.val (v := .string (str s)) (by omega) ((if_pos (by omega)).trans (by first | with_reducible rfl | (with_reducible congr 1 <;> omega) | (with_reducible congr 2 <;> omega) | (with_reducible congr 3 <;> omega) | rfl)))) ?_
      refine w_val (v := .pointer (some ⟨b_c, 1, none⟩)) (y_off (y_fa (Ev.t (v := .pointer (some ⟨b_c, 0, none⟩)) rfl rfl) (CtrXorsWT.fa34_1 _ _)) (by first | rfl | omega)) ?_
      refine w_val (v := .int .i64 ((d : Nat) : Int)) (y_ld (Ev.t (v := .pointer (some ⟨b_c, 1, none⟩)) rfl rfl) CtrXorsWT.sc3 (r_b_c.val (v := .int .i64 ((d : Nat) : Int)) (by omega) ((if_neg (by omega)).trans (by first | with_reducible rfl | (with_reducible congr 1 <;> omega) | (with_reducible congr 2 <;> omega) | (with_reducible congr 3 <;> omega) | rfl)))) ?_
      refine w_val (v := .string (str text)) (y_mv (Ev.t (v := .string (str text)) rfl rfl)) ?_
      refine w_call (Try.func22) (by kernel_rfl) rfl (m4 (Ev.t (v := .string (str key)) rfl rfl) (Ev.t (v := .string (str s)) rfl rfl) (Ev.t (v := .int .i64 ((d : Nat) : Int)) rfl rfl) (Ev.t (v := .string (str text)) rfl rfl)) (refCtr_y0 key text hok s d hs h1 h16 ht w7) ?_
      rintro _ w9 ⟨rfl, hb10⟩
      refine ⟨_, rfl, ?_⟩
      replace r_b_c := r_b_c.step hb10
      replace hk := thenB hk hb10
      refine w_val (v := .tuple #[.string (str (Ct.x key s d text)), .int .i64 0]) (y_mv (Ev.t (v := .tuple #[.string (str (Ct.x key s d text)), .int .i64 0]) rfl rfl)) ?_
      refine w_val (v := .string (str (Ct.x key s d text))) (y_ext (v := .string (str (Ct.x key s d text))) (Ev.t (v := .tuple #[.string (str (Ct.x key s d text)), .int .i64 0]) rfl rfl) rfl) ?_
      refine w_val (v := .int .i64 0) (y_ext (v := .int .i64 0) (Ev.t (v := .tuple #[.string (str (Ct.x key s d text)), .int .i64 0]) rfl rfl) rfl) ?_
      refine w_val (v := .string (str (Ct.x key s d text))) (y_as (Ev.t (v := .string (str (Ct.x key s d text))) rfl rfl)) ?_
      refine w_val (v := .int .i64 0) (y_as (Ev.t (v := .int .i64 0) rfl rfl)) ?_
      refine wpList_nil ?_
      refine then_n ?_
      refine wp_seq ?_
      refine wp_seq ?_
      refine wp_region_lit ?_
      refine w_val (v := .string (str (Ct.x key s d text))) (y_mv (Ev.t (v := .string (str (Ct.x key s d text))) rfl rfl)) ?_
      refine w_val (v := .string (str (Ct.x key s d text))) (y_mv (Ev.t (v := .string (str (Ct.x key s d text))) rfl rfl)) ?_
      refine w_val (v := .bool false) (y_bin (Ev.t (v := .string (str (Ct.x key s d text))) rfl rfl) (Ev.t (v := .string (str (Ct.x key s d text))) rfl rfl) b_nes_same) ?_
      refine w_val (v := .bool false) (y_mv (Ev.t (v := .bool false) rfl rfl)) ?_
      refine w_val_g (v := .int .i64 0) (want_yes (j := 3) rfl rfl (Ev.t (v := .bool false) rfl rfl) rfl) (y_mv (Ev.t (v := .int .i64 0) rfl rfl)) ?_
      refine w_val_g (v := .int .i64 0) (want_yes (j := 3) rfl rfl (Ev.t (v := .bool false) rfl rfl) rfl) (y_mv (Ev.t (v := .int .i64 0) rfl rfl)) ?_
      refine w_val_g (v := .bool false) (want_yes (j := 3) rfl rfl (Ev.t (v := .bool false) rfl rfl) rfl) (y_bin (Ev.t (v := .int .i64 0) rfl rfl) (Ev.t (v := .int .i64 0) rfl rfl) b_neq) ?_
      refine w_val (v := .bool false) (y_pick_f (Ev.t (v := .bool false) rfl rfl) (Ev.t (v := .bool false) rfl rfl)) ?_
      refine wpList_nil ?_
      refine then_n ?_
      refine c_ff (Ev.t (v := .bool false) rfl rfl) ?_
      refine wp_skip ?_
      refine then_n ?_
      refine wp_seq ?_
      refine wp_region_lit ?_
      refine w_val (v := .string (str key)) (y_mv (Ev.t (v := .string (str key)) rfl rfl)) ?_
      refine w_val (v := .pointer (some ⟨b_c, 0, none⟩)) (y_off (y_fa (Ev.t (v := .pointer (some ⟨b_c, 0, none⟩)) rfl rfl) (CtrXorsWT.fa34_0 _ _)) (by first | rfl | omega)) ?_
      refine w_val (v := .string (str s)) (y_ld (Ev.t (v := .pointer (some ⟨b_c, 0, none⟩)) rfl rfl) CtrXorsWT.sc9 (r_b_c.val (v := .string (str s)) (by omega) ((if_pos (by omega)).trans (by first | with_reducible rfl | (with_reducible congr 1 <;> omega) | (with_reducible congr 2 <;> omega) | (with_reducible congr 3 <;> omega) | rfl)))) ?_
      refine w_val (v := .pointer (some ⟨b_c, 1, none⟩)) (y_off (y_fa (Ev.t (v := .pointer (some ⟨b_c, 0, none⟩)) rfl rfl) (CtrXorsWT.fa34_1 _ _)) (by first | rfl | omega)) ?_
      refine w_val (v := .int .i64 ((d : Nat) : Int)) (y_ld (Ev.t (v := .pointer (some ⟨b_c, 1, none⟩)) rfl rfl) CtrXorsWT.sc3 (r_b_c.val (v := .int .i64 ((d : Nat) : Int)) (by omega) ((if_neg (by omega)).trans (by first | with_reducible rfl | (with_reducible congr 1 <;> omega) | (with_reducible congr 2 <;> omega) | (with_reducible congr 3 <;> omega) | rfl)))) ?_
      refine w_val (v := .string (str (Ct.x key s d text))) (y_mv (Ev.t (v := .string (str (Ct.x key s d text))) rfl rfl)) ?_
      refine w_call (Try.func21) (by kernel_rfl) rfl (m4 (Ev.t (v := .string (str key)) rfl rfl) (Ev.t (v := .string (str s)) rfl rfl) (Ev.t (v := .int .i64 ((d : Nat) : Int)) rfl rfl) (Ev.t (v := .string (str (Ct.x key s d text))) rfl rfl)) (ctrXorBack key text hok s d hs h1 h16 (by omega) w9) ?_
      rintro _ w11 ⟨rfl, hb12⟩
      refine ⟨_, rfl, ?_⟩
      replace r_b_c := r_b_c.step hb12
      replace hk := thenB hk hb12
      refine w_val (v := .tuple #[.string (str text), .int .i64 0]) (y_mv (Ev.t (v := .tuple #[.string (str text), .int .i64 0]) rfl rfl)) ?_
      refine w_val (v := .string (str text)) (y_ext (v := .string (str text)) (Ev.t (v := .tuple #[.string (str text), .int .i64 0]) rfl rfl) rfl) ?_
      refine w_val (v := .int .i64 0) (y_ext (v := .int .i64 0) (Ev.t (v := .tuple #[.string (str text), .int .i64 0]) rfl rfl) rfl) ?_
      refine w_val (v := .string (str text)) (y_as (Ev.t (v := .string (str text)) rfl rfl)) ?_
      refine w_val (v := .int .i64 0) (y_as (Ev.t (v := .int .i64 0) rfl rfl)) ?_
      refine wpList_nil ?_
      refine then_n ?_
      refine wp_seq ?_
      refine wp_region_lit ?_
      refine w_val (v := .int .i64 0) (y_mv (Ev.t (v := .int .i64 0) rfl rfl)) ?_
      refine w_val (v := .bool false) (y_bin (Ev.t (v := .int .i64 0) rfl rfl) (Ev.c (v := .int .i64 0)) b_neq) ?_
      refine w_val (v := .bool false) (y_mv (Ev.t (v := .bool false) rfl rfl)) ?_
      refine w_val_g (v := .int .i64 0) (want_yes (j := 2) rfl rfl (Ev.t (v := .bool false) rfl rfl) rfl) (y_mv (Ev.t (v := .int .i64 0) rfl rfl)) ?_
      refine w_val_g (v := .bool true) (want_yes (j := 2) rfl rfl (Ev.t (v := .bool false) rfl rfl) rfl) (y_bin (Ev.t (v := .int .i64 0) rfl rfl) (Ev.c (v := .int .i64 0)) b_eql) ?_
      refine w_val_g (v := .bool true) (want_yes (j := 2) rfl rfl (Ev.t (v := .bool false) rfl rfl) rfl) (y_mv (Ev.t (v := .bool true) rfl rfl)) ?_
      refine w_val_g (v := .string (str text)) (want_yes (j := 5) rfl rfl (Ev.t (v := .bool true) rfl rfl) rfl) (y_mv (Ev.t (v := .string (str text)) rfl rfl)) ?_
      refine w_val_g (v := .string (str text)) (want_yes (j := 5) rfl rfl (Ev.t (v := .bool true) rfl rfl) rfl) (y_mv (Ev.t (v := .string (str text)) rfl rfl)) ?_
      refine w_val_g (v := .bool true) (want_yes (j := 5) rfl rfl (Ev.t (v := .bool true) rfl rfl) rfl) (y_bin (Ev.t (v := .string (str text)) rfl rfl) (Ev.t (v := .string (str text)) rfl rfl) b_eqs_same) ?_
      refine w_val_g (v := .bool true) (want_yes (j := 2) rfl rfl (Ev.t (v := .bool false) rfl rfl) rfl) (y_pick_t (Ev.t (v := .bool true) rfl rfl) (Ev.t (v := .bool true) rfl rfl)) ?_
      refine w_val (v := .bool true) (y_pick_f (Ev.t (v := .bool false) rfl rfl) (Ev.t (v := .bool true) rfl rfl)) ?_
      refine w_val (v := .bool true) (y_as (Ev.t (v := .bool true) rfl rfl)) ?_
      refine wpList_nil ?_
      refine then_n ?_
      refine wp_ret ?_
      refine fin_ret1 rfl (Ev.t (v := .bool true) rfl rfl) ?_
      exact ⟨rfl, hk⟩
  · skip
    first | with_reducible refine w_skip ?_ ?_ | refine w_skip ?_ ?_
    · exact want_no (j := 3) rfl rfl (Ev.t (v := .bool false) (Eq.trans (b := .bool (decide (3000 < ((text.length : Nat) : Int)))) rfl (by rw [decide_eq_false hc5])) rfl) rfl
    first | with_reducible refine w_skip ?_ ?_ | refine w_skip ?_ ?_
    · exact want_no (j := 3) rfl rfl (Ev.t (v := .bool false) (Eq.trans (b := .bool (decide (3000 < ((text.length : Nat) : Int)))) rfl (by rw [decide_eq_false hc5])) rfl) rfl
    first | with_reducible refine w_skip ?_ ?_ | refine w_skip ?_ ?_
    · exact want_no (j := 3) rfl rfl (Ev.t (v := .bool false) (Eq.trans (b := .bool (decide (3000 < ((text.length : Nat) : Int)))) rfl (by rw [decide_eq_false hc5])) rfl) rfl
    refine w_val (v := .bool false) (y_pick_f (Ev.t (v := .bool false) (Eq.trans (b := .bool (decide (3000 < ((text.length : Nat) : Int)))) rfl (by rw [decide_eq_false hc5])) rfl) (Ev.c (v := .bool false))) ?_
    refine wpList_nil ?_
    refine then_n ?_
    refine c_ff (Ev.t (v := .bool false) rfl rfl) ?_
    refine wp_skip ?_
    refine then_n ?_
    refine wp_seq ?_
    refine wp_region_lit ?_
    refine w_val (v := .string (str key)) (y_mv (Ev.t (v := .string (str key)) rfl rfl)) ?_
    refine w_val (v := .pointer (some ⟨b_c, 0, none⟩)) (y_off (y_fa (Ev.t (v := .pointer (some ⟨b_c, 0, none⟩)) rfl rfl) (CtrXorsWT.fa34_0 _ _)) (by first | rfl | omega)) ?_
    refine w_val (v := .string (str s)) (y_ld (Ev.t (v := .pointer (some ⟨b_c, 0, none⟩)) rfl rfl) CtrXorsWT.sc9 (r_b_c.val (v := .string (str s)) (by omega) ((if_pos (by omega)).trans (by first | with_reducible rfl | (with_reducible congr 1 <;> omega) | (with_reducible congr 2 <;> omega) | (with_reducible congr 3 <;> omega) | rfl)))) ?_
    refine w_val (v := .pointer (some ⟨b_c, 1, none⟩)) (y_off (y_fa (Ev.t (v := .pointer (some ⟨b_c, 0, none⟩)) rfl rfl) (CtrXorsWT.fa34_1 _ _)) (by first | rfl | omega)) ?_
    refine w_val (v := .int .i64 ((d : Nat) : Int)) (y_ld (Ev.t (v := .pointer (some ⟨b_c, 1, none⟩)) rfl rfl) CtrXorsWT.sc3 (r_b_c.val (v := .int .i64 ((d : Nat) : Int)) (by omega) ((if_neg (by omega)).trans (by first | with_reducible rfl | (with_reducible congr 1 <;> omega) | (with_reducible congr 2 <;> omega) | (with_reducible congr 3 <;> omega) | rfl)))) ?_
    refine w_val (v := .string (str text)) (y_mv (Ev.t (v := .string (str text)) rfl rfl)) ?_
    refine w_call (Try.func21) (by kernel_rfl) rfl (m4 (Ev.t (v := .string (str key)) rfl rfl) (Ev.t (v := .string (str s)) rfl rfl) (Ev.t (v := .int .i64 ((d : Nat) : Int)) rfl rfl) (Ev.t (v := .string (str text)) rfl rfl)) (ctrXor_y key text hok s d hs h1 h16 (by (try simp only [List.length_take]); (try simp only [List.length_nil]); omega) w3) ?_
    rintro _ w13 ⟨rfl, hb14⟩
    refine ⟨_, rfl, ?_⟩
    replace r_b_c := r_b_c.step hb14
    replace hk := thenB hk hb14
    refine w_val (v := .tuple #[.string (str (Ct.x key s d text)), .int .i64 0]) (y_mv (Ev.t (v := .tuple #[.string (str (Ct.x key s d text)), .int .i64 0]) rfl rfl)) ?_
    refine w_val (v := .string (str (Ct.x key s d text))) (y_ext (v := .string (str (Ct.x key s d text))) (Ev.t (v := .tuple #[.string (str (Ct.x key s d text)), .int .i64 0]) rfl rfl) rfl) ?_
    refine w_val (v := .int .i64 0) (y_ext (v := .int .i64 0) (Ev.t (v := .tuple #[.string (str (Ct.x key s d text)), .int .i64 0]) rfl rfl) rfl) ?_
    refine w_val (v := .string (str (Ct.x key s d text))) (y_as (Ev.t (v := .string (str (Ct.x key s d text))) rfl rfl)) ?_
    refine w_val (v := .int .i64 0) (y_as (Ev.t (v := .int .i64 0) rfl rfl)) ?_
    refine wpList_nil ?_
    refine then_n ?_
    refine wp_seq ?_
    refine wp_region_lit ?_
    refine w_val (v := .string (str key)) (y_mv (Ev.t (v := .string (str key)) rfl rfl)) ?_
    refine w_val (v := .pointer (some ⟨b_c, 0, none⟩)) (y_off (y_fa (Ev.t (v := .pointer (some ⟨b_c, 0, none⟩)) rfl rfl) (CtrXorsWT.fa34_0 _ _)) (by first | rfl | omega)) ?_
    refine w_val (v := .string (str s)) (y_ld (Ev.t (v := .pointer (some ⟨b_c, 0, none⟩)) rfl rfl) CtrXorsWT.sc9 (r_b_c.val (v := .string (str s)) (by omega) ((if_pos (by omega)).trans (by first | with_reducible rfl | (with_reducible congr 1 <;> omega) | (with_reducible congr 2 <;> omega) | (with_reducible congr 3 <;> omega) | rfl)))) ?_
    refine w_val (v := .pointer (some ⟨b_c, 1, none⟩)) (y_off (y_fa (Ev.t (v := .pointer (some ⟨b_c, 0, none⟩)) rfl rfl) (CtrXorsWT.fa34_1 _ _)) (by first | rfl | omega)) ?_
    refine w_val (v := .int .i64 ((d : Nat) : Int)) (y_ld (Ev.t (v := .pointer (some ⟨b_c, 1, none⟩)) rfl rfl) CtrXorsWT.sc3 (r_b_c.val (v := .int .i64 ((d : Nat) : Int)) (by omega) ((if_neg (by omega)).trans (by first | with_reducible rfl | (with_reducible congr 1 <;> omega) | (with_reducible congr 2 <;> omega) | (with_reducible congr 3 <;> omega) | rfl)))) ?_
    refine w_val (v := .string (str text)) (y_mv (Ev.t (v := .string (str text)) rfl rfl)) ?_
    refine w_call (Try.func22) (by kernel_rfl) rfl (m4 (Ev.t (v := .string (str key)) rfl rfl) (Ev.t (v := .string (str s)) rfl rfl) (Ev.t (v := .int .i64 ((d : Nat) : Int)) rfl rfl) (Ev.t (v := .string (str text)) rfl rfl)) (refCtr_y0 key text hok s d hs h1 h16 ht w13) ?_
    rintro _ w15 ⟨rfl, hb16⟩
    refine ⟨_, rfl, ?_⟩
    replace r_b_c := r_b_c.step hb16
    replace hk := thenB hk hb16
    refine w_val (v := .tuple #[.string (str (Ct.x key s d text)), .int .i64 0]) (y_mv (Ev.t (v := .tuple #[.string (str (Ct.x key s d text)), .int .i64 0]) rfl rfl)) ?_
    refine w_val (v := .string (str (Ct.x key s d text))) (y_ext (v := .string (str (Ct.x key s d text))) (Ev.t (v := .tuple #[.string (str (Ct.x key s d text)), .int .i64 0]) rfl rfl) rfl) ?_
    refine w_val (v := .int .i64 0) (y_ext (v := .int .i64 0) (Ev.t (v := .tuple #[.string (str (Ct.x key s d text)), .int .i64 0]) rfl rfl) rfl) ?_
    refine w_val (v := .string (str (Ct.x key s d text))) (y_as (Ev.t (v := .string (str (Ct.x key s d text))) rfl rfl)) ?_
    refine w_val (v := .int .i64 0) (y_as (Ev.t (v := .int .i64 0) rfl rfl)) ?_
    refine wpList_nil ?_
    refine then_n ?_
    refine wp_seq ?_
    refine wp_seq ?_
    refine wp_region_lit ?_
    refine w_val (v := .string (str (Ct.x key s d text))) (y_mv (Ev.t (v := .string (str (Ct.x key s d text))) rfl rfl)) ?_
    refine w_val (v := .string (str (Ct.x key s d text))) (y_mv (Ev.t (v := .string (str (Ct.x key s d text))) rfl rfl)) ?_
    refine w_val (v := .bool false) (y_bin (Ev.t (v := .string (str (Ct.x key s d text))) rfl rfl) (Ev.t (v := .string (str (Ct.x key s d text))) rfl rfl) b_nes_same) ?_
    refine w_val (v := .bool false) (y_mv (Ev.t (v := .bool false) rfl rfl)) ?_
    refine w_val_g (v := .int .i64 0) (want_yes (j := 3) rfl rfl (Ev.t (v := .bool false) rfl rfl) rfl) (y_mv (Ev.t (v := .int .i64 0) rfl rfl)) ?_
    refine w_val_g (v := .int .i64 0) (want_yes (j := 3) rfl rfl (Ev.t (v := .bool false) rfl rfl) rfl) (y_mv (Ev.t (v := .int .i64 0) rfl rfl)) ?_
    refine w_val_g (v := .bool false) (want_yes (j := 3) rfl rfl (Ev.t (v := .bool false) rfl rfl) rfl) (y_bin (Ev.t (v := .int .i64 0) rfl rfl) (Ev.t (v := .int .i64 0) rfl rfl) b_neq) ?_
    refine w_val (v := .bool false) (y_pick_f (Ev.t (v := .bool false) rfl rfl) (Ev.t (v := .bool false) rfl rfl)) ?_
    refine wpList_nil ?_
    refine then_n ?_
    refine c_ff (Ev.t (v := .bool false) rfl rfl) ?_
    refine wp_skip ?_
    refine then_n ?_
    refine wp_seq ?_
    refine wp_region_lit ?_
    refine w_val (v := .string (str key)) (y_mv (Ev.t (v := .string (str key)) rfl rfl)) ?_
    refine w_val (v := .pointer (some ⟨b_c, 0, none⟩)) (y_off (y_fa (Ev.t (v := .pointer (some ⟨b_c, 0, none⟩)) rfl rfl) (CtrXorsWT.fa34_0 _ _)) (by first | rfl | omega)) ?_
    refine w_val (v := .string (str s)) (y_ld (Ev.t (v := .pointer (some ⟨b_c, 0, none⟩)) rfl rfl) CtrXorsWT.sc9 (r_b_c.val (v := .string (str s)) (by omega) ((if_pos (by omega)).trans (by first | with_reducible rfl | (with_reducible congr 1 <;> omega) | (with_reducible congr 2 <;> omega) | (with_reducible congr 3 <;> omega) | rfl)))) ?_
    refine w_val (v := .pointer (some ⟨b_c, 1, none⟩)) (y_off (y_fa (Ev.t (v := .pointer (some ⟨b_c, 0, none⟩)) rfl rfl) (CtrXorsWT.fa34_1 _ _)) (by first | rfl | omega)) ?_
    refine w_val (v := .int .i64 ((d : Nat) : Int)) (y_ld (Ev.t (v := .pointer (some ⟨b_c, 1, none⟩)) rfl rfl) CtrXorsWT.sc3 (r_b_c.val (v := .int .i64 ((d : Nat) : Int)) (by omega) ((if_neg (by omega)).trans (by first | with_reducible rfl | (with_reducible congr 1 <;> omega) | (with_reducible congr 2 <;> omega) | (with_reducible congr 3 <;> omega) | rfl)))) ?_
    refine w_val (v := .string (str (Ct.x key s d text))) (y_mv (Ev.t (v := .string (str (Ct.x key s d text))) rfl rfl)) ?_
    refine w_call (Try.func21) (by kernel_rfl) rfl (m4 (Ev.t (v := .string (str key)) rfl rfl) (Ev.t (v := .string (str s)) rfl rfl) (Ev.t (v := .int .i64 ((d : Nat) : Int)) rfl rfl) (Ev.t (v := .string (str (Ct.x key s d text))) rfl rfl)) (ctrXorBack key text hok s d hs h1 h16 (by omega) w15) ?_
    rintro _ w17 ⟨rfl, hb18⟩
    refine ⟨_, rfl, ?_⟩
    replace r_b_c := r_b_c.step hb18
    replace hk := thenB hk hb18
    refine w_val (v := .tuple #[.string (str text), .int .i64 0]) (y_mv (Ev.t (v := .tuple #[.string (str text), .int .i64 0]) rfl rfl)) ?_
    refine w_val (v := .string (str text)) (y_ext (v := .string (str text)) (Ev.t (v := .tuple #[.string (str text), .int .i64 0]) rfl rfl) rfl) ?_
    refine w_val (v := .int .i64 0) (y_ext (v := .int .i64 0) (Ev.t (v := .tuple #[.string (str text), .int .i64 0]) rfl rfl) rfl) ?_
    refine w_val (v := .string (str text)) (y_as (Ev.t (v := .string (str text)) rfl rfl)) ?_
    refine w_val (v := .int .i64 0) (y_as (Ev.t (v := .int .i64 0) rfl rfl)) ?_
    refine wpList_nil ?_
    refine then_n ?_
    refine wp_seq ?_
    refine wp_region_lit ?_
    refine w_val (v := .int .i64 0) (y_mv (Ev.t (v := .int .i64 0) rfl rfl)) ?_
    refine w_val (v := .bool false) (y_bin (Ev.t (v := .int .i64 0) rfl rfl) (Ev.c (v := .int .i64 0)) b_neq) ?_
    refine w_val (v := .bool false) (y_mv (Ev.t (v := .bool false) rfl rfl)) ?_
    refine w_val_g (v := .int .i64 0) (want_yes (j := 2) rfl rfl (Ev.t (v := .bool false) rfl rfl) rfl) (y_mv (Ev.t (v := .int .i64 0) rfl rfl)) ?_
    refine w_val_g (v := .bool true) (want_yes (j := 2) rfl rfl (Ev.t (v := .bool false) rfl rfl) rfl) (y_bin (Ev.t (v := .int .i64 0) rfl rfl) (Ev.c (v := .int .i64 0)) b_eql) ?_
    refine w_val_g (v := .bool true) (want_yes (j := 2) rfl rfl (Ev.t (v := .bool false) rfl rfl) rfl) (y_mv (Ev.t (v := .bool true) rfl rfl)) ?_
    refine w_val_g (v := .string (str text)) (want_yes (j := 5) rfl rfl (Ev.t (v := .bool true) rfl rfl) rfl) (y_mv (Ev.t (v := .string (str text)) rfl rfl)) ?_
    refine w_val_g (v := .string (str text)) (want_yes (j := 5) rfl rfl (Ev.t (v := .bool true) rfl rfl) rfl) (y_mv (Ev.t (v := .string (str text)) rfl rfl)) ?_
    refine w_val_g (v := .bool true) (want_yes (j := 5) rfl rfl (Ev.t (v := .bool true) rfl rfl) rfl) (y_bin (Ev.t (v := .string (str text)) rfl rfl) (Ev.t (v := .string (str text)) rfl rfl) b_eqs_same) ?_
    refine w_val_g (v := .bool true) (want_yes (j := 2) rfl rfl (Ev.t (v := .bool false) rfl rfl) rfl) (y_pick_t (Ev.t (v := .bool true) rfl rfl) (Ev.t (v := .bool true) rfl rfl)) ?_
    refine w_val (v := .bool true) (y_pick_f (Ev.t (v := .bool false) rfl rfl) (Ev.t (v := .bool true) rfl rfl)) ?_
    refine w_val (v := .bool true) (y_as (Ev.t (v := .bool true) rfl rfl)) ?_
    refine wpList_nil ?_
    refine then_n ?_
    refine wp_ret ?_
    refine fin_ret1 rfl (Ev.t (v := .bool true) rfl rfl) ?_
    exact ⟨rfl, hk⟩

set_option maxRecDepth 100000 in
set_option maxHeartbeats 1000000 in
theorem ctrXors_y (key text : List (BitVec 8)) (hok : Aes.okKey key.length) (s : List (BitVec 8)) (d : Nat) (hs : s.length = 16) (h1 : 1 ≤ d) (h16 : d ≤ 16) (h0 : 0 < text.length) (ht : text.length ≤ 70000) (w0 : World) : Calls Try.prog 8 #[.string (str key), .agg (arr 2 (fun j => if j < 1 then .string (str s) else .int .i64 ((d : Nat) : Int))), .string (str text)] w0 fun e w' => e = .returned (.bool true) ∧ Below w0.heap.size w0 w' := by
  refine enter (n := 72) Try.func8 rfl rfl rfl ?_
  have hk : Below w0.heap.size w0 w0 := Below.refl _ _
  refine wp_seq ?_
  refine wp_region_lit ?_
  refine w_box (m := 2) (F := fun j => if j < 1 then .string (str s) else .int .i64 ((d : Nat) : Int)) (Ev.t (v := .agg (arr 2 (fun j => if j < 1 then .string (str s) else .int .i64 ((d : Nat) : Int)))) rfl rfl) rfl ?_
  intro b_c w1 hbe_b_c r_b_c hb2
  have ge_b_c : w0.heap.size ≤ b_c := by have := hk.size; omega
  clear hbe_b_c
  replace hk := thenB hk hb2
  refine w_val (v := .bool false) (y_as (Ev.c (v := .bool false))) ?_
  refine wpList_nil ?_
  refine then_n ?_
  refine wp_seq ?_
  refine wp_seq ?_
  refine wp_region_lit ?_
  refine w_call (Try.func18) (by kernel_rfl) rfl m0 (ctrWakes_c  w1) ?_
  rintro _ w3 ⟨rfl, hb4⟩
  refine ⟨_, rfl, ?_⟩
  replace r_b_c := r_b_c.step hb4
  replace hk := thenB hk hb4
  refine w_val (v := .bool false) (y_not (Ev.t (v := .bool true) rfl rfl)) ?_
  refine wpList_nil ?_
  refine then_n ?_
  refine c_ff (Ev.t (v := .bool false) rfl rfl) ?_
  refine wp_skip ?_
  refine then_n ?_
  refine wp_seq ?_
  refine wp_seq ?_
  refine wp_region_lit ?_
  refine w_val (v := .string (str text)) (y_mv (Ev.t (v := .string (str text)) rfl rfl)) ?_
  refine w_val (v := .int .i64 ((text.length : Nat) : Int)) (y_len (Ev.t (v := .string (str text)) rfl rfl) Try.underlying9) ?_
  refine w_val (v := .bool (decide (3000 < ((text.length : Nat) : Int)))) (y_bin (Ev.t (v := .int .i64 ((text.length : Nat) : Int)) rfl rfl) (Ev.c (v := .int .i64 3000)) b_gtr) ?_
  refine w_val (v := .bool (decide (3000 < ((text.length : Nat) : Int)))) (y_mv (Ev.t (v := .bool (decide (3000 < ((text.length : Nat) : Int)))) rfl rfl)) ?_
  by_cases hc5 : 3000 < ((text.length : Nat) : Int)
  · skip
    refine w_val_g (v := .string (str text)) (want_yes (j := 3) rfl rfl (Ev.t (v := .bool true) (Eq.trans (b := .bool (decide (3000 < ((text.length : Nat) : Int)))) rfl (by rw [decide_eq_true hc5])) rfl) rfl) (y_mv (Ev.t (v := .string (str text)) rfl rfl)) ?_
    refine w_val_g (v := .int .i64 ((text.length : Nat) : Int)) (want_yes (j := 3) rfl rfl (Ev.t (v := .bool true) (Eq.trans (b := .bool (decide (3000 < ((text.length : Nat) : Int)))) rfl (by rw [decide_eq_true hc5])) rfl) rfl) (y_len (Ev.t (v := .string (str text)) rfl rfl) Try.underlying9) ?_
    refine w_val_g (v := .bool (decide (((text.length : Nat) : Int) ≤ 70000))) (want_yes (j := 3) rfl rfl (Ev.t (v := .bool true) (Eq.trans (b := .bool (decide (3000 < ((text.length : Nat) : Int)))) rfl (by rw [decide_eq_true hc5])) rfl) rfl) (y_bin (Ev.t (v := .int .i64 ((text.length : Nat) : Int)) rfl rfl) (Ev.c (v := .int .i64 70000)) b_leq) ?_
    refine w_val (v := .bool (decide (((text.length : Nat) : Int) ≤ 70000))) (y_pick_t (Ev.t (v := .bool true) (Eq.trans (b := .bool (decide (3000 < ((text.length : Nat) : Int)))) rfl (by rw [decide_eq_true hc5])) rfl) (Ev.t (v := .bool (decide (((text.length : Nat) : Int) ≤ 70000))) rfl rfl)) ?_
    refine wpList_nil ?_
    refine then_n ?_
    refine c_if (p := ((text.length : Nat) : Int) ≤ 70000) (Ev.t (v := .bool (decide (((text.length : Nat) : Int) ≤ 70000))) rfl rfl) (fun hc6 => ?_) (fun hc6 => ?_)
    · skip
      refine wp_seq ?_
      refine wp_region_lit ?_
      refine w_val (v := .bool true) (y_as (Ev.c (v := .bool true))) ?_
      refine wpList_nil ?_
      refine then_n ?_
      refine wp_ret ?_
      refine then_r ?_
      refine fin_ret1 rfl (Ev.t (v := .bool true) rfl rfl) ?_
      exact ⟨rfl, hk⟩
    · skip
      refine wp_skip ?_
      refine then_n ?_
      refine wp_seq ?_
      refine wp_region_lit ?_
      refine w_val (v := .string (str key)) (y_mv (Ev.t (v := .string (str key)) rfl rfl)) ?_
      refine w_val (v := .pointer (some ⟨b_c, 0, none⟩)) (y_off (y_fa (Ev.t (v := .pointer (some ⟨b_c, 0, none⟩)) rfl rfl) (CtrXorsWT.fa34_0 _ _)) (by first | rfl | omega)) ?_
      refine w_val (v := .string (str s)) (y_ld (Ev.t (v := .pointer (some ⟨b_c, 0, none⟩)) rfl rfl) CtrXorsWT.sc9 (r_b_c.val (v := .string (str s)) (by omega) ((if_pos (by omega)).trans (by first | with_reducible rfl | (with_reducible congr 1 <;> omega) | (with_reducible congr 2 <;> omega) | (with_reducible congr 3 <;> omega) | rfl)))) ?_
      refine w_val (v := .pointer (some ⟨b_c, 1, none⟩)) (y_off (y_fa (Ev.t (v := .pointer (some ⟨b_c, 0, none⟩)) rfl rfl) (CtrXorsWT.fa34_1 _ _)) (by first | rfl | omega)) ?_
      refine w_val (v := .int .i64 ((d : Nat) : Int)) (y_ld (Ev.t (v := .pointer (some ⟨b_c, 1, none⟩)) rfl rfl) CtrXorsWT.sc3 (r_b_c.val (v := .int .i64 ((d : Nat) : Int)) (by omega) ((if_neg (by omega)).trans (by first | with_reducible rfl | (with_reducible congr 1 <;> omega) | (with_reducible congr 2 <;> omega) | (with_reducible congr 3 <;> omega) | rfl)))) ?_
      refine w_val (v := .string (str text)) (y_mv (Ev.t (v := .string (str text)) rfl rfl)) ?_
      refine w_call (Try.func21) (by kernel_rfl) rfl (m4 (Ev.t (v := .string (str key)) rfl rfl) (Ev.t (v := .string (str s)) rfl rfl) (Ev.t (v := .int .i64 ((d : Nat) : Int)) rfl rfl) (Ev.t (v := .string (str text)) rfl rfl)) (ctrXor_y key text hok s d hs h1 h16 (by (try simp only [List.length_take]); (try simp only [List.length_nil]); omega) w3) ?_
      rintro _ w7 ⟨rfl, hb8⟩
      refine ⟨_, rfl, ?_⟩
      replace r_b_c := r_b_c.step hb8
      replace hk := thenB hk hb8
      refine w_val (v := .tuple #[.string (str (Ct.x key s d text)), .int .i64 0]) (y_mv (Ev.t (v := .tuple #[.string (str (Ct.x key s d text)), .int .i64 0]) rfl rfl)) ?_
      refine w_val (v := .string (str (Ct.x key s d text))) (y_ext (v := .string (str (Ct.x key s d text))) (Ev.t (v := .tuple #[.string (str (Ct.x key s d text)), .int .i64 0]) rfl rfl) rfl) ?_
      refine w_val (v := .int .i64 0) (y_ext (v := .int .i64 0) (Ev.t (v := .tuple #[.string (str (Ct.x key s d text)), .int .i64 0]) rfl rfl) rfl) ?_
      refine w_val (v := .string (str (Ct.x key s d text))) (y_as (Ev.t (v := .string (str (Ct.x key s d text))) rfl rfl)) ?_
      refine w_val (v := .int .i64 0) (y_as (Ev.t (v := .int .i64 0) rfl rfl)) ?_
      refine wpList_nil ?_
      refine then_n ?_
      refine wp_seq ?_
      refine wp_region_lit ?_
      refine w_val (v := .string (str key)) (y_mv (Ev.t (v := .string (str key)) rfl rfl)) ?_
      refine w_val (v := .pointer (some ⟨b_c, 0, none⟩)) (y_off (y_fa (Ev.t (v := .pointer (some ⟨b_c, 0, none⟩)) rfl rfl) (CtrXorsWT.fa34_0 _ _)) (by first | rfl | omega)) ?_
      refine w_val (v := .string (str s)) (y_ld (Ev.t (v := .pointer (some ⟨b_c, 0, none⟩)) rfl rfl) CtrXorsWT.sc9 (r_b_c.val (v := .string (str s)) (by omega) ((if_pos (by omega)).trans (by first | with_reducible rfl | (with_reducible congr 1 <;> omega) | (with_reducible congr 2 <;> omega) | (with_reducible congr 3 <;> omega) | rfl)))) ?_
      refine w_val (v := .pointer (some ⟨b_c, 1, none⟩)) (y_off (y_fa (Ev.t (v := .pointer (some ⟨b_c, 0, none⟩)) rfl rfl) (CtrXorsWT.fa34_1 _ _)) (by first | rfl | omega)) ?_
      refine w_val (v := .int .i64 ((d : Nat) : Int)) (y_ld (Ev.t (v := .pointer (some ⟨b_c, 1, none⟩)) rfl rfl) CtrXorsWT.sc3 (r_b_c.val (v := .int .i64 ((d : Nat) : Int)) (by omega) ((if_neg (by omega)).trans (by first | with_reducible rfl | (with_reducible congr 1 <;> omega) | (with_reducible congr 2 <;> omega) | (with_reducible congr 3 <;> omega) | rfl)))) ?_
      refine w_val (v := .string (str text)) (y_mv (Ev.t (v := .string (str text)) rfl rfl)) ?_
      refine w_call (Try.func22) (by kernel_rfl) rfl (m4 (Ev.t (v := .string (str key)) rfl rfl) (Ev.t (v := .string (str s)) rfl rfl) (Ev.t (v := .int .i64 ((d : Nat) : Int)) rfl rfl) (Ev.t (v := .string (str text)) rfl rfl)) (refCtr_yy key text hok s d hs h1 h16 h0 ht w7) ?_
      rintro _ w9 ⟨rfl, hb10⟩
      refine ⟨_, rfl, ?_⟩
      replace r_b_c := r_b_c.step hb10
      replace hk := thenB hk hb10
      refine w_val (v := .tuple #[.string (str (Ct.x key s d text)), .int .i64 0]) (y_mv (Ev.t (v := .tuple #[.string (str (Ct.x key s d text)), .int .i64 0]) rfl rfl)) ?_
      refine w_val (v := .string (str (Ct.x key s d text))) (y_ext (v := .string (str (Ct.x key s d text))) (Ev.t (v := .tuple #[.string (str (Ct.x key s d text)), .int .i64 0]) rfl rfl) rfl) ?_
      refine w_val (v := .int .i64 0) (y_ext (v := .int .i64 0) (Ev.t (v := .tuple #[.string (str (Ct.x key s d text)), .int .i64 0]) rfl rfl) rfl) ?_
      refine w_val (v := .string (str (Ct.x key s d text))) (y_as (Ev.t (v := .string (str (Ct.x key s d text))) rfl rfl)) ?_
      refine w_val (v := .int .i64 0) (y_as (Ev.t (v := .int .i64 0) rfl rfl)) ?_
      refine wpList_nil ?_
      refine then_n ?_
      refine wp_seq ?_
      refine wp_seq ?_
      refine wp_region_lit ?_
      refine w_val (v := .string (str (Ct.x key s d text))) (y_mv (Ev.t (v := .string (str (Ct.x key s d text))) rfl rfl)) ?_
      refine w_val (v := .string (str (Ct.x key s d text))) (y_mv (Ev.t (v := .string (str (Ct.x key s d text))) rfl rfl)) ?_
      refine w_val (v := .bool false) (y_bin (Ev.t (v := .string (str (Ct.x key s d text))) rfl rfl) (Ev.t (v := .string (str (Ct.x key s d text))) rfl rfl) b_nes_same) ?_
      refine w_val (v := .bool false) (y_mv (Ev.t (v := .bool false) rfl rfl)) ?_
      refine w_val_g (v := .int .i64 0) (want_yes (j := 3) rfl rfl (Ev.t (v := .bool false) rfl rfl) rfl) (y_mv (Ev.t (v := .int .i64 0) rfl rfl)) ?_
      refine w_val_g (v := .int .i64 0) (want_yes (j := 3) rfl rfl (Ev.t (v := .bool false) rfl rfl) rfl) (y_mv (Ev.t (v := .int .i64 0) rfl rfl)) ?_
      refine w_val_g (v := .bool false) (want_yes (j := 3) rfl rfl (Ev.t (v := .bool false) rfl rfl) rfl) (y_bin (Ev.t (v := .int .i64 0) rfl rfl) (Ev.t (v := .int .i64 0) rfl rfl) b_neq) ?_
      refine w_val (v := .bool false) (y_pick_f (Ev.t (v := .bool false) rfl rfl) (Ev.t (v := .bool false) rfl rfl)) ?_
      refine wpList_nil ?_
      refine then_n ?_
      refine c_ff (Ev.t (v := .bool false) rfl rfl) ?_
      refine wp_skip ?_
      refine then_n ?_
      refine wp_seq ?_
      refine wp_region_lit ?_
      refine w_val (v := .string (str key)) (y_mv (Ev.t (v := .string (str key)) rfl rfl)) ?_
      refine w_val (v := .pointer (some ⟨b_c, 0, none⟩)) (y_off (y_fa (Ev.t (v := .pointer (some ⟨b_c, 0, none⟩)) rfl rfl) (CtrXorsWT.fa34_0 _ _)) (by first | rfl | omega)) ?_
      refine w_val (v := .string (str s)) (y_ld (Ev.t (v := .pointer (some ⟨b_c, 0, none⟩)) rfl rfl) CtrXorsWT.sc9 (r_b_c.val (v := .string (str s)) (by omega) ((if_pos (by omega)).trans (by first | with_reducible rfl | (with_reducible congr 1 <;> omega) | (with_reducible congr 2 <;> omega) | (with_reducible congr 3 <;> omega) | rfl)))) ?_
      refine w_val (v := .pointer (some ⟨b_c, 1, none⟩)) (y_off (y_fa (Ev.t (v := .pointer (some ⟨b_c, 0, none⟩)) rfl rfl) (CtrXorsWT.fa34_1 _ _)) (by first | rfl | omega)) ?_
      refine w_val (v := .int .i64 ((d : Nat) : Int)) (y_ld (Ev.t (v := .pointer (some ⟨b_c, 1, none⟩)) rfl rfl) CtrXorsWT.sc3 (r_b_c.val (v := .int .i64 ((d : Nat) : Int)) (by omega) ((if_neg (by omega)).trans (by first | with_reducible rfl | (with_reducible congr 1 <;> omega) | (with_reducible congr 2 <;> omega) | (with_reducible congr 3 <;> omega) | rfl)))) ?_
      refine w_val (v := .string (str (Ct.x key s d text))) (y_mv (Ev.t (v := .string (str (Ct.x key s d text))) rfl rfl)) ?_
      refine w_call (Try.func21) (by kernel_rfl) rfl (m4 (Ev.t (v := .string (str key)) rfl rfl) (Ev.t (v := .string (str s)) rfl rfl) (Ev.t (v := .int .i64 ((d : Nat) : Int)) rfl rfl) (Ev.t (v := .string (str (Ct.x key s d text))) rfl rfl)) (ctrXorBack key text hok s d hs h1 h16 (by omega) w9) ?_
      rintro _ w11 ⟨rfl, hb12⟩
      refine ⟨_, rfl, ?_⟩
      replace r_b_c := r_b_c.step hb12
      replace hk := thenB hk hb12
      refine w_val (v := .tuple #[.string (str text), .int .i64 0]) (y_mv (Ev.t (v := .tuple #[.string (str text), .int .i64 0]) rfl rfl)) ?_
      refine w_val (v := .string (str text)) (y_ext (v := .string (str text)) (Ev.t (v := .tuple #[.string (str text), .int .i64 0]) rfl rfl) rfl) ?_
      refine w_val (v := .int .i64 0) (y_ext (v := .int .i64 0) (Ev.t (v := .tuple #[.string (str text), .int .i64 0]) rfl rfl) rfl) ?_
      refine w_val (v := .string (str text)) (y_as (Ev.t (v := .string (str text)) rfl rfl)) ?_
      refine w_val (v := .int .i64 0) (y_as (Ev.t (v := .int .i64 0) rfl rfl)) ?_
      refine wpList_nil ?_
      refine then_n ?_
      refine wp_seq ?_
      refine wp_region_lit ?_
      refine w_val (v := .int .i64 0) (y_mv (Ev.t (v := .int .i64 0) rfl rfl)) ?_
      refine w_val (v := .bool false) (y_bin (Ev.t (v := .int .i64 0) rfl rfl) (Ev.c (v := .int .i64 0)) b_neq) ?_
      refine w_val (v := .bool false) (y_mv (Ev.t (v := .bool false) rfl rfl)) ?_
      refine w_val_g (v := .int .i64 0) (want_yes (j := 2) rfl rfl (Ev.t (v := .bool false) rfl rfl) rfl) (y_mv (Ev.t (v := .int .i64 0) rfl rfl)) ?_
      refine w_val_g (v := .bool true) (want_yes (j := 2) rfl rfl (Ev.t (v := .bool false) rfl rfl) rfl) (y_bin (Ev.t (v := .int .i64 0) rfl rfl) (Ev.c (v := .int .i64 0)) b_eql) ?_
      refine w_val_g (v := .bool true) (want_yes (j := 2) rfl rfl (Ev.t (v := .bool false) rfl rfl) rfl) (y_mv (Ev.t (v := .bool true) rfl rfl)) ?_
      refine w_val_g (v := .string (str text)) (want_yes (j := 5) rfl rfl (Ev.t (v := .bool true) rfl rfl) rfl) (y_mv (Ev.t (v := .string (str text)) rfl rfl)) ?_
      refine w_val_g (v := .string (str text)) (want_yes (j := 5) rfl rfl (Ev.t (v := .bool true) rfl rfl) rfl) (y_mv (Ev.t (v := .string (str text)) rfl rfl)) ?_
      refine w_val_g (v := .bool true) (want_yes (j := 5) rfl rfl (Ev.t (v := .bool true) rfl rfl) rfl) (y_bin (Ev.t (v := .string (str text)) rfl rfl) (Ev.t (v := .string (str text)) rfl rfl) b_eqs_same) ?_
      refine w_val_g (v := .bool true) (want_yes (j := 2) rfl rfl (Ev.t (v := .bool false) rfl rfl) rfl) (y_pick_t (Ev.t (v := .bool true) rfl rfl) (Ev.t (v := .bool true) rfl rfl)) ?_
      refine w_val (v := .bool true) (y_pick_f (Ev.t (v := .bool false) rfl rfl) (Ev.t (v := .bool true) rfl rfl)) ?_
      refine w_val (v := .bool true) (y_as (Ev.t (v := .bool true) rfl rfl)) ?_
      refine wpList_nil ?_
      refine then_n ?_
      refine wp_ret ?_
      refine fin_ret1 rfl (Ev.t (v := .bool true) rfl rfl) ?_
      exact ⟨rfl, hk⟩
  · skip
    first | with_reducible refine w_skip ?_ ?_ | refine w_skip ?_ ?_
    · exact want_no (j := 3) rfl rfl (Ev.t (v := .bool false) (Eq.trans (b := .bool (decide (3000 < ((text.length : Nat) : Int)))) rfl (by rw [decide_eq_false hc5])) rfl) rfl
    first | with_reducible refine w_skip ?_ ?_ | refine w_skip ?_ ?_
    · exact want_no (j := 3) rfl rfl (Ev.t (v := .bool false) (Eq.trans (b := .bool (decide (3000 < ((text.length : Nat) : Int)))) rfl (by rw [decide_eq_false hc5])) rfl) rfl
    first | with_reducible refine w_skip ?_ ?_ | refine w_skip ?_ ?_
    · exact want_no (j := 3) rfl rfl (Ev.t (v := .bool false) (Eq.trans (b := .bool (decide (3000 < ((text.length : Nat) : Int)))) rfl (by rw [decide_eq_false hc5])) rfl) rfl
    refine w_val (v := .bool false) (y_pick_f (Ev.t (v := .bool false) (Eq.trans (b := .bool (decide (3000 < ((text.length : Nat) : Int)))) rfl (by rw [decide_eq_false hc5])) rfl) (Ev.c (v := .bool false))) ?_
    refine wpList_nil ?_
    refine then_n ?_
    refine c_ff (Ev.t (v := .bool false) rfl rfl) ?_
    refine wp_skip ?_
    refine then_n ?_
    refine wp_seq ?_
    refine wp_region_lit ?_
    refine w_val (v := .string (str key)) (y_mv (Ev.t (v := .string (str key)) rfl rfl)) ?_
    refine w_val (v := .pointer (some ⟨b_c, 0, none⟩)) (y_off (y_fa (Ev.t (v := .pointer (some ⟨b_c, 0, none⟩)) rfl rfl) (CtrXorsWT.fa34_0 _ _)) (by first | rfl | omega)) ?_
    refine w_val (v := .string (str s)) (y_ld (Ev.t (v := .pointer (some ⟨b_c, 0, none⟩)) rfl rfl) CtrXorsWT.sc9 (r_b_c.val (v := .string (str s)) (by omega) ((if_pos (by omega)).trans (by first | with_reducible rfl | (with_reducible congr 1 <;> omega) | (with_reducible congr 2 <;> omega) | (with_reducible congr 3 <;> omega) | rfl)))) ?_
    refine w_val (v := .pointer (some ⟨b_c, 1, none⟩)) (y_off (y_fa (Ev.t (v := .pointer (some ⟨b_c, 0, none⟩)) rfl rfl) (CtrXorsWT.fa34_1 _ _)) (by first | rfl | omega)) ?_
    refine w_val (v := .int .i64 ((d : Nat) : Int)) (y_ld (Ev.t (v := .pointer (some ⟨b_c, 1, none⟩)) rfl rfl) CtrXorsWT.sc3 (r_b_c.val (v := .int .i64 ((d : Nat) : Int)) (by omega) ((if_neg (by omega)).trans (by first | with_reducible rfl | (with_reducible congr 1 <;> omega) | (with_reducible congr 2 <;> omega) | (with_reducible congr 3 <;> omega) | rfl)))) ?_
    refine w_val (v := .string (str text)) (y_mv (Ev.t (v := .string (str text)) rfl rfl)) ?_
    refine w_call (Try.func21) (by kernel_rfl) rfl (m4 (Ev.t (v := .string (str key)) rfl rfl) (Ev.t (v := .string (str s)) rfl rfl) (Ev.t (v := .int .i64 ((d : Nat) : Int)) rfl rfl) (Ev.t (v := .string (str text)) rfl rfl)) (ctrXor_y key text hok s d hs h1 h16 (by (try simp only [List.length_take]); (try simp only [List.length_nil]); omega) w3) ?_
    rintro _ w13 ⟨rfl, hb14⟩
    refine ⟨_, rfl, ?_⟩
    replace r_b_c := r_b_c.step hb14
    replace hk := thenB hk hb14
    refine w_val (v := .tuple #[.string (str (Ct.x key s d text)), .int .i64 0]) (y_mv (Ev.t (v := .tuple #[.string (str (Ct.x key s d text)), .int .i64 0]) rfl rfl)) ?_
    refine w_val (v := .string (str (Ct.x key s d text))) (y_ext (v := .string (str (Ct.x key s d text))) (Ev.t (v := .tuple #[.string (str (Ct.x key s d text)), .int .i64 0]) rfl rfl) rfl) ?_
    refine w_val (v := .int .i64 0) (y_ext (v := .int .i64 0) (Ev.t (v := .tuple #[.string (str (Ct.x key s d text)), .int .i64 0]) rfl rfl) rfl) ?_
    refine w_val (v := .string (str (Ct.x key s d text))) (y_as (Ev.t (v := .string (str (Ct.x key s d text))) rfl rfl)) ?_
    refine w_val (v := .int .i64 0) (y_as (Ev.t (v := .int .i64 0) rfl rfl)) ?_
    refine wpList_nil ?_
    refine then_n ?_
    refine wp_seq ?_
    refine wp_region_lit ?_
    refine w_val (v := .string (str key)) (y_mv (Ev.t (v := .string (str key)) rfl rfl)) ?_
    refine w_val (v := .pointer (some ⟨b_c, 0, none⟩)) (y_off (y_fa (Ev.t (v := .pointer (some ⟨b_c, 0, none⟩)) rfl rfl) (CtrXorsWT.fa34_0 _ _)) (by first | rfl | omega)) ?_
    refine w_val (v := .string (str s)) (y_ld (Ev.t (v := .pointer (some ⟨b_c, 0, none⟩)) rfl rfl) CtrXorsWT.sc9 (r_b_c.val (v := .string (str s)) (by omega) ((if_pos (by omega)).trans (by first | with_reducible rfl | (with_reducible congr 1 <;> omega) | (with_reducible congr 2 <;> omega) | (with_reducible congr 3 <;> omega) | rfl)))) ?_
    refine w_val (v := .pointer (some ⟨b_c, 1, none⟩)) (y_off (y_fa (Ev.t (v := .pointer (some ⟨b_c, 0, none⟩)) rfl rfl) (CtrXorsWT.fa34_1 _ _)) (by first | rfl | omega)) ?_
    refine w_val (v := .int .i64 ((d : Nat) : Int)) (y_ld (Ev.t (v := .pointer (some ⟨b_c, 1, none⟩)) rfl rfl) CtrXorsWT.sc3 (r_b_c.val (v := .int .i64 ((d : Nat) : Int)) (by omega) ((if_neg (by omega)).trans (by first | with_reducible rfl | (with_reducible congr 1 <;> omega) | (with_reducible congr 2 <;> omega) | (with_reducible congr 3 <;> omega) | rfl)))) ?_
    refine w_val (v := .string (str text)) (y_mv (Ev.t (v := .string (str text)) rfl rfl)) ?_
    refine w_call (Try.func22) (by kernel_rfl) rfl (m4 (Ev.t (v := .string (str key)) rfl rfl) (Ev.t (v := .string (str s)) rfl rfl) (Ev.t (v := .int .i64 ((d : Nat) : Int)) rfl rfl) (Ev.t (v := .string (str text)) rfl rfl)) (refCtr_yy key text hok s d hs h1 h16 h0 ht w13) ?_
    rintro _ w15 ⟨rfl, hb16⟩
    refine ⟨_, rfl, ?_⟩
    replace r_b_c := r_b_c.step hb16
    replace hk := thenB hk hb16
    refine w_val (v := .tuple #[.string (str (Ct.x key s d text)), .int .i64 0]) (y_mv (Ev.t (v := .tuple #[.string (str (Ct.x key s d text)), .int .i64 0]) rfl rfl)) ?_
    refine w_val (v := .string (str (Ct.x key s d text))) (y_ext (v := .string (str (Ct.x key s d text))) (Ev.t (v := .tuple #[.string (str (Ct.x key s d text)), .int .i64 0]) rfl rfl) rfl) ?_
    refine w_val (v := .int .i64 0) (y_ext (v := .int .i64 0) (Ev.t (v := .tuple #[.string (str (Ct.x key s d text)), .int .i64 0]) rfl rfl) rfl) ?_
    refine w_val (v := .string (str (Ct.x key s d text))) (y_as (Ev.t (v := .string (str (Ct.x key s d text))) rfl rfl)) ?_
    refine w_val (v := .int .i64 0) (y_as (Ev.t (v := .int .i64 0) rfl rfl)) ?_
    refine wpList_nil ?_
    refine then_n ?_
    refine wp_seq ?_
    refine wp_seq ?_
    refine wp_region_lit ?_
    refine w_val (v := .string (str (Ct.x key s d text))) (y_mv (Ev.t (v := .string (str (Ct.x key s d text))) rfl rfl)) ?_
    refine w_val (v := .string (str (Ct.x key s d text))) (y_mv (Ev.t (v := .string (str (Ct.x key s d text))) rfl rfl)) ?_
    refine w_val (v := .bool false) (y_bin (Ev.t (v := .string (str (Ct.x key s d text))) rfl rfl) (Ev.t (v := .string (str (Ct.x key s d text))) rfl rfl) b_nes_same) ?_
    refine w_val (v := .bool false) (y_mv (Ev.t (v := .bool false) rfl rfl)) ?_
    refine w_val_g (v := .int .i64 0) (want_yes (j := 3) rfl rfl (Ev.t (v := .bool false) rfl rfl) rfl) (y_mv (Ev.t (v := .int .i64 0) rfl rfl)) ?_
    refine w_val_g (v := .int .i64 0) (want_yes (j := 3) rfl rfl (Ev.t (v := .bool false) rfl rfl) rfl) (y_mv (Ev.t (v := .int .i64 0) rfl rfl)) ?_
    refine w_val_g (v := .bool false) (want_yes (j := 3) rfl rfl (Ev.t (v := .bool false) rfl rfl) rfl) (y_bin (Ev.t (v := .int .i64 0) rfl rfl) (Ev.t (v := .int .i64 0) rfl rfl) b_neq) ?_
    refine w_val (v := .bool false) (y_pick_f (Ev.t (v := .bool false) rfl rfl) (Ev.t (v := .bool false) rfl rfl)) ?_
    refine wpList_nil ?_
    refine then_n ?_
    refine c_ff (Ev.t (v := .bool false) rfl rfl) ?_
    refine wp_skip ?_
    refine then_n ?_
    refine wp_seq ?_
    refine wp_region_lit ?_
    refine w_val (v := .string (str key)) (y_mv (Ev.t (v := .string (str key)) rfl rfl)) ?_
    refine w_val (v := .pointer (some ⟨b_c, 0, none⟩)) (y_off (y_fa (Ev.t (v := .pointer (some ⟨b_c, 0, none⟩)) rfl rfl) (CtrXorsWT.fa34_0 _ _)) (by first | rfl | omega)) ?_
    refine w_val (v := .string (str s)) (y_ld (Ev.t (v := .pointer (some ⟨b_c, 0, none⟩)) rfl rfl) CtrXorsWT.sc9 (r_b_c.val (v := .string (str s)) (by omega) ((if_pos (by omega)).trans (by first | with_reducible rfl | (with_reducible congr 1 <;> omega) | (with_reducible congr 2 <;> omega) | (with_reducible congr 3 <;> omega) | rfl)))) ?_
    refine w_val (v := .pointer (some ⟨b_c, 1, none⟩)) (y_off (y_fa (Ev.t (v := .pointer (some ⟨b_c, 0, none⟩)) rfl rfl) (CtrXorsWT.fa34_1 _ _)) (by first | rfl | omega)) ?_
    refine w_val (v := .int .i64 ((d : Nat) : Int)) (y_ld (Ev.t (v := .pointer (some ⟨b_c, 1, none⟩)) rfl rfl) CtrXorsWT.sc3 (r_b_c.val (v := .int .i64 ((d : Nat) : Int)) (by omega) ((if_neg (by omega)).trans (by first | with_reducible rfl | (with_reducible congr 1 <;> omega) | (with_reducible congr 2 <;> omega) | (with_reducible congr 3 <;> omega) | rfl)))) ?_
    refine w_val (v := .string (str (Ct.x key s d text))) (y_mv (Ev.t (v := .string (str (Ct.x key s d text))) rfl rfl)) ?_
    refine w_call (Try.func21) (by kernel_rfl) rfl (m4 (Ev.t (v := .string (str key)) rfl rfl) (Ev.t (v := .string (str s)) rfl rfl) (Ev.t (v := .int .i64 ((d : Nat) : Int)) rfl rfl) (Ev.t (v := .string (str (Ct.x key s d text))) rfl rfl)) (ctrXorBack key text hok s d hs h1 h16 (by omega) w15) ?_
    rintro _ w17 ⟨rfl, hb18⟩
    refine ⟨_, rfl, ?_⟩
    replace r_b_c := r_b_c.step hb18
    replace hk := thenB hk hb18
    refine w_val (v := .tuple #[.string (str text), .int .i64 0]) (y_mv (Ev.t (v := .tuple #[.string (str text), .int .i64 0]) rfl rfl)) ?_
    refine w_val (v := .string (str text)) (y_ext (v := .string (str text)) (Ev.t (v := .tuple #[.string (str text), .int .i64 0]) rfl rfl) rfl) ?_
    refine w_val (v := .int .i64 0) (y_ext (v := .int .i64 0) (Ev.t (v := .tuple #[.string (str text), .int .i64 0]) rfl rfl) rfl) ?_
    refine w_val (v := .string (str text)) (y_as (Ev.t (v := .string (str text)) rfl rfl)) ?_
    refine w_val (v := .int .i64 0) (y_as (Ev.t (v := .int .i64 0) rfl rfl)) ?_
    refine wpList_nil ?_
    refine then_n ?_
    refine wp_seq ?_
    refine wp_region_lit ?_
    refine w_val (v := .int .i64 0) (y_mv (Ev.t (v := .int .i64 0) rfl rfl)) ?_
    refine w_val (v := .bool false) (y_bin (Ev.t (v := .int .i64 0) rfl rfl) (Ev.c (v := .int .i64 0)) b_neq) ?_
    refine w_val (v := .bool false) (y_mv (Ev.t (v := .bool false) rfl rfl)) ?_
    refine w_val_g (v := .int .i64 0) (want_yes (j := 2) rfl rfl (Ev.t (v := .bool false) rfl rfl) rfl) (y_mv (Ev.t (v := .int .i64 0) rfl rfl)) ?_
    refine w_val_g (v := .bool true) (want_yes (j := 2) rfl rfl (Ev.t (v := .bool false) rfl rfl) rfl) (y_bin (Ev.t (v := .int .i64 0) rfl rfl) (Ev.c (v := .int .i64 0)) b_eql) ?_
    refine w_val_g (v := .bool true) (want_yes (j := 2) rfl rfl (Ev.t (v := .bool false) rfl rfl) rfl) (y_mv (Ev.t (v := .bool true) rfl rfl)) ?_
    refine w_val_g (v := .string (str text)) (want_yes (j := 5) rfl rfl (Ev.t (v := .bool true) rfl rfl) rfl) (y_mv (Ev.t (v := .string (str text)) rfl rfl)) ?_
    refine w_val_g (v := .string (str text)) (want_yes (j := 5) rfl rfl (Ev.t (v := .bool true) rfl rfl) rfl) (y_mv (Ev.t (v := .string (str text)) rfl rfl)) ?_
    refine w_val_g (v := .bool true) (want_yes (j := 5) rfl rfl (Ev.t (v := .bool true) rfl rfl) rfl) (y_bin (Ev.t (v := .string (str text)) rfl rfl) (Ev.t (v := .string (str text)) rfl rfl) b_eqs_same) ?_
    refine w_val_g (v := .bool true) (want_yes (j := 2) rfl rfl (Ev.t (v := .bool false) rfl rfl) rfl) (y_pick_t (Ev.t (v := .bool true) rfl rfl) (Ev.t (v := .bool true) rfl rfl)) ?_
    refine w_val (v := .bool true) (y_pick_f (Ev.t (v := .bool false) rfl rfl) (Ev.t (v := .bool true) rfl rfl)) ?_
    refine w_val (v := .bool true) (y_as (Ev.t (v := .bool true) rfl rfl)) ?_
    refine wpList_nil ?_
    refine then_n ?_
    refine wp_ret ?_
    refine fin_ret1 rfl (Ev.t (v := .bool true) rfl rfl) ?_
    exact ⟨rfl, hk⟩

set_option maxRecDepth 100000 in
set_option maxHeartbeats 1000000 in
theorem ctrBegins_y (key text : List (BitVec 8)) (hok : Aes.okKey key.length) (s : List (BitVec 8)) (d : Nat) (hs : s.length = 16) (h1 : 1 ≤ d) (h16 : d ≤ 16) (w0 : World) : Calls Try.prog 10 #[.string (str key), .agg (arr 2 (fun j => if j < 1 then .string (str s) else .int .i64 ((d : Nat) : Int))), .string (str text)] w0 fun e w' => e = .returned (.bool true) ∧ Below w0.heap.size w0 w' := by
  refine enter (n := 62) Try.func10 rfl rfl rfl ?_
  have hk : Below w0.heap.size w0 w0 := Below.refl _ _
  refine wp_seq ?_
  refine wp_region_lit ?_
  refine w_box (m := 2) (F := fun j => if j < 1 then .string (str s) else .int .i64 ((d : Nat) : Int)) (Ev.t (v := .agg (arr 2 (fun j => if j < 1 then .string (str s) else .int .i64 ((d : Nat) : Int)))) rfl rfl) rfl ?_
  intro b_c w1 hbe_b_c r_b_c hb2
  have ge_b_c : w0.heap.size ≤ b_c := by have := hk.size; omega
  clear hbe_b_c
  replace hk := thenB hk hb2
  refine w_val (v := .bool false) (y_as (Ev.c (v := .bool false))) ?_
  refine wpList_nil ?_
  refine then_n ?_
  refine wp_seq ?_
  refine wp_seq ?_
  refine wp_region_lit ?_
  refine w_call (Try.func18) (by kernel_rfl) rfl m0 (ctrWakes_c  w1) ?_
  rintro _ w3 ⟨rfl, hb4⟩
  refine ⟨_, rfl, ?_⟩
  replace r_b_c := r_b_c.step hb4
  replace hk := thenB hk hb4
  refine w_val (v := .bool false) (y_not (Ev.t (v := .bool true) rfl rfl)) ?_
  refine wpList_nil ?_
  refine then_n ?_
  refine c_ff (Ev.t (v := .bool false) rfl rfl) ?_
  refine wp_skip ?_
  refine then_n ?_
  refine wp_seq ?_
  refine wp_seq ?_
  refine wp_region_lit ?_
  refine w_val (v := .string (str text)) (y_mv (Ev.t (v := .string (str text)) rfl rfl)) ?_
  refine w_val (v := .int .i64 ((text.length : Nat) : Int)) (y_len (Ev.t (v := .string (str text)) rfl rfl) Try.underlying9) ?_
  refine w_val (v := .bool (decide (1000 < ((text.length : Nat) : Int)))) (y_bin (Ev.t (v := .int .i64 ((text.length : Nat) : Int)) rfl rfl) (Ev.c (v := .int .i64 1000)) b_gtr) ?_
  refine wpList_nil ?_
  refine then_n ?_
  refine c_if (p := 1000 < ((text.length : Nat) : Int)) (Ev.t (v := .bool (decide (1000 < ((text.length : Nat) : Int)))) rfl rfl) (fun hc5 => ?_) (fun hc5 => ?_)
  · skip
    refine wp_seq ?_
    refine wp_region_lit ?_
    refine w_val (v := .bool true) (y_as (Ev.c (v := .bool true))) ?_
    refine wpList_nil ?_
    refine then_n ?_
    refine wp_ret ?_
    refine then_r ?_
    refine fin_ret1 rfl (Ev.t (v := .bool true) rfl rfl) ?_
    exact ⟨rfl, hk⟩
  · skip
    refine wp_skip ?_
    refine then_n ?_
    refine wp_seq ?_
    refine wp_region_lit ?_
    refine w_val (v := .string (str key)) (y_mv (Ev.t (v := .string (str key)) rfl rfl)) ?_
    refine w_val (v := .pointer (some ⟨b_c, 0, none⟩)) (y_off (y_fa (Ev.t (v := .pointer (some ⟨b_c, 0, none⟩)) rfl rfl) (CtrXorsWT.fa34_0 _ _)) (by first | rfl | omega)) ?_
    refine w_val (v := .string (str s)) (y_ld (Ev.t (v := .pointer (some ⟨b_c, 0, none⟩)) rfl rfl) CtrXorsWT.sc9 (r_b_c.val (v := .string (str s)) (by omega) ((if_pos (by omega)).trans (by first | with_reducible rfl | (with_reducible congr 1 <;> omega) | (with_reducible congr 2 <;> omega) | (with_reducible congr 3 <;> omega) | rfl)))) ?_
    refine w_val (v := .pointer (some ⟨b_c, 1, none⟩)) (y_off (y_fa (Ev.t (v := .pointer (some ⟨b_c, 0, none⟩)) rfl rfl) (CtrXorsWT.fa34_1 _ _)) (by first | rfl | omega)) ?_
    refine w_val (v := .int .i64 ((d : Nat) : Int)) (y_ld (Ev.t (v := .pointer (some ⟨b_c, 1, none⟩)) rfl rfl) CtrXorsWT.sc3 (r_b_c.val (v := .int .i64 ((d : Nat) : Int)) (by omega) ((if_neg (by omega)).trans (by first | with_reducible rfl | (with_reducible congr 1 <;> omega) | (with_reducible congr 2 <;> omega) | (with_reducible congr 3 <;> omega) | rfl)))) ?_
    refine w_val (v := .string (str text)) (y_mv (Ev.t (v := .string (str text)) rfl rfl)) ?_
    refine w_call (Try.func21) (by kernel_rfl) rfl (m4 (Ev.t (v := .string (str key)) rfl rfl) (Ev.t (v := .string (str s)) rfl rfl) (Ev.t (v := .int .i64 ((d : Nat) : Int)) rfl rfl) (Ev.t (v := .string (str text)) rfl rfl)) (ctrXor_y key text hok s d hs h1 h16 (by (try simp only [List.length_take]); (try simp only [List.length_nil]); omega) w3) ?_
    rintro _ w6 ⟨rfl, hb7⟩
    refine ⟨_, rfl, ?_⟩
    replace r_b_c := r_b_c.step hb7
    replace hk := thenB hk hb7
    refine w_val (v := .tuple #[.string (str (Ct.x key s d text)), .int .i64 0]) (y_mv (Ev.t (v := .tuple #[.string (str (Ct.x key s d text)), .int .i64 0]) rfl rfl)) ?_
    refine w_val (v := .string (str (Ct.x key s d text))) (y_ext (v := .string (str (Ct.x key s d text))) (Ev.t (v := .tuple #[.string (str (Ct.x key s d text)), .int .i64 0]) rfl rfl) rfl) ?_
    refine w_val (v := .int .i64 0) (y_ext (v := .int .i64 0) (Ev.t (v := .tuple #[.string (str (Ct.x key s d text)), .int .i64 0]) rfl rfl) rfl) ?_
    refine w_val (v := .string (str (Ct.x key s d text))) (y_as (Ev.t (v := .string (str (Ct.x key s d text))) rfl rfl)) ?_
    refine w_val (v := .int .i64 0) (y_as (Ev.t (v := .int .i64 0) rfl rfl)) ?_
    refine wpList_nil ?_
    refine then_n ?_
    refine wp_seq ?_
    refine region_dc (Nat.testBit 0) 16 CtrXorsWT.mixed rfl ?_
    intro w8 hb9
    replace r_b_c := r_b_c.step hb9
    replace hk := thenB hk hb9
    have hS : Cls w8 w8 := Below.refl _ _
    refine d_pure (v := .string (str key)) 0 rfl (by kernel_rfl) (by kernel_rfl) (by kernel_rfl) (by kernel_rfl) (fun _ _ _ h => h) (fun w' => y_mv (Ev.t (v := .string (str key)) rfl rfl)) ?_
    refine d_pure (v := .pointer (some ⟨b_c, 0, none⟩)) 1 rfl (by kernel_rfl) (by kernel_rfl) (by kernel_rfl) (by kernel_rfl) (fun _ _ _ h => h) (fun w' => y_off (y_fa (Ev.t (v := .pointer (some ⟨b_c, 0, none⟩)) rfl rfl) (CtrXorsWT.fa34_0 _ _)) (by first | rfl | omega)) ?_
    refine d_take (v := .string (str s)) 2 (Nat.testBit 64516) rfl (by kernel_rfl) (by kernel_rfl) (by kernel_rfl) (by kernel_rfl) (by kernel_rfl) (by kernel_rfl) (fun _ _ _ h => h) hS (fun w' hw' => y_ld (Ev.t (v := .pointer (some ⟨b_c, 0, none⟩)) rfl rfl) CtrXorsWT.sc9 (cls_cell (r_b_c.val (v := .string (str s)) (by omega) ((if_pos (by omega)).trans (by first | with_reducible rfl | (with_reducible congr 1 <;> omega) | (with_reducible congr 2 <;> omega) | (with_reducible congr 3 <;> omega) | rfl))) r_b_c.lt w' hw')) ?_
    refine d_pure (v := .pointer (some ⟨b_c, 1, none⟩)) 3 rfl (by kernel_rfl) (by kernel_rfl) (by kernel_rfl) (by kernel_rfl) (fun _ _ _ h => h) (fun w' => y_off (y_fa (Ev.t (v := .pointer (some ⟨b_c, 0, none⟩)) rfl rfl) (CtrXorsWT.fa34_1 _ _)) (by first | rfl | omega)) ?_
    refine d_take (v := .int .i64 ((d : Nat) : Int)) 4 (Nat.testBit 64528) rfl (by kernel_rfl) (by kernel_rfl) (by kernel_rfl) (by kernel_rfl) (by kernel_rfl) (by kernel_rfl) (fun _ _ _ h => h) hS (fun w' hw' => y_ld (Ev.t (v := .pointer (some ⟨b_c, 1, none⟩)) rfl rfl) CtrXorsWT.sc3 (cls_cell (r_b_c.val (v := .int .i64 ((d : Nat) : Int)) (by omega) ((if_neg (by omega)).trans (by first | with_reducible rfl | (with_reducible congr 1 <;> omega) | (with_reducible congr 2 <;> omega) | (with_reducible congr 3 <;> omega) | rfl))) r_b_c.lt w' hw')) ?_
    refine d_pure (v := .string (str text)) 5 rfl (by kernel_rfl) (by kernel_rfl) (by kernel_rfl) (by kernel_rfl) (fun _ _ _ h => h) (fun w' => y_mv (Ev.t (v := .string (str text)) rfl rfl)) ?_
    refine d_pure (v := .string (str text)) 6 rfl (by kernel_rfl) (by kernel_rfl) (by kernel_rfl) (by kernel_rfl) (fun _ _ _ h => h) (fun w' => y_mv (Ev.t (v := .string (str text)) rfl rfl)) ?_
    refine d_pure (v := .int .i64 ((text.length : Nat) : Int)) 7 rfl (by kernel_rfl) (by kernel_rfl) (by kernel_rfl) (by kernel_rfl) (fun _ _ _ h => h) (fun w' => y_len (Ev.t (v := .string (str text)) rfl rfl) Try.underlying9) ?_
    refine d_pure (v := .int .i64 (((text.length : Nat) : Int) / 2)) 8 rfl (by kernel_rfl) (by kernel_rfl) (by kernel_rfl) (by kernel_rfl) (fun _ _ _ h => h) (fun w' => y_bin (Ev.t (v := .int .i64 ((text.length : Nat) : Int)) rfl rfl) (Ev.c (v := .int .i64 2)) (b_quo (by omega))) ?_
    refine d_pure (v := .string (str (text.take (text.length / 2)))) 9 rfl (by kernel_rfl) (by kernel_rfl) (by kernel_rfl) (by kernel_rfl) (fun _ _ _ h => h) (fun w' => y_sls (Ev.t (v := .string (str text)) rfl rfl) evo.no (evo.s (Ev.t (v := .int .i64 (((text.length : Nat) : Int) / 2)) rfl rfl)) Try.underlying9 (bnd_h (h := (text.length / 2)) (by omega) (by (try simp only [Ct.length_x, List.length_take]); omega))) ?_
    refine d_one 10 (by kernel_rfl) rfl ?_
    refine w_call (Try.func21) (by kernel_rfl) rfl (m4 (Ev.t (v := .string (str key)) rfl rfl) (Ev.t (v := .string (str s)) rfl rfl) (Ev.t (v := .int .i64 ((d : Nat) : Int)) rfl rfl) (Ev.t (v := .string (str (text.take (text.length / 2)))) rfl rfl)) (ctrXor_y key (text.take (text.length / 2)) hok s d hs h1 h16 (by (try simp only [List.length_take]); (try simp only [List.length_nil]); omega) w8) ?_
    rintro _ w10 ⟨rfl, hb11⟩
    refine ⟨_, rfl, ?_⟩
    replace r_b_c := r_b_c.step hb11
    replace hk := thenB hk hb11
    replace hS := thenB hS hb11
    refine wpList_nil ?_
    refine then_n ⟨fun _ h => thenB h (by assumption), ?_⟩
    refine d_pure (v := .tuple #[.string (str (Ct.x key s d (text.take (text.length / 2)))), .int .i64 0]) 11 rfl (by kernel_rfl) (by kernel_rfl) (by kernel_rfl) (by kernel_rfl) (fun _ _ _ h => h) (fun w' => y_mv (Ev.t (v := .tuple #[.string (str (Ct.x key s d (text.take (text.length / 2)))), .int .i64 0]) rfl rfl)) ?_
    refine d_pure (v := .string (str (Ct.x key s d (text.take (text.length / 2))))) 12 rfl (by kernel_rfl) (by kernel_rfl) (by kernel_rfl) (by kernel_rfl) (fun _ _ _ h => h) (fun w' => y_ext (v := .string (str (Ct.x key s d (text.take (text.length / 2))))) (Ev.t (v := .tuple #[.string (str (Ct.x key s d (text.take (text.length / 2)))), .int .i64 0]) rfl rfl) rfl) ?_
    refine d_pure (v := .int .i64 0) 13 rfl (by kernel_rfl) (by kernel_rfl) (by kernel_rfl) (by kernel_rfl) (fun _ _ _ h => h) (fun w' => y_ext (v := .int .i64 0) (Ev.t (v := .tuple #[.string (str (Ct.x key s d (text.take (text.length / 2)))), .int .i64 0]) rfl rfl) rfl) ?_
    refine d_pure (v := .string (str (Ct.x key s d (text.take (text.length / 2))))) 14 rfl (by kernel_rfl) (by kernel_rfl) (by kernel_rfl) (by kernel_rfl) (fun _ _ _ h => h) (fun w' => y_as (Ev.t (v := .string (str (Ct.x key s d (text.take (text.length / 2))))) rfl rfl)) ?_
    refine d_pure (v := .int .i64 0) 15 rfl (by kernel_rfl) (by kernel_rfl) (by kernel_rfl) (by kernel_rfl) (fun _ _ _ h => h) (fun w' => y_as (Ev.t (v := .int .i64 0) rfl rfl)) ?_
    refine d_done (by kernel_rfl) ?_
    clear hS
    refine then_n ?_
    refine wp_seq ?_
    refine wp_region_lit ?_
    refine w_val (v := .int .i64 0) (y_mv (Ev.t (v := .int .i64 0) rfl rfl)) ?_
    refine w_val (v := .int .i64 0) (y_mv (Ev.t (v := .int .i64 0) rfl rfl)) ?_
    refine w_val (v := .bool true) (y_bin (Ev.t (v := .int .i64 0) rfl rfl) (Ev.t (v := .int .i64 0) rfl rfl) b_eql) ?_
    refine w_val (v := .bool true) (y_mv (Ev.t (v := .bool true) rfl rfl)) ?_
    refine w_val_g (v := .int .i64 0) (want_yes (j := 3) rfl rfl (Ev.t (v := .bool true) rfl rfl) rfl) (y_mv (Ev.t (v := .int .i64 0) rfl rfl)) ?_
    refine w_val_g (v := .bool false) (want_yes (j := 3) rfl rfl (Ev.t (v := .bool true) rfl rfl) rfl) (y_bin (Ev.t (v := .int .i64 0) rfl rfl) (Ev.c (v := .int .i64 0)) b_neq) ?_
    refine w_val_g (v := .bool false) (want_yes (j := 3) rfl rfl (Ev.t (v := .bool true) rfl rfl) rfl) (y_mv (Ev.t (v := .bool false) rfl rfl)) ?_
    refine w_val_g (v := .string (str (Ct.x key s d (text.take (text.length / 2))))) (want_yes (j := 6) rfl rfl (Ev.t (v := .bool false) rfl rfl) rfl) (y_mv (Ev.t (v := .string (str (Ct.x key s d (text.take (text.length / 2))))) rfl rfl)) ?_
    refine w_val_g (v := .string (str (Ct.x key s d text))) (want_yes (j := 6) rfl rfl (Ev.t (v := .bool false) rfl rfl) rfl) (y_mv (Ev.t (v := .string (str (Ct.x key s d text))) rfl rfl)) ?_
    refine w_val_g (v := .string (str (Ct.x key s d (text.take (text.length / 2))))) (want_yes (j := 6) rfl rfl (Ev.t (v := .bool false) rfl rfl) rfl) (y_mv (Ev.t (v := .string (str (Ct.x key s d (text.take (text.length / 2))))) rfl rfl)) ?_
    refine w_val_g (v := .int .i64 (((Ct.x key s d (text.take (text.length / 2))).length : Nat) : Int)) (want_yes (j := 6) rfl rfl (Ev.t (v := .bool false) rfl rfl) rfl) (y_len (Ev.t (v := .string (str (Ct.x key s d (text.take (text.length / 2))))) rfl rfl) Try.underlying9) ?_
    refine w_val_g (v := .string (str ((Ct.x key s d text).take ((Ct.x key s d (text.take (text.length / 2))).length)))) (want_yes (j := 6) rfl rfl (Ev.t (v := .bool false) rfl rfl) rfl) (y_sls (Ev.t (v := .string (str (Ct.x key s d text))) rfl rfl) evo.no (evo.s (Ev.t (v := .int .i64 (((Ct.x key s d (text.take (text.length / 2))).length : Nat) : Int)) rfl rfl)) Try.underlying9 (bnd_h (h := ((Ct.x key s d (text.take (text.length / 2))).length)) (by omega) (by (try simp only [Ct.length_x, List.length_take]); omega))) ?_
    refine w_val_g (v := .bool (decide ((Ct.x key s d (text.take (text.length / 2))) = ((Ct.x key s d text).take ((Ct.x key s d (text.take (text.length / 2))).length))))) (want_yes (j := 6) rfl rfl (Ev.t (v := .bool false) rfl rfl) rfl) (y_bin (Ev.t (v := .string (str (Ct.x key s d (text.take (text.length / 2))))) rfl rfl) (Ev.t (v := .string (str ((Ct.x key s d text).take ((Ct.x key s d (text.take (text.length / 2))).length)))) rfl rfl) b_eqs) ?_
    refine w_val_g (v := .bool (decide ((Ct.x key s d (text.take (text.length / 2))) = ((Ct.x key s d text).take ((Ct.x key s d (text.take (text.length / 2))).length))))) (want_yes (j := 6) rfl rfl (Ev.t (v := .bool false) rfl rfl) rfl) (y_mv (Ev.t (v := .bool (decide ((Ct.x key s d (text.take (text.length / 2))) = ((Ct.x key s d text).take ((Ct.x key s d (text.take (text.length / 2))).length))))) rfl rfl)) ?_
    have hc12 : (Ct.x key s d (text.take (text.length / 2))) = ((Ct.x key s d text).take ((Ct.x key s d (text.take (text.length / 2))).length)) := by exact Ct.x_take _ _ _ _ _
    refine w_val_g (v := .string (str (Ct.x key s d text))) (want_yes (j := 13) rfl rfl (Ev.t (v := .bool true) (Eq.trans (b := .bool (decide ((Ct.x key s d (text.take (text.length / 2))) = ((Ct.x key s d text).take ((Ct.x key s d (text.take (text.length / 2))).length))))) rfl (by rw [decide_eq_true hc12])) rfl) rfl) (y_mv (Ev.t (v := .string (str (Ct.x key s d text))) rfl rfl)) ?_
    refine w_val_g (v := .int .i64 (((Ct.x key s d text).length : Nat) : Int)) (want_yes (j := 13) rfl rfl (Ev.t (v := .bool true) (Eq.trans (b := .bool (decide ((Ct.x key s d (text.take (text.length / 2))) = ((Ct.x key s d text).take ((Ct.x key s d (text.take (text.length / 2))).length))))) rfl (by rw [decide_eq_true hc12])) rfl) rfl) (y_len (Ev.t (v := .string (str (Ct.x key s d text))) rfl rfl) Try.underlying9) ?_
    refine w_val_g (v := .string (str text)) (want_yes (j := 13) rfl rfl (Ev.t (v := .bool true) (Eq.trans (b := .bool (decide ((Ct.x key s d (text.take (text.length / 2))) = ((Ct.x key s d text).take ((Ct.x key s d (text.take (text.length / 2))).length))))) rfl (by rw [decide_eq_true hc12])) rfl) rfl) (y_mv (Ev.t (v := .string (str text)) rfl rfl)) ?_
    refine w_val_g (v := .int .i64 ((text.length : Nat) : Int)) (want_yes (j := 13) rfl rfl (Ev.t (v := .bool true) (Eq.trans (b := .bool (decide ((Ct.x key s d (text.take (text.length / 2))) = ((Ct.x key s d text).take ((Ct.x key s d (text.take (text.length / 2))).length))))) rfl (by rw [decide_eq_true hc12])) rfl) rfl) (y_len (Ev.t (v := .string (str text)) rfl rfl) Try.underlying9) ?_
    refine w_val_g (v := .bool (decide ((((Ct.x key s d text).length : Nat) : Int) = ((text.length : Nat) : Int)))) (want_yes (j := 13) rfl rfl (Ev.t (v := .bool true) (Eq.trans (b := .bool (decide ((Ct.x key s d (text.take (text.length / 2))) = ((Ct.x key s d text).take ((Ct.x key s d (text.take (text.length / 2))).length))))) rfl (by rw [decide_eq_true hc12])) rfl) rfl) (y_bin (Ev.t (v := .int .i64 (((Ct.x key s d text).length : Nat) : Int)) rfl rfl) (Ev.t (v := .int .i64 ((text.length : Nat) : Int)) rfl rfl) b_eql) ?_
    refine w_val_g (v := .bool (decide ((((Ct.x key s d text).length : Nat) : Int) = ((text.length : Nat) : Int)))) (want_yes (j := 6) rfl rfl (Ev.t (v := .bool false) rfl rfl) rfl) (y_pick_t (Ev.t (v := .bool true) (Eq.trans (b := .bool (decide ((Ct.x key s d (text.take (text.length / 2))) = ((Ct.x key s d text).take ((Ct.x key s d (text.take (text.length / 2))).length))))) rfl (by rw [decide_eq_true hc12])) rfl) (Ev.t (v := .bool (decide ((((Ct.x key s d text).length : Nat) : Int) = ((text.length : Nat) : Int)))) rfl rfl)) ?_
    refine w_val_g (v := .bool (decide ((((Ct.x key s d text).length : Nat) : Int) = ((text.length : Nat) : Int)))) (want_yes (j := 3) rfl rfl (Ev.t (v := .bool true) rfl rfl) rfl) (y_pick_f (Ev.t (v := .bool false) rfl rfl) (Ev.t (v := .bool (decide ((((Ct.x key s d text).length : Nat) : Int) = ((text.length : Nat) : Int)))) rfl rfl)) ?_
    refine w_val (v := .bool (decide ((((Ct.x key s d text).length : Nat) : Int) = ((text.length : Nat) : Int)))) (y_pick_t (Ev.t (v := .bool true) rfl rfl) (Ev.t (v := .bool (decide ((((Ct.x key s d text).length : Nat) : Int) = ((text.length : Nat) : Int)))) rfl rfl)) ?_
    refine w_val (v := .bool (decide ((((Ct.x key s d text).length : Nat) : Int) = ((text.length : Nat) : Int)))) (y_as (Ev.t (v := .bool (decide ((((Ct.x key s d text).length : Nat) : Int) = ((text.length : Nat) : Int)))) rfl rfl)) ?_
    refine wpList_nil ?_
    refine then_n ?_
    refine wp_ret ?_
    have hc13 : (((Ct.x key s d text).length : Nat) : Int) = ((text.length : Nat) : Int) := by rw [Ct.length_x]
    refine fin_ret1 rfl (Ev.t (v := .bool true) (Eq.trans (b := .bool (decide ((((Ct.x key s d text).length : Nat) : Int) = ((text.length : Nat) : Int)))) rfl (by rw [decide_eq_true hc13])) rfl) ?_
    exact ⟨rfl, hk⟩

theorem walk_CtrXors (key : List (BitVec 8)) (hkey : key.length ≤ 140737488351232) (s : List (BitVec 8)) (d : Int) (text : List (BitVec 8)) (htext : text.length ≤ 140737488351232) (w : World) : Calls Try.prog 8 #[.string (str key), .agg #[.string (str s), .int .i64 d], .string (str text)] w fun e w' => e = .returned (.bool true) ∧ Below w.heap.size w w' := by
  by_cases hk : Aes.okKey key.length
  · by_cases hs : s.length = 16
    · by_cases hd : 1 ≤ d ∧ d ≤ 16
      · obtain ⟨k, rfl⟩ : ∃ k : Nat, d = k := ⟨d.toNat, by omega⟩
        by_cases h0 : text.length = 0
        · exact ctrXors_0 key text hk s k hs (by omega) (by omega) h0 w
        · by_cases h7 : text.length ≤ 70000
          · exact ctrXors_y key text hk s k hs (by omega) (by omega) (by omega) h7 w
          · exact ctrXors_z key text hk s k hs (by omega) (by omega) (by omega) w
      · exact ctrXors_d key text hk s d hs hd w
    · exact ctrXors_i key text hk s d hs w
  · exact ctrXors_k key text hk s d w

theorem walk_CtrBegins (key : List (BitVec 8)) (hkey : key.length ≤ 140737488351232) (s : List (BitVec 8)) (d : Int) (text : List (BitVec 8)) (htext : text.length ≤ 140737488351232) (w : World) : Calls Try.prog 10 #[.string (str key), .agg #[.string (str s), .int .i64 d], .string (str text)] w fun e w' => e = .returned (.bool true) ∧ Below w.heap.size w w' := by
  by_cases hk : Aes.okKey key.length
  · by_cases hs : s.length = 16
    · by_cases hd : 1 ≤ d ∧ d ≤ 16
      · obtain ⟨k, rfl⟩ : ∃ k : Nat, d = k := ⟨d.toNat, by omega⟩
        exact ctrBegins_y key text hk s k hs (by omega) (by omega) w
      · exact ctrBegins_d key text hk s d hs hd w
    · exact ctrBegins_i key text hk s d hs w
  · exact ctrBegins_k key text hk s d w
end Go.Proofs.Ythmcoaadigaddaa
