/-
  The law CtrPieces answers true. No conditions.
-/
import Derived.Test.YthmcoaadigaddaaRows
import Derived.Test.YthmcoaadigaddaaCtrXorsW
import Derived.ProofKit
namespace Go.Proofs.Ythmcoaadigaddaa
open Go.RowKit
set_option linter.unusedSimpArgs false
set_option linter.unusedVariables false
namespace CtrPiecesWT
theorem mixed : Try.prog.follows .mixedOrders = true := by kernel_rfl
theorem fa34_0 (g off : Nat) : ∀ w, (Instr.fieldAt 34 (.pointer (some ⟨g, off, none⟩)) 0).run Try.prog w = .ok (.pointer (some ⟨g, off + 0, none⟩)) w := fun w => by kernel_rfl
theorem fa34_1 (g off : Nat) : ∀ w, (Instr.fieldAt 34 (.pointer (some ⟨g, off, none⟩)) 1).run Try.prog w = .ok (.pointer (some ⟨g, off + 1, none⟩)) w := fun w => by kernel_rfl
theorem sc3 : (Try.prog.underlying 3).map scal = some true := by rw [Try.underlying3]; rfl
theorem sc9 : (Try.prog.underlying 9).map scal = some true := by rw [Try.underlying9]; rfl
theorem so3 : (Try.prog.underlying 3).isSome = true := by rw [Try.underlying3]; rfl
theorem sz9 : (Try.prog.info? 9).map (·.size) = some 1 := by kernel_rfl
end CtrPiecesWT
set_option maxRecDepth 100000 in
set_option maxHeartbeats 1000000 in
theorem ctrPieces_y (key : List (BitVec 8)) (hok : Aes.okKey key.length) (s : List (BitVec 8)) (d : Nat) (hs : s.length = 16) (h1 : 1 ≤ d) (h16 : d ≤ 16) (g off n cap : Nat) (hn : n ≤ 140737488351232) (l : Nat → List (BitVec 8))  (w0 : World) (hgl : g < w0.heap.size) (hl : ∀ i, i < n → w0.cell? ⟨g, off + i, none⟩ = some (.string (str (l i)))) : Calls Try.prog 9 #[.string (str key), .agg (arr 2 (fun j => if j < 1 then .string (str s) else .int .i64 ((d : Nat) : Int))), .slice (some ⟨g, off, none⟩) n cap] w0 fun e w' => e = .returned (.bool true) ∧ Below w0.heap.size w0 w' := by
  refine enter (n := 106) Try.func9 rfl rfl rfl ?_
  have hk : Below w0.heap.size w0 w0 := Below.refl _ _
  refine wp_seq ?_
  refine wp_region_lit ?_
  refine w_box (m := 2) (F := fun j => if j < 1 then .string (str s) else .int .i64 ((d : Nat) : Int)) (Ev.t (v := .agg (arr 2 (fun j => if j < 1 then .string (str s) else .int .i64 ((d : Nat) : Int)))) rfl rfl) rfl ?_
  intro b_c w1 hbe_b_c r_b_c hb2
  have ge_b_c : w0.heap.size ≤ b_c := by have := hk.size; omega
  clear hbe_b_c
  replace hk := thenB hk hb2
  refine w_val (v := .bool false) (y_as (Ev.c (v := .bool false))) ?_
  refine wpList_nil ?_
  refine then_n ?_
  refine wp_seq ?_
  refine wp_seq ?_
  refine wp_region_lit ?_
  refine w_call (Try.func18) (by kernel_rfl) rfl m0 (ctrWakes_c  w1) ?_
  rintro _ w3 ⟨rfl, hb4⟩
  refine ⟨_, rfl, ?_⟩
  replace r_b_c := r_b_c.step hb4
  replace hk := thenB hk hb4
  refine w_val (v := .bool false) (y_not (Ev.t (v := .bool true) rfl rfl)) ?_
  refine wpList_nil ?_
  refine then_n ?_
  refine c_ff (Ev.t (v := .bool false) rfl rfl) ?_
  refine wp_skip ?_
  refine then_n ?_
  refine wp_seq ?_
  refine wp_region_lit ?_
  refine w_val (v := .string (str ([] : List (BitVec 8)))) (y_as (Ev.c (v := .string (str ([] : List (BitVec 8)))))) ?_
  refine w_val (v := .string (str ([] : List (BitVec 8)))) (y_as (Ev.c (v := .string (str ([] : List (BitVec 8)))))) ?_
  refine wpList_nil ?_
  refine then_n ?_
  refine wp_seq ?_
  refine wp_seq ?_
  refine wp_region_lit ?_
  refine w_val (v := .slice (some ⟨g, off, none⟩) n cap) (y_mv (Ev.t (v := .slice (some ⟨g, off, none⟩) n cap) rfl rfl)) ?_
  refine w_val (v := .int .i64 ((n : Nat) : Int)) (y_len_sl (Ev.t (v := .slice (some ⟨g, off, none⟩) n cap) rfl rfl) Try.underlying42) ?_
  refine w_val (v := .int .i64 0) (y_mv (Ev.c (v := .int .i64 0))) ?_
  refine wpList_nil ?_
  refine then_n ?_
  refine wp_block ?_
  refine c_loop (fun dN aN wl => ∃ (i : Nat) (A : List (BitVec 8)), dN = (n - i) ∧ ∃ f5, aN = fr 106 f5 ∧ (i ≤ n) ∧ (i < n → A.length % 16 = 0) ∧ (A.length ≤ 2000) ∧ f5 0 = .string (str key) ∧ f5 1 = .agg (arr 2 (fun j => if j < 1 then .string (str s) else .int .i64 ((d : Nat) : Int))) ∧ f5 2 = .slice (some ⟨g, off, none⟩) n cap ∧ f5 4 = .pointer (some ⟨b_c, 0, none⟩) ∧ f5 7 = .string (str A) ∧ f5 8 = .string (str (Ct.x key s d A)) ∧ f5 20 = .int .i64 ((n : Nat) : Int) ∧ f5 21 = .int .i64 ((i : Nat) : Int) ∧ Row wl b_c 34 2 (fun j => if j < 1 then .string (str s) else .int .i64 ((d : Nat) : Int)) ∧ Below w0.heap.size w0 wl) (n - 0) ?_ ?_
  · exact ⟨0, [], rfl, _, rfl, (by first | omega | with_reducible rfl | assumption | trivial | exact ⟨rfl, rfl⟩ | simp), (by intro _; rfl), (by simp only [List.length_nil]; omega), rfl, rfl, rfl, rfl, (Eq.trans (b := .string (str ([] : List (BitVec 8)))) rfl (by rfl)), (Eq.trans (b := .string (str ([] : List (BitVec 8)))) rfl (by rfl)), rfl, (Eq.trans (b := .int .i64 0) rfl (by first | with_reducible rfl | (with_reducible congr 1 <;> omega) | (with_reducible congr 2 <;> omega) | (with_reducible congr 3 <;> omega) | rfl)), r_b_c, hk⟩
  · skip
    clear r_b_c hk
    rintro _ _ w6 ⟨i, A, rfl, f5, rfl, i1_0, i1_1, i1_2, s1_0, s1_1, s1_2, s1_4, s1_7, s1_8, s1_20, s1_21, r_b_c, hk⟩
    refine wp_seq ?_
    refine wp_region_lit ?_
    refine w_val (v := .bool (decide (((i : Nat) : Int) < ((n : Nat) : Int)))) (y_bin (Ev.t (v := .int .i64 ((i : Nat) : Int)) s1_21 rfl) (Ev.t (v := .int .i64 ((n : Nat) : Int)) s1_20 rfl) b_lss) ?_
    refine wpList_nil ?_
    refine then_n ?_
    refine wp_seq ?_
    refine c_if (p := ((i : Nat) : Int) < ((n : Nat) : Int)) (Ev.t (v := .bool (decide (((i : Nat) : Int) < ((n : Nat) : Int)))) rfl rfl) (fun hc7 => ?_) (fun hc7 => ?_)
    · skip
      refine wp_skip ?_
      refine then_n ?_
      refine wp_seq ?_
      refine wp_block ?_
      refine wp_seq ?_
      refine wp_region_lit ?_
      refine w_val (v := .int .i64 ((i : Nat) : Int)) (y_mv (Ev.t (v := .int .i64 ((i : Nat) : Int)) s1_21 rfl)) ?_
      refine w_val (v := .int .i64 ((i : Nat) : Int)) (y_as (Ev.t (v := .int .i64 ((i : Nat) : Int)) rfl rfl)) ?_
      refine wpList_nil ?_
      refine then_n ?_
      refine wp_seq ?_
      refine wp_seq ?_
      refine wp_region_lit ?_
      refine w_val (v := .string (str A)) (y_mv (Ev.t (v := .string (str A)) s1_7 rfl)) ?_
      refine w_val (v := .int .i64 ((A.length : Nat) : Int)) (y_len (Ev.t (v := .string (str A)) rfl rfl) Try.underlying9) ?_
      refine w_val (v := .bool (decide (1000 < ((A.length : Nat) : Int)))) (y_bin (Ev.t (v := .int .i64 ((A.length : Nat) : Int)) rfl rfl) (Ev.c (v := .int .i64 1000)) b_gtr) ?_
      refine w_val (v := .bool (decide (1000 < ((A.length : Nat) : Int)))) (y_mv (Ev.t (v := .bool (decide (1000 < ((A.length : Nat) : Int)))) rfl rfl)) ?_
      by_cases hc8 : 1000 < ((A.length : Nat) : Int)
      · skip
        first | with_reducible refine w_skip ?_ ?_ | refine w_skip ?_ ?_
        · exact want_no (j := 3) rfl rfl (Ev.t (v := .bool true) (Eq.trans (b := .bool (decide (1000 < ((A.length : Nat) : Int)))) rfl (by rw [decide_eq_true hc8])) rfl) rfl
        first | with_reducible refine w_skip ?_ ?_ | refine w_skip ?_ ?_
        · exact want_no (j := 3) rfl rfl (Ev.t (v := .bool true) (Eq.trans (b := .bool (decide (1000 < ((A.length : Nat) : Int)))) rfl (by rw [decide_eq_true hc8])) rfl) rfl
        first | with_reducible refine w_skip ?_ ?_ | refine w_skip ?_ ?_
        · exact want_no (j := 3) rfl rfl (Ev.t (v := .bool true) (Eq.trans (b := .bool (decide (1000 < ((A.length : Nat) : Int)))) rfl (by rw [decide_eq_true hc8])) rfl) rfl
        first | with_reducible refine w_skip ?_ ?_ | refine w_skip ?_ ?_
        · exact want_no (j := 3) rfl rfl (Ev.t (v := .bool true) (Eq.trans (b := .bool (decide (1000 < ((A.length : Nat) : Int)))) rfl (by rw [decide_eq_true hc8])) rfl) rfl
        first | with_reducible refine w_skip ?_ ?_ | refine w_skip ?_ ?_
        · exact want_no (j := 3) rfl rfl (Ev.t (v := .bool true) (Eq.trans (b := .bool (decide (1000 < ((A.length : Nat) : Int)))) rfl (by rw [decide_eq_true hc8])) rfl) rfl
        first | with_reducible refine w_skip ?_ ?_ | refine w_skip ?_ ?_
        · exact want_no (j := 3) rfl rfl (Ev.t (v := .bool true) (Eq.trans (b := .bool (decide (1000 < ((A.length : Nat) : Int)))) rfl (by rw [decide_eq_true hc8])) rfl) rfl
        refine w_val (v := .bool true) (y_pick_t (Ev.t (v := .bool true) (Eq.trans (b := .bool (decide (1000 < ((A.length : Nat) : Int)))) rfl (by rw [decide_eq_true hc8])) rfl) (Ev.c (v := .bool true))) ?_
        refine wpList_nil ?_
        refine then_n ?_
        refine c_tt (Ev.t (v := .bool true) rfl rfl) ?_
        refine wp_seq ?_
        refine wp_region_lit ?_
        refine w_val (v := .bool true) (y_as (Ev.c (v := .bool true))) ?_
        refine wpList_nil ?_
        refine then_n ?_
        refine wp_ret ?_
        refine then_r ?_
        refine inb_r ?_
        refine then_r ?_
        refine then_r ?_
        refine inb_r ?_
        refine then_r ?_
        refine fin_ret1 rfl (Ev.t (v := .bool true) rfl rfl) ?_
        exact ⟨rfl, hk⟩
      · skip
        refine w_val_g (v := .slice (some ⟨g, off, none⟩) n cap) (want_yes (j := 3) rfl rfl (Ev.t (v := .bool false) (Eq.trans (b := .bool (decide (1000 < ((A.length : Nat) : Int)))) rfl (by rw [decide_eq_false hc8])) rfl) rfl) (y_mv (Ev.t (v := .slice (some ⟨g, off, none⟩) n cap) s1_2 rfl)) ?_
        refine w_val_g (v := .int .i64 ((i : Nat) : Int)) (want_yes (j := 3) rfl rfl (Ev.t (v := .bool false) (Eq.trans (b := .bool (decide (1000 < ((A.length : Nat) : Int)))) rfl (by rw [decide_eq_false hc8])) rfl) rfl) (y_mv (Ev.t (v := .int .i64 ((i : Nat) : Int)) rfl rfl)) ?_
        refine w_val_g (v := .pointer (some ⟨g, (off + i), none⟩)) (want_yes (j := 3) rfl rfl (Ev.t (v := .bool false) (Eq.trans (b := .bool (decide (1000 < ((A.length : Nat) : Int)))) rfl (by rw [decide_eq_false hc8])) rfl) rfl) (y_off (y_is1 (i := i) (Ev.t (v := .slice (some ⟨g, off, none⟩) n cap) rfl rfl) (Ev.t (v := .int .i64 ((i : Nat) : Int)) rfl rfl) Try.underlying42 CtrPiecesWT.sz9 (by omega) (by omega)) (by first | rfl | omega)) ?_
        refine w_val_g (v := .string (str (l i))) (want_yes (j := 3) rfl rfl (Ev.t (v := .bool false) (Eq.trans (b := .bool (decide (1000 < ((A.length : Nat) : Int)))) rfl (by rw [decide_eq_false hc8])) rfl) rfl) (y_ld (Ev.t (v := .pointer (some ⟨g, (off + i), none⟩)) rfl rfl) CtrPiecesWT.sc9 ((hk.cell (p := ⟨g, (off + i), none⟩) hgl).trans (hl i (by omega)))) ?_
        refine w_val_g (v := .int .i64 (((l i).length : Nat) : Int)) (want_yes (j := 3) rfl rfl (Ev.t (v := .bool false) (Eq.trans (b := .bool (decide (1000 < ((A.length : Nat) : Int)))) rfl (by rw [decide_eq_false hc8])) rfl) rfl) (y_len (Ev.t (v := .string (str (l i))) rfl rfl) Try.underlying9) ?_
        refine w_val_g (v := .bool (decide (1000 < (((l i).length : Nat) : Int)))) (want_yes (j := 3) rfl rfl (Ev.t (v := .bool false) (Eq.trans (b := .bool (decide (1000 < ((A.length : Nat) : Int)))) rfl (by rw [decide_eq_false hc8])) rfl) rfl) (y_bin (Ev.t (v := .int .i64 (((l i).length : Nat) : Int)) rfl rfl) (Ev.c (v := .int .i64 1000)) b_gtr) ?_
        refine w_val (v := .bool (decide (1000 < (((l i).length : Nat) : Int)))) (y_pick_f (Ev.t (v := .bool false) (Eq.trans (b := .bool (decide (1000 < ((A.length : Nat) : Int)))) rfl (by rw [decide_eq_false hc8])) rfl) (Ev.t (v := .bool (decide (1000 < (((l i).length : Nat) : Int)))) rfl rfl)) ?_
        refine wpList_nil ?_
        refine then_n ?_
        refine c_if (p := 1000 < (((l i).length : Nat) : Int)) (Ev.t (v := .bool (decide (1000 < (((l i).length : Nat) : Int)))) rfl rfl) (fun hc9 => ?_) (fun hc9 => ?_)
        · skip
          refine wp_seq ?_
          refine wp_region_lit ?_
          refine w_val (v := .bool true) (y_as (Ev.c (v := .bool true))) ?_
          refine wpList_nil ?_
          refine then_n ?_
          refine wp_ret ?_
          refine then_r ?_
          refine inb_r ?_
          refine then_r ?_
          refine then_r ?_
          refine inb_r ?_
          refine then_r ?_
          refine fin_ret1 rfl (Ev.t (v := .bool true) rfl rfl) ?_
          exact ⟨rfl, hk⟩
        · skip
          refine wp_skip ?_
          refine then_n ?_
          refine wp_seq ?_
          refine wp_region_lit ?_
          refine w_val (v := .slice (some ⟨g, off, none⟩) n cap) (y_mv (Ev.t (v := .slice (some ⟨g, off, none⟩) n cap) s1_2 rfl)) ?_
          refine w_val (v := .int .i64 ((i : Nat) : Int)) (y_mv (Ev.t (v := .int .i64 ((i : Nat) : Int)) rfl rfl)) ?_
          refine w_val (v := .pointer (some ⟨g, (off + i), none⟩)) (y_off (y_is1 (i := i) (Ev.t (v := .slice (some ⟨g, off, none⟩) n cap) rfl rfl) (Ev.t (v := .int .i64 ((i : Nat) : Int)) rfl rfl) Try.underlying42 CtrPiecesWT.sz9 (by omega) (by omega)) (by first | rfl | omega)) ?_
          refine w_val (v := .string (str (l i))) (y_ld (Ev.t (v := .pointer (some ⟨g, (off + i), none⟩)) rfl rfl) CtrPiecesWT.sc9 ((hk.cell (p := ⟨g, (off + i), none⟩) hgl).trans (hl i (by omega)))) ?_
          refine w_val (v := .string (str (l i))) (y_as (Ev.t (v := .string (str (l i))) rfl rfl)) ?_
          refine wpList_nil ?_
          refine then_n ?_
          refine wp_seq ?_
          refine wp_seq ?_
          refine wp_region_lit ?_
          refine w_val (v := .int .i64 ((i : Nat) : Int)) (y_mv (Ev.t (v := .int .i64 ((i : Nat) : Int)) rfl rfl)) ?_
          refine w_val (v := .slice (some ⟨g, off, none⟩) n cap) (y_mv (Ev.t (v := .slice (some ⟨g, off, none⟩) n cap) s1_2 rfl)) ?_
          refine w_val (v := .int .i64 ((n : Nat) : Int)) (y_len_sl (Ev.t (v := .slice (some ⟨g, off, none⟩) n cap) rfl rfl) Try.underlying42) ?_
          refine w_val (v := .int .i64 (((n : Nat) : Int) - 1)) (y_bin (Ev.t (v := .int .i64 ((n : Nat) : Int)) rfl rfl) (Ev.c (v := .int .i64 1)) (b_sub (by omega))) ?_
          refine w_val (v := .bool (decide (((i : Nat) : Int) < (((n : Nat) : Int) - 1)))) (y_bin (Ev.t (v := .int .i64 ((i : Nat) : Int)) rfl rfl) (Ev.t (v := .int .i64 (((n : Nat) : Int) - 1)) rfl rfl) b_lss) ?_
          refine wpList_nil ?_
          refine then_n ?_
          refine c_if (p := ((i : Nat) : Int) < (((n : Nat) : Int) - 1)) (Ev.t (v := .bool (decide (((i : Nat) : Int) < (((n : Nat) : Int) - 1)))) rfl rfl) (fun hc10 => ?_) (fun hc10 => ?_)
          · skip
            refine wp_region_lit ?_
            refine w_val (v := .string (str (l i))) (y_mv (Ev.t (v := .string (str (l i))) rfl rfl)) ?_
            refine w_val (v := .string (str (l i))) (y_mv (Ev.t (v := .string (str (l i))) rfl rfl)) ?_
            refine w_val (v := .int .i64 (((l i).length : Nat) : Int)) (y_len (Ev.t (v := .string (str (l i))) rfl rfl) Try.underlying9) ?_
            refine w_val (v := .int .i64 ((((l i).length : Nat) : Int) / 16)) (y_bin (Ev.t (v := .int .i64 (((l i).length : Nat) : Int)) rfl rfl) (Ev.c (v := .int .i64 16)) (b_quo (by omega))) ?_
            refine w_val (v := .int .i64 (((((l i).length : Nat) : Int) / 16) * 16)) (y_bin (Ev.t (v := .int .i64 ((((l i).length : Nat) : Int) / 16)) rfl rfl) (Ev.c (v := .int .i64 16)) (b_mul (by omega))) ?_
            refine w_val (v := .string (str ((l i).take ((((l i).length) / 16) * 16)))) (y_sls (Ev.t (v := .string (str (l i))) rfl rfl) evo.no (evo.s (Ev.t (v := .int .i64 (((((l i).length : Nat) : Int) / 16) * 16)) rfl rfl)) Try.underlying9 (bnd_h (h := ((((l i).length) / 16) * 16)) (by omega) (by omega))) ?_
            refine w_val (v := .string (str ((l i).take ((((l i).length) / 16) * 16)))) (y_as (Ev.t (v := .string (str ((l i).take ((((l i).length) / 16) * 16)))) rfl rfl)) ?_
            refine wpList_nil ?_
            refine then_n ?_
            refine wp_seq ?_
            refine wp_region_lit ?_
            refine w_val (v := .pointer (some ⟨b_c, 0, none⟩)) (y_off (y_fa (Ev.t (v := .pointer (some ⟨b_c, 0, none⟩)) s1_4 rfl) (CtrPiecesWT.fa34_0 _ _)) (by first | rfl | omega)) ?_
            refine w_val (v := .string (str s)) (y_ld (Ev.t (v := .pointer (some ⟨b_c, 0, none⟩)) rfl rfl) CtrPiecesWT.sc9 (r_b_c.val (v := .string (str s)) (by omega) ((if_pos (by omega)).trans (by first | with_reducible rfl | (with_reducible congr 1 <;> omega) | (with_reducible congr 2 <;> omega) | (with_reducible congr 3 <;> omega) | rfl)))) ?_
            refine w_val (v := .pointer (some ⟨b_c, 1, none⟩)) (y_off (y_fa (Ev.t (v := .pointer (some ⟨b_c, 0, none⟩)) s1_4 rfl) (CtrPiecesWT.fa34_1 _ _)) (by first | rfl | omega)) ?_
            refine w_val (v := .int .i64 ((d : Nat) : Int)) (y_ld (Ev.t (v := .pointer (some ⟨b_c, 1, none⟩)) rfl rfl) CtrPiecesWT.sc3 (r_b_c.val (v := .int .i64 ((d : Nat) : Int)) (by omega) ((if_neg (by omega)).trans (by first | with_reducible rfl | (with_reducible congr 1 <;> omega) | (with_reducible congr 2 <;> omega) | (with_reducible congr 3 <;> omega) | rfl)))) ?_
            refine w_val (v := .string (str A)) (y_mv (Ev.t (v := .string (str A)) s1_7 rfl)) ?_
            refine w_val (v := .int .i64 ((A.length : Nat) : Int)) (y_len (Ev.t (v := .string (str A)) rfl rfl) Try.underlying9) ?_
            refine w_val (v := .int .i64 (((A.length : Nat) : Int) / 16)) (y_bin (Ev.t (v := .int .i64 ((A.length : Nat) : Int)) rfl rfl) (Ev.c (v := .int .i64 16)) (b_quo (by omega))) ?_
            refine w_val (v := U64 (BitVec.ofNat 64 (A.length / 16))) (y_nat_u64 (p := (A.length / 16)) (Ev.t (v := .int .i64 (((A.length : Nat) : Int) / 16)) rfl rfl) (by omega) CtrPiecesWT.so3 Try.underlying35) ?_
            refine w_call (Try.func19) (by kernel_rfl) rfl (m3 (Ev.t (v := .string (str s)) rfl rfl) (Ev.t (v := .int .i64 ((d : Nat) : Int)) rfl rfl) (Ev.t (v := U64 (BitVec.ofNat 64 (A.length / 16))) rfl rfl)) (next_y s d hs h1 h16 (A.length / 16) (by omega) w6) ?_
            rintro _ w11 ⟨rfl, hb12⟩
            refine ⟨_, rfl, ?_⟩
            replace r_b_c := r_b_c.step hb12
            replace hk := thenB hk hb12
            refine w_val (v := .tuple #[.string (str (Ct.nx s d (A.length / 16))), .int .i64 0]) (y_mv (Ev.t (v := .tuple #[.string (str (Ct.nx s d (A.length / 16))), .int .i64 0]) rfl rfl)) ?_
            refine w_val (v := .string (str (Ct.nx s d (A.length / 16)))) (y_ext (v := .string (str (Ct.nx s d (A.length / 16)))) (Ev.t (v := .tuple #[.string (str (Ct.nx s d (A.length / 16))), .int .i64 0]) rfl rfl) rfl) ?_
            refine w_val (v := .int .i64 0) (y_ext (v := .int .i64 0) (Ev.t (v := .tuple #[.string (str (Ct.nx s d (A.length / 16))), .int .i64 0]) rfl rfl) rfl) ?_
            refine w_val (v := .string (str (Ct.nx s d (A.length / 16)))) (y_as (Ev.t (v := .string (str (Ct.nx s d (A.length / 16)))) rfl rfl)) ?_
            refine w_val (v := .int .i64 0) (y_as (Ev.t (v := .int .i64 0) rfl rfl)) ?_
            refine wpList_nil ?_
            refine then_n ?_
            refine wp_seq ?_
            refine wp_region_lit ?_
            refine w_val (v := .string (str key)) (y_mv (Ev.t (v := .string (str key)) s1_0 rfl)) ?_
            refine w_val (v := .string (str (Ct.nx s d (A.length / 16)))) (y_mv (Ev.t (v := .string (str (Ct.nx s d (A.length / 16)))) rfl rfl)) ?_
            refine w_val (v := .pointer (some ⟨b_c, 1, none⟩)) (y_off (y_fa (Ev.t (v := .pointer (some ⟨b_c, 0, none⟩)) s1_4 rfl) (CtrPiecesWT.fa34_1 _ _)) (by first | rfl | omega)) ?_
            refine w_val (v := .int .i64 ((d : Nat) : Int)) (y_ld (Ev.t (v := .pointer (some ⟨b_c, 1, none⟩)) rfl rfl) CtrPiecesWT.sc3 (r_b_c.val (v := .int .i64 ((d : Nat) : Int)) (by omega) ((if_neg (by omega)).trans (by first | with_reducible rfl | (with_reducible congr 1 <;> omega) | (with_reducible congr 2 <;> omega) | (with_reducible congr 3 <;> omega) | rfl)))) ?_
            refine w_val (v := .string (str ((l i).take ((((l i).length) / 16) * 16)))) (y_mv (Ev.t (v := .string (str ((l i).take ((((l i).length) / 16) * 16)))) rfl rfl)) ?_
            refine w_call (Try.func21) (by kernel_rfl) rfl (m4 (Ev.t (v := .string (str key)) rfl rfl) (Ev.t (v := .string (str (Ct.nx s d (A.length / 16)))) rfl rfl) (Ev.t (v := .int .i64 ((d : Nat) : Int)) rfl rfl) (Ev.t (v := .string (str ((l i).take ((((l i).length) / 16) * 16)))) rfl rfl)) (ctrXor_y key ((l i).take ((((l i).length) / 16) * 16)) hok (Ct.nx s d (A.length / 16)) d (Ct.length_nx s d _ hs) h1 h16 (by (try simp only [List.length_take]); omega) w11) ?_
            rintro _ w13 ⟨rfl, hb14⟩
            refine ⟨_, rfl, ?_⟩
            replace r_b_c := r_b_c.step hb14
            replace hk := thenB hk hb14
            refine w_val (v := .tuple #[.string (str (Ct.x key (Ct.nx s d (A.length / 16)) d ((l i).take ((((l i).length) / 16) * 16)))), .int .i64 0]) (y_mv (Ev.t (v := .tuple #[.string (str (Ct.x key (Ct.nx s d (A.length / 16)) d ((l i).take ((((l i).length) / 16) * 16)))), .int .i64 0]) rfl rfl)) ?_
            refine w_val (v := .string (str (Ct.x key (Ct.nx s d (A.length / 16)) d ((l i).take ((((l i).length) / 16) * 16))))) (y_ext (v := .string (str (Ct.x key (Ct.nx s d (A.length / 16)) d ((l i).take ((((l i).length) / 16) * 16))))) (Ev.t (v := .tuple #[.string (str (Ct.x key (Ct.nx s d (A.length / 16)) d ((l i).take ((((l i).length) / 16) * 16)))), .int .i64 0]) rfl rfl) rfl) ?_
            refine w_val (v := .int .i64 0) (y_ext (v := .int .i64 0) (Ev.t (v := .tuple #[.string (str (Ct.x key (Ct.nx s d (A.length / 16)) d ((l i).take ((((l i).length) / 16) * 16)))), .int .i64 0]) rfl rfl) rfl) ?_
            refine w_val (v := .string (str (Ct.x key (Ct.nx s d (A.length / 16)) d ((l i).take ((((l i).length) / 16) * 16))))) (y_as (Ev.t (v := .string (str (Ct.x key (Ct.nx s d (A.length / 16)) d ((l i).take ((((l i).length) / 16) * 16))))) rfl rfl)) ?_
            refine w_val (v := .int .i64 0) (y_as (Ev.t (v := .int .i64 0) rfl rfl)) ?_
            refine wpList_nil ?_
            refine then_n ?_
            refine wp_seq ?_
            refine wp_seq ?_
            refine wp_region_lit ?_
            refine w_val (v := .int .i64 0) (y_mv (Ev.t (v := .int .i64 0) rfl rfl)) ?_
            refine w_val (v := .bool false) (y_bin (Ev.t (v := .int .i64 0) rfl rfl) (Ev.c (v := .int .i64 0)) b_neq) ?_
            refine w_val (v := .bool false) (y_mv (Ev.t (v := .bool false) rfl rfl)) ?_
            refine w_val_g (v := .int .i64 0) (want_yes (j := 2) rfl rfl (Ev.t (v := .bool false) rfl rfl) rfl) (y_mv (Ev.t (v := .int .i64 0) rfl rfl)) ?_
            refine w_val_g (v := .bool false) (want_yes (j := 2) rfl rfl (Ev.t (v := .bool false) rfl rfl) rfl) (y_bin (Ev.t (v := .int .i64 0) rfl rfl) (Ev.c (v := .int .i64 0)) b_neq) ?_
            refine w_val (v := .bool false) (y_pick_f (Ev.t (v := .bool false) rfl rfl) (Ev.t (v := .bool false) rfl rfl)) ?_
            refine wpList_nil ?_
            refine then_n ?_
            refine c_ff (Ev.t (v := .bool false) rfl rfl) ?_
            refine wp_skip ?_
            refine then_n ?_
            refine wp_seq ?_
            refine wp_region_lit ?_
            refine w_val (v := .string (str A)) (y_mv (Ev.t (v := .string (str A)) s1_7 rfl)) ?_
            refine w_val (v := .string (str ((l i).take ((((l i).length) / 16) * 16)))) (y_mv (Ev.t (v := .string (str ((l i).take ((((l i).length) / 16) * 16)))) rfl rfl)) ?_
            refine w_val (v := .string (str (A ++ ((l i).take ((((l i).length) / 16) * 16))))) (y_bin (Ev.t (v := .string (str A)) rfl rfl) (Ev.t (v := .string (str ((l i).take ((((l i).length) / 16) * 16)))) rfl rfl) (b_cat (by (try simp only [List.length_append, List.length_take, Ct.length_x]); omega))) ?_
            refine w_val (v := .string (str (A ++ ((l i).take ((((l i).length) / 16) * 16))))) (y_as (Ev.t (v := .string (str (A ++ ((l i).take ((((l i).length) / 16) * 16))))) rfl rfl)) ?_
            refine wpList_nil ?_
            refine then_n ?_
            refine wp_region_lit ?_
            refine w_val (v := .string (str (Ct.x key s d A))) (y_mv (Ev.t (v := .string (str (Ct.x key s d A))) s1_8 rfl)) ?_
            refine w_val (v := .string (str (Ct.x key (Ct.nx s d (A.length / 16)) d ((l i).take ((((l i).length) / 16) * 16))))) (y_mv (Ev.t (v := .string (str (Ct.x key (Ct.nx s d (A.length / 16)) d ((l i).take ((((l i).length) / 16) * 16))))) rfl rfl)) ?_
            refine w_val (v := .string (str ((Ct.x key s d A) ++ (Ct.x key (Ct.nx s d (A.length / 16)) d ((l i).take ((((l i).length) / 16) * 16)))))) (y_bin (Ev.t (v := .string (str (Ct.x key s d A))) rfl rfl) (Ev.t (v := .string (str (Ct.x key (Ct.nx s d (A.length / 16)) d ((l i).take ((((l i).length) / 16) * 16))))) rfl rfl) (b_cat (by (try simp only [List.length_append, List.length_take, Ct.length_x]); omega))) ?_
            refine w_val (v := .string (str ((Ct.x key s d A) ++ (Ct.x key (Ct.nx s d (A.length / 16)) d ((l i).take ((((l i).length) / 16) * 16)))))) (y_as (Ev.t (v := .string (str ((Ct.x key s d A) ++ (Ct.x key (Ct.nx s d (A.length / 16)) d ((l i).take ((((l i).length) / 16) * 16)))))) rfl rfl)) ?_
            refine wpList_nil ?_
            refine inb_n ?_
            refine then_n ?_
            refine wp_region_lit ?_
            refine w_val (v := .int .i64 (((i : Nat) : Int) + 1)) (y_bin (Ev.t (v := .int .i64 ((i : Nat) : Int)) s1_21 rfl) (Ev.c (v := .int .i64 1)) (b_add (by omega))) ?_
            refine w_val (v := .int .i64 (((i : Nat) : Int) + 1)) (y_mv (Ev.t (v := .int .i64 (((i : Nat) : Int) + 1)) rfl rfl)) ?_
            refine wpList_nil ?_
            exact then_n ⟨_, (by omega), i + 1, A ++ ((l i).take ((((l i).length) / 16) * 16)), rfl, _, rfl, (by first | omega | with_reducible rfl | assumption | trivial | simp), (by intro hi_; have hA_ := i1_1 (by omega); (try simp only [List.length_append, List.length_take]); omega), (by (try simp only [List.length_append, List.length_take]); omega), s1_0, s1_1, s1_2, s1_4, rfl, (Eq.trans (b := .string (str ((Ct.x key s d A) ++ (Ct.x key (Ct.nx s d (A.length / 16)) d ((l i).take ((((l i).length) / 16) * 16)))))) rfl (by exact congrArg (fun l => Value.string (str l)) (Ct.x_append _ _ _ _ _ hs (i1_1 (by omega))).symm)), s1_20, (Eq.trans (b := .int .i64 (((i : Nat) : Int) + 1)) rfl (by first | with_reducible rfl | (with_reducible congr 1 <;> omega) | (with_reducible congr 2 <;> omega) | (with_reducible congr 3 <;> omega) | rfl)), r_b_c, hk⟩
          · skip
            refine wp_skip ?_
            refine then_n ?_
            refine wp_seq ?_
            refine wp_region_lit ?_
            refine w_val (v := .pointer (some ⟨b_c, 0, none⟩)) (y_off (y_fa (Ev.t (v := .pointer (some ⟨b_c, 0, none⟩)) s1_4 rfl) (CtrPiecesWT.fa34_0 _ _)) (by first | rfl | omega)) ?_
            refine w_val (v := .string (str s)) (y_ld (Ev.t (v := .pointer (some ⟨b_c, 0, none⟩)) rfl rfl) CtrPiecesWT.sc9 (r_b_c.val (v := .string (str s)) (by omega) ((if_pos (by omega)).trans (by first | with_reducible rfl | (with_reducible congr 1 <;> omega) | (with_reducible congr 2 <;> omega) | (with_reducible congr 3 <;> omega) | rfl)))) ?_
            refine w_val (v := .pointer (some ⟨b_c, 1, none⟩)) (y_off (y_fa (Ev.t (v := .pointer (some ⟨b_c, 0, none⟩)) s1_4 rfl) (CtrPiecesWT.fa34_1 _ _)) (by first | rfl | omega)) ?_
            refine w_val (v := .int .i64 ((d : Nat) : Int)) (y_ld (Ev.t (v := .pointer (some ⟨b_c, 1, none⟩)) rfl rfl) CtrPiecesWT.sc3 (r_b_c.val (v := .int .i64 ((d : Nat) : Int)) (by omega) ((if_neg (by omega)).trans (by first | with_reducible rfl | (with_reducible congr 1 <;> omega) | (with_reducible congr 2 <;> omega) | (with_reducible congr 3 <;> omega) | rfl)))) ?_
            refine w_val (v := .string (str A)) (y_mv (Ev.t (v := .string (str A)) s1_7 rfl)) ?_
            refine w_val (v := .int .i64 ((A.length : Nat) : Int)) (y_len (Ev.t (v := .string (str A)) rfl rfl) Try.underlying9) ?_
            refine w_val (v := .int .i64 (((A.length : Nat) : Int) / 16)) (y_bin (Ev.t (v := .int .i64 ((A.length : Nat) : Int)) rfl rfl) (Ev.c (v := .int .i64 16)) (b_quo (by omega))) ?_
            refine w_val (v := U64 (BitVec.ofNat 64 (A.length / 16))) (y_nat_u64 (p := (A.length / 16)) (Ev.t (v := .int .i64 (((A.length : Nat) : Int) / 16)) rfl rfl) (by omega) CtrPiecesWT.so3 Try.underlying35) ?_
            refine w_call (Try.func19) (by kernel_rfl) rfl (m3 (Ev.t (v := .string (str s)) rfl rfl) (Ev.t (v := .int .i64 ((d : Nat) : Int)) rfl rfl) (Ev.t (v := U64 (BitVec.ofNat 64 (A.length / 16))) rfl rfl)) (next_y s d hs h1 h16 (A.length / 16) (by omega) w6) ?_
            rintro _ w15 ⟨rfl, hb16⟩
            refine ⟨_, rfl, ?_⟩
            replace r_b_c := r_b_c.step hb16
            replace hk := thenB hk hb16
            refine w_val (v := .tuple #[.string (str (Ct.nx s d (A.length / 16))), .int .i64 0]) (y_mv (Ev.t (v := .tuple #[.string (str (Ct.nx s d (A.length / 16))), .int .i64 0]) rfl rfl)) ?_
            refine w_val (v := .string (str (Ct.nx s d (A.length / 16)))) (y_ext (v := .string (str (Ct.nx s d (A.length / 16)))) (Ev.t (v := .tuple #[.string (str (Ct.nx s d (A.length / 16))), .int .i64 0]) rfl rfl) rfl) ?_
            refine w_val (v := .int .i64 0) (y_ext (v := .int .i64 0) (Ev.t (v := .tuple #[.string (str (Ct.nx s d (A.length / 16))), .int .i64 0]) rfl rfl) rfl) ?_
            refine w_val (v := .string (str (Ct.nx s d (A.length / 16)))) (y_as (Ev.t (v := .string (str (Ct.nx s d (A.length / 16)))) rfl rfl)) ?_
            refine w_val (v := .int .i64 0) (y_as (Ev.t (v := .int .i64 0) rfl rfl)) ?_
            refine wpList_nil ?_
            refine then_n ?_
            refine wp_seq ?_
            refine wp_region_lit ?_
            refine w_val (v := .string (str key)) (y_mv (Ev.t (v := .string (str key)) s1_0 rfl)) ?_
            refine w_val (v := .string (str (Ct.nx s d (A.length / 16)))) (y_mv (Ev.t (v := .string (str (Ct.nx s d (A.length / 16)))) rfl rfl)) ?_
            refine w_val (v := .pointer (some ⟨b_c, 1, none⟩)) (y_off (y_fa (Ev.t (v := .pointer (some ⟨b_c, 0, none⟩)) s1_4 rfl) (CtrPiecesWT.fa34_1 _ _)) (by first | rfl | omega)) ?_
            refine w_val (v := .int .i64 ((d : Nat) : Int)) (y_ld (Ev.t (v := .pointer (some ⟨b_c, 1, none⟩)) rfl rfl) CtrPiecesWT.sc3 (r_b_c.val (v := .int .i64 ((d : Nat) : Int)) (by omega) ((if_neg (by omega)).trans (by first | with_reducible rfl | (with_reducible congr 1 <;> omega) | (with_reducible congr 2 <;> omega) | (with_reducible congr 3 <;> omega) | rfl)))) ?_
            refine w_val (v := .string (str (l i))) (y_mv (Ev.t (v := .string (str (l i))) rfl rfl)) ?_
            refine w_call (Try.func21) (by kernel_rfl) rfl (m4 (Ev.t (v := .string (str key)) rfl rfl) (Ev.t (v := .string (str (Ct.nx s d (A.length / 16)))) rfl rfl) (Ev.t (v := .int .i64 ((d : Nat) : Int)) rfl rfl) (Ev.t (v := .string (str (l i))) rfl rfl)) (ctrXor_y key (l i) hok (Ct.nx s d (A.length / 16)) d (Ct.length_nx s d _ hs) h1 h16 (by (try simp only [List.length_take]); omega) w15) ?_
            rintro _ w17 ⟨rfl, hb18⟩
            refine ⟨_, rfl, ?_⟩
            replace r_b_c := r_b_c.step hb18
            replace hk := thenB hk hb18
            refine w_val (v := .tuple #[.string (str (Ct.x key (Ct.nx s d (A.length / 16)) d (l i))), .int .i64 0]) (y_mv (Ev.t (v := .tuple #[.string (str (Ct.x key (Ct.nx s d (A.length / 16)) d (l i))), .int .i64 0]) rfl rfl)) ?_
            refine w_val (v := .string (str (Ct.x key (Ct.nx s d (A.length / 16)) d (l i)))) (y_ext (v := .string (str (Ct.x key (Ct.nx s d (A.length / 16)) d (l i)))) (Ev.t (v := .tuple #[.string (str (Ct.x key (Ct.nx s d (A.length / 16)) d (l i))), .int .i64 0]) rfl rfl) rfl) ?_
            refine w_val (v := .int .i64 0) (y_ext (v := .int .i64 0) (Ev.t (v := .tuple #[.string (str (Ct.x key (Ct.nx s d (A.length / 16)) d (l i))), .int .i64 0]) rfl rfl) rfl) ?_
            refine w_val (v := .string (str (Ct.x key (Ct.nx s d (A.length / 16)) d (l i)))) (y_as (Ev.t (v := .string (str (Ct.x key (Ct.nx s d (A.length / 16)) d (l i)))) rfl rfl)) ?_
            refine w_val (v := .int .i64 0) (y_as (Ev.t (v := .int .i64 0) rfl rfl)) ?_
            refine wpList_nil ?_
            refine then_n ?_
            refine wp_seq ?_
            refine wp_seq ?_
            refine wp_region_lit ?_
            refine w_val (v := .int .i64 0) (y_mv (Ev.t (v := .int .i64 0) rfl rfl)) ?_
            refine w_val (v := .bool false) (y_bin (Ev.t (v := .int .i64 0) rfl rfl) (Ev.c (v := .int .i64 0)) b_neq) ?_
            refine w_val (v := .bool false) (y_mv (Ev.t (v := .bool false) rfl rfl)) ?_
            refine w_val_g (v := .int .i64 0) (want_yes (j := 2) rfl rfl (Ev.t (v := .bool false) rfl rfl) rfl) (y_mv (Ev.t (v := .int .i64 0) rfl rfl)) ?_
            refine w_val_g (v := .bool false) (want_yes (j := 2) rfl rfl (Ev.t (v := .bool false) rfl rfl) rfl) (y_bin (Ev.t (v := .int .i64 0) rfl rfl) (Ev.c (v := .int .i64 0)) b_neq) ?_
            refine w_val (v := .bool false) (y_pick_f (Ev.t (v := .bool false) rfl rfl) (Ev.t (v := .bool false) rfl rfl)) ?_
            refine wpList_nil ?_
            refine then_n ?_
            refine c_ff (Ev.t (v := .bool false) rfl rfl) ?_
            refine wp_skip ?_
            refine then_n ?_
            refine wp_seq ?_
            refine wp_region_lit ?_
            refine w_val (v := .string (str A)) (y_mv (Ev.t (v := .string (str A)) s1_7 rfl)) ?_
            refine w_val (v := .string (str (l i))) (y_mv (Ev.t (v := .string (str (l i))) rfl rfl)) ?_
            refine w_val (v := .string (str (A ++ (l i)))) (y_bin (Ev.t (v := .string (str A)) rfl rfl) (Ev.t (v := .string (str (l i))) rfl rfl) (b_cat (by (try simp only [List.length_append, List.length_take, Ct.length_x]); omega))) ?_
            refine w_val (v := .string (str (A ++ (l i)))) (y_as (Ev.t (v := .string (str (A ++ (l i)))) rfl rfl)) ?_
            refine wpList_nil ?_
            refine then_n ?_
            refine wp_region_lit ?_
            refine w_val (v := .string (str (Ct.x key s d A))) (y_mv (Ev.t (v := .string (str (Ct.x key s d A))) s1_8 rfl)) ?_
            refine w_val (v := .string (str (Ct.x key (Ct.nx s d (A.length / 16)) d (l i)))) (y_mv (Ev.t (v := .string (str (Ct.x key (Ct.nx s d (A.length / 16)) d (l i)))) rfl rfl)) ?_
            refine w_val (v := .string (str ((Ct.x key s d A) ++ (Ct.x key (Ct.nx s d (A.length / 16)) d (l i))))) (y_bin (Ev.t (v := .string (str (Ct.x key s d A))) rfl rfl) (Ev.t (v := .string (str (Ct.x key (Ct.nx s d (A.length / 16)) d (l i)))) rfl rfl) (b_cat (by (try simp only [List.length_append, List.length_take, Ct.length_x]); omega))) ?_
            refine w_val (v := .string (str ((Ct.x key s d A) ++ (Ct.x key (Ct.nx s d (A.length / 16)) d (l i))))) (y_as (Ev.t (v := .string (str ((Ct.x key s d A) ++ (Ct.x key (Ct.nx s d (A.length / 16)) d (l i))))) rfl rfl)) ?_
            refine wpList_nil ?_
            refine inb_n ?_
            refine then_n ?_
            refine wp_region_lit ?_
            refine w_val (v := .int .i64 (((i : Nat) : Int) + 1)) (y_bin (Ev.t (v := .int .i64 ((i : Nat) : Int)) s1_21 rfl) (Ev.c (v := .int .i64 1)) (b_add (by omega))) ?_
            refine w_val (v := .int .i64 (((i : Nat) : Int) + 1)) (y_mv (Ev.t (v := .int .i64 (((i : Nat) : Int) + 1)) rfl rfl)) ?_
            refine wpList_nil ?_
            exact then_n ⟨_, (by omega), i + 1, A ++ (l i), rfl, _, rfl, (by first | omega | with_reducible rfl | assumption | trivial | simp), (by intro hi_; have hA_ := i1_1 (by omega); (try simp only [List.length_append, List.length_take]); omega), (by (try simp only [List.length_append, List.length_take]); omega), s1_0, s1_1, s1_2, s1_4, rfl, (Eq.trans (b := .string (str ((Ct.x key s d A) ++ (Ct.x key (Ct.nx s d (A.length / 16)) d (l i))))) rfl (by exact congrArg (fun l => Value.string (str l)) (Ct.x_append _ _ _ _ _ hs (i1_1 (by omega))).symm)), s1_20, (Eq.trans (b := .int .i64 (((i : Nat) : Int) + 1)) rfl (by first | with_reducible rfl | (with_reducible congr 1 <;> omega) | (with_reducible congr 2 <;> omega) | (with_reducible congr 3 <;> omega) | rfl)), r_b_c, hk⟩
    · skip
      refine wp_exit ?_
      refine then_x ?_
      refine then_x ?_
      refine inb_x ?_
      refine then_n ?_
      refine wp_seq ?_
      refine wp_region_lit ?_
      refine w_val (v := .string (str key)) (y_mv (Ev.t (v := .string (str key)) s1_0 rfl)) ?_
      refine w_val (v := .pointer (some ⟨b_c, 0, none⟩)) (y_off (y_fa (Ev.t (v := .pointer (some ⟨b_c, 0, none⟩)) s1_4 rfl) (CtrPiecesWT.fa34_0 _ _)) (by first | rfl | omega)) ?_
      refine w_val (v := .string (str s)) (y_ld (Ev.t (v := .pointer (some ⟨b_c, 0, none⟩)) rfl rfl) CtrPiecesWT.sc9 (r_b_c.val (v := .string (str s)) (by omega) ((if_pos (by omega)).trans (by first | with_reducible rfl | (with_reducible congr 1 <;> omega) | (with_reducible congr 2 <;> omega) | (with_reducible congr 3 <;> omega) | rfl)))) ?_
      refine w_val (v := .pointer (some ⟨b_c, 1, none⟩)) (y_off (y_fa (Ev.t (v := .pointer (some ⟨b_c, 0, none⟩)) s1_4 rfl) (CtrPiecesWT.fa34_1 _ _)) (by first | rfl | omega)) ?_
      refine w_val (v := .int .i64 ((d : Nat) : Int)) (y_ld (Ev.t (v := .pointer (some ⟨b_c, 1, none⟩)) rfl rfl) CtrPiecesWT.sc3 (r_b_c.val (v := .int .i64 ((d : Nat) : Int)) (by omega) ((if_neg (by omega)).trans (by first | with_reducible rfl | (with_reducible congr 1 <;> omega) | (with_reducible congr 2 <;> omega) | (with_reducible congr 3 <;> omega) | rfl)))) ?_
      refine w_val (v := .string (str A)) (y_mv (Ev.t (v := .string (str A)) s1_7 rfl)) ?_
      refine w_call (Try.func21) (by kernel_rfl) rfl (m4 (Ev.t (v := .string (str key)) rfl rfl) (Ev.t (v := .string (str s)) rfl rfl) (Ev.t (v := .int .i64 ((d : Nat) : Int)) rfl rfl) (Ev.t (v := .string (str A)) rfl rfl)) (ctrXor_y key A hok s d hs h1 h16 (by omega) w6) ?_
      rintro _ w19 ⟨rfl, hb20⟩
      refine ⟨_, rfl, ?_⟩
      replace r_b_c := r_b_c.step hb20
      replace hk := thenB hk hb20
      refine w_val (v := .tuple #[.string (str (Ct.x key s d A)), .int .i64 0]) (y_mv (Ev.t (v := .tuple #[.string (str (Ct.x key s d A)), .int .i64 0]) rfl rfl)) ?_
      refine w_val (v := .string (str (Ct.x key s d A))) (y_ext (v := .string (str (Ct.x key s d A))) (Ev.t (v := .tuple #[.string (str (Ct.x key s d A)), .int .i64 0]) rfl rfl) rfl) ?_
      refine w_val (v := .int .i64 0) (y_ext (v := .int .i64 0) (Ev.t (v := .tuple #[.string (str (Ct.x key s d A)), .int .i64 0]) rfl rfl) rfl) ?_
      refine w_val (v := .string (str (Ct.x key s d A))) (y_as (Ev.t (v := .string (str (Ct.x key s d A))) rfl rfl)) ?_
      refine w_val (v := .int .i64 0) (y_as (Ev.t (v := .int .i64 0) rfl rfl)) ?_
      refine wpList_nil ?_
      refine then_n ?_
      refine wp_seq ?_
      refine wp_region_lit ?_
      refine w_val (v := .slice (some ⟨g, off, none⟩) n cap) (y_mv (Ev.t (v := .slice (some ⟨g, off, none⟩) n cap) s1_2 rfl)) ?_
      refine w_val (v := .int .i64 ((n : Nat) : Int)) (y_len_sl (Ev.t (v := .slice (some ⟨g, off, none⟩) n cap) rfl rfl) Try.underlying42) ?_
      refine w_val (v := .bool (decide (((n : Nat) : Int) = 0))) (y_bin (Ev.t (v := .int .i64 ((n : Nat) : Int)) rfl rfl) (Ev.c (v := .int .i64 0)) b_eql) ?_
      refine w_val (v := .bool (decide (((n : Nat) : Int) = 0))) (y_mv (Ev.t (v := .bool (decide (((n : Nat) : Int) = 0))) rfl rfl)) ?_
      by_cases hc21 : ((n : Nat) : Int) = 0
      · skip
        first | with_reducible refine w_skip ?_ ?_ | refine w_skip ?_ ?_
        · exact want_no (j := 3) rfl rfl (Ev.t (v := .bool true) (Eq.trans (b := .bool (decide (((n : Nat) : Int) = 0))) rfl (by rw [decide_eq_true hc21])) rfl) rfl
        first | with_reducible refine w_skip ?_ ?_ | refine w_skip ?_ ?_
        · exact want_no (j := 3) rfl rfl (Ev.t (v := .bool true) (Eq.trans (b := .bool (decide (((n : Nat) : Int) = 0))) rfl (by rw [decide_eq_true hc21])) rfl) rfl
        first | with_reducible refine w_skip ?_ ?_ | refine w_skip ?_ ?_
        · exact want_no (j := 3) rfl rfl (Ev.t (v := .bool true) (Eq.trans (b := .bool (decide (((n : Nat) : Int) = 0))) rfl (by rw [decide_eq_true hc21])) rfl) rfl
        first | with_reducible refine w_skip ?_ ?_ | refine w_skip ?_ ?_
        · exact want_un (j := 6) rfl rfl (Ev.t (v := undef) rfl rfl) rfl
        first | with_reducible refine w_skip ?_ ?_ | refine w_skip ?_ ?_
        · exact want_un (j := 6) rfl rfl (Ev.t (v := undef) rfl rfl) rfl
        first | with_reducible refine w_skip ?_ ?_ | refine w_skip ?_ ?_
        · exact want_un (j := 6) rfl rfl (Ev.t (v := undef) rfl rfl) rfl
        first | with_reducible refine w_skip ?_ ?_ | refine w_skip ?_ ?_
        · exact want_no (j := 3) rfl rfl (Ev.t (v := .bool true) (Eq.trans (b := .bool (decide (((n : Nat) : Int) = 0))) rfl (by rw [decide_eq_true hc21])) rfl) rfl
        refine w_val (v := .bool true) (y_pick_t (Ev.t (v := .bool true) (Eq.trans (b := .bool (decide (((n : Nat) : Int) = 0))) rfl (by rw [decide_eq_true hc21])) rfl) (Ev.c (v := .bool true))) ?_
        refine w_val (v := .bool true) (y_as (Ev.t (v := .bool true) rfl rfl)) ?_
        refine wpList_nil ?_
        refine then_n ?_
        refine wp_ret ?_
        refine fin_ret1 rfl (Ev.t (v := .bool true) rfl rfl) ?_
        exact ⟨rfl, hk⟩
      · skip
        refine w_val_g (v := .int .i64 0) (want_yes (j := 3) rfl rfl (Ev.t (v := .bool false) (Eq.trans (b := .bool (decide (((n : Nat) : Int) = 0))) rfl (by rw [decide_eq_false hc21])) rfl) rfl) (y_mv (Ev.t (v := .int .i64 0) rfl rfl)) ?_
        refine w_val_g (v := .bool true) (want_yes (j := 3) rfl rfl (Ev.t (v := .bool false) (Eq.trans (b := .bool (decide (((n : Nat) : Int) = 0))) rfl (by rw [decide_eq_false hc21])) rfl) rfl) (y_bin (Ev.t (v := .int .i64 0) rfl rfl) (Ev.c (v := .int .i64 0)) b_eql) ?_
        refine w_val_g (v := .bool true) (want_yes (j := 3) rfl rfl (Ev.t (v := .bool false) (Eq.trans (b := .bool (decide (((n : Nat) : Int) = 0))) rfl (by rw [decide_eq_false hc21])) rfl) rfl) (y_mv (Ev.t (v := .bool true) rfl rfl)) ?_
        refine w_val_g (v := .string (str (Ct.x key s d A))) (want_yes (j := 6) rfl rfl (Ev.t (v := .bool true) rfl rfl) rfl) (y_mv (Ev.t (v := .string (str (Ct.x key s d A))) rfl rfl)) ?_
        refine w_val_g (v := .string (str (Ct.x key s d A))) (want_yes (j := 6) rfl rfl (Ev.t (v := .bool true) rfl rfl) rfl) (y_mv (Ev.t (v := .string (str (Ct.x key s d A))) s1_8 rfl)) ?_
        refine w_val_g (v := .bool true) (want_yes (j := 6) rfl rfl (Ev.t (v := .bool true) rfl rfl) rfl) (y_bin (Ev.t (v := .string (str (Ct.x key s d A))) rfl rfl) (Ev.t (v := .string (str (Ct.x key s d A))) rfl rfl) b_eqs_same) ?_
        refine w_val_g (v := .bool true) (want_yes (j := 3) rfl rfl (Ev.t (v := .bool false) (Eq.trans (b := .bool (decide (((n : Nat) : Int) = 0))) rfl (by rw [decide_eq_false hc21])) rfl) rfl) (y_pick_t (Ev.t (v := .bool true) rfl rfl) (Ev.t (v := .bool true) rfl rfl)) ?_
        refine w_val (v := .bool true) (y_pick_f (Ev.t (v := .bool false) (Eq.trans (b := .bool (decide (((n : Nat) : Int) = 0))) rfl (by rw [decide_eq_false hc21])) rfl) (Ev.t (v := .bool true) rfl rfl)) ?_
        refine w_val (v := .bool true) (y_as (Ev.t (v := .bool true) rfl rfl)) ?_
        refine wpList_nil ?_
        refine then_n ?_
        refine wp_ret ?_
        refine fin_ret1 rfl (Ev.t (v := .bool true) rfl rfl) ?_
        exact ⟨rfl, hk⟩

set_option maxRecDepth 100000 in
set_option maxHeartbeats 1000000 in
theorem ctrPieces_ik (key : List (BitVec 8)) (hok : ¬ Aes.okKey key.length) (s : List (BitVec 8)) (d : Int) (hs : s.length ≠ 16) (g off n cap : Nat) (hn : n ≤ 140737488351232) (l : Nat → List (BitVec 8))  (w0 : World) (hgl : g < w0.heap.size) (hl : ∀ i, i < n → w0.cell? ⟨g, off + i, none⟩ = some (.string (str (l i)))) : Calls Try.prog 9 #[.string (str key), .agg (arr 2 (fun j => if j < 1 then .string (str s) else .int .i64 d)), .slice (some ⟨g, off, none⟩) n cap] w0 fun e w' => e = .returned (.bool true) ∧ Below w0.heap.size w0 w' := by
  refine enter (n := 106) Try.func9 rfl rfl rfl ?_
  have hk : Below w0.heap.size w0 w0 := Below.refl _ _
  refine wp_seq ?_
  refine wp_region_lit ?_
  refine w_box (m := 2) (F := fun j => if j < 1 then .string (str s) else .int .i64 d) (Ev.t (v := .agg (arr 2 (fun j => if j < 1 then .string (str s) else .int .i64 d))) rfl rfl) rfl ?_
  intro b_c w1 hbe_b_c r_b_c hb2
  have ge_b_c : w0.heap.size ≤ b_c := by have := hk.size; omega
  clear hbe_b_c
  replace hk := thenB hk hb2
  refine w_val (v := .bool false) (y_as (Ev.c (v := .bool false))) ?_
  refine wpList_nil ?_
  refine then_n ?_
  refine wp_seq ?_
  refine wp_seq ?_
  refine wp_region_lit ?_
  refine w_call (Try.func18) (by kernel_rfl) rfl m0 (ctrWakes_c  w1) ?_
  rintro _ w3 ⟨rfl, hb4⟩
  refine ⟨_, rfl, ?_⟩
  replace r_b_c := r_b_c.step hb4
  replace hk := thenB hk hb4
  refine w_val (v := .bool false) (y_not (Ev.t (v := .bool true) rfl rfl)) ?_
  refine wpList_nil ?_
  refine then_n ?_
  refine c_ff (Ev.t (v := .bool false) rfl rfl) ?_
  refine wp_skip ?_
  refine then_n ?_
  refine wp_seq ?_
  refine wp_region_lit ?_
  refine w_val (v := .string (str ([] : List (BitVec 8)))) (y_as (Ev.c (v := .string (str ([] : List (BitVec 8)))))) ?_
  refine w_val (v := .string (str ([] : List (BitVec 8)))) (y_as (Ev.c (v := .string (str ([] : List (BitVec 8)))))) ?_
  refine wpList_nil ?_
  refine then_n ?_
  refine wp_seq ?_
  refine wp_seq ?_
  refine wp_region_lit ?_
  refine w_val (v := .slice (some ⟨g, off, none⟩) n cap) (y_mv (Ev.t (v := .slice (some ⟨g, off, none⟩) n cap) rfl rfl)) ?_
  refine w_val (v := .int .i64 ((n : Nat) : Int)) (y_len_sl (Ev.t (v := .slice (some ⟨g, off, none⟩) n cap) rfl rfl) Try.underlying42) ?_
  refine w_val (v := .int .i64 0) (y_mv (Ev.c (v := .int .i64 0))) ?_
  refine wpList_nil ?_
  refine then_n ?_
  refine wp_block ?_
  refine c_loop (fun dN aN wl => dN = 0 ∧ ∃ f5, aN = fr 106 f5 ∧ f5 0 = .string (str key) ∧ f5 1 = .agg (arr 2 (fun j => if j < 1 then .string (str s) else .int .i64 d)) ∧ f5 2 = .slice (some ⟨g, off, none⟩) n cap ∧ f5 4 = .pointer (some ⟨b_c, 0, none⟩) ∧ f5 7 = .string (str ([] : List (BitVec 8))) ∧ f5 8 = .string (str ([] : List (BitVec 8))) ∧ f5 20 = .int .i64 ((n : Nat) : Int) ∧ f5 21 = .int .i64 0 ∧ Row wl b_c 34 2 (fun j => if j < 1 then .string (str s) else .int .i64 d) ∧ Below w0.heap.size w0 wl) 0 ?_ ?_
  · exact ⟨rfl, _, rfl, rfl, rfl, rfl, rfl, rfl, rfl, rfl, rfl, r_b_c, hk⟩
  · skip
    clear r_b_c hk
    rintro _ _ w6 ⟨rfl, f5, rfl, s1_0, s1_1, s1_2, s1_4, s1_7, s1_8, s1_20, s1_21, r_b_c, hk⟩
    refine wp_seq ?_
    refine wp_region_lit ?_
    refine w_val (v := .bool (decide (0 < ((n : Nat) : Int)))) (y_bin (Ev.t (v := .int .i64 0) s1_21 rfl) (Ev.t (v := .int .i64 ((n : Nat) : Int)) s1_20 rfl) b_lss) ?_
    refine wpList_nil ?_
    refine then_n ?_
    refine wp_seq ?_
    refine c_if (p := 0 < ((n : Nat) : Int)) (Ev.t (v := .bool (decide (0 < ((n : Nat) : Int)))) rfl rfl) (fun hc7 => ?_) (fun hc7 => ?_)
    · skip
      refine wp_skip ?_
      refine then_n ?_
      refine wp_seq ?_
      refine wp_block ?_
      refine wp_seq ?_
      refine wp_region_lit ?_
      refine w_val (v := .int .i64 0) (y_mv (Ev.t (v := .int .i64 0) s1_21 rfl)) ?_
      refine w_val (v := .int .i64 0) (y_as (Ev.t (v := .int .i64 0) rfl rfl)) ?_
      refine wpList_nil ?_
      refine then_n ?_
      refine wp_seq ?_
      refine wp_seq ?_
      refine wp_region_lit ?_
      refine w_val (v := .string (str ([] : List (BitVec 8)))) (y_mv (Ev.t (v := .string (str ([] : List (BitVec 8)))) s1_7 rfl)) ?_
      refine w_val (v := .int .i64 0) (y_len (Ev.t (v := .string (str ([] : List (BitVec 8)))) rfl rfl) Try.underlying9) ?_
      refine w_val (v := .bool false) (y_bin (Ev.t (v := .int .i64 0) rfl rfl) (Ev.c (v := .int .i64 1000)) b_gtr) ?_
      refine w_val (v := .bool false) (y_mv (Ev.t (v := .bool false) rfl rfl)) ?_
      refine w_val_g (v := .slice (some ⟨g, off, none⟩) n cap) (want_yes (j := 3) rfl rfl (Ev.t (v := .bool false) rfl rfl) rfl) (y_mv (Ev.t (v := .slice (some ⟨g, off, none⟩) n cap) s1_2 rfl)) ?_
      refine w_val_g (v := .int .i64 0) (want_yes (j := 3) rfl rfl (Ev.t (v := .bool false) rfl rfl) rfl) (y_mv (Ev.t (v := .int .i64 0) rfl rfl)) ?_
      refine w_val_g (v := .pointer (some ⟨g, off, none⟩)) (want_yes (j := 3) rfl rfl (Ev.t (v := .bool false) rfl rfl) rfl) (y_off (y_is1 (i := 0) (Ev.t (v := .slice (some ⟨g, off, none⟩) n cap) rfl rfl) (Ev.t (v := .int .i64 0) rfl rfl) Try.underlying42 CtrPiecesWT.sz9 (by omega) (by omega)) (by first | rfl | omega)) ?_
      refine w_val_g (v := .string (str (l 0))) (want_yes (j := 3) rfl rfl (Ev.t (v := .bool false) rfl rfl) rfl) (y_ld (Ev.t (v := .pointer (some ⟨g, off, none⟩)) rfl rfl) CtrPiecesWT.sc9 ((hk.cell (p := ⟨g, off, none⟩) hgl).trans (hl 0 (by omega)))) ?_
      refine w_val_g (v := .int .i64 (((l 0).length : Nat) : Int)) (want_yes (j := 3) rfl rfl (Ev.t (v := .bool false) rfl rfl) rfl) (y_len (Ev.t (v := .string (str (l 0))) rfl rfl) Try.underlying9) ?_
      refine w_val_g (v := .bool (decide (1000 < (((l 0).length : Nat) : Int)))) (want_yes (j := 3) rfl rfl (Ev.t (v := .bool false) rfl rfl) rfl) (y_bin (Ev.t (v := .int .i64 (((l 0).length : Nat) : Int)) rfl rfl) (Ev.c (v := .int .i64 1000)) b_gtr) ?_
      refine w_val (v := .bool (decide (1000 < (((l 0).length : Nat) : Int)))) (y_pick_f (Ev.t (v := .bool false) rfl rfl) (Ev.t (v := .bool (decide (1000 < (((l 0).length : Nat) : Int)))) rfl rfl)) ?_
      refine wpList_nil ?_
      refine then_n ?_
      refine c_if (p := 1000 < (((l 0).length : Nat) : Int)) (Ev.t (v := .bool (decide (1000 < (((l 0).length : Nat) : Int)))) rfl rfl) (fun hc8 => ?_) (fun hc8 => ?_)
      · skip
        refine wp_seq ?_
        refine wp_region_lit ?_
        refine w_val (v := .bool true) (y_as (Ev.c (v := .bool true))) ?_
        refine wpList_nil ?_
        refine then_n ?_
        refine wp_ret ?_
        refine then_r ?_
        refine inb_r ?_
        refine then_r ?_
        refine then_r ?_
        refine inb_r ?_
        refine then_r ?_
        refine fin_ret1 rfl (Ev.t (v := .bool true) rfl rfl) ?_
        exact ⟨rfl, hk⟩
      · skip
        refine wp_skip ?_
        refine then_n ?_
        refine wp_seq ?_
        refine wp_region_lit ?_
        refine w_val (v := .slice (some ⟨g, off, none⟩) n cap) (y_mv (Ev.t (v := .slice (some ⟨g, off, none⟩) n cap) s1_2 rfl)) ?_
        refine w_val (v := .int .i64 0) (y_mv (Ev.t (v := .int .i64 0) rfl rfl)) ?_
        refine w_val (v := .pointer (some ⟨g, off, none⟩)) (y_off (y_is1 (i := 0) (Ev.t (v := .slice (some ⟨g, off, none⟩) n cap) rfl rfl) (Ev.t (v := .int .i64 0) rfl rfl) Try.underlying42 CtrPiecesWT.sz9 (by omega) (by omega)) (by first | rfl | omega)) ?_
        refine w_val (v := .string (str (l 0))) (y_ld (Ev.t (v := .pointer (some ⟨g, off, none⟩)) rfl rfl) CtrPiecesWT.sc9 ((hk.cell (p := ⟨g, off, none⟩) hgl).trans (hl 0 (by omega)))) ?_
        refine w_val (v := .string (str (l 0))) (y_as (Ev.t (v := .string (str (l 0))) rfl rfl)) ?_
        refine wpList_nil ?_
        refine then_n ?_
        refine wp_seq ?_
        refine wp_seq ?_
        refine wp_region_lit ?_
        refine w_val (v := .int .i64 0) (y_mv (Ev.t (v := .int .i64 0) rfl rfl)) ?_
        refine w_val (v := .slice (some ⟨g, off, none⟩) n cap) (y_mv (Ev.t (v := .slice (some ⟨g, off, none⟩) n cap) s1_2 rfl)) ?_
        refine w_val (v := .int .i64 ((n : Nat) : Int)) (y_len_sl (Ev.t (v := .slice (some ⟨g, off, none⟩) n cap) rfl rfl) Try.underlying42) ?_
        refine w_val (v := .int .i64 (((n : Nat) : Int) - 1)) (y_bin (Ev.t (v := .int .i64 ((n : Nat) : Int)) rfl rfl) (Ev.c (v := .int .i64 1)) (b_sub (by omega))) ?_
        refine w_val (v := .bool (decide (0 < (((n : Nat) : Int) - 1)))) (y_bin (Ev.t (v := .int .i64 0) rfl rfl) (Ev.t (v := .int .i64 (((n : Nat) : Int) - 1)) rfl rfl) b_lss) ?_
        refine wpList_nil ?_
        refine then_n ?_
        refine c_if (p := 0 < (((n : Nat) : Int) - 1)) (Ev.t (v := .bool (decide (0 < (((n : Nat) : Int) - 1)))) rfl rfl) (fun hc9 => ?_) (fun hc9 => ?_)
        · skip
          refine wp_region_lit ?_
          refine w_val (v := .string (str (l 0))) (y_mv (Ev.t (v := .string (str (l 0))) rfl rfl)) ?_
          refine w_val (v := .string (str (l 0))) (y_mv (Ev.t (v := .string (str (l 0))) rfl rfl)) ?_
          refine w_val (v := .int .i64 (((l 0).length : Nat) : Int)) (y_len (Ev.t (v := .string (str (l 0))) rfl rfl) Try.underlying9) ?_
          refine w_val (v := .int .i64 ((((l 0).length : Nat) : Int) / 16)) (y_bin (Ev.t (v := .int .i64 (((l 0).length : Nat) : Int)) rfl rfl) (Ev.c (v := .int .i64 16)) (b_quo (by omega))) ?_
          refine w_val (v := .int .i64 (((((l 0).length : Nat) : Int) / 16) * 16)) (y_bin (Ev.t (v := .int .i64 ((((l 0).length : Nat) : Int) / 16)) rfl rfl) (Ev.c (v := .int .i64 16)) (b_mul (by omega))) ?_
          refine w_val (v := .string (str ((l 0).take ((((l 0).length) / 16) * 16)))) (y_sls (Ev.t (v := .string (str (l 0))) rfl rfl) evo.no (evo.s (Ev.t (v := .int .i64 (((((l 0).length : Nat) : Int) / 16) * 16)) rfl rfl)) Try.underlying9 (bnd_h (h := ((((l 0).length) / 16) * 16)) (by omega) (by omega))) ?_
          refine w_val (v := .string (str ((l 0).take ((((l 0).length) / 16) * 16)))) (y_as (Ev.t (v := .string (str ((l 0).take ((((l 0).length) / 16) * 16)))) rfl rfl)) ?_
          refine wpList_nil ?_
          refine then_n ?_
          refine wp_seq ?_
          refine wp_region_lit ?_
          refine w_val (v := .pointer (some ⟨b_c, 0, none⟩)) (y_off (y_fa (Ev.t (v := .pointer (some ⟨b_c, 0, none⟩)) s1_4 rfl) (CtrPiecesWT.fa34_0 _ _)) (by first | rfl | omega)) ?_
          refine w_val (v := .string (str s)) (y_ld (Ev.t (v := .pointer (some ⟨b_c, 0, none⟩)) rfl rfl) CtrPiecesWT.sc9 (r_b_c.val (v := .string (str s)) (by omega) ((if_pos (by omega)).trans (by first | with_reducible rfl | (with_reducible congr 1 <;> omega) | (with_reducible congr 2 <;> omega) | (with_reducible congr 3 <;> omega) | rfl)))) ?_
          refine w_val (v := .pointer (some ⟨b_c, 1, none⟩)) (y_off (y_fa (Ev.t (v := .pointer (some ⟨b_c, 0, none⟩)) s1_4 rfl) (CtrPiecesWT.fa34_1 _ _)) (by first | rfl | omega)) ?_
          refine w_val (v := .int .i64 d) (y_ld (Ev.t (v := .pointer (some ⟨b_c, 1, none⟩)) rfl rfl) CtrPiecesWT.sc3 (r_b_c.val (v := .int .i64 d) (by omega) ((if_neg (by omega)).trans (by first | with_reducible rfl | (with_reducible congr 1 <;> omega) | (with_reducible congr 2 <;> omega) | (with_reducible congr 3 <;> omega) | rfl)))) ?_
          refine w_val (v := .string (str ([] : List (BitVec 8)))) (y_mv (Ev.t (v := .string (str ([] : List (BitVec 8)))) s1_7 rfl)) ?_
          refine w_val (v := .int .i64 0) (y_len (Ev.t (v := .string (str ([] : List (BitVec 8)))) rfl rfl) Try.underlying9) ?_
          refine w_val (v := .int .i64 (0 / 16)) (y_bin (Ev.t (v := .int .i64 0) rfl rfl) (Ev.c (v := .int .i64 16)) (b_quo (by omega))) ?_
          refine w_val (v := U64 (BitVec.ofNat 64 (0 / 16))) (y_nat_u64 (p := (0 / 16)) (Ev.t (v := .int .i64 (0 / 16)) rfl rfl) (by omega) CtrPiecesWT.so3 Try.underlying35) ?_
          refine w_call (Try.func19) (by kernel_rfl) rfl (m3 (Ev.t (v := .string (str s)) rfl rfl) (Ev.t (v := .int .i64 d) rfl rfl) (Ev.t (v := U64 (BitVec.ofNat 64 (0 / 16))) rfl rfl)) (next_i s d hs _ w6) ?_
          rintro _ w10 ⟨rfl, hb11⟩
          refine ⟨_, rfl, ?_⟩
          replace r_b_c := r_b_c.step hb11
          replace hk := thenB hk hb11
          refine w_val (v := .tuple #[.string (str ([] : List (BitVec 8))), .int .i64 4]) (y_mv (Ev.t (v := .tuple #[.string (str ([] : List (BitVec 8))), .int .i64 4]) rfl rfl)) ?_
          refine w_val (v := .string (str ([] : List (BitVec 8)))) (y_ext (v := .string (str ([] : List (BitVec 8)))) (Ev.t (v := .tuple #[.string (str ([] : List (BitVec 8))), .int .i64 4]) rfl rfl) rfl) ?_
          refine w_val (v := .int .i64 4) (y_ext (v := .int .i64 4) (Ev.t (v := .tuple #[.string (str ([] : List (BitVec 8))), .int .i64 4]) rfl rfl) rfl) ?_
          refine w_val (v := .string (str ([] : List (BitVec 8)))) (y_as (Ev.t (v := .string (str ([] : List (BitVec 8)))) rfl rfl)) ?_
          refine w_val (v := .int .i64 4) (y_as (Ev.t (v := .int .i64 4) rfl rfl)) ?_
          refine wpList_nil ?_
          refine then_n ?_
          refine wp_seq ?_
          refine wp_region_lit ?_
          refine w_val (v := .string (str key)) (y_mv (Ev.t (v := .string (str key)) s1_0 rfl)) ?_
          refine w_val (v := .string (str ([] : List (BitVec 8)))) (y_mv (Ev.t (v := .string (str ([] : List (BitVec 8)))) rfl rfl)) ?_
          refine w_val (v := .pointer (some ⟨b_c, 1, none⟩)) (y_off (y_fa (Ev.t (v := .pointer (some ⟨b_c, 0, none⟩)) s1_4 rfl) (CtrPiecesWT.fa34_1 _ _)) (by first | rfl | omega)) ?_
          refine w_val (v := .int .i64 d) (y_ld (Ev.t (v := .pointer (some ⟨b_c, 1, none⟩)) rfl rfl) CtrPiecesWT.sc3 (r_b_c.val (v := .int .i64 d) (by omega) ((if_neg (by omega)).trans (by first | with_reducible rfl | (with_reducible congr 1 <;> omega) | (with_reducible congr 2 <;> omega) | (with_reducible congr 3 <;> omega) | rfl)))) ?_
          refine w_val (v := .string (str ((l 0).take ((((l 0).length) / 16) * 16)))) (y_mv (Ev.t (v := .string (str ((l 0).take ((((l 0).length) / 16) * 16)))) rfl rfl)) ?_
          refine w_call (Try.func21) (by kernel_rfl) rfl (m4 (Ev.t (v := .string (str key)) rfl rfl) (Ev.t (v := .string (str ([] : List (BitVec 8)))) rfl rfl) (Ev.t (v := .int .i64 d) rfl rfl) (Ev.t (v := .string (str ((l 0).take ((((l 0).length) / 16) * 16)))) rfl rfl)) (ctrXor_k key hok ([] : List (BitVec 8)) d ((l 0).take ((((l 0).length) / 16) * 16)) w10) ?_
          rintro _ w12 ⟨rfl, hb13⟩
          refine ⟨_, rfl, ?_⟩
          replace r_b_c := r_b_c.step hb13
          replace hk := thenB hk hb13
          refine w_val (v := .tuple #[.string (str ([] : List (BitVec 8))), .int .i64 3]) (y_mv (Ev.t (v := .tuple #[.string (str ([] : List (BitVec 8))), .int .i64 3]) rfl rfl)) ?_
          refine w_val (v := .string (str ([] : List (BitVec 8)))) (y_ext (v := .string (str ([] : List (BitVec 8)))) (Ev.t (v := .tuple #[.string (str ([] : List (BitVec 8))), .int .i64 3]) rfl rfl) rfl) ?_
          refine w_val (v := .int .i64 3) (y_ext (v := .int .i64 3) (Ev.t (v := .tuple #[.string (str ([] : List (BitVec 8))), .int .i64 3]) rfl rfl) rfl) ?_
          refine w_val (v := .string (str ([] : List (BitVec 8)))) (y_as (Ev.t (v := .string (str ([] : List (BitVec 8)))) rfl rfl)) ?_
          refine w_val (v := .int .i64 3) (y_as (Ev.t (v := .int .i64 3) rfl rfl)) ?_
          refine wpList_nil ?_
          refine then_n ?_
          refine wp_seq ?_
          refine wp_seq ?_
          refine wp_region_lit ?_
          refine w_val (v := .int .i64 4) (y_mv (Ev.t (v := .int .i64 4) rfl rfl)) ?_
          refine w_val (v := .bool true) (y_bin (Ev.t (v := .int .i64 4) rfl rfl) (Ev.c (v := .int .i64 0)) b_neq) ?_
          refine w_val (v := .bool true) (y_mv (Ev.t (v := .bool true) rfl rfl)) ?_
          first | with_reducible refine w_skip ?_ ?_ | refine w_skip ?_ ?_
          · exact want_no (j := 2) rfl rfl (Ev.t (v := .bool true) rfl rfl) rfl
          first | with_reducible refine w_skip ?_ ?_ | refine w_skip ?_ ?_
          · exact want_no (j := 2) rfl rfl (Ev.t (v := .bool true) rfl rfl) rfl
          refine w_val (v := .bool true) (y_pick_t (Ev.t (v := .bool true) rfl rfl) (Ev.c (v := .bool true))) ?_
          refine wpList_nil ?_
          refine then_n ?_
          refine c_tt (Ev.t (v := .bool true) rfl rfl) ?_
          refine wp_seq ?_
          refine wp_region_lit ?_
          refine w_val (v := .bool true) (y_as (Ev.c (v := .bool true))) ?_
          refine wpList_nil ?_
          refine then_n ?_
          refine wp_ret ?_
          refine then_r ?_
          refine inb_r ?_
          refine then_r ?_
          refine then_r ?_
          refine inb_r ?_
          refine then_r ?_
          refine fin_ret1 rfl (Ev.t (v := .bool true) rfl rfl) ?_
          exact ⟨rfl, hk⟩
        · skip
          refine wp_skip ?_
          refine then_n ?_
          refine wp_seq ?_
          refine wp_region_lit ?_
          refine w_val (v := .pointer (some ⟨b_c, 0, none⟩)) (y_off (y_fa (Ev.t (v := .pointer (some ⟨b_c, 0, none⟩)) s1_4 rfl) (CtrPiecesWT.fa34_0 _ _)) (by first | rfl | omega)) ?_
          refine w_val (v := .string (str s)) (y_ld (Ev.t (v := .pointer (some ⟨b_c, 0, none⟩)) rfl rfl) CtrPiecesWT.sc9 (r_b_c.val (v := .string (str s)) (by omega) ((if_pos (by omega)).trans (by first | with_reducible rfl | (with_reducible congr 1 <;> omega) | (with_reducible congr 2 <;> omega) | (with_reducible congr 3 <;> omega) | rfl)))) ?_
          refine w_val (v := .pointer (some ⟨b_c, 1, none⟩)) (y_off (y_fa (Ev.t (v := .pointer (some ⟨b_c, 0, none⟩)) s1_4 rfl) (CtrPiecesWT.fa34_1 _ _)) (by first | rfl | omega)) ?_
          refine w_val (v := .int .i64 d) (y_ld (Ev.t (v := .pointer (some ⟨b_c, 1, none⟩)) rfl rfl) CtrPiecesWT.sc3 (r_b_c.val (v := .int .i64 d) (by omega) ((if_neg (by omega)).trans (by first | with_reducible rfl | (with_reducible congr 1 <;> omega) | (with_reducible congr 2 <;> omega) | (with_reducible congr 3 <;> omega) | rfl)))) ?_
          refine w_val (v := .string (str ([] : List (BitVec 8)))) (y_mv (Ev.t (v := .string (str ([] : List (BitVec 8)))) s1_7 rfl)) ?_
          refine w_val (v := .int .i64 0) (y_len (Ev.t (v := .string (str ([] : List (BitVec 8)))) rfl rfl) Try.underlying9) ?_
          refine w_val (v := .int .i64 (0 / 16)) (y_bin (Ev.t (v := .int .i64 0) rfl rfl) (Ev.c (v := .int .i64 16)) (b_quo (by omega))) ?_
          refine w_val (v := U64 (BitVec.ofNat 64 (0 / 16))) (y_nat_u64 (p := (0 / 16)) (Ev.t (v := .int .i64 (0 / 16)) rfl rfl) (by omega) CtrPiecesWT.so3 Try.underlying35) ?_
          refine w_call (Try.func19) (by kernel_rfl) rfl (m3 (Ev.t (v := .string (str s)) rfl rfl) (Ev.t (v := .int .i64 d) rfl rfl) (Ev.t (v := U64 (BitVec.ofNat 64 (0 / 16))) rfl rfl)) (next_i s d hs _ w6) ?_
          rintro _ w14 ⟨rfl, hb15⟩
          refine ⟨_, rfl, ?_⟩
          replace r_b_c := r_b_c.step hb15
          replace hk := thenB hk hb15
          refine w_val (v := .tuple #[.string (str ([] : List (BitVec 8))), .int .i64 4]) (y_mv (Ev.t (v := .tuple #[.string (str ([] : List (BitVec 8))), .int .i64 4]) rfl rfl)) ?_
          refine w_val (v := .string (str ([] : List (BitVec 8)))) (y_ext (v := .string (str ([] : List (BitVec 8)))) (Ev.t (v := .tuple #[.string (str ([] : List (BitVec 8))), .int .i64 4]) rfl rfl) rfl) ?_
          refine w_val (v := .int .i64 4) (y_ext (v := .int .i64 4) (Ev.t (v := .tuple #[.string (str ([] : List (BitVec 8))), .int .i64 4]) rfl rfl) rfl) ?_
          refine w_val (v := .string (str ([] : List (BitVec 8)))) (y_as (Ev.t (v := .string (str ([] : List (BitVec 8)))) rfl rfl)) ?_
          refine w_val (v := .int .i64 4) (y_as (Ev.t (v := .int .i64 4) rfl rfl)) ?_
          refine wpList_nil ?_
          refine then_n ?_
          refine wp_seq ?_
          refine wp_region_lit ?_
          refine w_val (v := .string (str key)) (y_mv (Ev.t (v := .string (str key)) s1_0 rfl)) ?_
          refine w_val (v := .string (str ([] : List (BitVec 8)))) (y_mv (Ev.t (v := .string (str ([] : List (BitVec 8)))) rfl rfl)) ?_
          refine w_val (v := .pointer (some ⟨b_c, 1, none⟩)) (y_off (y_fa (Ev.t (v := .pointer (some ⟨b_c, 0, none⟩)) s1_4 rfl) (CtrPiecesWT.fa34_1 _ _)) (by first | rfl | omega)) ?_
          refine w_val (v := .int .i64 d) (y_ld (Ev.t (v := .pointer (some ⟨b_c, 1, none⟩)) rfl rfl) CtrPiecesWT.sc3 (r_b_c.val (v := .int .i64 d) (by omega) ((if_neg (by omega)).trans (by first | with_reducible rfl | (with_reducible congr 1 <;> omega) | (with_reducible congr 2 <;> omega) | (with_reducible congr 3 <;> omega) | rfl)))) ?_
          refine w_val (v := .string (str (l 0))) (y_mv (Ev.t (v := .string (str (l 0))) rfl rfl)) ?_
          refine w_call (Try.func21) (by kernel_rfl) rfl (m4 (Ev.t (v := .string (str key)) rfl rfl) (Ev.t (v := .string (str ([] : List (BitVec 8)))) rfl rfl) (Ev.t (v := .int .i64 d) rfl rfl) (Ev.t (v := .string (str (l 0))) rfl rfl)) (ctrXor_k key hok ([] : List (BitVec 8)) d (l 0) w14) ?_
          rintro _ w16 ⟨rfl, hb17⟩
          refine ⟨_, rfl, ?_⟩
          replace r_b_c := r_b_c.step hb17
          replace hk := thenB hk hb17
          refine w_val (v := .tuple #[.string (str ([] : List (BitVec 8))), .int .i64 3]) (y_mv (Ev.t (v := .tuple #[.string (str ([] : List (BitVec 8))), .int .i64 3]) rfl rfl)) ?_
          refine w_val (v := .string (str ([] : List (BitVec 8)))) (y_ext (v := .string (str ([] : List (BitVec 8)))) (Ev.t (v := .tuple #[.string (str ([] : List (BitVec 8))), .int .i64 3]) rfl rfl) rfl) ?_
          refine w_val (v := .int .i64 3) (y_ext (v := .int .i64 3) (Ev.t (v := .tuple #[.string (str ([] : List (BitVec 8))), .int .i64 3]) rfl rfl) rfl) ?_
          refine w_val (v := .string (str ([] : List (BitVec 8)))) (y_as (Ev.t (v := .string (str ([] : List (BitVec 8)))) rfl rfl)) ?_
          refine w_val (v := .int .i64 3) (y_as (Ev.t (v := .int .i64 3) rfl rfl)) ?_
          refine wpList_nil ?_
          refine then_n ?_
          refine wp_seq ?_
          refine wp_seq ?_
          refine wp_region_lit ?_
          refine w_val (v := .int .i64 4) (y_mv (Ev.t (v := .int .i64 4) rfl rfl)) ?_
          refine w_val (v := .bool true) (y_bin (Ev.t (v := .int .i64 4) rfl rfl) (Ev.c (v := .int .i64 0)) b_neq) ?_
          refine w_val (v := .bool true) (y_mv (Ev.t (v := .bool true) rfl rfl)) ?_
          first | with_reducible refine w_skip ?_ ?_ | refine w_skip ?_ ?_
          · exact want_no (j := 2) rfl rfl (Ev.t (v := .bool true) rfl rfl) rfl
          first | with_reducible refine w_skip ?_ ?_ | refine w_skip ?_ ?_
          · exact want_no (j := 2) rfl rfl (Ev.t (v := .bool true) rfl rfl) rfl
          refine w_val (v := .bool true) (y_pick_t (Ev.t (v := .bool true) rfl rfl) (Ev.c (v := .bool true))) ?_
          refine wpList_nil ?_
          refine then_n ?_
          refine c_tt (Ev.t (v := .bool true) rfl rfl) ?_
          refine wp_seq ?_
          refine wp_region_lit ?_
          refine w_val (v := .bool true) (y_as (Ev.c (v := .bool true))) ?_
          refine wpList_nil ?_
          refine then_n ?_
          refine wp_ret ?_
          refine then_r ?_
          refine inb_r ?_
          refine then_r ?_
          refine then_r ?_
          refine inb_r ?_
          refine then_r ?_
          refine fin_ret1 rfl (Ev.t (v := .bool true) rfl rfl) ?_
          exact ⟨rfl, hk⟩
    · skip
      refine wp_exit ?_
      refine then_x ?_
      refine then_x ?_
      refine inb_x ?_
      refine then_n ?_
      refine wp_seq ?_
      refine wp_region_lit ?_
      refine w_val (v := .string (str key)) (y_mv (Ev.t (v := .string (str key)) s1_0 rfl)) ?_
      refine w_val (v := .pointer (some ⟨b_c, 0, none⟩)) (y_off (y_fa (Ev.t (v := .pointer (some ⟨b_c, 0, none⟩)) s1_4 rfl) (CtrPiecesWT.fa34_0 _ _)) (by first | rfl | omega)) ?_
      refine w_val (v := .string (str s)) (y_ld (Ev.t (v := .pointer (some ⟨b_c, 0, none⟩)) rfl rfl) CtrPiecesWT.sc9 (r_b_c.val (v := .string (str s)) (by omega) ((if_pos (by omega)).trans (by first | with_reducible rfl | (with_reducible congr 1 <;> omega) | (with_reducible congr 2 <;> omega) | (with_reducible congr 3 <;> omega) | rfl)))) ?_
      refine w_val (v := .pointer (some ⟨b_c, 1, none⟩)) (y_off (y_fa (Ev.t (v := .pointer (some ⟨b_c, 0, none⟩)) s1_4 rfl) (CtrPiecesWT.fa34_1 _ _)) (by first | rfl | omega)) ?_
      refine w_val (v := .int .i64 d) (y_ld (Ev.t (v := .pointer (some ⟨b_c, 1, none⟩)) rfl rfl) CtrPiecesWT.sc3 (r_b_c.val (v := .int .i64 d) (by omega) ((if_neg (by omega)).trans (by first | with_reducible rfl | (with_reducible congr 1 <;> omega) | (with_reducible congr 2 <;> omega) | (with_reducible congr 3 <;> omega) | rfl)))) ?_
      refine w_val (v := .string (str ([] : List (BitVec 8)))) (y_mv (Ev.t (v := .string (str ([] : List (BitVec 8)))) s1_7 rfl)) ?_
      refine w_call (Try.func21) (by kernel_rfl) rfl (m4 (Ev.t (v := .string (str key)) rfl rfl) (Ev.t (v := .string (str s)) rfl rfl) (Ev.t (v := .int .i64 d) rfl rfl) (Ev.t (v := .string (str ([] : List (BitVec 8)))) rfl rfl)) (ctrXor_k key hok s d ([] : List (BitVec 8)) w6) ?_
      rintro _ w18 ⟨rfl, hb19⟩
      refine ⟨_, rfl, ?_⟩
      replace r_b_c := r_b_c.step hb19
      replace hk := thenB hk hb19
      refine w_val (v := .tuple #[.string (str ([] : List (BitVec 8))), .int .i64 3]) (y_mv (Ev.t (v := .tuple #[.string (str ([] : List (BitVec 8))), .int .i64 3]) rfl rfl)) ?_
      refine w_val (v := .string (str ([] : List (BitVec 8)))) (y_ext (v := .string (str ([] : List (BitVec 8)))) (Ev.t (v := .tuple #[.string (str ([] : List (BitVec 8))), .int .i64 3]) rfl rfl) rfl) ?_
      refine w_val (v := .int .i64 3) (y_ext (v := .int .i64 3) (Ev.t (v := .tuple #[.string (str ([] : List (BitVec 8))), .int .i64 3]) rfl rfl) rfl) ?_
      refine w_val (v := .string (str ([] : List (BitVec 8)))) (y_as (Ev.t (v := .string (str ([] : List (BitVec 8)))) rfl rfl)) ?_
      refine w_val (v := .int .i64 3) (y_as (Ev.t (v := .int .i64 3) rfl rfl)) ?_
      refine wpList_nil ?_
      refine then_n ?_
      refine wp_seq ?_
      refine wp_region_lit ?_
      refine w_val (v := .slice (some ⟨g, off, none⟩) n cap) (y_mv (Ev.t (v := .slice (some ⟨g, off, none⟩) n cap) s1_2 rfl)) ?_
      refine w_val (v := .int .i64 ((n : Nat) : Int)) (y_len_sl (Ev.t (v := .slice (some ⟨g, off, none⟩) n cap) rfl rfl) Try.underlying42) ?_
      refine w_val (v := .bool (decide (((n : Nat) : Int) = 0))) (y_bin (Ev.t (v := .int .i64 ((n : Nat) : Int)) rfl rfl) (Ev.c (v := .int .i64 0)) b_eql) ?_
      refine w_val (v := .bool (decide (((n : Nat) : Int) = 0))) (y_mv (Ev.t (v := .bool (decide (((n : Nat) : Int) = 0))) rfl rfl)) ?_
      have hc20 : ((n : Nat) : Int) = 0 := by omega
      first | with_reducible refine w_skip ?_ ?_ | refine w_skip ?_ ?_
      · exact want_no (j := 3) rfl rfl (Ev.t (v := .bool true) (Eq.trans (b := .bool (decide (((n : Nat) : Int) = 0))) rfl (by rw [decide_eq_true hc20])) rfl) rfl
      first | with_reducible refine w_skip ?_ ?_ | refine w_skip ?_ ?_
      · exact want_no (j := 3) rfl rfl (Ev.t (v := .bool true) (Eq.trans (b := .bool (decide (((n : Nat) : Int) = 0))) rfl (by rw [decide_eq_true hc20])) rfl) rfl
      first | with_reducible refine w_skip ?_ ?_ | refine w_skip ?_ ?_
      · exact want_no (j := 3) rfl rfl (Ev.t (v := .bool true) (Eq.trans (b := .bool (decide (((n : Nat) : Int) = 0))) rfl (by rw [decide_eq_true hc20])) rfl) rfl
      first | with_reducible refine w_skip ?_ ?_ | refine w_skip ?_ ?_
      · exact want_un (j := 6) rfl rfl (Ev.t (v := undef) rfl rfl) rfl
      first | with_reducible refine w_skip ?_ ?_ | refine w_skip ?_ ?_
      · exact want_un (j := 6) rfl rfl (Ev.t (v := undef) rfl rfl) rfl
      first | with_reducible refine w_skip ?_ ?_ | refine w_skip ?_ ?_
      · exact want_un (j := 6) rfl rfl (Ev.t (v := undef) rfl rfl) rfl
      first | with_reducible refine w_skip ?_ ?_ | refine w_skip ?_ ?_
      · exact want_no (j := 3) rfl rfl (Ev.t (v := .bool true) (Eq.trans (b := .bool (decide (((n : Nat) : Int) = 0))) rfl (by rw [decide_eq_true hc20])) rfl) rfl
      refine w_val (v := .bool true) (y_pick_t (Ev.t (v := .bool true) (Eq.trans (b := .bool (decide (((n : Nat) : Int) = 0))) rfl (by rw [decide_eq_true hc20])) rfl) (Ev.c (v := .bool true))) ?_
      refine w_val (v := .bool true) (y_as (Ev.t (v := .bool true) rfl rfl)) ?_
      refine wpList_nil ?_
      refine then_n ?_
      refine wp_ret ?_
      refine fin_ret1 rfl (Ev.t (v := .bool true) rfl rfl) ?_
      exact ⟨rfl, hk⟩

set_option maxRecDepth 100000 in
set_option maxHeartbeats 1000000 in
theorem ctrPieces_iy (key : List (BitVec 8)) (hok : Aes.okKey key.length) (s : List (BitVec 8)) (d : Int) (hs : s.length ≠ 16) (g off n cap : Nat) (hn : n ≤ 140737488351232) (l : Nat → List (BitVec 8))  (w0 : World) (hgl : g < w0.heap.size) (hl : ∀ i, i < n → w0.cell? ⟨g, off + i, none⟩ = some (.string (str (l i)))) : Calls Try.prog 9 #[.string (str key), .agg (arr 2 (fun j => if j < 1 then .string (str s) else .int .i64 d)), .slice (some ⟨g, off, none⟩) n cap] w0 fun e w' => e = .returned (.bool true) ∧ Below w0.heap.size w0 w' := by
  refine enter (n := 106) Try.func9 rfl rfl rfl ?_
  have hk : Below w0.heap.size w0 w0 := Below.refl _ _
  refine wp_seq ?_
  refine wp_region_lit ?_
  refine w_box (m := 2) (F := fun j => if j < 1 then .string (str s) else .int .i64 d) (Ev.t (v := .agg (arr 2 (fun j => if j < 1 then .string (str s) else .int .i64 d))) rfl rfl) rfl ?_
  intro b_c w1 hbe_b_c r_b_c hb2
  have ge_b_c : w0.heap.size ≤ b_c := by have := hk.size; omega
  clear hbe_b_c
  replace hk := thenB hk hb2
  refine w_val (v := .bool false) (y_as (Ev.c (v := .bool false))) ?_
  refine wpList_nil ?_
  refine then_n ?_
  refine wp_seq ?_
  refine wp_seq ?_
  refine wp_region_lit ?_
  refine w_call (Try.func18) (by kernel_rfl) rfl m0 (ctrWakes_c  w1) ?_
  rintro _ w3 ⟨rfl, hb4⟩
  refine ⟨_, rfl, ?_⟩
  replace r_b_c := r_b_c.step hb4
  replace hk := thenB hk hb4
  refine w_val (v := .bool false) (y_not (Ev.t (v := .bool true) rfl rfl)) ?_
  refine wpList_nil ?_
  refine then_n ?_
  refine c_ff (Ev.t (v := .bool false) rfl rfl) ?_
  refine wp_skip ?_
  refine then_n ?_
  refine wp_seq ?_
  refine wp_region_lit ?_
  refine w_val (v := .string (str ([] : List (BitVec 8)))) (y_as (Ev.c (v := .string (str ([] : List (BitVec 8)))))) ?_
  refine w_val (v := .string (str ([] : List (BitVec 8)))) (y_as (Ev.c (v := .string (str ([] : List (BitVec 8)))))) ?_
  refine wpList_nil ?_
  refine then_n ?_
  refine wp_seq ?_
  refine wp_seq ?_
  refine wp_region_lit ?_
  refine w_val (v := .slice (some ⟨g, off, none⟩) n cap) (y_mv (Ev.t (v := .slice (some ⟨g, off, none⟩) n cap) rfl rfl)) ?_
  refine w_val (v := .int .i64 ((n : Nat) : Int)) (y_len_sl (Ev.t (v := .slice (some ⟨g, off, none⟩) n cap) rfl rfl) Try.underlying42) ?_
  refine w_val (v := .int .i64 0) (y_mv (Ev.c (v := .int .i64 0))) ?_
  refine wpList_nil ?_
  refine then_n ?_
  refine wp_block ?_
  refine c_loop (fun dN aN wl => dN = 0 ∧ ∃ f5, aN = fr 106 f5 ∧ f5 0 = .string (str key) ∧ f5 1 = .agg (arr 2 (fun j => if j < 1 then .string (str s) else .int .i64 d)) ∧ f5 2 = .slice (some ⟨g, off, none⟩) n cap ∧ f5 4 = .pointer (some ⟨b_c, 0, none⟩) ∧ f5 7 = .string (str ([] : List (BitVec 8))) ∧ f5 8 = .string (str ([] : List (BitVec 8))) ∧ f5 20 = .int .i64 ((n : Nat) : Int) ∧ f5 21 = .int .i64 0 ∧ Row wl b_c 34 2 (fun j => if j < 1 then .string (str s) else .int .i64 d) ∧ Below w0.heap.size w0 wl) 0 ?_ ?_
  · exact ⟨rfl, _, rfl, rfl, rfl, rfl, rfl, rfl, rfl, rfl, rfl, r_b_c, hk⟩
  · skip
    clear r_b_c hk
    rintro _ _ w6 ⟨rfl, f5, rfl, s1_0, s1_1, s1_2, s1_4, s1_7, s1_8, s1_20, s1_21, r_b_c, hk⟩
    refine wp_seq ?_
    refine wp_region_lit ?_
    refine w_val (v := .bool (decide (0 < ((n : Nat) : Int)))) (y_bin (Ev.t (v := .int .i64 0) s1_21 rfl) (Ev.t (v := .int .i64 ((n : Nat) : Int)) s1_20 rfl) b_lss) ?_
    refine wpList_nil ?_
    refine then_n ?_
    refine wp_seq ?_
    refine c_if (p := 0 < ((n : Nat) : Int)) (Ev.t (v := .bool (decide (0 < ((n : Nat) : Int)))) rfl rfl) (fun hc7 => ?_) (fun hc7 => ?_)
    · skip
      refine wp_skip ?_
      refine then_n ?_
      refine wp_seq ?_
      refine wp_block ?_
      refine wp_seq ?_
      refine wp_region_lit ?_
      refine w_val (v := .int .i64 0) (y_mv (Ev.t (v := .int .i64 0) s1_21 rfl)) ?_
      refine w_val (v := .int .i64 0) (y_as (Ev.t (v := .int .i64 0) rfl rfl)) ?_
      refine wpList_nil ?_
      refine then_n ?_
      refine wp_seq ?_
      refine wp_seq ?_
      refine wp_region_lit ?_
      refine w_val (v := .string (str ([] : List (BitVec 8)))) (y_mv (Ev.t (v := .string (str ([] : List (BitVec 8)))) s1_7 rfl)) ?_
      refine w_val (v := .int .i64 0) (y_len (Ev.t (v := .string (str ([] : List (BitVec 8)))) rfl rfl) Try.underlying9) ?_
      refine w_val (v := .bool false) (y_bin (Ev.t (v := .int .i64 0) rfl rfl) (Ev.c (v := .int .i64 1000)) b_gtr) ?_
      refine w_val (v := .bool false) (y_mv (Ev.t (v := .bool false) rfl rfl)) ?_
      refine w_val_g (v := .slice (some ⟨g, off, none⟩) n cap) (want_yes (j := 3) rfl rfl (Ev.t (v := .bool false) rfl rfl) rfl) (y_mv (Ev.t (v := .slice (some ⟨g, off, none⟩) n cap) s1_2 rfl)) ?_
      refine w_val_g (v := .int .i64 0) (want_yes (j := 3) rfl rfl (Ev.t (v := .bool false) rfl rfl) rfl) (y_mv (Ev.t (v := .int .i64 0) rfl rfl)) ?_
      refine w_val_g (v := .pointer (some ⟨g, off, none⟩)) (want_yes (j := 3) rfl rfl (Ev.t (v := .bool false) rfl rfl) rfl) (y_off (y_is1 (i := 0) (Ev.t (v := .slice (some ⟨g, off, none⟩) n cap) rfl rfl) (Ev.t (v := .int .i64 0) rfl rfl) Try.underlying42 CtrPiecesWT.sz9 (by omega) (by omega)) (by first | rfl | omega)) ?_
      refine w_val_g (v := .string (str (l 0))) (want_yes (j := 3) rfl rfl (Ev.t (v := .bool false) rfl rfl) rfl) (y_ld (Ev.t (v := .pointer (some ⟨g, off, none⟩)) rfl rfl) CtrPiecesWT.sc9 ((hk.cell (p := ⟨g, off, none⟩) hgl).trans (hl 0 (by omega)))) ?_
      refine w_val_g (v := .int .i64 (((l 0).length : Nat) : Int)) (want_yes (j := 3) rfl rfl (Ev.t (v := .bool false) rfl rfl) rfl) (y_len (Ev.t (v := .string (str (l 0))) rfl rfl) Try.underlying9) ?_
      refine w_val_g (v := .bool (decide (1000 < (((l 0).length : Nat) : Int)))) (want_yes (j := 3) rfl rfl (Ev.t (v := .bool false) rfl rfl) rfl) (y_bin (Ev.t (v := .int .i64 (((l 0).length : Nat) : Int)) rfl rfl) (Ev.c (v := .int .i64 1000)) b_gtr) ?_
      refine w_val (v := .bool (decide (1000 < (((l 0).length : Nat) : Int)))) (y_pick_f (Ev.t (v := .bool false) rfl rfl) (Ev.t (v := .bool (decide (1000 < (((l 0).length : Nat) : Int)))) rfl rfl)) ?_
      refine wpList_nil ?_
      refine then_n ?_
      refine c_if (p := 1000 < (((l 0).length : Nat) : Int)) (Ev.t (v := .bool (decide (1000 < (((l 0).length : Nat) : Int)))) rfl rfl) (fun hc8 => ?_) (fun hc8 => ?_)
      · skip
        refine wp_seq ?_
        refine wp_region_lit ?_
        refine w_val (v := .bool true) (y_as (Ev.c (v := .bool true))) ?_
        refine wpList_nil ?_
        refine then_n ?_
        refine wp_ret ?_
        refine then_r ?_
        refine inb_r ?_
        refine then_r ?_
        refine then_r ?_
        refine inb_r ?_
        refine then_r ?_
        refine fin_ret1 rfl (Ev.t (v := .bool true) rfl rfl) ?_
        exact ⟨rfl, hk⟩
      · skip
        refine wp_skip ?_
        refine then_n ?_
        refine wp_seq ?_
        refine wp_region_lit ?_
        refine w_val (v := .slice (some ⟨g, off, none⟩) n cap) (y_mv (Ev.t (v := .slice (some ⟨g, off, none⟩) n cap) s1_2 rfl)) ?_
        refine w_val (v := .int .i64 0) (y_mv (Ev.t (v := .int .i64 0) rfl rfl)) ?_
        refine w_val (v := .pointer (some ⟨g, off, none⟩)) (y_off (y_is1 (i := 0) (Ev.t (v := .slice (some ⟨g, off, none⟩) n cap) rfl rfl) (Ev.t (v := .int .i64 0) rfl rfl) Try.underlying42 CtrPiecesWT.sz9 (by omega) (by omega)) (by first | rfl | omega)) ?_
        refine w_val (v := .string (str (l 0))) (y_ld (Ev.t (v := .pointer (some ⟨g, off, none⟩)) rfl rfl) CtrPiecesWT.sc9 ((hk.cell (p := ⟨g, off, none⟩) hgl).trans (hl 0 (by omega)))) ?_
        refine w_val (v := .string (str (l 0))) (y_as (Ev.t (v := .string (str (l 0))) rfl rfl)) ?_
        refine wpList_nil ?_
        refine then_n ?_
        refine wp_seq ?_
        refine wp_seq ?_
        refine wp_region_lit ?_
        refine w_val (v := .int .i64 0) (y_mv (Ev.t (v := .int .i64 0) rfl rfl)) ?_
        refine w_val (v := .slice (some ⟨g, off, none⟩) n cap) (y_mv (Ev.t (v := .slice (some ⟨g, off, none⟩) n cap) s1_2 rfl)) ?_
        refine w_val (v := .int .i64 ((n : Nat) : Int)) (y_len_sl (Ev.t (v := .slice (some ⟨g, off, none⟩) n cap) rfl rfl) Try.underlying42) ?_
        refine w_val (v := .int .i64 (((n : Nat) : Int) - 1)) (y_bin (Ev.t (v := .int .i64 ((n : Nat) : Int)) rfl rfl) (Ev.c (v := .int .i64 1)) (b_sub (by omega))) ?_
        refine w_val (v := .bool (decide (0 < (((n : Nat) : Int) - 1)))) (y_bin (Ev.t (v := .int .i64 0) rfl rfl) (Ev.t (v := .int .i64 (((n : Nat) : Int) - 1)) rfl rfl) b_lss) ?_
        refine wpList_nil ?_
        refine then_n ?_
        refine c_if (p := 0 < (((n : Nat) : Int) - 1)) (Ev.t (v := .bool (decide (0 < (((n : Nat) : Int) - 1)))) rfl rfl) (fun hc9 => ?_) (fun hc9 => ?_)
        · skip
          refine wp_region_lit ?_
          refine w_val (v := .string (str (l 0))) (y_mv (Ev.t (v := .string (str (l 0))) rfl rfl)) ?_
          refine w_val (v := .string (str (l 0))) (y_mv (Ev.t (v := .string (str (l 0))) rfl rfl)) ?_
          refine w_val (v := .int .i64 (((l 0).length : Nat) : Int)) (y_len (Ev.t (v := .string (str (l 0))) rfl rfl) Try.underlying9) ?_
          refine w_val (v := .int .i64 ((((l 0).length : Nat) : Int) / 16)) (y_bin (Ev.t (v := .int .i64 (((l 0).length : Nat) : Int)) rfl rfl) (Ev.c (v := .int .i64 16)) (b_quo (by omega))) ?_
          refine w_val (v := .int .i64 (((((l 0).length : Nat) : Int) / 16) * 16)) (y_bin (Ev.t (v := .int .i64 ((((l 0).length : Nat) : Int) / 16)) rfl rfl) (Ev.c (v := .int .i64 16)) (b_mul (by omega))) ?_
          refine w_val (v := .string (str ((l 0).take ((((l 0).length) / 16) * 16)))) (y_sls (Ev.t (v := .string (str (l 0))) rfl rfl) evo.no (evo.s (Ev.t (v := .int .i64 (((((l 0).length : Nat) : Int) / 16) * 16)) rfl rfl)) Try.underlying9 (bnd_h (h := ((((l 0).length) / 16) * 16)) (by omega) (by omega))) ?_
          refine w_val (v := .string (str ((l 0).take ((((l 0).length) / 16) * 16)))) (y_as (Ev.t (v := .string (str ((l 0).take ((((l 0).length) / 16) * 16)))) rfl rfl)) ?_
          refine wpList_nil ?_
          refine then_n ?_
          refine wp_seq ?_
          refine wp_region_lit ?_
          refine w_val (v := .pointer (some ⟨b_c, 0, none⟩)) (y_off (y_fa (Ev.t (v := .pointer (some ⟨b_c, 0, none⟩)) s1_4 rfl) (CtrPiecesWT.fa34_0 _ _)) (by first | rfl | omega)) ?_
          refine w_val (v := .string (str s)) (y_ld (Ev.t (v := .pointer (some ⟨b_c, 0, none⟩)) rfl rfl) CtrPiecesWT.sc9 (r_b_c.val (v := .string (str s)) (by omega) ((if_pos (by omega)).trans (by first | with_reducible rfl | (with_reducible congr 1 <;> omega) | (with_reducible congr 2 <;> omega) | (with_reducible congr 3 <;> omega) | rfl)))) ?_
          refine w_val (v := .pointer (some ⟨b_c, 1, none⟩)) (y_off (y_fa (Ev.t (v := .pointer (some ⟨b_c, 0, none⟩)) s1_4 rfl) (CtrPiecesWT.fa34_1 _ _)) (by first | rfl | omega)) ?_
          refine w_val (v := .int .i64 d) (y_ld (Ev.t (v := .pointer (some ⟨b_c, 1, none⟩)) rfl rfl) CtrPiecesWT.sc3 (r_b_c.val (v := .int .i64 d) (by omega) ((if_neg (by omega)).trans (by first | with_reducible rfl | (with_reducible congr 1 <;> omega) | (with_reducible congr 2 <;> omega) | (with_reducible congr 3 <;> omega) | rfl)))) ?_
          refine w_val (v := .string (str ([] : List (BitVec 8)))) (y_mv (Ev.t (v := .string (str ([] : List (BitVec 8)))) s1_7 rfl)) ?_
          refine w_val (v := .int .i64 0) (y_len (Ev.t (v := .string (str ([] : List (BitVec 8)))) rfl rfl) Try.underlying9) ?_
          refine w_val (v := .int .i64 (0 / 16)) (y_bin (Ev.t (v := .int .i64 0) rfl rfl) (Ev.c (v := .int .i64 16)) (b_quo (by omega))) ?_
          refine w_val (v := U64 (BitVec.ofNat 64 (0 / 16))) (y_nat_u64 (p := (0 / 16)) (Ev.t (v := .int .i64 (0 / 16)) rfl rfl) (by omega) CtrPiecesWT.so3 Try.underlying35) ?_
          refine w_call (Try.func19) (by kernel_rfl) rfl (m3 (Ev.t (v := .string (str s)) rfl rfl) (Ev.t (v := .int .i64 d) rfl rfl) (Ev.t (v := U64 (BitVec.ofNat 64 (0 / 16))) rfl rfl)) (next_i s d hs _ w6) ?_
          rintro _ w10 ⟨rfl, hb11⟩
          refine ⟨_, rfl, ?_⟩
          replace r_b_c := r_b_c.step hb11
          replace hk := thenB hk hb11
          refine w_val (v := .tuple #[.string (str ([] : List (BitVec 8))), .int .i64 4]) (y_mv (Ev.t (v := .tuple #[.string (str ([] : List (BitVec 8))), .int .i64 4]) rfl rfl)) ?_
          refine w_val (v := .string (str ([] : List (BitVec 8)))) (y_ext (v := .string (str ([] : List (BitVec 8)))) (Ev.t (v := .tuple #[.string (str ([] : List (BitVec 8))), .int .i64 4]) rfl rfl) rfl) ?_
          refine w_val (v := .int .i64 4) (y_ext (v := .int .i64 4) (Ev.t (v := .tuple #[.string (str ([] : List (BitVec 8))), .int .i64 4]) rfl rfl) rfl) ?_
          refine w_val (v := .string (str ([] : List (BitVec 8)))) (y_as (Ev.t (v := .string (str ([] : List (BitVec 8)))) rfl rfl)) ?_
          refine w_val (v := .int .i64 4) (y_as (Ev.t (v := .int .i64 4) rfl rfl)) ?_
          refine wpList_nil ?_
          refine then_n ?_
          refine wp_seq ?_
          refine wp_region_lit ?_
          refine w_val (v := .string (str key)) (y_mv (Ev.t (v := .string (str key)) s1_0 rfl)) ?_
          refine w_val (v := .string (str ([] : List (BitVec 8)))) (y_mv (Ev.t (v := .string (str ([] : List (BitVec 8)))) rfl rfl)) ?_
          refine w_val (v := .pointer (some ⟨b_c, 1, none⟩)) (y_off (y_fa (Ev.t (v := .pointer (some ⟨b_c, 0, none⟩)) s1_4 rfl) (CtrPiecesWT.fa34_1 _ _)) (by first | rfl | omega)) ?_
          refine w_val (v := .int .i64 d) (y_ld (Ev.t (v := .pointer (some ⟨b_c, 1, none⟩)) rfl rfl) CtrPiecesWT.sc3 (r_b_c.val (v := .int .i64 d) (by omega) ((if_neg (by omega)).trans (by first | with_reducible rfl | (with_reducible congr 1 <;> omega) | (with_reducible congr 2 <;> omega) | (with_reducible congr 3 <;> omega) | rfl)))) ?_
          refine w_val (v := .string (str ((l 0).take ((((l 0).length) / 16) * 16)))) (y_mv (Ev.t (v := .string (str ((l 0).take ((((l 0).length) / 16) * 16)))) rfl rfl)) ?_
          refine w_call (Try.func21) (by kernel_rfl) rfl (m4 (Ev.t (v := .string (str key)) rfl rfl) (Ev.t (v := .string (str ([] : List (BitVec 8)))) rfl rfl) (Ev.t (v := .int .i64 d) rfl rfl) (Ev.t (v := .string (str ((l 0).take ((((l 0).length) / 16) * 16)))) rfl rfl)) (ctrXor_i key ((l 0).take ((((l 0).length) / 16) * 16)) hok [] d (by decide) w10) ?_
          rintro _ w12 ⟨rfl, hb13⟩
          refine ⟨_, rfl, ?_⟩
          replace r_b_c := r_b_c.step hb13
          replace hk := thenB hk hb13
          refine w_val (v := .tuple #[.string (str ([] : List (BitVec 8))), .int .i64 4]) (y_mv (Ev.t (v := .tuple #[.string (str ([] : List (BitVec 8))), .int .i64 4]) rfl rfl)) ?_
          refine w_val (v := .string (str ([] : List (BitVec 8)))) (y_ext (v := .string (str ([] : List (BitVec 8)))) (Ev.t (v := .tuple #[.string (str ([] : List (BitVec 8))), .int .i64 4]) rfl rfl) rfl) ?_
          refine w_val (v := .int .i64 4) (y_ext (v := .int .i64 4) (Ev.t (v := .tuple #[.string (str ([] : List (BitVec 8))), .int .i64 4]) rfl rfl) rfl) ?_
          refine w_val (v := .string (str ([] : List (BitVec 8)))) (y_as (Ev.t (v := .string (str ([] : List (BitVec 8)))) rfl rfl)) ?_
          refine w_val (v := .int .i64 4) (y_as (Ev.t (v := .int .i64 4) rfl rfl)) ?_
          refine wpList_nil ?_
          refine then_n ?_
          refine wp_seq ?_
          refine wp_seq ?_
          refine wp_region_lit ?_
          refine w_val (v := .int .i64 4) (y_mv (Ev.t (v := .int .i64 4) rfl rfl)) ?_
          refine w_val (v := .bool true) (y_bin (Ev.t (v := .int .i64 4) rfl rfl) (Ev.c (v := .int .i64 0)) b_neq) ?_
          refine w_val (v := .bool true) (y_mv (Ev.t (v := .bool true) rfl rfl)) ?_
          first | with_reducible refine w_skip ?_ ?_ | refine w_skip ?_ ?_
          · exact want_no (j := 2) rfl rfl (Ev.t (v := .bool true) rfl rfl) rfl
          first | with_reducible refine w_skip ?_ ?_ | refine w_skip ?_ ?_
          · exact want_no (j := 2) rfl rfl (Ev.t (v := .bool true) rfl rfl) rfl
          refine w_val (v := .bool true) (y_pick_t (Ev.t (v := .bool true) rfl rfl) (Ev.c (v := .bool true))) ?_
          refine wpList_nil ?_
          refine then_n ?_
          refine c_tt (Ev.t (v := .bool true) rfl rfl) ?_
          refine wp_seq ?_
          refine wp_region_lit ?_
          refine w_val (v := .bool true) (y_as (Ev.c (v := .bool true))) ?_
          refine wpList_nil ?_
          refine then_n ?_
          refine wp_ret ?_
          refine then_r ?_
          refine inb_r ?_
          refine then_r ?_
          refine then_r ?_
          refine inb_r ?_
          refine then_r ?_
          refine fin_ret1 rfl (Ev.t (v := .bool true) rfl rfl) ?_
          exact ⟨rfl, hk⟩
        · skip
          refine wp_skip ?_
          refine then_n ?_
          refine wp_seq ?_
          refine wp_region_lit ?_
          refine w_val (v := .pointer (some ⟨b_c, 0, none⟩)) (y_off (y_fa (Ev.t (v := .pointer (some ⟨b_c, 0, none⟩)) s1_4 rfl) (CtrPiecesWT.fa34_0 _ _)) (by first | rfl | omega)) ?_
          refine w_val (v := .string (str s)) (y_ld (Ev.t (v := .pointer (some ⟨b_c, 0, none⟩)) rfl rfl) CtrPiecesWT.sc9 (r_b_c.val (v := .string (str s)) (by omega) ((if_pos (by omega)).trans (by first | with_reducible rfl | (with_reducible congr 1 <;> omega) | (with_reducible congr 2 <;> omega) | (with_reducible congr 3 <;> omega) | rfl)))) ?_
          refine w_val (v := .pointer (some ⟨b_c, 1, none⟩)) (y_off (y_fa (Ev.t (v := .pointer (some ⟨b_c, 0, none⟩)) s1_4 rfl) (CtrPiecesWT.fa34_1 _ _)) (by first | rfl | omega)) ?_
          refine w_val (v := .int .i64 d) (y_ld (Ev.t (v := .pointer (some ⟨b_c, 1, none⟩)) rfl rfl) CtrPiecesWT.sc3 (r_b_c.val (v := .int .i64 d) (by omega) ((if_neg (by omega)).trans (by first | with_reducible rfl | (with_reducible congr 1 <;> omega) | (with_reducible congr 2 <;> omega) | (with_reducible congr 3 <;> omega) | rfl)))) ?_
          refine w_val (v := .string (str ([] : List (BitVec 8)))) (y_mv (Ev.t (v := .string (str ([] : List (BitVec 8)))) s1_7 rfl)) ?_
          refine w_val (v := .int .i64 0) (y_len (Ev.t (v := .string (str ([] : List (BitVec 8)))) rfl rfl) Try.underlying9) ?_
          refine w_val (v := .int .i64 (0 / 16)) (y_bin (Ev.t (v := .int .i64 0) rfl rfl) (Ev.c (v := .int .i64 16)) (b_quo (by omega))) ?_
          refine w_val (v := U64 (BitVec.ofNat 64 (0 / 16))) (y_nat_u64 (p := (0 / 16)) (Ev.t (v := .int .i64 (0 / 16)) rfl rfl) (by omega) CtrPiecesWT.so3 Try.underlying35) ?_
          refine w_call (Try.func19) (by kernel_rfl) rfl (m3 (Ev.t (v := .string (str s)) rfl rfl) (Ev.t (v := .int .i64 d) rfl rfl) (Ev.t (v := U64 (BitVec.ofNat 64 (0 / 16))) rfl rfl)) (next_i s d hs _ w6) ?_
          rintro _ w14 ⟨rfl, hb15⟩
          refine ⟨_, rfl, ?_⟩
          replace r_b_c := r_b_c.step hb15
          replace hk := thenB hk hb15
          refine w_val (v := .tuple #[.string (str ([] : List (BitVec 8))), .int .i64 4]) (y_mv (Ev.t (v := .tuple #[.string (str ([] : List (BitVec 8))), .int .i64 4]) rfl rfl)) ?_
          refine w_val (v := .string (str ([] : List (BitVec 8)))) (y_ext (v := .string (str ([] : List (BitVec 8)))) (Ev.t (v := .tuple #[.string (str ([] : List (BitVec 8))), .int .i64 4]) rfl rfl) rfl) ?_
          refine w_val (v := .int .i64 4) (y_ext (v := .int .i64 4) (Ev.t (v := .tuple #[.string (str ([] : List (BitVec 8))), .int .i64 4]) rfl rfl) rfl) ?_
          refine w_val (v := .string (str ([] : List (BitVec 8)))) (y_as (Ev.t (v := .string (str ([] : List (BitVec 8)))) rfl rfl)) ?_
          refine w_val (v := .int .i64 4) (y_as (Ev.t (v := .int .i64 4) rfl rfl)) ?_
          refine wpList_nil ?_
          refine then_n ?_
          refine wp_seq ?_
          refine wp_region_lit ?_
          refine w_val (v := .string (str key)) (y_mv (Ev.t (v := .string (str key)) s1_0 rfl)) ?_
          refine w_val (v := .string (str ([] : List (BitVec 8)))) (y_mv (Ev.t (v := .string (str ([] : List (BitVec 8)))) rfl rfl)) ?_
          refine w_val (v := .pointer (some ⟨b_c, 1, none⟩)) (y_off (y_fa (Ev.t (v := .pointer (some ⟨b_c, 0, none⟩)) s1_4 rfl) (CtrPiecesWT.fa34_1 _ _)) (by first | rfl | omega)) ?_
          refine w_val (v := .int .i64 d) (y_ld (Ev.t (v := .pointer (some ⟨b_c, 1, none⟩)) rfl rfl) CtrPiecesWT.sc3 (r_b_c.val (v := .int .i64 d) (by omega) ((if_neg (by omega)).trans (by first | with_reducible rfl | (with_reducible congr 1 <;> omega) | (with_reducible congr 2 <;> omega) | (with_reducible congr 3 <;> omega) | rfl)))) ?_
          refine w_val (v := .string (str (l 0))) (y_mv (Ev.t (v := .string (str (l 0))) rfl rfl)) ?_
          refine w_call (Try.func21) (by kernel_rfl) rfl (m4 (Ev.t (v := .string (str key)) rfl rfl) (Ev.t (v := .string (str ([] : List (BitVec 8)))) rfl rfl) (Ev.t (v := .int .i64 d) rfl rfl) (Ev.t (v := .string (str (l 0))) rfl rfl)) (ctrXor_i key (l 0) hok [] d (by decide) w14) ?_
          rintro _ w16 ⟨rfl, hb17⟩
          refine ⟨_, rfl, ?_⟩
          replace r_b_c := r_b_c.step hb17
          replace hk := thenB hk hb17
          refine w_val (v := .tuple #[.string (str ([] : List (BitVec 8))), .int .i64 4]) (y_mv (Ev.t (v := .tuple #[.string (str ([] : List (BitVec 8))), .int .i64 4]) rfl rfl)) ?_
          refine w_val (v := .string (str ([] : List (BitVec 8)))) (y_ext (v := .string (str ([] : List (BitVec 8)))) (Ev.t (v := .tuple #[.string (str ([] : List (BitVec 8))), .int .i64 4]) rfl rfl) rfl) ?_
          refine w_val (v := .int .i64 4) (y_ext (v := .int .i64 4) (Ev.t (v := .tuple #[.string (str ([] : List (BitVec 8))), .int .i64 4]) rfl rfl) rfl) ?_
          refine w_val (v := .string (str ([] : List (BitVec 8)))) (y_as (Ev.t (v := .string (str ([] : List (BitVec 8)))) rfl rfl)) ?_
          refine w_val (v := .int .i64 4) (y_as (Ev.t (v := .int .i64 4) rfl rfl)) ?_
          refine wpList_nil ?_
          refine then_n ?_
          refine wp_seq ?_
          refine wp_seq ?_
          refine wp_region_lit ?_
          refine w_val (v := .int .i64 4) (y_mv (Ev.t (v := .int .i64 4) rfl rfl)) ?_
          refine w_val (v := .bool true) (y_bin (Ev.t (v := .int .i64 4) rfl rfl) (Ev.c (v := .int .i64 0)) b_neq) ?_
          refine w_val (v := .bool true) (y_mv (Ev.t (v := .bool true) rfl rfl)) ?_
          first | with_reducible refine w_skip ?_ ?_ | refine w_skip ?_ ?_
          · exact want_no (j := 2) rfl rfl (Ev.t (v := .bool true) rfl rfl) rfl
          first | with_reducible refine w_skip ?_ ?_ | refine w_skip ?_ ?_
          · exact want_no (j := 2) rfl rfl (Ev.t (v := .bool true) rfl rfl) rfl
          refine w_val (v := .bool true) (y_pick_t (Ev.t (v := .bool true) rfl rfl) (Ev.c (v := .bool true))) ?_
          refine wpList_nil ?_
          refine then_n ?_
          refine c_tt (Ev.t (v := .bool true) rfl rfl) ?_
          refine wp_seq ?_
          refine wp_region_lit ?_
          refine w_val (v := .bool true) (y_as (Ev.c (v := .bool true))) ?_
          refine wpList_nil ?_
          refine then_n ?_
          refine wp_ret ?_
          refine then_r ?_
          refine inb_r ?_
          refine then_r ?_
          refine then_r ?_
          refine inb_r ?_
          refine then_r ?_
          refine fin_ret1 rfl (Ev.t (v := .bool true) rfl rfl) ?_
          exact ⟨rfl, hk⟩
    · skip
      refine wp_exit ?_
      refine then_x ?_
      refine then_x ?_
      refine inb_x ?_
      refine then_n ?_
      refine wp_seq ?_
      refine wp_region_lit ?_
      refine w_val (v := .string (str key)) (y_mv (Ev.t (v := .string (str key)) s1_0 rfl)) ?_
      refine w_val (v := .pointer (some ⟨b_c, 0, none⟩)) (y_off (y_fa (Ev.t (v := .pointer (some ⟨b_c, 0, none⟩)) s1_4 rfl) (CtrPiecesWT.fa34_0 _ _)) (by first | rfl | omega)) ?_
      refine w_val (v := .string (str s)) (y_ld (Ev.t (v := .pointer (some ⟨b_c, 0, none⟩)) rfl rfl) CtrPiecesWT.sc9 (r_b_c.val (v := .string (str s)) (by omega) ((if_pos (by omega)).trans (by first | with_reducible rfl | (with_reducible congr 1 <;> omega) | (with_reducible congr 2 <;> omega) | (with_reducible congr 3 <;> omega) | rfl)))) ?_
      refine w_val (v := .pointer (some ⟨b_c, 1, none⟩)) (y_off (y_fa (Ev.t (v := .pointer (some ⟨b_c, 0, none⟩)) s1_4 rfl) (CtrPiecesWT.fa34_1 _ _)) (by first | rfl | omega)) ?_
      refine w_val (v := .int .i64 d) (y_ld (Ev.t (v := .pointer (some ⟨b_c, 1, none⟩)) rfl rfl) CtrPiecesWT.sc3 (r_b_c.val (v := .int .i64 d) (by omega) ((if_neg (by omega)).trans (by first | with_reducible rfl | (with_reducible congr 1 <;> omega) | (with_reducible congr 2 <;> omega) | (with_reducible congr 3 <;> omega) | rfl)))) ?_
      refine w_val (v := .string (str ([] : List (BitVec 8)))) (y_mv (Ev.t (v := .string (str ([] : List (BitVec 8)))) s1_7 rfl)) ?_
      refine w_call (Try.func21) (by kernel_rfl) rfl (m4 (Ev.t (v := .string (str key)) rfl rfl) (Ev.t (v := .string (str s)) rfl rfl) (Ev.t (v := .int .i64 d) rfl rfl) (Ev.t (v := .string (str ([] : List (BitVec 8)))) rfl rfl)) (ctrXor_i key ([] : List (BitVec 8)) hok s d hs w6) ?_
      rintro _ w18 ⟨rfl, hb19⟩
      refine ⟨_, rfl, ?_⟩
      replace r_b_c := r_b_c.step hb19
      replace hk := thenB hk hb19
      refine w_val (v := .tuple #[.string (str ([] : List (BitVec 8))), .int .i64 4]) (y_mv (Ev.t (v := .tuple #[.string (str ([] : List (BitVec 8))), .int .i64 4]) rfl rfl)) ?_
      refine w_val (v := .string (str ([] : List (BitVec 8)))) (y_ext (v := .string (str ([] : List (BitVec 8)))) (Ev.t (v := .tuple #[.string (str ([] : List (BitVec 8))), .int .i64 4]) rfl rfl) rfl) ?_
      refine w_val (v := .int .i64 4) (y_ext (v := .int .i64 4) (Ev.t (v := .tuple #[.string (str ([] : List (BitVec 8))), .int .i64 4]) rfl rfl) rfl) ?_
      refine w_val (v := .string (str ([] : List (BitVec 8)))) (y_as (Ev.t (v := .string (str ([] : List (BitVec 8)))) rfl rfl)) ?_
      refine w_val (v := .int .i64 4) (y_as (Ev.t (v := .int .i64 4) rfl rfl)) ?_
      refine wpList_nil ?_
      refine then_n ?_
      refine wp_seq ?_
      refine wp_region_lit ?_
      refine w_val (v := .slice (some ⟨g, off, none⟩) n cap) (y_mv (Ev.t (v := .slice (some ⟨g, off, none⟩) n cap) s1_2 rfl)) ?_
      refine w_val (v := .int .i64 ((n : Nat) : Int)) (y_len_sl (Ev.t (v := .slice (some ⟨g, off, none⟩) n cap) rfl rfl) Try.underlying42) ?_
      refine w_val (v := .bool (decide (((n : Nat) : Int) = 0))) (y_bin (Ev.t (v := .int .i64 ((n : Nat) : Int)) rfl rfl) (Ev.c (v := .int .i64 0)) b_eql) ?_
      refine w_val (v := .bool (decide (((n : Nat) : Int) = 0))) (y_mv (Ev.t (v := .bool (decide (((n : Nat) : Int) = 0))) rfl rfl)) ?_
      have hc20 : ((n : Nat) : Int) = 0 := by omega
      first | with_reducible refine w_skip ?_ ?_ | refine w_skip ?_ ?_
      · exact want_no (j := 3) rfl rfl (Ev.t (v := .bool true) (Eq.trans (b := .bool (decide (((n : Nat) : Int) = 0))) rfl (by rw [decide_eq_true hc20])) rfl) rfl
      first | with_reducible refine w_skip ?_ ?_ | refine w_skip ?_ ?_
      · exact want_no (j := 3) rfl rfl (Ev.t (v := .bool true) (Eq.trans (b := .bool (decide (((n : Nat) : Int) = 0))) rfl (by rw [decide_eq_true hc20])) rfl) rfl
      first | with_reducible refine w_skip ?_ ?_ | refine w_skip ?_ ?_
      · exact want_no (j := 3) rfl rfl (Ev.t (v := .bool true) (Eq.trans (b := .bool (decide (((n : Nat) : Int) = 0))) rfl (by rw [decide_eq_true hc20])) rfl) rfl
      first | with_reducible refine w_skip ?_ ?_ | refine w_skip ?_ ?_
      · exact want_un (j := 6) rfl rfl (Ev.t (v := undef) rfl rfl) rfl
      first | with_reducible refine w_skip ?_ ?_ | refine w_skip ?_ ?_
      · exact want_un (j := 6) rfl rfl (Ev.t (v := undef) rfl rfl) rfl
      first | with_reducible refine w_skip ?_ ?_ | refine w_skip ?_ ?_
      · exact want_un (j := 6) rfl rfl (Ev.t (v := undef) rfl rfl) rfl
      first | with_reducible refine w_skip ?_ ?_ | refine w_skip ?_ ?_
      · exact want_no (j := 3) rfl rfl (Ev.t (v := .bool true) (Eq.trans (b := .bool (decide (((n : Nat) : Int) = 0))) rfl (by rw [decide_eq_true hc20])) rfl) rfl
      refine w_val (v := .bool true) (y_pick_t (Ev.t (v := .bool true) (Eq.trans (b := .bool (decide (((n : Nat) : Int) = 0))) rfl (by rw [decide_eq_true hc20])) rfl) (Ev.c (v := .bool true))) ?_
      refine w_val (v := .bool true) (y_as (Ev.t (v := .bool true) rfl rfl)) ?_
      refine wpList_nil ?_
      refine then_n ?_
      refine wp_ret ?_
      refine fin_ret1 rfl (Ev.t (v := .bool true) rfl rfl) ?_
      exact ⟨rfl, hk⟩

set_option maxRecDepth 100000 in
set_option maxHeartbeats 1000000 in
theorem ctrPieces_dk (key : List (BitVec 8)) (hok : ¬ Aes.okKey key.length) (s : List (BitVec 8)) (d : Int) (hs : s.length = 16) (hd : ¬ (1 ≤ d ∧ d ≤ 16)) (g off n cap : Nat) (hn : n ≤ 140737488351232) (l : Nat → List (BitVec 8))  (w0 : World) (hgl : g < w0.heap.size) (hl : ∀ i, i < n → w0.cell? ⟨g, off + i, none⟩ = some (.string (str (l i)))) : Calls Try.prog 9 #[.string (str key), .agg (arr 2 (fun j => if j < 1 then .string (str s) else .int .i64 d)), .slice (some ⟨g, off, none⟩) n cap] w0 fun e w' => e = .returned (.bool true) ∧ Below w0.heap.size w0 w' := by
  refine enter (n := 106) Try.func9 rfl rfl rfl ?_
  have hk : Below w0.heap.size w0 w0 := Below.refl _ _
  refine wp_seq ?_
  refine wp_region_lit ?_
  refine w_box (m := 2) (F := fun j => if j < 1 then .string (str s) else .int .i64 d) (Ev.t (v := .agg (arr 2 (fun j => if j < 1 then .string (str s) else .int .i64 d))) rfl rfl) rfl ?_
  intro b_c w1 hbe_b_c r_b_c hb2
  have ge_b_c : w0.heap.size ≤ b_c := by have := hk.size; omega
  clear hbe_b_c
  replace hk := thenB hk hb2
  refine w_val (v := .bool false) (y_as (Ev.c (v := .bool false))) ?_
  refine wpList_nil ?_
  refine then_n ?_
  refine wp_seq ?_
  refine wp_seq ?_
  refine wp_region_lit ?_
  refine w_call (Try.func18) (by kernel_rfl) rfl m0 (ctrWakes_c  w1) ?_
  rintro _ w3 ⟨rfl, hb4⟩
  refine ⟨_, rfl, ?_⟩
  replace r_b_c := r_b_c.step hb4
  replace hk := thenB hk hb4
  refine w_val (v := .bool false) (y_not (Ev.t (v := .bool true) rfl rfl)) ?_
  refine wpList_nil ?_
  refine then_n ?_
  refine c_ff (Ev.t (v := .bool false) rfl rfl) ?_
  refine wp_skip ?_
  refine then_n ?_
  refine wp_seq ?_
  refine wp_region_lit ?_
  refine w_val (v := .string (str ([] : List (BitVec 8)))) (y_as (Ev.c (v := .string (str ([] : List (BitVec 8)))))) ?_
  refine w_val (v := .string (str ([] : List (BitVec 8)))) (y_as (Ev.c (v := .string (str ([] : List (BitVec 8)))))) ?_
  refine wpList_nil ?_
  refine then_n ?_
  refine wp_seq ?_
  refine wp_seq ?_
  refine wp_region_lit ?_
  refine w_val (v := .slice (some ⟨g, off, none⟩) n cap) (y_mv (Ev.t (v := .slice (some ⟨g, off, none⟩) n cap) rfl rfl)) ?_
  refine w_val (v := .int .i64 ((n : Nat) : Int)) (y_len_sl (Ev.t (v := .slice (some ⟨g, off, none⟩) n cap) rfl rfl) Try.underlying42) ?_
  refine w_val (v := .int .i64 0) (y_mv (Ev.c (v := .int .i64 0))) ?_
  refine wpList_nil ?_
  refine then_n ?_
  refine wp_block ?_
  refine c_loop (fun dN aN wl => dN = 0 ∧ ∃ f5, aN = fr 106 f5 ∧ f5 0 = .string (str key) ∧ f5 1 = .agg (arr 2 (fun j => if j < 1 then .string (str s) else .int .i64 d)) ∧ f5 2 = .slice (some ⟨g, off, none⟩) n cap ∧ f5 4 = .pointer (some ⟨b_c, 0, none⟩) ∧ f5 7 = .string (str ([] : List (BitVec 8))) ∧ f5 8 = .string (str ([] : List (BitVec 8))) ∧ f5 20 = .int .i64 ((n : Nat) : Int) ∧ f5 21 = .int .i64 0 ∧ Row wl b_c 34 2 (fun j => if j < 1 then .string (str s) else .int .i64 d) ∧ Below w0.heap.size w0 wl) 0 ?_ ?_
  · exact ⟨rfl, _, rfl, rfl, rfl, rfl, rfl, rfl, rfl, rfl, rfl, r_b_c, hk⟩
  · skip
    clear r_b_c hk
    rintro _ _ w6 ⟨rfl, f5, rfl, s1_0, s1_1, s1_2, s1_4, s1_7, s1_8, s1_20, s1_21, r_b_c, hk⟩
    refine wp_seq ?_
    refine wp_region_lit ?_
    refine w_val (v := .bool (decide (0 < ((n : Nat) : Int)))) (y_bin (Ev.t (v := .int .i64 0) s1_21 rfl) (Ev.t (v := .int .i64 ((n : Nat) : Int)) s1_20 rfl) b_lss) ?_
    refine wpList_nil ?_
    refine then_n ?_
    refine wp_seq ?_
    refine c_if (p := 0 < ((n : Nat) : Int)) (Ev.t (v := .bool (decide (0 < ((n : Nat) : Int)))) rfl rfl) (fun hc7 => ?_) (fun hc7 => ?_)
    · skip
      refine wp_skip ?_
      refine then_n ?_
      refine wp_seq ?_
      refine wp_block ?_
      refine wp_seq ?_
      refine wp_region_lit ?_
      refine w_val (v := .int .i64 0) (y_mv (Ev.t (v := .int .i64 0) s1_21 rfl)) ?_
      refine w_val (v := .int .i64 0) (y_as (Ev.t (v := .int .i64 0) rfl rfl)) ?_
      refine wpList_nil ?_
      refine then_n ?_
      refine wp_seq ?_
      refine wp_seq ?_
      refine wp_region_lit ?_
      refine w_val (v := .string (str ([] : List (BitVec 8)))) (y_mv (Ev.t (v := .string (str ([] : List (BitVec 8)))) s1_7 rfl)) ?_
      refine w_val (v := .int .i64 0) (y_len (Ev.t (v := .string (str ([] : List (BitVec 8)))) rfl rfl) Try.underlying9) ?_
      refine w_val (v := .bool false) (y_bin (Ev.t (v := .int .i64 0) rfl rfl) (Ev.c (v := .int .i64 1000)) b_gtr) ?_
      refine w_val (v := .bool false) (y_mv (Ev.t (v := .bool false) rfl rfl)) ?_
      refine w_val_g (v := .slice (some ⟨g, off, none⟩) n cap) (want_yes (j := 3) rfl rfl (Ev.t (v := .bool false) rfl rfl) rfl) (y_mv (Ev.t (v := .slice (some ⟨g, off, none⟩) n cap) s1_2 rfl)) ?_
      refine w_val_g (v := .int .i64 0) (want_yes (j := 3) rfl rfl (Ev.t (v := .bool false) rfl rfl) rfl) (y_mv (Ev.t (v := .int .i64 0) rfl rfl)) ?_
      refine w_val_g (v := .pointer (some ⟨g, off, none⟩)) (want_yes (j := 3) rfl rfl (Ev.t (v := .bool false) rfl rfl) rfl) (y_off (y_is1 (i := 0) (Ev.t (v := .slice (some ⟨g, off, none⟩) n cap) rfl rfl) (Ev.t (v := .int .i64 0) rfl rfl) Try.underlying42 CtrPiecesWT.sz9 (by omega) (by omega)) (by first | rfl | omega)) ?_
      refine w_val_g (v := .string (str (l 0))) (want_yes (j := 3) rfl rfl (Ev.t (v := .bool false) rfl rfl) rfl) (y_ld (Ev.t (v := .pointer (some ⟨g, off, none⟩)) rfl rfl) CtrPiecesWT.sc9 ((hk.cell (p := ⟨g, off, none⟩) hgl).trans (hl 0 (by omega)))) ?_
      refine w_val_g (v := .int .i64 (((l 0).length : Nat) : Int)) (want_yes (j := 3) rfl rfl (Ev.t (v := .bool false) rfl rfl) rfl) (y_len (Ev.t (v := .string (str (l 0))) rfl rfl) Try.underlying9) ?_
      refine w_val_g (v := .bool (decide (1000 < (((l 0).length : Nat) : Int)))) (want_yes (j := 3) rfl rfl (Ev.t (v := .bool false) rfl rfl) rfl) (y_bin (Ev.t (v := .int .i64 (((l 0).length : Nat) : Int)) rfl rfl) (Ev.c (v := .int .i64 1000)) b_gtr) ?_
      refine w_val (v := .bool (decide (1000 < (((l 0).length : Nat) : Int)))) (y_pick_f (Ev.t (v := .bool false) rfl rfl) (Ev.t (v := .bool (decide (1000 < (((l 0).length : Nat) : Int)))) rfl rfl)) ?_
      refine wpList_nil ?_
      refine then_n ?_
      refine c_if (p := 1000 < (((l 0).length : Nat) : Int)) (Ev.t (v := .bool (decide (1000 < (((l 0).length : Nat) : Int)))) rfl rfl) (fun hc8 => ?_) (fun hc8 => ?_)
      · skip
        refine wp_seq ?_
        refine wp_region_lit ?_
        refine w_val (v := .bool true) (y_as (Ev.c (v := .bool true))) ?_
        refine wpList_nil ?_
        refine then_n ?_
        refine wp_ret ?_
        refine then_r ?_
        refine inb_r ?_
        refine then_r ?_
        refine then_r ?_
        refine inb_r ?_
        refine then_r ?_
        refine fin_ret1 rfl (Ev.t (v := .bool true) rfl rfl) ?_
        exact ⟨rfl, hk⟩
      · skip
        refine wp_skip ?_
        refine then_n ?_
        refine wp_seq ?_
        refine wp_region_lit ?_
        refine w_val (v := .slice (some ⟨g, off, none⟩) n cap) (y_mv (Ev.t (v := .slice (some ⟨g, off, none⟩) n cap) s1_2 rfl)) ?_
        refine w_val (v := .int .i64 0) (y_mv (Ev.t (v := .int .i64 0) rfl rfl)) ?_
        refine w_val (v := .pointer (some ⟨g, off, none⟩)) (y_off (y_is1 (i := 0) (Ev.t (v := .slice (some ⟨g, off, none⟩) n cap) rfl rfl) (Ev.t (v := .int .i64 0) rfl rfl) Try.underlying42 CtrPiecesWT.sz9 (by omega) (by omega)) (by first | rfl | omega)) ?_
        refine w_val (v := .string (str (l 0))) (y_ld (Ev.t (v := .pointer (some ⟨g, off, none⟩)) rfl rfl) CtrPiecesWT.sc9 ((hk.cell (p := ⟨g, off, none⟩) hgl).trans (hl 0 (by omega)))) ?_
        refine w_val (v := .string (str (l 0))) (y_as (Ev.t (v := .string (str (l 0))) rfl rfl)) ?_
        refine wpList_nil ?_
        refine then_n ?_
        refine wp_seq ?_
        refine wp_seq ?_
        refine wp_region_lit ?_
        refine w_val (v := .int .i64 0) (y_mv (Ev.t (v := .int .i64 0) rfl rfl)) ?_
        refine w_val (v := .slice (some ⟨g, off, none⟩) n cap) (y_mv (Ev.t (v := .slice (some ⟨g, off, none⟩) n cap) s1_2 rfl)) ?_
        refine w_val (v := .int .i64 ((n : Nat) : Int)) (y_len_sl (Ev.t (v := .slice (some ⟨g, off, none⟩) n cap) rfl rfl) Try.underlying42) ?_
        refine w_val (v := .int .i64 (((n : Nat) : Int) - 1)) (y_bin (Ev.t (v := .int .i64 ((n : Nat) : Int)) rfl rfl) (Ev.c (v := .int .i64 1)) (b_sub (by omega))) ?_
        refine w_val (v := .bool (decide (0 < (((n : Nat) : Int) - 1)))) (y_bin (Ev.t (v := .int .i64 0) rfl rfl) (Ev.t (v := .int .i64 (((n : Nat) : Int) - 1)) rfl rfl) b_lss) ?_
        refine wpList_nil ?_
        refine then_n ?_
        refine c_if (p := 0 < (((n : Nat) : Int) - 1)) (Ev.t (v := .bool (decide (0 < (((n : Nat) : Int) - 1)))) rfl rfl) (fun hc9 => ?_) (fun hc9 => ?_)
        · skip
          refine wp_region_lit ?_
          refine w_val (v := .string (str (l 0))) (y_mv (Ev.t (v := .string (str (l 0))) rfl rfl)) ?_
          refine w_val (v := .string (str (l 0))) (y_mv (Ev.t (v := .string (str (l 0))) rfl rfl)) ?_
          refine w_val (v := .int .i64 (((l 0).length : Nat) : Int)) (y_len (Ev.t (v := .string (str (l 0))) rfl rfl) Try.underlying9) ?_
          refine w_val (v := .int .i64 ((((l 0).length : Nat) : Int) / 16)) (y_bin (Ev.t (v := .int .i64 (((l 0).length : Nat) : Int)) rfl rfl) (Ev.c (v := .int .i64 16)) (b_quo (by omega))) ?_
          refine w_val (v := .int .i64 (((((l 0).length : Nat) : Int) / 16) * 16)) (y_bin (Ev.t (v := .int .i64 ((((l 0).length : Nat) : Int) / 16)) rfl rfl) (Ev.c (v := .int .i64 16)) (b_mul (by omega))) ?_
          refine w_val (v := .string (str ((l 0).take ((((l 0).length) / 16) * 16)))) (y_sls (Ev.t (v := .string (str (l 0))) rfl rfl) evo.no (evo.s (Ev.t (v := .int .i64 (((((l 0).length : Nat) : Int) / 16) * 16)) rfl rfl)) Try.underlying9 (bnd_h (h := ((((l 0).length) / 16) * 16)) (by omega) (by omega))) ?_
          refine w_val (v := .string (str ((l 0).take ((((l 0).length) / 16) * 16)))) (y_as (Ev.t (v := .string (str ((l 0).take ((((l 0).length) / 16) * 16)))) rfl rfl)) ?_
          refine wpList_nil ?_
          refine then_n ?_
          refine wp_seq ?_
          refine wp_region_lit ?_
          refine w_val (v := .pointer (some ⟨b_c, 0, none⟩)) (y_off (y_fa (Ev.t (v := .pointer (some ⟨b_c, 0, none⟩)) s1_4 rfl) (CtrPiecesWT.fa34_0 _ _)) (by first | rfl | omega)) ?_
          refine w_val (v := .string (str s)) (y_ld (Ev.t (v := .pointer (some ⟨b_c, 0, none⟩)) rfl rfl) CtrPiecesWT.sc9 (r_b_c.val (v := .string (str s)) (by omega) ((if_pos (by omega)).trans (by first | with_reducible rfl | (with_reducible congr 1 <;> omega) | (with_reducible congr 2 <;> omega) | (with_reducible congr 3 <;> omega) | rfl)))) ?_
          refine w_val (v := .pointer (some ⟨b_c, 1, none⟩)) (y_off (y_fa (Ev.t (v := .pointer (some ⟨b_c, 0, none⟩)) s1_4 rfl) (CtrPiecesWT.fa34_1 _ _)) (by first | rfl | omega)) ?_
          refine w_val (v := .int .i64 d) (y_ld (Ev.t (v := .pointer (some ⟨b_c, 1, none⟩)) rfl rfl) CtrPiecesWT.sc3 (r_b_c.val (v := .int .i64 d) (by omega) ((if_neg (by omega)).trans (by first | with_reducible rfl | (with_reducible congr 1 <;> omega) | (with_reducible congr 2 <;> omega) | (with_reducible congr 3 <;> omega) | rfl)))) ?_
          refine w_val (v := .string (str ([] : List (BitVec 8)))) (y_mv (Ev.t (v := .string (str ([] : List (BitVec 8)))) s1_7 rfl)) ?_
          refine w_val (v := .int .i64 0) (y_len (Ev.t (v := .string (str ([] : List (BitVec 8)))) rfl rfl) Try.underlying9) ?_
          refine w_val (v := .int .i64 (0 / 16)) (y_bin (Ev.t (v := .int .i64 0) rfl rfl) (Ev.c (v := .int .i64 16)) (b_quo (by omega))) ?_
          refine w_val (v := U64 (BitVec.ofNat 64 (0 / 16))) (y_nat_u64 (p := (0 / 16)) (Ev.t (v := .int .i64 (0 / 16)) rfl rfl) (by omega) CtrPiecesWT.so3 Try.underlying35) ?_
          refine w_call (Try.func19) (by kernel_rfl) rfl (m3 (Ev.t (v := .string (str s)) rfl rfl) (Ev.t (v := .int .i64 d) rfl rfl) (Ev.t (v := U64 (BitVec.ofNat 64 (0 / 16))) rfl rfl)) (next_d s d hs hd _ w6) ?_
          rintro _ w10 ⟨rfl, hb11⟩
          refine ⟨_, rfl, ?_⟩
          replace r_b_c := r_b_c.step hb11
          replace hk := thenB hk hb11
          refine w_val (v := .tuple #[.string (str ([] : List (BitVec 8))), .int .i64 2]) (y_mv (Ev.t (v := .tuple #[.string (str ([] : List (BitVec 8))), .int .i64 2]) rfl rfl)) ?_
          refine w_val (v := .string (str ([] : List (BitVec 8)))) (y_ext (v := .string (str ([] : List (BitVec 8)))) (Ev.t (v := .tuple #[.string (str ([] : List (BitVec 8))), .int .i64 2]) rfl rfl) rfl) ?_
          refine w_val (v := .int .i64 2) (y_ext (v := .int .i64 2) (Ev.t (v := .tuple #[.string (str ([] : List (BitVec 8))), .int .i64 2]) rfl rfl) rfl) ?_
          refine w_val (v := .string (str ([] : List (BitVec 8)))) (y_as (Ev.t (v := .string (str ([] : List (BitVec 8)))) rfl rfl)) ?_
          refine w_val (v := .int .i64 2) (y_as (Ev.t (v := .int .i64 2) rfl rfl)) ?_
          refine wpList_nil ?_
          refine then_n ?_
          refine wp_seq ?_
          refine wp_region_lit ?_
          refine w_val (v := .string (str key)) (y_mv (Ev.t (v := .string (str key)) s1_0 rfl)) ?_
          refine w_val (v := .string (str ([] : List (BitVec 8)))) (y_mv (Ev.t (v := .string (str ([] : List (BitVec 8)))) rfl rfl)) ?_
          refine w_val (v := .pointer (some ⟨b_c, 1, none⟩)) (y_off (y_fa (Ev.t (v := .pointer (some ⟨b_c, 0, none⟩)) s1_4 rfl) (CtrPiecesWT.fa34_1 _ _)) (by first | rfl | omega)) ?_
          refine w_val (v := .int .i64 d) (y_ld (Ev.t (v := .pointer (some ⟨b_c, 1, none⟩)) rfl rfl) CtrPiecesWT.sc3 (r_b_c.val (v := .int .i64 d) (by omega) ((if_neg (by omega)).trans (by first | with_reducible rfl | (with_reducible congr 1 <;> omega) | (with_reducible congr 2 <;> omega) | (with_reducible congr 3 <;> omega) | rfl)))) ?_
          refine w_val (v := .string (str ((l 0).take ((((l 0).length) / 16) * 16)))) (y_mv (Ev.t (v := .string (str ((l 0).take ((((l 0).length) / 16) * 16)))) rfl rfl)) ?_
          refine w_call (Try.func21) (by kernel_rfl) rfl (m4 (Ev.t (v := .string (str key)) rfl rfl) (Ev.t (v := .string (str ([] : List (BitVec 8)))) rfl rfl) (Ev.t (v := .int .i64 d) rfl rfl) (Ev.t (v := .string (str ((l 0).take ((((l 0).length) / 16) * 16)))) rfl rfl)) (ctrXor_k key hok ([] : List (BitVec 8)) d ((l 0).take ((((l 0).length) / 16) * 16)) w10) ?_
          rintro _ w12 ⟨rfl, hb13⟩
          refine ⟨_, rfl, ?_⟩
          replace r_b_c := r_b_c.step hb13
          replace hk := thenB hk hb13
          refine w_val (v := .tuple #[.string (str ([] : List (BitVec 8))), .int .i64 3]) (y_mv (Ev.t (v := .tuple #[.string (str ([] : List (BitVec 8))), .int .i64 3]) rfl rfl)) ?_
          refine w_val (v := .string (str ([] : List (BitVec 8)))) (y_ext (v := .string (str ([] : List (BitVec 8)))) (Ev.t (v := .tuple #[.string (str ([] : List (BitVec 8))), .int .i64 3]) rfl rfl) rfl) ?_
          refine w_val (v := .int .i64 3) (y_ext (v := .int .i64 3) (Ev.t (v := .tuple #[.string (str ([] : List (BitVec 8))), .int .i64 3]) rfl rfl) rfl) ?_
          refine w_val (v := .string (str ([] : List (BitVec 8)))) (y_as (Ev.t (v := .string (str ([] : List (BitVec 8)))) rfl rfl)) ?_
          refine w_val (v := .int .i64 3) (y_as (Ev.t (v := .int .i64 3) rfl rfl)) ?_
          refine wpList_nil ?_
          refine then_n ?_
          refine wp_seq ?_
          refine wp_seq ?_
          refine wp_region_lit ?_
          refine w_val (v := .int .i64 2) (y_mv (Ev.t (v := .int .i64 2) rfl rfl)) ?_
          refine w_val (v := .bool true) (y_bin (Ev.t (v := .int .i64 2) rfl rfl) (Ev.c (v := .int .i64 0)) b_neq) ?_
          refine w_val (v := .bool true) (y_mv (Ev.t (v := .bool true) rfl rfl)) ?_
          first | with_reducible refine w_skip ?_ ?_ | refine w_skip ?_ ?_
          · exact want_no (j := 2) rfl rfl (Ev.t (v := .bool true) rfl rfl) rfl
          first | with_reducible refine w_skip ?_ ?_ | refine w_skip ?_ ?_
          · exact want_no (j := 2) rfl rfl (Ev.t (v := .bool true) rfl rfl) rfl
          refine w_val (v := .bool true) (y_pick_t (Ev.t (v := .bool true) rfl rfl) (Ev.c (v := .bool true))) ?_
          refine wpList_nil ?_
          refine then_n ?_
          refine c_tt (Ev.t (v := .bool true) rfl rfl) ?_
          refine wp_seq ?_
          refine wp_region_lit ?_
          refine w_val (v := .bool true) (y_as (Ev.c (v := .bool true))) ?_
          refine wpList_nil ?_
          refine then_n ?_
          refine wp_ret ?_
          refine then_r ?_
          refine inb_r ?_
          refine then_r ?_
          refine then_r ?_
          refine inb_r ?_
          refine then_r ?_
          refine fin_ret1 rfl (Ev.t (v := .bool true) rfl rfl) ?_
          exact ⟨rfl, hk⟩
        · skip
          refine wp_skip ?_
          refine then_n ?_
          refine wp_seq ?_
          refine wp_region_lit ?_
          refine w_val (v := .pointer (some ⟨b_c, 0, none⟩)) (y_off (y_fa (Ev.t (v := .pointer (some ⟨b_c, 0, none⟩)) s1_4 rfl) (CtrPiecesWT.fa34_0 _ _)) (by first | rfl | omega)) ?_
          refine w_val (v := .string (str s)) (y_ld (Ev.t (v := .pointer (some ⟨b_c, 0, none⟩)) rfl rfl) CtrPiecesWT.sc9 (r_b_c.val (v := .string (str s)) (by omega) ((if_pos (by omega)).trans (by first | with_reducible rfl | (with_reducible congr 1 <;> omega) | (with_reducible congr 2 <;> omega) | (with_reducible congr 3 <;> omega) | rfl)))) ?_
          refine w_val (v := .pointer (some ⟨b_c, 1, none⟩)) (y_off (y_fa (Ev.t (v := .pointer (some ⟨b_c, 0, none⟩)) s1_4 rfl) (CtrPiecesWT.fa34_1 _ _)) (by first | rfl | omega)) ?_
          refine w_val (v := .int .i64 d) (y_ld (Ev.t (v := .pointer (some ⟨b_c, 1, none⟩)) rfl rfl) CtrPiecesWT.sc3 (r_b_c.val (v := .int .i64 d) (by omega) ((if_neg (by omega)).trans (by first | with_reducible rfl | (with_reducible congr 1 <;> omega) | (with_reducible congr 2 <;> omega) | (with_reducible congr 3 <;> omega) | rfl)))) ?_
          refine w_val (v := .string (str ([] : List (BitVec 8)))) (y_mv (Ev.t (v := .string (str ([] : List (BitVec 8)))) s1_7 rfl)) ?_
          refine w_val (v := .int .i64 0) (y_len (Ev.t (v := .string (str ([] : List (BitVec 8)))) rfl rfl) Try.underlying9) ?_
          refine w_val (v := .int .i64 (0 / 16)) (y_bin (Ev.t (v := .int .i64 0) rfl rfl) (Ev.c (v := .int .i64 16)) (b_quo (by omega))) ?_
          refine w_val (v := U64 (BitVec.ofNat 64 (0 / 16))) (y_nat_u64 (p := (0 / 16)) (Ev.t (v := .int .i64 (0 / 16)) rfl rfl) (by omega) CtrPiecesWT.so3 Try.underlying35) ?_
          refine w_call (Try.func19) (by kernel_rfl) rfl (m3 (Ev.t (v := .string (str s)) rfl rfl) (Ev.t (v := .int .i64 d) rfl rfl) (Ev.t (v := U64 (BitVec.ofNat 64 (0 / 16))) rfl rfl)) (next_d s d hs hd _ w6) ?_
          rintro _ w14 ⟨rfl, hb15⟩
          refine ⟨_, rfl, ?_⟩
          replace r_b_c := r_b_c.step hb15
          replace hk := thenB hk hb15
          refine w_val (v := .tuple #[.string (str ([] : List (BitVec 8))), .int .i64 2]) (y_mv (Ev.t (v := .tuple #[.string (str ([] : List (BitVec 8))), .int .i64 2]) rfl rfl)) ?_
          refine w_val (v := .string (str ([] : List (BitVec 8)))) (y_ext (v := .string (str ([] : List (BitVec 8)))) (Ev.t (v := .tuple #[.string (str ([] : List (BitVec 8))), .int .i64 2]) rfl rfl) rfl) ?_
          refine w_val (v := .int .i64 2) (y_ext (v := .int .i64 2) (Ev.t (v := .tuple #[.string (str ([] : List (BitVec 8))), .int .i64 2]) rfl rfl) rfl) ?_
          refine w_val (v := .string (str ([] : List (BitVec 8)))) (y_as (Ev.t (v := .string (str ([] : List (BitVec 8)))) rfl rfl)) ?_
          refine w_val (v := .int .i64 2) (y_as (Ev.t (v := .int .i64 2) rfl rfl)) ?_
          refine wpList_nil ?_
          refine then_n ?_
          refine wp_seq ?_
          refine wp_region_lit ?_
          refine w_val (v := .string (str key)) (y_mv (Ev.t (v := .string (str key)) s1_0 rfl)) ?_
          refine w_val (v := .string (str ([] : List (BitVec 8)))) (y_mv (Ev.t (v := .string (str ([] : List (BitVec 8)))) rfl rfl)) ?_
          refine w_val (v := .pointer (some ⟨b_c, 1, none⟩)) (y_off (y_fa (Ev.t (v := .pointer (some ⟨b_c, 0, none⟩)) s1_4 rfl) (CtrPiecesWT.fa34_1 _ _)) (by first | rfl | omega)) ?_
          refine w_val (v := .int .i64 d) (y_ld (Ev.t (v := .pointer (some ⟨b_c, 1, none⟩)) rfl rfl) CtrPiecesWT.sc3 (r_b_c.val (v := .int .i64 d) (by omega) ((if_neg (by omega)).trans (by first | with_reducible rfl | (with_reducible congr 1 <;> omega) | (with_reducible congr 2 <;> omega) | (with_reducible congr 3 <;> omega) | rfl)))) ?_
          refine w_val (v := .string (str (l 0))) (y_mv (Ev.t (v := .string (str (l 0))) rfl rfl)) ?_
          refine w_call (Try.func21) (by kernel_rfl) rfl (m4 (Ev.t (v := .string (str key)) rfl rfl) (Ev.t (v := .string (str ([] : List (BitVec 8)))) rfl rfl) (Ev.t (v := .int .i64 d) rfl rfl) (Ev.t (v := .string (str (l 0))) rfl rfl)) (ctrXor_k key hok ([] : List (BitVec 8)) d (l 0) w14) ?_
          rintro _ w16 ⟨rfl, hb17⟩
          refine ⟨_, rfl, ?_⟩
          replace r_b_c := r_b_c.step hb17
          replace hk := thenB hk hb17
          refine w_val (v := .tuple #[.string (str ([] : List (BitVec 8))), .int .i64 3]) (y_mv (Ev.t (v := .tuple #[.string (str ([] : List (BitVec 8))), .int .i64 3]) rfl rfl)) ?_
          refine w_val (v := .string (str ([] : List (BitVec 8)))) (y_ext (v := .string (str ([] : List (BitVec 8)))) (Ev.t (v := .tuple #[.string (str ([] : List (BitVec 8))), .int .i64 3]) rfl rfl) rfl) ?_
          refine w_val (v := .int .i64 3) (y_ext (v := .int .i64 3) (Ev.t (v := .tuple #[.string (str ([] : List (BitVec 8))), .int .i64 3]) rfl rfl) rfl) ?_
          refine w_val (v := .string (str ([] : List (BitVec 8)))) (y_as (Ev.t (v := .string (str ([] : List (BitVec 8)))) rfl rfl)) ?_
          refine w_val (v := .int .i64 3) (y_as (Ev.t (v := .int .i64 3) rfl rfl)) ?_
          refine wpList_nil ?_
          refine then_n ?_
          refine wp_seq ?_
          refine wp_seq ?_
          refine wp_region_lit ?_
          refine w_val (v := .int .i64 2) (y_mv (Ev.t (v := .int .i64 2) rfl rfl)) ?_
          refine w_val (v := .bool true) (y_bin (Ev.t (v := .int .i64 2) rfl rfl) (Ev.c (v := .int .i64 0)) b_neq) ?_
          refine w_val (v := .bool true) (y_mv (Ev.t (v := .bool true) rfl rfl)) ?_
          first | with_reducible refine w_skip ?_ ?_ | refine w_skip ?_ ?_
          · exact want_no (j := 2) rfl rfl (Ev.t (v := .bool true) rfl rfl) rfl
          first | with_reducible refine w_skip ?_ ?_ | refine w_skip ?_ ?_
          · exact want_no (j := 2) rfl rfl (Ev.t (v := .bool true) rfl rfl) rfl
          refine w_val (v := .bool true) (y_pick_t (Ev.t (v := .bool true) rfl rfl) (Ev.c (v := .bool true))) ?_
          refine wpList_nil ?_
          refine then_n ?_
          refine c_tt (Ev.t (v := .bool true) rfl rfl) ?_
          refine wp_seq ?_
          refine wp_region_lit ?_
          refine w_val (v := .bool true) (y_as (Ev.c (v := .bool true))) ?_
          refine wpList_nil ?_
          refine then_n ?_
          refine wp_ret ?_
          refine then_r ?_
          refine inb_r ?_
          refine then_r ?_
          refine then_r ?_
          refine inb_r ?_
          refine then_r ?_
          refine fin_ret1 rfl (Ev.t (v := .bool true) rfl rfl) ?_
          exact ⟨rfl, hk⟩
    · skip
      refine wp_exit ?_
      refine then_x ?_
      refine then_x ?_
      refine inb_x ?_
      refine then_n ?_
      refine wp_seq ?_
      refine wp_region_lit ?_
      refine w_val (v := .string (str key)) (y_mv (Ev.t (v := .string (str key)) s1_0 rfl)) ?_
      refine w_val (v := .pointer (some ⟨b_c, 0, none⟩)) (y_off (y_fa (Ev.t (v := .pointer (some ⟨b_c, 0, none⟩)) s1_4 rfl) (CtrPiecesWT.fa34_0 _ _)) (by first | rfl | omega)) ?_
      refine w_val (v := .string (str s)) (y_ld (Ev.t (v := .pointer (some ⟨b_c, 0, none⟩)) rfl rfl) CtrPiecesWT.sc9 (r_b_c.val (v := .string (str s)) (by omega) ((if_pos (by omega)).trans (by first | with_reducible rfl | (with_reducible congr 1 <;> omega) | (with_reducible congr 2 <;> omega) | (with_reducible congr 3 <;> omega) | rfl)))) ?_
      refine w_val (v := .pointer (some ⟨b_c, 1, none⟩)) (y_off (y_fa (Ev.t (v := .pointer (some ⟨b_c, 0, none⟩)) s1_4 rfl) (CtrPiecesWT.fa34_1 _ _)) (by first | rfl | omega)) ?_
      refine w_val (v := .int .i64 d) (y_ld (Ev.t (v := .pointer (some ⟨b_c, 1, none⟩)) rfl rfl) CtrPiecesWT.sc3 (r_b_c.val (v := .int .i64 d) (by omega) ((if_neg (by omega)).trans (by first | with_reducible rfl | (with_reducible congr 1 <;> omega) | (with_reducible congr 2 <;> omega) | (with_reducible congr 3 <;> omega) | rfl)))) ?_
      refine w_val (v := .string (str ([] : List (BitVec 8)))) (y_mv (Ev.t (v := .string (str ([] : List (BitVec 8)))) s1_7 rfl)) ?_
      refine w_call (Try.func21) (by kernel_rfl) rfl (m4 (Ev.t (v := .string (str key)) rfl rfl) (Ev.t (v := .string (str s)) rfl rfl) (Ev.t (v := .int .i64 d) rfl rfl) (Ev.t (v := .string (str ([] : List (BitVec 8)))) rfl rfl)) (ctrXor_k key hok s d ([] : List (BitVec 8)) w6) ?_
      rintro _ w18 ⟨rfl, hb19⟩
      refine ⟨_, rfl, ?_⟩
      replace r_b_c := r_b_c.step hb19
      replace hk := thenB hk hb19
      refine w_val (v := .tuple #[.string (str ([] : List (BitVec 8))), .int .i64 3]) (y_mv (Ev.t (v := .tuple #[.string (str ([] : List (BitVec 8))), .int .i64 3]) rfl rfl)) ?_
      refine w_val (v := .string (str ([] : List (BitVec 8)))) (y_ext (v := .string (str ([] : List (BitVec 8)))) (Ev.t (v := .tuple #[.string (str ([] : List (BitVec 8))), .int .i64 3]) rfl rfl) rfl) ?_
      refine w_val (v := .int .i64 3) (y_ext (v := .int .i64 3) (Ev.t (v := .tuple #[.string (str ([] : List (BitVec 8))), .int .i64 3]) rfl rfl) rfl) ?_
      refine w_val (v := .string (str ([] : List (BitVec 8)))) (y_as (Ev.t (v := .string (str ([] : List (BitVec 8)))) rfl rfl)) ?_
      refine w_val (v := .int .i64 3) (y_as (Ev.t (v := .int .i64 3) rfl rfl)) ?_
      refine wpList_nil ?_
      refine then_n ?_
      refine wp_seq ?_
      refine wp_region_lit ?_
      refine w_val (v := .slice (some ⟨g, off, none⟩) n cap) (y_mv (Ev.t (v := .slice (some ⟨g, off, none⟩) n cap) s1_2 rfl)) ?_
      refine w_val (v := .int .i64 ((n : Nat) : Int)) (y_len_sl (Ev.t (v := .slice (some ⟨g, off, none⟩) n cap) rfl rfl) Try.underlying42) ?_
      refine w_val (v := .bool (decide (((n : Nat) : Int) = 0))) (y_bin (Ev.t (v := .int .i64 ((n : Nat) : Int)) rfl rfl) (Ev.c (v := .int .i64 0)) b_eql) ?_
      refine w_val (v := .bool (decide (((n : Nat) : Int) = 0))) (y_mv (Ev.t (v := .bool (decide (((n : Nat) : Int) = 0))) rfl rfl)) ?_
      have hc20 : ((n : Nat) : Int) = 0 := by omega
      first | with_reducible refine w_skip ?_ ?_ | refine w_skip ?_ ?_
      · exact want_no (j := 3) rfl rfl (Ev.t (v := .bool true) (Eq.trans (b := .bool (decide (((n : Nat) : Int) = 0))) rfl (by rw [decide_eq_true hc20])) rfl) rfl
      first | with_reducible refine w_skip ?_ ?_ | refine w_skip ?_ ?_
      · exact want_no (j := 3) rfl rfl (Ev.t (v := .bool true) (Eq.trans (b := .bool (decide (((n : Nat) : Int) = 0))) rfl (by rw [decide_eq_true hc20])) rfl) rfl
      first | with_reducible refine w_skip ?_ ?_ | refine w_skip ?_ ?_
      · exact want_no (j := 3) rfl rfl (Ev.t (v := .bool true) (Eq.trans (b := .bool (decide (((n : Nat) : Int) = 0))) rfl (by rw [decide_eq_true hc20])) rfl) rfl
      first | with_reducible refine w_skip ?_ ?_ | refine w_skip ?_ ?_
      · exact want_un (j := 6) rfl rfl (Ev.t (v := undef) rfl rfl) rfl
      first | with_reducible refine w_skip ?_ ?_ | refine w_skip ?_ ?_
      · exact want_un (j := 6) rfl rfl (Ev.t (v := undef) rfl rfl) rfl
      first | with_reducible refine w_skip ?_ ?_ | refine w_skip ?_ ?_
      · exact want_un (j := 6) rfl rfl (Ev.t (v := undef) rfl rfl) rfl
      first | with_reducible refine w_skip ?_ ?_ | refine w_skip ?_ ?_
      · exact want_no (j := 3) rfl rfl (Ev.t (v := .bool true) (Eq.trans (b := .bool (decide (((n : Nat) : Int) = 0))) rfl (by rw [decide_eq_true hc20])) rfl) rfl
      refine w_val (v := .bool true) (y_pick_t (Ev.t (v := .bool true) (Eq.trans (b := .bool (decide (((n : Nat) : Int) = 0))) rfl (by rw [decide_eq_true hc20])) rfl) (Ev.c (v := .bool true))) ?_
      refine w_val (v := .bool true) (y_as (Ev.t (v := .bool true) rfl rfl)) ?_
      refine wpList_nil ?_
      refine then_n ?_
      refine wp_ret ?_
      refine fin_ret1 rfl (Ev.t (v := .bool true) rfl rfl) ?_
      exact ⟨rfl, hk⟩

set_option maxRecDepth 100000 in
set_option maxHeartbeats 1000000 in
theorem ctrPieces_dy (key : List (BitVec 8)) (hok : Aes.okKey key.length) (s : List (BitVec 8)) (d : Int) (hs : s.length = 16) (hd : ¬ (1 ≤ d ∧ d ≤ 16)) (g off n cap : Nat) (hn : n ≤ 140737488351232) (l : Nat → List (BitVec 8))  (w0 : World) (hgl : g < w0.heap.size) (hl : ∀ i, i < n → w0.cell? ⟨g, off + i, none⟩ = some (.string (str (l i)))) : Calls Try.prog 9 #[.string (str key), .agg (arr 2 (fun j => if j < 1 then .string (str s) else .int .i64 d)), .slice (some ⟨g, off, none⟩) n cap] w0 fun e w' => e = .returned (.bool true) ∧ Below w0.heap.size w0 w' := by
  refine enter (n := 106) Try.func9 rfl rfl rfl ?_
  have hk : Below w0.heap.size w0 w0 := Below.refl _ _
  refine wp_seq ?_
  refine wp_region_lit ?_
  refine w_box (m := 2) (F := fun j => if j < 1 then .string (str s) else .int .i64 d) (Ev.t (v := .agg (arr 2 (fun j => if j < 1 then .string (str s) else .int .i64 d))) rfl rfl) rfl ?_
  intro b_c w1 hbe_b_c r_b_c hb2
  have ge_b_c : w0.heap.size ≤ b_c := by have := hk.size; omega
  clear hbe_b_c
  replace hk := thenB hk hb2
  refine w_val (v := .bool false) (y_as (Ev.c (v := .bool false))) ?_
  refine wpList_nil ?_
  refine then_n ?_
  refine wp_seq ?_
  refine wp_seq ?_
  refine wp_region_lit ?_
  refine w_call (Try.func18) (by kernel_rfl) rfl m0 (ctrWakes_c  w1) ?_
  rintro _ w3 ⟨rfl, hb4⟩
  refine ⟨_, rfl, ?_⟩
  replace r_b_c := r_b_c.step hb4
  replace hk := thenB hk hb4
  refine w_val (v := .bool false) (y_not (Ev.t (v := .bool true) rfl rfl)) ?_
  refine wpList_nil ?_
  refine then_n ?_
  refine c_ff (Ev.t (v := .bool false) rfl rfl) ?_
  refine wp_skip ?_
  refine then_n ?_
  refine wp_seq ?_
  refine wp_region_lit ?_
  refine w_val (v := .string (str ([] : List (BitVec 8)))) (y_as (Ev.c (v := .string (str ([] : List (BitVec 8)))))) ?_
  refine w_val (v := .string (str ([] : List (BitVec 8)))) (y_as (Ev.c (v := .string (str ([] : List (BitVec 8)))))) ?_
  refine wpList_nil ?_
  refine then_n ?_
  refine wp_seq ?_
  refine wp_seq ?_
  refine wp_region_lit ?_
  refine w_val (v := .slice (some ⟨g, off, none⟩) n cap) (y_mv (Ev.t (v := .slice (some ⟨g, off, none⟩) n cap) rfl rfl)) ?_
  refine w_val (v := .int .i64 ((n : Nat) : Int)) (y_len_sl (Ev.t (v := .slice (some ⟨g, off, none⟩) n cap) rfl rfl) Try.underlying42) ?_
  refine w_val (v := .int .i64 0) (y_mv (Ev.c (v := .int .i64 0))) ?_
  refine wpList_nil ?_
  refine then_n ?_
  refine wp_block ?_
  refine c_loop (fun dN aN wl => dN = 0 ∧ ∃ f5, aN = fr 106 f5 ∧ f5 0 = .string (str key) ∧ f5 1 = .agg (arr 2 (fun j => if j < 1 then .string (str s) else .int .i64 d)) ∧ f5 2 = .slice (some ⟨g, off, none⟩) n cap ∧ f5 4 = .pointer (some ⟨b_c, 0, none⟩) ∧ f5 7 = .string (str ([] : List (BitVec 8))) ∧ f5 8 = .string (str ([] : List (BitVec 8))) ∧ f5 20 = .int .i64 ((n : Nat) : Int) ∧ f5 21 = .int .i64 0 ∧ Row wl b_c 34 2 (fun j => if j < 1 then .string (str s) else .int .i64 d) ∧ Below w0.heap.size w0 wl) 0 ?_ ?_
  · exact ⟨rfl, _, rfl, rfl, rfl, rfl, rfl, rfl, rfl, rfl, rfl, r_b_c, hk⟩
  · skip
    clear r_b_c hk
    rintro _ _ w6 ⟨rfl, f5, rfl, s1_0, s1_1, s1_2, s1_4, s1_7, s1_8, s1_20, s1_21, r_b_c, hk⟩
    refine wp_seq ?_
    refine wp_region_lit ?_
    refine w_val (v := .bool (decide (0 < ((n : Nat) : Int)))) (y_bin (Ev.t (v := .int .i64 0) s1_21 rfl) (Ev.t (v := .int .i64 ((n : Nat) : Int)) s1_20 rfl) b_lss) ?_
    refine wpList_nil ?_
    refine then_n ?_
    refine wp_seq ?_
    refine c_if (p := 0 < ((n : Nat) : Int)) (Ev.t (v := .bool (decide (0 < ((n : Nat) : Int)))) rfl rfl) (fun hc7 => ?_) (fun hc7 => ?_)
    · skip
      refine wp_skip ?_
      refine then_n ?_
      refine wp_seq ?_
      refine wp_block ?_
      refine wp_seq ?_
      refine wp_region_lit ?_
      refine w_val (v := .int .i64 0) (y_mv (Ev.t (v := .int .i64 0) s1_21 rfl)) ?_
      refine w_val (v := .int .i64 0) (y_as (Ev.t (v := .int .i64 0) rfl rfl)) ?_
      refine wpList_nil ?_
      refine then_n ?_
      refine wp_seq ?_
      refine wp_seq ?_
      refine wp_region_lit ?_
      refine w_val (v := .string (str ([] : List (BitVec 8)))) (y_mv (Ev.t (v := .string (str ([] : List (BitVec 8)))) s1_7 rfl)) ?_
      refine w_val (v := .int .i64 0) (y_len (Ev.t (v := .string (str ([] : List (BitVec 8)))) rfl rfl) Try.underlying9) ?_
      refine w_val (v := .bool false) (y_bin (Ev.t (v := .int .i64 0) rfl rfl) (Ev.c (v := .int .i64 1000)) b_gtr) ?_
      refine w_val (v := .bool false) (y_mv (Ev.t (v := .bool false) rfl rfl)) ?_
      refine w_val_g (v := .slice (some ⟨g, off, none⟩) n cap) (want_yes (j := 3) rfl rfl (Ev.t (v := .bool false) rfl rfl) rfl) (y_mv (Ev.t (v := .slice (some ⟨g, off, none⟩) n cap) s1_2 rfl)) ?_
      refine w_val_g (v := .int .i64 0) (want_yes (j := 3) rfl rfl (Ev.t (v := .bool false) rfl rfl) rfl) (y_mv (Ev.t (v := .int .i64 0) rfl rfl)) ?_
      refine w_val_g (v := .pointer (some ⟨g, off, none⟩)) (want_yes (j := 3) rfl rfl (Ev.t (v := .bool false) rfl rfl) rfl) (y_off (y_is1 (i := 0) (Ev.t (v := .slice (some ⟨g, off, none⟩) n cap) rfl rfl) (Ev.t (v := .int .i64 0) rfl rfl) Try.underlying42 CtrPiecesWT.sz9 (by omega) (by omega)) (by first | rfl | omega)) ?_
      refine w_val_g (v := .string (str (l 0))) (want_yes (j := 3) rfl rfl (Ev.t (v := .bool false) rfl rfl) rfl) (y_ld (Ev.t (v := .pointer (some ⟨g, off, none⟩)) rfl rfl) CtrPiecesWT.sc9 ((hk.cell (p := ⟨g, off, none⟩) hgl).trans (hl 0 (by omega)))) ?_
      refine w_val_g (v := .int .i64 (((l 0).length : Nat) : Int)) (want_yes (j := 3) rfl rfl (Ev.t (v := .bool false) rfl rfl) rfl) (y_len (Ev.t (v := .string (str (l 0))) rfl rfl) Try.underlying9) ?_
      refine w_val_g (v := .bool (decide (1000 < (((l 0).length : Nat) : Int)))) (want_yes (j := 3) rfl rfl (Ev.t (v := .bool false) rfl rfl) rfl) (y_bin (Ev.t (v := .int .i64 (((l 0).length : Nat) : Int)) rfl rfl) (Ev.c (v := .int .i64 1000)) b_gtr) ?_
      refine w_val (v := .bool (decide (1000 < (((l 0).length : Nat) : Int)))) (y_pick_f (Ev.t (v := .bool false) rfl rfl) (Ev.t (v := .bool (decide (1000 < (((l 0).length : Nat) : Int)))) rfl rfl)) ?_
      refine wpList_nil ?_
      refine then_n ?_
      refine c_if (p := 1000 < (((l 0).length : Nat) : Int)) (Ev.t (v := .bool (decide (1000 < (((l 0).length : Nat) : Int)))) rfl rfl) (fun hc8 => ?_) (fun hc8 => ?_)
      · skip
        refine wp_seq ?_
        refine wp_region_lit ?_
        refine w_val (v := .bool true) (y_as (Ev.c (v := .bool true))) ?_
        refine wpList_nil ?_
        refine then_n ?_
        refine wp_ret ?_
        refine then_r ?_
        refine inb_r ?_
        refine then_r ?_
        refine then_r ?_
        refine inb_r ?_
        refine then_r ?_
        refine fin_ret1 rfl (Ev.t (v := .bool true) rfl rfl) ?_
        exact ⟨rfl, hk⟩
      · skip
        refine wp_skip ?_
        refine then_n ?_
        refine wp_seq ?_
        refine wp_region_lit ?_
        refine w_val (v := .slice (some ⟨g, off, none⟩) n cap) (y_mv (Ev.t (v := .slice (some ⟨g, off, none⟩) n cap) s1_2 rfl)) ?_
        refine w_val (v := .int .i64 0) (y_mv (Ev.t (v := .int .i64 0) rfl rfl)) ?_
        refine w_val (v := .pointer (some ⟨g, off, none⟩)) (y_off (y_is1 (i := 0) (Ev.t (v := .slice (some ⟨g, off, none⟩) n cap) rfl rfl) (Ev.t (v := .int .i64 0) rfl rfl) Try.underlying42 CtrPiecesWT.sz9 (by omega) (by omega)) (by first | rfl | omega)) ?_
        refine w_val (v := .string (str (l 0))) (y_ld (Ev.t (v := .pointer (some ⟨g, off, none⟩)) rfl rfl) CtrPiecesWT.sc9 ((hk.cell (p := ⟨g, off, none⟩) hgl).trans (hl 0 (by omega)))) ?_
        refine w_val (v := .string (str (l 0))) (y_as (Ev.t (v := .string (str (l 0))) rfl rfl)) ?_
        refine wpList_nil ?_
        refine then_n ?_
        refine wp_seq ?_
        refine wp_seq ?_
        refine wp_region_lit ?_
        refine w_val (v := .int .i64 0) (y_mv (Ev.t (v := .int .i64 0) rfl rfl)) ?_
        refine w_val (v := .slice (some ⟨g, off, none⟩) n cap) (y_mv (Ev.t (v := .slice (some ⟨g, off, none⟩) n cap) s1_2 rfl)) ?_
        refine w_val (v := .int .i64 ((n : Nat) : Int)) (y_len_sl (Ev.t (v := .slice (some ⟨g, off, none⟩) n cap) rfl rfl) Try.underlying42) ?_
        refine w_val (v := .int .i64 (((n : Nat) : Int) - 1)) (y_bin (Ev.t (v := .int .i64 ((n : Nat) : Int)) rfl rfl) (Ev.c (v := .int .i64 1)) (b_sub (by omega))) ?_
        refine w_val (v := .bool (decide (0 < (((n : Nat) : Int) - 1)))) (y_bin (Ev.t (v := .int .i64 0) rfl rfl) (Ev.t (v := .int .i64 (((n : Nat) : Int) - 1)) rfl rfl) b_lss) ?_
        refine wpList_nil ?_
        refine then_n ?_
        refine c_if (p := 0 < (((n : Nat) : Int) - 1)) (Ev.t (v := .bool (decide (0 < (((n : Nat) : Int) - 1)))) rfl rfl) (fun hc9 => ?_) (fun hc9 => ?_)
        · skip
          refine wp_region_lit ?_
          refine w_val (v := .string (str (l 0))) (y_mv (Ev.t (v := .string (str (l 0))) rfl rfl)) ?_
          refine w_val (v := .string (str (l 0))) (y_mv (Ev.t (v := .string (str (l 0))) rfl rfl)) ?_
          refine w_val (v := .int .i64 (((l 0).length : Nat) : Int)) (y_len (Ev.t (v := .string (str (l 0))) rfl rfl) Try.underlying9) ?_
          refine w_val (v := .int .i64 ((((l 0).length : Nat) : Int) / 16)) (y_bin (Ev.t (v := .int .i64 (((l 0).length : Nat) : Int)) rfl rfl) (Ev.c (v := .int .i64 16)) (b_quo (by omega))) ?_
          refine w_val (v := .int .i64 (((((l 0).length : Nat) : Int) / 16) * 16)) (y_bin (Ev.t (v := .int .i64 ((((l 0).length : Nat) : Int) / 16)) rfl rfl) (Ev.c (v := .int .i64 16)) (b_mul (by omega))) ?_
          refine w_val (v := .string (str ((l 0).take ((((l 0).length) / 16) * 16)))) (y_sls (Ev.t (v := .string (str (l 0))) rfl rfl) evo.no (evo.s (Ev.t (v := .int .i64 (((((l 0).length : Nat) : Int) / 16) * 16)) rfl rfl)) Try.underlying9 (bnd_h (h := ((((l 0).length) / 16) * 16)) (by omega) (by omega))) ?_
          refine w_val (v := .string (str ((l 0).take ((((l 0).length) / 16) * 16)))) (y_as (Ev.t (v := .string (str ((l 0).take ((((l 0).length) / 16) * 16)))) rfl rfl)) ?_
          refine wpList_nil ?_
          refine then_n ?_
          refine wp_seq ?_
          refine wp_region_lit ?_
          refine w_val (v := .pointer (some ⟨b_c, 0, none⟩)) (y_off (y_fa (Ev.t (v := .pointer (some ⟨b_c, 0, none⟩)) s1_4 rfl) (CtrPiecesWT.fa34_0 _ _)) (by first | rfl | omega)) ?_
          refine w_val (v := .string (str s)) (y_ld (Ev.t (v := .pointer (some ⟨b_c, 0, none⟩)) rfl rfl) CtrPiecesWT.sc9 (r_b_c.val (v := .string (str s)) (by omega) ((if_pos (by omega)).trans (by first | with_reducible rfl | (with_reducible congr 1 <;> omega) | (with_reducible congr 2 <;> omega) | (with_reducible congr 3 <;> omega) | rfl)))) ?_
          refine w_val (v := .pointer (some ⟨b_c, 1, none⟩)) (y_off (y_fa (Ev.t (v := .pointer (some ⟨b_c, 0, none⟩)) s1_4 rfl) (CtrPiecesWT.fa34_1 _ _)) (by first | rfl | omega)) ?_
          refine w_val (v := .int .i64 d) (y_ld (Ev.t (v := .pointer (some ⟨b_c, 1, none⟩)) rfl rfl) CtrPiecesWT.sc3 (r_b_c.val (v := .int .i64 d) (by omega) ((if_neg (by omega)).trans (by first | with_reducible rfl | (with_reducible congr 1 <;> omega) | (with_reducible congr 2 <;> omega) | (with_reducible congr 3 <;> omega) | rfl)))) ?_
          refine w_val (v := .string (str ([] : List (BitVec 8)))) (y_mv (Ev.t (v := .string (str ([] : List (BitVec 8)))) s1_7 rfl)) ?_
          refine w_val (v := .int .i64 0) (y_len (Ev.t (v := .string (str ([] : List (BitVec 8)))) rfl rfl) Try.underlying9) ?_
          refine w_val (v := .int .i64 (0 / 16)) (y_bin (Ev.t (v := .int .i64 0) rfl rfl) (Ev.c (v := .int .i64 16)) (b_quo (by omega))) ?_
          refine w_val (v := U64 (BitVec.ofNat 64 (0 / 16))) (y_nat_u64 (p := (0 / 16)) (Ev.t (v := .int .i64 (0 / 16)) rfl rfl) (by omega) CtrPiecesWT.so3 Try.underlying35) ?_
          refine w_call (Try.func19) (by kernel_rfl) rfl (m3 (Ev.t (v := .string (str s)) rfl rfl) (Ev.t (v := .int .i64 d) rfl rfl) (Ev.t (v := U64 (BitVec.ofNat 64 (0 / 16))) rfl rfl)) (next_d s d hs hd _ w6) ?_
          rintro _ w10 ⟨rfl, hb11⟩
          refine ⟨_, rfl, ?_⟩
          replace r_b_c := r_b_c.step hb11
          replace hk := thenB hk hb11
          refine w_val (v := .tuple #[.string (str ([] : List (BitVec 8))), .int .i64 2]) (y_mv (Ev.t (v := .tuple #[.string (str ([] : List (BitVec 8))), .int .i64 2]) rfl rfl)) ?_
          refine w_val (v := .string (str ([] : List (BitVec 8)))) (y_ext (v := .string (str ([] : List (BitVec 8)))) (Ev.t (v := .tuple #[.string (str ([] : List (BitVec 8))), .int .i64 2]) rfl rfl) rfl) ?_
          refine w_val (v := .int .i64 2) (y_ext (v := .int .i64 2) (Ev.t (v := .tuple #[.string (str ([] : List (BitVec 8))), .int .i64 2]) rfl rfl) rfl) ?_
          refine w_val (v := .string (str ([] : List (BitVec 8)))) (y_as (Ev.t (v := .string (str ([] : List (BitVec 8)))) rfl rfl)) ?_
          refine w_val (v := .int .i64 2) (y_as (Ev.t (v := .int .i64 2) rfl rfl)) ?_
          refine wpList_nil ?_
          refine then_n ?_
          refine wp_seq ?_
          refine wp_region_lit ?_
          refine w_val (v := .string (str key)) (y_mv (Ev.t (v := .string (str key)) s1_0 rfl)) ?_
          refine w_val (v := .string (str ([] : List (BitVec 8)))) (y_mv (Ev.t (v := .string (str ([] : List (BitVec 8)))) rfl rfl)) ?_
          refine w_val (v := .pointer (some ⟨b_c, 1, none⟩)) (y_off (y_fa (Ev.t (v := .pointer (some ⟨b_c, 0, none⟩)) s1_4 rfl) (CtrPiecesWT.fa34_1 _ _)) (by first | rfl | omega)) ?_
          refine w_val (v := .int .i64 d) (y_ld (Ev.t (v := .pointer (some ⟨b_c, 1, none⟩)) rfl rfl) CtrPiecesWT.sc3 (r_b_c.val (v := .int .i64 d) (by omega) ((if_neg (by omega)).trans (by first | with_reducible rfl | (with_reducible congr 1 <;> omega) | (with_reducible congr 2 <;> omega) | (with_reducible congr 3 <;> omega) | rfl)))) ?_
          refine w_val (v := .string (str ((l 0).take ((((l 0).length) / 16) * 16)))) (y_mv (Ev.t (v := .string (str ((l 0).take ((((l 0).length) / 16) * 16)))) rfl rfl)) ?_
          refine w_call (Try.func21) (by kernel_rfl) rfl (m4 (Ev.t (v := .string (str key)) rfl rfl) (Ev.t (v := .string (str ([] : List (BitVec 8)))) rfl rfl) (Ev.t (v := .int .i64 d) rfl rfl) (Ev.t (v := .string (str ((l 0).take ((((l 0).length) / 16) * 16)))) rfl rfl)) (ctrXor_i key ((l 0).take ((((l 0).length) / 16) * 16)) hok [] d (by decide) w10) ?_
          rintro _ w12 ⟨rfl, hb13⟩
          refine ⟨_, rfl, ?_⟩
          replace r_b_c := r_b_c.step hb13
          replace hk := thenB hk hb13
          refine w_val (v := .tuple #[.string (str ([] : List (BitVec 8))), .int .i64 4]) (y_mv (Ev.t (v := .tuple #[.string (str ([] : List (BitVec 8))), .int .i64 4]) rfl rfl)) ?_
          refine w_val (v := .string (str ([] : List (BitVec 8)))) (y_ext (v := .string (str ([] : List (BitVec 8)))) (Ev.t (v := .tuple #[.string (str ([] : List (BitVec 8))), .int .i64 4]) rfl rfl) rfl) ?_
          refine w_val (v := .int .i64 4) (y_ext (v := .int .i64 4) (Ev.t (v := .tuple #[.string (str ([] : List (BitVec 8))), .int .i64 4]) rfl rfl) rfl) ?_
          refine w_val (v := .string (str ([] : List (BitVec 8)))) (y_as (Ev.t (v := .string (str ([] : List (BitVec 8)))) rfl rfl)) ?_
          refine w_val (v := .int .i64 4) (y_as (Ev.t (v := .int .i64 4) rfl rfl)) ?_
          refine wpList_nil ?_
          refine then_n ?_
          refine wp_seq ?_
          refine wp_seq ?_
          refine wp_region_lit ?_
          refine w_val (v := .int .i64 2) (y_mv (Ev.t (v := .int .i64 2) rfl rfl)) ?_
          refine w_val (v := .bool true) (y_bin (Ev.t (v := .int .i64 2) rfl rfl) (Ev.c (v := .int .i64 0)) b_neq) ?_
          refine w_val (v := .bool true) (y_mv (Ev.t (v := .bool true) rfl rfl)) ?_
          first | with_reducible refine w_skip ?_ ?_ | refine w_skip ?_ ?_
          · exact want_no (j := 2) rfl rfl (Ev.t (v := .bool true) rfl rfl) rfl
          first | with_reducible refine w_skip ?_ ?_ | refine w_skip ?_ ?_
          · exact want_no (j := 2) rfl rfl (Ev.t (v := .bool true) rfl rfl) rfl
          refine w_val (v := .bool true) (y_pick_t (Ev.t (v := .bool true) rfl rfl) (Ev.c (v := .bool true))) ?_
          refine wpList_nil ?_
          refine then_n ?_
          refine c_tt (Ev.t (v := .bool true) rfl rfl) ?_
          refine wp_seq ?_
          refine wp_region_lit ?_
          refine w_val (v := .bool true) (y_as (Ev.c (v := .bool true))) ?_
          refine wpList_nil ?_
          refine then_n ?_
          refine wp_ret ?_
          refine then_r ?_
          refine inb_r ?_
          refine then_r ?_
          refine then_r ?_
          refine inb_r ?_
          refine then_r ?_
          refine fin_ret1 rfl (Ev.t (v := .bool true) rfl rfl) ?_
          exact ⟨rfl, hk⟩
        · skip
          refine wp_skip ?_
          refine then_n ?_
          refine wp_seq ?_
          refine wp_region_lit ?_
          refine w_val (v := .pointer (some ⟨b_c, 0, none⟩)) (y_off (y_fa (Ev.t (v := .pointer (some ⟨b_c, 0, none⟩)) s1_4 rfl) (CtrPiecesWT.fa34_0 _ _)) (by first | rfl | omega)) ?_
          refine w_val (v := .string (str s)) (y_ld (Ev.t (v := .pointer (some ⟨b_c, 0, none⟩)) rfl rfl) CtrPiecesWT.sc9 (r_b_c.val (v := .string (str s)) (by omega) ((if_pos (by omega)).trans (by first | with_reducible rfl | (with_reducible congr 1 <;> omega) | (with_reducible congr 2 <;> omega) | (with_reducible congr 3 <;> omega) | rfl)))) ?_
          refine w_val (v := .pointer (some ⟨b_c, 1, none⟩)) (y_off (y_fa (Ev.t (v := .pointer (some ⟨b_c, 0, none⟩)) s1_4 rfl) (CtrPiecesWT.fa34_1 _ _)) (by first | rfl | omega)) ?_
          refine w_val (v := .int .i64 d) (y_ld (Ev.t (v := .pointer (some ⟨b_c, 1, none⟩)) rfl rfl) CtrPiecesWT.sc3 (r_b_c.val (v := .int .i64 d) (by omega) ((if_neg (by omega)).trans (by first | with_reducible rfl | (with_reducible congr 1 <;> omega) | (with_reducible congr 2 <;> omega) | (with_reducible congr 3 <;> omega) | rfl)))) ?_
          refine w_val (v := .string (str ([] : List (BitVec 8)))) (y_mv (Ev.t (v := .string (str ([] : List (BitVec 8)))) s1_7 rfl)) ?_
          refine w_val (v := .int .i64 0) (y_len (Ev.t (v := .string (str ([] : List (BitVec 8)))) rfl rfl) Try.underlying9) ?_
          refine w_val (v := .int .i64 (0 / 16)) (y_bin (Ev.t (v := .int .i64 0) rfl rfl) (Ev.c (v := .int .i64 16)) (b_quo (by omega))) ?_
          refine w_val (v := U64 (BitVec.ofNat 64 (0 / 16))) (y_nat_u64 (p := (0 / 16)) (Ev.t (v := .int .i64 (0 / 16)) rfl rfl) (by omega) CtrPiecesWT.so3 Try.underlying35) ?_
          refine w_call (Try.func19) (by kernel_rfl) rfl (m3 (Ev.t (v := .string (str s)) rfl rfl) (Ev.t (v := .int .i64 d) rfl rfl) (Ev.t (v := U64 (BitVec.ofNat 64 (0 / 16))) rfl rfl)) (next_d s d hs hd _ w6) ?_
          rintro _ w14 ⟨rfl, hb15⟩
          refine ⟨_, rfl, ?_⟩
          replace r_b_c := r_b_c.step hb15
          replace hk := thenB hk hb15
          refine w_val (v := .tuple #[.string (str ([] : List (BitVec 8))), .int .i64 2]) (y_mv (Ev.t (v := .tuple #[.string (str ([] : List (BitVec 8))), .int .i64 2]) rfl rfl)) ?_
          refine w_val (v := .string (str ([] : List (BitVec 8)))) (y_ext (v := .string (str ([] : List (BitVec 8)))) (Ev.t (v := .tuple #[.string (str ([] : List (BitVec 8))), .int .i64 2]) rfl rfl) rfl) ?_
          refine w_val (v := .int .i64 2) (y_ext (v := .int .i64 2) (Ev.t (v := .tuple #[.string (str ([] : List (BitVec 8))), .int .i64 2]) rfl rfl) rfl) ?_
          refine w_val (v := .string (str ([] : List (BitVec 8)))) (y_as (Ev.t (v := .string (str ([] : List (BitVec 8)))) rfl rfl)) ?_
          refine w_val (v := .int .i64 2) (y_as (Ev.t (v := .int .i64 2) rfl rfl)) ?_
          refine wpList_nil ?_
          refine then_n ?_
          refine wp_seq ?_
          refine wp_region_lit ?_
          refine w_val (v := .string (str key)) (y_mv (Ev.t (v := .string (str key)) s1_0 rfl)) ?_
          refine w_val (v := .string (str ([] : List (BitVec 8)))) (y_mv (Ev.t (v := .string (str ([] : List (BitVec 8)))) rfl rfl)) ?_
          refine w_val (v := .pointer (some ⟨b_c, 1, none⟩)) (y_off (y_fa (Ev.t (v := .pointer (some ⟨b_c, 0, none⟩)) s1_4 rfl) (CtrPiecesWT.fa34_1 _ _)) (by first | rfl | omega)) ?_
          refine w_val (v := .int .i64 d) (y_ld (Ev.t (v := .pointer (some ⟨b_c, 1, none⟩)) rfl rfl) CtrPiecesWT.sc3 (r_b_c.val (v := .int .i64 d) (by omega) ((if_neg (by omega)).trans (by first | with_reducible rfl | (with_reducible congr 1 <;> omega) | (with_reducible congr 2 <;> omega) | (with_reducible congr 3 <;> omega) | rfl)))) ?_
          refine w_val (v := .string (str (l 0))) (y_mv (Ev.t (v := .string (str (l 0))) rfl rfl)) ?_
          refine w_call (Try.func21) (by kernel_rfl) rfl (m4 (Ev.t (v := .string (str key)) rfl rfl) (Ev.t (v := .string (str ([] : List (BitVec 8)))) rfl rfl) (Ev.t (v := .int .i64 d) rfl rfl) (Ev.t (v := .string (str (l 0))) rfl rfl)) (ctrXor_i key (l 0) hok [] d (by decide) w14) ?_
          rintro _ w16 ⟨rfl, hb17⟩
          refine ⟨_, rfl, ?_⟩
          replace r_b_c := r_b_c.step hb17
          replace hk := thenB hk hb17
          refine w_val (v := .tuple #[.string (str ([] : List (BitVec 8))), .int .i64 4]) (y_mv (Ev.t (v := .tuple #[.string (str ([] : List (BitVec 8))), .int .i64 4]) rfl rfl)) ?_
          refine w_val (v := .string (str ([] : List (BitVec 8)))) (y_ext (v := .string (str ([] : List (BitVec 8)))) (Ev.t (v := .tuple #[.string (str ([] : List (BitVec 8))), .int .i64 4]) rfl rfl) rfl) ?_
          refine w_val (v := .int .i64 4) (y_ext (v := .int .i64 4) (Ev.t (v := .tuple #[.string (str ([] : List (BitVec 8))), .int .i64 4]) rfl rfl) rfl) ?_
          refine w_val (v := .string (str ([] : List (BitVec 8)))) (y_as (Ev.t (v := .string (str ([] : List (BitVec 8)))) rfl rfl)) ?_
          refine w_val (v := .int .i64 4) (y_as (Ev.t (v := .int .i64 4) rfl rfl)) ?_
          refine wpList_nil ?_
          refine then_n ?_
          refine wp_seq ?_
          refine wp_seq ?_
          refine wp_region_lit ?_
          refine w_val (v := .int .i64 2) (y_mv (Ev.t (v := .int .i64 2) rfl rfl)) ?_
          refine w_val (v := .bool true) (y_bin (Ev.t (v := .int .i64 2) rfl rfl) (Ev.c (v := .int .i64 0)) b_neq) ?_
          refine w_val (v := .bool true) (y_mv (Ev.t (v := .bool true) rfl rfl)) ?_
          first | with_reducible refine w_skip ?_ ?_ | refine w_skip ?_ ?_
          · exact want_no (j := 2) rfl rfl (Ev.t (v := .bool true) rfl rfl) rfl
          first | with_reducible refine w_skip ?_ ?_ | refine w_skip ?_ ?_
          · exact want_no (j := 2) rfl rfl (Ev.t (v := .bool true) rfl rfl) rfl
          refine w_val (v := .bool true) (y_pick_t (Ev.t (v := .bool true) rfl rfl) (Ev.c (v := .bool true))) ?_
          refine wpList_nil ?_
          refine then_n ?_
          refine c_tt (Ev.t (v := .bool true) rfl rfl) ?_
          refine wp_seq ?_
          refine wp_region_lit ?_
          refine w_val (v := .bool true) (y_as (Ev.c (v := .bool true))) ?_
          refine wpList_nil ?_
          refine then_n ?_
          refine wp_ret ?_
          refine then_r ?_
          refine inb_r ?_
          refine then_r ?_
          refine then_r ?_
          refine inb_r ?_
          refine then_r ?_
          refine fin_ret1 rfl (Ev.t (v := .bool true) rfl rfl) ?_
          exact ⟨rfl, hk⟩
    · skip
      refine wp_exit ?_
      refine then_x ?_
      refine then_x ?_
      refine inb_x ?_
      refine then_n ?_
      refine wp_seq ?_
      refine wp_region_lit ?_
      refine w_val (v := .string (str key)) (y_mv (Ev.t (v := .string (str key)) s1_0 rfl)) ?_
      refine w_val (v := .pointer (some ⟨b_c, 0, none⟩)) (y_off (y_fa (Ev.t (v := .pointer (some ⟨b_c, 0, none⟩)) s1_4 rfl) (CtrPiecesWT.fa34_0 _ _)) (by first | rfl | omega)) ?_
      refine w_val (v := .string (str s)) (y_ld (Ev.t (v := .pointer (some ⟨b_c, 0, none⟩)) rfl rfl) CtrPiecesWT.sc9 (r_b_c.val (v := .string (str s)) (by omega) ((if_pos (by omega)).trans (by first | with_reducible rfl | (with_reducible congr 1 <;> omega) | (with_reducible congr 2 <;> omega) | (with_reducible congr 3 <;> omega) | rfl)))) ?_
      refine w_val (v := .pointer (some ⟨b_c, 1, none⟩)) (y_off (y_fa (Ev.t (v := .pointer (some ⟨b_c, 0, none⟩)) s1_4 rfl) (CtrPiecesWT.fa34_1 _ _)) (by first | rfl | omega)) ?_
      refine w_val (v := .int .i64 d) (y_ld (Ev.t (v := .pointer (some ⟨b_c, 1, none⟩)) rfl rfl) CtrPiecesWT.sc3 (r_b_c.val (v := .int .i64 d) (by omega) ((if_neg (by omega)).trans (by first | with_reducible rfl | (with_reducible congr 1 <;> omega) | (with_reducible congr 2 <;> omega) | (with_reducible congr 3 <;> omega) | rfl)))) ?_
      refine w_val (v := .string (str ([] : List (BitVec 8)))) (y_mv (Ev.t (v := .string (str ([] : List (BitVec 8)))) s1_7 rfl)) ?_
      refine w_call (Try.func21) (by kernel_rfl) rfl (m4 (Ev.t (v := .string (str key)) rfl rfl) (Ev.t (v := .string (str s)) rfl rfl) (Ev.t (v := .int .i64 d) rfl rfl) (Ev.t (v := .string (str ([] : List (BitVec 8)))) rfl rfl)) (ctrXor_d key ([] : List (BitVec 8)) hok s d hs hd w6) ?_
      rintro _ w18 ⟨rfl, hb19⟩
      refine ⟨_, rfl, ?_⟩
      replace r_b_c := r_b_c.step hb19
      replace hk := thenB hk hb19
      refine w_val (v := .tuple #[.string (str ([] : List (BitVec 8))), .int .i64 2]) (y_mv (Ev.t (v := .tuple #[.string (str ([] : List (BitVec 8))), .int .i64 2]) rfl rfl)) ?_
      refine w_val (v := .string (str ([] : List (BitVec 8)))) (y_ext (v := .string (str ([] : List (BitVec 8)))) (Ev.t (v := .tuple #[.string (str ([] : List (BitVec 8))), .int .i64 2]) rfl rfl) rfl) ?_
      refine w_val (v := .int .i64 2) (y_ext (v := .int .i64 2) (Ev.t (v := .tuple #[.string (str ([] : List (BitVec 8))), .int .i64 2]) rfl rfl) rfl) ?_
      refine w_val (v := .string (str ([] : List (BitVec 8)))) (y_as (Ev.t (v := .string (str ([] : List (BitVec 8)))) rfl rfl)) ?_
      refine w_val (v := .int .i64 2) (y_as (Ev.t (v := .int .i64 2) rfl rfl)) ?_
      refine wpList_nil ?_
      refine then_n ?_
      refine wp_seq ?_
      refine wp_region_lit ?_
      refine w_val (v := .slice (some ⟨g, off, none⟩) n cap) (y_mv (Ev.t (v := .slice (some ⟨g, off, none⟩) n cap) s1_2 rfl)) ?_
      refine w_val (v := .int .i64 ((n : Nat) : Int)) (y_len_sl (Ev.t (v := .slice (some ⟨g, off, none⟩) n cap) rfl rfl) Try.underlying42) ?_
      refine w_val (v := .bool (decide (((n : Nat) : Int) = 0))) (y_bin (Ev.t (v := .int .i64 ((n : Nat) : Int)) rfl rfl) (Ev.c (v := .int .i64 0)) b_eql) ?_
      refine w_val (v := .bool (decide (((n : Nat) : Int) = 0))) (y_mv (Ev.t (v := .bool (decide (((n : Nat) : Int) = 0))) rfl rfl)) ?_
      have hc20 : ((n : Nat) : Int) = 0 := by omega
      first | with_reducible refine w_skip ?_ ?_ | refine w_skip ?_ ?_
      · exact want_no (j := 3) rfl rfl (Ev.t (v := .bool true) (Eq.trans (b := .bool (decide (((n : Nat) : Int) = 0))) rfl (by rw [decide_eq_true hc20])) rfl) rfl
      first | with_reducible refine w_skip ?_ ?_ | refine w_skip ?_ ?_
      · exact want_no (j := 3) rfl rfl (Ev.t (v := .bool true) (Eq.trans (b := .bool (decide (((n : Nat) : Int) = 0))) rfl (by rw [decide_eq_true hc20])) rfl) rfl
      first | with_reducible refine w_skip ?_ ?_ | refine w_skip ?_ ?_
      · exact want_no (j := 3) rfl rfl (Ev.t (v := .bool true) (Eq.trans (b := .bool (decide (((n : Nat) : Int) = 0))) rfl (by rw [decide_eq_true hc20])) rfl) rfl
      first | with_reducible refine w_skip ?_ ?_ | refine w_skip ?_ ?_
      · exact want_un (j := 6) rfl rfl (Ev.t (v := undef) rfl rfl) rfl
      first | with_reducible refine w_skip ?_ ?_ | refine w_skip ?_ ?_
      · exact want_un (j := 6) rfl rfl (Ev.t (v := undef) rfl rfl) rfl
      first | with_reducible refine w_skip ?_ ?_ | refine w_skip ?_ ?_
      · exact want_un (j := 6) rfl rfl (Ev.t (v := undef) rfl rfl) rfl
      first | with_reducible refine w_skip ?_ ?_ | refine w_skip ?_ ?_
      · exact want_no (j := 3) rfl rfl (Ev.t (v := .bool true) (Eq.trans (b := .bool (decide (((n : Nat) : Int) = 0))) rfl (by rw [decide_eq_true hc20])) rfl) rfl
      refine w_val (v := .bool true) (y_pick_t (Ev.t (v := .bool true) (Eq.trans (b := .bool (decide (((n : Nat) : Int) = 0))) rfl (by rw [decide_eq_true hc20])) rfl) (Ev.c (v := .bool true))) ?_
      refine w_val (v := .bool true) (y_as (Ev.t (v := .bool true) rfl rfl)) ?_
      refine wpList_nil ?_
      refine then_n ?_
      refine wp_ret ?_
      refine fin_ret1 rfl (Ev.t (v := .bool true) rfl rfl) ?_
      exact ⟨rfl, hk⟩

set_option maxRecDepth 100000 in
set_option maxHeartbeats 1000000 in
theorem ctrPieces_k (key : List (BitVec 8)) (hok : ¬ Aes.okKey key.length) (s : List (BitVec 8)) (d : Nat) (hs : s.length = 16) (h1 : 1 ≤ d) (h16 : d ≤ 16) (g off n cap : Nat) (hn : n ≤ 140737488351232) (l : Nat → List (BitVec 8))  (w0 : World) (hgl : g < w0.heap.size) (hl : ∀ i, i < n → w0.cell? ⟨g, off + i, none⟩ = some (.string (str (l i)))) : Calls Try.prog 9 #[.string (str key), .agg (arr 2 (fun j => if j < 1 then .string (str s) else .int .i64 ((d : Nat) : Int))), .slice (some ⟨g, off, none⟩) n cap] w0 fun e w' => e = .returned (.bool true) ∧ Below w0.heap.size w0 w' := by
  refine enter (n := 106) Try.func9 rfl rfl rfl ?_
  have hk : Below w0.heap.size w0 w0 := Below.refl _ _
  refine wp_seq ?_
  refine wp_region_lit ?_
  refine w_box (m := 2) (F := fun j => if j < 1 then .string (str s) else .int .i64 ((d : Nat) : Int)) (Ev.t (v := .agg (arr 2 (fun j => if j < 1 then .string (str s) else .int .i64 ((d : Nat) : Int)))) rfl rfl) rfl ?_
  intro b_c w1 hbe_b_c r_b_c hb2
  have ge_b_c : w0.heap.size ≤ b_c := by have := hk.size; omega
  clear hbe_b_c
  replace hk := thenB hk hb2
  refine w_val (v := .bool false) (y_as (Ev.c (v := .bool false))) ?_
  refine wpList_nil ?_
  refine then_n ?_
  refine wp_seq ?_
  refine wp_seq ?_
  refine wp_region_lit ?_
  refine w_call (Try.func18) (by kernel_rfl) rfl m0 (ctrWakes_c  w1) ?_
  rintro _ w3 ⟨rfl, hb4⟩
  refine ⟨_, rfl, ?_⟩
  replace r_b_c := r_b_c.step hb4
  replace hk := thenB hk hb4
  refine w_val (v := .bool false) (y_not (Ev.t (v := .bool true) rfl rfl)) ?_
  refine wpList_nil ?_
  refine then_n ?_
  refine c_ff (Ev.t (v := .bool false) rfl rfl) ?_
  refine wp_skip ?_
  refine then_n ?_
  refine wp_seq ?_
  refine wp_region_lit ?_
  refine w_val (v := .string (str ([] : List (BitVec 8)))) (y_as (Ev.c (v := .string (str ([] : List (BitVec 8)))))) ?_
  refine w_val (v := .string (str ([] : List (BitVec 8)))) (y_as (Ev.c (v := .string (str ([] : List (BitVec 8)))))) ?_
  refine wpList_nil ?_
  refine then_n ?_
  refine wp_seq ?_
  refine wp_seq ?_
  refine wp_region_lit ?_
  refine w_val (v := .slice (some ⟨g, off, none⟩) n cap) (y_mv (Ev.t (v := .slice (some ⟨g, off, none⟩) n cap) rfl rfl)) ?_
  refine w_val (v := .int .i64 ((n : Nat) : Int)) (y_len_sl (Ev.t (v := .slice (some ⟨g, off, none⟩) n cap) rfl rfl) Try.underlying42) ?_
  refine w_val (v := .int .i64 0) (y_mv (Ev.c (v := .int .i64 0))) ?_
  refine wpList_nil ?_
  refine then_n ?_
  refine wp_block ?_
  refine c_loop (fun dN aN wl => dN = 0 ∧ ∃ f5, aN = fr 106 f5 ∧ f5 0 = .string (str key) ∧ f5 1 = .agg (arr 2 (fun j => if j < 1 then .string (str s) else .int .i64 ((d : Nat) : Int))) ∧ f5 2 = .slice (some ⟨g, off, none⟩) n cap ∧ f5 4 = .pointer (some ⟨b_c, 0, none⟩) ∧ f5 7 = .string (str ([] : List (BitVec 8))) ∧ f5 8 = .string (str ([] : List (BitVec 8))) ∧ f5 20 = .int .i64 ((n : Nat) : Int) ∧ f5 21 = .int .i64 0 ∧ Row wl b_c 34 2 (fun j => if j < 1 then .string (str s) else .int .i64 ((d : Nat) : Int)) ∧ Below w0.heap.size w0 wl) 0 ?_ ?_
  · exact ⟨rfl, _, rfl, rfl, rfl, rfl, rfl, rfl, rfl, rfl, rfl, r_b_c, hk⟩
  · skip
    clear r_b_c hk
    rintro _ _ w6 ⟨rfl, f5, rfl, s1_0, s1_1, s1_2, s1_4, s1_7, s1_8, s1_20, s1_21, r_b_c, hk⟩
    refine wp_seq ?_
    refine wp_region_lit ?_
    refine w_val (v := .bool (decide (0 < ((n : Nat) : Int)))) (y_bin (Ev.t (v := .int .i64 0) s1_21 rfl) (Ev.t (v := .int .i64 ((n : Nat) : Int)) s1_20 rfl) b_lss) ?_
    refine wpList_nil ?_
    refine then_n ?_
    refine wp_seq ?_
    refine c_if (p := 0 < ((n : Nat) : Int)) (Ev.t (v := .bool (decide (0 < ((n : Nat) : Int)))) rfl rfl) (fun hc7 => ?_) (fun hc7 => ?_)
    · skip
      refine wp_skip ?_
      refine then_n ?_
      refine wp_seq ?_
      refine wp_block ?_
      refine wp_seq ?_
      refine wp_region_lit ?_
      refine w_val (v := .int .i64 0) (y_mv (Ev.t (v := .int .i64 0) s1_21 rfl)) ?_
      refine w_val (v := .int .i64 0) (y_as (Ev.t (v := .int .i64 0) rfl rfl)) ?_
      refine wpList_nil ?_
      refine then_n ?_
      refine wp_seq ?_
      refine wp_seq ?_
      refine wp_region_lit ?_
      refine w_val (v := .string (str ([] : List (BitVec 8)))) (y_mv (Ev.t (v := .string (str ([] : List (BitVec 8)))) s1_7 rfl)) ?_
      refine w_val (v := .int .i64 0) (y_len (Ev.t (v := .string (str ([] : List (BitVec 8)))) rfl rfl) Try.underlying9) ?_
      refine w_val (v := .bool false) (y_bin (Ev.t (v := .int .i64 0) rfl rfl) (Ev.c (v := .int .i64 1000)) b_gtr) ?_
      refine w_val (v := .bool false) (y_mv (Ev.t (v := .bool false) rfl rfl)) ?_
      refine w_val_g (v := .slice (some ⟨g, off, none⟩) n cap) (want_yes (j := 3) rfl rfl (Ev.t (v := .bool false) rfl rfl) rfl) (y_mv (Ev.t (v := .slice (some ⟨g, off, none⟩) n cap) s1_2 rfl)) ?_
      refine w_val_g (v := .int .i64 0) (want_yes (j := 3) rfl rfl (Ev.t (v := .bool false) rfl rfl) rfl) (y_mv (Ev.t (v := .int .i64 0) rfl rfl)) ?_
      refine w_val_g (v := .pointer (some ⟨g, off, none⟩)) (want_yes (j := 3) rfl rfl (Ev.t (v := .bool false) rfl rfl) rfl) (y_off (y_is1 (i := 0) (Ev.t (v := .slice (some ⟨g, off, none⟩) n cap) rfl rfl) (Ev.t (v := .int .i64 0) rfl rfl) Try.underlying42 CtrPiecesWT.sz9 (by omega) (by omega)) (by first | rfl | omega)) ?_
      refine w_val_g (v := .string (str (l 0))) (want_yes (j := 3) rfl rfl (Ev.t (v := .bool false) rfl rfl) rfl) (y_ld (Ev.t (v := .pointer (some ⟨g, off, none⟩)) rfl rfl) CtrPiecesWT.sc9 ((hk.cell (p := ⟨g, off, none⟩) hgl).trans (hl 0 (by omega)))) ?_
      refine w_val_g (v := .int .i64 (((l 0).length : Nat) : Int)) (want_yes (j := 3) rfl rfl (Ev.t (v := .bool false) rfl rfl) rfl) (y_len (Ev.t (v := .string (str (l 0))) rfl rfl) Try.underlying9) ?_
      refine w_val_g (v := .bool (decide (1000 < (((l 0).length : Nat) : Int)))) (want_yes (j := 3) rfl rfl (Ev.t (v := .bool false) rfl rfl) rfl) (y_bin (Ev.t (v := .int .i64 (((l 0).length : Nat) : Int)) rfl rfl) (Ev.c (v := .int .i64 1000)) b_gtr) ?_
      refine w_val (v := .bool (decide (1000 < (((l 0).length : Nat) : Int)))) (y_pick_f (Ev.t (v := .bool false) rfl rfl) (Ev.t (v := .bool (decide (1000 < (((l 0).length : Nat) : Int)))) rfl rfl)) ?_
      refine wpList_nil ?_
      refine then_n ?_
      refine c_if (p := 1000 < (((l 0).length : Nat) : Int)) (Ev.t (v := .bool (decide (1000 < (((l 0).length : Nat) : Int)))) rfl rfl) (fun hc8 => ?_) (fun hc8 => ?_)
      · skip
        refine wp_seq ?_
        refine wp_region_lit ?_
        refine w_val (v := .bool true) (y_as (Ev.c (v := .bool true))) ?_
        refine wpList_nil ?_
        refine then_n ?_
        refine wp_ret ?_
        refine then_r ?_
        refine inb_r ?_
        refine then_r ?_
        refine then_r ?_
        refine inb_r ?_
        refine then_r ?_
        refine fin_ret1 rfl (Ev.t (v := .bool true) rfl rfl) ?_
        exact ⟨rfl, hk⟩
      · skip
        refine wp_skip ?_
        refine then_n ?_
        refine wp_seq ?_
        refine wp_region_lit ?_
        refine w_val (v := .slice (some ⟨g, off, none⟩) n cap) (y_mv (Ev.t (v := .slice (some ⟨g, off, none⟩) n cap) s1_2 rfl)) ?_
        refine w_val (v := .int .i64 0) (y_mv (Ev.t (v := .int .i64 0) rfl rfl)) ?_
        refine w_val (v := .pointer (some ⟨g, off, none⟩)) (y_off (y_is1 (i := 0) (Ev.t (v := .slice (some ⟨g, off, none⟩) n cap) rfl rfl) (Ev.t (v := .int .i64 0) rfl rfl) Try.underlying42 CtrPiecesWT.sz9 (by omega) (by omega)) (by first | rfl | omega)) ?_
        refine w_val (v := .string (str (l 0))) (y_ld (Ev.t (v := .pointer (some ⟨g, off, none⟩)) rfl rfl) CtrPiecesWT.sc9 ((hk.cell (p := ⟨g, off, none⟩) hgl).trans (hl 0 (by omega)))) ?_
        refine w_val (v := .string (str (l 0))) (y_as (Ev.t (v := .string (str (l 0))) rfl rfl)) ?_
        refine wpList_nil ?_
        refine then_n ?_
        refine wp_seq ?_
        refine wp_seq ?_
        refine wp_region_lit ?_
        refine w_val (v := .int .i64 0) (y_mv (Ev.t (v := .int .i64 0) rfl rfl)) ?_
        refine w_val (v := .slice (some ⟨g, off, none⟩) n cap) (y_mv (Ev.t (v := .slice (some ⟨g, off, none⟩) n cap) s1_2 rfl)) ?_
        refine w_val (v := .int .i64 ((n : Nat) : Int)) (y_len_sl (Ev.t (v := .slice (some ⟨g, off, none⟩) n cap) rfl rfl) Try.underlying42) ?_
        refine w_val (v := .int .i64 (((n : Nat) : Int) - 1)) (y_bin (Ev.t (v := .int .i64 ((n : Nat) : Int)) rfl rfl) (Ev.c (v := .int .i64 1)) (b_sub (by omega))) ?_
        refine w_val (v := .bool (decide (0 < (((n : Nat) : Int) - 1)))) (y_bin (Ev.t (v := .int .i64 0) rfl rfl) (Ev.t (v := .int .i64 (((n : Nat) : Int) - 1)) rfl rfl) b_lss) ?_
        refine wpList_nil ?_
        refine then_n ?_
        refine c_if (p := 0 < (((n : Nat) : Int) - 1)) (Ev.t (v := .bool (decide (0 < (((n : Nat) : Int) - 1)))) rfl rfl) (fun hc9 => ?_) (fun hc9 => ?_)
        · skip
          refine wp_region_lit ?_
          refine w_val (v := .string (str (l 0))) (y_mv (Ev.t (v := .string (str (l 0))) rfl rfl)) ?_
          refine w_val (v := .string (str (l 0))) (y_mv (Ev.t (v := .string (str (l 0))) rfl rfl)) ?_
          refine w_val (v := .int .i64 (((l 0).length : Nat) : Int)) (y_len (Ev.t (v := .string (str (l 0))) rfl rfl) Try.underlying9) ?_
          refine w_val (v := .int .i64 ((((l 0).length : Nat) : Int) / 16)) (y_bin (Ev.t (v := .int .i64 (((l 0).length : Nat) : Int)) rfl rfl) (Ev.c (v := .int .i64 16)) (b_quo (by omega))) ?_
          refine w_val (v := .int .i64 (((((l 0).length : Nat) : Int) / 16) * 16)) (y_bin (Ev.t (v := .int .i64 ((((l 0).length : Nat) : Int) / 16)) rfl rfl) (Ev.c (v := .int .i64 16)) (b_mul (by omega))) ?_
          refine w_val (v := .string (str ((l 0).take ((((l 0).length) / 16) * 16)))) (y_sls (Ev.t (v := .string (str (l 0))) rfl rfl) evo.no (evo.s (Ev.t (v := .int .i64 (((((l 0).length : Nat) : Int) / 16) * 16)) rfl rfl)) Try.underlying9 (bnd_h (h := ((((l 0).length) / 16) * 16)) (by omega) (by omega))) ?_
          refine w_val (v := .string (str ((l 0).take ((((l 0).length) / 16) * 16)))) (y_as (Ev.t (v := .string (str ((l 0).take ((((l 0).length) / 16) * 16)))) rfl rfl)) ?_
          refine wpList_nil ?_
          refine then_n ?_
          refine wp_seq ?_
          refine wp_region_lit ?_
          refine w_val (v := .pointer (some ⟨b_c, 0, none⟩)) (y_off (y_fa (Ev.t (v := .pointer (some ⟨b_c, 0, none⟩)) s1_4 rfl) (CtrPiecesWT.fa34_0 _ _)) (by first | rfl | omega)) ?_
          refine w_val (v := .string (str s)) (y_ld (Ev.t (v := .pointer (some ⟨b_c, 0, none⟩)) rfl rfl) CtrPiecesWT.sc9 (r_b_c.val (v := .string (str s)) (by omega) ((if_pos (by omega)).trans (by first | with_reducible rfl | (with_reducible congr 1 <;> omega) | (with_reducible congr 2 <;> omega) | (with_reducible congr 3 <;> omega) | rfl)))) ?_
          refine w_val (v := .pointer (some ⟨b_c, 1, none⟩)) (y_off (y_fa (Ev.t (v := .pointer (some ⟨b_c, 0, none⟩)) s1_4 rfl) (CtrPiecesWT.fa34_1 _ _)) (by first | rfl | omega)) ?_
          refine w_val (v := .int .i64 ((d : Nat) : Int)) (y_ld (Ev.t (v := .pointer (some ⟨b_c, 1, none⟩)) rfl rfl) CtrPiecesWT.sc3 (r_b_c.val (v := .int .i64 ((d : Nat) : Int)) (by omega) ((if_neg (by omega)).trans (by first | with_reducible rfl | (with_reducible congr 1 <;> omega) | (with_reducible congr 2 <;> omega) | (with_reducible congr 3 <;> omega) | rfl)))) ?_
          refine w_val (v := .string (str ([] : List (BitVec 8)))) (y_mv (Ev.t (v := .string (str ([] : List (BitVec 8)))) s1_7 rfl)) ?_
          refine w_val (v := .int .i64 0) (y_len (Ev.t (v := .string (str ([] : List (BitVec 8)))) rfl rfl) Try.underlying9) ?_
          refine w_val (v := .int .i64 (0 / 16)) (y_bin (Ev.t (v := .int .i64 0) rfl rfl) (Ev.c (v := .int .i64 16)) (b_quo (by omega))) ?_
          refine w_val (v := U64 (BitVec.ofNat 64 (0 / 16))) (y_nat_u64 (p := (0 / 16)) (Ev.t (v := .int .i64 (0 / 16)) rfl rfl) (by omega) CtrPiecesWT.so3 Try.underlying35) ?_
          refine w_call (Try.func19) (by kernel_rfl) rfl (m3 (Ev.t (v := .string (str s)) rfl rfl) (Ev.t (v := .int .i64 ((d : Nat) : Int)) rfl rfl) (Ev.t (v := U64 (BitVec.ofNat 64 (0 / 16))) rfl rfl)) (next_y s d hs h1 h16 (0 / 16) (by decide) w6) ?_
          rintro _ w10 ⟨rfl, hb11⟩
          refine ⟨_, rfl, ?_⟩
          replace r_b_c := r_b_c.step hb11
          replace hk := thenB hk hb11
          refine w_val (v := .tuple #[.string (str (Ct.nx s d (0 / 16))), .int .i64 0]) (y_mv (Ev.t (v := .tuple #[.string (str (Ct.nx s d (0 / 16))), .int .i64 0]) rfl rfl)) ?_
          refine w_val (v := .string (str (Ct.nx s d (0 / 16)))) (y_ext (v := .string (str (Ct.nx s d (0 / 16)))) (Ev.t (v := .tuple #[.string (str (Ct.nx s d (0 / 16))), .int .i64 0]) rfl rfl) rfl) ?_
          refine w_val (v := .int .i64 0) (y_ext (v := .int .i64 0) (Ev.t (v := .tuple #[.string (str (Ct.nx s d (0 / 16))), .int .i64 0]) rfl rfl) rfl) ?_
          refine w_val (v := .string (str (Ct.nx s d (0 / 16)))) (y_as (Ev.t (v := .string (str (Ct.nx s d (0 / 16)))) rfl rfl)) ?_
          refine w_val (v := .int .i64 0) (y_as (Ev.t (v := .int .i64 0) rfl rfl)) ?_
          refine wpList_nil ?_
          refine then_n ?_
          refine wp_seq ?_
          refine wp_region_lit ?_
          refine w_val (v := .string (str key)) (y_mv (Ev.t (v := .string (str key)) s1_0 rfl)) ?_
          refine w_val (v := .string (str (Ct.nx s d (0 / 16)))) (y_mv (Ev.t (v := .string (str (Ct.nx s d (0 / 16)))) rfl rfl)) ?_
          refine w_val (v := .pointer (some ⟨b_c, 1, none⟩)) (y_off (y_fa (Ev.t (v := .pointer (some ⟨b_c, 0, none⟩)) s1_4 rfl) (CtrPiecesWT.fa34_1 _ _)) (by first | rfl | omega)) ?_
          refine w_val (v := .int .i64 ((d : Nat) : Int)) (y_ld (Ev.t (v := .pointer (some ⟨b_c, 1, none⟩)) rfl rfl) CtrPiecesWT.sc3 (r_b_c.val (v := .int .i64 ((d : Nat) : Int)) (by omega) ((if_neg (by omega)).trans (by first | with_reducible rfl | (with_reducible congr 1 <;> omega) | (with_reducible congr 2 <;> omega) | (with_reducible congr 3 <;> omega) | rfl)))) ?_
          refine w_val (v := .string (str ((l 0).take ((((l 0).length) / 16) * 16)))) (y_mv (Ev.t (v := .string (str ((l 0).take ((((l 0).length) / 16) * 16)))) rfl rfl)) ?_
          refine w_call (Try.func21) (by kernel_rfl) rfl (m4 (Ev.t (v := .string (str key)) rfl rfl) (Ev.t (v := .string (str (Ct.nx s d (0 / 16)))) rfl rfl) (Ev.t (v := .int .i64 ((d : Nat) : Int)) rfl rfl) (Ev.t (v := .string (str ((l 0).take ((((l 0).length) / 16) * 16)))) rfl rfl)) (ctrXor_k key hok (Ct.nx s d (0 / 16)) d ((l 0).take ((((l 0).length) / 16) * 16)) w10) ?_
          rintro _ w12 ⟨rfl, hb13⟩
          refine ⟨_, rfl, ?_⟩
          replace r_b_c := r_b_c.step hb13
          replace hk := thenB hk hb13
          refine w_val (v := .tuple #[.string (str ([] : List (BitVec 8))), .int .i64 3]) (y_mv (Ev.t (v := .tuple #[.string (str ([] : List (BitVec 8))), .int .i64 3]) rfl rfl)) ?_
          refine w_val (v := .string (str ([] : List (BitVec 8)))) (y_ext (v := .string (str ([] : List (BitVec 8)))) (Ev.t (v := .tuple #[.string (str ([] : List (BitVec 8))), .int .i64 3]) rfl rfl) rfl) ?_
          refine w_val (v := .int .i64 3) (y_ext (v := .int .i64 3) (Ev.t (v := .tuple #[.string (str ([] : List (BitVec 8))), .int .i64 3]) rfl rfl) rfl) ?_
          refine w_val (v := .string (str ([] : List (BitVec 8)))) (y_as (Ev.t (v := .string (str ([] : List (BitVec 8)))) rfl rfl)) ?_
          refine w_val (v := .int .i64 3) (y_as (Ev.t (v := .int .i64 3) rfl rfl)) ?_
          refine wpList_nil ?_
          refine then_n ?_
          refine wp_seq ?_
          refine wp_seq ?_
          refine wp_region_lit ?_
          refine w_val (v := .int .i64 0) (y_mv (Ev.t (v := .int .i64 0) rfl rfl)) ?_
          refine w_val (v := .bool false) (y_bin (Ev.t (v := .int .i64 0) rfl rfl) (Ev.c (v := .int .i64 0)) b_neq) ?_
          refine w_val (v := .bool false) (y_mv (Ev.t (v := .bool false) rfl rfl)) ?_
          refine w_val_g (v := .int .i64 3) (want_yes (j := 2) rfl rfl (Ev.t (v := .bool false) rfl rfl) rfl) (y_mv (Ev.t (v := .int .i64 3) rfl rfl)) ?_
          refine w_val_g (v := .bool true) (want_yes (j := 2) rfl rfl (Ev.t (v := .bool false) rfl rfl) rfl) (y_bin (Ev.t (v := .int .i64 3) rfl rfl) (Ev.c (v := .int .i64 0)) b_neq) ?_
          refine w_val (v := .bool true) (y_pick_f (Ev.t (v := .bool false) rfl rfl) (Ev.t (v := .bool true) rfl rfl)) ?_
          refine wpList_nil ?_
          refine then_n ?_
          refine c_tt (Ev.t (v := .bool true) rfl rfl) ?_
          refine wp_seq ?_
          refine wp_region_lit ?_
          refine w_val (v := .bool true) (y_as (Ev.c (v := .bool true))) ?_
          refine wpList_nil ?_
          refine then_n ?_
          refine wp_ret ?_
          refine then_r ?_
          refine inb_r ?_
          refine then_r ?_
          refine then_r ?_
          refine inb_r ?_
          refine then_r ?_
          refine fin_ret1 rfl (Ev.t (v := .bool true) rfl rfl) ?_
          exact ⟨rfl, hk⟩
        · skip
          refine wp_skip ?_
          refine then_n ?_
          refine wp_seq ?_
          refine wp_region_lit ?_
          refine w_val (v := .pointer (some ⟨b_c, 0, none⟩)) (y_off (y_fa (Ev.t (v := .pointer (some ⟨b_c, 0, none⟩)) s1_4 rfl) (CtrPiecesWT.fa34_0 _ _)) (by first | rfl | omega)) ?_
          refine w_val (v := .string (str s)) (y_ld (Ev.t (v := .pointer (some ⟨b_c, 0, none⟩)) rfl rfl) CtrPiecesWT.sc9 (r_b_c.val (v := .string (str s)) (by omega) ((if_pos (by omega)).trans (by first | with_reducible rfl | (with_reducible congr 1 <;> omega) | (with_reducible congr 2 <;> omega) | (with_reducible congr 3 <;> omega) | rfl)))) ?_
          refine w_val (v := .pointer (some ⟨b_c, 1, none⟩)) (y_off (y_fa (Ev.t (v := .pointer (some ⟨b_c, 0, none⟩)) s1_4 rfl) (CtrPiecesWT.fa34_1 _ _)) (by first | rfl | omega)) ?_
          refine w_val (v := .int .i64 ((d : Nat) : Int)) (y_ld (Ev.t (v := .pointer (some ⟨b_c, 1, none⟩)) rfl rfl) CtrPiecesWT.sc3 (r_b_c.val (v := .int .i64 ((d : Nat) : Int)) (by omega) ((if_neg (by omega)).trans (by first | with_reducible rfl | (with_reducible congr 1 <;> omega) | (with_reducible congr 2 <;> omega) | (with_reducible congr 3 <;> omega) | rfl)))) ?_
          refine w_val (v := .string (str ([] : List (BitVec 8)))) (y_mv (Ev.t (v := .string (str ([] : List (BitVec 8)))) s1_7 rfl)) ?_
          refine w_val (v := .int .i64 0) (y_len (Ev.t (v := .string (str ([] : List (BitVec 8)))) rfl rfl) Try.underlying9) ?_
          refine w_val (v := .int .i64 (0 / 16)) (y_bin (Ev.t (v := .int .i64 0) rfl rfl) (Ev.c (v := .int .i64 16)) (b_quo (by omega))) ?_
          refine w_val (v := U64 (BitVec.ofNat 64 (0 / 16))) (y_nat_u64 (p := (0 / 16)) (Ev.t (v := .int .i64 (0 / 16)) rfl rfl) (by omega) CtrPiecesWT.so3 Try.underlying35) ?_
          refine w_call (Try.func19) (by kernel_rfl) rfl (m3 (Ev.t (v := .string (str s)) rfl rfl) (Ev.t (v := .int .i64 ((d : Nat) : Int)) rfl rfl) (Ev.t (v := U64 (BitVec.ofNat 64 (0 / 16))) rfl rfl)) (next_y s d hs h1 h16 (0 / 16) (by decide) w6) ?_
          rintro _ w14 ⟨rfl, hb15⟩
          refine ⟨_, rfl, ?_⟩
          replace r_b_c := r_b_c.step hb15
          replace hk := thenB hk hb15
          refine w_val (v := .tuple #[.string (str (Ct.nx s d (0 / 16))), .int .i64 0]) (y_mv (Ev.t (v := .tuple #[.string (str (Ct.nx s d (0 / 16))), .int .i64 0]) rfl rfl)) ?_
          refine w_val (v := .string (str (Ct.nx s d (0 / 16)))) (y_ext (v := .string (str (Ct.nx s d (0 / 16)))) (Ev.t (v := .tuple #[.string (str (Ct.nx s d (0 / 16))), .int .i64 0]) rfl rfl) rfl) ?_
          refine w_val (v := .int .i64 0) (y_ext (v := .int .i64 0) (Ev.t (v := .tuple #[.string (str (Ct.nx s d (0 / 16))), .int .i64 0]) rfl rfl) rfl) ?_
          refine w_val (v := .string (str (Ct.nx s d (0 / 16)))) (y_as (Ev.t (v := .string (str (Ct.nx s d (0 / 16)))) rfl rfl)) ?_
          refine w_val (v := .int .i64 0) (y_as (Ev.t (v := .int .i64 0) rfl rfl)) ?_
          refine wpList_nil ?_
          refine then_n ?_
          refine wp_seq ?_
          refine wp_region_lit ?_
          refine w_val (v := .string (str key)) (y_mv (Ev.t (v := .string (str key)) s1_0 rfl)) ?_
          refine w_val (v := .string (str (Ct.nx s d (0 / 16)))) (y_mv (Ev.t (v := .string (str (Ct.nx s d (0 / 16)))) rfl rfl)) ?_
          refine w_val (v := .pointer (some ⟨b_c, 1, none⟩)) (y_off (y_fa (Ev.t (v := .pointer (some ⟨b_c, 0, none⟩)) s1_4 rfl) (CtrPiecesWT.fa34_1 _ _)) (by first | rfl | omega)) ?_
          refine w_val (v := .int .i64 ((d : Nat) : Int)) (y_ld (Ev.t (v := .pointer (some ⟨b_c, 1, none⟩)) rfl rfl) CtrPiecesWT.sc3 (r_b_c.val (v := .int .i64 ((d : Nat) : Int)) (by omega) ((if_neg (by omega)).trans (by first | with_reducible rfl | (with_reducible congr 1 <;> omega) | (with_reducible congr 2 <;> omega) | (with_reducible congr 3 <;> omega) | rfl)))) ?_
          refine w_val (v := .string (str (l 0))) (y_mv (Ev.t (v := .string (str (l 0))) rfl rfl)) ?_
          refine w_call (Try.func21) (by kernel_rfl) rfl (m4 (Ev.t (v := .string (str key)) rfl rfl) (Ev.t (v := .string (str (Ct.nx s d (0 / 16)))) rfl rfl) (Ev.t (v := .int .i64 ((d : Nat) : Int)) rfl rfl) (Ev.t (v := .string (str (l 0))) rfl rfl)) (ctrXor_k key hok (Ct.nx s d (0 / 16)) d (l 0) w14) ?_
          rintro _ w16 ⟨rfl, hb17⟩
          refine ⟨_, rfl, ?_⟩
          replace r_b_c := r_b_c.step hb17
          replace hk := thenB hk hb17
          refine w_val (v := .tuple #[.string (str ([] : List (BitVec 8))), .int .i64 3]) (y_mv (Ev.t (v := .tuple #[.string (str ([] : List (BitVec 8))), .int .i64 3]) rfl rfl)) ?_
          refine w_val (v := .string (str ([] : List (BitVec 8)))) (y_ext (v := .string (str ([] : List (BitVec 8)))) (Ev.t (v := .tuple #[.string (str ([] : List (BitVec 8))), .int .i64 3]) rfl rfl) rfl) ?_
          refine w_val (v := .int .i64 3) (y_ext (v := .int .i64 3) (Ev.t (v := .tuple #[.string (str ([] : List (BitVec 8))), .int .i64 3]) rfl rfl) rfl) ?_
          refine w_val (v := .string (str ([] : List (BitVec 8)))) (y_as (Ev.t (v := .string (str ([] : List (BitVec 8)))) rfl rfl)) ?_
          refine w_val (v := .int .i64 3) (y_as (Ev.t (v := .int .i64 3) rfl rfl)) ?_
          refine wpList_nil ?_
          refine then_n ?_
          refine wp_seq ?_
          refine wp_seq ?_
          refine wp_region_lit ?_
          refine w_val (v := .int .i64 0) (y_mv (Ev.t (v := .int .i64 0) rfl rfl)) ?_
          refine w_val (v := .bool false) (y_bin (Ev.t (v := .int .i64 0) rfl rfl) (Ev.c (v := .int .i64 0)) b_neq) ?_
          refine w_val (v := .bool false) (y_mv (Ev.t (v := .bool false) rfl rfl)) ?_
          refine w_val_g (v := .int .i64 3) (want_yes (j := 2) rfl rfl (Ev.t (v := .bool false) rfl rfl) rfl) (y_mv (Ev.t (v := .int .i64 3) rfl rfl)) ?_
          refine w_val_g (v := .bool true) (want_yes (j := 2) rfl rfl (Ev.t (v := .bool false) rfl rfl) rfl) (y_bin (Ev.t (v := .int .i64 3) rfl rfl) (Ev.c (v := .int .i64 0)) b_neq) ?_
          refine w_val (v := .bool true) (y_pick_f (Ev.t (v := .bool false) rfl rfl) (Ev.t (v := .bool true) rfl rfl)) ?_
          refine wpList_nil ?_
          refine then_n ?_
          refine c_tt (Ev.t (v := .bool true) rfl rfl) ?_
          refine wp_seq ?_
          refine wp_region_lit ?_
          refine w_val (v := .bool true) (y_as (Ev.c (v := .bool true))) ?_
          refine wpList_nil ?_
          refine then_n ?_
          refine wp_ret ?_
          refine then_r ?_
          refine inb_r ?_
          refine then_r ?_
          refine then_r ?_
          refine inb_r ?_
          refine then_r ?_
          refine fin_ret1 rfl (Ev.t (v := .bool true) rfl rfl) ?_
          exact ⟨rfl, hk⟩
    · skip
      refine wp_exit ?_
      refine then_x ?_
      refine then_x ?_
      refine inb_x ?_
      refine then_n ?_
      refine wp_seq ?_
      refine wp_region_lit ?_
      refine w_val (v := .string (str key)) (y_mv (Ev.t (v := .string (str key)) s1_0 rfl)) ?_
      refine w_val (v := .pointer (some ⟨b_c, 0, none⟩)) (y_off (y_fa (Ev.t (v := .pointer (some ⟨b_c, 0, none⟩)) s1_4 rfl) (CtrPiecesWT.fa34_0 _ _)) (by first | rfl | omega)) ?_
      refine w_val (v := .string (str s)) (y_ld (Ev.t (v := .pointer (some ⟨b_c, 0, none⟩)) rfl rfl) CtrPiecesWT.sc9 (r_b_c.val (v := .string (str s)) (by omega) ((if_pos (by omega)).trans (by first | with_reducible rfl | (with_reducible congr 1 <;> omega) | (with_reducible congr 2 <;> omega) | (with_reducible congr 3 <;> omega) | rfl)))) ?_
      refine w_val (v := .pointer (some ⟨b_c, 1, none⟩)) (y_off (y_fa (Ev.t (v := .pointer (some ⟨b_c, 0, none⟩)) s1_4 rfl) (CtrPiecesWT.fa34_1 _ _)) (by first | rfl | omega)) ?_
      refine w_val (v := .int .i64 ((d : Nat) : Int)) (y_ld (Ev.t (v := .pointer (some ⟨b_c, 1, none⟩)) rfl rfl) CtrPiecesWT.sc3 (r_b_c.val (v := .int .i64 ((d : Nat) : Int)) (by omega) ((if_neg (by omega)).trans (by first | with_reducible rfl | (with_reducible congr 1 <;> omega) | (with_reducible congr 2 <;> omega) | (with_reducible congr 3 <;> omega) | rfl)))) ?_
      refine w_val (v := .string (str ([] : List (BitVec 8)))) (y_mv (Ev.t (v := .string (str ([] : List (BitVec 8)))) s1_7 rfl)) ?_
      refine w_call (Try.func21) (by kernel_rfl) rfl (m4 (Ev.t (v := .string (str key)) rfl rfl) (Ev.t (v := .string (str s)) rfl rfl) (Ev.t (v := .int .i64 ((d : Nat) : Int)) rfl rfl) (Ev.t (v := .string (str ([] : List (BitVec 8)))) rfl rfl)) (ctrXor_k key hok s d ([] : List (BitVec 8)) w6) ?_
      rintro _ w18 ⟨rfl, hb19⟩
      refine ⟨_, rfl, ?_⟩
      replace r_b_c := r_b_c.step hb19
      replace hk := thenB hk hb19
      refine w_val (v := .tuple #[.string (str ([] : List (BitVec 8))), .int .i64 3]) (y_mv (Ev.t (v := .tuple #[.string (str ([] : List (BitVec 8))), .int .i64 3]) rfl rfl)) ?_
      refine w_val (v := .string (str ([] : List (BitVec 8)))) (y_ext (v := .string (str ([] : List (BitVec 8)))) (Ev.t (v := .tuple #[.string (str ([] : List (BitVec 8))), .int .i64 3]) rfl rfl) rfl) ?_
      refine w_val (v := .int .i64 3) (y_ext (v := .int .i64 3) (Ev.t (v := .tuple #[.string (str ([] : List (BitVec 8))), .int .i64 3]) rfl rfl) rfl) ?_
      refine w_val (v := .string (str ([] : List (BitVec 8)))) (y_as (Ev.t (v := .string (str ([] : List (BitVec 8)))) rfl rfl)) ?_
      refine w_val (v := .int .i64 3) (y_as (Ev.t (v := .int .i64 3) rfl rfl)) ?_
      refine wpList_nil ?_
      refine then_n ?_
      refine wp_seq ?_
      refine wp_region_lit ?_
      refine w_val (v := .slice (some ⟨g, off, none⟩) n cap) (y_mv (Ev.t (v := .slice (some ⟨g, off, none⟩) n cap) s1_2 rfl)) ?_
      refine w_val (v := .int .i64 ((n : Nat) : Int)) (y_len_sl (Ev.t (v := .slice (some ⟨g, off, none⟩) n cap) rfl rfl) Try.underlying42) ?_
      refine w_val (v := .bool (decide (((n : Nat) : Int) = 0))) (y_bin (Ev.t (v := .int .i64 ((n : Nat) : Int)) rfl rfl) (Ev.c (v := .int .i64 0)) b_eql) ?_
      refine w_val (v := .bool (decide (((n : Nat) : Int) = 0))) (y_mv (Ev.t (v := .bool (decide (((n : Nat) : Int) = 0))) rfl rfl)) ?_
      have hc20 : ((n : Nat) : Int) = 0 := by omega
      first | with_reducible refine w_skip ?_ ?_ | refine w_skip ?_ ?_
      · exact want_no (j := 3) rfl rfl (Ev.t (v := .bool true) (Eq.trans (b := .bool (decide (((n : Nat) : Int) = 0))) rfl (by rw [decide_eq_true hc20])) rfl) rfl
      first | with_reducible refine w_skip ?_ ?_ | refine w_skip ?_ ?_
      · exact want_no (j := 3) rfl rfl (Ev.t (v := .bool true) (Eq.trans (b := .bool (decide (((n : Nat) : Int) = 0))) rfl (by rw [decide_eq_true hc20])) rfl) rfl
      first | with_reducible refine w_skip ?_ ?_ | refine w_skip ?_ ?_
      · exact want_no (j := 3) rfl rfl (Ev.t (v := .bool true) (Eq.trans (b := .bool (decide (((n : Nat) : Int) = 0))) rfl (by rw [decide_eq_true hc20])) rfl) rfl
      first | with_reducible refine w_skip ?_ ?_ | refine w_skip ?_ ?_
      · exact want_un (j := 6) rfl rfl (Ev.t (v := undef) rfl rfl) rfl
      first | with_reducible refine w_skip ?_ ?_ | refine w_skip ?_ ?_
      · exact want_un (j := 6) rfl rfl (Ev.t (v := undef) rfl rfl) rfl
      first | with_reducible refine w_skip ?_ ?_ | refine w_skip ?_ ?_
      · exact want_un (j := 6) rfl rfl (Ev.t (v := undef) rfl rfl) rfl
      first | with_reducible refine w_skip ?_ ?_ | refine w_skip ?_ ?_
      · exact want_no (j := 3) rfl rfl (Ev.t (v := .bool true) (Eq.trans (b := .bool (decide (((n : Nat) : Int) = 0))) rfl (by rw [decide_eq_true hc20])) rfl) rfl
      refine w_val (v := .bool true) (y_pick_t (Ev.t (v := .bool true) (Eq.trans (b := .bool (decide (((n : Nat) : Int) = 0))) rfl (by rw [decide_eq_true hc20])) rfl) (Ev.c (v := .bool true))) ?_
      refine w_val (v := .bool true) (y_as (Ev.t (v := .bool true) rfl rfl)) ?_
      refine wpList_nil ?_
      refine then_n ?_
      refine wp_ret ?_
      refine fin_ret1 rfl (Ev.t (v := .bool true) rfl rfl) ?_
      exact ⟨rfl, hk⟩

set_option maxRecDepth 100000 in
set_option maxHeartbeats 1000000 in
theorem ctrPieces_nil_k (key : List (BitVec 8)) (hok : ¬ Aes.okKey key.length) (s : List (BitVec 8)) (d : Int) (w0 : World) : Calls Try.prog 9 #[.string (str key), .agg (arr 2 (fun j => if j < 1 then .string (str s) else .int .i64 d)), .slice none 0 0] w0 fun e w' => e = .returned (.bool true) ∧ Below w0.heap.size w0 w' := by
  refine enter (n := 106) Try.func9 rfl rfl rfl ?_
  have hk : Below w0.heap.size w0 w0 := Below.refl _ _
  refine wp_seq ?_
  refine wp_region_lit ?_
  refine w_box (m := 2) (F := fun j => if j < 1 then .string (str s) else .int .i64 d) (Ev.t (v := .agg (arr 2 (fun j => if j < 1 then .string (str s) else .int .i64 d))) rfl rfl) rfl ?_
  intro b_c w1 hbe_b_c r_b_c hb2
  have ge_b_c : w0.heap.size ≤ b_c := by have := hk.size; omega
  clear hbe_b_c
  replace hk := thenB hk hb2
  refine w_val (v := .bool false) (y_as (Ev.c (v := .bool false))) ?_
  refine wpList_nil ?_
  refine then_n ?_
  refine wp_seq ?_
  refine wp_seq ?_
  refine wp_region_lit ?_
  refine w_call (Try.func18) (by kernel_rfl) rfl m0 (ctrWakes_c  w1) ?_
  rintro _ w3 ⟨rfl, hb4⟩
  refine ⟨_, rfl, ?_⟩
  replace r_b_c := r_b_c.step hb4
  replace hk := thenB hk hb4
  refine w_val (v := .bool false) (y_not (Ev.t (v := .bool true) rfl rfl)) ?_
  refine wpList_nil ?_
  refine then_n ?_
  refine c_ff (Ev.t (v := .bool false) rfl rfl) ?_
  refine wp_skip ?_
  refine then_n ?_
  refine wp_seq ?_
  refine wp_region_lit ?_
  refine w_val (v := .string (str ([] : List (BitVec 8)))) (y_as (Ev.c (v := .string (str ([] : List (BitVec 8)))))) ?_
  refine w_val (v := .string (str ([] : List (BitVec 8)))) (y_as (Ev.c (v := .string (str ([] : List (BitVec 8)))))) ?_
  refine wpList_nil ?_
  refine then_n ?_
  refine wp_seq ?_
  refine wp_seq ?_
  refine wp_region_lit ?_
  refine w_val (v := .slice none 0 0) (y_mv (Ev.t (v := .slice none 0 0) rfl rfl)) ?_
  refine w_val (v := .int .i64 0) (y_len_sl (Ev.t (v := .slice none 0 0) rfl rfl) Try.underlying42) ?_
  refine w_val (v := .int .i64 0) (y_mv (Ev.c (v := .int .i64 0))) ?_
  refine wpList_nil ?_
  refine then_n ?_
  refine wp_block ?_
  refine c_loop (fun dN aN wl => dN = 0 ∧ ∃ f5, aN = fr 106 f5 ∧ f5 0 = .string (str key) ∧ f5 1 = .agg (arr 2 (fun j => if j < 1 then .string (str s) else .int .i64 d)) ∧ f5 2 = .slice none 0 0 ∧ f5 4 = .pointer (some ⟨b_c, 0, none⟩) ∧ f5 7 = .string (str ([] : List (BitVec 8))) ∧ f5 8 = .string (str ([] : List (BitVec 8))) ∧ f5 20 = .int .i64 0 ∧ f5 21 = .int .i64 0 ∧ Row wl b_c 34 2 (fun j => if j < 1 then .string (str s) else .int .i64 d) ∧ Below w0.heap.size w0 wl) 0 ?_ ?_
  · exact ⟨rfl, _, rfl, rfl, rfl, rfl, rfl, rfl, rfl, rfl, rfl, r_b_c, hk⟩
  · skip
    clear r_b_c hk
    rintro _ _ w6 ⟨rfl, f5, rfl, s1_0, s1_1, s1_2, s1_4, s1_7, s1_8, s1_20, s1_21, r_b_c, hk⟩
    refine wp_seq ?_
    refine wp_region_lit ?_
    refine w_val (v := .bool false) (y_bin (Ev.t (v := .int .i64 0) s1_21 rfl) (Ev.t (v := .int .i64 0) s1_20 rfl) b_lss) ?_
    refine wpList_nil ?_
    refine then_n ?_
    refine wp_seq ?_
    refine c_ff (Ev.t (v := .bool false) rfl rfl) ?_
    refine wp_exit ?_
    refine then_x ?_
    refine then_x ?_
    refine inb_x ?_
    refine then_n ?_
    refine wp_seq ?_
    refine wp_region_lit ?_
    refine w_val (v := .string (str key)) (y_mv (Ev.t (v := .string (str key)) s1_0 rfl)) ?_
    refine w_val (v := .pointer (some ⟨b_c, 0, none⟩)) (y_off (y_fa (Ev.t (v := .pointer (some ⟨b_c, 0, none⟩)) s1_4 rfl) (CtrPiecesWT.fa34_0 _ _)) (by first | rfl | omega)) ?_
    refine w_val (v := .string (str s)) (y_ld (Ev.t (v := .pointer (some ⟨b_c, 0, none⟩)) rfl rfl) CtrPiecesWT.sc9 (r_b_c.val (v := .string (str s)) (by omega) ((if_pos (by omega)).trans (by first | with_reducible rfl | (with_reducible congr 1 <;> omega) | (with_reducible congr 2 <;> omega) | (with_reducible congr 3 <;> omega) | rfl)))) ?_
    refine w_val (v := .pointer (some ⟨b_c, 1, none⟩)) (y_off (y_fa (Ev.t (v := .pointer (some ⟨b_c, 0, none⟩)) s1_4 rfl) (CtrPiecesWT.fa34_1 _ _)) (by first | rfl | omega)) ?_
    refine w_val (v := .int .i64 d) (y_ld (Ev.t (v := .pointer (some ⟨b_c, 1, none⟩)) rfl rfl) CtrPiecesWT.sc3 (r_b_c.val (v := .int .i64 d) (by omega) ((if_neg (by omega)).trans (by first | with_reducible rfl | (with_reducible congr 1 <;> omega) | (with_reducible congr 2 <;> omega) | (with_reducible congr 3 <;> omega) | rfl)))) ?_
    refine w_val (v := .string (str ([] : List (BitVec 8)))) (y_mv (Ev.t (v := .string (str ([] : List (BitVec 8)))) s1_7 rfl)) ?_
    refine w_call (Try.func21) (by kernel_rfl) rfl (m4 (Ev.t (v := .string (str key)) rfl rfl) (Ev.t (v := .string (str s)) rfl rfl) (Ev.t (v := .int .i64 d) rfl rfl) (Ev.t (v := .string (str ([] : List (BitVec 8)))) rfl rfl)) (ctrXor_k key hok s d [] w6) ?_
    rintro _ w7 ⟨rfl, hb8⟩
    refine ⟨_, rfl, ?_⟩
    replace r_b_c := r_b_c.step hb8
    replace hk := thenB hk hb8
    refine w_val (v := .tuple #[.string (str ([] : List (BitVec 8))), .int .i64 3]) (y_mv (Ev.t (v := .tuple #[.string (str ([] : List (BitVec 8))), .int .i64 3]) rfl rfl)) ?_
    refine w_val (v := .string (str ([] : List (BitVec 8)))) (y_ext (v := .string (str ([] : List (BitVec 8)))) (Ev.t (v := .tuple #[.string (str ([] : List (BitVec 8))), .int .i64 3]) rfl rfl) rfl) ?_
    refine w_val (v := .int .i64 3) (y_ext (v := .int .i64 3) (Ev.t (v := .tuple #[.string (str ([] : List (BitVec 8))), .int .i64 3]) rfl rfl) rfl) ?_
    refine w_val (v := .string (str ([] : List (BitVec 8)))) (y_as (Ev.t (v := .string (str ([] : List (BitVec 8)))) rfl rfl)) ?_
    refine w_val (v := .int .i64 3) (y_as (Ev.t (v := .int .i64 3) rfl rfl)) ?_
    refine wpList_nil ?_
    refine then_n ?_
    refine wp_seq ?_
    refine wp_region_lit ?_
    refine w_val (v := .slice none 0 0) (y_mv (Ev.t (v := .slice none 0 0) s1_2 rfl)) ?_
    refine w_val (v := .int .i64 0) (y_len_sl (Ev.t (v := .slice none 0 0) rfl rfl) Try.underlying42) ?_
    refine w_val (v := .bool true) (y_bin (Ev.t (v := .int .i64 0) rfl rfl) (Ev.c (v := .int .i64 0)) b_eql) ?_
    refine w_val (v := .bool true) (y_mv (Ev.t (v := .bool true) rfl rfl)) ?_
    first | with_reducible refine w_skip ?_ ?_ | refine w_skip ?_ ?_
    · exact want_no (j := 3) rfl rfl (Ev.t (v := .bool true) rfl rfl) rfl
    first | with_reducible refine w_skip ?_ ?_ | refine w_skip ?_ ?_
    · exact want_no (j := 3) rfl rfl (Ev.t (v := .bool true) rfl rfl) rfl
    first | with_reducible refine w_skip ?_ ?_ | refine w_skip ?_ ?_
    · exact want_no (j := 3) rfl rfl (Ev.t (v := .bool true) rfl rfl) rfl
    first | with_reducible refine w_skip ?_ ?_ | refine w_skip ?_ ?_
    · exact want_un (j := 6) rfl rfl (Ev.t (v := undef) rfl rfl) rfl
    first | with_reducible refine w_skip ?_ ?_ | refine w_skip ?_ ?_
    · exact want_un (j := 6) rfl rfl (Ev.t (v := undef) rfl rfl) rfl
    first | with_reducible refine w_skip ?_ ?_ | refine w_skip ?_ ?_
    · exact want_un (j := 6) rfl rfl (Ev.t (v := undef) rfl rfl) rfl
    first | with_reducible refine w_skip ?_ ?_ | refine w_skip ?_ ?_
    · exact want_no (j := 3) rfl rfl (Ev.t (v := .bool true) rfl rfl) rfl
    refine w_val (v := .bool true) (y_pick_t (Ev.t (v := .bool true) rfl rfl) (Ev.c (v := .bool true))) ?_
    refine w_val (v := .bool true) (y_as (Ev.t (v := .bool true) rfl rfl)) ?_
    refine wpList_nil ?_
    refine then_n ?_
    refine wp_ret ?_
    refine fin_ret1 rfl (Ev.t (v := .bool true) rfl rfl) ?_
    exact ⟨rfl, hk⟩

set_option maxRecDepth 100000 in
set_option maxHeartbeats 1000000 in
theorem ctrPieces_nil_i (key : List (BitVec 8)) (hok : Aes.okKey key.length) (s : List (BitVec 8)) (d : Int) (hs : s.length ≠ 16) (w0 : World) : Calls Try.prog 9 #[.string (str key), .agg (arr 2 (fun j => if j < 1 then .string (str s) else .int .i64 d)), .slice none 0 0] w0 fun e w' => e = .returned (.bool true) ∧ Below w0.heap.size w0 w' := by
  refine enter (n := 106) Try.func9 rfl rfl rfl ?_
  have hk : Below w0.heap.size w0 w0 := Below.refl _ _
  refine wp_seq ?_
  refine wp_region_lit ?_
  refine w_box (m := 2) (F := fun j => if j < 1 then .string (str s) else .int .i64 d) (Ev.t (v := .agg (arr 2 (fun j => if j < 1 then .string (str s) else .int .i64 d))) rfl rfl) rfl ?_
  intro b_c w1 hbe_b_c r_b_c hb2
  have ge_b_c : w0.heap.size ≤ b_c := by have := hk.size; omega
  clear hbe_b_c
  replace hk := thenB hk hb2
  refine w_val (v := .bool false) (y_as (Ev.c (v := .bool false))) ?_
  refine wpList_nil ?_
  refine then_n ?_
  refine wp_seq ?_
  refine wp_seq ?_
  refine wp_region_lit ?_
  refine w_call (Try.func18) (by kernel_rfl) rfl m0 (ctrWakes_c  w1) ?_
  rintro _ w3 ⟨rfl, hb4⟩
  refine ⟨_, rfl, ?_⟩
  replace r_b_c := r_b_c.step hb4
  replace hk := thenB hk hb4
  refine w_val (v := .bool false) (y_not (Ev.t (v := .bool true) rfl rfl)) ?_
  refine wpList_nil ?_
  refine then_n ?_
  refine c_ff (Ev.t (v := .bool false) rfl rfl) ?_
  refine wp_skip ?_
  refine then_n ?_
  refine wp_seq ?_
  refine wp_region_lit ?_
  refine w_val (v := .string (str ([] : List (BitVec 8)))) (y_as (Ev.c (v := .string (str ([] : List (BitVec 8)))))) ?_
  refine w_val (v := .string (str ([] : List (BitVec 8)))) (y_as (Ev.c (v := .string (str ([] : List (BitVec 8)))))) ?_
  refine wpList_nil ?_
  refine then_n ?_
  refine wp_seq ?_
  refine wp_seq ?_
  refine wp_region_lit ?_
  refine w_val (v := .slice none 0 0) (y_mv (Ev.t (v := .slice none 0 0) rfl rfl)) ?_
  refine w_val (v := .int .i64 0) (y_len_sl (Ev.t (v := .slice none 0 0) rfl rfl) Try.underlying42) ?_
  refine w_val (v := .int .i64 0) (y_mv (Ev.c (v := .int .i64 0))) ?_
  refine wpList_nil ?_
  refine then_n ?_
  refine wp_block ?_
  refine c_loop (fun dN aN wl => dN = 0 ∧ ∃ f5, aN = fr 106 f5 ∧ f5 0 = .string (str key) ∧ f5 1 = .agg (arr 2 (fun j => if j < 1 then .string (str s) else .int .i64 d)) ∧ f5 2 = .slice none 0 0 ∧ f5 4 = .pointer (some ⟨b_c, 0, none⟩) ∧ f5 7 = .string (str ([] : List (BitVec 8))) ∧ f5 8 = .string (str ([] : List (BitVec 8))) ∧ f5 20 = .int .i64 0 ∧ f5 21 = .int .i64 0 ∧ Row wl b_c 34 2 (fun j => if j < 1 then .string (str s) else .int .i64 d) ∧ Below w0.heap.size w0 wl) 0 ?_ ?_
  · exact ⟨rfl, _, rfl, rfl, rfl, rfl, rfl, rfl, rfl, rfl, rfl, r_b_c, hk⟩
  · skip
    clear r_b_c hk
    rintro _ _ w6 ⟨rfl, f5, rfl, s1_0, s1_1, s1_2, s1_4, s1_7, s1_8, s1_20, s1_21, r_b_c, hk⟩
    refine wp_seq ?_
    refine wp_region_lit ?_
    refine w_val (v := .bool false) (y_bin (Ev.t (v := .int .i64 0) s1_21 rfl) (Ev.t (v := .int .i64 0) s1_20 rfl) b_lss) ?_
    refine wpList_nil ?_
    refine then_n ?_
    refine wp_seq ?_
    refine c_ff (Ev.t (v := .bool false) rfl rfl) ?_
    refine wp_exit ?_
    refine then_x ?_
    refine then_x ?_
    refine inb_x ?_
    refine then_n ?_
    refine wp_seq ?_
    refine wp_region_lit ?_
    refine w_val (v := .string (str key)) (y_mv (Ev.t (v := .string (str key)) s1_0 rfl)) ?_
    refine w_val (v := .pointer (some ⟨b_c, 0, none⟩)) (y_off (y_fa (Ev.t (v := .pointer (some ⟨b_c, 0, none⟩)) s1_4 rfl) (CtrPiecesWT.fa34_0 _ _)) (by first | rfl | omega)) ?_
    refine w_val (v := .string (str s)) (y_ld (Ev.t (v := .pointer (some ⟨b_c, 0, none⟩)) rfl rfl) CtrPiecesWT.sc9 (r_b_c.val (v := .string (str s)) (by omega) ((if_pos (by omega)).trans (by first | with_reducible rfl | (with_reducible congr 1 <;> omega) | (with_reducible congr 2 <;> omega) | (with_reducible congr 3 <;> omega) | rfl)))) ?_
    refine w_val (v := .pointer (some ⟨b_c, 1, none⟩)) (y_off (y_fa (Ev.t (v := .pointer (some ⟨b_c, 0, none⟩)) s1_4 rfl) (CtrPiecesWT.fa34_1 _ _)) (by first | rfl | omega)) ?_
    refine w_val (v := .int .i64 d) (y_ld (Ev.t (v := .pointer (some ⟨b_c, 1, none⟩)) rfl rfl) CtrPiecesWT.sc3 (r_b_c.val (v := .int .i64 d) (by omega) ((if_neg (by omega)).trans (by first | with_reducible rfl | (with_reducible congr 1 <;> omega) | (with_reducible congr 2 <;> omega) | (with_reducible congr 3 <;> omega) | rfl)))) ?_
    refine w_val (v := .string (str ([] : List (BitVec 8)))) (y_mv (Ev.t (v := .string (str ([] : List (BitVec 8)))) s1_7 rfl)) ?_
    refine w_call (Try.func21) (by kernel_rfl) rfl (m4 (Ev.t (v := .string (str key)) rfl rfl) (Ev.t (v := .string (str s)) rfl rfl) (Ev.t (v := .int .i64 d) rfl rfl) (Ev.t (v := .string (str ([] : List (BitVec 8)))) rfl rfl)) (ctrXor_i key [] hok s d hs w6) ?_
    rintro _ w7 ⟨rfl, hb8⟩
    refine ⟨_, rfl, ?_⟩
    replace r_b_c := r_b_c.step hb8
    replace hk := thenB hk hb8
    refine w_val (v := .tuple #[.string (str ([] : List (BitVec 8))), .int .i64 4]) (y_mv (Ev.t (v := .tuple #[.string (str ([] : List (BitVec 8))), .int .i64 4]) rfl rfl)) ?_
    refine w_val (v := .string (str ([] : List (BitVec 8)))) (y_ext (v := .string (str ([] : List (BitVec 8)))) (Ev.t (v := .tuple #[.string (str ([] : List (BitVec 8))), .int .i64 4]) rfl rfl) rfl) ?_
    refine w_val (v := .int .i64 4) (y_ext (v := .int .i64 4) (Ev.t (v := .tuple #[.string (str ([] : List (BitVec 8))), .int .i64 4]) rfl rfl) rfl) ?_
    refine w_val (v := .string (str ([] : List (BitVec 8)))) (y_as (Ev.t (v := .string (str ([] : List (BitVec 8)))) rfl rfl)) ?_
    refine w_val (v := .int .i64 4) (y_as (Ev.t (v := .int .i64 4) rfl rfl)) ?_
    refine wpList_nil ?_
    refine then_n ?_
    refine wp_seq ?_
    refine wp_region_lit ?_
    refine w_val (v := .slice none 0 0) (y_mv (Ev.t (v := .slice none 0 0) s1_2 rfl)) ?_
    refine w_val (v := .int .i64 0) (y_len_sl (Ev.t (v := .slice none 0 0) rfl rfl) Try.underlying42) ?_
    refine w_val (v := .bool true) (y_bin (Ev.t (v := .int .i64 0) rfl rfl) (Ev.c (v := .int .i64 0)) b_eql) ?_
    refine w_val (v := .bool true) (y_mv (Ev.t (v := .bool true) rfl rfl)) ?_
    first | with_reducible refine w_skip ?_ ?_ | refine w_skip ?_ ?_
    · exact want_no (j := 3) rfl rfl (Ev.t (v := .bool true) rfl rfl) rfl
    first | with_reducible refine w_skip ?_ ?_ | refine w_skip ?_ ?_
    · exact want_no (j := 3) rfl rfl (Ev.t (v := .bool true) rfl rfl) rfl
    first | with_reducible refine w_skip ?_ ?_ | refine w_skip ?_ ?_
    · exact want_no (j := 3) rfl rfl (Ev.t (v := .bool true) rfl rfl) rfl
    first | with_reducible refine w_skip ?_ ?_ | refine w_skip ?_ ?_
    · exact want_un (j := 6) rfl rfl (Ev.t (v := undef) rfl rfl) rfl
    first | with_reducible refine w_skip ?_ ?_ | refine w_skip ?_ ?_
    · exact want_un (j := 6) rfl rfl (Ev.t (v := undef) rfl rfl) rfl
    first | with_reducible refine w_skip ?_ ?_ | refine w_skip ?_ ?_
    · exact want_un (j := 6) rfl rfl (Ev.t (v := undef) rfl rfl) rfl
    first | with_reducible refine w_skip ?_ ?_ | refine w_skip ?_ ?_
    · exact want_no (j := 3) rfl rfl (Ev.t (v := .bool true) rfl rfl) rfl
    refine w_val (v := .bool true) (y_pick_t (Ev.t (v := .bool true) rfl rfl) (Ev.c (v := .bool true))) ?_
    refine w_val (v := .bool true) (y_as (Ev.t (v := .bool true) rfl rfl)) ?_
    refine wpList_nil ?_
    refine then_n ?_
    refine wp_ret ?_
    refine fin_ret1 rfl (Ev.t (v := .bool true) rfl rfl) ?_
    exact ⟨rfl, hk⟩

set_option maxRecDepth 100000 in
set_option maxHeartbeats 1000000 in
theorem ctrPieces_nil_d (key : List (BitVec 8)) (hok : Aes.okKey key.length) (s : List (BitVec 8)) (d : Int) (hs : s.length = 16) (hd : ¬ (1 ≤ d ∧ d ≤ 16)) (w0 : World) : Calls Try.prog 9 #[.string (str key), .agg (arr 2 (fun j => if j < 1 then .string (str s) else .int .i64 d)), .slice none 0 0] w0 fun e w' => e = .returned (.bool true) ∧ Below w0.heap.size w0 w' := by
  refine enter (n := 106) Try.func9 rfl rfl rfl ?_
  have hk : Below w0.heap.size w0 w0 := Below.refl _ _
  refine wp_seq ?_
  refine wp_region_lit ?_
  refine w_box (m := 2) (F := fun j => if j < 1 then .string (str s) else .int .i64 d) (Ev.t (v := .agg (arr 2 (fun j => if j < 1 then .string (str s) else .int .i64 d))) rfl rfl) rfl ?_
  intro b_c w1 hbe_b_c r_b_c hb2
  have ge_b_c : w0.heap.size ≤ b_c := by have := hk.size; omega
  clear hbe_b_c
  replace hk := thenB hk hb2
  refine w_val (v := .bool false) (y_as (Ev.c (v := .bool false))) ?_
  refine wpList_nil ?_
  refine then_n ?_
  refine wp_seq ?_
  refine wp_seq ?_
  refine wp_region_lit ?_
  refine w_call (Try.func18) (by kernel_rfl) rfl m0 (ctrWakes_c  w1) ?_
  rintro _ w3 ⟨rfl, hb4⟩
  refine ⟨_, rfl, ?_⟩
  replace r_b_c := r_b_c.step hb4
  replace hk := thenB hk hb4
  refine w_val (v := .bool false) (y_not (Ev.t (v := .bool true) rfl rfl)) ?_
  refine wpList_nil ?_
  refine then_n ?_
  refine c_ff (Ev.t (v := .bool false) rfl rfl) ?_
  refine wp_skip ?_
  refine then_n ?_
  refine wp_seq ?_
  refine wp_region_lit ?_
  refine w_val (v := .string (str ([] : List (BitVec 8)))) (y_as (Ev.c (v := .string (str ([] : List (BitVec 8)))))) ?_
  refine w_val (v := .string (str ([] : List (BitVec 8)))) (y_as (Ev.c (v := .string (str ([] : List (BitVec 8)))))) ?_
  refine wpList_nil ?_
  refine then_n ?_
  refine wp_seq ?_
  refine wp_seq ?_
  refine wp_region_lit ?_
  refine w_val (v := .slice none 0 0) (y_mv (Ev.t (v := .slice none 0 0) rfl rfl)) ?_
  refine w_val (v := .int .i64 0) (y_len_sl (Ev.t (v := .slice none 0 0) rfl rfl) Try.underlying42) ?_
  refine w_val (v := .int .i64 0) (y_mv (Ev.c (v := .int .i64 0))) ?_
  refine wpList_nil ?_
  refine then_n ?_
  refine wp_block ?_
  refine c_loop (fun dN aN wl => dN = 0 ∧ ∃ f5, aN = fr 106 f5 ∧ f5 0 = .string (str key) ∧ f5 1 = .agg (arr 2 (fun j => if j < 1 then .string (str s) else .int .i64 d)) ∧ f5 2 = .slice none 0 0 ∧ f5 4 = .pointer (some ⟨b_c, 0, none⟩) ∧ f5 7 = .string (str ([] : List (BitVec 8))) ∧ f5 8 = .string (str ([] : List (BitVec 8))) ∧ f5 20 = .int .i64 0 ∧ f5 21 = .int .i64 0 ∧ Row wl b_c 34 2 (fun j => if j < 1 then .string (str s) else .int .i64 d) ∧ Below w0.heap.size w0 wl) 0 ?_ ?_
  · exact ⟨rfl, _, rfl, rfl, rfl, rfl, rfl, rfl, rfl, rfl, rfl, r_b_c, hk⟩
  · skip
    clear r_b_c hk
    rintro _ _ w6 ⟨rfl, f5, rfl, s1_0, s1_1, s1_2, s1_4, s1_7, s1_8, s1_20, s1_21, r_b_c, hk⟩
    refine wp_seq ?_
    refine wp_region_lit ?_
    refine w_val (v := .bool false) (y_bin (Ev.t (v := .int .i64 0) s1_21 rfl) (Ev.t (v := .int .i64 0) s1_20 rfl) b_lss) ?_
    refine wpList_nil ?_
    refine then_n ?_
    refine wp_seq ?_
    refine c_ff (Ev.t (v := .bool false) rfl rfl) ?_
    refine wp_exit ?_
    refine then_x ?_
    refine then_x ?_
    refine inb_x ?_
    refine then_n ?_
    refine wp_seq ?_
    refine wp_region_lit ?_
    refine w_val (v := .string (str key)) (y_mv (Ev.t (v := .string (str key)) s1_0 rfl)) ?_
    refine w_val (v := .pointer (some ⟨b_c, 0, none⟩)) (y_off (y_fa (Ev.t (v := .pointer (some ⟨b_c, 0, none⟩)) s1_4 rfl) (CtrPiecesWT.fa34_0 _ _)) (by first | rfl | omega)) ?_
    refine w_val (v := .string (str s)) (y_ld (Ev.t (v := .pointer (some ⟨b_c, 0, none⟩)) rfl rfl) CtrPiecesWT.sc9 (r_b_c.val (v := .string (str s)) (by omega) ((if_pos (by omega)).trans (by first | with_reducible rfl | (with_reducible congr 1 <;> omega) | (with_reducible congr 2 <;> omega) | (with_reducible congr 3 <;> omega) | rfl)))) ?_
    refine w_val (v := .pointer (some ⟨b_c, 1, none⟩)) (y_off (y_fa (Ev.t (v := .pointer (some ⟨b_c, 0, none⟩)) s1_4 rfl) (CtrPiecesWT.fa34_1 _ _)) (by first | rfl | omega)) ?_
    refine w_val (v := .int .i64 d) (y_ld (Ev.t (v := .pointer (some ⟨b_c, 1, none⟩)) rfl rfl) CtrPiecesWT.sc3 (r_b_c.val (v := .int .i64 d) (by omega) ((if_neg (by omega)).trans (by first | with_reducible rfl | (with_reducible congr 1 <;> omega) | (with_reducible congr 2 <;> omega) | (with_reducible congr 3 <;> omega) | rfl)))) ?_
    refine w_val (v := .string (str ([] : List (BitVec 8)))) (y_mv (Ev.t (v := .string (str ([] : List (BitVec 8)))) s1_7 rfl)) ?_
    refine w_call (Try.func21) (by kernel_rfl) rfl (m4 (Ev.t (v := .string (str key)) rfl rfl) (Ev.t (v := .string (str s)) rfl rfl) (Ev.t (v := .int .i64 d) rfl rfl) (Ev.t (v := .string (str ([] : List (BitVec 8)))) rfl rfl)) (ctrXor_d key [] hok s d hs hd w6) ?_
    rintro _ w7 ⟨rfl, hb8⟩
    refine ⟨_, rfl, ?_⟩
    replace r_b_c := r_b_c.step hb8
    replace hk := thenB hk hb8
    refine w_val (v := .tuple #[.string (str ([] : List (BitVec 8))), .int .i64 2]) (y_mv (Ev.t (v := .tuple #[.string (str ([] : List (BitVec 8))), .int .i64 2]) rfl rfl)) ?_
    refine w_val (v := .string (str ([] : List (BitVec 8)))) (y_ext (v := .string (str ([] : List (BitVec 8)))) (Ev.t (v := .tuple #[.string (str ([] : List (BitVec 8))), .int .i64 2]) rfl rfl) rfl) ?_
    refine w_val (v := .int .i64 2) (y_ext (v := .int .i64 2) (Ev.t (v := .tuple #[.string (str ([] : List (BitVec 8))), .int .i64 2]) rfl rfl) rfl) ?_
    refine w_val (v := .string (str ([] : List (BitVec 8)))) (y_as (Ev.t (v := .string (str ([] : List (BitVec 8)))) rfl rfl)) ?_
    refine w_val (v := .int .i64 2) (y_as (Ev.t (v := .int .i64 2) rfl rfl)) ?_
    refine wpList_nil ?_
    refine then_n ?_
    refine wp_seq ?_
    refine wp_region_lit ?_
    refine w_val (v := .slice none 0 0) (y_mv (Ev.t (v := .slice none 0 0) s1_2 rfl)) ?_
    refine w_val (v := .int .i64 0) (y_len_sl (Ev.t (v := .slice none 0 0) rfl rfl) Try.underlying42) ?_
    refine w_val (v := .bool true) (y_bin (Ev.t (v := .int .i64 0) rfl rfl) (Ev.c (v := .int .i64 0)) b_eql) ?_
    refine w_val (v := .bool true) (y_mv (Ev.t (v := .bool true) rfl rfl)) ?_
    first | with_reducible refine w_skip ?_ ?_ | refine w_skip ?_ ?_
    · exact want_no (j := 3) rfl rfl (Ev.t (v := .bool true) rfl rfl) rfl
    first | with_reducible refine w_skip ?_ ?_ | refine w_skip ?_ ?_
    · exact want_no (j := 3) rfl rfl (Ev.t (v := .bool true) rfl rfl) rfl
    first | with_reducible refine w_skip ?_ ?_ | refine w_skip ?_ ?_
    · exact want_no (j := 3) rfl rfl (Ev.t (v := .bool true) rfl rfl) rfl
    first | with_reducible refine w_skip ?_ ?_ | refine w_skip ?_ ?_
    · exact want_un (j := 6) rfl rfl (Ev.t (v := undef) rfl rfl) rfl
    first | with_reducible refine w_skip ?_ ?_ | refine w_skip ?_ ?_
    · exact want_un (j := 6) rfl rfl (Ev.t (v := undef) rfl rfl) rfl
    first | with_reducible refine w_skip ?_ ?_ | refine w_skip ?_ ?_
    · exact want_un (j := 6) rfl rfl (Ev.t (v := undef) rfl rfl) rfl
    first | with_reducible refine w_skip ?_ ?_ | refine w_skip ?_ ?_
    · exact want_no (j := 3) rfl rfl (Ev.t (v := .bool true) rfl rfl) rfl
    refine w_val (v := .bool true) (y_pick_t (Ev.t (v := .bool true) rfl rfl) (Ev.c (v := .bool true))) ?_
    refine w_val (v := .bool true) (y_as (Ev.t (v := .bool true) rfl rfl)) ?_
    refine wpList_nil ?_
    refine then_n ?_
    refine wp_ret ?_
    refine fin_ret1 rfl (Ev.t (v := .bool true) rfl rfl) ?_
    exact ⟨rfl, hk⟩

set_option maxRecDepth 100000 in
set_option maxHeartbeats 1000000 in
theorem ctrPieces_nil_y (key : List (BitVec 8)) (hok : Aes.okKey key.length) (s : List (BitVec 8)) (d : Nat) (hs : s.length = 16) (h1 : 1 ≤ d) (h16 : d ≤ 16) (w0 : World) : Calls Try.prog 9 #[.string (str key), .agg (arr 2 (fun j => if j < 1 then .string (str s) else .int .i64 ((d : Nat) : Int))), .slice none 0 0] w0 fun e w' => e = .returned (.bool true) ∧ Below w0.heap.size w0 w' := by
  refine enter (n := 106) Try.func9 rfl rfl rfl ?_
  have hk : Below w0.heap.size w0 w0 := Below.refl _ _
  refine wp_seq ?_
  refine wp_region_lit ?_
  refine w_box (m := 2) (F := fun j => if j < 1 then .string (str s) else .int .i64 ((d : Nat) : Int)) (Ev.t (v := .agg (arr 2 (fun j => if j < 1 then .string (str s) else .int .i64 ((d : Nat) : Int)))) rfl rfl) rfl ?_
  intro b_c w1 hbe_b_c r_b_c hb2
  have ge_b_c : w0.heap.size ≤ b_c := by have := hk.size; omega
  clear hbe_b_c
  replace hk := thenB hk hb2
  refine w_val (v := .bool false) (y_as (Ev.c (v := .bool false))) ?_
  refine wpList_nil ?_
  refine then_n ?_
  refine wp_seq ?_
  refine wp_seq ?_
  refine wp_region_lit ?_
  refine w_call (Try.func18) (by kernel_rfl) rfl m0 (ctrWakes_c  w1) ?_
  rintro _ w3 ⟨rfl, hb4⟩
  refine ⟨_, rfl, ?_⟩
  replace r_b_c := r_b_c.step hb4
  replace hk := thenB hk hb4
  refine w_val (v := .bool false) (y_not (Ev.t (v := .bool true) rfl rfl)) ?_
  refine wpList_nil ?_
  refine then_n ?_
  refine c_ff (Ev.t (v := .bool false) rfl rfl) ?_
  refine wp_skip ?_
  refine then_n ?_
  refine wp_seq ?_
  refine wp_region_lit ?_
  refine w_val (v := .string (str ([] : List (BitVec 8)))) (y_as (Ev.c (v := .string (str ([] : List (BitVec 8)))))) ?_
  refine w_val (v := .string (str ([] : List (BitVec 8)))) (y_as (Ev.c (v := .string (str ([] : List (BitVec 8)))))) ?_
  refine wpList_nil ?_
  refine then_n ?_
  refine wp_seq ?_
  refine wp_seq ?_
  refine wp_region_lit ?_
  refine w_val (v := .slice none 0 0) (y_mv (Ev.t (v := .slice none 0 0) rfl rfl)) ?_
  refine w_val (v := .int .i64 0) (y_len_sl (Ev.t (v := .slice none 0 0) rfl rfl) Try.underlying42) ?_
  refine w_val (v := .int .i64 0) (y_mv (Ev.c (v := .int .i64 0))) ?_
  refine wpList_nil ?_
  refine then_n ?_
  refine wp_block ?_
  refine c_loop (fun dN aN wl => dN = 0 ∧ ∃ f5, aN = fr 106 f5 ∧ f5 0 = .string (str key) ∧ f5 1 = .agg (arr 2 (fun j => if j < 1 then .string (str s) else .int .i64 ((d : Nat) : Int))) ∧ f5 2 = .slice none 0 0 ∧ f5 4 = .pointer (some ⟨b_c, 0, none⟩) ∧ f5 7 = .string (str ([] : List (BitVec 8))) ∧ f5 8 = .string (str ([] : List (BitVec 8))) ∧ f5 20 = .int .i64 0 ∧ f5 21 = .int .i64 0 ∧ Row wl b_c 34 2 (fun j => if j < 1 then .string (str s) else .int .i64 ((d : Nat) : Int)) ∧ Below w0.heap.size w0 wl) 0 ?_ ?_
  · exact ⟨rfl, _, rfl, rfl, rfl, rfl, rfl, rfl, rfl, rfl, rfl, r_b_c, hk⟩
  · skip
    clear r_b_c hk
    rintro _ _ w6 ⟨rfl, f5, rfl, s1_0, s1_1, s1_2, s1_4, s1_7, s1_8, s1_20, s1_21, r_b_c, hk⟩
    refine wp_seq ?_
    refine wp_region_lit ?_
    refine w_val (v := .bool false) (y_bin (Ev.t (v := .int .i64 0) s1_21 rfl) (Ev.t (v := .int .i64 0) s1_20 rfl) b_lss) ?_
    refine wpList_nil ?_
    refine then_n ?_
    refine wp_seq ?_
    refine c_ff (Ev.t (v := .bool false) rfl rfl) ?_
    refine wp_exit ?_
    refine then_x ?_
    refine then_x ?_
    refine inb_x ?_
    refine then_n ?_
    refine wp_seq ?_
    refine wp_region_lit ?_
    refine w_val (v := .string (str key)) (y_mv (Ev.t (v := .string (str key)) s1_0 rfl)) ?_
    refine w_val (v := .pointer (some ⟨b_c, 0, none⟩)) (y_off (y_fa (Ev.t (v := .pointer (some ⟨b_c, 0, none⟩)) s1_4 rfl) (CtrPiecesWT.fa34_0 _ _)) (by first | rfl | omega)) ?_
    refine w_val (v := .string (str s)) (y_ld (Ev.t (v := .pointer (some ⟨b_c, 0, none⟩)) rfl rfl) CtrPiecesWT.sc9 (r_b_c.val (v := .string (str s)) (by omega) ((if_pos (by omega)).trans (by first | with_reducible rfl | (with_reducible congr 1 <;> omega) | (with_reducible congr 2 <;> omega) | (with_reducible congr 3 <;> omega) | rfl)))) ?_
    refine w_val (v := .pointer (some ⟨b_c, 1, none⟩)) (y_off (y_fa (Ev.t (v := .pointer (some ⟨b_c, 0, none⟩)) s1_4 rfl) (CtrPiecesWT.fa34_1 _ _)) (by first | rfl | omega)) ?_
    refine w_val (v := .int .i64 ((d : Nat) : Int)) (y_ld (Ev.t (v := .pointer (some ⟨b_c, 1, none⟩)) rfl rfl) CtrPiecesWT.sc3 (r_b_c.val (v := .int .i64 ((d : Nat) : Int)) (by omega) ((if_neg (by omega)).trans (by first | with_reducible rfl | (with_reducible congr 1 <;> omega) | (with_reducible congr 2 <;> omega) | (with_reducible congr 3 <;> omega) | rfl)))) ?_
    refine w_val (v := .string (str ([] : List (BitVec 8)))) (y_mv (Ev.t (v := .string (str ([] : List (BitVec 8)))) s1_7 rfl)) ?_
    refine w_call (Try.func21) (by kernel_rfl) rfl (m4 (Ev.t (v := .string (str key)) rfl rfl) (Ev.t (v := .string (str s)) rfl rfl) (Ev.t (v := .int .i64 ((d : Nat) : Int)) rfl rfl) (Ev.t (v := .string (str ([] : List (BitVec 8)))) rfl rfl)) (ctrXor_y key [] hok s d hs h1 h16 (by decide) w6) ?_
    rintro _ w7 ⟨rfl, hb8⟩
    refine ⟨_, rfl, ?_⟩
    replace r_b_c := r_b_c.step hb8
    replace hk := thenB hk hb8
    refine w_val (v := .tuple #[.string (str (Ct.x key s d [])), .int .i64 0]) (y_mv (Ev.t (v := .tuple #[.string (str (Ct.x key s d [])), .int .i64 0]) rfl rfl)) ?_
    refine w_val (v := .string (str (Ct.x key s d []))) (y_ext (v := .string (str (Ct.x key s d []))) (Ev.t (v := .tuple #[.string (str (Ct.x key s d [])), .int .i64 0]) rfl rfl) rfl) ?_
    refine w_val (v := .int .i64 0) (y_ext (v := .int .i64 0) (Ev.t (v := .tuple #[.string (str (Ct.x key s d [])), .int .i64 0]) rfl rfl) rfl) ?_
    refine w_val (v := .string (str (Ct.x key s d []))) (y_as (Ev.t (v := .string (str (Ct.x key s d []))) rfl rfl)) ?_
    refine w_val (v := .int .i64 0) (y_as (Ev.t (v := .int .i64 0) rfl rfl)) ?_
    refine wpList_nil ?_
    refine then_n ?_
    refine wp_seq ?_
    refine wp_region_lit ?_
    refine w_val (v := .slice none 0 0) (y_mv (Ev.t (v := .slice none 0 0) s1_2 rfl)) ?_
    refine w_val (v := .int .i64 0) (y_len_sl (Ev.t (v := .slice none 0 0) rfl rfl) Try.underlying42) ?_
    refine w_val (v := .bool true) (y_bin (Ev.t (v := .int .i64 0) rfl rfl) (Ev.c (v := .int .i64 0)) b_eql) ?_
    refine w_val (v := .bool true) (y_mv (Ev.t (v := .bool true) rfl rfl)) ?_
    first | with_reducible refine w_skip ?_ ?_ | refine w_skip ?_ ?_
    · exact want_no (j := 3) rfl rfl (Ev.t (v := .bool true) rfl rfl) rfl
    first | with_reducible refine w_skip ?_ ?_ | refine w_skip ?_ ?_
    · exact want_no (j := 3) rfl rfl (Ev.t (v := .bool true) rfl rfl) rfl
    first | with_reducible refine w_skip ?_ ?_ | refine w_skip ?_ ?_
    · exact want_no (j := 3) rfl rfl (Ev.t (v := .bool true) rfl rfl) rfl
    first | with_reducible refine w_skip ?_ ?_ | refine w_skip ?_ ?_
    · exact want_un (j := 6) rfl rfl (Ev.t (v := undef) rfl rfl) rfl
    first | with_reducible refine w_skip ?_ ?_ | refine w_skip ?_ ?_
    · exact want_un (j := 6) rfl rfl (Ev.t (v := undef) rfl rfl) rfl
    first | with_reducible refine w_skip ?_ ?_ | refine w_skip ?_ ?_
    · exact want_un (j := 6) rfl rfl (Ev.t (v := undef) rfl rfl) rfl
    first | with_reducible refine w_skip ?_ ?_ | refine w_skip ?_ ?_
    · exact want_no (j := 3) rfl rfl (Ev.t (v := .bool true) rfl rfl) rfl
    refine w_val (v := .bool true) (y_pick_t (Ev.t (v := .bool true) rfl rfl) (Ev.c (v := .bool true))) ?_
    refine w_val (v := .bool true) (y_as (Ev.t (v := .bool true) rfl rfl)) ?_
    refine wpList_nil ?_
    refine then_n ?_
    refine wp_ret ?_
    refine fin_ret1 rfl (Ev.t (v := .bool true) rfl rfl) ?_
    exact ⟨rfl, hk⟩

theorem walk_CtrPieces_nil (key s : List (BitVec 8)) (d : Int) (w : World) : Calls Try.prog 9 #[.string (str key), .agg #[.string (str s), .int .i64 d], .slice none 0 0] w fun e w' => e = .returned (.bool true) ∧ Below w.heap.size w w' := by
  by_cases hk : Aes.okKey key.length
  · by_cases hs : s.length = 16
    · by_cases hd : 1 ≤ d ∧ d ≤ 16
      · obtain ⟨k, rfl⟩ : ∃ k : Nat, d = k := ⟨d.toNat, by omega⟩
        exact ctrPieces_nil_y key hk s k hs (by omega) (by omega) w
      · exact ctrPieces_nil_d key hk s d hs hd w
    · exact ctrPieces_nil_i key hk s d hs w
  · exact ctrPieces_nil_k key hk s d w
theorem walk_CtrPieces (key s : List (BitVec 8)) (d : Int) (g off n cap : Nat) (hn : n ≤ 140737488351232) (l : Nat → List (BitVec 8)) (w : World) (hg : g < w.heap.size) (hl : ∀ i, i < n → w.cell? ⟨g, off + i, none⟩ = some (.string (str (l i)))) :
    Calls Try.prog 9 #[.string (str key), .agg #[.string (str s), .int .i64 d], .slice (some ⟨g, off, none⟩) n cap] w fun e w' => e = .returned (.bool true) ∧ Below w.heap.size w w' := by
  by_cases hs : s.length = 16
  · by_cases hd : 1 ≤ d ∧ d ≤ 16
    · obtain ⟨k, rfl⟩ : ∃ k : Nat, d = k := ⟨d.toNat, by omega⟩
      by_cases hk : Aes.okKey key.length
      · exact ctrPieces_y key hk s k hs (by omega) (by omega) g off n cap hn l w hg hl
      · exact ctrPieces_k key hk s k hs (by omega) (by omega) g off n cap hn l w hg hl
    · by_cases hk : Aes.okKey key.length
      · exact ctrPieces_dy key hk s d hs hd g off n cap hn l w hg hl
      · exact ctrPieces_dk key hk s d hs hd g off n cap hn l w hg hl
  · by_cases hk : Aes.okKey key.length
    · exact ctrPieces_iy key hk s d hs g off n cap hn l w hg hl
    · exact ctrPieces_ik key hk s d hs g off n cap hn l w hg hl
end Go.Proofs.Ythmcoaadigaddaa
