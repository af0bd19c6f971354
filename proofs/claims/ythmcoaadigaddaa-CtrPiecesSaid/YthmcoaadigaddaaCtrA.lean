/-
  Counters: what the program and the reference compute. Conditions as each says.
-/
import Derived.Test.YthmcoaadigaddaaRows
import Derived.Test.YthmcoaadigaddaaGenMore
import Derived.Test.YthmcoaadigaddaaAesBase
import Derived.Test.YthmcoaadigaddaaOctW
import Derived.Test.YthmcoaadigaddaaCtrPlain
import Derived.ProofKit
namespace Go.Proofs.Ythmcoaadigaddaa
open Go.RowKit
set_option linter.unusedSimpArgs false
set_option linter.unusedVariables false
namespace CtrAT
theorem mixed : Try.prog.follows .mixedOrders = true := by kernel_rfl
end CtrAT
set_option maxRecDepth 100000 in
set_option maxHeartbeats 1000000 in
theorem wrong_i (s : List (BitVec 8)) (d : Int) (hs : s.length ≠ 16) (w0 : World) : Calls Try.prog 35 #[.string (str s), .int .i64 d] w0 fun e w' => e = .returned (.int .i64 4) ∧ Below w0.heap.size w0 w' := by
  refine enter (n := 14) Try.func35 rfl rfl rfl ?_
  have hk : Below w0.heap.size w0 w0 := Below.refl _ _
  refine wp_seq ?_
  refine wp_region_lit ?_
  refine w_val (v := .int .i64 0) (y_as (Ev.c (v := .int .i64 0))) ?_
  refine wpList_nil ?_
  refine then_n ?_
  refine wp_seq ?_
  refine wp_seq ?_
  refine wp_region_lit ?_
  refine w_val (v := .string (str s)) (y_mv (Ev.t (v := .string (str s)) rfl rfl)) ?_
  refine w_val (v := .int .i64 ((s.length : Nat) : Int)) (y_len (Ev.t (v := .string (str s)) rfl rfl) Try.underlying9) ?_
  refine w_val (v := .bool (decide (((s.length : Nat) : Int) ≠ 16))) (y_bin (Ev.t (v := .int .i64 ((s.length : Nat) : Int)) rfl rfl) (Ev.c (v := .int .i64 16)) b_neq) ?_
  refine wpList_nil ?_
  refine then_n ?_
  refine c_if (p := ((s.length : Nat) : Int) ≠ 16) (Ev.t (v := .bool (decide (((s.length : Nat) : Int) ≠ 16))) rfl rfl) (fun hc1 => ?_) (fun hc1 => ?_)
  · skip
    refine wp_seq ?_
    refine wp_region_lit ?_
    refine w_val (v := .int .i64 4) (y_as (Ev.c (v := .int .i64 4))) ?_
    refine wpList_nil ?_
    refine then_n ?_
    refine wp_ret ?_
    refine then_r ?_
    refine fin_ret1 rfl (Ev.t (v := .int .i64 4) rfl rfl) ?_
    exact ⟨rfl, hk⟩
  · skip
    refine wp_skip ?_
    refine then_n ?_
    refine wp_seq ?_
    refine wp_seq ?_
    refine wp_region_lit ?_
    refine w_val (v := .int .i64 d) (y_mv (Ev.t (v := .int .i64 d) rfl rfl)) ?_
    refine w_val (v := .bool (decide (d < 1))) (y_bin (Ev.t (v := .int .i64 d) rfl rfl) (Ev.c (v := .int .i64 1)) b_lss) ?_
    refine w_val (v := .bool (decide (d < 1))) (y_mv (Ev.t (v := .bool (decide (d < 1))) rfl rfl)) ?_
    by_cases hc2 : d < 1
    · skip
      first | with_reducible refine w_skip ?_ ?_ | refine w_skip ?_ ?_
      · exact want_no (j := 2) rfl rfl (Ev.t (v := .bool true) (Eq.trans (b := .bool (decide (d < 1))) rfl (by rw [decide_eq_true hc2])) rfl) rfl
      first | with_reducible refine w_skip ?_ ?_ | refine w_skip ?_ ?_
      · exact want_no (j := 2) rfl rfl (Ev.t (v := .bool true) (Eq.trans (b := .bool (decide (d < 1))) rfl (by rw [decide_eq_true hc2])) rfl) rfl
      refine w_val (v := .bool true) (y_pick_t (Ev.t (v := .bool true) (Eq.trans (b := .bool (decide (d < 1))) rfl (by rw [decide_eq_true hc2])) rfl) (Ev.c (v := .bool true))) ?_
      refine wpList_nil ?_
      refine then_n ?_
      refine c_tt (Ev.t (v := .bool true) rfl rfl) ?_
      refine wp_seq ?_
      refine wp_region_lit ?_
      refine w_val (v := .int .i64 2) (y_as (Ev.c (v := .int .i64 2))) ?_
      refine wpList_nil ?_
      refine then_n ?_
      refine wp_ret ?_
      refine then_r ?_
      refine fin_ret1 rfl (Ev.t (v := .int .i64 2) rfl rfl) ?_
      refine ⟨congrArg Ending.returned ?_, hk⟩
      show (.int .i64 2 : Value) = .int .i64 4
      first | with_reducible rfl | (with_reducible congr 1 <;> omega) | (with_reducible congr 2 <;> omega) | (with_reducible congr 3 <;> omega) | rfl
    · skip
      refine w_val_g (v := .int .i64 d) (want_yes (j := 2) rfl rfl (Ev.t (v := .bool false) (Eq.trans (b := .bool (decide (d < 1))) rfl (by rw [decide_eq_false hc2])) rfl) rfl) (y_mv (Ev.t (v := .int .i64 d) rfl rfl)) ?_
      refine w_val_g (v := .bool (decide (16 < d))) (want_yes (j := 2) rfl rfl (Ev.t (v := .bool false) (Eq.trans (b := .bool (decide (d < 1))) rfl (by rw [decide_eq_false hc2])) rfl) rfl) (y_bin (Ev.t (v := .int .i64 d) rfl rfl) (Ev.c (v := .int .i64 16)) b_gtr) ?_
      refine w_val (v := .bool (decide (16 < d))) (y_pick_f (Ev.t (v := .bool false) (Eq.trans (b := .bool (decide (d < 1))) rfl (by rw [decide_eq_false hc2])) rfl) (Ev.t (v := .bool (decide (16 < d))) rfl rfl)) ?_
      refine wpList_nil ?_
      refine then_n ?_
      refine c_if (p := 16 < d) (Ev.t (v := .bool (decide (16 < d))) rfl rfl) (fun hc3 => ?_) (fun hc3 => ?_)
      · skip
        refine wp_seq ?_
        refine wp_region_lit ?_
        refine w_val (v := .int .i64 2) (y_as (Ev.c (v := .int .i64 2))) ?_
        refine wpList_nil ?_
        refine then_n ?_
        refine wp_ret ?_
        refine then_r ?_
        refine fin_ret1 rfl (Ev.t (v := .int .i64 2) rfl rfl) ?_
        refine ⟨congrArg Ending.returned ?_, hk⟩
        show (.int .i64 2 : Value) = .int .i64 4
        first | with_reducible rfl | (with_reducible congr 1 <;> omega) | (with_reducible congr 2 <;> omega) | (with_reducible congr 3 <;> omega) | rfl
      · skip
        refine wp_skip ?_
        refine then_n ?_
        refine wp_seq ?_
        refine wp_region_lit ?_
        refine w_val (v := .int .i64 0) (y_as (Ev.c (v := .int .i64 0))) ?_
        refine wpList_nil ?_
        refine then_n ?_
        refine wp_ret ?_
        refine fin_ret1 rfl (Ev.t (v := .int .i64 0) rfl rfl) ?_
        refine ⟨congrArg Ending.returned ?_, hk⟩
        show (.int .i64 0 : Value) = .int .i64 4
        first | with_reducible rfl | (with_reducible congr 1 <;> omega) | (with_reducible congr 2 <;> omega) | (with_reducible congr 3 <;> omega) | rfl

set_option maxRecDepth 100000 in
set_option maxHeartbeats 1000000 in
theorem wrong_d (s : List (BitVec 8)) (d : Int) (hs : s.length = 16) (hd : ¬ (1 ≤ d ∧ d ≤ 16)) (w0 : World) : Calls Try.prog 35 #[.string (str s), .int .i64 d] w0 fun e w' => e = .returned (.int .i64 2) ∧ Below w0.heap.size w0 w' := by
  refine enter (n := 14) Try.func35 rfl rfl rfl ?_
  have hk : Below w0.heap.size w0 w0 := Below.refl _ _
  refine wp_seq ?_
  refine wp_region_lit ?_
  refine w_val (v := .int .i64 0) (y_as (Ev.c (v := .int .i64 0))) ?_
  refine wpList_nil ?_
  refine then_n ?_
  refine wp_seq ?_
  refine wp_seq ?_
  refine wp_region_lit ?_
  refine w_val (v := .string (str s)) (y_mv (Ev.t (v := .string (str s)) rfl rfl)) ?_
  refine w_val (v := .int .i64 ((s.length : Nat) : Int)) (y_len (Ev.t (v := .string (str s)) rfl rfl) Try.underlying9) ?_
  refine w_val (v := .bool (decide (((s.length : Nat) : Int) ≠ 16))) (y_bin (Ev.t (v := .int .i64 ((s.length : Nat) : Int)) rfl rfl) (Ev.c (v := .int .i64 16)) b_neq) ?_
  refine wpList_nil ?_
  refine then_n ?_
  have hc1 : ¬ (((s.length : Nat) : Int) ≠ 16) := by omega
  refine c_f (p := ((s.length : Nat) : Int) ≠ 16) (Ev.t (v := .bool (decide (((s.length : Nat) : Int) ≠ 16))) rfl rfl) hc1 ?_
  refine wp_skip ?_
  refine then_n ?_
  refine wp_seq ?_
  refine wp_seq ?_
  refine wp_region_lit ?_
  refine w_val (v := .int .i64 d) (y_mv (Ev.t (v := .int .i64 d) rfl rfl)) ?_
  refine w_val (v := .bool (decide (d < 1))) (y_bin (Ev.t (v := .int .i64 d) rfl rfl) (Ev.c (v := .int .i64 1)) b_lss) ?_
  refine w_val (v := .bool (decide (d < 1))) (y_mv (Ev.t (v := .bool (decide (d < 1))) rfl rfl)) ?_
  by_cases hc2 : d < 1
  · skip
    first | with_reducible refine w_skip ?_ ?_ | refine w_skip ?_ ?_
    · exact want_no (j := 2) rfl rfl (Ev.t (v := .bool true) (Eq.trans (b := .bool (decide (d < 1))) rfl (by rw [decide_eq_true hc2])) rfl) rfl
    first | with_reducible refine w_skip ?_ ?_ | refine w_skip ?_ ?_
    · exact want_no (j := 2) rfl rfl (Ev.t (v := .bool true) (Eq.trans (b := .bool (decide (d < 1))) rfl (by rw [decide_eq_true hc2])) rfl) rfl
    refine w_val (v := .bool true) (y_pick_t (Ev.t (v := .bool true) (Eq.trans (b := .bool (decide (d < 1))) rfl (by rw [decide_eq_true hc2])) rfl) (Ev.c (v := .bool true))) ?_
    refine wpList_nil ?_
    refine then_n ?_
    refine c_tt (Ev.t (v := .bool true) rfl rfl) ?_
    refine wp_seq ?_
    refine wp_region_lit ?_
    refine w_val (v := .int .i64 2) (y_as (Ev.c (v := .int .i64 2))) ?_
    refine wpList_nil ?_
    refine then_n ?_
    refine wp_ret ?_
    refine then_r ?_
    refine fin_ret1 rfl (Ev.t (v := .int .i64 2) rfl rfl) ?_
    exact ⟨rfl, hk⟩
  · skip
    refine w_val_g (v := .int .i64 d) (want_yes (j := 2) rfl rfl (Ev.t (v := .bool false) (Eq.trans (b := .bool (decide (d < 1))) rfl (by rw [decide_eq_false hc2])) rfl) rfl) (y_mv (Ev.t (v := .int .i64 d) rfl rfl)) ?_
    refine w_val_g (v := .bool (decide (16 < d))) (want_yes (j := 2) rfl rfl (Ev.t (v := .bool false) (Eq.trans (b := .bool (decide (d < 1))) rfl (by rw [decide_eq_false hc2])) rfl) rfl) (y_bin (Ev.t (v := .int .i64 d) rfl rfl) (Ev.c (v := .int .i64 16)) b_gtr) ?_
    refine w_val (v := .bool (decide (16 < d))) (y_pick_f (Ev.t (v := .bool false) (Eq.trans (b := .bool (decide (d < 1))) rfl (by rw [decide_eq_false hc2])) rfl) (Ev.t (v := .bool (decide (16 < d))) rfl rfl)) ?_
    refine wpList_nil ?_
    refine then_n ?_
    refine c_if (p := 16 < d) (Ev.t (v := .bool (decide (16 < d))) rfl rfl) (fun hc3 => ?_) (fun hc3 => ?_)
    · skip
      refine wp_seq ?_
      refine wp_region_lit ?_
      refine w_val (v := .int .i64 2) (y_as (Ev.c (v := .int .i64 2))) ?_
      refine wpList_nil ?_
      refine then_n ?_
      refine wp_ret ?_
      refine then_r ?_
      refine fin_ret1 rfl (Ev.t (v := .int .i64 2) rfl rfl) ?_
      exact ⟨rfl, hk⟩
    · skip
      refine wp_skip ?_
      refine then_n ?_
      refine wp_seq ?_
      exfalso; omega

set_option maxRecDepth 100000 in
set_option maxHeartbeats 1000000 in
theorem wrong_y (s : List (BitVec 8)) (d : Nat) (hs : s.length = 16) (h1 : 1 ≤ d) (h16 : d ≤ 16) (w0 : World) : Calls Try.prog 35 #[.string (str s), .int .i64 ((d : Nat) : Int)] w0 fun e w' => e = .returned (.int .i64 0) ∧ Below w0.heap.size w0 w' := by
  refine enter (n := 14) Try.func35 rfl rfl rfl ?_
  have hk : Below w0.heap.size w0 w0 := Below.refl _ _
  refine wp_seq ?_
  refine wp_region_lit ?_
  refine w_val (v := .int .i64 0) (y_as (Ev.c (v := .int .i64 0))) ?_
  refine wpList_nil ?_
  refine then_n ?_
  refine wp_seq ?_
  refine wp_seq ?_
  refine wp_region_lit ?_
  refine w_val (v := .string (str s)) (y_mv (Ev.t (v := .string (str s)) rfl rfl)) ?_
  refine w_val (v := .int .i64 ((s.length : Nat) : Int)) (y_len (Ev.t (v := .string (str s)) rfl rfl) Try.underlying9) ?_
  refine w_val (v := .bool (decide (((s.length : Nat) : Int) ≠ 16))) (y_bin (Ev.t (v := .int .i64 ((s.length : Nat) : Int)) rfl rfl) (Ev.c (v := .int .i64 16)) b_neq) ?_
  refine wpList_nil ?_
  refine then_n ?_
  have hc1 : ¬ (((s.length : Nat) : Int) ≠ 16) := by omega
  refine c_f (p := ((s.length : Nat) : Int) ≠ 16) (Ev.t (v := .bool (decide (((s.length : Nat) : Int) ≠ 16))) rfl rfl) hc1 ?_
  refine wp_skip ?_
  refine then_n ?_
  refine wp_seq ?_
  refine wp_seq ?_
  refine wp_region_lit ?_
  refine w_val (v := .int .i64 ((d : Nat) : Int)) (y_mv (Ev.t (v := .int .i64 ((d : Nat) : Int)) rfl rfl)) ?_
  refine w_val (v := .bool (decide (((d : Nat) : Int) < 1))) (y_bin (Ev.t (v := .int .i64 ((d : Nat) : Int)) rfl rfl) (Ev.c (v := .int .i64 1)) b_lss) ?_
  refine w_val (v := .bool (decide (((d : Nat) : Int) < 1))) (y_mv (Ev.t (v := .bool (decide (((d : Nat) : Int) < 1))) rfl rfl)) ?_
  have hc2 : ¬ (((d : Nat) : Int) < 1) := by omega
  refine w_val_g (v := .int .i64 ((d : Nat) : Int)) (want_yes (j := 2) rfl rfl (Ev.t (v := .bool false) (Eq.trans (b := .bool (decide (((d : Nat) : Int) < 1))) rfl (by rw [decide_eq_false hc2])) rfl) rfl) (y_mv (Ev.t (v := .int .i64 ((d : Nat) : Int)) rfl rfl)) ?_
  refine w_val_g (v := .bool (decide (16 < ((d : Nat) : Int)))) (want_yes (j := 2) rfl rfl (Ev.t (v := .bool false) (Eq.trans (b := .bool (decide (((d : Nat) : Int) < 1))) rfl (by rw [decide_eq_false hc2])) rfl) rfl) (y_bin (Ev.t (v := .int .i64 ((d : Nat) : Int)) rfl rfl) (Ev.c (v := .int .i64 16)) b_gtr) ?_
  refine w_val (v := .bool (decide (16 < ((d : Nat) : Int)))) (y_pick_f (Ev.t (v := .bool false) (Eq.trans (b := .bool (decide (((d : Nat) : Int) < 1))) rfl (by rw [decide_eq_false hc2])) rfl) (Ev.t (v := .bool (decide (16 < ((d : Nat) : Int)))) rfl rfl)) ?_
  refine wpList_nil ?_
  refine then_n ?_
  have hc3 : ¬ (16 < ((d : Nat) : Int)) := by omega
  refine c_f (p := 16 < ((d : Nat) : Int)) (Ev.t (v := .bool (decide (16 < ((d : Nat) : Int)))) rfl rfl) hc3 ?_
  refine wp_skip ?_
  refine then_n ?_
  refine wp_seq ?_
  refine wp_region_lit ?_
  refine w_val (v := .int .i64 0) (y_as (Ev.c (v := .int .i64 0))) ?_
  refine wpList_nil ?_
  refine then_n ?_
  refine wp_ret ?_
  refine fin_ret1 rfl (Ev.t (v := .int .i64 0) rfl rfl) ?_
  exact ⟨rfl, hk⟩

set_option maxRecDepth 100000 in
set_option maxHeartbeats 1000000 in
theorem next_i (s : List (BitVec 8)) (d : Int) (hs : s.length ≠ 16) (n : BitVec 64) (w0 : World) : Calls Try.prog 19 #[.string (str s), .int .i64 d, U64 n] w0 fun e w' => e = .returned (.tuple #[.string (str ([] : List (BitVec 8))), .int .i64 4]) ∧ Below w0.heap.size w0 w' := by
  refine enter (n := 26) Try.func19 rfl rfl rfl ?_
  have hk : Below w0.heap.size w0 w0 := Below.refl _ _
  refine wp_seq ?_
  refine wp_region_lit ?_
  refine w_val (v := .string (str ([] : List (BitVec 8)))) (y_as (Ev.c (v := .string (str ([] : List (BitVec 8)))))) ?_
  refine w_val (v := .int .i64 0) (y_as (Ev.c (v := .int .i64 0))) ?_
  refine wpList_nil ?_
  refine then_n ?_
  refine wp_seq ?_
  refine wp_seq ?_
  refine wp_region_lit ?_
  refine w_val (v := .string (str s)) (y_mv (Ev.t (v := .string (str s)) rfl rfl)) ?_
  refine w_val (v := .int .i64 d) (y_mv (Ev.t (v := .int .i64 d) rfl rfl)) ?_
  refine w_call (Try.func35) (by kernel_rfl) rfl (m2 (Ev.t (v := .string (str s)) rfl rfl) (Ev.t (v := .int .i64 d) rfl rfl)) (wrong_i s d hs w0) ?_
  rintro _ w1 ⟨rfl, hb2⟩
  refine ⟨_, rfl, ?_⟩
  replace hk := thenB hk hb2
  refine w_val (v := .int .i64 4) (y_as (Ev.t (v := .int .i64 4) rfl rfl)) ?_
  refine wpList_nil ?_
  refine then_n ?_
  refine wp_seq ?_
  refine wp_region_lit ?_
  refine w_val (v := .int .i64 4) (y_mv (Ev.t (v := .int .i64 4) rfl rfl)) ?_
  refine w_val (v := .bool true) (y_bin (Ev.t (v := .int .i64 4) rfl rfl) (Ev.c (v := .int .i64 0)) b_neq) ?_
  refine wpList_nil ?_
  refine then_n ?_
  refine c_tt (Ev.t (v := .bool true) rfl rfl) ?_
  refine wp_seq ?_
  refine wp_region_lit ?_
  refine w_val (v := .int .i64 4) (y_mv (Ev.t (v := .int .i64 4) rfl rfl)) ?_
  refine w_val (v := .string (str ([] : List (BitVec 8)))) (y_as (Ev.c (v := .string (str ([] : List (BitVec 8)))))) ?_
  refine w_val (v := .int .i64 4) (y_as (Ev.t (v := .int .i64 4) rfl rfl)) ?_
  refine wpList_nil ?_
  refine then_n ?_
  refine wp_ret ?_
  refine then_r ?_
  refine fin_ret2 rfl (Ev.t (v := .string (str ([] : List (BitVec 8)))) rfl rfl) (Ev.t (v := .int .i64 4) rfl rfl) ?_
  exact ⟨rfl, hk⟩

set_option maxRecDepth 100000 in
set_option maxHeartbeats 1000000 in
theorem refNext_i (s : List (BitVec 8)) (d : Int) (hs : s.length ≠ 16) (n : BitVec 64) (w0 : World) : Calls Try.prog 20 #[.string (str s), .int .i64 d, U64 n] w0 fun e w' => e = .returned (.tuple #[.string (str ([] : List (BitVec 8))), .int .i64 4]) ∧ Below w0.heap.size w0 w' := by
  refine enter (n := 28) Try.func20 rfl rfl rfl ?_
  have hk : Below w0.heap.size w0 w0 := Below.refl _ _
  refine wp_seq ?_
  refine wp_region_lit ?_
  refine w_val (v := .string (str ([] : List (BitVec 8)))) (y_as (Ev.c (v := .string (str ([] : List (BitVec 8)))))) ?_
  refine w_val (v := .int .i64 0) (y_as (Ev.c (v := .int .i64 0))) ?_
  refine wpList_nil ?_
  refine then_n ?_
  refine wp_seq ?_
  refine wp_seq ?_
  refine wp_region_lit ?_
  refine w_val (v := .string (str s)) (y_mv (Ev.t (v := .string (str s)) rfl rfl)) ?_
  refine w_val (v := .int .i64 ((s.length : Nat) : Int)) (y_len (Ev.t (v := .string (str s)) rfl rfl) Try.underlying9) ?_
  refine w_val (v := .bool (decide (((s.length : Nat) : Int) ≠ 16))) (y_bin (Ev.t (v := .int .i64 ((s.length : Nat) : Int)) rfl rfl) (Ev.c (v := .int .i64 16)) b_neq) ?_
  refine wpList_nil ?_
  refine then_n ?_
  have hc1 : ((s.length : Nat) : Int) ≠ 16 := by omega
  refine c_t (p := ((s.length : Nat) : Int) ≠ 16) (Ev.t (v := .bool (decide (((s.length : Nat) : Int) ≠ 16))) rfl rfl) hc1 ?_
  refine wp_seq ?_
  refine wp_region_lit ?_
  refine w_val (v := .string (str ([] : List (BitVec 8)))) (y_as (Ev.c (v := .string (str ([] : List (BitVec 8)))))) ?_
  refine w_val (v := .int .i64 4) (y_as (Ev.c (v := .int .i64 4))) ?_
  refine wpList_nil ?_
  refine then_n ?_
  refine wp_ret ?_
  refine then_r ?_
  refine fin_ret2 rfl (Ev.t (v := .string (str ([] : List (BitVec 8)))) rfl rfl) (Ev.t (v := .int .i64 4) rfl rfl) ?_
  exact ⟨rfl, hk⟩

set_option maxRecDepth 100000 in
set_option maxHeartbeats 1000000 in
theorem next_d (s : List (BitVec 8)) (d : Int) (hs : s.length = 16) (hd : ¬ (1 ≤ d ∧ d ≤ 16)) (n : BitVec 64) (w0 : World) : Calls Try.prog 19 #[.string (str s), .int .i64 d, U64 n] w0 fun e w' => e = .returned (.tuple #[.string (str ([] : List (BitVec 8))), .int .i64 2]) ∧ Below w0.heap.size w0 w' := by
  refine enter (n := 26) Try.func19 rfl rfl rfl ?_
  have hk : Below w0.heap.size w0 w0 := Below.refl _ _
  refine wp_seq ?_
  refine wp_region_lit ?_
  refine w_val (v := .string (str ([] : List (BitVec 8)))) (y_as (Ev.c (v := .string (str ([] : List (BitVec 8)))))) ?_
  refine w_val (v := .int .i64 0) (y_as (Ev.c (v := .int .i64 0))) ?_
  refine wpList_nil ?_
  refine then_n ?_
  refine wp_seq ?_
  refine wp_seq ?_
  refine wp_region_lit ?_
  refine w_val (v := .string (str s)) (y_mv (Ev.t (v := .string (str s)) rfl rfl)) ?_
  refine w_val (v := .int .i64 d) (y_mv (Ev.t (v := .int .i64 d) rfl rfl)) ?_
  refine w_call (Try.func35) (by kernel_rfl) rfl (m2 (Ev.t (v := .string (str s)) rfl rfl) (Ev.t (v := .int .i64 d) rfl rfl)) (wrong_d s d hs hd w0) ?_
  rintro _ w1 ⟨rfl, hb2⟩
  refine ⟨_, rfl, ?_⟩
  replace hk := thenB hk hb2
  refine w_val (v := .int .i64 2) (y_as (Ev.t (v := .int .i64 2) rfl rfl)) ?_
  refine wpList_nil ?_
  refine then_n ?_
  refine wp_seq ?_
  refine wp_region_lit ?_
  refine w_val (v := .int .i64 2) (y_mv (Ev.t (v := .int .i64 2) rfl rfl)) ?_
  refine w_val (v := .bool true) (y_bin (Ev.t (v := .int .i64 2) rfl rfl) (Ev.c (v := .int .i64 0)) b_neq) ?_
  refine wpList_nil ?_
  refine then_n ?_
  refine c_tt (Ev.t (v := .bool true) rfl rfl) ?_
  refine wp_seq ?_
  refine wp_region_lit ?_
  refine w_val (v := .int .i64 2) (y_mv (Ev.t (v := .int .i64 2) rfl rfl)) ?_
  refine w_val (v := .string (str ([] : List (BitVec 8)))) (y_as (Ev.c (v := .string (str ([] : List (BitVec 8)))))) ?_
  refine w_val (v := .int .i64 2) (y_as (Ev.t (v := .int .i64 2) rfl rfl)) ?_
  refine wpList_nil ?_
  refine then_n ?_
  refine wp_ret ?_
  refine then_r ?_
  refine fin_ret2 rfl (Ev.t (v := .string (str ([] : List (BitVec 8)))) rfl rfl) (Ev.t (v := .int .i64 2) rfl rfl) ?_
  exact ⟨rfl, hk⟩

set_option maxRecDepth 100000 in
set_option maxHeartbeats 1000000 in
theorem refNext_d (s : List (BitVec 8)) (d : Int) (hs : s.length = 16) (hd : ¬ (1 ≤ d ∧ d ≤ 16)) (n : BitVec 64) (w0 : World) : Calls Try.prog 20 #[.string (str s), .int .i64 d, U64 n] w0 fun e w' => e = .returned (.tuple #[.string (str ([] : List (BitVec 8))), .int .i64 2]) ∧ Below w0.heap.size w0 w' := by
  refine enter (n := 28) Try.func20 rfl rfl rfl ?_
  have hk : Below w0.heap.size w0 w0 := Below.refl _ _
  refine wp_seq ?_
  refine wp_region_lit ?_
  refine w_val (v := .string (str ([] : List (BitVec 8)))) (y_as (Ev.c (v := .string (str ([] : List (BitVec 8)))))) ?_
  refine w_val (v := .int .i64 0) (y_as (Ev.c (v := .int .i64 0))) ?_
  refine wpList_nil ?_
  refine then_n ?_
  refine wp_seq ?_
  refine wp_seq ?_
  refine wp_region_lit ?_
  refine w_val (v := .string (str s)) (y_mv (Ev.t (v := .string (str s)) rfl rfl)) ?_
  refine w_val (v := .int .i64 ((s.length : Nat) : Int)) (y_len (Ev.t (v := .string (str s)) rfl rfl) Try.underlying9) ?_
  refine w_val (v := .bool (decide (((s.length : Nat) : Int) ≠ 16))) (y_bin (Ev.t (v := .int .i64 ((s.length : Nat) : Int)) rfl rfl) (Ev.c (v := .int .i64 16)) b_neq) ?_
  refine wpList_nil ?_
  refine then_n ?_
  have hc1 : ¬ (((s.length : Nat) : Int) ≠ 16) := by omega
  refine c_f (p := ((s.length : Nat) : Int) ≠ 16) (Ev.t (v := .bool (decide (((s.length : Nat) : Int) ≠ 16))) rfl rfl) hc1 ?_
  refine wp_skip ?_
  refine then_n ?_
  refine wp_seq ?_
  refine wp_seq ?_
  refine wp_region_lit ?_
  refine w_val (v := .int .i64 d) (y_mv (Ev.t (v := .int .i64 d) rfl rfl)) ?_
  refine w_val (v := .bool (decide (d < 1))) (y_bin (Ev.t (v := .int .i64 d) rfl rfl) (Ev.c (v := .int .i64 1)) b_lss) ?_
  refine w_val (v := .bool (decide (d < 1))) (y_mv (Ev.t (v := .bool (decide (d < 1))) rfl rfl)) ?_
  by_cases hc2 : d < 1
  · skip
    first | with_reducible refine w_skip ?_ ?_ | refine w_skip ?_ ?_
    · exact want_no (j := 2) rfl rfl (Ev.t (v := .bool true) (Eq.trans (b := .bool (decide (d < 1))) rfl (by rw [decide_eq_true hc2])) rfl) rfl
    first | with_reducible refine w_skip ?_ ?_ | refine w_skip ?_ ?_
    · exact want_no (j := 2) rfl rfl (Ev.t (v := .bool true) (Eq.trans (b := .bool (decide (d < 1))) rfl (by rw [decide_eq_true hc2])) rfl) rfl
    refine w_val (v := .bool true) (y_pick_t (Ev.t (v := .bool true) (Eq.trans (b := .bool (decide (d < 1))) rfl (by rw [decide_eq_true hc2])) rfl) (Ev.c (v := .bool true))) ?_
    refine wpList_nil ?_
    refine then_n ?_
    refine c_tt (Ev.t (v := .bool true) rfl rfl) ?_
    refine wp_seq ?_
    refine wp_region_lit ?_
    refine w_val (v := .string (str ([] : List (BitVec 8)))) (y_as (Ev.c (v := .string (str ([] : List (BitVec 8)))))) ?_
    refine w_val (v := .int .i64 2) (y_as (Ev.c (v := .int .i64 2))) ?_
    refine wpList_nil ?_
    refine then_n ?_
    refine wp_ret ?_
    refine then_r ?_
    refine fin_ret2 rfl (Ev.t (v := .string (str ([] : List (BitVec 8)))) rfl rfl) (Ev.t (v := .int .i64 2) rfl rfl) ?_
    exact ⟨rfl, hk⟩
  · skip
    refine w_val_g (v := .int .i64 d) (want_yes (j := 2) rfl rfl (Ev.t (v := .bool false) (Eq.trans (b := .bool (decide (d < 1))) rfl (by rw [decide_eq_false hc2])) rfl) rfl) (y_mv (Ev.t (v := .int .i64 d) rfl rfl)) ?_
    refine w_val_g (v := .bool (decide (16 < d))) (want_yes (j := 2) rfl rfl (Ev.t (v := .bool false) (Eq.trans (b := .bool (decide (d < 1))) rfl (by rw [decide_eq_false hc2])) rfl) rfl) (y_bin (Ev.t (v := .int .i64 d) rfl rfl) (Ev.c (v := .int .i64 16)) b_gtr) ?_
    refine w_val (v := .bool (decide (16 < d))) (y_pick_f (Ev.t (v := .bool false) (Eq.trans (b := .bool (decide (d < 1))) rfl (by rw [decide_eq_false hc2])) rfl) (Ev.t (v := .bool (decide (16 < d))) rfl rfl)) ?_
    refine wpList_nil ?_
    refine then_n ?_
    refine c_if (p := 16 < d) (Ev.t (v := .bool (decide (16 < d))) rfl rfl) (fun hc3 => ?_) (fun hc3 => ?_)
    · skip
      refine wp_seq ?_
      refine wp_region_lit ?_
      refine w_val (v := .string (str ([] : List (BitVec 8)))) (y_as (Ev.c (v := .string (str ([] : List (BitVec 8)))))) ?_
      refine w_val (v := .int .i64 2) (y_as (Ev.c (v := .int .i64 2))) ?_
      refine wpList_nil ?_
      refine then_n ?_
      refine wp_ret ?_
      refine then_r ?_
      refine fin_ret2 rfl (Ev.t (v := .string (str ([] : List (BitVec 8)))) rfl rfl) (Ev.t (v := .int .i64 2) rfl rfl) ?_
      exact ⟨rfl, hk⟩
    · skip
      refine wp_skip ?_
      refine then_n ?_
      refine wp_seq ?_
      exfalso; omega

set_option maxRecDepth 100000 in
set_option maxHeartbeats 1000000 in
theorem next_y (s : List (BitVec 8)) (d : Nat) (hs : s.length = 16) (h1 : 1 ≤ d) (h16 : d ≤ 16) (n : Nat) (hn : n < 18446744073709551616) (w0 : World) : Calls Try.prog 19 #[.string (str s), .int .i64 ((d : Nat) : Int), U64 (BitVec.ofNat 64 n)] w0 fun e w' => e = .returned (.tuple #[.string (str (Ct.nx s d n)), .int .i64 0]) ∧ Below w0.heap.size w0 w' := by
  have hto : (BitVec.ofNat 64 n).toNat = n := by rw [BitVec.toNat_ofNat]; omega
  refine enter (n := 26) Try.func19 rfl rfl rfl ?_
  have hk : Below w0.heap.size w0 w0 := Below.refl _ _
  refine wp_seq ?_
  refine wp_region_lit ?_
  refine w_val (v := .string (str ([] : List (BitVec 8)))) (y_as (Ev.c (v := .string (str ([] : List (BitVec 8)))))) ?_
  refine w_val (v := .int .i64 0) (y_as (Ev.c (v := .int .i64 0))) ?_
  refine wpList_nil ?_
  refine then_n ?_
  refine wp_seq ?_
  refine wp_seq ?_
  refine wp_region_lit ?_
  refine w_val (v := .string (str s)) (y_mv (Ev.t (v := .string (str s)) rfl rfl)) ?_
  refine w_val (v := .int .i64 ((d : Nat) : Int)) (y_mv (Ev.t (v := .int .i64 ((d : Nat) : Int)) rfl rfl)) ?_
  refine w_call (Try.func35) (by kernel_rfl) rfl (m2 (Ev.t (v := .string (str s)) rfl rfl) (Ev.t (v := .int .i64 ((d : Nat) : Int)) rfl rfl)) (wrong_y s d hs h1 h16 w0) ?_
  rintro _ w1 ⟨rfl, hb2⟩
  refine ⟨_, rfl, ?_⟩
  replace hk := thenB hk hb2
  refine w_val (v := .int .i64 0) (y_as (Ev.t (v := .int .i64 0) rfl rfl)) ?_
  refine wpList_nil ?_
  refine then_n ?_
  refine wp_seq ?_
  refine wp_region_lit ?_
  refine w_val (v := .int .i64 0) (y_mv (Ev.t (v := .int .i64 0) rfl rfl)) ?_
  refine w_val (v := .bool false) (y_bin (Ev.t (v := .int .i64 0) rfl rfl) (Ev.c (v := .int .i64 0)) b_neq) ?_
  refine wpList_nil ?_
  refine then_n ?_
  refine c_ff (Ev.t (v := .bool false) rfl rfl) ?_
  refine wp_skip ?_
  refine then_n ?_
  refine wp_seq ?_
  refine region_q CtrAT.mixed (by kernel_rfl) ?_
  refine q_val (v := .string (str s)) (fun w' hw' => y_mv (Ev.t (v := .string (str s)) rfl rfl)) ?_
  refine q_val (v := .int .i64 ((d : Nat) : Int)) (fun w' hw' => y_mv (Ev.t (v := .int .i64 ((d : Nat) : Int)) rfl rfl)) ?_
  refine q_val (v := .int .i64 (16 - ((d : Nat) : Int))) (fun w' hw' => y_bin (Ev.c (v := .int .i64 16)) (Ev.t (v := .int .i64 ((d : Nat) : Int)) rfl rfl) (b_sub (by omega))) ?_
  refine q_val (v := .string (str (s.take (16 - d)))) (fun w' hw' => y_sls (Ev.t (v := .string (str s)) rfl rfl) evo.no (evo.s (Ev.t (v := .int .i64 (16 - ((d : Nat) : Int))) rfl rfl)) Try.underlying9 (bnd_h (h := (16 - d)) (by omega) (by omega))) ?_
  refine q_val (v := .string (str s)) (fun w' hw' => y_mv (Ev.t (v := .string (str s)) rfl rfl)) ?_
  refine q_val (v := .int .i64 ((d : Nat) : Int)) (fun w' hw' => y_mv (Ev.t (v := .int .i64 ((d : Nat) : Int)) rfl rfl)) ?_
  refine q_val (v := .int .i64 (16 - ((d : Nat) : Int))) (fun w' hw' => y_bin (Ev.c (v := .int .i64 16)) (Ev.t (v := .int .i64 ((d : Nat) : Int)) rfl rfl) (b_sub (by omega))) ?_
  refine q_val (v := .string (str (s.drop (16 - d)))) (fun w' hw' => y_slf (Ev.t (v := .string (str s)) rfl rfl) (evo.s (Ev.t (v := .int .i64 (16 - ((d : Nat) : Int))) rfl rfl)) Try.underlying9 (bnd_l (l := (16 - d)) (by omega) (by omega))) ?_
  refine q_val (v := U64 (BitVec.ofNat 64 n)) (fun w' hw' => y_mv (Ev.t (v := U64 (BitVec.ofNat 64 n)) rfl rfl)) ?_
  refine q_call (v := .string (str (Oct.add (s.drop (16 - d)) (BitVec.ofNat 64 n).toNat))) (Try.func36) (by kernel_rfl) rfl (m2 (Ev.t (v := .string (str (s.drop (16 - d)))) rfl rfl) (Ev.t (v := U64 (BitVec.ofNat 64 n)) rfl rfl)) (fun w' hw' => add_c (s.drop (16 - d)) (BitVec.ofNat 64 n) (by rw [List.length_drop]; omega) w') ?_
  refine q_val (v := .string (str ((s.take (16 - d)) ++ (Oct.add (s.drop (16 - d)) (BitVec.ofNat 64 n).toNat)))) (fun w' hw' => y_bin (Ev.t (v := .string (str (s.take (16 - d)))) rfl rfl) (Ev.t (v := .string (str (Oct.add (s.drop (16 - d)) (BitVec.ofNat 64 n).toNat))) rfl rfl) (b_cat (by simp only [List.length_append, List.length_take, List.length_drop, Oct.length_add]; omega))) ?_
  refine q_val (v := .string (str ((s.take (16 - d)) ++ (Oct.add (s.drop (16 - d)) (BitVec.ofNat 64 n).toNat)))) (fun w' hw' => y_as (Ev.t (v := .string (str ((s.take (16 - d)) ++ (Oct.add (s.drop (16 - d)) (BitVec.ofNat 64 n).toNat)))) rfl rfl)) ?_
  refine q_val (v := .int .i64 0) (fun w' hw' => y_as (Ev.c (v := .int .i64 0))) ?_
  refine q_nil ?_
  intro w3 hb4
  replace hk := thenB hk hb4
  refine then_n ?_
  refine wp_ret ?_
  refine fin_ret2 rfl (Ev.t (v := .string (str ((s.take (16 - d)) ++ (Oct.add (s.drop (16 - d)) (BitVec.ofNat 64 n).toNat)))) rfl rfl) (Ev.t (v := .int .i64 0) rfl rfl) ?_
  refine ⟨congrArg Ending.returned ?_, hk⟩
  show (.tuple #[.string (str ((s.take (16 - d)) ++ (Oct.add (s.drop (16 - d)) (BitVec.ofNat 64 n).toNat))), .int .i64 0] : Value) = .tuple #[.string (str (Ct.nx s d n)), .int .i64 0]
  rw [hto]; rfl

set_option maxRecDepth 100000 in
set_option maxHeartbeats 1000000 in
theorem refNext_y (s : List (BitVec 8)) (d : Nat) (hs : s.length = 16) (h1 : 1 ≤ d) (h16 : d ≤ 16) (n : Nat) (hn : n < 18446744073709551616) (w0 : World) : Calls Try.prog 20 #[.string (str s), .int .i64 ((d : Nat) : Int), U64 (BitVec.ofNat 64 n)] w0 fun e w' => e = .returned (.tuple #[.string (str (Ct.nx s d n)), .int .i64 0]) ∧ Below w0.heap.size w0 w' := by
  have hto : (BitVec.ofNat 64 n).toNat = n := by rw [BitVec.toNat_ofNat]; omega
  refine enter (n := 28) Try.func20 rfl rfl rfl ?_
  have hk : Below w0.heap.size w0 w0 := Below.refl _ _
  refine wp_seq ?_
  refine wp_region_lit ?_
  refine w_val (v := .string (str ([] : List (BitVec 8)))) (y_as (Ev.c (v := .string (str ([] : List (BitVec 8)))))) ?_
  refine w_val (v := .int .i64 0) (y_as (Ev.c (v := .int .i64 0))) ?_
  refine wpList_nil ?_
  refine then_n ?_
  refine wp_seq ?_
  refine wp_seq ?_
  refine wp_region_lit ?_
  refine w_val (v := .string (str s)) (y_mv (Ev.t (v := .string (str s)) rfl rfl)) ?_
  refine w_val (v := .int .i64 ((s.length : Nat) : Int)) (y_len (Ev.t (v := .string (str s)) rfl rfl) Try.underlying9) ?_
  refine w_val (v := .bool (decide (((s.length : Nat) : Int) ≠ 16))) (y_bin (Ev.t (v := .int .i64 ((s.length : Nat) : Int)) rfl rfl) (Ev.c (v := .int .i64 16)) b_neq) ?_
  refine wpList_nil ?_
  refine then_n ?_
  have hc1 : ¬ (((s.length : Nat) : Int) ≠ 16) := by omega
  refine c_f (p := ((s.length : Nat) : Int) ≠ 16) (Ev.t (v := .bool (decide (((s.length : Nat) : Int) ≠ 16))) rfl rfl) hc1 ?_
  refine wp_skip ?_
  refine then_n ?_
  refine wp_seq ?_
  refine wp_seq ?_
  refine wp_region_lit ?_
  refine w_val (v := .int .i64 ((d : Nat) : Int)) (y_mv (Ev.t (v := .int .i64 ((d : Nat) : Int)) rfl rfl)) ?_
  refine w_val (v := .bool (decide (((d : Nat) : Int) < 1))) (y_bin (Ev.t (v := .int .i64 ((d : Nat) : Int)) rfl rfl) (Ev.c (v := .int .i64 1)) b_lss) ?_
  refine w_val (v := .bool (decide (((d : Nat) : Int) < 1))) (y_mv (Ev.t (v := .bool (decide (((d : Nat) : Int) < 1))) rfl rfl)) ?_
  have hc2 : ¬ (((d : Nat) : Int) < 1) := by omega
  refine w_val_g (v := .int .i64 ((d : Nat) : Int)) (want_yes (j := 2) rfl rfl (Ev.t (v := .bool false) (Eq.trans (b := .bool (decide (((d : Nat) : Int) < 1))) rfl (by rw [decide_eq_false hc2])) rfl) rfl) (y_mv (Ev.t (v := .int .i64 ((d : Nat) : Int)) rfl rfl)) ?_
  refine w_val_g (v := .bool (decide (16 < ((d : Nat) : Int)))) (want_yes (j := 2) rfl rfl (Ev.t (v := .bool false) (Eq.trans (b := .bool (decide (((d : Nat) : Int) < 1))) rfl (by rw [decide_eq_false hc2])) rfl) rfl) (y_bin (Ev.t (v := .int .i64 ((d : Nat) : Int)) rfl rfl) (Ev.c (v := .int .i64 16)) b_gtr) ?_
  refine w_val (v := .bool (decide (16 < ((d : Nat) : Int)))) (y_pick_f (Ev.t (v := .bool false) (Eq.trans (b := .bool (decide (((d : Nat) : Int) < 1))) rfl (by rw [decide_eq_false hc2])) rfl) (Ev.t (v := .bool (decide (16 < ((d : Nat) : Int)))) rfl rfl)) ?_
  refine wpList_nil ?_
  refine then_n ?_
  have hc3 : ¬ (16 < ((d : Nat) : Int)) := by omega
  refine c_f (p := 16 < ((d : Nat) : Int)) (Ev.t (v := .bool (decide (16 < ((d : Nat) : Int)))) rfl rfl) hc3 ?_
  refine wp_skip ?_
  refine then_n ?_
  refine wp_seq ?_
  refine region_q CtrAT.mixed (by kernel_rfl) ?_
  refine q_val (v := .string (str s)) (fun w' hw' => y_mv (Ev.t (v := .string (str s)) rfl rfl)) ?_
  refine q_val (v := .int .i64 ((d : Nat) : Int)) (fun w' hw' => y_mv (Ev.t (v := .int .i64 ((d : Nat) : Int)) rfl rfl)) ?_
  refine q_val (v := .int .i64 (16 - ((d : Nat) : Int))) (fun w' hw' => y_bin (Ev.c (v := .int .i64 16)) (Ev.t (v := .int .i64 ((d : Nat) : Int)) rfl rfl) (b_sub (by omega))) ?_
  refine q_val (v := .string (str (s.take (16 - d)))) (fun w' hw' => y_sls (Ev.t (v := .string (str s)) rfl rfl) evo.no (evo.s (Ev.t (v := .int .i64 (16 - ((d : Nat) : Int))) rfl rfl)) Try.underlying9 (bnd_h (h := (16 - d)) (by omega) (by omega))) ?_
  refine q_val (v := .string (str s)) (fun w' hw' => y_mv (Ev.t (v := .string (str s)) rfl rfl)) ?_
  refine q_val (v := .int .i64 ((d : Nat) : Int)) (fun w' hw' => y_mv (Ev.t (v := .int .i64 ((d : Nat) : Int)) rfl rfl)) ?_
  refine q_val (v := .int .i64 (16 - ((d : Nat) : Int))) (fun w' hw' => y_bin (Ev.c (v := .int .i64 16)) (Ev.t (v := .int .i64 ((d : Nat) : Int)) rfl rfl) (b_sub (by omega))) ?_
  refine q_val (v := .string (str (s.drop (16 - d)))) (fun w' hw' => y_slf (Ev.t (v := .string (str s)) rfl rfl) (evo.s (Ev.t (v := .int .i64 (16 - ((d : Nat) : Int))) rfl rfl)) Try.underlying9 (bnd_l (l := (16 - d)) (by omega) (by omega))) ?_
  refine q_val (v := U64 (BitVec.ofNat 64 n)) (fun w' hw' => y_mv (Ev.t (v := U64 (BitVec.ofNat 64 n)) rfl rfl)) ?_
  refine q_call (v := .string (str (Oct.add (s.drop (16 - d)) (BitVec.ofNat 64 n).toNat))) (Try.func37) (by kernel_rfl) rfl (m2 (Ev.t (v := .string (str (s.drop (16 - d)))) rfl rfl) (Ev.t (v := U64 (BitVec.ofNat 64 n)) rfl rfl)) (fun w' hw' => refAddN_c (s.drop (16 - d)) (BitVec.ofNat 64 n) (by rw [List.length_drop]; omega) w') ?_
  refine q_val (v := .string (str ((s.take (16 - d)) ++ (Oct.add (s.drop (16 - d)) (BitVec.ofNat 64 n).toNat)))) (fun w' hw' => y_bin (Ev.t (v := .string (str (s.take (16 - d)))) rfl rfl) (Ev.t (v := .string (str (Oct.add (s.drop (16 - d)) (BitVec.ofNat 64 n).toNat))) rfl rfl) (b_cat (by simp only [List.length_append, List.length_take, List.length_drop, Oct.length_add]; omega))) ?_
  refine q_val (v := .string (str ((s.take (16 - d)) ++ (Oct.add (s.drop (16 - d)) (BitVec.ofNat 64 n).toNat)))) (fun w' hw' => y_as (Ev.t (v := .string (str ((s.take (16 - d)) ++ (Oct.add (s.drop (16 - d)) (BitVec.ofNat 64 n).toNat)))) rfl rfl)) ?_
  refine q_val (v := .int .i64 0) (fun w' hw' => y_as (Ev.c (v := .int .i64 0))) ?_
  refine q_nil ?_
  intro w4 hb5
  replace hk := thenB hk hb5
  refine then_n ?_
  refine wp_ret ?_
  refine fin_ret2 rfl (Ev.t (v := .string (str ((s.take (16 - d)) ++ (Oct.add (s.drop (16 - d)) (BitVec.ofNat 64 n).toNat)))) rfl rfl) (Ev.t (v := .int .i64 0) rfl rfl) ?_
  refine ⟨congrArg Ending.returned ?_, hk⟩
  show (.tuple #[.string (str ((s.take (16 - d)) ++ (Oct.add (s.drop (16 - d)) (BitVec.ofNat 64 n).toNat))), .int .i64 0] : Value) = .tuple #[.string (str (Ct.nx s d n)), .int .i64 0]
  rw [hto]; rfl
end Go.Proofs.Ythmcoaadigaddaa
