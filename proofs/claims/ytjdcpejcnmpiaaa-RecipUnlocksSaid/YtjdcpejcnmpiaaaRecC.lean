/-
  Unlocking, by the program. Conditions as each says.
-/
import Derived.Test.YtjdcpejcnmpiaaaRows
import Derived.Test.YtjdcpejcnmpiaaaRecB
import Derived.Test.YtjdcpejcnmpiaaaRecPlain
import Derived.ProofKit
namespace Go.Proofs.Ytjdcpejcnmpiaaa
open Go.RowKit
set_option linter.unusedSimpArgs false
set_option linter.unusedVariables false
namespace RecCT
theorem mixed : Try.prog.follows .mixedOrders = true := by kernel_rfl
theorem so3 : (Try.prog.underlying 3).isSome = true := by rw [Try.underlying3]; rfl
theorem so5 : (Try.prog.underlying 5).isSome = true := by rw [Try.underlying5]; rfl
end RecCT
set_option maxRecDepth 100000 in
set_option maxHeartbeats 1000000 in
theorem unlock_k (key vi : List (BitVec 8)) (hok : ¬ Aes.okKey key.length) (text : List (BitVec 8)) (w0 : World) : Calls Try.prog 39 #[.string (str key), .string (str vi), .string (str text)] w0 fun e w' => e = .returned (.tuple #[.string (str ([] : List (BitVec 8))), .int .i64 3]) ∧ Below w0.heap.size w0 w' := by
 refine enter (n := 103) Try.func39 rfl rfl rfl ?_
 have hk : Below w0.heap.size w0 w0 := Below.refl _ _
 refine sr ?_
 refine w_as (evc (.string (str ([] : List (BitVec 8))))) ?_
 refine w_as (evc (.int .i64 0)) ?_
 refine nt ?_
 refine wp_seq ?_
 refine sr ?_
 refine w_mv (ev (.string (str key)) rfl rfl) ?_
 refine w_mv (ev (.string (str vi)) rfl rfl) ?_
 refine w_call (Try.func65) (by kernel_rfl) rfl (m2 (ev (.string (str key)) rfl rfl) (ev (.string (str vi)) rfl rfl)) (rcWrong_k key vi hok w0) ?_
 rintro _ w1 ⟨rfl, hb2⟩
 refine ⟨_, rfl, ?_⟩
 replace hk := thenB hk hb2
 refine w_as (ev (.int .i64 3) rfl rfl) ?_
 refine nt ?_
 refine sr ?_
 refine w_mv (ev (.int .i64 3) rfl rfl) ?_
 refine w_val (y_bin (ev (.int .i64 3) rfl rfl) (evc (.int .i64 0)) b_neq) ?_
 refine nt ?_
 refine c_tt (ev (.bool true) rfl rfl) ?_
 refine sr ?_
 refine w_mv (ev (.int .i64 3) rfl rfl) ?_
 refine w_as (evc (.string (str ([] : List (BitVec 8))))) ?_
 refine w_as (ev (.int .i64 3) rfl rfl) ?_
 refine nt ?_
 refine wp_ret ?_
 refine then_r ?_
 refine fin_ret2 rfl (ev (.string (str ([] : List (BitVec 8)))) rfl rfl) (ev (.int .i64 3) rfl rfl) ?_
 exact ⟨rfl, hk⟩

set_option maxRecDepth 100000 in
set_option maxHeartbeats 1000000 in
theorem unlock_i (key vi : List (BitVec 8)) (hok : Aes.okKey key.length) (hiv : vi.length ≠ 16) (text : List (BitVec 8)) (w0 : World) : Calls Try.prog 39 #[.string (str key), .string (str vi), .string (str text)] w0 fun e w' => e = .returned (.tuple #[.string (str ([] : List (BitVec 8))), .int .i64 4]) ∧ Below w0.heap.size w0 w' := by
 refine enter (n := 103) Try.func39 rfl rfl rfl ?_
 have hk : Below w0.heap.size w0 w0 := Below.refl _ _
 refine sr ?_
 refine w_as (evc (.string (str ([] : List (BitVec 8))))) ?_
 refine w_as (evc (.int .i64 0)) ?_
 refine nt ?_
 refine wp_seq ?_
 refine sr ?_
 refine w_mv (ev (.string (str key)) rfl rfl) ?_
 refine w_mv (ev (.string (str vi)) rfl rfl) ?_
 refine w_call (Try.func65) (by kernel_rfl) rfl (m2 (ev (.string (str key)) rfl rfl) (ev (.string (str vi)) rfl rfl)) (rcWrong_i key vi hok hiv w0) ?_
 rintro _ w1 ⟨rfl, hb2⟩
 refine ⟨_, rfl, ?_⟩
 replace hk := thenB hk hb2
 refine w_as (ev (.int .i64 4) rfl rfl) ?_
 refine nt ?_
 refine sr ?_
 refine w_mv (ev (.int .i64 4) rfl rfl) ?_
 refine w_val (y_bin (ev (.int .i64 4) rfl rfl) (evc (.int .i64 0)) b_neq) ?_
 refine nt ?_
 refine c_tt (ev (.bool true) rfl rfl) ?_
 refine sr ?_
 refine w_mv (ev (.int .i64 4) rfl rfl) ?_
 refine w_as (evc (.string (str ([] : List (BitVec 8))))) ?_
 refine w_as (ev (.int .i64 4) rfl rfl) ?_
 refine nt ?_
 refine wp_ret ?_
 refine then_r ?_
 refine fin_ret2 rfl (ev (.string (str ([] : List (BitVec 8)))) rfl rfl) (ev (.int .i64 4) rfl rfl) ?_
 exact ⟨rfl, hk⟩

set_option maxRecDepth 100000 in
set_option maxHeartbeats 1000000 in
theorem unlock_s (key vi : List (BitVec 8)) (hok : Aes.okKey key.length) (hiv : vi.length = 16) (text : List (BitVec 8)) (hs : ¬ (text.length % 16 = 0 ∧ 32 ≤ text.length ∧ text.length ≤ 272)) (w0 : World) : Calls Try.prog 39 #[.string (str key), .string (str vi), .string (str text)] w0 fun e w' => e = .returned (.tuple #[.string (str ([] : List (BitVec 8))), .int .i64 6]) ∧ Below w0.heap.size w0 w' := by
 refine enter (n := 103) Try.func39 rfl rfl rfl ?_
 have hk : Below w0.heap.size w0 w0 := Below.refl _ _
 refine sr ?_
 refine w_as (evc (.string (str ([] : List (BitVec 8))))) ?_
 refine w_as (evc (.int .i64 0)) ?_
 refine nt ?_
 refine wp_seq ?_
 refine sr ?_
 refine w_mv (ev (.string (str key)) rfl rfl) ?_
 refine w_mv (ev (.string (str vi)) rfl rfl) ?_
 refine w_call (Try.func65) (by kernel_rfl) rfl (m2 (ev (.string (str key)) rfl rfl) (ev (.string (str vi)) rfl rfl)) (rcWrong_y key vi hok hiv w0) ?_
 rintro _ w1 ⟨rfl, hb2⟩
 refine ⟨_, rfl, ?_⟩
 replace hk := thenB hk hb2
 refine w_as (ev (.int .i64 0) rfl rfl) ?_
 refine nt ?_
 refine sr ?_
 refine w_mv (ev (.int .i64 0) rfl rfl) ?_
 refine w_val (y_bin (ev (.int .i64 0) rfl rfl) (evc (.int .i64 0)) b_neq) ?_
 refine nt ?_
 refine c_ff (ev (.bool false) rfl rfl) ?_
 refine wp_skip ?_
 refine then_n ?_
 refine wp_seq ?_
 refine sr ?_
 refine w_mv (ev (.string (str text)) rfl rfl) ?_
 refine w_val (y_len (ev (.string (str text)) rfl rfl) Try.underlying9) ?_
 refine w_val (y_bin (ev (.int .i64 ((text.length : Nat) : Int)) rfl rfl) (evc (.int .i64 16)) (b_rem (by omega))) ?_
 refine w_val (y_bin (ev (.int .i64 (((text.length : Nat) : Int) % 16)) rfl rfl) (evc (.int .i64 0)) b_neq) ?_
 refine w_mv (ev (.bool (decide ((((text.length : Nat) : Int) % 16) ≠ 0))) rfl rfl) ?_
 by_cases hc3 : (((text.length : Nat) : Int) % 16) ≠ 0
 ·skip
  first | with_reducible refine w_skip ?_ ?_ | refine w_skip ?_ ?_
  · exact want_no (j := 4) rfl rfl (ev (.bool true) (Eq.trans (b := .bool (decide ((((text.length : Nat) : Int) % 16) ≠ 0))) rfl (by rw [decide_eq_true hc3])) rfl) rfl
  first | with_reducible refine w_skip ?_ ?_ | refine w_skip ?_ ?_
  · exact want_no (j := 4) rfl rfl (ev (.bool true) (Eq.trans (b := .bool (decide ((((text.length : Nat) : Int) % 16) ≠ 0))) rfl (by rw [decide_eq_true hc3])) rfl) rfl
  first | with_reducible refine w_skip ?_ ?_ | refine w_skip ?_ ?_
  · exact want_no (j := 4) rfl rfl (ev (.bool true) (Eq.trans (b := .bool (decide ((((text.length : Nat) : Int) % 16) ≠ 0))) rfl (by rw [decide_eq_true hc3])) rfl) rfl
  refine w_val (y_pick_t (ev (.bool true) (Eq.trans (b := .bool (decide ((((text.length : Nat) : Int) % 16) ≠ 0))) rfl (by rw [decide_eq_true hc3])) rfl) (evc (.bool true))) ?_
  refine w_mv (ev (.bool true) rfl rfl) ?_
  first | with_reducible refine w_skip ?_ ?_ | refine w_skip ?_ ?_
  · exact want_no (j := 9) rfl rfl (ev (.bool true) rfl rfl) rfl
  first | with_reducible refine w_skip ?_ ?_ | refine w_skip ?_ ?_
  · exact want_no (j := 9) rfl rfl (ev (.bool true) rfl rfl) rfl
  first | with_reducible refine w_skip ?_ ?_ | refine w_skip ?_ ?_
  · exact want_no (j := 9) rfl rfl (ev (.bool true) rfl rfl) rfl
  refine w_val (y_pick_t (ev (.bool true) rfl rfl) (evc (.bool true))) ?_
  refine nt ?_
  refine c_tt (ev (.bool true) rfl rfl) ?_
  refine sr ?_
  refine w_as (evc (.string (str ([] : List (BitVec 8))))) ?_
  refine w_as (evc (.int .i64 6)) ?_
  refine nt ?_
  refine wp_ret ?_
  refine then_r ?_
  refine fin_ret2 rfl (ev (.string (str ([] : List (BitVec 8)))) rfl rfl) (ev (.int .i64 6) rfl rfl) ?_
  exact ⟨rfl, hk⟩
 ·skip
  refine w_val_g (v := .string (str text)) (want_yes (j := 4) rfl rfl (ev (.bool false) (Eq.trans (b := .bool (decide ((((text.length : Nat) : Int) % 16) ≠ 0))) rfl (by rw [decide_eq_false hc3])) rfl) rfl) (y_mv (ev (.string (str text)) rfl rfl)) ?_
  refine w_val_g (want_yes (j := 4) rfl rfl (ev (.bool false) (Eq.trans (b := .bool (decide ((((text.length : Nat) : Int) % 16) ≠ 0))) rfl (by rw [decide_eq_false hc3])) rfl) rfl) (y_len (ev (.string (str text)) rfl rfl) Try.underlying9) ?_
  refine w_val_g (want_yes (j := 4) rfl rfl (ev (.bool false) (Eq.trans (b := .bool (decide ((((text.length : Nat) : Int) % 16) ≠ 0))) rfl (by rw [decide_eq_false hc3])) rfl) rfl) (y_bin (ev (.int .i64 ((text.length : Nat) : Int)) rfl rfl) (evc (.int .i64 32)) b_lss) ?_
  refine w_val (y_pick_f (ev (.bool false) (Eq.trans (b := .bool (decide ((((text.length : Nat) : Int) % 16) ≠ 0))) rfl (by rw [decide_eq_false hc3])) rfl) (ev (.bool (decide (((text.length : Nat) : Int) < 32))) rfl rfl)) ?_
  refine w_mv (ev (.bool (decide (((text.length : Nat) : Int) < 32))) rfl rfl) ?_
  by_cases hc4 : ((text.length : Nat) : Int) < 32
  ·skip
   first | with_reducible refine w_skip ?_ ?_ | refine w_skip ?_ ?_
   · exact want_no (j := 9) rfl rfl (ev (.bool true) (Eq.trans (b := .bool (decide (((text.length : Nat) : Int) < 32))) rfl (by rw [decide_eq_true hc4])) rfl) rfl
   first | with_reducible refine w_skip ?_ ?_ | refine w_skip ?_ ?_
   · exact want_no (j := 9) rfl rfl (ev (.bool true) (Eq.trans (b := .bool (decide (((text.length : Nat) : Int) < 32))) rfl (by rw [decide_eq_true hc4])) rfl) rfl
   first | with_reducible refine w_skip ?_ ?_ | refine w_skip ?_ ?_
   · exact want_no (j := 9) rfl rfl (ev (.bool true) (Eq.trans (b := .bool (decide (((text.length : Nat) : Int) < 32))) rfl (by rw [decide_eq_true hc4])) rfl) rfl
   refine w_val (y_pick_t (ev (.bool true) (Eq.trans (b := .bool (decide (((text.length : Nat) : Int) < 32))) rfl (by rw [decide_eq_true hc4])) rfl) (evc (.bool true))) ?_
   refine nt ?_
   refine c_tt (ev (.bool true) rfl rfl) ?_
   refine sr ?_
   refine w_as (evc (.string (str ([] : List (BitVec 8))))) ?_
   refine w_as (evc (.int .i64 6)) ?_
   refine nt ?_
   refine wp_ret ?_
   refine then_r ?_
   refine fin_ret2 rfl (ev (.string (str ([] : List (BitVec 8)))) rfl rfl) (ev (.int .i64 6) rfl rfl) ?_
   exact ⟨rfl, hk⟩
  ·skip
   refine w_val_g (v := .string (str text)) (want_yes (j := 9) rfl rfl (ev (.bool false) (Eq.trans (b := .bool (decide (((text.length : Nat) : Int) < 32))) rfl (by rw [decide_eq_false hc4])) rfl) rfl) (y_mv (ev (.string (str text)) rfl rfl)) ?_
   refine w_val_g (want_yes (j := 9) rfl rfl (ev (.bool false) (Eq.trans (b := .bool (decide (((text.length : Nat) : Int) < 32))) rfl (by rw [decide_eq_false hc4])) rfl) rfl) (y_len (ev (.string (str text)) rfl rfl) Try.underlying9) ?_
   refine w_val_g (want_yes (j := 9) rfl rfl (ev (.bool false) (Eq.trans (b := .bool (decide (((text.length : Nat) : Int) < 32))) rfl (by rw [decide_eq_false hc4])) rfl) rfl) (y_bin (ev (.int .i64 ((text.length : Nat) : Int)) rfl rfl) (evc (.int .i64 272)) b_gtr) ?_
   refine w_val (y_pick_f (ev (.bool false) (Eq.trans (b := .bool (decide (((text.length : Nat) : Int) < 32))) rfl (by rw [decide_eq_false hc4])) rfl) (ev (.bool (decide (272 < ((text.length : Nat) : Int)))) rfl rfl)) ?_
   refine nt ?_
   refine c_if (p := 272 < ((text.length : Nat) : Int)) (ev (.bool (decide (272 < ((text.length : Nat) : Int)))) rfl rfl) (fun hc5 => ?_) (fun hc5 => ?_)
   ·skip
    refine sr ?_
    refine w_as (evc (.string (str ([] : List (BitVec 8))))) ?_
    refine w_as (evc (.int .i64 6)) ?_
    refine nt ?_
    refine wp_ret ?_
    refine then_r ?_
    refine fin_ret2 rfl (ev (.string (str ([] : List (BitVec 8)))) rfl rfl) (ev (.int .i64 6) rfl rfl) ?_
    exact ⟨rfl, hk⟩
   ·skip
    refine wp_skip ?_
    refine then_n ?_
    refine wp_seq ?_
    exfalso; omega

set_option maxRecDepth 100000 in
set_option maxHeartbeats 1000000 in
theorem refUnlock_k (key vi : List (BitVec 8)) (hok : ¬ Aes.okKey key.length) (text : List (BitVec 8)) (w0 : World) : Calls Try.prog 40 #[.string (str key), .string (str vi), .string (str text)] w0 fun e w' => e = .returned (.tuple #[.string (str ([] : List (BitVec 8))), .int .i64 3]) ∧ Below w0.heap.size w0 w' := by
 refine enter (n := 121) Try.func40 rfl rfl rfl ?_
 have hk : Below w0.heap.size w0 w0 := Below.refl _ _
 refine sr ?_
 refine w_as (evc (.string (str ([] : List (BitVec 8))))) ?_
 refine w_as (evc (.int .i64 0)) ?_
 refine nt ?_
 refine wp_seq ?_
 refine sr ?_
 refine w_mv (ev (.string (str key)) rfl rfl) ?_
 refine w_mv (ev (.string (str vi)) rfl rfl) ?_
 refine w_call (Try.func66) (by kernel_rfl) rfl (m2 (ev (.string (str key)) rfl rfl) (ev (.string (str vi)) rfl rfl)) (rcRefWrong_k key vi hok w0) ?_
 rintro _ w1 ⟨rfl, hb2⟩
 refine ⟨_, rfl, ?_⟩
 replace hk := thenB hk hb2
 refine w_as (ev (.int .i64 3) rfl rfl) ?_
 refine nt ?_
 refine sr ?_
 refine w_mv (ev (.int .i64 3) rfl rfl) ?_
 refine w_val (y_bin (ev (.int .i64 3) rfl rfl) (evc (.int .i64 0)) b_neq) ?_
 refine nt ?_
 refine c_tt (ev (.bool true) rfl rfl) ?_
 refine sr ?_
 refine w_mv (ev (.int .i64 3) rfl rfl) ?_
 refine w_as (evc (.string (str ([] : List (BitVec 8))))) ?_
 refine w_as (ev (.int .i64 3) rfl rfl) ?_
 refine nt ?_
 refine wp_ret ?_
 refine then_r ?_
 refine fin_ret2 rfl (ev (.string (str ([] : List (BitVec 8)))) rfl rfl) (ev (.int .i64 3) rfl rfl) ?_
 exact ⟨rfl, hk⟩

set_option maxRecDepth 100000 in
set_option maxHeartbeats 1000000 in
theorem refUnlock_i (key vi : List (BitVec 8)) (hok : Aes.okKey key.length) (hiv : vi.length ≠ 16) (text : List (BitVec 8)) (w0 : World) : Calls Try.prog 40 #[.string (str key), .string (str vi), .string (str text)] w0 fun e w' => e = .returned (.tuple #[.string (str ([] : List (BitVec 8))), .int .i64 4]) ∧ Below w0.heap.size w0 w' := by
 refine enter (n := 121) Try.func40 rfl rfl rfl ?_
 have hk : Below w0.heap.size w0 w0 := Below.refl _ _
 refine sr ?_
 refine w_as (evc (.string (str ([] : List (BitVec 8))))) ?_
 refine w_as (evc (.int .i64 0)) ?_
 refine nt ?_
 refine wp_seq ?_
 refine sr ?_
 refine w_mv (ev (.string (str key)) rfl rfl) ?_
 refine w_mv (ev (.string (str vi)) rfl rfl) ?_
 refine w_call (Try.func66) (by kernel_rfl) rfl (m2 (ev (.string (str key)) rfl rfl) (ev (.string (str vi)) rfl rfl)) (rcRefWrong_i key vi hok hiv w0) ?_
 rintro _ w1 ⟨rfl, hb2⟩
 refine ⟨_, rfl, ?_⟩
 replace hk := thenB hk hb2
 refine w_as (ev (.int .i64 4) rfl rfl) ?_
 refine nt ?_
 refine sr ?_
 refine w_mv (ev (.int .i64 4) rfl rfl) ?_
 refine w_val (y_bin (ev (.int .i64 4) rfl rfl) (evc (.int .i64 0)) b_neq) ?_
 refine nt ?_
 refine c_tt (ev (.bool true) rfl rfl) ?_
 refine sr ?_
 refine w_mv (ev (.int .i64 4) rfl rfl) ?_
 refine w_as (evc (.string (str ([] : List (BitVec 8))))) ?_
 refine w_as (ev (.int .i64 4) rfl rfl) ?_
 refine nt ?_
 refine wp_ret ?_
 refine then_r ?_
 refine fin_ret2 rfl (ev (.string (str ([] : List (BitVec 8)))) rfl rfl) (ev (.int .i64 4) rfl rfl) ?_
 exact ⟨rfl, hk⟩

set_option maxRecDepth 100000 in
set_option maxHeartbeats 1000000 in
theorem refUnlock_s (key vi : List (BitVec 8)) (hok : Aes.okKey key.length) (hiv : vi.length = 16) (text : List (BitVec 8)) (hs : ¬ (text.length % 16 = 0 ∧ 32 ≤ text.length ∧ text.length ≤ 272)) (w0 : World) : Calls Try.prog 40 #[.string (str key), .string (str vi), .string (str text)] w0 fun e w' => e = .returned (.tuple #[.string (str ([] : List (BitVec 8))), .int .i64 6]) ∧ Below w0.heap.size w0 w' := by
 refine enter (n := 121) Try.func40 rfl rfl rfl ?_
 have hk : Below w0.heap.size w0 w0 := Below.refl _ _
 refine sr ?_
 refine w_as (evc (.string (str ([] : List (BitVec 8))))) ?_
 refine w_as (evc (.int .i64 0)) ?_
 refine nt ?_
 refine wp_seq ?_
 refine sr ?_
 refine w_mv (ev (.string (str key)) rfl rfl) ?_
 refine w_mv (ev (.string (str vi)) rfl rfl) ?_
 refine w_call (Try.func66) (by kernel_rfl) rfl (m2 (ev (.string (str key)) rfl rfl) (ev (.string (str vi)) rfl rfl)) (rcRefWrong_y key vi hok hiv w0) ?_
 rintro _ w1 ⟨rfl, hb2⟩
 refine ⟨_, rfl, ?_⟩
 replace hk := thenB hk hb2
 refine w_as (ev (.int .i64 0) rfl rfl) ?_
 refine nt ?_
 refine sr ?_
 refine w_mv (ev (.int .i64 0) rfl rfl) ?_
 refine w_val (y_bin (ev (.int .i64 0) rfl rfl) (evc (.int .i64 0)) b_neq) ?_
 refine nt ?_
 refine c_ff (ev (.bool false) rfl rfl) ?_
 refine wp_skip ?_
 refine then_n ?_
 refine wp_seq ?_
 refine sr ?_
 refine w_mv (ev (.string (str text)) rfl rfl) ?_
 refine w_val (y_len (ev (.string (str text)) rfl rfl) Try.underlying9) ?_
 refine w_val (y_bin (ev (.int .i64 ((text.length : Nat) : Int)) rfl rfl) (evc (.int .i64 16)) (b_rem (by omega))) ?_
 refine w_val (y_bin (ev (.int .i64 (((text.length : Nat) : Int) % 16)) rfl rfl) (evc (.int .i64 0)) b_neq) ?_
 refine w_mv (ev (.bool (decide ((((text.length : Nat) : Int) % 16) ≠ 0))) rfl rfl) ?_
 by_cases hc3 : (((text.length : Nat) : Int) % 16) ≠ 0
 ·skip
  first | with_reducible refine w_skip ?_ ?_ | refine w_skip ?_ ?_
  · exact want_no (j := 4) rfl rfl (ev (.bool true) (Eq.trans (b := .bool (decide ((((text.length : Nat) : Int) % 16) ≠ 0))) rfl (by rw [decide_eq_true hc3])) rfl) rfl
  first | with_reducible refine w_skip ?_ ?_ | refine w_skip ?_ ?_
  · exact want_no (j := 4) rfl rfl (ev (.bool true) (Eq.trans (b := .bool (decide ((((text.length : Nat) : Int) % 16) ≠ 0))) rfl (by rw [decide_eq_true hc3])) rfl) rfl
  first | with_reducible refine w_skip ?_ ?_ | refine w_skip ?_ ?_
  · exact want_no (j := 4) rfl rfl (ev (.bool true) (Eq.trans (b := .bool (decide ((((text.length : Nat) : Int) % 16) ≠ 0))) rfl (by rw [decide_eq_true hc3])) rfl) rfl
  refine w_val (y_pick_t (ev (.bool true) (Eq.trans (b := .bool (decide ((((text.length : Nat) : Int) % 16) ≠ 0))) rfl (by rw [decide_eq_true hc3])) rfl) (evc (.bool true))) ?_
  refine w_mv (ev (.bool true) rfl rfl) ?_
  first | with_reducible refine w_skip ?_ ?_ | refine w_skip ?_ ?_
  · exact want_no (j := 9) rfl rfl (ev (.bool true) rfl rfl) rfl
  first | with_reducible refine w_skip ?_ ?_ | refine w_skip ?_ ?_
  · exact want_no (j := 9) rfl rfl (ev (.bool true) rfl rfl) rfl
  first | with_reducible refine w_skip ?_ ?_ | refine w_skip ?_ ?_
  · exact want_no (j := 9) rfl rfl (ev (.bool true) rfl rfl) rfl
  refine w_val (y_pick_t (ev (.bool true) rfl rfl) (evc (.bool true))) ?_
  refine nt ?_
  refine c_tt (ev (.bool true) rfl rfl) ?_
  refine sr ?_
  refine w_as (evc (.string (str ([] : List (BitVec 8))))) ?_
  refine w_as (evc (.int .i64 6)) ?_
  refine nt ?_
  refine wp_ret ?_
  refine then_r ?_
  refine fin_ret2 rfl (ev (.string (str ([] : List (BitVec 8)))) rfl rfl) (ev (.int .i64 6) rfl rfl) ?_
  exact ⟨rfl, hk⟩
 ·skip
  refine w_val_g (v := .string (str text)) (want_yes (j := 4) rfl rfl (ev (.bool false) (Eq.trans (b := .bool (decide ((((text.length : Nat) : Int) % 16) ≠ 0))) rfl (by rw [decide_eq_false hc3])) rfl) rfl) (y_mv (ev (.string (str text)) rfl rfl)) ?_
  refine w_val_g (want_yes (j := 4) rfl rfl (ev (.bool false) (Eq.trans (b := .bool (decide ((((text.length : Nat) : Int) % 16) ≠ 0))) rfl (by rw [decide_eq_false hc3])) rfl) rfl) (y_len (ev (.string (str text)) rfl rfl) Try.underlying9) ?_
  refine w_val_g (want_yes (j := 4) rfl rfl (ev (.bool false) (Eq.trans (b := .bool (decide ((((text.length : Nat) : Int) % 16) ≠ 0))) rfl (by rw [decide_eq_false hc3])) rfl) rfl) (y_bin (ev (.int .i64 ((text.length : Nat) : Int)) rfl rfl) (evc (.int .i64 32)) b_lss) ?_
  refine w_val (y_pick_f (ev (.bool false) (Eq.trans (b := .bool (decide ((((text.length : Nat) : Int) % 16) ≠ 0))) rfl (by rw [decide_eq_false hc3])) rfl) (ev (.bool (decide (((text.length : Nat) : Int) < 32))) rfl rfl)) ?_
  refine w_mv (ev (.bool (decide (((text.length : Nat) : Int) < 32))) rfl rfl) ?_
  by_cases hc4 : ((text.length : Nat) : Int) < 32
  ·skip
   first | with_reducible refine w_skip ?_ ?_ | refine w_skip ?_ ?_
   · exact want_no (j := 9) rfl rfl (ev (.bool true) (Eq.trans (b := .bool (decide (((text.length : Nat) : Int) < 32))) rfl (by rw [decide_eq_true hc4])) rfl) rfl
   first | with_reducible refine w_skip ?_ ?_ | refine w_skip ?_ ?_
   · exact want_no (j := 9) rfl rfl (ev (.bool true) (Eq.trans (b := .bool (decide (((text.length : Nat) : Int) < 32))) rfl (by rw [decide_eq_true hc4])) rfl) rfl
   first | with_reducible refine w_skip ?_ ?_ | refine w_skip ?_ ?_
   · exact want_no (j := 9) rfl rfl (ev (.bool true) (Eq.trans (b := .bool (decide (((text.length : Nat) : Int) < 32))) rfl (by rw [decide_eq_true hc4])) rfl) rfl
   refine w_val (y_pick_t (ev (.bool true) (Eq.trans (b := .bool (decide (((text.length : Nat) : Int) < 32))) rfl (by rw [decide_eq_true hc4])) rfl) (evc (.bool true))) ?_
   refine nt ?_
   refine c_tt (ev (.bool true) rfl rfl) ?_
   refine sr ?_
   refine w_as (evc (.string (str ([] : List (BitVec 8))))) ?_
   refine w_as (evc (.int .i64 6)) ?_
   refine nt ?_
   refine wp_ret ?_
   refine then_r ?_
   refine fin_ret2 rfl (ev (.string (str ([] : List (BitVec 8)))) rfl rfl) (ev (.int .i64 6) rfl rfl) ?_
   exact ⟨rfl, hk⟩
  ·skip
   refine w_val_g (v := .string (str text)) (want_yes (j := 9) rfl rfl (ev (.bool false) (Eq.trans (b := .bool (decide (((text.length : Nat) : Int) < 32))) rfl (by rw [decide_eq_false hc4])) rfl) rfl) (y_mv (ev (.string (str text)) rfl rfl)) ?_
   refine w_val_g (want_yes (j := 9) rfl rfl (ev (.bool false) (Eq.trans (b := .bool (decide (((text.length : Nat) : Int) < 32))) rfl (by rw [decide_eq_false hc4])) rfl) rfl) (y_len (ev (.string (str text)) rfl rfl) Try.underlying9) ?_
   refine w_val_g (want_yes (j := 9) rfl rfl (ev (.bool false) (Eq.trans (b := .bool (decide (((text.length : Nat) : Int) < 32))) rfl (by rw [decide_eq_false hc4])) rfl) rfl) (y_bin (ev (.int .i64 ((text.length : Nat) : Int)) rfl rfl) (evc (.int .i64 272)) b_gtr) ?_
   refine w_val (y_pick_f (ev (.bool false) (Eq.trans (b := .bool (decide (((text.length : Nat) : Int) < 32))) rfl (by rw [decide_eq_false hc4])) rfl) (ev (.bool (decide (272 < ((text.length : Nat) : Int)))) rfl rfl)) ?_
   refine nt ?_
   refine c_if (p := 272 < ((text.length : Nat) : Int)) (ev (.bool (decide (272 < ((text.length : Nat) : Int)))) rfl rfl) (fun hc5 => ?_) (fun hc5 => ?_)
   ·skip
    refine sr ?_
    refine w_as (evc (.string (str ([] : List (BitVec 8))))) ?_
    refine w_as (evc (.int .i64 6)) ?_
    refine nt ?_
    refine wp_ret ?_
    refine then_r ?_
    refine fin_ret2 rfl (ev (.string (str ([] : List (BitVec 8)))) rfl rfl) (ev (.int .i64 6) rfl rfl) ?_
    exact ⟨rfl, hk⟩
   ·skip
    refine wp_skip ?_
    refine then_n ?_
    refine wp_seq ?_
    exfalso; omega

theorem rcLast (key vi : List (BitVec 8)) (hok : Aes.okKey key.length) (hiv : vi.length = 16) (text : List (BitVec 8)) (n : Nat) (hn : text.length = n + 16) (hm : text.length % 16 = 0) (h32 : 32 ≤ text.length) (h272 : text.length ≤ 272) (w0 : World) : Calls Try.prog 26 #[.string (str key), .string (str ((text.drop (n - 16)).take (n - (n - 16)))), .string (str (text.drop n))] w0 fun e w' => e = .returned (.tuple #[.string (str (Rc.lst key text)), .int .i64 0]) ∧ Below w0.heap.size w0 w' := by
  have h := unchain_y key ((text.drop (n - 16)).take (n - (n - 16))) hok (by simp only [List.length_take, List.length_drop]; omega) (text.drop n) (by rw [List.length_drop]; omega) (by rw [List.length_drop]; omega) w0
  rwa [Rc.last_eq key text n hn hm h32] at h
theorem rcInner (key vi : List (BitVec 8)) (hok : Aes.okKey key.length) (hiv : vi.length = 16) (text : List (BitVec 8)) (n : Nat) (hn : text.length = n + 16) (hm : text.length % 16 = 0) (h32 : 32 ≤ text.length) (h272 : text.length ≤ 272) (w0 : World) : Calls Try.prog 26 #[.string (str key), .string (str vi), .string (str (Cb.unchain key (Rc.lst key text) (text.take n) ++ Rc.lst key text))] w0 fun e w' => e = .returned (.tuple #[.string (str (Rc.opn key vi text)), .int .i64 0]) ∧ Below w0.heap.size w0 w' := by
  rw [Rc.inner_eq key text n hn hm h32]
  exact unchain_y key vi hok hiv (Cb.unchain key (Rc.lst key text) text) (by rw [Cb.unchain_len]; exact hm) (by rw [Cb.unchain_len]; omega) w0

set_option maxRecDepth 100000 in
set_option maxHeartbeats 1000000 in
theorem unlock_1 (key vi : List (BitVec 8)) (hok : Aes.okKey key.length) (hiv : vi.length = 16) (text : List (BitVec 8)) (n : Nat) (hn : text.length = n + 16) (hm : text.length % 16 = 0) (h32 : 32 ≤ text.length) (h272 : text.length ≤ 272) (hb : ¬ (3 ≤ Rc.kn (Rc.opn key vi text) ∧ Rc.kn (Rc.opn key vi text) ≤ 255)) (w0 : World) : Calls Try.prog 39 #[.string (str key), .string (str vi), .string (str text)] w0 fun e w' => e = .returned (.tuple #[.string (str ([] : List (BitVec 8))), .int .i64 8]) ∧ Below w0.heap.size w0 w' := by
 have hll := Rc.lst_len key text h32
 have hol := Rc.opn_len key vi text
 have hul := Cb.unchain_len key (Rc.lst key text) (text.take n)
 have hul2 := Cb.unchain_len key (Rc.lst key text) text
 have hnl : (text.take n).length = n := by rw [List.length_take]; omega
 have hflb := Rc.fl_le (Rc.kn (Rc.opn key vi text))
 refine enter (n := 103) Try.func39 rfl rfl rfl ?_
 have hk : Below w0.heap.size w0 w0 := Below.refl _ _
 refine sr ?_
 refine w_as (evc (.string (str ([] : List (BitVec 8))))) ?_
 refine w_as (evc (.int .i64 0)) ?_
 refine nt ?_
 refine wp_seq ?_
 refine sr ?_
 refine w_mv (ev (.string (str key)) rfl rfl) ?_
 refine w_mv (ev (.string (str vi)) rfl rfl) ?_
 refine w_call (Try.func65) (by kernel_rfl) rfl (m2 (ev (.string (str key)) rfl rfl) (ev (.string (str vi)) rfl rfl)) (rcWrong_y key vi hok hiv w0) ?_
 rintro _ w1 ⟨rfl, hb2⟩
 refine ⟨_, rfl, ?_⟩
 replace hk := thenB hk hb2
 refine w_as (ev (.int .i64 0) rfl rfl) ?_
 refine nt ?_
 refine sr ?_
 refine w_mv (ev (.int .i64 0) rfl rfl) ?_
 refine w_val (y_bin (ev (.int .i64 0) rfl rfl) (evc (.int .i64 0)) b_neq) ?_
 refine nt ?_
 refine c_ff (ev (.bool false) rfl rfl) ?_
 refine wp_skip ?_
 refine then_n ?_
 refine wp_seq ?_
 refine sr ?_
 refine w_mv (ev (.string (str text)) rfl rfl) ?_
 refine w_val (y_len (ev (.string (str text)) rfl rfl) Try.underlying9) ?_
 refine w_val (y_bin (ev (.int .i64 ((text.length : Nat) : Int)) rfl rfl) (evc (.int .i64 16)) (b_rem (by omega))) ?_
 refine w_val (y_bin (ev (.int .i64 (((text.length : Nat) : Int) % 16)) rfl rfl) (evc (.int .i64 0)) b_neq) ?_
 refine w_mv (ev (.bool (decide ((((text.length : Nat) : Int) % 16) ≠ 0))) rfl rfl) ?_
 have hc3 : ¬ ((((text.length : Nat) : Int) % 16) ≠ 0) := by omega
 refine w_val_g (v := .string (str text)) (want_yes (j := 4) rfl rfl (ev (.bool false) (Eq.trans (b := .bool (decide ((((text.length : Nat) : Int) % 16) ≠ 0))) rfl (by rw [decide_eq_false hc3])) rfl) rfl) (y_mv (ev (.string (str text)) rfl rfl)) ?_
 refine w_val_g (want_yes (j := 4) rfl rfl (ev (.bool false) (Eq.trans (b := .bool (decide ((((text.length : Nat) : Int) % 16) ≠ 0))) rfl (by rw [decide_eq_false hc3])) rfl) rfl) (y_len (ev (.string (str text)) rfl rfl) Try.underlying9) ?_
 refine w_val_g (want_yes (j := 4) rfl rfl (ev (.bool false) (Eq.trans (b := .bool (decide ((((text.length : Nat) : Int) % 16) ≠ 0))) rfl (by rw [decide_eq_false hc3])) rfl) rfl) (y_bin (ev (.int .i64 ((text.length : Nat) : Int)) rfl rfl) (evc (.int .i64 32)) b_lss) ?_
 refine w_val (y_pick_f (ev (.bool false) (Eq.trans (b := .bool (decide ((((text.length : Nat) : Int) % 16) ≠ 0))) rfl (by rw [decide_eq_false hc3])) rfl) (ev (.bool (decide (((text.length : Nat) : Int) < 32))) rfl rfl)) ?_
 refine w_mv (ev (.bool (decide (((text.length : Nat) : Int) < 32))) rfl rfl) ?_
 have hc4 : ¬ (((text.length : Nat) : Int) < 32) := by omega
 refine w_val_g (v := .string (str text)) (want_yes (j := 9) rfl rfl (ev (.bool false) (Eq.trans (b := .bool (decide (((text.length : Nat) : Int) < 32))) rfl (by rw [decide_eq_false hc4])) rfl) rfl) (y_mv (ev (.string (str text)) rfl rfl)) ?_
 refine w_val_g (want_yes (j := 9) rfl rfl (ev (.bool false) (Eq.trans (b := .bool (decide (((text.length : Nat) : Int) < 32))) rfl (by rw [decide_eq_false hc4])) rfl) rfl) (y_len (ev (.string (str text)) rfl rfl) Try.underlying9) ?_
 refine w_val_g (want_yes (j := 9) rfl rfl (ev (.bool false) (Eq.trans (b := .bool (decide (((text.length : Nat) : Int) < 32))) rfl (by rw [decide_eq_false hc4])) rfl) rfl) (y_bin (ev (.int .i64 ((text.length : Nat) : Int)) rfl rfl) (evc (.int .i64 272)) b_gtr) ?_
 refine w_val (y_pick_f (ev (.bool false) (Eq.trans (b := .bool (decide (((text.length : Nat) : Int) < 32))) rfl (by rw [decide_eq_false hc4])) rfl) (ev (.bool (decide (272 < ((text.length : Nat) : Int)))) rfl rfl)) ?_
 refine nt ?_
 have hc5 : ¬ (272 < ((text.length : Nat) : Int)) := by omega
 refine c_f (p := 272 < ((text.length : Nat) : Int)) (ev (.bool (decide (272 < ((text.length : Nat) : Int)))) rfl rfl) hc5 ?_
 refine wp_skip ?_
 refine then_n ?_
 refine sr ?_
 refine w_mv (ev (.string (str text)) rfl rfl) ?_
 refine w_val (y_len (ev (.string (str text)) rfl rfl) Try.underlying9) ?_
 refine w_val (y_bin (ev (.int .i64 ((text.length : Nat) : Int)) rfl rfl) (evc (.int .i64 16)) (b_sub (by omega))) ?_
 refine w_as (ev (.int .i64 (((text.length : Nat) : Int) - 16)) rfl rfl) ?_
 refine nt ?_
 refine wp_seq ?_
 refine region_dc (Nat.testBit 0) 15 RecCT.mixed rfl ?_
 intro w6 hb7
 replace hk := thenB hk hb7
 have hS : Cls w6 w6 := Below.refl _ _
 refine d_pure (v := .string (str key)) 0 rfl (by kernel_rfl) (by kernel_rfl) (by kernel_rfl) (by kernel_rfl) (fun _ _ _ h => h) (fun w' => y_mv (ev (.string (str key)) rfl rfl)) ?_
 refine d_pure (v := .string (str text)) 1 rfl (by kernel_rfl) (by kernel_rfl) (by kernel_rfl) (by kernel_rfl) (fun _ _ _ h => h) (fun w' => y_mv (ev (.string (str text)) rfl rfl)) ?_
 refine d_pure (v := .int .i64 ((n : Nat) : Int)) 2 rfl (by kernel_rfl) (by kernel_rfl) (by kernel_rfl) (by kernel_rfl) (fun _ _ _ h => h) (fun w' => y_mv (ev (.int .i64 ((n : Nat) : Int)) (Eq.trans (b := .int .i64 (((text.length : Nat) : Int) - 16)) rfl (by congr 1; omega)) rfl)) ?_
 refine d_pure (v := .int .i64 (((n : Nat) : Int) - 16)) 3 rfl (by kernel_rfl) (by kernel_rfl) (by kernel_rfl) (by kernel_rfl) (fun _ _ _ h => h) (fun w' => y_bin (ev (.int .i64 ((n : Nat) : Int)) rfl rfl) (evc (.int .i64 16)) (b_sub (by omega))) ?_
 refine d_pure (v := .int .i64 ((n : Nat) : Int)) 4 rfl (by kernel_rfl) (by kernel_rfl) (by kernel_rfl) (by kernel_rfl) (fun _ _ _ h => h) (fun w' => y_mv (ev (.int .i64 ((n : Nat) : Int)) (Eq.trans (b := .int .i64 (((text.length : Nat) : Int) - 16)) rfl (by congr 1; omega)) rfl)) ?_
 refine d_pure (v := .string (str ((text.drop (n - 16)).take (n - (n - 16))))) 5 rfl (by kernel_rfl) (by kernel_rfl) (by kernel_rfl) (by kernel_rfl) (fun _ _ _ h => h) (fun w' => y_sls (ev (.string (str text)) rfl rfl) (evo.s (ev (.int .i64 (((n : Nat) : Int) - 16)) rfl rfl)) (evo.s (ev (.int .i64 ((n : Nat) : Int)) rfl rfl)) Try.underlying9 (bnd_lh (l := (n - 16)) (h := n) (by omega) (by omega) (by omega) (by omega))) ?_
 refine d_pure (v := .string (str text)) 6 rfl (by kernel_rfl) (by kernel_rfl) (by kernel_rfl) (by kernel_rfl) (fun _ _ _ h => h) (fun w' => y_mv (ev (.string (str text)) rfl rfl)) ?_
 refine d_pure (v := .int .i64 ((n : Nat) : Int)) 7 rfl (by kernel_rfl) (by kernel_rfl) (by kernel_rfl) (by kernel_rfl) (fun _ _ _ h => h) (fun w' => y_mv (ev (.int .i64 ((n : Nat) : Int)) (Eq.trans (b := .int .i64 (((text.length : Nat) : Int) - 16)) rfl (by congr 1; omega)) rfl)) ?_
 refine d_pure (v := .string (str (text.drop n))) 8 rfl (by kernel_rfl) (by kernel_rfl) (by kernel_rfl) (by kernel_rfl) (fun _ _ _ h => h) (fun w' => y_slf (ev (.string (str text)) rfl rfl) (evo.s (ev (.int .i64 ((n : Nat) : Int)) rfl rfl)) Try.underlying9 (bnd_l (l := n) (by omega) (by omega))) ?_
 refine d_one 9 (by kernel_rfl) rfl ?_
 refine w_call (Try.func26) (by kernel_rfl) rfl (m3 (ev (.string (str key)) rfl rfl) (ev (.string (str ((text.drop (n - 16)).take (n - (n - 16))))) rfl rfl) (ev (.string (str (text.drop n))) rfl rfl)) (rcLast key vi hok hiv text n hn hm h32 h272 w6) ?_
 rintro _ w8 ⟨rfl, hb9⟩
 refine ⟨_, rfl, ?_⟩
 replace hk := thenB hk hb9
 replace hS := thenB hS hb9
 refine wpList_nil ?_
 refine then_n ⟨fun _ h => thenB h (by assumption), ?_⟩
 refine d_pure (v := .tuple #[.string (str (Rc.lst key text)), .int .i64 0]) 10 rfl (by kernel_rfl) (by kernel_rfl) (by kernel_rfl) (by kernel_rfl) (fun _ _ _ h => h) (fun w' => y_mv (ev (.tuple #[.string (str (Rc.lst key text)), .int .i64 0]) rfl rfl)) ?_
 refine d_pure (v := .string (str (Rc.lst key text))) 11 rfl (by kernel_rfl) (by kernel_rfl) (by kernel_rfl) (by kernel_rfl) (fun _ _ _ h => h) (fun w' => y_ext (v := .string (str (Rc.lst key text))) (ev (.tuple #[.string (str (Rc.lst key text)), .int .i64 0]) rfl rfl) rfl) ?_
 refine d_pure (v := .int .i64 0) 12 rfl (by kernel_rfl) (by kernel_rfl) (by kernel_rfl) (by kernel_rfl) (fun _ _ _ h => h) (fun w' => y_ext (v := .int .i64 0) (ev (.tuple #[.string (str (Rc.lst key text)), .int .i64 0]) rfl rfl) rfl) ?_
 refine d_pure (v := .string (str (Rc.lst key text))) 13 rfl (by kernel_rfl) (by kernel_rfl) (by kernel_rfl) (by kernel_rfl) (fun _ _ _ h => h) (fun w' => y_as (ev (.string (str (Rc.lst key text))) rfl rfl)) ?_
 refine d_pure (v := .int .i64 0) 14 rfl (by kernel_rfl) (by kernel_rfl) (by kernel_rfl) (by kernel_rfl) (fun _ _ _ h => h) (fun w' => y_as (ev (.int .i64 0) rfl rfl)) ?_
 refine d_done (by kernel_rfl) ?_
 clear hS
 refine then_n ?_
 refine sr ?_
 refine w_mv (ev (.string (str key)) rfl rfl) ?_
 refine w_mv (ev (.string (str (Rc.lst key text))) rfl rfl) ?_
 refine w_mv (ev (.string (str text)) rfl rfl) ?_
 refine w_mv (ev (.int .i64 ((n : Nat) : Int)) (Eq.trans (b := .int .i64 (((text.length : Nat) : Int) - 16)) rfl (by congr 1; omega)) rfl) ?_
 refine w_val (v := .string (str (text.take n))) (y_sls (ev (.string (str text)) rfl rfl) evo.no (evo.s (ev (.int .i64 ((n : Nat) : Int)) rfl rfl)) Try.underlying9 (bnd_h (h := n) (by omega) (by omega))) ?_
 refine w_call (Try.func26) (by kernel_rfl) rfl (m3 (ev (.string (str key)) rfl rfl) (ev (.string (str (Rc.lst key text))) rfl rfl) (ev (.string (str (text.take n))) rfl rfl)) (unchain_y key (Rc.lst key text) hok hll (text.take n) (by rw [List.length_take]; omega) (by rw [List.length_take]; omega) w8) ?_
 rintro _ w10 ⟨rfl, hb11⟩
 refine ⟨_, rfl, ?_⟩
 replace hk := thenB hk hb11
 refine w_mv (ev (.tuple #[.string (str (Cb.unchain key (Rc.lst key text) (text.take n))), .int .i64 0]) rfl rfl) ?_
 refine w_val (y_ext (v := .string (str (Cb.unchain key (Rc.lst key text) (text.take n)))) (ev (.tuple #[.string (str (Cb.unchain key (Rc.lst key text) (text.take n))), .int .i64 0]) rfl rfl) rfl) ?_
 refine w_val (y_ext (v := .int .i64 0) (ev (.tuple #[.string (str (Cb.unchain key (Rc.lst key text) (text.take n))), .int .i64 0]) rfl rfl) rfl) ?_
 refine w_as (ev (.string (str (Cb.unchain key (Rc.lst key text) (text.take n)))) rfl rfl) ?_
 refine w_as (ev (.int .i64 0) rfl rfl) ?_
 refine nt ?_
 refine sr ?_
 refine w_mv (ev (.string (str key)) rfl rfl) ?_
 refine w_mv (ev (.string (str vi)) rfl rfl) ?_
 refine w_mv (ev (.string (str (Cb.unchain key (Rc.lst key text) (text.take n)))) rfl rfl) ?_
 refine w_mv (ev (.string (str (Rc.lst key text))) rfl rfl) ?_
 refine w_val (y_bin (ev (.string (str (Cb.unchain key (Rc.lst key text) (text.take n)))) rfl rfl) (ev (.string (str (Rc.lst key text))) rfl rfl) (b_cat (by rw [hul, hnl]; omega))) ?_
 refine w_call (Try.func26) (by kernel_rfl) rfl (m3 (ev (.string (str key)) rfl rfl) (ev (.string (str vi)) rfl rfl) (ev (.string (str ((Cb.unchain key (Rc.lst key text) (text.take n)) ++ (Rc.lst key text)))) rfl rfl)) (rcInner key vi hok hiv text n hn hm h32 h272 w10) ?_
 rintro _ w12 ⟨rfl, hb13⟩
 refine ⟨_, rfl, ?_⟩
 replace hk := thenB hk hb13
 refine w_mv (ev (.tuple #[.string (str (Rc.opn key vi text)), .int .i64 0]) rfl rfl) ?_
 refine w_val (y_ext (v := .string (str (Rc.opn key vi text))) (ev (.tuple #[.string (str (Rc.opn key vi text)), .int .i64 0]) rfl rfl) rfl) ?_
 refine w_val (y_ext (v := .int .i64 0) (ev (.tuple #[.string (str (Rc.opn key vi text)), .int .i64 0]) rfl rfl) rfl) ?_
 refine w_as (ev (.string (str (Rc.opn key vi text))) rfl rfl) ?_
 refine w_as (ev (.int .i64 0) rfl rfl) ?_
 refine nt ?_
 refine sr ?_
 refine w_mv (ev (.string (str (Rc.opn key vi text))) rfl rfl) ?_
 refine w_val (v := U8 (gb (Rc.opn key vi text) 0)) (y_idx (ev (.string (str (Rc.opn key vi text))) rfl rfl) (evc (.int .i64 0)) Try.underlying9 (by omega) (by omega)) ?_
 refine w_val (v := .int .i64 (((gb (Rc.opn key vi text) 0).toNat : Nat) : Int)) (y_u8_i64 (ev (U8 (gb (Rc.opn key vi text) 0)) rfl rfl) RecCT.so5 Try.underlying3 (by have := (gb (Rc.opn key vi text) 0).isLt; omega)) ?_
 refine w_as (ev (.int .i64 (((gb (Rc.opn key vi text) 0).toNat : Nat) : Int)) rfl rfl) ?_
 refine nt ?_
 refine sr ?_
 refine w_mv (ev (.int .i64 (((Rc.kn (Rc.opn key vi text)) : Nat) : Int)) (Eq.trans (b := .int .i64 (((gb (Rc.opn key vi text) 0).toNat : Nat) : Int)) rfl (by rfl)) rfl) ?_
 refine w_call (Try.func34) (by kernel_rfl) rfl (m1 (ev (.int .i64 (((Rc.kn (Rc.opn key vi text)) : Nat) : Int)) rfl rfl)) (fill_s (((Rc.kn (Rc.opn key vi text)) : Nat) : Int) (by omega) w12) ?_
 rintro _ w14 ⟨rfl, hb15⟩
 refine ⟨_, rfl, ?_⟩
 replace hk := thenB hk hb15
 refine w_mv (ev (.tuple #[.int .i64 0, .int .i64 6]) rfl rfl) ?_
 refine w_val (y_ext (v := .int .i64 0) (ev (.tuple #[.int .i64 0, .int .i64 6]) rfl rfl) rfl) ?_
 refine w_val (y_ext (v := .int .i64 6) (ev (.tuple #[.int .i64 0, .int .i64 6]) rfl rfl) rfl) ?_
 refine w_as (ev (.int .i64 0) rfl rfl) ?_
 refine w_as (ev (.int .i64 6) rfl rfl) ?_
 refine nt ?_
 refine wp_seq ?_
 refine sr ?_
 refine w_mv (ev (.int .i64 6) rfl rfl) ?_
 refine w_val (y_bin (ev (.int .i64 6) rfl rfl) (evc (.int .i64 0)) b_neq) ?_
 refine w_mv (ev (.bool true) rfl rfl) ?_
 first | with_reducible refine w_skip ?_ ?_ | refine w_skip ?_ ?_
 · exact want_no (j := 2) rfl rfl (ev (.bool true) rfl rfl) rfl
 first | with_reducible refine w_skip ?_ ?_ | refine w_skip ?_ ?_
 · exact want_no (j := 2) rfl rfl (ev (.bool true) rfl rfl) rfl
 first | with_reducible refine w_skip ?_ ?_ | refine w_skip ?_ ?_
 · exact want_no (j := 2) rfl rfl (ev (.bool true) rfl rfl) rfl
 first | with_reducible refine w_skip ?_ ?_ | refine w_skip ?_ ?_
 · exact want_no (j := 2) rfl rfl (ev (.bool true) rfl rfl) rfl
 first | with_reducible refine w_skip ?_ ?_ | refine w_skip ?_ ?_
 · exact want_no (j := 2) rfl rfl (ev (.bool true) rfl rfl) rfl
 first | with_reducible refine w_skip ?_ ?_ | refine w_skip ?_ ?_
 · exact want_no (j := 2) rfl rfl (ev (.bool true) rfl rfl) rfl
 first | with_reducible refine w_skip ?_ ?_ | refine w_skip ?_ ?_
 · exact want_no (j := 2) rfl rfl (ev (.bool true) rfl rfl) rfl
 refine w_val (y_pick_t (ev (.bool true) rfl rfl) (evc (.bool true))) ?_
 refine nt ?_
 refine c_tt (ev (.bool true) rfl rfl) ?_
 refine sr ?_
 refine w_as (evc (.string (str ([] : List (BitVec 8))))) ?_
 refine w_as (evc (.int .i64 8)) ?_
 refine nt ?_
 refine wp_ret ?_
 refine then_r ?_
 refine fin_ret2 rfl (ev (.string (str ([] : List (BitVec 8)))) rfl rfl) (ev (.int .i64 8) rfl rfl) ?_
 exact ⟨rfl, hk⟩

set_option maxRecDepth 100000 in
set_option maxHeartbeats 1000000 in
theorem unlock_2 (key vi : List (BitVec 8)) (hok : Aes.okKey key.length) (hiv : vi.length = 16) (text : List (BitVec 8)) (n : Nat) (hn : text.length = n + 16) (hm : text.length % 16 = 0) (h32 : 32 ≤ text.length) (h272 : text.length ≤ 272) (h3 : 3 ≤ Rc.kn (Rc.opn key vi text)) (h255 : Rc.kn (Rc.opn key vi text) ≤ 255) (he : 4 + Rc.kn (Rc.opn key vi text) + Rc.fl (Rc.kn (Rc.opn key vi text)) ≠ text.length) (w0 : World) : Calls Try.prog 39 #[.string (str key), .string (str vi), .string (str text)] w0 fun e w' => e = .returned (.tuple #[.string (str ([] : List (BitVec 8))), .int .i64 8]) ∧ Below w0.heap.size w0 w' := by
 have hll := Rc.lst_len key text h32
 have hol := Rc.opn_len key vi text
 have hul := Cb.unchain_len key (Rc.lst key text) (text.take n)
 have hul2 := Cb.unchain_len key (Rc.lst key text) text
 have hnl : (text.take n).length = n := by rw [List.length_take]; omega
 have hflb := Rc.fl_le (Rc.kn (Rc.opn key vi text))
 refine enter (n := 103) Try.func39 rfl rfl rfl ?_
 have hk : Below w0.heap.size w0 w0 := Below.refl _ _
 refine sr ?_
 refine w_as (evc (.string (str ([] : List (BitVec 8))))) ?_
 refine w_as (evc (.int .i64 0)) ?_
 refine nt ?_
 refine wp_seq ?_
 refine sr ?_
 refine w_mv (ev (.string (str key)) rfl rfl) ?_
 refine w_mv (ev (.string (str vi)) rfl rfl) ?_
 refine w_call (Try.func65) (by kernel_rfl) rfl (m2 (ev (.string (str key)) rfl rfl) (ev (.string (str vi)) rfl rfl)) (rcWrong_y key vi hok hiv w0) ?_
 rintro _ w1 ⟨rfl, hb2⟩
 refine ⟨_, rfl, ?_⟩
 replace hk := thenB hk hb2
 refine w_as (ev (.int .i64 0) rfl rfl) ?_
 refine nt ?_
 refine sr ?_
 refine w_mv (ev (.int .i64 0) rfl rfl) ?_
 refine w_val (y_bin (ev (.int .i64 0) rfl rfl) (evc (.int .i64 0)) b_neq) ?_
 refine nt ?_
 refine c_ff (ev (.bool false) rfl rfl) ?_
 refine wp_skip ?_
 refine then_n ?_
 refine wp_seq ?_
 refine sr ?_
 refine w_mv (ev (.string (str text)) rfl rfl) ?_
 refine w_val (y_len (ev (.string (str text)) rfl rfl) Try.underlying9) ?_
 refine w_val (y_bin (ev (.int .i64 ((text.length : Nat) : Int)) rfl rfl) (evc (.int .i64 16)) (b_rem (by omega))) ?_
 refine w_val (y_bin (ev (.int .i64 (((text.length : Nat) : Int) % 16)) rfl rfl) (evc (.int .i64 0)) b_neq) ?_
 refine w_mv (ev (.bool (decide ((((text.length : Nat) : Int) % 16) ≠ 0))) rfl rfl) ?_
 have hc3 : ¬ ((((text.length : Nat) : Int) % 16) ≠ 0) := by omega
 refine w_val_g (v := .string (str text)) (want_yes (j := 4) rfl rfl (ev (.bool false) (Eq.trans (b := .bool (decide ((((text.length : Nat) : Int) % 16) ≠ 0))) rfl (by rw [decide_eq_false hc3])) rfl) rfl) (y_mv (ev (.string (str text)) rfl rfl)) ?_
 refine w_val_g (want_yes (j := 4) rfl rfl (ev (.bool false) (Eq.trans (b := .bool (decide ((((text.length : Nat) : Int) % 16) ≠ 0))) rfl (by rw [decide_eq_false hc3])) rfl) rfl) (y_len (ev (.string (str text)) rfl rfl) Try.underlying9) ?_
 refine w_val_g (want_yes (j := 4) rfl rfl (ev (.bool false) (Eq.trans (b := .bool (decide ((((text.length : Nat) : Int) % 16) ≠ 0))) rfl (by rw [decide_eq_false hc3])) rfl) rfl) (y_bin (ev (.int .i64 ((text.length : Nat) : Int)) rfl rfl) (evc (.int .i64 32)) b_lss) ?_
 refine w_val (y_pick_f (ev (.bool false) (Eq.trans (b := .bool (decide ((((text.length : Nat) : Int) % 16) ≠ 0))) rfl (by rw [decide_eq_false hc3])) rfl) (ev (.bool (decide (((text.length : Nat) : Int) < 32))) rfl rfl)) ?_
 refine w_mv (ev (.bool (decide (((text.length : Nat) : Int) < 32))) rfl rfl) ?_
 have hc4 : ¬ (((text.length : Nat) : Int) < 32) := by omega
 refine w_val_g (v := .string (str text)) (want_yes (j := 9) rfl rfl (ev (.bool false) (Eq.trans (b := .bool (decide (((text.length : Nat) : Int) < 32))) rfl (by rw [decide_eq_false hc4])) rfl) rfl) (y_mv (ev (.string (str text)) rfl rfl)) ?_
 refine w_val_g (want_yes (j := 9) rfl rfl (ev (.bool false) (Eq.trans (b := .bool (decide (((text.length : Nat) : Int) < 32))) rfl (by rw [decide_eq_false hc4])) rfl) rfl) (y_len (ev (.string (str text)) rfl rfl) Try.underlying9) ?_
 refine w_val_g (want_yes (j := 9) rfl rfl (ev (.bool false) (Eq.trans (b := .bool (decide (((text.length : Nat) : Int) < 32))) rfl (by rw [decide_eq_false hc4])) rfl) rfl) (y_bin (ev (.int .i64 ((text.length : Nat) : Int)) rfl rfl) (evc (.int .i64 272)) b_gtr) ?_
 refine w_val (y_pick_f (ev (.bool false) (Eq.trans (b := .bool (decide (((text.length : Nat) : Int) < 32))) rfl (by rw [decide_eq_false hc4])) rfl) (ev (.bool (decide (272 < ((text.length : Nat) : Int)))) rfl rfl)) ?_
 refine nt ?_
 have hc5 : ¬ (272 < ((text.length : Nat) : Int)) := by omega
 refine c_f (p := 272 < ((text.length : Nat) : Int)) (ev (.bool (decide (272 < ((text.length : Nat) : Int)))) rfl rfl) hc5 ?_
 refine wp_skip ?_
 refine then_n ?_
 refine sr ?_
 refine w_mv (ev (.string (str text)) rfl rfl) ?_
 refine w_val (y_len (ev (.string (str text)) rfl rfl) Try.underlying9) ?_
 refine w_val (y_bin (ev (.int .i64 ((text.length : Nat) : Int)) rfl rfl) (evc (.int .i64 16)) (b_sub (by omega))) ?_
 refine w_as (ev (.int .i64 (((text.length : Nat) : Int) - 16)) rfl rfl) ?_
 refine nt ?_
 refine wp_seq ?_
 refine region_dc (Nat.testBit 0) 15 RecCT.mixed rfl ?_
 intro w6 hb7
 replace hk := thenB hk hb7
 have hS : Cls w6 w6 := Below.refl _ _
 refine d_pure (v := .string (str key)) 0 rfl (by kernel_rfl) (by kernel_rfl) (by kernel_rfl) (by kernel_rfl) (fun _ _ _ h => h) (fun w' => y_mv (ev (.string (str key)) rfl rfl)) ?_
 refine d_pure (v := .string (str text)) 1 rfl (by kernel_rfl) (by kernel_rfl) (by kernel_rfl) (by kernel_rfl) (fun _ _ _ h => h) (fun w' => y_mv (ev (.string (str text)) rfl rfl)) ?_
 refine d_pure (v := .int .i64 ((n : Nat) : Int)) 2 rfl (by kernel_rfl) (by kernel_rfl) (by kernel_rfl) (by kernel_rfl) (fun _ _ _ h => h) (fun w' => y_mv (ev (.int .i64 ((n : Nat) : Int)) (Eq.trans (b := .int .i64 (((text.length : Nat) : Int) - 16)) rfl (by congr 1; omega)) rfl)) ?_
 refine d_pure (v := .int .i64 (((n : Nat) : Int) - 16)) 3 rfl (by kernel_rfl) (by kernel_rfl) (by kernel_rfl) (by kernel_rfl) (fun _ _ _ h => h) (fun w' => y_bin (ev (.int .i64 ((n : Nat) : Int)) rfl rfl) (evc (.int .i64 16)) (b_sub (by omega))) ?_
 refine d_pure (v := .int .i64 ((n : Nat) : Int)) 4 rfl (by kernel_rfl) (by kernel_rfl) (by kernel_rfl) (by kernel_rfl) (fun _ _ _ h => h) (fun w' => y_mv (ev (.int .i64 ((n : Nat) : Int)) (Eq.trans (b := .int .i64 (((text.length : Nat) : Int) - 16)) rfl (by congr 1; omega)) rfl)) ?_
 refine d_pure (v := .string (str ((text.drop (n - 16)).take (n - (n - 16))))) 5 rfl (by kernel_rfl) (by kernel_rfl) (by kernel_rfl) (by kernel_rfl) (fun _ _ _ h => h) (fun w' => y_sls (ev (.string (str text)) rfl rfl) (evo.s (ev (.int .i64 (((n : Nat) : Int) - 16)) rfl rfl)) (evo.s (ev (.int .i64 ((n : Nat) : Int)) rfl rfl)) Try.underlying9 (bnd_lh (l := (n - 16)) (h := n) (by omega) (by omega) (by omega) (by omega))) ?_
 refine d_pure (v := .string (str text)) 6 rfl (by kernel_rfl) (by kernel_rfl) (by kernel_rfl) (by kernel_rfl) (fun _ _ _ h => h) (fun w' => y_mv (ev (.string (str text)) rfl rfl)) ?_
 refine d_pure (v := .int .i64 ((n : Nat) : Int)) 7 rfl (by kernel_rfl) (by kernel_rfl) (by kernel_rfl) (by kernel_rfl) (fun _ _ _ h => h) (fun w' => y_mv (ev (.int .i64 ((n : Nat) : Int)) (Eq.trans (b := .int .i64 (((text.length : Nat) : Int) - 16)) rfl (by congr 1; omega)) rfl)) ?_
 refine d_pure (v := .string (str (text.drop n))) 8 rfl (by kernel_rfl) (by kernel_rfl) (by kernel_rfl) (by kernel_rfl) (fun _ _ _ h => h) (fun w' => y_slf (ev (.string (str text)) rfl rfl) (evo.s (ev (.int .i64 ((n : Nat) : Int)) rfl rfl)) Try.underlying9 (bnd_l (l := n) (by omega) (by omega))) ?_
 refine d_one 9 (by kernel_rfl) rfl ?_
 refine w_call (Try.func26) (by kernel_rfl) rfl (m3 (ev (.string (str key)) rfl rfl) (ev (.string (str ((text.drop (n - 16)).take (n - (n - 16))))) rfl rfl) (ev (.string (str (text.drop n))) rfl rfl)) (rcLast key vi hok hiv text n hn hm h32 h272 w6) ?_
 rintro _ w8 ⟨rfl, hb9⟩
 refine ⟨_, rfl, ?_⟩
 replace hk := thenB hk hb9
 replace hS := thenB hS hb9
 refine wpList_nil ?_
 refine then_n ⟨fun _ h => thenB h (by assumption), ?_⟩
 refine d_pure (v := .tuple #[.string (str (Rc.lst key text)), .int .i64 0]) 10 rfl (by kernel_rfl) (by kernel_rfl) (by kernel_rfl) (by kernel_rfl) (fun _ _ _ h => h) (fun w' => y_mv (ev (.tuple #[.string (str (Rc.lst key text)), .int .i64 0]) rfl rfl)) ?_
 refine d_pure (v := .string (str (Rc.lst key text))) 11 rfl (by kernel_rfl) (by kernel_rfl) (by kernel_rfl) (by kernel_rfl) (fun _ _ _ h => h) (fun w' => y_ext (v := .string (str (Rc.lst key text))) (ev (.tuple #[.string (str (Rc.lst key text)), .int .i64 0]) rfl rfl) rfl) ?_
 refine d_pure (v := .int .i64 0) 12 rfl (by kernel_rfl) (by kernel_rfl) (by kernel_rfl) (by kernel_rfl) (fun _ _ _ h => h) (fun w' => y_ext (v := .int .i64 0) (ev (.tuple #[.string (str (Rc.lst key text)), .int .i64 0]) rfl rfl) rfl) ?_
 refine d_pure (v := .string (str (Rc.lst key text))) 13 rfl (by kernel_rfl) (by kernel_rfl) (by kernel_rfl) (by kernel_rfl) (fun _ _ _ h => h) (fun w' => y_as (ev (.string (str (Rc.lst key text))) rfl rfl)) ?_
 refine d_pure (v := .int .i64 0) 14 rfl (by kernel_rfl) (by kernel_rfl) (by kernel_rfl) (by kernel_rfl) (fun _ _ _ h => h) (fun w' => y_as (ev (.int .i64 0) rfl rfl)) ?_
 refine d_done (by kernel_rfl) ?_
 clear hS
 refine then_n ?_
 refine sr ?_
 refine w_mv (ev (.string (str key)) rfl rfl) ?_
 refine w_mv (ev (.string (str (Rc.lst key text))) rfl rfl) ?_
 refine w_mv (ev (.string (str text)) rfl rfl) ?_
 refine w_mv (ev (.int .i64 ((n : Nat) : Int)) (Eq.trans (b := .int .i64 (((text.length : Nat) : Int) - 16)) rfl (by congr 1; omega)) rfl) ?_
 refine w_val (v := .string (str (text.take n))) (y_sls (ev (.string (str text)) rfl rfl) evo.no (evo.s (ev (.int .i64 ((n : Nat) : Int)) rfl rfl)) Try.underlying9 (bnd_h (h := n) (by omega) (by omega))) ?_
 refine w_call (Try.func26) (by kernel_rfl) rfl (m3 (ev (.string (str key)) rfl rfl) (ev (.string (str (Rc.lst key text))) rfl rfl) (ev (.string (str (text.take n))) rfl rfl)) (unchain_y key (Rc.lst key text) hok hll (text.take n) (by rw [List.length_take]; omega) (by rw [List.length_take]; omega) w8) ?_
 rintro _ w10 ⟨rfl, hb11⟩
 refine ⟨_, rfl, ?_⟩
 replace hk := thenB hk hb11
 refine w_mv (ev (.tuple #[.string (str (Cb.unchain key (Rc.lst key text) (text.take n))), .int .i64 0]) rfl rfl) ?_
 refine w_val (y_ext (v := .string (str (Cb.unchain key (Rc.lst key text) (text.take n)))) (ev (.tuple #[.string (str (Cb.unchain key (Rc.lst key text) (text.take n))), .int .i64 0]) rfl rfl) rfl) ?_
 refine w_val (y_ext (v := .int .i64 0) (ev (.tuple #[.string (str (Cb.unchain key (Rc.lst key text) (text.take n))), .int .i64 0]) rfl rfl) rfl) ?_
 refine w_as (ev (.string (str (Cb.unchain key (Rc.lst key text) (text.take n)))) rfl rfl) ?_
 refine w_as (ev (.int .i64 0) rfl rfl) ?_
 refine nt ?_
 refine sr ?_
 refine w_mv (ev (.string (str key)) rfl rfl) ?_
 refine w_mv (ev (.string (str vi)) rfl rfl) ?_
 refine w_mv (ev (.string (str (Cb.unchain key (Rc.lst key text) (text.take n)))) rfl rfl) ?_
 refine w_mv (ev (.string (str (Rc.lst key text))) rfl rfl) ?_
 refine w_val (y_bin (ev (.string (str (Cb.unchain key (Rc.lst key text) (text.take n)))) rfl rfl) (ev (.string (str (Rc.lst key text))) rfl rfl) (b_cat (by rw [hul, hnl]; omega))) ?_
 refine w_call (Try.func26) (by kernel_rfl) rfl (m3 (ev (.string (str key)) rfl rfl) (ev (.string (str vi)) rfl rfl) (ev (.string (str ((Cb.unchain key (Rc.lst key text) (text.take n)) ++ (Rc.lst key text)))) rfl rfl)) (rcInner key vi hok hiv text n hn hm h32 h272 w10) ?_
 rintro _ w12 ⟨rfl, hb13⟩
 refine ⟨_, rfl, ?_⟩
 replace hk := thenB hk hb13
 refine w_mv (ev (.tuple #[.string (str (Rc.opn key vi text)), .int .i64 0]) rfl rfl) ?_
 refine w_val (y_ext (v := .string (str (Rc.opn key vi text))) (ev (.tuple #[.string (str (Rc.opn key vi text)), .int .i64 0]) rfl rfl) rfl) ?_
 refine w_val (y_ext (v := .int .i64 0) (ev (.tuple #[.string (str (Rc.opn key vi text)), .int .i64 0]) rfl rfl) rfl) ?_
 refine w_as (ev (.string (str (Rc.opn key vi text))) rfl rfl) ?_
 refine w_as (ev (.int .i64 0) rfl rfl) ?_
 refine nt ?_
 refine sr ?_
 refine w_mv (ev (.string (str (Rc.opn key vi text))) rfl rfl) ?_
 refine w_val (v := U8 (gb (Rc.opn key vi text) 0)) (y_idx (ev (.string (str (Rc.opn key vi text))) rfl rfl) (evc (.int .i64 0)) Try.underlying9 (by omega) (by omega)) ?_
 refine w_val (v := .int .i64 (((gb (Rc.opn key vi text) 0).toNat : Nat) : Int)) (y_u8_i64 (ev (U8 (gb (Rc.opn key vi text) 0)) rfl rfl) RecCT.so5 Try.underlying3 (by have := (gb (Rc.opn key vi text) 0).isLt; omega)) ?_
 refine w_as (ev (.int .i64 (((gb (Rc.opn key vi text) 0).toNat : Nat) : Int)) rfl rfl) ?_
 refine nt ?_
 refine sr ?_
 refine w_mv (ev (.int .i64 (((Rc.kn (Rc.opn key vi text)) : Nat) : Int)) (Eq.trans (b := .int .i64 (((gb (Rc.opn key vi text) 0).toNat : Nat) : Int)) rfl (by rfl)) rfl) ?_
 refine w_call (Try.func34) (by kernel_rfl) rfl (m1 (ev (.int .i64 (((Rc.kn (Rc.opn key vi text)) : Nat) : Int)) rfl rfl)) (fill_y (Rc.kn (Rc.opn key vi text)) (by omega) (by omega) w12) ?_
 rintro _ w14 ⟨rfl, hb15⟩
 refine ⟨_, rfl, ?_⟩
 replace hk := thenB hk hb15
 refine w_mv (ev (.tuple #[.int .i64 (((Rc.fl (Rc.kn (Rc.opn key vi text))) : Nat) : Int), .int .i64 0]) rfl rfl) ?_
 refine w_val (y_ext (v := .int .i64 (((Rc.fl (Rc.kn (Rc.opn key vi text))) : Nat) : Int)) (ev (.tuple #[.int .i64 (((Rc.fl (Rc.kn (Rc.opn key vi text))) : Nat) : Int), .int .i64 0]) rfl rfl) rfl) ?_
 refine w_val (y_ext (v := .int .i64 0) (ev (.tuple #[.int .i64 (((Rc.fl (Rc.kn (Rc.opn key vi text))) : Nat) : Int), .int .i64 0]) rfl rfl) rfl) ?_
 refine w_as (ev (.int .i64 (((Rc.fl (Rc.kn (Rc.opn key vi text))) : Nat) : Int)) rfl rfl) ?_
 refine w_as (ev (.int .i64 0) rfl rfl) ?_
 refine nt ?_
 refine wp_seq ?_
 refine sr ?_
 refine w_mv (ev (.int .i64 0) rfl rfl) ?_
 refine w_val (y_bin (ev (.int .i64 0) rfl rfl) (evc (.int .i64 0)) b_neq) ?_
 refine w_mv (ev (.bool false) rfl rfl) ?_
 refine w_val_g (v := .int .i64 (((Rc.kn (Rc.opn key vi text)) : Nat) : Int)) (want_yes (j := 2) rfl rfl (ev (.bool false) rfl rfl) rfl) (y_mv (ev (.int .i64 (((Rc.kn (Rc.opn key vi text)) : Nat) : Int)) (Eq.trans (b := .int .i64 (((gb (Rc.opn key vi text) 0).toNat : Nat) : Int)) rfl (by rfl)) rfl)) ?_
 refine w_val_g (want_yes (j := 2) rfl rfl (ev (.bool false) rfl rfl) rfl) (y_bin (evc (.int .i64 4)) (ev (.int .i64 (((Rc.kn (Rc.opn key vi text)) : Nat) : Int)) rfl rfl) (b_add (by omega))) ?_
 refine w_val_g (v := .int .i64 (((Rc.fl (Rc.kn (Rc.opn key vi text))) : Nat) : Int)) (want_yes (j := 2) rfl rfl (ev (.bool false) rfl rfl) rfl) (y_mv (ev (.int .i64 (((Rc.fl (Rc.kn (Rc.opn key vi text))) : Nat) : Int)) rfl rfl)) ?_
 refine w_val_g (want_yes (j := 2) rfl rfl (ev (.bool false) rfl rfl) rfl) (y_bin (ev (.int .i64 (4 + (((Rc.kn (Rc.opn key vi text)) : Nat) : Int))) rfl rfl) (ev (.int .i64 (((Rc.fl (Rc.kn (Rc.opn key vi text))) : Nat) : Int)) rfl rfl) (b_add (by omega))) ?_
 refine w_val_g (v := .string (str (Rc.opn key vi text))) (want_yes (j := 2) rfl rfl (ev (.bool false) rfl rfl) rfl) (y_mv (ev (.string (str (Rc.opn key vi text))) rfl rfl)) ?_
 refine w_val_g (want_yes (j := 2) rfl rfl (ev (.bool false) rfl rfl) rfl) (y_len (ev (.string (str (Rc.opn key vi text))) rfl rfl) Try.underlying9) ?_
 refine w_val_g (want_yes (j := 2) rfl rfl (ev (.bool false) rfl rfl) rfl) (y_bin (ev (.int .i64 ((4 + (((Rc.kn (Rc.opn key vi text)) : Nat) : Int)) + (((Rc.fl (Rc.kn (Rc.opn key vi text))) : Nat) : Int))) rfl rfl) (ev (.int .i64 (((Rc.opn key vi text).length : Nat) : Int)) rfl rfl) b_neq) ?_
 refine w_val (y_pick_f (ev (.bool false) rfl rfl) (ev (.bool (decide (((4 + (((Rc.kn (Rc.opn key vi text)) : Nat) : Int)) + (((Rc.fl (Rc.kn (Rc.opn key vi text))) : Nat) : Int)) ≠ (((Rc.opn key vi text).length : Nat) : Int)))) rfl rfl)) ?_
 refine nt ?_
 have hc16 : ((4 + (((Rc.kn (Rc.opn key vi text)) : Nat) : Int)) + (((Rc.fl (Rc.kn (Rc.opn key vi text))) : Nat) : Int)) ≠ (((Rc.opn key vi text).length : Nat) : Int) := by omega
 refine c_t (p := ((4 + (((Rc.kn (Rc.opn key vi text)) : Nat) : Int)) + (((Rc.fl (Rc.kn (Rc.opn key vi text))) : Nat) : Int)) ≠ (((Rc.opn key vi text).length : Nat) : Int)) (ev (.bool (decide (((4 + (((Rc.kn (Rc.opn key vi text)) : Nat) : Int)) + (((Rc.fl (Rc.kn (Rc.opn key vi text))) : Nat) : Int)) ≠ (((Rc.opn key vi text).length : Nat) : Int)))) rfl rfl) hc16 ?_
 refine sr ?_
 refine w_as (evc (.string (str ([] : List (BitVec 8))))) ?_
 refine w_as (evc (.int .i64 8)) ?_
 refine nt ?_
 refine wp_ret ?_
 refine then_r ?_
 refine fin_ret2 rfl (ev (.string (str ([] : List (BitVec 8)))) rfl rfl) (ev (.int .i64 8) rfl rfl) ?_
 exact ⟨rfl, hk⟩

set_option maxRecDepth 100000 in
set_option maxHeartbeats 1000000 in
theorem unlock_3 (key vi : List (BitVec 8)) (hok : Aes.okKey key.length) (hiv : vi.length = 16) (text : List (BitVec 8)) (n : Nat) (hn : text.length = n + 16) (hm : text.length % 16 = 0) (h32 : 32 ≤ text.length) (h272 : text.length ≤ 272) (h3 : 3 ≤ Rc.kn (Rc.opn key vi text)) (h255 : Rc.kn (Rc.opn key vi text) ≤ 255) (he : 4 + Rc.kn (Rc.opn key vi text) + Rc.fl (Rc.kn (Rc.opn key vi text)) = text.length) (hb : Oct.xor (Rc.A (Rc.opn key vi text)) (Rc.B (Rc.opn key vi text)) ≠ Rc.ff) (w0 : World) : Calls Try.prog 39 #[.string (str key), .string (str vi), .string (str text)] w0 fun e w' => e = .returned (.tuple #[.string (str ([] : List (BitVec 8))), .int .i64 8]) ∧ Below w0.heap.size w0 w' := by
 have hll := Rc.lst_len key text h32
 have hol := Rc.opn_len key vi text
 have hul := Cb.unchain_len key (Rc.lst key text) (text.take n)
 have hul2 := Cb.unchain_len key (Rc.lst key text) text
 have hnl : (text.take n).length = n := by rw [List.length_take]; omega
 have hflb := Rc.fl_le (Rc.kn (Rc.opn key vi text))
 refine enter (n := 103) Try.func39 rfl rfl rfl ?_
 have hk : Below w0.heap.size w0 w0 := Below.refl _ _
 refine sr ?_
 refine w_as (evc (.string (str ([] : List (BitVec 8))))) ?_
 refine w_as (evc (.int .i64 0)) ?_
 refine nt ?_
 refine wp_seq ?_
 refine sr ?_
 refine w_mv (ev (.string (str key)) rfl rfl) ?_
 refine w_mv (ev (.string (str vi)) rfl rfl) ?_
 refine w_call (Try.func65) (by kernel_rfl) rfl (m2 (ev (.string (str key)) rfl rfl) (ev (.string (str vi)) rfl rfl)) (rcWrong_y key vi hok hiv w0) ?_
 rintro _ w1 ⟨rfl, hb2⟩
 refine ⟨_, rfl, ?_⟩
 replace hk := thenB hk hb2
 refine w_as (ev (.int .i64 0) rfl rfl) ?_
 refine nt ?_
 refine sr ?_
 refine w_mv (ev (.int .i64 0) rfl rfl) ?_
 refine w_val (y_bin (ev (.int .i64 0) rfl rfl) (evc (.int .i64 0)) b_neq) ?_
 refine nt ?_
 refine c_ff (ev (.bool false) rfl rfl) ?_
 refine wp_skip ?_
 refine then_n ?_
 refine wp_seq ?_
 refine sr ?_
 refine w_mv (ev (.string (str text)) rfl rfl) ?_
 refine w_val (y_len (ev (.string (str text)) rfl rfl) Try.underlying9) ?_
 refine w_val (y_bin (ev (.int .i64 ((text.length : Nat) : Int)) rfl rfl) (evc (.int .i64 16)) (b_rem (by omega))) ?_
 refine w_val (y_bin (ev (.int .i64 (((text.length : Nat) : Int) % 16)) rfl rfl) (evc (.int .i64 0)) b_neq) ?_
 refine w_mv (ev (.bool (decide ((((text.length : Nat) : Int) % 16) ≠ 0))) rfl rfl) ?_
 have hc3 : ¬ ((((text.length : Nat) : Int) % 16) ≠ 0) := by omega
 refine w_val_g (v := .string (str text)) (want_yes (j := 4) rfl rfl (ev (.bool false) (Eq.trans (b := .bool (decide ((((text.length : Nat) : Int) % 16) ≠ 0))) rfl (by rw [decide_eq_false hc3])) rfl) rfl) (y_mv (ev (.string (str text)) rfl rfl)) ?_
 refine w_val_g (want_yes (j := 4) rfl rfl (ev (.bool false) (Eq.trans (b := .bool (decide ((((text.length : Nat) : Int) % 16) ≠ 0))) rfl (by rw [decide_eq_false hc3])) rfl) rfl) (y_len (ev (.string (str text)) rfl rfl) Try.underlying9) ?_
 refine w_val_g (want_yes (j := 4) rfl rfl (ev (.bool false) (Eq.trans (b := .bool (decide ((((text.length : Nat) : Int) % 16) ≠ 0))) rfl (by rw [decide_eq_false hc3])) rfl) rfl) (y_bin (ev (.int .i64 ((text.length : Nat) : Int)) rfl rfl) (evc (.int .i64 32)) b_lss) ?_
 refine w_val (y_pick_f (ev (.bool false) (Eq.trans (b := .bool (decide ((((text.length : Nat) : Int) % 16) ≠ 0))) rfl (by rw [decide_eq_false hc3])) rfl) (ev (.bool (decide (((text.length : Nat) : Int) < 32))) rfl rfl)) ?_
 refine w_mv (ev (.bool (decide (((text.length : Nat) : Int) < 32))) rfl rfl) ?_
 have hc4 : ¬ (((text.length : Nat) : Int) < 32) := by omega
 refine w_val_g (v := .string (str text)) (want_yes (j := 9) rfl rfl (ev (.bool false) (Eq.trans (b := .bool (decide (((text.length : Nat) : Int) < 32))) rfl (by rw [decide_eq_false hc4])) rfl) rfl) (y_mv (ev (.string (str text)) rfl rfl)) ?_
 refine w_val_g (want_yes (j := 9) rfl rfl (ev (.bool false) (Eq.trans (b := .bool (decide (((text.length : Nat) : Int) < 32))) rfl (by rw [decide_eq_false hc4])) rfl) rfl) (y_len (ev (.string (str text)) rfl rfl) Try.underlying9) ?_
 refine w_val_g (want_yes (j := 9) rfl rfl (ev (.bool false) (Eq.trans (b := .bool (decide (((text.length : Nat) : Int) < 32))) rfl (by rw [decide_eq_false hc4])) rfl) rfl) (y_bin (ev (.int .i64 ((text.length : Nat) : Int)) rfl rfl) (evc (.int .i64 272)) b_gtr) ?_
 refine w_val (y_pick_f (ev (.bool false) (Eq.trans (b := .bool (decide (((text.length : Nat) : Int) < 32))) rfl (by rw [decide_eq_false hc4])) rfl) (ev (.bool (decide (272 < ((text.length : Nat) : Int)))) rfl rfl)) ?_
 refine nt ?_
 have hc5 : ¬ (272 < ((text.length : Nat) : Int)) := by omega
 refine c_f (p := 272 < ((text.length : Nat) : Int)) (ev (.bool (decide (272 < ((text.length : Nat) : Int)))) rfl rfl) hc5 ?_
 refine wp_skip ?_
 refine then_n ?_
 refine sr ?_
 refine w_mv (ev (.string (str text)) rfl rfl) ?_
 refine w_val (y_len (ev (.string (str text)) rfl rfl) Try.underlying9) ?_
 refine w_val (y_bin (ev (.int .i64 ((text.length : Nat) : Int)) rfl rfl) (evc (.int .i64 16)) (b_sub (by omega))) ?_
 refine w_as (ev (.int .i64 (((text.length : Nat) : Int) - 16)) rfl rfl) ?_
 refine nt ?_
 refine wp_seq ?_
 refine region_dc (Nat.testBit 0) 15 RecCT.mixed rfl ?_
 intro w6 hb7
 replace hk := thenB hk hb7
 have hS : Cls w6 w6 := Below.refl _ _
 refine d_pure (v := .string (str key)) 0 rfl (by kernel_rfl) (by kernel_rfl) (by kernel_rfl) (by kernel_rfl) (fun _ _ _ h => h) (fun w' => y_mv (ev (.string (str key)) rfl rfl)) ?_
 refine d_pure (v := .string (str text)) 1 rfl (by kernel_rfl) (by kernel_rfl) (by kernel_rfl) (by kernel_rfl) (fun _ _ _ h => h) (fun w' => y_mv (ev (.string (str text)) rfl rfl)) ?_
 refine d_pure (v := .int .i64 ((n : Nat) : Int)) 2 rfl (by kernel_rfl) (by kernel_rfl) (by kernel_rfl) (by kernel_rfl) (fun _ _ _ h => h) (fun w' => y_mv (ev (.int .i64 ((n : Nat) : Int)) (Eq.trans (b := .int .i64 (((text.length : Nat) : Int) - 16)) rfl (by congr 1; omega)) rfl)) ?_
 refine d_pure (v := .int .i64 (((n : Nat) : Int) - 16)) 3 rfl (by kernel_rfl) (by kernel_rfl) (by kernel_rfl) (by kernel_rfl) (fun _ _ _ h => h) (fun w' => y_bin (ev (.int .i64 ((n : Nat) : Int)) rfl rfl) (evc (.int .i64 16)) (b_sub (by omega))) ?_
 refine d_pure (v := .int .i64 ((n : Nat) : Int)) 4 rfl (by kernel_rfl) (by kernel_rfl) (by kernel_rfl) (by kernel_rfl) (fun _ _ _ h => h) (fun w' => y_mv (ev (.int .i64 ((n : Nat) : Int)) (Eq.trans (b := .int .i64 (((text.length : Nat) : Int) - 16)) rfl (by congr 1; omega)) rfl)) ?_
 refine d_pure (v := .string (str ((text.drop (n - 16)).take (n - (n - 16))))) 5 rfl (by kernel_rfl) (by kernel_rfl) (by kernel_rfl) (by kernel_rfl) (fun _ _ _ h => h) (fun w' => y_sls (ev (.string (str text)) rfl rfl) (evo.s (ev (.int .i64 (((n : Nat) : Int) - 16)) rfl rfl)) (evo.s (ev (.int .i64 ((n : Nat) : Int)) rfl rfl)) Try.underlying9 (bnd_lh (l := (n - 16)) (h := n) (by omega) (by omega) (by omega) (by omega))) ?_
 refine d_pure (v := .string (str text)) 6 rfl (by kernel_rfl) (by kernel_rfl) (by kernel_rfl) (by kernel_rfl) (fun _ _ _ h => h) (fun w' => y_mv (ev (.string (str text)) rfl rfl)) ?_
 refine d_pure (v := .int .i64 ((n : Nat) : Int)) 7 rfl (by kernel_rfl) (by kernel_rfl) (by kernel_rfl) (by kernel_rfl) (fun _ _ _ h => h) (fun w' => y_mv (ev (.int .i64 ((n : Nat) : Int)) (Eq.trans (b := .int .i64 (((text.length : Nat) : Int) - 16)) rfl (by congr 1; omega)) rfl)) ?_
 refine d_pure (v := .string (str (text.drop n))) 8 rfl (by kernel_rfl) (by kernel_rfl) (by kernel_rfl) (by kernel_rfl) (fun _ _ _ h => h) (fun w' => y_slf (ev (.string (str text)) rfl rfl) (evo.s (ev (.int .i64 ((n : Nat) : Int)) rfl rfl)) Try.underlying9 (bnd_l (l := n) (by omega) (by omega))) ?_
 refine d_one 9 (by kernel_rfl) rfl ?_
 refine w_call (Try.func26) (by kernel_rfl) rfl (m3 (ev (.string (str key)) rfl rfl) (ev (.string (str ((text.drop (n - 16)).take (n - (n - 16))))) rfl rfl) (ev (.string (str (text.drop n))) rfl rfl)) (rcLast key vi hok hiv text n hn hm h32 h272 w6) ?_
 rintro _ w8 ⟨rfl, hb9⟩
 refine ⟨_, rfl, ?_⟩
 replace hk := thenB hk hb9
 replace hS := thenB hS hb9
 refine wpList_nil ?_
 refine then_n ⟨fun _ h => thenB h (by assumption), ?_⟩
 refine d_pure (v := .tuple #[.string (str (Rc.lst key text)), .int .i64 0]) 10 rfl (by kernel_rfl) (by kernel_rfl) (by kernel_rfl) (by kernel_rfl) (fun _ _ _ h => h) (fun w' => y_mv (ev (.tuple #[.string (str (Rc.lst key text)), .int .i64 0]) rfl rfl)) ?_
 refine d_pure (v := .string (str (Rc.lst key text))) 11 rfl (by kernel_rfl) (by kernel_rfl) (by kernel_rfl) (by kernel_rfl) (fun _ _ _ h => h) (fun w' => y_ext (v := .string (str (Rc.lst key text))) (ev (.tuple #[.string (str (Rc.lst key text)), .int .i64 0]) rfl rfl) rfl) ?_
 refine d_pure (v := .int .i64 0) 12 rfl (by kernel_rfl) (by kernel_rfl) (by kernel_rfl) (by kernel_rfl) (fun _ _ _ h => h) (fun w' => y_ext (v := .int .i64 0) (ev (.tuple #[.string (str (Rc.lst key text)), .int .i64 0]) rfl rfl) rfl) ?_
 refine d_pure (v := .string (str (Rc.lst key text))) 13 rfl (by kernel_rfl) (by kernel_rfl) (by kernel_rfl) (by kernel_rfl) (fun _ _ _ h => h) (fun w' => y_as (ev (.string (str (Rc.lst key text))) rfl rfl)) ?_
 refine d_pure (v := .int .i64 0) 14 rfl (by kernel_rfl) (by kernel_rfl) (by kernel_rfl) (by kernel_rfl) (fun _ _ _ h => h) (fun w' => y_as (ev (.int .i64 0) rfl rfl)) ?_
 refine d_done (by kernel_rfl) ?_
 clear hS
 refine then_n ?_
 refine sr ?_
 refine w_mv (ev (.string (str key)) rfl rfl) ?_
 refine w_mv (ev (.string (str (Rc.lst key text))) rfl rfl) ?_
 refine w_mv (ev (.string (str text)) rfl rfl) ?_
 refine w_mv (ev (.int .i64 ((n : Nat) : Int)) (Eq.trans (b := .int .i64 (((text.length : Nat) : Int) - 16)) rfl (by congr 1; omega)) rfl) ?_
 refine w_val (v := .string (str (text.take n))) (y_sls (ev (.string (str text)) rfl rfl) evo.no (evo.s (ev (.int .i64 ((n : Nat) : Int)) rfl rfl)) Try.underlying9 (bnd_h (h := n) (by omega) (by omega))) ?_
 refine w_call (Try.func26) (by kernel_rfl) rfl (m3 (ev (.string (str key)) rfl rfl) (ev (.string (str (Rc.lst key text))) rfl rfl) (ev (.string (str (text.take n))) rfl rfl)) (unchain_y key (Rc.lst key text) hok hll (text.take n) (by rw [List.length_take]; omega) (by rw [List.length_take]; omega) w8) ?_
 rintro _ w10 ⟨rfl, hb11⟩
 refine ⟨_, rfl, ?_⟩
 replace hk := thenB hk hb11
 refine w_mv (ev (.tuple #[.string (str (Cb.unchain key (Rc.lst key text) (text.take n))), .int .i64 0]) rfl rfl) ?_
 refine w_val (y_ext (v := .string (str (Cb.unchain key (Rc.lst key text) (text.take n)))) (ev (.tuple #[.string (str (Cb.unchain key (Rc.lst key text) (text.take n))), .int .i64 0]) rfl rfl) rfl) ?_
 refine w_val (y_ext (v := .int .i64 0) (ev (.tuple #[.string (str (Cb.unchain key (Rc.lst key text) (text.take n))), .int .i64 0]) rfl rfl) rfl) ?_
 refine w_as (ev (.string (str (Cb.unchain key (Rc.lst key text) (text.take n)))) rfl rfl) ?_
 refine w_as (ev (.int .i64 0) rfl rfl) ?_
 refine nt ?_
 refine sr ?_
 refine w_mv (ev (.string (str key)) rfl rfl) ?_
 refine w_mv (ev (.string (str vi)) rfl rfl) ?_
 refine w_mv (ev (.string (str (Cb.unchain key (Rc.lst key text) (text.take n)))) rfl rfl) ?_
 refine w_mv (ev (.string (str (Rc.lst key text))) rfl rfl) ?_
 refine w_val (y_bin (ev (.string (str (Cb.unchain key (Rc.lst key text) (text.take n)))) rfl rfl) (ev (.string (str (Rc.lst key text))) rfl rfl) (b_cat (by rw [hul, hnl]; omega))) ?_
 refine w_call (Try.func26) (by kernel_rfl) rfl (m3 (ev (.string (str key)) rfl rfl) (ev (.string (str vi)) rfl rfl) (ev (.string (str ((Cb.unchain key (Rc.lst key text) (text.take n)) ++ (Rc.lst key text)))) rfl rfl)) (rcInner key vi hok hiv text n hn hm h32 h272 w10) ?_
 rintro _ w12 ⟨rfl, hb13⟩
 refine ⟨_, rfl, ?_⟩
 replace hk := thenB hk hb13
 refine w_mv (ev (.tuple #[.string (str (Rc.opn key vi text)), .int .i64 0]) rfl rfl) ?_
 refine w_val (y_ext (v := .string (str (Rc.opn key vi text))) (ev (.tuple #[.string (str (Rc.opn key vi text)), .int .i64 0]) rfl rfl) rfl) ?_
 refine w_val (y_ext (v := .int .i64 0) (ev (.tuple #[.string (str (Rc.opn key vi text)), .int .i64 0]) rfl rfl) rfl) ?_
 refine w_as (ev (.string (str (Rc.opn key vi text))) rfl rfl) ?_
 refine w_as (ev (.int .i64 0) rfl rfl) ?_
 refine nt ?_
 refine sr ?_
 refine w_mv (ev (.string (str (Rc.opn key vi text))) rfl rfl) ?_
 refine w_val (v := U8 (gb (Rc.opn key vi text) 0)) (y_idx (ev (.string (str (Rc.opn key vi text))) rfl rfl) (evc (.int .i64 0)) Try.underlying9 (by omega) (by omega)) ?_
 refine w_val (v := .int .i64 (((gb (Rc.opn key vi text) 0).toNat : Nat) : Int)) (y_u8_i64 (ev (U8 (gb (Rc.opn key vi text) 0)) rfl rfl) RecCT.so5 Try.underlying3 (by have := (gb (Rc.opn key vi text) 0).isLt; omega)) ?_
 refine w_as (ev (.int .i64 (((gb (Rc.opn key vi text) 0).toNat : Nat) : Int)) rfl rfl) ?_
 refine nt ?_
 refine sr ?_
 refine w_mv (ev (.int .i64 (((Rc.kn (Rc.opn key vi text)) : Nat) : Int)) (Eq.trans (b := .int .i64 (((gb (Rc.opn key vi text) 0).toNat : Nat) : Int)) rfl (by rfl)) rfl) ?_
 refine w_call (Try.func34) (by kernel_rfl) rfl (m1 (ev (.int .i64 (((Rc.kn (Rc.opn key vi text)) : Nat) : Int)) rfl rfl)) (fill_y (Rc.kn (Rc.opn key vi text)) (by omega) (by omega) w12) ?_
 rintro _ w14 ⟨rfl, hb15⟩
 refine ⟨_, rfl, ?_⟩
 replace hk := thenB hk hb15
 refine w_mv (ev (.tuple #[.int .i64 (((Rc.fl (Rc.kn (Rc.opn key vi text))) : Nat) : Int), .int .i64 0]) rfl rfl) ?_
 refine w_val (y_ext (v := .int .i64 (((Rc.fl (Rc.kn (Rc.opn key vi text))) : Nat) : Int)) (ev (.tuple #[.int .i64 (((Rc.fl (Rc.kn (Rc.opn key vi text))) : Nat) : Int), .int .i64 0]) rfl rfl) rfl) ?_
 refine w_val (y_ext (v := .int .i64 0) (ev (.tuple #[.int .i64 (((Rc.fl (Rc.kn (Rc.opn key vi text))) : Nat) : Int), .int .i64 0]) rfl rfl) rfl) ?_
 refine w_as (ev (.int .i64 (((Rc.fl (Rc.kn (Rc.opn key vi text))) : Nat) : Int)) rfl rfl) ?_
 refine w_as (ev (.int .i64 0) rfl rfl) ?_
 refine nt ?_
 refine wp_seq ?_
 refine sr ?_
 refine w_mv (ev (.int .i64 0) rfl rfl) ?_
 refine w_val (y_bin (ev (.int .i64 0) rfl rfl) (evc (.int .i64 0)) b_neq) ?_
 refine w_mv (ev (.bool false) rfl rfl) ?_
 refine w_val_g (v := .int .i64 (((Rc.kn (Rc.opn key vi text)) : Nat) : Int)) (want_yes (j := 2) rfl rfl (ev (.bool false) rfl rfl) rfl) (y_mv (ev (.int .i64 (((Rc.kn (Rc.opn key vi text)) : Nat) : Int)) (Eq.trans (b := .int .i64 (((gb (Rc.opn key vi text) 0).toNat : Nat) : Int)) rfl (by rfl)) rfl)) ?_
 refine w_val_g (want_yes (j := 2) rfl rfl (ev (.bool false) rfl rfl) rfl) (y_bin (evc (.int .i64 4)) (ev (.int .i64 (((Rc.kn (Rc.opn key vi text)) : Nat) : Int)) rfl rfl) (b_add (by omega))) ?_
 refine w_val_g (v := .int .i64 (((Rc.fl (Rc.kn (Rc.opn key vi text))) : Nat) : Int)) (want_yes (j := 2) rfl rfl (ev (.bool false) rfl rfl) rfl) (y_mv (ev (.int .i64 (((Rc.fl (Rc.kn (Rc.opn key vi text))) : Nat) : Int)) rfl rfl)) ?_
 refine w_val_g (want_yes (j := 2) rfl rfl (ev (.bool false) rfl rfl) rfl) (y_bin (ev (.int .i64 (4 + (((Rc.kn (Rc.opn key vi text)) : Nat) : Int))) rfl rfl) (ev (.int .i64 (((Rc.fl (Rc.kn (Rc.opn key vi text))) : Nat) : Int)) rfl rfl) (b_add (by omega))) ?_
 refine w_val_g (v := .string (str (Rc.opn key vi text))) (want_yes (j := 2) rfl rfl (ev (.bool false) rfl rfl) rfl) (y_mv (ev (.string (str (Rc.opn key vi text))) rfl rfl)) ?_
 refine w_val_g (want_yes (j := 2) rfl rfl (ev (.bool false) rfl rfl) rfl) (y_len (ev (.string (str (Rc.opn key vi text))) rfl rfl) Try.underlying9) ?_
 refine w_val_g (want_yes (j := 2) rfl rfl (ev (.bool false) rfl rfl) rfl) (y_bin (ev (.int .i64 ((4 + (((Rc.kn (Rc.opn key vi text)) : Nat) : Int)) + (((Rc.fl (Rc.kn (Rc.opn key vi text))) : Nat) : Int))) rfl rfl) (ev (.int .i64 (((Rc.opn key vi text).length : Nat) : Int)) rfl rfl) b_neq) ?_
 refine w_val (y_pick_f (ev (.bool false) rfl rfl) (ev (.bool (decide (((4 + (((Rc.kn (Rc.opn key vi text)) : Nat) : Int)) + (((Rc.fl (Rc.kn (Rc.opn key vi text))) : Nat) : Int)) ≠ (((Rc.opn key vi text).length : Nat) : Int)))) rfl rfl)) ?_
 refine nt ?_
 have hc16 : ¬ (((4 + (((Rc.kn (Rc.opn key vi text)) : Nat) : Int)) + (((Rc.fl (Rc.kn (Rc.opn key vi text))) : Nat) : Int)) ≠ (((Rc.opn key vi text).length : Nat) : Int)) := by omega
 refine c_f (p := ((4 + (((Rc.kn (Rc.opn key vi text)) : Nat) : Int)) + (((Rc.fl (Rc.kn (Rc.opn key vi text))) : Nat) : Int)) ≠ (((Rc.opn key vi text).length : Nat) : Int)) (ev (.bool (decide (((4 + (((Rc.kn (Rc.opn key vi text)) : Nat) : Int)) + (((Rc.fl (Rc.kn (Rc.opn key vi text))) : Nat) : Int)) ≠ (((Rc.opn key vi text).length : Nat) : Int)))) rfl rfl) hc16 ?_
 refine wp_skip ?_
 refine then_n ?_
 refine ss ?_
 refine region_q RecCT.mixed (by kernel_rfl) ?_
 refine q_mv (ev (.string (str (Rc.opn key vi text))) rfl rfl) ?_
 refine q_val (v := .string (str (((Rc.opn key vi text).drop 1).take 3))) (fun w' hw' => y_sls (ev (.string (str (Rc.opn key vi text))) rfl rfl) (evo.s (evc (.int .i64 1))) (evo.s (evc (.int .i64 4))) Try.underlying9 (bnd_lh (l := 1) (h := 4) (by omega) (by omega) (by omega) (by omega))) ?_
 refine q_mv (ev (.string (str (Rc.opn key vi text))) rfl rfl) ?_
 refine q_val (v := .string (str (((Rc.opn key vi text).drop 4).take 3))) (fun w' hw' => y_sls (ev (.string (str (Rc.opn key vi text))) rfl rfl) (evo.s (evc (.int .i64 4))) (evo.s (evc (.int .i64 7))) Try.underlying9 (bnd_lh (l := 4) (h := 7) (by omega) (by omega) (by omega) (by omega))) ?_
 refine q_call (v := .string (str (Oct.xor (((Rc.opn key vi text).drop 1).take 3) (((Rc.opn key vi text).drop 4).take 3)))) (Try.func68) (by kernel_rfl) rfl (m2 (ev (.string (str (((Rc.opn key vi text).drop 1).take 3))) rfl rfl) (ev (.string (str (((Rc.opn key vi text).drop 4).take 3))) rfl rfl)) (fun w' hw' => xor_c (((Rc.opn key vi text).drop 1).take 3) (((Rc.opn key vi text).drop 4).take 3) (by (try simp only [Cb.dec_len, List.length_take, List.length_drop]); omega) w') ?_
 refine q_call (v := .bool (decide ((Oct.xor (((Rc.opn key vi text).drop 1).take 3) (((Rc.opn key vi text).drop 4).take 3)) = Rc.ff))) (Try.func67) (by kernel_rfl) rfl (m2 (ev (.string (str (Oct.xor (((Rc.opn key vi text).drop 1).take 3) (((Rc.opn key vi text).drop 4).take 3)))) rfl rfl) (evc (.string (str Rc.ff)))) (fun w' hw' => same_c (Oct.xor (((Rc.opn key vi text).drop 1).take 3) (((Rc.opn key vi text).drop 4).take 3)) Rc.ff (by rw [Oct.length_xor]; simp only [List.length_take, List.length_drop]; omega) w') ?_
 refine q_val (fun w' hw' => y_notp (ev (.bool (decide ((Oct.xor (((Rc.opn key vi text).drop 1).take 3) (((Rc.opn key vi text).drop 4).take 3)) = Rc.ff))) rfl rfl)) ?_
 refine q_nil ?_
 intro w17 hb18
 replace hk := thenB hk hb18
 refine then_n ?_
 have hc19 : ¬ ((Oct.xor (((Rc.opn key vi text).drop 1).take 3) (((Rc.opn key vi text).drop 4).take 3)) = Rc.ff) := by exact hb
 refine c_t (p := ¬ ((Oct.xor (((Rc.opn key vi text).drop 1).take 3) (((Rc.opn key vi text).drop 4).take 3)) = Rc.ff)) (ev (.bool (decide (¬ ((Oct.xor (((Rc.opn key vi text).drop 1).take 3) (((Rc.opn key vi text).drop 4).take 3)) = Rc.ff)))) rfl rfl) hc19 ?_
 refine sr ?_
 refine w_as (evc (.string (str ([] : List (BitVec 8))))) ?_
 refine w_as (evc (.int .i64 8)) ?_
 refine nt ?_
 refine wp_ret ?_
 refine then_r ?_
 refine fin_ret2 rfl (ev (.string (str ([] : List (BitVec 8)))) rfl rfl) (ev (.int .i64 8) rfl rfl) ?_
 exact ⟨rfl, hk⟩

set_option maxRecDepth 100000 in
set_option maxHeartbeats 1000000 in
theorem unlock_y (key vi : List (BitVec 8)) (hok : Aes.okKey key.length) (hiv : vi.length = 16) (text : List (BitVec 8)) (n : Nat) (hn : text.length = n + 16) (hm : text.length % 16 = 0) (h32 : 32 ≤ text.length) (h272 : text.length ≤ 272) (h3 : 3 ≤ Rc.kn (Rc.opn key vi text)) (h255 : Rc.kn (Rc.opn key vi text) ≤ 255) (he : 4 + Rc.kn (Rc.opn key vi text) + Rc.fl (Rc.kn (Rc.opn key vi text)) = text.length) (hb : Oct.xor (Rc.A (Rc.opn key vi text)) (Rc.B (Rc.opn key vi text)) = Rc.ff) (w0 : World) : Calls Try.prog 39 #[.string (str key), .string (str vi), .string (str text)] w0 fun e w' => e = .returned (.tuple #[.string (str (((Rc.opn key vi text).drop 4).take (Rc.kn (Rc.opn key vi text)))), .int .i64 0]) ∧ Below w0.heap.size w0 w' := by
 have hll := Rc.lst_len key text h32
 have hol := Rc.opn_len key vi text
 have hul := Cb.unchain_len key (Rc.lst key text) (text.take n)
 have hul2 := Cb.unchain_len key (Rc.lst key text) text
 have hnl : (text.take n).length = n := by rw [List.length_take]; omega
 have hflb := Rc.fl_le (Rc.kn (Rc.opn key vi text))
 refine enter (n := 103) Try.func39 rfl rfl rfl ?_
 have hk : Below w0.heap.size w0 w0 := Below.refl _ _
 refine sr ?_
 refine w_as (evc (.string (str ([] : List (BitVec 8))))) ?_
 refine w_as (evc (.int .i64 0)) ?_
 refine nt ?_
 refine wp_seq ?_
 refine sr ?_
 refine w_mv (ev (.string (str key)) rfl rfl) ?_
 refine w_mv (ev (.string (str vi)) rfl rfl) ?_
 refine w_call (Try.func65) (by kernel_rfl) rfl (m2 (ev (.string (str key)) rfl rfl) (ev (.string (str vi)) rfl rfl)) (rcWrong_y key vi hok hiv w0) ?_
 rintro _ w1 ⟨rfl, hb2⟩
 refine ⟨_, rfl, ?_⟩
 replace hk := thenB hk hb2
 refine w_as (ev (.int .i64 0) rfl rfl) ?_
 refine nt ?_
 refine sr ?_
 refine w_mv (ev (.int .i64 0) rfl rfl) ?_
 refine w_val (y_bin (ev (.int .i64 0) rfl rfl) (evc (.int .i64 0)) b_neq) ?_
 refine nt ?_
 refine c_ff (ev (.bool false) rfl rfl) ?_
 refine wp_skip ?_
 refine then_n ?_
 refine wp_seq ?_
 refine sr ?_
 refine w_mv (ev (.string (str text)) rfl rfl) ?_
 refine w_val (y_len (ev (.string (str text)) rfl rfl) Try.underlying9) ?_
 refine w_val (y_bin (ev (.int .i64 ((text.length : Nat) : Int)) rfl rfl) (evc (.int .i64 16)) (b_rem (by omega))) ?_
 refine w_val (y_bin (ev (.int .i64 (((text.length : Nat) : Int) % 16)) rfl rfl) (evc (.int .i64 0)) b_neq) ?_
 refine w_mv (ev (.bool (decide ((((text.length : Nat) : Int) % 16) ≠ 0))) rfl rfl) ?_
 have hc3 : ¬ ((((text.length : Nat) : Int) % 16) ≠ 0) := by omega
 refine w_val_g (v := .string (str text)) (want_yes (j := 4) rfl rfl (ev (.bool false) (Eq.trans (b := .bool (decide ((((text.length : Nat) : Int) % 16) ≠ 0))) rfl (by rw [decide_eq_false hc3])) rfl) rfl) (y_mv (ev (.string (str text)) rfl rfl)) ?_
 refine w_val_g (want_yes (j := 4) rfl rfl (ev (.bool false) (Eq.trans (b := .bool (decide ((((text.length : Nat) : Int) % 16) ≠ 0))) rfl (by rw [decide_eq_false hc3])) rfl) rfl) (y_len (ev (.string (str text)) rfl rfl) Try.underlying9) ?_
 refine w_val_g (want_yes (j := 4) rfl rfl (ev (.bool false) (Eq.trans (b := .bool (decide ((((text.length : Nat) : Int) % 16) ≠ 0))) rfl (by rw [decide_eq_false hc3])) rfl) rfl) (y_bin (ev (.int .i64 ((text.length : Nat) : Int)) rfl rfl) (evc (.int .i64 32)) b_lss) ?_
 refine w_val (y_pick_f (ev (.bool false) (Eq.trans (b := .bool (decide ((((text.length : Nat) : Int) % 16) ≠ 0))) rfl (by rw [decide_eq_false hc3])) rfl) (ev (.bool (decide (((text.length : Nat) : Int) < 32))) rfl rfl)) ?_
 refine w_mv (ev (.bool (decide (((text.length : Nat) : Int) < 32))) rfl rfl) ?_
 have hc4 : ¬ (((text.length : Nat) : Int) < 32) := by omega
 refine w_val_g (v := .string (str text)) (want_yes (j := 9) rfl rfl (ev (.bool false) (Eq.trans (b := .bool (decide (((text.length : Nat) : Int) < 32))) rfl (by rw [decide_eq_false hc4])) rfl) rfl) (y_mv (ev (.string (str text)) rfl rfl)) ?_
 refine w_val_g (want_yes (j := 9) rfl rfl (ev (.bool false) (Eq.trans (b := .bool (decide (((text.length : Nat) : Int) < 32))) rfl (by rw [decide_eq_false hc4])) rfl) rfl) (y_len (ev (.string (str text)) rfl rfl) Try.underlying9) ?_
 refine w_val_g (want_yes (j := 9) rfl rfl (ev (.bool false) (Eq.trans (b := .bool (decide (((text.length : Nat) : Int) < 32))) rfl (by rw [decide_eq_false hc4])) rfl) rfl) (y_bin (ev (.int .i64 ((text.length : Nat) : Int)) rfl rfl) (evc (.int .i64 272)) b_gtr) ?_
 refine w_val (y_pick_f (ev (.bool false) (Eq.trans (b := .bool (decide (((text.length : Nat) : Int) < 32))) rfl (by rw [decide_eq_false hc4])) rfl) (ev (.bool (decide (272 < ((text.length : Nat) : Int)))) rfl rfl)) ?_
 refine nt ?_
 have hc5 : ¬ (272 < ((text.length : Nat) : Int)) := by omega
 refine c_f (p := 272 < ((text.length : Nat) : Int)) (ev (.bool (decide (272 < ((text.length : Nat) : Int)))) rfl rfl) hc5 ?_
 refine wp_skip ?_
 refine then_n ?_
 refine sr ?_
 refine w_mv (ev (.string (str text)) rfl rfl) ?_
 refine w_val (y_len (ev (.string (str text)) rfl rfl) Try.underlying9) ?_
 refine w_val (y_bin (ev (.int .i64 ((text.length : Nat) : Int)) rfl rfl) (evc (.int .i64 16)) (b_sub (by omega))) ?_
 refine w_as (ev (.int .i64 (((text.length : Nat) : Int) - 16)) rfl rfl) ?_
 refine nt ?_
 refine wp_seq ?_
 refine region_dc (Nat.testBit 0) 15 RecCT.mixed rfl ?_
 intro w6 hb7
 replace hk := thenB hk hb7
 have hS : Cls w6 w6 := Below.refl _ _
 refine d_pure (v := .string (str key)) 0 rfl (by kernel_rfl) (by kernel_rfl) (by kernel_rfl) (by kernel_rfl) (fun _ _ _ h => h) (fun w' => y_mv (ev (.string (str key)) rfl rfl)) ?_
 refine d_pure (v := .string (str text)) 1 rfl (by kernel_rfl) (by kernel_rfl) (by kernel_rfl) (by kernel_rfl) (fun _ _ _ h => h) (fun w' => y_mv (ev (.string (str text)) rfl rfl)) ?_
 refine d_pure (v := .int .i64 ((n : Nat) : Int)) 2 rfl (by kernel_rfl) (by kernel_rfl) (by kernel_rfl) (by kernel_rfl) (fun _ _ _ h => h) (fun w' => y_mv (ev (.int .i64 ((n : Nat) : Int)) (Eq.trans (b := .int .i64 (((text.length : Nat) : Int) - 16)) rfl (by congr 1; omega)) rfl)) ?_
 refine d_pure (v := .int .i64 (((n : Nat) : Int) - 16)) 3 rfl (by kernel_rfl) (by kernel_rfl) (by kernel_rfl) (by kernel_rfl) (fun _ _ _ h => h) (fun w' => y_bin (ev (.int .i64 ((n : Nat) : Int)) rfl rfl) (evc (.int .i64 16)) (b_sub (by omega))) ?_
 refine d_pure (v := .int .i64 ((n : Nat) : Int)) 4 rfl (by kernel_rfl) (by kernel_rfl) (by kernel_rfl) (by kernel_rfl) (fun _ _ _ h => h) (fun w' => y_mv (ev (.int .i64 ((n : Nat) : Int)) (Eq.trans (b := .int .i64 (((text.length : Nat) : Int) - 16)) rfl (by congr 1; omega)) rfl)) ?_
 refine d_pure (v := .string (str ((text.drop (n - 16)).take (n - (n - 16))))) 5 rfl (by kernel_rfl) (by kernel_rfl) (by kernel_rfl) (by kernel_rfl) (fun _ _ _ h => h) (fun w' => y_sls (ev (.string (str text)) rfl rfl) (evo.s (ev (.int .i64 (((n : Nat) : Int) - 16)) rfl rfl)) (evo.s (ev (.int .i64 ((n : Nat) : Int)) rfl rfl)) Try.underlying9 (bnd_lh (l := (n - 16)) (h := n) (by omega) (by omega) (by omega) (by omega))) ?_
 refine d_pure (v := .string (str text)) 6 rfl (by kernel_rfl) (by kernel_rfl) (by kernel_rfl) (by kernel_rfl) (fun _ _ _ h => h) (fun w' => y_mv (ev (.string (str text)) rfl rfl)) ?_
 refine d_pure (v := .int .i64 ((n : Nat) : Int)) 7 rfl (by kernel_rfl) (by kernel_rfl) (by kernel_rfl) (by kernel_rfl) (fun _ _ _ h => h) (fun w' => y_mv (ev (.int .i64 ((n : Nat) : Int)) (Eq.trans (b := .int .i64 (((text.length : Nat) : Int) - 16)) rfl (by congr 1; omega)) rfl)) ?_
 refine d_pure (v := .string (str (text.drop n))) 8 rfl (by kernel_rfl) (by kernel_rfl) (by kernel_rfl) (by kernel_rfl) (fun _ _ _ h => h) (fun w' => y_slf (ev (.string (str text)) rfl rfl) (evo.s (ev (.int .i64 ((n : Nat) : Int)) rfl rfl)) Try.underlying9 (bnd_l (l := n) (by omega) (by omega))) ?_
 refine d_one 9 (by kernel_rfl) rfl ?_
 refine w_call (Try.func26) (by kernel_rfl) rfl (m3 (ev (.string (str key)) rfl rfl) (ev (.string (str ((text.drop (n - 16)).take (n - (n - 16))))) rfl rfl) (ev (.string (str (text.drop n))) rfl rfl)) (rcLast key vi hok hiv text n hn hm h32 h272 w6) ?_
 rintro _ w8 ⟨rfl, hb9⟩
 refine ⟨_, rfl, ?_⟩
 replace hk := thenB hk hb9
 replace hS := thenB hS hb9
 refine wpList_nil ?_
 refine then_n ⟨fun _ h => thenB h (by assumption), ?_⟩
 refine d_pure (v := .tuple #[.string (str (Rc.lst key text)), .int .i64 0]) 10 rfl (by kernel_rfl) (by kernel_rfl) (by kernel_rfl) (by kernel_rfl) (fun _ _ _ h => h) (fun w' => y_mv (ev (.tuple #[.string (str (Rc.lst key text)), .int .i64 0]) rfl rfl)) ?_
 refine d_pure (v := .string (str (Rc.lst key text))) 11 rfl (by kernel_rfl) (by kernel_rfl) (by kernel_rfl) (by kernel_rfl) (fun _ _ _ h => h) (fun w' => y_ext (v := .string (str (Rc.lst key text))) (ev (.tuple #[.string (str (Rc.lst key text)), .int .i64 0]) rfl rfl) rfl) ?_
 refine d_pure (v := .int .i64 0) 12 rfl (by kernel_rfl) (by kernel_rfl) (by kernel_rfl) (by kernel_rfl) (fun _ _ _ h => h) (fun w' => y_ext (v := .int .i64 0) (ev (.tuple #[.string (str (Rc.lst key text)), .int .i64 0]) rfl rfl) rfl) ?_
 refine d_pure (v := .string (str (Rc.lst key text))) 13 rfl (by kernel_rfl) (by kernel_rfl) (by kernel_rfl) (by kernel_rfl) (fun _ _ _ h => h) (fun w' => y_as (ev (.string (str (Rc.lst key text))) rfl rfl)) ?_
 refine d_pure (v := .int .i64 0) 14 rfl (by kernel_rfl) (by kernel_rfl) (by kernel_rfl) (by kernel_rfl) (fun _ _ _ h => h) (fun w' => y_as (ev (.int .i64 0) rfl rfl)) ?_
 refine d_done (by kernel_rfl) ?_
 clear hS
 refine then_n ?_
 refine sr ?_
 refine w_mv (ev (.string (str key)) rfl rfl) ?_
 refine w_mv (ev (.string (str (Rc.lst key text))) rfl rfl) ?_
 refine w_mv (ev (.string (str text)) rfl rfl) ?_
 refine w_mv (ev (.int .i64 ((n : Nat) : Int)) (Eq.trans (b := .int .i64 (((text.length : Nat) : Int) - 16)) rfl (by congr 1; omega)) rfl) ?_
 refine w_val (v := .string (str (text.take n))) (y_sls (ev (.string (str text)) rfl rfl) evo.no (evo.s (ev (.int .i64 ((n : Nat) : Int)) rfl rfl)) Try.underlying9 (bnd_h (h := n) (by omega) (by omega))) ?_
 refine w_call (Try.func26) (by kernel_rfl) rfl (m3 (ev (.string (str key)) rfl rfl) (ev (.string (str (Rc.lst key text))) rfl rfl) (ev (.string (str (text.take n))) rfl rfl)) (unchain_y key (Rc.lst key text) hok hll (text.take n) (by rw [List.length_take]; omega) (by rw [List.length_take]; omega) w8) ?_
 rintro _ w10 ⟨rfl, hb11⟩
 refine ⟨_, rfl, ?_⟩
 replace hk := thenB hk hb11
 refine w_mv (ev (.tuple #[.string (str (Cb.unchain key (Rc.lst key text) (text.take n))), .int .i64 0]) rfl rfl) ?_
 refine w_val (y_ext (v := .string (str (Cb.unchain key (Rc.lst key text) (text.take n)))) (ev (.tuple #[.string (str (Cb.unchain key (Rc.lst key text) (text.take n))), .int .i64 0]) rfl rfl) rfl) ?_
 refine w_val (y_ext (v := .int .i64 0) (ev (.tuple #[.string (str (Cb.unchain key (Rc.lst key text) (text.take n))), .int .i64 0]) rfl rfl) rfl) ?_
 refine w_as (ev (.string (str (Cb.unchain key (Rc.lst key text) (text.take n)))) rfl rfl) ?_
 refine w_as (ev (.int .i64 0) rfl rfl) ?_
 refine nt ?_
 refine sr ?_
 refine w_mv (ev (.string (str key)) rfl rfl) ?_
 refine w_mv (ev (.string (str vi)) rfl rfl) ?_
 refine w_mv (ev (.string (str (Cb.unchain key (Rc.lst key text) (text.take n)))) rfl rfl) ?_
 refine w_mv (ev (.string (str (Rc.lst key text))) rfl rfl) ?_
 refine w_val (y_bin (ev (.string (str (Cb.unchain key (Rc.lst key text) (text.take n)))) rfl rfl) (ev (.string (str (Rc.lst key text))) rfl rfl) (b_cat (by rw [hul, hnl]; omega))) ?_
 refine w_call (Try.func26) (by kernel_rfl) rfl (m3 (ev (.string (str key)) rfl rfl) (ev (.string (str vi)) rfl rfl) (ev (.string (str ((Cb.unchain key (Rc.lst key text) (text.take n)) ++ (Rc.lst key text)))) rfl rfl)) (rcInner key vi hok hiv text n hn hm h32 h272 w10) ?_
 rintro _ w12 ⟨rfl, hb13⟩
 refine ⟨_, rfl, ?_⟩
 replace hk := thenB hk hb13
 refine w_mv (ev (.tuple #[.string (str (Rc.opn key vi text)), .int .i64 0]) rfl rfl) ?_
 refine w_val (y_ext (v := .string (str (Rc.opn key vi text))) (ev (.tuple #[.string (str (Rc.opn key vi text)), .int .i64 0]) rfl rfl) rfl) ?_
 refine w_val (y_ext (v := .int .i64 0) (ev (.tuple #[.string (str (Rc.opn key vi text)), .int .i64 0]) rfl rfl) rfl) ?_
 refine w_as (ev (.string (str (Rc.opn key vi text))) rfl rfl) ?_
 refine w_as (ev (.int .i64 0) rfl rfl) ?_
 refine nt ?_
 refine sr ?_
 refine w_mv (ev (.string (str (Rc.opn key vi text))) rfl rfl) ?_
 refine w_val (v := U8 (gb (Rc.opn key vi text) 0)) (y_idx (ev (.string (str (Rc.opn key vi text))) rfl rfl) (evc (.int .i64 0)) Try.underlying9 (by omega) (by omega)) ?_
 refine w_val (v := .int .i64 (((gb (Rc.opn key vi text) 0).toNat : Nat) : Int)) (y_u8_i64 (ev (U8 (gb (Rc.opn key vi text) 0)) rfl rfl) RecCT.so5 Try.underlying3 (by have := (gb (Rc.opn key vi text) 0).isLt; omega)) ?_
 refine w_as (ev (.int .i64 (((gb (Rc.opn key vi text) 0).toNat : Nat) : Int)) rfl rfl) ?_
 refine nt ?_
 refine sr ?_
 refine w_mv (ev (.int .i64 (((Rc.kn (Rc.opn key vi text)) : Nat) : Int)) (Eq.trans (b := .int .i64 (((gb (Rc.opn key vi text) 0).toNat : Nat) : Int)) rfl (by rfl)) rfl) ?_
 refine w_call (Try.func34) (by kernel_rfl) rfl (m1 (ev (.int .i64 (((Rc.kn (Rc.opn key vi text)) : Nat) : Int)) rfl rfl)) (fill_y (Rc.kn (Rc.opn key vi text)) (by omega) (by omega) w12) ?_
 rintro _ w14 ⟨rfl, hb15⟩
 refine ⟨_, rfl, ?_⟩
 replace hk := thenB hk hb15
 refine w_mv (ev (.tuple #[.int .i64 (((Rc.fl (Rc.kn (Rc.opn key vi text))) : Nat) : Int), .int .i64 0]) rfl rfl) ?_
 refine w_val (y_ext (v := .int .i64 (((Rc.fl (Rc.kn (Rc.opn key vi text))) : Nat) : Int)) (ev (.tuple #[.int .i64 (((Rc.fl (Rc.kn (Rc.opn key vi text))) : Nat) : Int), .int .i64 0]) rfl rfl) rfl) ?_
 refine w_val (y_ext (v := .int .i64 0) (ev (.tuple #[.int .i64 (((Rc.fl (Rc.kn (Rc.opn key vi text))) : Nat) : Int), .int .i64 0]) rfl rfl) rfl) ?_
 refine w_as (ev (.int .i64 (((Rc.fl (Rc.kn (Rc.opn key vi text))) : Nat) : Int)) rfl rfl) ?_
 refine w_as (ev (.int .i64 0) rfl rfl) ?_
 refine nt ?_
 refine wp_seq ?_
 refine sr ?_
 refine w_mv (ev (.int .i64 0) rfl rfl) ?_
 refine w_val (y_bin (ev (.int .i64 0) rfl rfl) (evc (.int .i64 0)) b_neq) ?_
 refine w_mv (ev (.bool false) rfl rfl) ?_
 refine w_val_g (v := .int .i64 (((Rc.kn (Rc.opn key vi text)) : Nat) : Int)) (want_yes (j := 2) rfl rfl (ev (.bool false) rfl rfl) rfl) (y_mv (ev (.int .i64 (((Rc.kn (Rc.opn key vi text)) : Nat) : Int)) (Eq.trans (b := .int .i64 (((gb (Rc.opn key vi text) 0).toNat : Nat) : Int)) rfl (by rfl)) rfl)) ?_
 refine w_val_g (want_yes (j := 2) rfl rfl (ev (.bool false) rfl rfl) rfl) (y_bin (evc (.int .i64 4)) (ev (.int .i64 (((Rc.kn (Rc.opn key vi text)) : Nat) : Int)) rfl rfl) (b_add (by omega))) ?_
 refine w_val_g (v := .int .i64 (((Rc.fl (Rc.kn (Rc.opn key vi text))) : Nat) : Int)) (want_yes (j := 2) rfl rfl (ev (.bool false) rfl rfl) rfl) (y_mv (ev (.int .i64 (((Rc.fl (Rc.kn (Rc.opn key vi text))) : Nat) : Int)) rfl rfl)) ?_
 refine w_val_g (want_yes (j := 2) rfl rfl (ev (.bool false) rfl rfl) rfl) (y_bin (ev (.int .i64 (4 + (((Rc.kn (Rc.opn key vi text)) : Nat) : Int))) rfl rfl) (ev (.int .i64 (((Rc.fl (Rc.kn (Rc.opn key vi text))) : Nat) : Int)) rfl rfl) (b_add (by omega))) ?_
 refine w_val_g (v := .string (str (Rc.opn key vi text))) (want_yes (j := 2) rfl rfl (ev (.bool false) rfl rfl) rfl) (y_mv (ev (.string (str (Rc.opn key vi text))) rfl rfl)) ?_
 refine w_val_g (want_yes (j := 2) rfl rfl (ev (.bool false) rfl rfl) rfl) (y_len (ev (.string (str (Rc.opn key vi text))) rfl rfl) Try.underlying9) ?_
 refine w_val_g (want_yes (j := 2) rfl rfl (ev (.bool false) rfl rfl) rfl) (y_bin (ev (.int .i64 ((4 + (((Rc.kn (Rc.opn key vi text)) : Nat) : Int)) + (((Rc.fl (Rc.kn (Rc.opn key vi text))) : Nat) : Int))) rfl rfl) (ev (.int .i64 (((Rc.opn key vi text).length : Nat) : Int)) rfl rfl) b_neq) ?_
 refine w_val (y_pick_f (ev (.bool false) rfl rfl) (ev (.bool (decide (((4 + (((Rc.kn (Rc.opn key vi text)) : Nat) : Int)) + (((Rc.fl (Rc.kn (Rc.opn key vi text))) : Nat) : Int)) ≠ (((Rc.opn key vi text).length : Nat) : Int)))) rfl rfl)) ?_
 refine nt ?_
 have hc16 : ¬ (((4 + (((Rc.kn (Rc.opn key vi text)) : Nat) : Int)) + (((Rc.fl (Rc.kn (Rc.opn key vi text))) : Nat) : Int)) ≠ (((Rc.opn key vi text).length : Nat) : Int)) := by omega
 refine c_f (p := ((4 + (((Rc.kn (Rc.opn key vi text)) : Nat) : Int)) + (((Rc.fl (Rc.kn (Rc.opn key vi text))) : Nat) : Int)) ≠ (((Rc.opn key vi text).length : Nat) : Int)) (ev (.bool (decide (((4 + (((Rc.kn (Rc.opn key vi text)) : Nat) : Int)) + (((Rc.fl (Rc.kn (Rc.opn key vi text))) : Nat) : Int)) ≠ (((Rc.opn key vi text).length : Nat) : Int)))) rfl rfl) hc16 ?_
 refine wp_skip ?_
 refine then_n ?_
 refine ss ?_
 refine region_q RecCT.mixed (by kernel_rfl) ?_
 refine q_mv (ev (.string (str (Rc.opn key vi text))) rfl rfl) ?_
 refine q_val (v := .string (str (((Rc.opn key vi text).drop 1).take 3))) (fun w' hw' => y_sls (ev (.string (str (Rc.opn key vi text))) rfl rfl) (evo.s (evc (.int .i64 1))) (evo.s (evc (.int .i64 4))) Try.underlying9 (bnd_lh (l := 1) (h := 4) (by omega) (by omega) (by omega) (by omega))) ?_
 refine q_mv (ev (.string (str (Rc.opn key vi text))) rfl rfl) ?_
 refine q_val (v := .string (str (((Rc.opn key vi text).drop 4).take 3))) (fun w' hw' => y_sls (ev (.string (str (Rc.opn key vi text))) rfl rfl) (evo.s (evc (.int .i64 4))) (evo.s (evc (.int .i64 7))) Try.underlying9 (bnd_lh (l := 4) (h := 7) (by omega) (by omega) (by omega) (by omega))) ?_
 refine q_call (v := .string (str (Oct.xor (((Rc.opn key vi text).drop 1).take 3) (((Rc.opn key vi text).drop 4).take 3)))) (Try.func68) (by kernel_rfl) rfl (m2 (ev (.string (str (((Rc.opn key vi text).drop 1).take 3))) rfl rfl) (ev (.string (str (((Rc.opn key vi text).drop 4).take 3))) rfl rfl)) (fun w' hw' => xor_c (((Rc.opn key vi text).drop 1).take 3) (((Rc.opn key vi text).drop 4).take 3) (by (try simp only [Cb.dec_len, List.length_take, List.length_drop]); omega) w') ?_
 refine q_call (v := .bool (decide ((Oct.xor (((Rc.opn key vi text).drop 1).take 3) (((Rc.opn key vi text).drop 4).take 3)) = Rc.ff))) (Try.func67) (by kernel_rfl) rfl (m2 (ev (.string (str (Oct.xor (((Rc.opn key vi text).drop 1).take 3) (((Rc.opn key vi text).drop 4).take 3)))) rfl rfl) (evc (.string (str Rc.ff)))) (fun w' hw' => same_c (Oct.xor (((Rc.opn key vi text).drop 1).take 3) (((Rc.opn key vi text).drop 4).take 3)) Rc.ff (by rw [Oct.length_xor]; simp only [List.length_take, List.length_drop]; omega) w') ?_
 refine q_val (fun w' hw' => y_notp (ev (.bool (decide ((Oct.xor (((Rc.opn key vi text).drop 1).take 3) (((Rc.opn key vi text).drop 4).take 3)) = Rc.ff))) rfl rfl)) ?_
 refine q_nil ?_
 intro w17 hb18
 replace hk := thenB hk hb18
 refine then_n ?_
 have hc19 : ¬ (¬ ((Oct.xor (((Rc.opn key vi text).drop 1).take 3) (((Rc.opn key vi text).drop 4).take 3)) = Rc.ff)) := by exact fun h => h hb
 refine c_f (p := ¬ ((Oct.xor (((Rc.opn key vi text).drop 1).take 3) (((Rc.opn key vi text).drop 4).take 3)) = Rc.ff)) (ev (.bool (decide (¬ ((Oct.xor (((Rc.opn key vi text).drop 1).take 3) (((Rc.opn key vi text).drop 4).take 3)) = Rc.ff)))) rfl rfl) hc19 ?_
 refine wp_skip ?_
 refine then_n ?_
 refine sr ?_
 refine w_mv (ev (.string (str (Rc.opn key vi text))) rfl rfl) ?_
 refine w_mv (ev (.int .i64 (((Rc.kn (Rc.opn key vi text)) : Nat) : Int)) (Eq.trans (b := .int .i64 (((gb (Rc.opn key vi text) 0).toNat : Nat) : Int)) rfl (by rfl)) rfl) ?_
 refine w_val (y_bin (evc (.int .i64 4)) (ev (.int .i64 (((Rc.kn (Rc.opn key vi text)) : Nat) : Int)) rfl rfl) (b_add (by omega))) ?_
 refine w_val (v := .string (str (((Rc.opn key vi text).drop 4).take ((4 + (Rc.kn (Rc.opn key vi text))) - 4)))) (y_sls (ev (.string (str (Rc.opn key vi text))) rfl rfl) (evo.s (evc (.int .i64 4))) (evo.s (ev (.int .i64 (4 + (((Rc.kn (Rc.opn key vi text)) : Nat) : Int))) rfl rfl)) Try.underlying9 (bnd_lh (l := 4) (h := (4 + (Rc.kn (Rc.opn key vi text)))) (by omega) (by omega) (by omega) (by omega))) ?_
 refine w_as (ev (.string (str (((Rc.opn key vi text).drop 4).take ((4 + (Rc.kn (Rc.opn key vi text))) - 4)))) rfl rfl) ?_
 refine w_as (evc (.int .i64 0)) ?_
 refine nt ?_
 refine wp_ret ?_
 refine fin_ret2 rfl (ev (.string (str (((Rc.opn key vi text).drop 4).take ((4 + (Rc.kn (Rc.opn key vi text))) - 4)))) rfl rfl) (ev (.int .i64 0) rfl rfl) ?_
 refine ⟨congrArg Ending.returned ?_, hk⟩
 show (.tuple #[.string (str (((Rc.opn key vi text).drop 4).take ((4 + (Rc.kn (Rc.opn key vi text))) - 4))), .int .i64 0] : Value) = .tuple #[.string (str (((Rc.opn key vi text).drop 4).take (Rc.kn (Rc.opn key vi text)))), .int .i64 0]
 exact congrArg (fun m => Value.tuple #[.string (str (List.take m (List.drop 4 (Rc.opn key vi text)))), .int .i64 0]) (Nat.add_sub_cancel_left ..)
end Go.Proofs.Ytjdcpejcnmpiaaa
