/-
  Chains of blocks: the reference's chains. Conditions as each says.
-/
import Derived.Test.YtjdcpejcnmpiaaaRows
import Derived.Test.YtjdcpejcnmpiaaaCbcC
import Derived.ProofKit
namespace Go.Proofs.Ytjdcpejcnmpiaaa
open Go.RowKit
set_option linter.unusedSimpArgs false
set_option linter.unusedVariables false
namespace CbcDT
theorem mixed : Try.prog.follows .mixedOrders = true := by kernel_rfl
theorem sc9 : (Try.prog.underlying 9).map scal = some true := by rw [Try.underlying9]; rfl
theorem so3 : (Try.prog.underlying 3).isSome = true := by rw [Try.underlying3]; rfl
theorem so5 : (Try.prog.underlying 5).isSome = true := by rw [Try.underlying5]; rfl
theorem sz9 : (Try.prog.info? 9).map (·.size) = some 1 := by kernel_rfl
end CbcDT
set_option maxRecDepth 100000 in
set_option maxHeartbeats 1000000 in
theorem refChain_k (key vi : List (BitVec 8)) (hok : ¬ Aes.okKey key.length) (text : List (BitVec 8)) (w0 : World) : Calls Try.prog 25 #[.string (str key), .string (str vi), .string (str text)] w0 fun e w' => e = .returned (.tuple #[.string (str ([] : List (BitVec 8))), .int .i64 3]) ∧ Below w0.heap.size w0 w' := by
 refine enter (n := 51) Try.func25 rfl rfl rfl ?_
 have hk : Below w0.heap.size w0 w0 := Below.refl _ _
 refine sr ?_
 refine w_as (evc (.string (str ([] : List (BitVec 8))))) ?_
 refine w_as (evc (.int .i64 0)) ?_
 refine nt ?_
 refine wp_seq ?_
 refine sr ?_
 refine w_mv (ev (.string (str key)) rfl rfl) ?_
 refine w_mv (ev (.string (str vi)) rfl rfl) ?_
 refine w_call (Try.func55) (by kernel_rfl) rfl (m2 (ev (.string (str key)) rfl rfl) (ev (.string (str vi)) rfl rfl)) (refWrong_k key vi hok w0) ?_
 rintro _ w1 ⟨rfl, hb2⟩
 refine ⟨_, rfl, ?_⟩
 replace hk := thenB hk hb2
 refine w_as (ev (.int .i64 3) rfl rfl) ?_
 refine nt ?_
 refine sr ?_
 refine w_mv (ev (.int .i64 3) rfl rfl) ?_
 refine w_val (y_bin (ev (.int .i64 3) rfl rfl) (evc (.int .i64 0)) b_neq) ?_
 refine nt ?_
 refine c_tt (ev (.bool true) rfl rfl) ?_
 refine sr ?_
 refine w_mv (ev (.int .i64 3) rfl rfl) ?_
 refine w_as (evc (.string (str ([] : List (BitVec 8))))) ?_
 refine w_as (ev (.int .i64 3) rfl rfl) ?_
 refine nt ?_
 refine wp_ret ?_
 refine then_r ?_
 refine fin_ret2 rfl (ev (.string (str ([] : List (BitVec 8)))) rfl rfl) (ev (.int .i64 3) rfl rfl) ?_
 exact ⟨rfl, hk⟩

set_option maxRecDepth 100000 in
set_option maxHeartbeats 1000000 in
theorem refChain_i (key vi : List (BitVec 8)) (hok : Aes.okKey key.length) (hiv : vi.length ≠ 16) (text : List (BitVec 8)) (w0 : World) : Calls Try.prog 25 #[.string (str key), .string (str vi), .string (str text)] w0 fun e w' => e = .returned (.tuple #[.string (str ([] : List (BitVec 8))), .int .i64 4]) ∧ Below w0.heap.size w0 w' := by
 refine enter (n := 51) Try.func25 rfl rfl rfl ?_
 have hk : Below w0.heap.size w0 w0 := Below.refl _ _
 refine sr ?_
 refine w_as (evc (.string (str ([] : List (BitVec 8))))) ?_
 refine w_as (evc (.int .i64 0)) ?_
 refine nt ?_
 refine wp_seq ?_
 refine sr ?_
 refine w_mv (ev (.string (str key)) rfl rfl) ?_
 refine w_mv (ev (.string (str vi)) rfl rfl) ?_
 refine w_call (Try.func55) (by kernel_rfl) rfl (m2 (ev (.string (str key)) rfl rfl) (ev (.string (str vi)) rfl rfl)) (refWrong_i key vi hok hiv w0) ?_
 rintro _ w1 ⟨rfl, hb2⟩
 refine ⟨_, rfl, ?_⟩
 replace hk := thenB hk hb2
 refine w_as (ev (.int .i64 4) rfl rfl) ?_
 refine nt ?_
 refine sr ?_
 refine w_mv (ev (.int .i64 4) rfl rfl) ?_
 refine w_val (y_bin (ev (.int .i64 4) rfl rfl) (evc (.int .i64 0)) b_neq) ?_
 refine nt ?_
 refine c_tt (ev (.bool true) rfl rfl) ?_
 refine sr ?_
 refine w_mv (ev (.int .i64 4) rfl rfl) ?_
 refine w_as (evc (.string (str ([] : List (BitVec 8))))) ?_
 refine w_as (ev (.int .i64 4) rfl rfl) ?_
 refine nt ?_
 refine wp_ret ?_
 refine then_r ?_
 refine fin_ret2 rfl (ev (.string (str ([] : List (BitVec 8)))) rfl rfl) (ev (.int .i64 4) rfl rfl) ?_
 exact ⟨rfl, hk⟩

set_option maxRecDepth 100000 in
set_option maxHeartbeats 1000000 in
theorem refChain_s (key vi : List (BitVec 8)) (hok : Aes.okKey key.length) (hiv : vi.length = 16) (text : List (BitVec 8)) (hs : ¬ (text.length % 16 = 0 ∧ text.length ≤ 70016)) (w0 : World) : Calls Try.prog 25 #[.string (str key), .string (str vi), .string (str text)] w0 fun e w' => e = .returned (.tuple #[.string (str ([] : List (BitVec 8))), .int .i64 6]) ∧ Below w0.heap.size w0 w' := by
 refine enter (n := 51) Try.func25 rfl rfl rfl ?_
 have hk : Below w0.heap.size w0 w0 := Below.refl _ _
 refine sr ?_
 refine w_as (evc (.string (str ([] : List (BitVec 8))))) ?_
 refine w_as (evc (.int .i64 0)) ?_
 refine nt ?_
 refine wp_seq ?_
 refine sr ?_
 refine w_mv (ev (.string (str key)) rfl rfl) ?_
 refine w_mv (ev (.string (str vi)) rfl rfl) ?_
 refine w_call (Try.func55) (by kernel_rfl) rfl (m2 (ev (.string (str key)) rfl rfl) (ev (.string (str vi)) rfl rfl)) (refWrong_y key vi hok hiv w0) ?_
 rintro _ w1 ⟨rfl, hb2⟩
 refine ⟨_, rfl, ?_⟩
 replace hk := thenB hk hb2
 refine w_as (ev (.int .i64 0) rfl rfl) ?_
 refine nt ?_
 refine sr ?_
 refine w_mv (ev (.int .i64 0) rfl rfl) ?_
 refine w_val (y_bin (ev (.int .i64 0) rfl rfl) (evc (.int .i64 0)) b_neq) ?_
 refine nt ?_
 refine c_ff (ev (.bool false) rfl rfl) ?_
 refine wp_skip ?_
 refine then_n ?_
 refine wp_seq ?_
 refine sr ?_
 refine w_mv (ev (.string (str text)) rfl rfl) ?_
 refine w_val (y_len (ev (.string (str text)) rfl rfl) Try.underlying9) ?_
 refine w_val (y_bin (ev (.int .i64 ((text.length : Nat) : Int)) rfl rfl) (evc (.int .i64 16)) (b_rem (by omega))) ?_
 refine w_val (y_bin (ev (.int .i64 (((text.length : Nat) : Int) % 16)) rfl rfl) (evc (.int .i64 0)) b_neq) ?_
 refine w_mv (ev (.bool (decide ((((text.length : Nat) : Int) % 16) ≠ 0))) rfl rfl) ?_
 by_cases hc3 : (((text.length : Nat) : Int) % 16) ≠ 0
 ·skip
  first | with_reducible refine w_skip ?_ ?_ | refine w_skip ?_ ?_
  · exact want_no (j := 4) rfl rfl (ev (.bool true) (Eq.trans (b := .bool (decide ((((text.length : Nat) : Int) % 16) ≠ 0))) rfl (by rw [decide_eq_true hc3])) rfl) rfl
  first | with_reducible refine w_skip ?_ ?_ | refine w_skip ?_ ?_
  · exact want_no (j := 4) rfl rfl (ev (.bool true) (Eq.trans (b := .bool (decide ((((text.length : Nat) : Int) % 16) ≠ 0))) rfl (by rw [decide_eq_true hc3])) rfl) rfl
  first | with_reducible refine w_skip ?_ ?_ | refine w_skip ?_ ?_
  · exact want_no (j := 4) rfl rfl (ev (.bool true) (Eq.trans (b := .bool (decide ((((text.length : Nat) : Int) % 16) ≠ 0))) rfl (by rw [decide_eq_true hc3])) rfl) rfl
  refine w_val (y_pick_t (ev (.bool true) (Eq.trans (b := .bool (decide ((((text.length : Nat) : Int) % 16) ≠ 0))) rfl (by rw [decide_eq_true hc3])) rfl) (evc (.bool true))) ?_
  refine nt ?_
  refine c_tt (ev (.bool true) rfl rfl) ?_
  refine sr ?_
  refine w_as (evc (.string (str ([] : List (BitVec 8))))) ?_
  refine w_as (evc (.int .i64 6)) ?_
  refine nt ?_
  refine wp_ret ?_
  refine then_r ?_
  refine fin_ret2 rfl (ev (.string (str ([] : List (BitVec 8)))) rfl rfl) (ev (.int .i64 6) rfl rfl) ?_
  exact ⟨rfl, hk⟩
 ·skip
  refine w_val_g (v := .string (str text)) (want_yes (j := 4) rfl rfl (ev (.bool false) (Eq.trans (b := .bool (decide ((((text.length : Nat) : Int) % 16) ≠ 0))) rfl (by rw [decide_eq_false hc3])) rfl) rfl) (y_mv (ev (.string (str text)) rfl rfl)) ?_
  refine w_val_g (want_yes (j := 4) rfl rfl (ev (.bool false) (Eq.trans (b := .bool (decide ((((text.length : Nat) : Int) % 16) ≠ 0))) rfl (by rw [decide_eq_false hc3])) rfl) rfl) (y_len (ev (.string (str text)) rfl rfl) Try.underlying9) ?_
  refine w_val_g (want_yes (j := 4) rfl rfl (ev (.bool false) (Eq.trans (b := .bool (decide ((((text.length : Nat) : Int) % 16) ≠ 0))) rfl (by rw [decide_eq_false hc3])) rfl) rfl) (y_bin (ev (.int .i64 ((text.length : Nat) : Int)) rfl rfl) (evc (.int .i64 70016)) b_gtr) ?_
  refine w_val (y_pick_f (ev (.bool false) (Eq.trans (b := .bool (decide ((((text.length : Nat) : Int) % 16) ≠ 0))) rfl (by rw [decide_eq_false hc3])) rfl) (ev (.bool (decide (70016 < ((text.length : Nat) : Int)))) rfl rfl)) ?_
  refine nt ?_
  refine c_if (p := 70016 < ((text.length : Nat) : Int)) (ev (.bool (decide (70016 < ((text.length : Nat) : Int)))) rfl rfl) (fun hc4 => ?_) (fun hc4 => ?_)
  ·skip
   refine sr ?_
   refine w_as (evc (.string (str ([] : List (BitVec 8))))) ?_
   refine w_as (evc (.int .i64 6)) ?_
   refine nt ?_
   refine wp_ret ?_
   refine then_r ?_
   refine fin_ret2 rfl (ev (.string (str ([] : List (BitVec 8)))) rfl rfl) (ev (.int .i64 6) rfl rfl) ?_
   exact ⟨rfl, hk⟩
  ·skip
   refine wp_skip ?_
   refine then_n ?_
   refine wp_seq ?_
   exfalso; omega

set_option maxRecDepth 100000 in
set_option maxHeartbeats 1000000 in
theorem refUnchain_k (key vi : List (BitVec 8)) (hok : ¬ Aes.okKey key.length) (text : List (BitVec 8)) (w0 : World) : Calls Try.prog 27 #[.string (str key), .string (str vi), .string (str text)] w0 fun e w' => e = .returned (.tuple #[.string (str ([] : List (BitVec 8))), .int .i64 3]) ∧ Below w0.heap.size w0 w' := by
 refine enter (n := 56) Try.func27 rfl rfl rfl ?_
 have hk : Below w0.heap.size w0 w0 := Below.refl _ _
 refine sr ?_
 refine w_as (evc (.string (str ([] : List (BitVec 8))))) ?_
 refine w_as (evc (.int .i64 0)) ?_
 refine nt ?_
 refine wp_seq ?_
 refine sr ?_
 refine w_mv (ev (.string (str key)) rfl rfl) ?_
 refine w_mv (ev (.string (str vi)) rfl rfl) ?_
 refine w_call (Try.func55) (by kernel_rfl) rfl (m2 (ev (.string (str key)) rfl rfl) (ev (.string (str vi)) rfl rfl)) (refWrong_k key vi hok w0) ?_
 rintro _ w1 ⟨rfl, hb2⟩
 refine ⟨_, rfl, ?_⟩
 replace hk := thenB hk hb2
 refine w_as (ev (.int .i64 3) rfl rfl) ?_
 refine nt ?_
 refine sr ?_
 refine w_mv (ev (.int .i64 3) rfl rfl) ?_
 refine w_val (y_bin (ev (.int .i64 3) rfl rfl) (evc (.int .i64 0)) b_neq) ?_
 refine nt ?_
 refine c_tt (ev (.bool true) rfl rfl) ?_
 refine sr ?_
 refine w_mv (ev (.int .i64 3) rfl rfl) ?_
 refine w_as (evc (.string (str ([] : List (BitVec 8))))) ?_
 refine w_as (ev (.int .i64 3) rfl rfl) ?_
 refine nt ?_
 refine wp_ret ?_
 refine then_r ?_
 refine fin_ret2 rfl (ev (.string (str ([] : List (BitVec 8)))) rfl rfl) (ev (.int .i64 3) rfl rfl) ?_
 exact ⟨rfl, hk⟩

set_option maxRecDepth 100000 in
set_option maxHeartbeats 1000000 in
theorem refUnchain_i (key vi : List (BitVec 8)) (hok : Aes.okKey key.length) (hiv : vi.length ≠ 16) (text : List (BitVec 8)) (w0 : World) : Calls Try.prog 27 #[.string (str key), .string (str vi), .string (str text)] w0 fun e w' => e = .returned (.tuple #[.string (str ([] : List (BitVec 8))), .int .i64 4]) ∧ Below w0.heap.size w0 w' := by
 refine enter (n := 56) Try.func27 rfl rfl rfl ?_
 have hk : Below w0.heap.size w0 w0 := Below.refl _ _
 refine sr ?_
 refine w_as (evc (.string (str ([] : List (BitVec 8))))) ?_
 refine w_as (evc (.int .i64 0)) ?_
 refine nt ?_
 refine wp_seq ?_
 refine sr ?_
 refine w_mv (ev (.string (str key)) rfl rfl) ?_
 refine w_mv (ev (.string (str vi)) rfl rfl) ?_
 refine w_call (Try.func55) (by kernel_rfl) rfl (m2 (ev (.string (str key)) rfl rfl) (ev (.string (str vi)) rfl rfl)) (refWrong_i key vi hok hiv w0) ?_
 rintro _ w1 ⟨rfl, hb2⟩
 refine ⟨_, rfl, ?_⟩
 replace hk := thenB hk hb2
 refine w_as (ev (.int .i64 4) rfl rfl) ?_
 refine nt ?_
 refine sr ?_
 refine w_mv (ev (.int .i64 4) rfl rfl) ?_
 refine w_val (y_bin (ev (.int .i64 4) rfl rfl) (evc (.int .i64 0)) b_neq) ?_
 refine nt ?_
 refine c_tt (ev (.bool true) rfl rfl) ?_
 refine sr ?_
 refine w_mv (ev (.int .i64 4) rfl rfl) ?_
 refine w_as (evc (.string (str ([] : List (BitVec 8))))) ?_
 refine w_as (ev (.int .i64 4) rfl rfl) ?_
 refine nt ?_
 refine wp_ret ?_
 refine then_r ?_
 refine fin_ret2 rfl (ev (.string (str ([] : List (BitVec 8)))) rfl rfl) (ev (.int .i64 4) rfl rfl) ?_
 exact ⟨rfl, hk⟩

set_option maxRecDepth 100000 in
set_option maxHeartbeats 1000000 in
theorem refUnchain_s (key vi : List (BitVec 8)) (hok : Aes.okKey key.length) (hiv : vi.length = 16) (text : List (BitVec 8)) (hs : ¬ (text.length % 16 = 0 ∧ text.length ≤ 70016)) (w0 : World) : Calls Try.prog 27 #[.string (str key), .string (str vi), .string (str text)] w0 fun e w' => e = .returned (.tuple #[.string (str ([] : List (BitVec 8))), .int .i64 6]) ∧ Below w0.heap.size w0 w' := by
 refine enter (n := 56) Try.func27 rfl rfl rfl ?_
 have hk : Below w0.heap.size w0 w0 := Below.refl _ _
 refine sr ?_
 refine w_as (evc (.string (str ([] : List (BitVec 8))))) ?_
 refine w_as (evc (.int .i64 0)) ?_
 refine nt ?_
 refine wp_seq ?_
 refine sr ?_
 refine w_mv (ev (.string (str key)) rfl rfl) ?_
 refine w_mv (ev (.string (str vi)) rfl rfl) ?_
 refine w_call (Try.func55) (by kernel_rfl) rfl (m2 (ev (.string (str key)) rfl rfl) (ev (.string (str vi)) rfl rfl)) (refWrong_y key vi hok hiv w0) ?_
 rintro _ w1 ⟨rfl, hb2⟩
 refine ⟨_, rfl, ?_⟩
 replace hk := thenB hk hb2
 refine w_as (ev (.int .i64 0) rfl rfl) ?_
 refine nt ?_
 refine sr ?_
 refine w_mv (ev (.int .i64 0) rfl rfl) ?_
 refine w_val (y_bin (ev (.int .i64 0) rfl rfl) (evc (.int .i64 0)) b_neq) ?_
 refine nt ?_
 refine c_ff (ev (.bool false) rfl rfl) ?_
 refine wp_skip ?_
 refine then_n ?_
 refine wp_seq ?_
 refine sr ?_
 refine w_mv (ev (.string (str text)) rfl rfl) ?_
 refine w_val (y_len (ev (.string (str text)) rfl rfl) Try.underlying9) ?_
 refine w_val (y_bin (ev (.int .i64 ((text.length : Nat) : Int)) rfl rfl) (evc (.int .i64 16)) (b_rem (by omega))) ?_
 refine w_val (y_bin (ev (.int .i64 (((text.length : Nat) : Int) % 16)) rfl rfl) (evc (.int .i64 0)) b_neq) ?_
 refine w_mv (ev (.bool (decide ((((text.length : Nat) : Int) % 16) ≠ 0))) rfl rfl) ?_
 by_cases hc3 : (((text.length : Nat) : Int) % 16) ≠ 0
 ·skip
  first | with_reducible refine w_skip ?_ ?_ | refine w_skip ?_ ?_
  · exact want_no (j := 4) rfl rfl (ev (.bool true) (Eq.trans (b := .bool (decide ((((text.length : Nat) : Int) % 16) ≠ 0))) rfl (by rw [decide_eq_true hc3])) rfl) rfl
  first | with_reducible refine w_skip ?_ ?_ | refine w_skip ?_ ?_
  · exact want_no (j := 4) rfl rfl (ev (.bool true) (Eq.trans (b := .bool (decide ((((text.length : Nat) : Int) % 16) ≠ 0))) rfl (by rw [decide_eq_true hc3])) rfl) rfl
  first | with_reducible refine w_skip ?_ ?_ | refine w_skip ?_ ?_
  · exact want_no (j := 4) rfl rfl (ev (.bool true) (Eq.trans (b := .bool (decide ((((text.length : Nat) : Int) % 16) ≠ 0))) rfl (by rw [decide_eq_true hc3])) rfl) rfl
  refine w_val (y_pick_t (ev (.bool true) (Eq.trans (b := .bool (decide ((((text.length : Nat) : Int) % 16) ≠ 0))) rfl (by rw [decide_eq_true hc3])) rfl) (evc (.bool true))) ?_
  refine nt ?_
  refine c_tt (ev (.bool true) rfl rfl) ?_
  refine sr ?_
  refine w_as (evc (.string (str ([] : List (BitVec 8))))) ?_
  refine w_as (evc (.int .i64 6)) ?_
  refine nt ?_
  refine wp_ret ?_
  refine then_r ?_
  refine fin_ret2 rfl (ev (.string (str ([] : List (BitVec 8)))) rfl rfl) (ev (.int .i64 6) rfl rfl) ?_
  exact ⟨rfl, hk⟩
 ·skip
  refine w_val_g (v := .string (str text)) (want_yes (j := 4) rfl rfl (ev (.bool false) (Eq.trans (b := .bool (decide ((((text.length : Nat) : Int) % 16) ≠ 0))) rfl (by rw [decide_eq_false hc3])) rfl) rfl) (y_mv (ev (.string (str text)) rfl rfl)) ?_
  refine w_val_g (want_yes (j := 4) rfl rfl (ev (.bool false) (Eq.trans (b := .bool (decide ((((text.length : Nat) : Int) % 16) ≠ 0))) rfl (by rw [decide_eq_false hc3])) rfl) rfl) (y_len (ev (.string (str text)) rfl rfl) Try.underlying9) ?_
  refine w_val_g (want_yes (j := 4) rfl rfl (ev (.bool false) (Eq.trans (b := .bool (decide ((((text.length : Nat) : Int) % 16) ≠ 0))) rfl (by rw [decide_eq_false hc3])) rfl) rfl) (y_bin (ev (.int .i64 ((text.length : Nat) : Int)) rfl rfl) (evc (.int .i64 70016)) b_gtr) ?_
  refine w_val (y_pick_f (ev (.bool false) (Eq.trans (b := .bool (decide ((((text.length : Nat) : Int) % 16) ≠ 0))) rfl (by rw [decide_eq_false hc3])) rfl) (ev (.bool (decide (70016 < ((text.length : Nat) : Int)))) rfl rfl)) ?_
  refine nt ?_
  refine c_if (p := 70016 < ((text.length : Nat) : Int)) (ev (.bool (decide (70016 < ((text.length : Nat) : Int)))) rfl rfl) (fun hc4 => ?_) (fun hc4 => ?_)
  ·skip
   refine sr ?_
   refine w_as (evc (.string (str ([] : List (BitVec 8))))) ?_
   refine w_as (evc (.int .i64 6)) ?_
   refine nt ?_
   refine wp_ret ?_
   refine then_r ?_
   refine fin_ret2 rfl (ev (.string (str ([] : List (BitVec 8)))) rfl rfl) (ev (.int .i64 6) rfl rfl) ?_
   exact ⟨rfl, hk⟩
  ·skip
   refine wp_skip ?_
   refine then_n ?_
   refine wp_seq ?_
   exfalso; omega

set_option maxRecDepth 100000 in
set_option maxHeartbeats 1000000 in
theorem refChain_0 (key vi : List (BitVec 8)) (hok : Aes.okKey key.length) (hiv : vi.length = 16) (text : List (BitVec 8)) (h0 : text.length = 0) (w0 : World) : Calls Try.prog 25 #[.string (str key), .string (str vi), .string (str text)] w0 fun e w' => e = .returned (.tuple #[.string (str (Cb.chain key vi text)), .int .i64 0]) ∧ Below w0.heap.size w0 w' := by
 refine enter (n := 51) Try.func25 rfl rfl rfl ?_
 have hk : Below w0.heap.size w0 w0 := Below.refl _ _
 refine sr ?_
 refine w_as (evc (.string (str ([] : List (BitVec 8))))) ?_
 refine w_as (evc (.int .i64 0)) ?_
 refine nt ?_
 refine wp_seq ?_
 refine sr ?_
 refine w_mv (ev (.string (str key)) rfl rfl) ?_
 refine w_mv (ev (.string (str vi)) rfl rfl) ?_
 refine w_call (Try.func55) (by kernel_rfl) rfl (m2 (ev (.string (str key)) rfl rfl) (ev (.string (str vi)) rfl rfl)) (refWrong_y key vi hok hiv w0) ?_
 rintro _ w1 ⟨rfl, hb2⟩
 refine ⟨_, rfl, ?_⟩
 replace hk := thenB hk hb2
 refine w_as (ev (.int .i64 0) rfl rfl) ?_
 refine nt ?_
 refine sr ?_
 refine w_mv (ev (.int .i64 0) rfl rfl) ?_
 refine w_val (y_bin (ev (.int .i64 0) rfl rfl) (evc (.int .i64 0)) b_neq) ?_
 refine nt ?_
 refine c_ff (ev (.bool false) rfl rfl) ?_
 refine wp_skip ?_
 refine then_n ?_
 refine wp_seq ?_
 refine sr ?_
 refine w_mv (ev (.string (str text)) rfl rfl) ?_
 refine w_val (y_len (ev (.string (str text)) rfl rfl) Try.underlying9) ?_
 refine w_val (y_bin (ev (.int .i64 ((text.length : Nat) : Int)) rfl rfl) (evc (.int .i64 16)) (b_rem (by omega))) ?_
 refine w_val (y_bin (ev (.int .i64 (((text.length : Nat) : Int) % 16)) rfl rfl) (evc (.int .i64 0)) b_neq) ?_
 refine w_mv (ev (.bool (decide ((((text.length : Nat) : Int) % 16) ≠ 0))) rfl rfl) ?_
 have hc3 : ¬ ((((text.length : Nat) : Int) % 16) ≠ 0) := by omega
 refine w_val_g (v := .string (str text)) (want_yes (j := 4) rfl rfl (ev (.bool false) (Eq.trans (b := .bool (decide ((((text.length : Nat) : Int) % 16) ≠ 0))) rfl (by rw [decide_eq_false hc3])) rfl) rfl) (y_mv (ev (.string (str text)) rfl rfl)) ?_
 refine w_val_g (want_yes (j := 4) rfl rfl (ev (.bool false) (Eq.trans (b := .bool (decide ((((text.length : Nat) : Int) % 16) ≠ 0))) rfl (by rw [decide_eq_false hc3])) rfl) rfl) (y_len (ev (.string (str text)) rfl rfl) Try.underlying9) ?_
 refine w_val_g (want_yes (j := 4) rfl rfl (ev (.bool false) (Eq.trans (b := .bool (decide ((((text.length : Nat) : Int) % 16) ≠ 0))) rfl (by rw [decide_eq_false hc3])) rfl) rfl) (y_bin (ev (.int .i64 ((text.length : Nat) : Int)) rfl rfl) (evc (.int .i64 70016)) b_gtr) ?_
 refine w_val (y_pick_f (ev (.bool false) (Eq.trans (b := .bool (decide ((((text.length : Nat) : Int) % 16) ≠ 0))) rfl (by rw [decide_eq_false hc3])) rfl) (ev (.bool (decide (70016 < ((text.length : Nat) : Int)))) rfl rfl)) ?_
 refine nt ?_
 have hc4 : ¬ (70016 < ((text.length : Nat) : Int)) := by omega
 refine c_f (p := 70016 < ((text.length : Nat) : Int)) (ev (.bool (decide (70016 < ((text.length : Nat) : Int)))) rfl rfl) hc4 ?_
 refine wp_skip ?_
 refine then_n ?_
 refine sr ?_
 refine w_mv (ev (.string (str key)) rfl rfl) ?_
 refine w_call (Try.func56) (by kernel_rfl) rfl (m1 (ev (.string (str key)) rfl rfl)) (refNew_l key w1 hok) ?_
 rintro _ w5 ⟨bx, g, cap, rfl, hbn, hge_bx, hge_g, r_bx, r_g⟩
 refine ⟨_, rfl, ?_⟩
 have ge_bx : w0.heap.size ≤ bx := by have := hk.size; omega
 have ge_g : w0.heap.size ≤ g := by have := hk.size; omega
 replace hk := thenB hk hbn
 refine w_as (ev (pt bx 0) rfl rfl) ?_
 refine nt ?_
 refine sr ?_
 refine w_mv (ev (.string (str text)) rfl rfl) ?_
 refine w_call (Try.func57) (by kernel_rfl) rfl (m1 (ev (.string (str text)) rfl rfl)) (refBlocks_0 text (by omega) w5) ?_
 rintro _ w6 ⟨rfl, hb7⟩
 refine ⟨_, rfl, ?_⟩
 replace r_bx := r_bx.step hb7
 replace r_g := r_g.step hb7
 replace hk := thenB hk hb7
 refine w_as (ev (.slice none 0 0) rfl rfl) ?_
 refine nt ?_
 refine sr ?_
 refine w_as (evc (.slice none 0 0)) ?_
 refine nt ?_
 refine wp_seq ?_
 refine sr ?_
 refine w_as (evc (.int .i64 0)) ?_
 refine nt ?_
 refine wp_block ?_
 refine c_loop (fun dN aN wl => dN = 0 ∧ ∃ f8, aN = fr 51 f8 ∧ f8 0 = .string (str key) ∧ f8 2 = .string (str text) ∧ f8 6 = .string (str ([] : List (BitVec 8))) ∧ f8 7 = .int .i64 0 ∧ f8 8 = .int .i64 0 ∧ f8 9 = pt bx 0 ∧ f8 10 = .slice none 0 0 ∧ f8 11 = .slice none 0 0 ∧ f8 12 = .int .i64 0 ∧ Row wl bx 99 513 (fun j => if j < 256 then U8 (Aes.sb j) else if j < 512 then U8 (Aes.bk (j - 256)) else .slice (some ⟨g, 0, none⟩) ((Aes.words key).length) cap) ∧ Row wl g 102 ((Aes.words key).length * 4) (fun j => U8 (Aes.byteOf (Aes.gw (Aes.words key) (j / 4)) (j % 4))) ∧ Below w0.heap.size w0 wl) 0 ?_ ?_
 · exact ⟨rfl, _, rfl, rfl, rfl, rfl, rfl, rfl, rfl, rfl, rfl, rfl, r_bx, r_g, hk⟩
 ·skip
  clear r_bx r_g hk
  rintro _ _ w9 ⟨rfl, f8, rfl, s1_0, s1_2, s1_6, s1_7, s1_8, s1_9, s1_10, s1_11, s1_12, r_bx, r_g, hk⟩
  refine wp_seq ?_
  refine sr ?_
  refine w_mv (ev (.int .i64 0) s1_12 rfl) ?_
  refine w_mv (ev (.slice none 0 0) s1_10 rfl) ?_
  refine w_val (v := .int .i64 0) (y_len_sl (ev (.slice none 0 0) rfl rfl) Try.underlying68) ?_
  refine w_val (y_bin (ev (.int .i64 0) rfl rfl) (ev (.int .i64 0) rfl rfl) b_lss) ?_
  refine nt ?_
  refine c_ff (ev (.bool false) rfl rfl) ?_
  refine wp_exit ?_
  refine then_x ?_
  refine then_x ?_
  refine inb_x ?_
  refine then_n ?_
  refine sr ?_
  refine w_mv (ev (.slice none 0 0) s1_11 rfl) ?_
  refine w_val (v := .string (str ([] : List (BitVec 8)))) (y_str0 (ev (.slice none 0 0) rfl rfl) Try.underlying54 Try.underlying5 Try.underlying9) ?_
  refine w_as (ev (.string (str ([] : List (BitVec 8)))) rfl rfl) ?_
  refine w_as (evc (.int .i64 0)) ?_
  refine nt ?_
  refine wp_ret ?_
  refine fin_ret2 rfl (ev (.string (str ([] : List (BitVec 8)))) rfl rfl) (ev (.int .i64 0) rfl rfl) ?_
  refine ⟨congrArg Ending.returned ?_, hk⟩
  show (.tuple #[.string (str ([] : List (BitVec 8))), .int .i64 0] : Value) = .tuple #[.string (str (Cb.chain key vi text)), .int .i64 0]
  exact congrArg (fun l => Value.tuple #[.string (str l), .int .i64 0]) (List.eq_nil_of_length_eq_zero (by rw [Cb.chain_len]; exact h0)).symm

set_option maxRecDepth 100000 in
set_option maxHeartbeats 1000000 in
theorem refChain_y (key vi : List (BitVec 8)) (hok : Aes.okKey key.length) (hiv : vi.length = 16) (text : List (BitVec 8)) (ht : text.length % 16 = 0) (hl : text.length ≤ 70016) (h16 : 16 ≤ text.length) (w0 : World) : Calls Try.prog 25 #[.string (str key), .string (str vi), .string (str text)] w0 fun e w' => e = .returned (.tuple #[.string (str (Cb.chain key vi text)), .int .i64 0]) ∧ Below w0.heap.size w0 w' := by
 have hle := fun t => Cb.ch_len key vi text hok hiv t
 refine enter (n := 51) Try.func25 rfl rfl rfl ?_
 have hk : Below w0.heap.size w0 w0 := Below.refl _ _
 refine sr ?_
 refine w_as (evc (.string (str ([] : List (BitVec 8))))) ?_
 refine w_as (evc (.int .i64 0)) ?_
 refine nt ?_
 refine wp_seq ?_
 refine sr ?_
 refine w_mv (ev (.string (str key)) rfl rfl) ?_
 refine w_mv (ev (.string (str vi)) rfl rfl) ?_
 refine w_call (Try.func55) (by kernel_rfl) rfl (m2 (ev (.string (str key)) rfl rfl) (ev (.string (str vi)) rfl rfl)) (refWrong_y key vi hok hiv w0) ?_
 rintro _ w1 ⟨rfl, hb2⟩
 refine ⟨_, rfl, ?_⟩
 replace hk := thenB hk hb2
 refine w_as (ev (.int .i64 0) rfl rfl) ?_
 refine nt ?_
 refine sr ?_
 refine w_mv (ev (.int .i64 0) rfl rfl) ?_
 refine w_val (y_bin (ev (.int .i64 0) rfl rfl) (evc (.int .i64 0)) b_neq) ?_
 refine nt ?_
 refine c_ff (ev (.bool false) rfl rfl) ?_
 refine wp_skip ?_
 refine then_n ?_
 refine wp_seq ?_
 refine sr ?_
 refine w_mv (ev (.string (str text)) rfl rfl) ?_
 refine w_val (y_len (ev (.string (str text)) rfl rfl) Try.underlying9) ?_
 refine w_val (y_bin (ev (.int .i64 ((text.length : Nat) : Int)) rfl rfl) (evc (.int .i64 16)) (b_rem (by omega))) ?_
 refine w_val (y_bin (ev (.int .i64 (((text.length : Nat) : Int) % 16)) rfl rfl) (evc (.int .i64 0)) b_neq) ?_
 refine w_mv (ev (.bool (decide ((((text.length : Nat) : Int) % 16) ≠ 0))) rfl rfl) ?_
 have hc3 : ¬ ((((text.length : Nat) : Int) % 16) ≠ 0) := by omega
 refine w_val_g (v := .string (str text)) (want_yes (j := 4) rfl rfl (ev (.bool false) (Eq.trans (b := .bool (decide ((((text.length : Nat) : Int) % 16) ≠ 0))) rfl (by rw [decide_eq_false hc3])) rfl) rfl) (y_mv (ev (.string (str text)) rfl rfl)) ?_
 refine w_val_g (want_yes (j := 4) rfl rfl (ev (.bool false) (Eq.trans (b := .bool (decide ((((text.length : Nat) : Int) % 16) ≠ 0))) rfl (by rw [decide_eq_false hc3])) rfl) rfl) (y_len (ev (.string (str text)) rfl rfl) Try.underlying9) ?_
 refine w_val_g (want_yes (j := 4) rfl rfl (ev (.bool false) (Eq.trans (b := .bool (decide ((((text.length : Nat) : Int) % 16) ≠ 0))) rfl (by rw [decide_eq_false hc3])) rfl) rfl) (y_bin (ev (.int .i64 ((text.length : Nat) : Int)) rfl rfl) (evc (.int .i64 70016)) b_gtr) ?_
 refine w_val (y_pick_f (ev (.bool false) (Eq.trans (b := .bool (decide ((((text.length : Nat) : Int) % 16) ≠ 0))) rfl (by rw [decide_eq_false hc3])) rfl) (ev (.bool (decide (70016 < ((text.length : Nat) : Int)))) rfl rfl)) ?_
 refine nt ?_
 have hc4 : ¬ (70016 < ((text.length : Nat) : Int)) := by omega
 refine c_f (p := 70016 < ((text.length : Nat) : Int)) (ev (.bool (decide (70016 < ((text.length : Nat) : Int)))) rfl rfl) hc4 ?_
 refine wp_skip ?_
 refine then_n ?_
 refine sr ?_
 refine w_mv (ev (.string (str key)) rfl rfl) ?_
 refine w_call (Try.func56) (by kernel_rfl) rfl (m1 (ev (.string (str key)) rfl rfl)) (refNew_l key w1 hok) ?_
 rintro _ w5 ⟨bx, g, cap, rfl, hbn, hge_bx, hge_g, r_bx, r_g⟩
 refine ⟨_, rfl, ?_⟩
 have ge_bx : w0.heap.size ≤ bx := by have := hk.size; omega
 have ge_g : w0.heap.size ≤ g := by have := hk.size; omega
 replace hk := thenB hk hbn
 refine w_as (ev (pt bx 0) rfl rfl) ?_
 refine nt ?_
 refine sr ?_
 refine w_mv (ev (.string (str text)) rfl rfl) ?_
 refine w_call (Try.func57) (by kernel_rfl) rfl (m1 (ev (.string (str text)) rfl rfl)) (refBlocks_y text (by omega) (by omega) w5) ?_
 rintro _ w6 ⟨lb, capl, rfl, hge_lb, r_lb, hbl⟩
 refine ⟨_, rfl, ?_⟩
 have ne_bx_lb : bx ≠ lb := by have := r_bx.lt; omega
 have ne_g_lb : g ≠ lb := by have := r_g.lt; omega
 have ge_lb : w0.heap.size ≤ lb := by have := hk.size; omega
 replace r_bx := r_bx.step hbl
 replace r_g := r_g.step hbl
 replace hk := thenB hk hbl
 refine w_as (ev (.slice (some ⟨lb, 0, none⟩) (text.length / 16) capl) rfl rfl) ?_
 refine nt ?_
 refine sr ?_
 refine w_as (evc (.slice none 0 0)) ?_
 refine nt ?_
 refine wp_seq ?_
 refine sr ?_
 refine w_as (evc (.int .i64 0)) ?_
 refine nt ?_
 refine wp_block ?_
 refine c_loop (fun dN aN wl => ∃ (t : Nat) (vo : Value), dN = (text.length / 16 - t) ∧ ∃ f7, aN = fr 51 f7 ∧ (t ≤ text.length / 16) ∧ f7 0 = .string (str key) ∧ f7 1 = .string (str (Cb.ch key vi text t)) ∧ f7 2 = .string (str text) ∧ f7 6 = .string (str ([] : List (BitVec 8))) ∧ f7 7 = .int .i64 0 ∧ f7 8 = .int .i64 0 ∧ f7 9 = pt bx 0 ∧ f7 10 = .slice (some ⟨lb, 0, none⟩) (text.length / 16) capl ∧ f7 11 = vo ∧ f7 12 = .int .i64 ((t : Nat) : Int) ∧ Row wl bx 99 513 (fun j => if j < 256 then U8 (Aes.sb j) else if j < 512 then U8 (Aes.bk (j - 256)) else .slice (some ⟨g, 0, none⟩) ((Aes.words key).length) cap) ∧ Row wl g 102 ((Aes.words key).length * 4) (fun j => U8 (Aes.byteOf (Aes.gw (Aes.words key) (j / 4)) (j % 4))) ∧ Row wl lb 9 (text.length / 16 * 1) (fun j => .string (str (Cb.bk text j))) ∧ Own wl w0.heap.size 5 1 vo (16 * t) (fun j => U8 (gb (Cb.ch key vi text (j / 16 + 1)) (j % 16))) ∧ vo.ownBlock ≠ some bx ∧ vo.ownBlock ≠ some g ∧ vo.ownBlock ≠ some lb ∧ Below w0.heap.size w0 wl) (text.length / 16 - 0) ?_ ?_
 · exact ⟨0, (.slice none 0 0), rfl, _, rfl, iv, rfl, (Eq.trans (b := .string (str vi)) rfl (by rfl)), rfl, rfl, rfl, rfl, rfl, rfl, (etv (b := .slice none 0 0) rfl), (etv (b := .int .i64 0) rfl), r_bx, r_g, r_lb, Own.nil, (fun e => by cases e), (fun e => by cases e), (fun e => by cases e), hk⟩
 ·skip
  clear r_bx r_g r_lb hk
  rintro _ _ w8 ⟨t, vo, rfl, f7, rfl, i1_0, s1_0, s1_1, s1_2, s1_6, s1_7, s1_8, s1_9, s1_10, s1_11, s1_12, r_bx, r_g, r_lb, o_vo, no_vo_bx, no_vo_g, no_vo_lb, hk⟩
  have hE : (Aes.enc (Aes.words key) (Oct.xor (Cb.bk text t) (Cb.ch key vi text t))).length = 16 := Cb.enc_len key _ hok
  refine wp_seq ?_
  refine sr ?_
  refine w_mv (ev (.int .i64 ((t : Nat) : Int)) s1_12 rfl) ?_
  refine w_mv (ev (.slice (some ⟨lb, 0, none⟩) (text.length / 16) capl) s1_10 rfl) ?_
  refine w_val (v := .int .i64 (((text.length / 16) : Nat) : Int)) (y_len_sl (ev (.slice (some ⟨lb, 0, none⟩) (text.length / 16) capl) rfl rfl) Try.underlying68) ?_
  refine w_val (y_bin (ev (.int .i64 ((t : Nat) : Int)) rfl rfl) (ev (.int .i64 (((text.length / 16) : Nat) : Int)) rfl rfl) b_lss) ?_
  refine nt ?_
  refine c_if (p := ((t : Nat) : Int) < (((text.length / 16) : Nat) : Int)) (ev (.bool (decide (((t : Nat) : Int) < (((text.length / 16) : Nat) : Int)))) rfl rfl) (fun hc9 => ?_) (fun hc9 => ?_)
  ·skip
   refine wp_skip ?_
   refine then_n ?_
   refine wp_seq ?_
   refine wp_block ?_
   refine sr ?_
   refine w_mv (ev (pt bx 0) s1_9 rfl) ?_
   refine w_mv (ev (.slice (some ⟨lb, 0, none⟩) (text.length / 16) capl) s1_10 rfl) ?_
   refine w_mv (ev (.int .i64 ((t : Nat) : Int)) s1_12 rfl) ?_
   refine w_val (y_is1z (i := t) (ev (.slice (some ⟨lb, 0, none⟩) (text.length / 16) capl) rfl rfl) (ev (.int .i64 ((t : Nat) : Int)) rfl rfl) Try.underlying68 CbcDT.sz9 (by omega) (by omega)) ?_
   refine w_val (v := .string (str (Cb.bk text t))) (y_ld (ev (pt lb t) rfl rfl) CbcDT.sc9 (r_lb.val (by omega) rfl)) ?_
   refine w_mv (ev (.string (str (Cb.ch key vi text t))) s1_1 rfl) ?_
   refine w_call (Try.func59) (by kernel_rfl) rfl (m2 (ev (.string (str (Cb.bk text t))) rfl rfl) (ev (.string (str (Cb.ch key vi text t))) rfl rfl)) (refXor_c (Cb.bk text t) (Cb.ch key vi text t) (by rw [Cb.bk_len _ _ (by omega)]; omega) w8) ?_
   rintro _ w10 ⟨rfl, hb11⟩
   refine ⟨_, rfl, ?_⟩
   replace o_vo := o_vo.step hb11
   replace r_bx := r_bx.step hb11
   replace r_g := r_g.step hb11
   replace r_lb := r_lb.step hb11
   replace hk := thenB hk hb11
   refine w_call (Try.func58) (by kernel_rfl) rfl (m2 (ev (pt bx 0) rfl rfl) (ev (.string (str (Oct.xor (Cb.bk text t) (Cb.ch key vi text t)))) rfl rfl)) (refEnc_l bx g cap key (Oct.xor (Cb.bk text t) (Cb.ch key vi text t)) w10 hok (by rw [Oct.length_xor, Cb.bk_len _ _ (by omega), hle]; rfl) r_bx r_g) ?_
   rintro _ w12 ⟨rfl, hb13⟩
   refine ⟨_, rfl, ?_⟩
   replace o_vo := o_vo.step hb13
   replace r_bx := r_bx.step hb13
   replace r_g := r_g.step hb13
   replace r_lb := r_lb.step hb13
   replace hk := thenB hk hb13
   refine w_as (ev (.string (str (Aes.enc (Aes.words key) (Oct.xor (Cb.bk text t) (Cb.ch key vi text t))))) rfl rfl) ?_
   refine nt ?_
   refine wp_region_lit ?_
   refine w_mv (ev vo s1_11 rfl) ?_
   refine w_mv (ev (.string (str (Aes.enc (Aes.words key) (Oct.xor (Cb.bk text t) (Cb.ch key vi text t))))) rfl rfl) ?_
   refine w_apps (K0 := (16 * t)) (l := Aes.enc (Aes.words key) (Oct.xor (Cb.bk text t) (Cb.ch key vi text t))) (ev vo rfl rfl) (ev (.string (str (Aes.enc (Aes.words key) (Oct.xor (Cb.bk text t) (Cb.ch key vi text t))))) rfl rfl) Try.underlying54 Try.underlying9 (by kernel_rfl) o_vo hk.size (by omega) ?_
   intro v14 w15 o_v14 hg16 hv17
   have no_v14_bx := no_new no_vo_bx r_bx.lt hv17
   replace r_bx := r_bx.stepO hg16 no_vo_bx
   have no_v14_g := no_new no_vo_g r_g.lt hv17
   replace r_g := r_g.stepO hg16 no_vo_g
   have no_v14_lb := no_new no_vo_lb r_lb.lt hv17
   replace r_lb := r_lb.stepO hg16 no_vo_lb
   replace hk := thenO hk hg16 (fun g e => (o_vo.block_lt g e).2)
   clear o_vo
   refine w_as (ev v14 rfl rfl) ?_
   refine wpList_nil ?_
   refine inb_n ?_
   refine then_n ?_
   refine wp_region_lit ?_
   refine w_mv (ev (.int .i64 ((t : Nat) : Int)) s1_12 rfl) ?_
   refine w_val (y_bin (ev (.int .i64 ((t : Nat) : Int)) rfl rfl) (evc (.int .i64 1)) (b_add (by omega))) ?_
   refine w_as (ev (.int .i64 (((t : Nat) : Int) + 1)) rfl rfl) ?_
   refine wpList_nil ?_
   exact then_n ⟨_, (by omega), t + 1, v14, rfl, _, rfl, iv, s1_0, (Eq.trans (b := .string (str (Aes.enc (Aes.words key) (Oct.xor (Cb.bk text t) (Cb.ch key vi text t))))) rfl (by exact congrArg (fun l => Value.string (str l)) (by rw [Oct.xor_comm]; rfl))), s1_2, s1_6, s1_7, s1_8, s1_9, s1_10, rfl, (etv (b := .int .i64 (((t : Nat) : Int) + 1)) rfl), r_bx, r_g, r_lb, (own_n (o_v14.congr (fun j hj => by (try dsimp only); by_cases e : j < 16 * t * 1; (rw [if_pos e]); (rw [if_neg e, Oct.xor_comm, show j / 16 = t from by omega, show j % 16 = 0 + (j - 16 * t * 1) from by omega]; rfl))) (by omega)), no_v14_bx, no_v14_g, no_v14_lb, hk⟩
  ·skip
   refine wp_exit ?_
   refine then_x ?_
   refine then_x ?_
   refine inb_x ?_
   refine then_n ?_
   refine sr ?_
   refine w_mv (ev vo s1_11 rfl) ?_
   refine w_val (v := .string (str (Cb.chain key vi text))) (y_strown (l := Cb.chain key vi text) (ev vo rfl rfl) o_vo  (by exact (by rw [Cb.chain_len]; omega)) (fun j hj => by exact (by rw [Cb.gb_chain _ _ _ _ (by omega)])) Try.underlying54 Try.underlying5 Try.underlying9) ?_
   refine w_as (ev (.string (str (Cb.chain key vi text))) rfl rfl) ?_
   refine w_as (evc (.int .i64 0)) ?_
   refine nt ?_
   refine wp_ret ?_
   refine fin_ret2 rfl (ev (.string (str (Cb.chain key vi text))) rfl rfl) (ev (.int .i64 0) rfl rfl) ?_
   exact ⟨rfl, hk⟩

set_option maxRecDepth 100000 in
set_option maxHeartbeats 1000000 in
theorem refUnchain_y (key vi : List (BitVec 8)) (hok : Aes.okKey key.length) (hiv : vi.length = 16) (text : List (BitVec 8)) (ht : text.length % 16 = 0) (hl : text.length ≤ 70016) (w0 : World) : Calls Try.prog 27 #[.string (str key), .string (str vi), .string (str text)] w0 fun e w' => e = .returned (.tuple #[.string (str (Cb.unchain key vi text)), .int .i64 0]) ∧ Below w0.heap.size w0 w' := by
 have hlv : (vi ++ text).length = 16 + text.length := by rw [List.length_append]; omega
 refine enter (n := 56) Try.func27 rfl rfl rfl ?_
 have hk : Below w0.heap.size w0 w0 := Below.refl _ _
 refine sr ?_
 refine w_as (evc (.string (str ([] : List (BitVec 8))))) ?_
 refine w_as (evc (.int .i64 0)) ?_
 refine nt ?_
 refine wp_seq ?_
 refine sr ?_
 refine w_mv (ev (.string (str key)) rfl rfl) ?_
 refine w_mv (ev (.string (str vi)) rfl rfl) ?_
 refine w_call (Try.func55) (by kernel_rfl) rfl (m2 (ev (.string (str key)) rfl rfl) (ev (.string (str vi)) rfl rfl)) (refWrong_y key vi hok hiv w0) ?_
 rintro _ w1 ⟨rfl, hb2⟩
 refine ⟨_, rfl, ?_⟩
 replace hk := thenB hk hb2
 refine w_as (ev (.int .i64 0) rfl rfl) ?_
 refine nt ?_
 refine sr ?_
 refine w_mv (ev (.int .i64 0) rfl rfl) ?_
 refine w_val (y_bin (ev (.int .i64 0) rfl rfl) (evc (.int .i64 0)) b_neq) ?_
 refine nt ?_
 refine c_ff (ev (.bool false) rfl rfl) ?_
 refine wp_skip ?_
 refine then_n ?_
 refine wp_seq ?_
 refine sr ?_
 refine w_mv (ev (.string (str text)) rfl rfl) ?_
 refine w_val (y_len (ev (.string (str text)) rfl rfl) Try.underlying9) ?_
 refine w_val (y_bin (ev (.int .i64 ((text.length : Nat) : Int)) rfl rfl) (evc (.int .i64 16)) (b_rem (by omega))) ?_
 refine w_val (y_bin (ev (.int .i64 (((text.length : Nat) : Int) % 16)) rfl rfl) (evc (.int .i64 0)) b_neq) ?_
 refine w_mv (ev (.bool (decide ((((text.length : Nat) : Int) % 16) ≠ 0))) rfl rfl) ?_
 have hc3 : ¬ ((((text.length : Nat) : Int) % 16) ≠ 0) := by omega
 refine w_val_g (v := .string (str text)) (want_yes (j := 4) rfl rfl (ev (.bool false) (Eq.trans (b := .bool (decide ((((text.length : Nat) : Int) % 16) ≠ 0))) rfl (by rw [decide_eq_false hc3])) rfl) rfl) (y_mv (ev (.string (str text)) rfl rfl)) ?_
 refine w_val_g (want_yes (j := 4) rfl rfl (ev (.bool false) (Eq.trans (b := .bool (decide ((((text.length : Nat) : Int) % 16) ≠ 0))) rfl (by rw [decide_eq_false hc3])) rfl) rfl) (y_len (ev (.string (str text)) rfl rfl) Try.underlying9) ?_
 refine w_val_g (want_yes (j := 4) rfl rfl (ev (.bool false) (Eq.trans (b := .bool (decide ((((text.length : Nat) : Int) % 16) ≠ 0))) rfl (by rw [decide_eq_false hc3])) rfl) rfl) (y_bin (ev (.int .i64 ((text.length : Nat) : Int)) rfl rfl) (evc (.int .i64 70016)) b_gtr) ?_
 refine w_val (y_pick_f (ev (.bool false) (Eq.trans (b := .bool (decide ((((text.length : Nat) : Int) % 16) ≠ 0))) rfl (by rw [decide_eq_false hc3])) rfl) (ev (.bool (decide (70016 < ((text.length : Nat) : Int)))) rfl rfl)) ?_
 refine nt ?_
 have hc4 : ¬ (70016 < ((text.length : Nat) : Int)) := by omega
 refine c_f (p := 70016 < ((text.length : Nat) : Int)) (ev (.bool (decide (70016 < ((text.length : Nat) : Int)))) rfl rfl) hc4 ?_
 refine wp_skip ?_
 refine then_n ?_
 refine sr ?_
 refine w_mv (ev (.string (str key)) rfl rfl) ?_
 refine w_call (Try.func56) (by kernel_rfl) rfl (m1 (ev (.string (str key)) rfl rfl)) (refNew_l key w1 hok) ?_
 rintro _ w5 ⟨bx, g, cap, rfl, hbn, hge_bx, hge_g, r_bx, r_g⟩
 refine ⟨_, rfl, ?_⟩
 have ge_bx : w0.heap.size ≤ bx := by have := hk.size; omega
 have ge_g : w0.heap.size ≤ g := by have := hk.size; omega
 replace hk := thenB hk hbn
 refine w_as (ev (pt bx 0) rfl rfl) ?_
 refine nt ?_
 refine sr ?_
 refine w_mv (ev (.string (str vi)) rfl rfl) ?_
 refine w_mv (ev (.string (str text)) rfl rfl) ?_
 refine w_val (y_bin (ev (.string (str vi)) rfl rfl) (ev (.string (str text)) rfl rfl) (b_cat (by (try simp only [List.length_append]); omega))) ?_
 refine w_call (Try.func57) (by kernel_rfl) rfl (m1 (ev (.string (str (vi ++ text))) rfl rfl)) (refBlocks_y (vi ++ text) (by omega) (by omega) w5) ?_
 rintro _ w6 ⟨lb, capl, rfl, hge_lb, r_lb, hbl⟩
 refine ⟨_, rfl, ?_⟩
 have ne_bx_lb : bx ≠ lb := by have := r_bx.lt; omega
 have ne_g_lb : g ≠ lb := by have := r_g.lt; omega
 have ge_lb : w0.heap.size ≤ lb := by have := hk.size; omega
 replace r_bx := r_bx.step hbl
 replace r_g := r_g.step hbl
 replace hk := thenB hk hbl
 refine w_as (ev (.slice (some ⟨lb, 0, none⟩) ((vi ++ text).length / 16) capl) rfl rfl) ?_
 refine nt ?_
 refine sr ?_
 refine w_as (evc (.slice none 0 0)) ?_
 refine nt ?_
 refine wp_seq ?_
 refine sr ?_
 refine w_as (evc (.int .i64 1)) ?_
 refine nt ?_
 refine wp_block ?_
 refine c_loop (fun dN aN wl => ∃ (t : Nat) (vo : Value), dN = (text.length / 16 - t) ∧ ∃ f7, aN = fr 56 f7 ∧ (t ≤ text.length / 16) ∧ f7 0 = .string (str key) ∧ f7 1 = .string (str vi) ∧ f7 2 = .string (str text) ∧ f7 6 = .string (str ([] : List (BitVec 8))) ∧ f7 7 = .int .i64 0 ∧ f7 8 = .int .i64 0 ∧ f7 9 = pt bx 0 ∧ f7 10 = .slice (some ⟨lb, 0, none⟩) ((vi ++ text).length / 16) capl ∧ f7 11 = vo ∧ f7 12 = .int .i64 (((t + 1) : Nat) : Int) ∧ Row wl bx 99 513 (fun j => if j < 256 then U8 (Aes.sb j) else if j < 512 then U8 (Aes.bk (j - 256)) else .slice (some ⟨g, 0, none⟩) ((Aes.words key).length) cap) ∧ Row wl g 102 ((Aes.words key).length * 4) (fun j => U8 (Aes.byteOf (Aes.gw (Aes.words key) (j / 4)) (j % 4))) ∧ Row wl lb 9 ((vi ++ text).length / 16 * 1) (fun j => .string (str (Cb.bk (vi ++ text) j))) ∧ Own wl w0.heap.size 5 1 vo (16 * t) (fun j => U8 (gb (Cb.un key vi text (j / 16)) (j % 16))) ∧ vo.ownBlock ≠ some bx ∧ vo.ownBlock ≠ some g ∧ vo.ownBlock ≠ some lb ∧ Below w0.heap.size w0 wl) (text.length / 16 - 0) ?_ ?_
 · exact ⟨0, (.slice none 0 0), rfl, _, rfl, iv, rfl, rfl, rfl, rfl, rfl, rfl, rfl, rfl, (etv (b := .slice none 0 0) rfl), (Eq.trans (b := .int .i64 1) rfl (by rfl)), r_bx, r_g, r_lb, Own.nil, (fun e => by cases e), (fun e => by cases e), (fun e => by cases e), hk⟩
 ·skip
  clear r_bx r_g r_lb hk
  rintro _ _ w8 ⟨t, vo, rfl, f7, rfl, i1_0, s1_0, s1_1, s1_2, s1_6, s1_7, s1_8, s1_9, s1_10, s1_11, s1_12, r_bx, r_g, r_lb, o_vo, no_vo_bx, no_vo_g, no_vo_lb, hk⟩
  have hE : (Oct.xor (Aes.dec (Aes.words key) (Cb.bk (vi ++ text) (t + 1))) (Cb.bk (vi ++ text) ((t + 1) - 1))).length = 16 := by
    rw [Oct.length_xor, Cb.dec_len]
    exact congrArg (min 16) (Cb.bk_len (vi ++ text) t (by omega))
  refine wp_seq ?_
  refine sr ?_
  refine w_mv (ev (.int .i64 (((t + 1) : Nat) : Int)) s1_12 rfl) ?_
  refine w_mv (ev (.slice (some ⟨lb, 0, none⟩) ((vi ++ text).length / 16) capl) s1_10 rfl) ?_
  refine w_val (v := .int .i64 ((((vi ++ text).length / 16) : Nat) : Int)) (y_len_sl (ev (.slice (some ⟨lb, 0, none⟩) ((vi ++ text).length / 16) capl) rfl rfl) Try.underlying68) ?_
  refine w_val (y_bin (ev (.int .i64 (((t + 1) : Nat) : Int)) rfl rfl) (ev (.int .i64 ((((vi ++ text).length / 16) : Nat) : Int)) rfl rfl) b_lss) ?_
  refine nt ?_
  refine c_if (p := (((t + 1) : Nat) : Int) < ((((vi ++ text).length / 16) : Nat) : Int)) (ev (.bool (decide ((((t + 1) : Nat) : Int) < ((((vi ++ text).length / 16) : Nat) : Int)))) rfl rfl) (fun hc9 => ?_) (fun hc9 => ?_)
  ·skip
   refine wp_skip ?_
   refine then_n ?_
   refine wp_seq ?_
   refine wp_block ?_
   refine region_dc (Nat.testBit 24576) 15 CbcDT.mixed rfl ?_
   intro w10 hb11
   replace o_vo := o_vo.step hb11
   replace r_bx := r_bx.step hb11
   replace r_g := r_g.step hb11
   replace r_lb := r_lb.step hb11
   replace hk := thenB hk hb11
   have hS : Cls w10 w10 := Below.refl _ _
   refine d_pure (v := vo) 0 rfl (by kernel_rfl) (by kernel_rfl) (by kernel_rfl) (by kernel_rfl) (fun _ _ _ h => h) (fun w' => y_mv (ev vo s1_11 rfl)) ?_
   refine d_pure (v := pt bx 0) 1 rfl (by kernel_rfl) (by kernel_rfl) (by kernel_rfl) (by kernel_rfl) (fun _ _ _ h => h) (fun w' => y_mv (ev (pt bx 0) s1_9 rfl)) ?_
   refine d_pure (v := .slice (some ⟨lb, 0, none⟩) ((vi ++ text).length / 16) capl) 2 rfl (by kernel_rfl) (by kernel_rfl) (by kernel_rfl) (by kernel_rfl) (fun _ _ _ h => h) (fun w' => y_mv (ev (.slice (some ⟨lb, 0, none⟩) ((vi ++ text).length / 16) capl) s1_10 rfl)) ?_
   refine d_pure (v := .int .i64 (((t + 1) : Nat) : Int)) 3 rfl (by kernel_rfl) (by kernel_rfl) (by kernel_rfl) (by kernel_rfl) (fun _ _ _ h => h) (fun w' => y_mv (ev (.int .i64 (((t + 1) : Nat) : Int)) s1_12 rfl)) ?_
   refine d_pure (v := pt lb (t + 1)) 4 rfl (by kernel_rfl) (by kernel_rfl) (by kernel_rfl) (by kernel_rfl) (fun _ _ _ h => h) (fun w' => y_is1z (i := (t + 1)) (ev (.slice (some ⟨lb, 0, none⟩) ((vi ++ text).length / 16) capl) rfl rfl) (ev (.int .i64 (((t + 1) : Nat) : Int)) rfl rfl) Try.underlying68 CbcDT.sz9 (by omega) (by omega)) ?_
   refine d_take (v := .string (str (Cb.bk (vi ++ text) (t + 1)))) 5 (Nat.testBit 28768) rfl (by kernel_rfl) (by kernel_rfl) (by kernel_rfl) (by kernel_rfl) (by kernel_rfl) (by kernel_rfl) (fun _ _ _ h => h) hS (fun w' hw' => y_ld (ev (pt lb (t + 1)) rfl rfl) CbcDT.sc9 (cls_cell (r_lb.val (by omega) rfl) r_lb.lt w' hw')) ?_
   refine d_pure (v := .slice (some ⟨lb, 0, none⟩) ((vi ++ text).length / 16) capl) 7 rfl (by kernel_rfl) (by kernel_rfl) (by kernel_rfl) (by kernel_rfl) (fun _ _ _ h => h) (fun w' => y_mv (ev (.slice (some ⟨lb, 0, none⟩) ((vi ++ text).length / 16) capl) s1_10 rfl)) ?_
   refine d_pure (v := .int .i64 (((t + 1) : Nat) : Int)) 8 rfl (by kernel_rfl) (by kernel_rfl) (by kernel_rfl) (by kernel_rfl) (fun _ _ _ h => h) (fun w' => y_mv (ev (.int .i64 (((t + 1) : Nat) : Int)) s1_12 rfl)) ?_
   refine d_pure (v := .int .i64 ((((t + 1) : Nat) : Int) - 1)) 9 rfl (by kernel_rfl) (by kernel_rfl) (by kernel_rfl) (by kernel_rfl) (fun _ _ _ h => h) (fun w' => y_bin (ev (.int .i64 (((t + 1) : Nat) : Int)) rfl rfl) (evc (.int .i64 1)) (b_sub (by omega))) ?_
   refine d_pure (v := pt lb ((t + 1) - 1)) 10 rfl (by kernel_rfl) (by kernel_rfl) (by kernel_rfl) (by kernel_rfl) (fun _ _ _ h => h) (fun w' => y_is1z (i := ((t + 1) - 1)) (ev (.slice (some ⟨lb, 0, none⟩) ((vi ++ text).length / 16) capl) rfl rfl) (ev (.int .i64 ((((t + 1) : Nat) : Int) - 1)) rfl rfl) Try.underlying68 CbcDT.sz9 (by omega) (by omega)) ?_
   refine d_take (v := .string (str (Cb.bk (vi ++ text) ((t + 1) - 1)))) 11 (Nat.testBit 30720) rfl (by kernel_rfl) (by kernel_rfl) (by kernel_rfl) (by kernel_rfl) (by kernel_rfl) (by kernel_rfl) (fun _ _ _ h => h) hS (fun w' hw' => y_ld (ev (pt lb ((t + 1) - 1)) rfl rfl) CbcDT.sc9 (cls_cell (r_lb.val (by omega) rfl) r_lb.lt w' hw')) ?_
   refine d_one 6 (by kernel_rfl) rfl ?_
   refine w_call (Try.func61) (by kernel_rfl) rfl (m2 (ev (pt bx 0) rfl rfl) (ev (.string (str (Cb.bk (vi ++ text) (t + 1)))) rfl rfl)) (refDec_l bx g cap key (Cb.bk (vi ++ text) (t + 1)) w10 hok (Cb.bk_len _ _ (by omega)) r_bx r_g) ?_
   rintro _ w12 ⟨rfl, hb13⟩
   refine ⟨_, rfl, ?_⟩
   replace o_vo := o_vo.step hb13
   replace r_bx := r_bx.step hb13
   replace r_g := r_g.step hb13
   replace r_lb := r_lb.step hb13
   replace hk := thenB hk hb13
   replace hS := thenB hS hb13
   refine wpList_nil ?_
   refine then_n ⟨fun _ h => thenB h (by assumption), ?_⟩
   refine d_one 12 (by kernel_rfl) rfl ?_
   refine w_call (Try.func59) (by kernel_rfl) rfl (m2 (ev (.string (str (Aes.dec (Aes.words key) (Cb.bk (vi ++ text) (t + 1))))) rfl rfl) (ev (.string (str (Cb.bk (vi ++ text) ((t + 1) - 1)))) rfl rfl)) (refXor_c (Aes.dec (Aes.words key) (Cb.bk (vi ++ text) (t + 1))) (Cb.bk (vi ++ text) ((t + 1) - 1)) (by rw [Cb.dec_len]; omega) w12) ?_
   rintro _ w14 ⟨rfl, hb15⟩
   refine ⟨_, rfl, ?_⟩
   replace o_vo := o_vo.step hb15
   replace r_bx := r_bx.step hb15
   replace r_g := r_g.step hb15
   replace r_lb := r_lb.step hb15
   replace hk := thenB hk hb15
   replace hS := thenB hS hb15
   refine wpList_nil ?_
   refine then_n ⟨fun _ h => thenB h (by assumption), ?_⟩
   refine d_one 13 (by kernel_rfl) rfl ?_
   refine w_apps (K0 := (16 * t)) (l := Oct.xor (Aes.dec (Aes.words key) (Cb.bk (vi ++ text) (t + 1))) (Cb.bk (vi ++ text) ((t + 1) - 1))) (ev vo rfl rfl) (ev (.string (str (Oct.xor (Aes.dec (Aes.words key) (Cb.bk (vi ++ text) (t + 1))) (Cb.bk (vi ++ text) ((t + 1) - 1))))) rfl rfl) Try.underlying54 Try.underlying9 (by kernel_rfl) o_vo hk.size (by omega) ?_
   intro v16 w17 o_v16 hg18 hv19
   have no_v16_bx := no_new no_vo_bx r_bx.lt hv19
   replace r_bx := r_bx.stepO hg18 no_vo_bx
   have no_v16_g := no_new no_vo_g r_g.lt hv19
   replace r_g := r_g.stepO hg18 no_vo_g
   have no_v16_lb := no_new no_vo_lb r_lb.lt hv19
   replace r_lb := r_lb.stepO hg18 no_vo_lb
   replace hk := thenO hk hg18 (fun g e => (o_vo.block_lt g e).2)
   clear o_vo
   clear hS
   refine wpList_nil ?_
   refine then_n ⟨fun hD => absurd hD (by decide), ?_⟩
   refine d_one 14 (by kernel_rfl) rfl ?_
   refine w_as (ev v16 rfl rfl) ?_
   refine wpList_nil ?_
   refine then_n ⟨fun hD => absurd hD (by decide), ?_⟩
   refine d_done (by kernel_rfl) ?_
   refine inb_n ?_
   refine then_n ?_
   refine wp_region_lit ?_
   refine w_mv (ev (.int .i64 (((t + 1) : Nat) : Int)) s1_12 rfl) ?_
   refine w_val (y_bin (ev (.int .i64 (((t + 1) : Nat) : Int)) rfl rfl) (evc (.int .i64 1)) (b_add (by omega))) ?_
   refine w_as (ev (.int .i64 ((((t + 1) : Nat) : Int) + 1)) rfl rfl) ?_
   refine wpList_nil ?_
   exact then_n ⟨_, (by omega), t + 1, v16, rfl, _, rfl, iv, s1_0, s1_1, s1_2, s1_6, s1_7, s1_8, s1_9, s1_10, rfl, (Eq.trans (b := .int .i64 ((((t + 1) : Nat) : Int) + 1)) rfl (by congr 1)), r_bx, r_g, r_lb, (own_n (o_v16.congr (fun j hj => by (try dsimp only); by_cases e : j < 16 * t * 1; (rw [if_pos e]); (rw [if_neg e, show j / 16 = t from by omega, show j % 16 = 0 + (j - 16 * t * 1) from by omega]; rfl))) (by omega)), no_v16_bx, no_v16_g, no_v16_lb, hk⟩
  ·skip
   refine wp_exit ?_
   refine then_x ?_
   refine then_x ?_
   refine inb_x ?_
   refine then_n ?_
   refine sr ?_
   refine w_mv (ev vo s1_11 rfl) ?_
   refine w_val (v := .string (str (Cb.unchain key vi text))) (y_strown (l := Cb.unchain key vi text) (ev vo rfl rfl) o_vo  (by exact (by rw [Cb.unchain_len]; omega)) (fun j hj => by exact (by rw [Cb.gb_unchain _ _ _ _ (by omega)])) Try.underlying54 Try.underlying5 Try.underlying9) ?_
   refine w_as (ev (.string (str (Cb.unchain key vi text))) rfl rfl) ?_
   refine w_as (evc (.int .i64 0)) ?_
   refine nt ?_
   refine wp_ret ?_
   refine fin_ret2 rfl (ev (.string (str (Cb.unchain key vi text))) rfl rfl) (ev (.int .i64 0) rfl rfl) ?_
   exact ⟨rfl, hk⟩
end Go.Proofs.Ytjdcpejcnmpiaaa
