/-
  What is wrong, numbers, counters, what goes through the chain: by the reference. Conditions as each says.
-/
import Derived.Test.YtjdcpejcnmpiaaaRows
import Derived.Test.YtjdcpejcnmpiaaaGenSl
import Derived.Test.YtjdcpejcnmpiaaaOctW
import Derived.Test.YtjdcpejcnmpiaaaCcmPlain
import Derived.ProofKit
namespace Go.Proofs.Ytjdcpejcnmpiaaa
open Go.RowKit
set_option linter.unusedSimpArgs false
set_option linter.unusedVariables false
namespace CcmDT
theorem mixed : Try.prog.follows .mixedOrders = true := by kernel_rfl
theorem so129 : (Try.prog.underlying 129).isSome = true := by rw [Try.underlying129]; rfl
theorem so3 : (Try.prog.underlying 3).isSome = true := by rw [Try.underlying3]; rfl
end CcmDT
set_option maxRecDepth 100000 in
set_option maxHeartbeats 1000000 in
theorem cmRefWrong_k (key nonce aad : List (BitVec 8)) (n : Int) (size : Int) (hok : ¬ Aes.okKey key.length) (w0 : World) : Calls Try.prog 73 #[.string (str key), .string (str nonce), .string (str aad), .int .i64 n, .int .i64 size] w0 fun e w' => e = .returned (.int .i64 3) ∧ Below w0.heap.size w0 w' := by
 refine enter (n := 57) Try.func73 rfl rfl rfl ?_
 have hk : Below w0.heap.size w0 w0 := Below.refl _ _
 refine sr ?_
 refine w_as (evc (.int .i64 0)) ?_
 refine nt ?_
 refine wp_seq ?_
 refine wp_block ?_
 refine sr ?_
 refine w_mv (ev (.string (str key)) rfl rfl) ?_
 refine w_call (Try.func64) (by kernel_rfl) rfl (m1 (ev (.string (str key)) rfl rfl)) (right_l_no key w0 hok) ?_
 rintro _ _ ⟨rfl, rfl⟩
 refine ⟨_, rfl, ?_⟩
 refine w_val (y_not (ev (.bool false) rfl rfl)) ?_
 refine w_as (ev (.bool true) rfl rfl) ?_
 refine nt ?_
 refine c_tt (ev (.bool true) rfl rfl) ?_
 refine sr ?_
 refine w_as (evc (.int .i64 3)) ?_
 refine nt ?_
 refine wp_ret ?_
 refine inb_r ?_
 refine then_r ?_
 refine fin_ret1 rfl (ev (.int .i64 3) rfl rfl) ?_
 exact ⟨rfl, hk⟩

set_option maxRecDepth 100000 in
set_option maxHeartbeats 1000000 in
theorem cmRefWrong_n (key nonce aad : List (BitVec 8)) (n : Int) (size : Int) (hok : Aes.okKey key.length) (hn : ¬ (7 ≤ nonce.length ∧ nonce.length ≤ 13)) (w0 : World) : Calls Try.prog 73 #[.string (str key), .string (str nonce), .string (str aad), .int .i64 n, .int .i64 size] w0 fun e w' => e = .returned (.int .i64 4) ∧ Below w0.heap.size w0 w' := by
 refine enter (n := 57) Try.func73 rfl rfl rfl ?_
 have hk : Below w0.heap.size w0 w0 := Below.refl _ _
 refine sr ?_
 refine w_as (evc (.int .i64 0)) ?_
 refine nt ?_
 refine wp_seq ?_
 refine wp_block ?_
 refine sr ?_
 refine w_mv (ev (.string (str key)) rfl rfl) ?_
 refine w_call (Try.func64) (by kernel_rfl) rfl (m1 (ev (.string (str key)) rfl rfl)) (right_l key w0 hok) ?_
 rintro _ _ ⟨rfl, rfl⟩
 refine ⟨_, rfl, ?_⟩
 refine w_val (y_not (ev (.bool true) rfl rfl)) ?_
 refine w_as (ev (.bool false) rfl rfl) ?_
 refine nt ?_
 refine c_ff (ev (.bool false) rfl rfl) ?_
 refine sr ?_
 refine w_mv (ev (.string (str nonce)) rfl rfl) ?_
 refine w_val (y_len (ev (.string (str nonce)) rfl rfl) Try.underlying9) ?_
 refine w_val (y_bin (ev (.int .i64 ((nonce.length : Nat) : Int)) rfl rfl) (evc (.int .i64 7)) b_lss) ?_
 refine w_mv (ev (.bool (decide (((nonce.length : Nat) : Int) < 7))) rfl rfl) ?_
 by_cases hc2 : ((nonce.length : Nat) : Int) < 7
 ·skip
  first | with_reducible refine w_skip ?_ ?_ | refine w_skip ?_ ?_
  · exact want_no (j := 3) rfl rfl (ev (.bool true) (Eq.trans (b := .bool (decide (((nonce.length : Nat) : Int) < 7))) rfl (by rw [decide_eq_true hc2])) rfl) rfl
  first | with_reducible refine w_skip ?_ ?_ | refine w_skip ?_ ?_
  · exact want_no (j := 3) rfl rfl (ev (.bool true) (Eq.trans (b := .bool (decide (((nonce.length : Nat) : Int) < 7))) rfl (by rw [decide_eq_true hc2])) rfl) rfl
  first | with_reducible refine w_skip ?_ ?_ | refine w_skip ?_ ?_
  · exact want_no (j := 3) rfl rfl (ev (.bool true) (Eq.trans (b := .bool (decide (((nonce.length : Nat) : Int) < 7))) rfl (by rw [decide_eq_true hc2])) rfl) rfl
  refine w_val (y_pick_t (ev (.bool true) (Eq.trans (b := .bool (decide (((nonce.length : Nat) : Int) < 7))) rfl (by rw [decide_eq_true hc2])) rfl) (evc (.bool true))) ?_
  refine w_as (ev (.bool true) rfl rfl) ?_
  refine nt ?_
  refine c_tt (ev (.bool true) rfl rfl) ?_
  refine sr ?_
  refine w_as (evc (.int .i64 4)) ?_
  refine nt ?_
  refine wp_ret ?_
  refine inb_r ?_
  refine then_r ?_
  refine fin_ret1 rfl (ev (.int .i64 4) rfl rfl) ?_
  exact ⟨rfl, hk⟩
 ·skip
  refine w_val_g (v := .string (str nonce)) (want_yes (j := 3) rfl rfl (ev (.bool false) (Eq.trans (b := .bool (decide (((nonce.length : Nat) : Int) < 7))) rfl (by rw [decide_eq_false hc2])) rfl) rfl) (y_mv (ev (.string (str nonce)) rfl rfl)) ?_
  refine w_val_g (want_yes (j := 3) rfl rfl (ev (.bool false) (Eq.trans (b := .bool (decide (((nonce.length : Nat) : Int) < 7))) rfl (by rw [decide_eq_false hc2])) rfl) rfl) (y_len (ev (.string (str nonce)) rfl rfl) Try.underlying9) ?_
  refine w_val_g (want_yes (j := 3) rfl rfl (ev (.bool false) (Eq.trans (b := .bool (decide (((nonce.length : Nat) : Int) < 7))) rfl (by rw [decide_eq_false hc2])) rfl) rfl) (y_bin (ev (.int .i64 ((nonce.length : Nat) : Int)) rfl rfl) (evc (.int .i64 13)) b_gtr) ?_
  refine w_val (y_pick_f (ev (.bool false) (Eq.trans (b := .bool (decide (((nonce.length : Nat) : Int) < 7))) rfl (by rw [decide_eq_false hc2])) rfl) (ev (.bool (decide (13 < ((nonce.length : Nat) : Int)))) rfl rfl)) ?_
  refine w_as (ev (.bool (decide (13 < ((nonce.length : Nat) : Int)))) rfl rfl) ?_
  refine nt ?_
  refine c_if (p := 13 < ((nonce.length : Nat) : Int)) (ev (.bool (decide (13 < ((nonce.length : Nat) : Int)))) rfl rfl) (fun hc3 => ?_) (fun hc3 => ?_)
  ·skip
   refine sr ?_
   refine w_as (evc (.int .i64 4)) ?_
   refine nt ?_
   refine wp_ret ?_
   refine inb_r ?_
   refine then_r ?_
   refine fin_ret1 rfl (ev (.int .i64 4) rfl rfl) ?_
   exact ⟨rfl, hk⟩
  ·skip
   refine wp_seq ?_
   exfalso; omega

set_option maxRecDepth 100000 in
set_option maxHeartbeats 1000000 in
theorem cmRefWrong_t (key nonce aad : List (BitVec 8)) (n : Int) (size : Int) (hok : Aes.okKey key.length) (hn : 7 ≤ nonce.length ∧ nonce.length ≤ 13) (ht : ¬ (4 ≤ size ∧ size ≤ 16 ∧ size % 2 = 0)) (w0 : World) : Calls Try.prog 73 #[.string (str key), .string (str nonce), .string (str aad), .int .i64 n, .int .i64 size] w0 fun e w' => e = .returned (.int .i64 5) ∧ Below w0.heap.size w0 w' := by
 refine enter (n := 57) Try.func73 rfl rfl rfl ?_
 have hk : Below w0.heap.size w0 w0 := Below.refl _ _
 refine sr ?_
 refine w_as (evc (.int .i64 0)) ?_
 refine nt ?_
 refine wp_seq ?_
 refine wp_block ?_
 refine sr ?_
 refine w_mv (ev (.string (str key)) rfl rfl) ?_
 refine w_call (Try.func64) (by kernel_rfl) rfl (m1 (ev (.string (str key)) rfl rfl)) (right_l key w0 hok) ?_
 rintro _ _ ⟨rfl, rfl⟩
 refine ⟨_, rfl, ?_⟩
 refine w_val (y_not (ev (.bool true) rfl rfl)) ?_
 refine w_as (ev (.bool false) rfl rfl) ?_
 refine nt ?_
 refine c_ff (ev (.bool false) rfl rfl) ?_
 refine sr ?_
 refine w_mv (ev (.string (str nonce)) rfl rfl) ?_
 refine w_val (y_len (ev (.string (str nonce)) rfl rfl) Try.underlying9) ?_
 refine w_val (y_bin (ev (.int .i64 ((nonce.length : Nat) : Int)) rfl rfl) (evc (.int .i64 7)) b_lss) ?_
 refine w_mv (ev (.bool (decide (((nonce.length : Nat) : Int) < 7))) rfl rfl) ?_
 by_cases hc2 : ((nonce.length : Nat) : Int) < 7
 ·skip
  first | with_reducible refine w_skip ?_ ?_ | refine w_skip ?_ ?_
  · exact want_no (j := 3) rfl rfl (ev (.bool true) (Eq.trans (b := .bool (decide (((nonce.length : Nat) : Int) < 7))) rfl (by rw [decide_eq_true hc2])) rfl) rfl
  first | with_reducible refine w_skip ?_ ?_ | refine w_skip ?_ ?_
  · exact want_no (j := 3) rfl rfl (ev (.bool true) (Eq.trans (b := .bool (decide (((nonce.length : Nat) : Int) < 7))) rfl (by rw [decide_eq_true hc2])) rfl) rfl
  first | with_reducible refine w_skip ?_ ?_ | refine w_skip ?_ ?_
  · exact want_no (j := 3) rfl rfl (ev (.bool true) (Eq.trans (b := .bool (decide (((nonce.length : Nat) : Int) < 7))) rfl (by rw [decide_eq_true hc2])) rfl) rfl
  refine w_val (y_pick_t (ev (.bool true) (Eq.trans (b := .bool (decide (((nonce.length : Nat) : Int) < 7))) rfl (by rw [decide_eq_true hc2])) rfl) (evc (.bool true))) ?_
  refine w_as (ev (.bool true) rfl rfl) ?_
  refine nt ?_
  refine c_tt (ev (.bool true) rfl rfl) ?_
  refine sr ?_
  refine w_as (evc (.int .i64 4)) ?_
  refine nt ?_
  refine wp_ret ?_
  refine inb_r ?_
  refine then_r ?_
  refine fin_ret1 rfl (ev (.int .i64 4) rfl rfl) ?_
  refine ⟨congrArg Ending.returned ?_, hk⟩
  show (.int .i64 4 : Value) = .int .i64 5
  first | with_reducible rfl | (with_reducible congr 1 <;> omega) | (with_reducible congr 2 <;> omega) | (with_reducible congr 3 <;> omega) | rfl
 ·skip
  refine w_val_g (v := .string (str nonce)) (want_yes (j := 3) rfl rfl (ev (.bool false) (Eq.trans (b := .bool (decide (((nonce.length : Nat) : Int) < 7))) rfl (by rw [decide_eq_false hc2])) rfl) rfl) (y_mv (ev (.string (str nonce)) rfl rfl)) ?_
  refine w_val_g (want_yes (j := 3) rfl rfl (ev (.bool false) (Eq.trans (b := .bool (decide (((nonce.length : Nat) : Int) < 7))) rfl (by rw [decide_eq_false hc2])) rfl) rfl) (y_len (ev (.string (str nonce)) rfl rfl) Try.underlying9) ?_
  refine w_val_g (want_yes (j := 3) rfl rfl (ev (.bool false) (Eq.trans (b := .bool (decide (((nonce.length : Nat) : Int) < 7))) rfl (by rw [decide_eq_false hc2])) rfl) rfl) (y_bin (ev (.int .i64 ((nonce.length : Nat) : Int)) rfl rfl) (evc (.int .i64 13)) b_gtr) ?_
  refine w_val (y_pick_f (ev (.bool false) (Eq.trans (b := .bool (decide (((nonce.length : Nat) : Int) < 7))) rfl (by rw [decide_eq_false hc2])) rfl) (ev (.bool (decide (13 < ((nonce.length : Nat) : Int)))) rfl rfl)) ?_
  refine w_as (ev (.bool (decide (13 < ((nonce.length : Nat) : Int)))) rfl rfl) ?_
  refine nt ?_
  refine c_if (p := 13 < ((nonce.length : Nat) : Int)) (ev (.bool (decide (13 < ((nonce.length : Nat) : Int)))) rfl rfl) (fun hc3 => ?_) (fun hc3 => ?_)
  ·skip
   refine sr ?_
   refine w_as (evc (.int .i64 4)) ?_
   refine nt ?_
   refine wp_ret ?_
   refine inb_r ?_
   refine then_r ?_
   refine fin_ret1 rfl (ev (.int .i64 4) rfl rfl) ?_
   refine ⟨congrArg Ending.returned ?_, hk⟩
   show (.int .i64 4 : Value) = .int .i64 5
   first | with_reducible rfl | (with_reducible congr 1 <;> omega) | (with_reducible congr 2 <;> omega) | (with_reducible congr 3 <;> omega) | rfl
  ·skip
   refine sr ?_
   refine w_mv (ev (.int .i64 size) rfl rfl) ?_
   refine w_val (y_bin (ev (.int .i64 size) rfl rfl) (evc (.int .i64 4)) b_lss) ?_
   refine w_mv (ev (.bool (decide (size < 4))) rfl rfl) ?_
   by_cases hc4 : size < 4
   ·skip
    first | with_reducible refine w_skip ?_ ?_ | refine w_skip ?_ ?_
    · exact want_no (j := 2) rfl rfl (ev (.bool true) (Eq.trans (b := .bool (decide (size < 4))) rfl (by rw [decide_eq_true hc4])) rfl) rfl
    first | with_reducible refine w_skip ?_ ?_ | refine w_skip ?_ ?_
    · exact want_no (j := 2) rfl rfl (ev (.bool true) (Eq.trans (b := .bool (decide (size < 4))) rfl (by rw [decide_eq_true hc4])) rfl) rfl
    refine w_val (y_pick_t (ev (.bool true) (Eq.trans (b := .bool (decide (size < 4))) rfl (by rw [decide_eq_true hc4])) rfl) (evc (.bool true))) ?_
    refine w_mv (ev (.bool true) rfl rfl) ?_
    first | with_reducible refine w_skip ?_ ?_ | refine w_skip ?_ ?_
    · exact want_no (j := 6) rfl rfl (ev (.bool true) rfl rfl) rfl
    first | with_reducible refine w_skip ?_ ?_ | refine w_skip ?_ ?_
    · exact want_no (j := 6) rfl rfl (ev (.bool true) rfl rfl) rfl
    first | with_reducible refine w_skip ?_ ?_ | refine w_skip ?_ ?_
    · exact want_no (j := 6) rfl rfl (ev (.bool true) rfl rfl) rfl
    refine w_val (y_pick_t (ev (.bool true) rfl rfl) (evc (.bool true))) ?_
    refine w_as (ev (.bool true) rfl rfl) ?_
    refine nt ?_
    refine c_tt (ev (.bool true) rfl rfl) ?_
    refine sr ?_
    refine w_as (evc (.int .i64 5)) ?_
    refine nt ?_
    refine wp_ret ?_
    refine inb_r ?_
    refine then_r ?_
    refine fin_ret1 rfl (ev (.int .i64 5) rfl rfl) ?_
    exact ⟨rfl, hk⟩
   ·skip
    refine w_val_g (v := .int .i64 size) (want_yes (j := 2) rfl rfl (ev (.bool false) (Eq.trans (b := .bool (decide (size < 4))) rfl (by rw [decide_eq_false hc4])) rfl) rfl) (y_mv (ev (.int .i64 size) rfl rfl)) ?_
    refine w_val_g (want_yes (j := 2) rfl rfl (ev (.bool false) (Eq.trans (b := .bool (decide (size < 4))) rfl (by rw [decide_eq_false hc4])) rfl) rfl) (y_bin (ev (.int .i64 size) rfl rfl) (evc (.int .i64 16)) b_gtr) ?_
    refine w_val (y_pick_f (ev (.bool false) (Eq.trans (b := .bool (decide (size < 4))) rfl (by rw [decide_eq_false hc4])) rfl) (ev (.bool (decide (16 < size))) rfl rfl)) ?_
    refine w_mv (ev (.bool (decide (16 < size))) rfl rfl) ?_
    by_cases hc5 : 16 < size
    ·skip
     first | with_reducible refine w_skip ?_ ?_ | refine w_skip ?_ ?_
     · exact want_no (j := 6) rfl rfl (ev (.bool true) (Eq.trans (b := .bool (decide (16 < size))) rfl (by rw [decide_eq_true hc5])) rfl) rfl
     first | with_reducible refine w_skip ?_ ?_ | refine w_skip ?_ ?_
     · exact want_no (j := 6) rfl rfl (ev (.bool true) (Eq.trans (b := .bool (decide (16 < size))) rfl (by rw [decide_eq_true hc5])) rfl) rfl
     first | with_reducible refine w_skip ?_ ?_ | refine w_skip ?_ ?_
     · exact want_no (j := 6) rfl rfl (ev (.bool true) (Eq.trans (b := .bool (decide (16 < size))) rfl (by rw [decide_eq_true hc5])) rfl) rfl
     refine w_val (y_pick_t (ev (.bool true) (Eq.trans (b := .bool (decide (16 < size))) rfl (by rw [decide_eq_true hc5])) rfl) (evc (.bool true))) ?_
     refine w_as (ev (.bool true) rfl rfl) ?_
     refine nt ?_
     refine c_tt (ev (.bool true) rfl rfl) ?_
     refine sr ?_
     refine w_as (evc (.int .i64 5)) ?_
     refine nt ?_
     refine wp_ret ?_
     refine inb_r ?_
     refine then_r ?_
     refine fin_ret1 rfl (ev (.int .i64 5) rfl rfl) ?_
     exact ⟨rfl, hk⟩
    ·skip
     refine w_val_g (v := .int .i64 size) (want_yes (j := 6) rfl rfl (ev (.bool false) (Eq.trans (b := .bool (decide (16 < size))) rfl (by rw [decide_eq_false hc5])) rfl) rfl) (y_mv (ev (.int .i64 size) rfl rfl)) ?_
     refine w_val_g (want_yes (j := 6) rfl rfl (ev (.bool false) (Eq.trans (b := .bool (decide (16 < size))) rfl (by rw [decide_eq_false hc5])) rfl) rfl) (y_bin (ev (.int .i64 size) rfl rfl) (evc (.int .i64 2)) (b_rem (by omega))) ?_
     refine w_val_g (want_yes (j := 6) rfl rfl (ev (.bool false) (Eq.trans (b := .bool (decide (16 < size))) rfl (by rw [decide_eq_false hc5])) rfl) rfl) (y_bin (ev (.int .i64 (size % 2)) rfl rfl) (evc (.int .i64 0)) b_neq) ?_
     refine w_val (y_pick_f (ev (.bool false) (Eq.trans (b := .bool (decide (16 < size))) rfl (by rw [decide_eq_false hc5])) rfl) (ev (.bool (decide ((size % 2) ≠ 0))) rfl rfl)) ?_
     refine w_as (ev (.bool (decide ((size % 2) ≠ 0))) rfl rfl) ?_
     refine nt ?_
     refine c_if (p := (size % 2) ≠ 0) (ev (.bool (decide ((size % 2) ≠ 0))) rfl rfl) (fun hc6 => ?_) (fun hc6 => ?_)
     ·skip
      refine sr ?_
      refine w_as (evc (.int .i64 5)) ?_
      refine nt ?_
      refine wp_ret ?_
      refine inb_r ?_
      refine then_r ?_
      refine fin_ret1 rfl (ev (.int .i64 5) rfl rfl) ?_
      exact ⟨rfl, hk⟩
     ·skip
      refine wp_seq ?_
      exfalso; omega

set_option maxRecDepth 100000 in
set_option maxHeartbeats 1000000 in
theorem cmRefWrong_a (key nonce aad : List (BitVec 8)) (n : Int) (size : Nat) (hok : Aes.okKey key.length) (hn : 7 ≤ nonce.length ∧ nonce.length ≤ 13) (h4 : 4 ≤ size) (h16 : size ≤ 16) (hev : size % 2 = 0) (ha : 70000 < aad.length) (w0 : World) : Calls Try.prog 73 #[.string (str key), .string (str nonce), .string (str aad), .int .i64 n, .int .i64 ((size : Nat) : Int)] w0 fun e w' => e = .returned (.int .i64 6) ∧ Below w0.heap.size w0 w' := by
 refine enter (n := 57) Try.func73 rfl rfl rfl ?_
 have hk : Below w0.heap.size w0 w0 := Below.refl _ _
 refine sr ?_
 refine w_as (evc (.int .i64 0)) ?_
 refine nt ?_
 refine wp_seq ?_
 refine wp_block ?_
 refine sr ?_
 refine w_mv (ev (.string (str key)) rfl rfl) ?_
 refine w_call (Try.func64) (by kernel_rfl) rfl (m1 (ev (.string (str key)) rfl rfl)) (right_l key w0 hok) ?_
 rintro _ _ ⟨rfl, rfl⟩
 refine ⟨_, rfl, ?_⟩
 refine w_val (y_not (ev (.bool true) rfl rfl)) ?_
 refine w_as (ev (.bool false) rfl rfl) ?_
 refine nt ?_
 refine c_ff (ev (.bool false) rfl rfl) ?_
 refine sr ?_
 refine w_mv (ev (.string (str nonce)) rfl rfl) ?_
 refine w_val (y_len (ev (.string (str nonce)) rfl rfl) Try.underlying9) ?_
 refine w_val (y_bin (ev (.int .i64 ((nonce.length : Nat) : Int)) rfl rfl) (evc (.int .i64 7)) b_lss) ?_
 refine w_mv (ev (.bool (decide (((nonce.length : Nat) : Int) < 7))) rfl rfl) ?_
 by_cases hc2 : ((nonce.length : Nat) : Int) < 7
 ·skip
  first | with_reducible refine w_skip ?_ ?_ | refine w_skip ?_ ?_
  · exact want_no (j := 3) rfl rfl (ev (.bool true) (Eq.trans (b := .bool (decide (((nonce.length : Nat) : Int) < 7))) rfl (by rw [decide_eq_true hc2])) rfl) rfl
  first | with_reducible refine w_skip ?_ ?_ | refine w_skip ?_ ?_
  · exact want_no (j := 3) rfl rfl (ev (.bool true) (Eq.trans (b := .bool (decide (((nonce.length : Nat) : Int) < 7))) rfl (by rw [decide_eq_true hc2])) rfl) rfl
  first | with_reducible refine w_skip ?_ ?_ | refine w_skip ?_ ?_
  · exact want_no (j := 3) rfl rfl (ev (.bool true) (Eq.trans (b := .bool (decide (((nonce.length : Nat) : Int) < 7))) rfl (by rw [decide_eq_true hc2])) rfl) rfl
  refine w_val (y_pick_t (ev (.bool true) (Eq.trans (b := .bool (decide (((nonce.length : Nat) : Int) < 7))) rfl (by rw [decide_eq_true hc2])) rfl) (evc (.bool true))) ?_
  refine w_as (ev (.bool true) rfl rfl) ?_
  refine nt ?_
  refine c_tt (ev (.bool true) rfl rfl) ?_
  refine wp_seq ?_
  exfalso; omega
 ·skip
  refine w_val_g (v := .string (str nonce)) (want_yes (j := 3) rfl rfl (ev (.bool false) (Eq.trans (b := .bool (decide (((nonce.length : Nat) : Int) < 7))) rfl (by rw [decide_eq_false hc2])) rfl) rfl) (y_mv (ev (.string (str nonce)) rfl rfl)) ?_
  refine w_val_g (want_yes (j := 3) rfl rfl (ev (.bool false) (Eq.trans (b := .bool (decide (((nonce.length : Nat) : Int) < 7))) rfl (by rw [decide_eq_false hc2])) rfl) rfl) (y_len (ev (.string (str nonce)) rfl rfl) Try.underlying9) ?_
  refine w_val_g (want_yes (j := 3) rfl rfl (ev (.bool false) (Eq.trans (b := .bool (decide (((nonce.length : Nat) : Int) < 7))) rfl (by rw [decide_eq_false hc2])) rfl) rfl) (y_bin (ev (.int .i64 ((nonce.length : Nat) : Int)) rfl rfl) (evc (.int .i64 13)) b_gtr) ?_
  refine w_val (y_pick_f (ev (.bool false) (Eq.trans (b := .bool (decide (((nonce.length : Nat) : Int) < 7))) rfl (by rw [decide_eq_false hc2])) rfl) (ev (.bool (decide (13 < ((nonce.length : Nat) : Int)))) rfl rfl)) ?_
  refine w_as (ev (.bool (decide (13 < ((nonce.length : Nat) : Int)))) rfl rfl) ?_
  refine nt ?_
  refine c_if (p := 13 < ((nonce.length : Nat) : Int)) (ev (.bool (decide (13 < ((nonce.length : Nat) : Int)))) rfl rfl) (fun hc3 => ?_) (fun hc3 => ?_)
  ·skip
   refine wp_seq ?_
   exfalso; omega
  ·skip
   refine sr ?_
   refine w_mv (ev (.int .i64 ((size : Nat) : Int)) rfl rfl) ?_
   refine w_val (y_bin (ev (.int .i64 ((size : Nat) : Int)) rfl rfl) (evc (.int .i64 4)) b_lss) ?_
   refine w_mv (ev (.bool (decide (((size : Nat) : Int) < 4))) rfl rfl) ?_
   by_cases hc4 : ((size : Nat) : Int) < 4
   ·skip
    first | with_reducible refine w_skip ?_ ?_ | refine w_skip ?_ ?_
    · exact want_no (j := 2) rfl rfl (ev (.bool true) (Eq.trans (b := .bool (decide (((size : Nat) : Int) < 4))) rfl (by rw [decide_eq_true hc4])) rfl) rfl
    first | with_reducible refine w_skip ?_ ?_ | refine w_skip ?_ ?_
    · exact want_no (j := 2) rfl rfl (ev (.bool true) (Eq.trans (b := .bool (decide (((size : Nat) : Int) < 4))) rfl (by rw [decide_eq_true hc4])) rfl) rfl
    refine w_val (y_pick_t (ev (.bool true) (Eq.trans (b := .bool (decide (((size : Nat) : Int) < 4))) rfl (by rw [decide_eq_true hc4])) rfl) (evc (.bool true))) ?_
    refine w_mv (ev (.bool true) rfl rfl) ?_
    first | with_reducible refine w_skip ?_ ?_ | refine w_skip ?_ ?_
    · exact want_no (j := 6) rfl rfl (ev (.bool true) rfl rfl) rfl
    first | with_reducible refine w_skip ?_ ?_ | refine w_skip ?_ ?_
    · exact want_no (j := 6) rfl rfl (ev (.bool true) rfl rfl) rfl
    first | with_reducible refine w_skip ?_ ?_ | refine w_skip ?_ ?_
    · exact want_no (j := 6) rfl rfl (ev (.bool true) rfl rfl) rfl
    refine w_val (y_pick_t (ev (.bool true) rfl rfl) (evc (.bool true))) ?_
    refine w_as (ev (.bool true) rfl rfl) ?_
    refine nt ?_
    refine c_tt (ev (.bool true) rfl rfl) ?_
    refine wp_seq ?_
    exfalso; omega
   ·skip
    refine w_val_g (v := .int .i64 ((size : Nat) : Int)) (want_yes (j := 2) rfl rfl (ev (.bool false) (Eq.trans (b := .bool (decide (((size : Nat) : Int) < 4))) rfl (by rw [decide_eq_false hc4])) rfl) rfl) (y_mv (ev (.int .i64 ((size : Nat) : Int)) rfl rfl)) ?_
    refine w_val_g (want_yes (j := 2) rfl rfl (ev (.bool false) (Eq.trans (b := .bool (decide (((size : Nat) : Int) < 4))) rfl (by rw [decide_eq_false hc4])) rfl) rfl) (y_bin (ev (.int .i64 ((size : Nat) : Int)) rfl rfl) (evc (.int .i64 16)) b_gtr) ?_
    refine w_val (y_pick_f (ev (.bool false) (Eq.trans (b := .bool (decide (((size : Nat) : Int) < 4))) rfl (by rw [decide_eq_false hc4])) rfl) (ev (.bool (decide (16 < ((size : Nat) : Int)))) rfl rfl)) ?_
    refine w_mv (ev (.bool (decide (16 < ((size : Nat) : Int)))) rfl rfl) ?_
    by_cases hc5 : 16 < ((size : Nat) : Int)
    ·skip
     first | with_reducible refine w_skip ?_ ?_ | refine w_skip ?_ ?_
     · exact want_no (j := 6) rfl rfl (ev (.bool true) (Eq.trans (b := .bool (decide (16 < ((size : Nat) : Int)))) rfl (by rw [decide_eq_true hc5])) rfl) rfl
     first | with_reducible refine w_skip ?_ ?_ | refine w_skip ?_ ?_
     · exact want_no (j := 6) rfl rfl (ev (.bool true) (Eq.trans (b := .bool (decide (16 < ((size : Nat) : Int)))) rfl (by rw [decide_eq_true hc5])) rfl) rfl
     first | with_reducible refine w_skip ?_ ?_ | refine w_skip ?_ ?_
     · exact want_no (j := 6) rfl rfl (ev (.bool true) (Eq.trans (b := .bool (decide (16 < ((size : Nat) : Int)))) rfl (by rw [decide_eq_true hc5])) rfl) rfl
     refine w_val (y_pick_t (ev (.bool true) (Eq.trans (b := .bool (decide (16 < ((size : Nat) : Int)))) rfl (by rw [decide_eq_true hc5])) rfl) (evc (.bool true))) ?_
     refine w_as (ev (.bool true) rfl rfl) ?_
     refine nt ?_
     refine c_tt (ev (.bool true) rfl rfl) ?_
     refine wp_seq ?_
     exfalso; omega
    ·skip
     refine w_val_g (v := .int .i64 ((size : Nat) : Int)) (want_yes (j := 6) rfl rfl (ev (.bool false) (Eq.trans (b := .bool (decide (16 < ((size : Nat) : Int)))) rfl (by rw [decide_eq_false hc5])) rfl) rfl) (y_mv (ev (.int .i64 ((size : Nat) : Int)) rfl rfl)) ?_
     refine w_val_g (want_yes (j := 6) rfl rfl (ev (.bool false) (Eq.trans (b := .bool (decide (16 < ((size : Nat) : Int)))) rfl (by rw [decide_eq_false hc5])) rfl) rfl) (y_bin (ev (.int .i64 ((size : Nat) : Int)) rfl rfl) (evc (.int .i64 2)) (b_rem (by omega))) ?_
     refine w_val_g (want_yes (j := 6) rfl rfl (ev (.bool false) (Eq.trans (b := .bool (decide (16 < ((size : Nat) : Int)))) rfl (by rw [decide_eq_false hc5])) rfl) rfl) (y_bin (ev (.int .i64 (((size : Nat) : Int) % 2)) rfl rfl) (evc (.int .i64 0)) b_neq) ?_
     refine w_val (y_pick_f (ev (.bool false) (Eq.trans (b := .bool (decide (16 < ((size : Nat) : Int)))) rfl (by rw [decide_eq_false hc5])) rfl) (ev (.bool (decide ((((size : Nat) : Int) % 2) ≠ 0))) rfl rfl)) ?_
     refine w_as (ev (.bool (decide ((((size : Nat) : Int) % 2) ≠ 0))) rfl rfl) ?_
     refine nt ?_
     refine c_if (p := (((size : Nat) : Int) % 2) ≠ 0) (ev (.bool (decide ((((size : Nat) : Int) % 2) ≠ 0))) rfl rfl) (fun hc6 => ?_) (fun hc6 => ?_)
     ·skip
      refine wp_seq ?_
      exfalso; omega
     ·skip
      refine sr ?_
      refine w_mv (ev (.string (str aad)) rfl rfl) ?_
      refine w_val (y_len (ev (.string (str aad)) rfl rfl) Try.underlying9) ?_
      refine w_val (y_bin (ev (.int .i64 ((aad.length : Nat) : Int)) rfl rfl) (evc (.int .i64 70000)) b_gtr) ?_
      refine w_mv (ev (.bool (decide (70000 < ((aad.length : Nat) : Int)))) rfl rfl) ?_
      have hc7 : 70000 < ((aad.length : Nat) : Int) := by omega
      first | with_reducible refine w_skip ?_ ?_ | refine w_skip ?_ ?_
      · exact want_no (j := 3) rfl rfl (ev (.bool true) (Eq.trans (b := .bool (decide (70000 < ((aad.length : Nat) : Int)))) rfl (by rw [decide_eq_true hc7])) rfl) rfl
      first | with_reducible refine w_skip ?_ ?_ | refine w_skip ?_ ?_
      · exact want_no (j := 3) rfl rfl (ev (.bool true) (Eq.trans (b := .bool (decide (70000 < ((aad.length : Nat) : Int)))) rfl (by rw [decide_eq_true hc7])) rfl) rfl
      refine w_val (y_pick_t (ev (.bool true) (Eq.trans (b := .bool (decide (70000 < ((aad.length : Nat) : Int)))) rfl (by rw [decide_eq_true hc7])) rfl) (evc (.bool true))) ?_
      refine w_mv (ev (.bool true) rfl rfl) ?_
      first | with_reducible refine w_skip ?_ ?_ | refine w_skip ?_ ?_
      · exact want_no (j := 7) rfl rfl (ev (.bool true) rfl rfl) rfl
      first | with_reducible refine w_skip ?_ ?_ | refine w_skip ?_ ?_
      · exact want_no (j := 7) rfl rfl (ev (.bool true) rfl rfl) rfl
      refine w_val (y_pick_t (ev (.bool true) rfl rfl) (evc (.bool true))) ?_
      refine w_mv (ev (.bool true) rfl rfl) ?_
      first | with_reducible refine w_skip ?_ ?_ | refine w_skip ?_ ?_
      · exact want_no (j := 11) rfl rfl (ev (.bool true) rfl rfl) rfl
      first | with_reducible refine w_skip ?_ ?_ | refine w_skip ?_ ?_
      · exact want_no (j := 11) rfl rfl (ev (.bool true) rfl rfl) rfl
      first | with_reducible refine w_skip ?_ ?_ | refine w_skip ?_ ?_
      · exact want_no (j := 11) rfl rfl (ev (.bool true) rfl rfl) rfl
      first | with_reducible refine w_skip ?_ ?_ | refine w_skip ?_ ?_
      · exact want_un (j := 14) rfl rfl (ev undef rfl rfl) rfl
      first | with_reducible refine w_skip ?_ ?_ | refine w_skip ?_ ?_
      · exact want_un (j := 14) rfl rfl (ev undef rfl rfl) rfl
      first | with_reducible refine w_skip ?_ ?_ | refine w_skip ?_ ?_
      · exact want_un (j := 14) rfl rfl (ev undef rfl rfl) rfl
      first | with_reducible refine w_skip ?_ ?_ | refine w_skip ?_ ?_
      · exact want_no (j := 11) rfl rfl (ev (.bool true) rfl rfl) rfl
      refine w_val (y_pick_t (ev (.bool true) rfl rfl) (evc (.bool true))) ?_
      refine w_as (ev (.bool true) rfl rfl) ?_
      refine nt ?_
      refine c_tt (ev (.bool true) rfl rfl) ?_
      refine sr ?_
      refine w_as (evc (.int .i64 6)) ?_
      refine nt ?_
      refine wp_ret ?_
      refine inb_r ?_
      refine then_r ?_
      refine fin_ret1 rfl (ev (.int .i64 6) rfl rfl) ?_
      exact ⟨rfl, hk⟩

set_option maxRecDepth 100000 in
set_option maxHeartbeats 1000000 in
theorem cmRefWrong_z (key nonce aad : List (BitVec 8)) (n : Nat) (size : Nat) (hok : Aes.okKey key.length) (hn : 7 ≤ nonce.length ∧ nonce.length ≤ 13) (h4 : 4 ≤ size) (h16 : size ≤ 16) (hev : size % 2 = 0) (ha : aad.length ≤ 70000) (hf : ¬ Cm.Fit n nonce) (w0 : World) : Calls Try.prog 73 #[.string (str key), .string (str nonce), .string (str aad), .int .i64 ((n : Nat) : Int), .int .i64 ((size : Nat) : Int)] w0 fun e w' => e = .returned (.int .i64 6) ∧ Below w0.heap.size w0 w' := by
 have hz : ¬ (n ≤ 70000 ∧ (nonce.length < 13 ∨ n < 65536)) := hf
 refine enter (n := 57) Try.func73 rfl rfl rfl ?_
 have hk : Below w0.heap.size w0 w0 := Below.refl _ _
 refine sr ?_
 refine w_as (evc (.int .i64 0)) ?_
 refine nt ?_
 refine wp_seq ?_
 refine wp_block ?_
 refine sr ?_
 refine w_mv (ev (.string (str key)) rfl rfl) ?_
 refine w_call (Try.func64) (by kernel_rfl) rfl (m1 (ev (.string (str key)) rfl rfl)) (right_l key w0 hok) ?_
 rintro _ _ ⟨rfl, rfl⟩
 refine ⟨_, rfl, ?_⟩
 refine w_val (y_not (ev (.bool true) rfl rfl)) ?_
 refine w_as (ev (.bool false) rfl rfl) ?_
 refine nt ?_
 refine c_ff (ev (.bool false) rfl rfl) ?_
 refine sr ?_
 refine w_mv (ev (.string (str nonce)) rfl rfl) ?_
 refine w_val (y_len (ev (.string (str nonce)) rfl rfl) Try.underlying9) ?_
 refine w_val (y_bin (ev (.int .i64 ((nonce.length : Nat) : Int)) rfl rfl) (evc (.int .i64 7)) b_lss) ?_
 refine w_mv (ev (.bool (decide (((nonce.length : Nat) : Int) < 7))) rfl rfl) ?_
 by_cases hc2 : ((nonce.length : Nat) : Int) < 7
 ·skip
  first | with_reducible refine w_skip ?_ ?_ | refine w_skip ?_ ?_
  · exact want_no (j := 3) rfl rfl (ev (.bool true) (Eq.trans (b := .bool (decide (((nonce.length : Nat) : Int) < 7))) rfl (by rw [decide_eq_true hc2])) rfl) rfl
  first | with_reducible refine w_skip ?_ ?_ | refine w_skip ?_ ?_
  · exact want_no (j := 3) rfl rfl (ev (.bool true) (Eq.trans (b := .bool (decide (((nonce.length : Nat) : Int) < 7))) rfl (by rw [decide_eq_true hc2])) rfl) rfl
  first | with_reducible refine w_skip ?_ ?_ | refine w_skip ?_ ?_
  · exact want_no (j := 3) rfl rfl (ev (.bool true) (Eq.trans (b := .bool (decide (((nonce.length : Nat) : Int) < 7))) rfl (by rw [decide_eq_true hc2])) rfl) rfl
  refine w_val (y_pick_t (ev (.bool true) (Eq.trans (b := .bool (decide (((nonce.length : Nat) : Int) < 7))) rfl (by rw [decide_eq_true hc2])) rfl) (evc (.bool true))) ?_
  refine w_as (ev (.bool true) rfl rfl) ?_
  refine nt ?_
  refine c_tt (ev (.bool true) rfl rfl) ?_
  refine wp_seq ?_
  exfalso; omega
 ·skip
  refine w_val_g (v := .string (str nonce)) (want_yes (j := 3) rfl rfl (ev (.bool false) (Eq.trans (b := .bool (decide (((nonce.length : Nat) : Int) < 7))) rfl (by rw [decide_eq_false hc2])) rfl) rfl) (y_mv (ev (.string (str nonce)) rfl rfl)) ?_
  refine w_val_g (want_yes (j := 3) rfl rfl (ev (.bool false) (Eq.trans (b := .bool (decide (((nonce.length : Nat) : Int) < 7))) rfl (by rw [decide_eq_false hc2])) rfl) rfl) (y_len (ev (.string (str nonce)) rfl rfl) Try.underlying9) ?_
  refine w_val_g (want_yes (j := 3) rfl rfl (ev (.bool false) (Eq.trans (b := .bool (decide (((nonce.length : Nat) : Int) < 7))) rfl (by rw [decide_eq_false hc2])) rfl) rfl) (y_bin (ev (.int .i64 ((nonce.length : Nat) : Int)) rfl rfl) (evc (.int .i64 13)) b_gtr) ?_
  refine w_val (y_pick_f (ev (.bool false) (Eq.trans (b := .bool (decide (((nonce.length : Nat) : Int) < 7))) rfl (by rw [decide_eq_false hc2])) rfl) (ev (.bool (decide (13 < ((nonce.length : Nat) : Int)))) rfl rfl)) ?_
  refine w_as (ev (.bool (decide (13 < ((nonce.length : Nat) : Int)))) rfl rfl) ?_
  refine nt ?_
  refine c_if (p := 13 < ((nonce.length : Nat) : Int)) (ev (.bool (decide (13 < ((nonce.length : Nat) : Int)))) rfl rfl) (fun hc3 => ?_) (fun hc3 => ?_)
  ·skip
   refine wp_seq ?_
   exfalso; omega
  ·skip
   refine sr ?_
   refine w_mv (ev (.int .i64 ((size : Nat) : Int)) rfl rfl) ?_
   refine w_val (y_bin (ev (.int .i64 ((size : Nat) : Int)) rfl rfl) (evc (.int .i64 4)) b_lss) ?_
   refine w_mv (ev (.bool (decide (((size : Nat) : Int) < 4))) rfl rfl) ?_
   by_cases hc4 : ((size : Nat) : Int) < 4
   ·skip
    first | with_reducible refine w_skip ?_ ?_ | refine w_skip ?_ ?_
    · exact want_no (j := 2) rfl rfl (ev (.bool true) (Eq.trans (b := .bool (decide (((size : Nat) : Int) < 4))) rfl (by rw [decide_eq_true hc4])) rfl) rfl
    first | with_reducible refine w_skip ?_ ?_ | refine w_skip ?_ ?_
    · exact want_no (j := 2) rfl rfl (ev (.bool true) (Eq.trans (b := .bool (decide (((size : Nat) : Int) < 4))) rfl (by rw [decide_eq_true hc4])) rfl) rfl
    refine w_val (y_pick_t (ev (.bool true) (Eq.trans (b := .bool (decide (((size : Nat) : Int) < 4))) rfl (by rw [decide_eq_true hc4])) rfl) (evc (.bool true))) ?_
    refine w_mv (ev (.bool true) rfl rfl) ?_
    first | with_reducible refine w_skip ?_ ?_ | refine w_skip ?_ ?_
    · exact want_no (j := 6) rfl rfl (ev (.bool true) rfl rfl) rfl
    first | with_reducible refine w_skip ?_ ?_ | refine w_skip ?_ ?_
    · exact want_no (j := 6) rfl rfl (ev (.bool true) rfl rfl) rfl
    first | with_reducible refine w_skip ?_ ?_ | refine w_skip ?_ ?_
    · exact want_no (j := 6) rfl rfl (ev (.bool true) rfl rfl) rfl
    refine w_val (y_pick_t (ev (.bool true) rfl rfl) (evc (.bool true))) ?_
    refine w_as (ev (.bool true) rfl rfl) ?_
    refine nt ?_
    refine c_tt (ev (.bool true) rfl rfl) ?_
    refine wp_seq ?_
    exfalso; omega
   ·skip
    refine w_val_g (v := .int .i64 ((size : Nat) : Int)) (want_yes (j := 2) rfl rfl (ev (.bool false) (Eq.trans (b := .bool (decide (((size : Nat) : Int) < 4))) rfl (by rw [decide_eq_false hc4])) rfl) rfl) (y_mv (ev (.int .i64 ((size : Nat) : Int)) rfl rfl)) ?_
    refine w_val_g (want_yes (j := 2) rfl rfl (ev (.bool false) (Eq.trans (b := .bool (decide (((size : Nat) : Int) < 4))) rfl (by rw [decide_eq_false hc4])) rfl) rfl) (y_bin (ev (.int .i64 ((size : Nat) : Int)) rfl rfl) (evc (.int .i64 16)) b_gtr) ?_
    refine w_val (y_pick_f (ev (.bool false) (Eq.trans (b := .bool (decide (((size : Nat) : Int) < 4))) rfl (by rw [decide_eq_false hc4])) rfl) (ev (.bool (decide (16 < ((size : Nat) : Int)))) rfl rfl)) ?_
    refine w_mv (ev (.bool (decide (16 < ((size : Nat) : Int)))) rfl rfl) ?_
    by_cases hc5 : 16 < ((size : Nat) : Int)
    ·skip
     first | with_reducible refine w_skip ?_ ?_ | refine w_skip ?_ ?_
     · exact want_no (j := 6) rfl rfl (ev (.bool true) (Eq.trans (b := .bool (decide (16 < ((size : Nat) : Int)))) rfl (by rw [decide_eq_true hc5])) rfl) rfl
     first | with_reducible refine w_skip ?_ ?_ | refine w_skip ?_ ?_
     · exact want_no (j := 6) rfl rfl (ev (.bool true) (Eq.trans (b := .bool (decide (16 < ((size : Nat) : Int)))) rfl (by rw [decide_eq_true hc5])) rfl) rfl
     first | with_reducible refine w_skip ?_ ?_ | refine w_skip ?_ ?_
     · exact want_no (j := 6) rfl rfl (ev (.bool true) (Eq.trans (b := .bool (decide (16 < ((size : Nat) : Int)))) rfl (by rw [decide_eq_true hc5])) rfl) rfl
     refine w_val (y_pick_t (ev (.bool true) (Eq.trans (b := .bool (decide (16 < ((size : Nat) : Int)))) rfl (by rw [decide_eq_true hc5])) rfl) (evc (.bool true))) ?_
     refine w_as (ev (.bool true) rfl rfl) ?_
     refine nt ?_
     refine c_tt (ev (.bool true) rfl rfl) ?_
     refine wp_seq ?_
     exfalso; omega
    ·skip
     refine w_val_g (v := .int .i64 ((size : Nat) : Int)) (want_yes (j := 6) rfl rfl (ev (.bool false) (Eq.trans (b := .bool (decide (16 < ((size : Nat) : Int)))) rfl (by rw [decide_eq_false hc5])) rfl) rfl) (y_mv (ev (.int .i64 ((size : Nat) : Int)) rfl rfl)) ?_
     refine w_val_g (want_yes (j := 6) rfl rfl (ev (.bool false) (Eq.trans (b := .bool (decide (16 < ((size : Nat) : Int)))) rfl (by rw [decide_eq_false hc5])) rfl) rfl) (y_bin (ev (.int .i64 ((size : Nat) : Int)) rfl rfl) (evc (.int .i64 2)) (b_rem (by omega))) ?_
     refine w_val_g (want_yes (j := 6) rfl rfl (ev (.bool false) (Eq.trans (b := .bool (decide (16 < ((size : Nat) : Int)))) rfl (by rw [decide_eq_false hc5])) rfl) rfl) (y_bin (ev (.int .i64 (((size : Nat) : Int) % 2)) rfl rfl) (evc (.int .i64 0)) b_neq) ?_
     refine w_val (y_pick_f (ev (.bool false) (Eq.trans (b := .bool (decide (16 < ((size : Nat) : Int)))) rfl (by rw [decide_eq_false hc5])) rfl) (ev (.bool (decide ((((size : Nat) : Int) % 2) ≠ 0))) rfl rfl)) ?_
     refine w_as (ev (.bool (decide ((((size : Nat) : Int) % 2) ≠ 0))) rfl rfl) ?_
     refine nt ?_
     refine c_if (p := (((size : Nat) : Int) % 2) ≠ 0) (ev (.bool (decide ((((size : Nat) : Int) % 2) ≠ 0))) rfl rfl) (fun hc6 => ?_) (fun hc6 => ?_)
     ·skip
      refine wp_seq ?_
      exfalso; omega
     ·skip
      refine sr ?_
      refine w_mv (ev (.string (str aad)) rfl rfl) ?_
      refine w_val (y_len (ev (.string (str aad)) rfl rfl) Try.underlying9) ?_
      refine w_val (y_bin (ev (.int .i64 ((aad.length : Nat) : Int)) rfl rfl) (evc (.int .i64 70000)) b_gtr) ?_
      refine w_mv (ev (.bool (decide (70000 < ((aad.length : Nat) : Int)))) rfl rfl) ?_
      have hc7 : ¬ (70000 < ((aad.length : Nat) : Int)) := by omega
      refine w_val_g (v := .int .i64 ((n : Nat) : Int)) (want_yes (j := 3) rfl rfl (ev (.bool false) (Eq.trans (b := .bool (decide (70000 < ((aad.length : Nat) : Int)))) rfl (by rw [decide_eq_false hc7])) rfl) rfl) (y_mv (ev (.int .i64 ((n : Nat) : Int)) rfl rfl)) ?_
      refine w_val_g (want_yes (j := 3) rfl rfl (ev (.bool false) (Eq.trans (b := .bool (decide (70000 < ((aad.length : Nat) : Int)))) rfl (by rw [decide_eq_false hc7])) rfl) rfl) (y_bin (ev (.int .i64 ((n : Nat) : Int)) rfl rfl) (evc (.int .i64 0)) b_lss) ?_
      refine w_val (y_pick_f (ev (.bool false) (Eq.trans (b := .bool (decide (70000 < ((aad.length : Nat) : Int)))) rfl (by rw [decide_eq_false hc7])) rfl) (ev (.bool (decide (((n : Nat) : Int) < 0))) rfl rfl)) ?_
      refine w_mv (ev (.bool (decide (((n : Nat) : Int) < 0))) rfl rfl) ?_
      by_cases hc8 : ((n : Nat) : Int) < 0
      ·skip
       first | with_reducible refine w_skip ?_ ?_ | refine w_skip ?_ ?_
       · exact want_no (j := 7) rfl rfl (ev (.bool true) (Eq.trans (b := .bool (decide (((n : Nat) : Int) < 0))) rfl (by rw [decide_eq_true hc8])) rfl) rfl
       first | with_reducible refine w_skip ?_ ?_ | refine w_skip ?_ ?_
       · exact want_no (j := 7) rfl rfl (ev (.bool true) (Eq.trans (b := .bool (decide (((n : Nat) : Int) < 0))) rfl (by rw [decide_eq_true hc8])) rfl) rfl
       refine w_val (y_pick_t (ev (.bool true) (Eq.trans (b := .bool (decide (((n : Nat) : Int) < 0))) rfl (by rw [decide_eq_true hc8])) rfl) (evc (.bool true))) ?_
       refine w_mv (ev (.bool true) rfl rfl) ?_
       first | with_reducible refine w_skip ?_ ?_ | refine w_skip ?_ ?_
       · exact want_no (j := 11) rfl rfl (ev (.bool true) rfl rfl) rfl
       first | with_reducible refine w_skip ?_ ?_ | refine w_skip ?_ ?_
       · exact want_no (j := 11) rfl rfl (ev (.bool true) rfl rfl) rfl
       first | with_reducible refine w_skip ?_ ?_ | refine w_skip ?_ ?_
       · exact want_no (j := 11) rfl rfl (ev (.bool true) rfl rfl) rfl
       first | with_reducible refine w_skip ?_ ?_ | refine w_skip ?_ ?_
       · exact want_un (j := 14) rfl rfl (ev undef rfl rfl) rfl
       first | with_reducible refine w_skip ?_ ?_ | refine w_skip ?_ ?_
       · exact want_un (j := 14) rfl rfl (ev undef rfl rfl) rfl
       first | with_reducible refine w_skip ?_ ?_ | refine w_skip ?_ ?_
       · exact want_un (j := 14) rfl rfl (ev undef rfl rfl) rfl
       first | with_reducible refine w_skip ?_ ?_ | refine w_skip ?_ ?_
       · exact want_no (j := 11) rfl rfl (ev (.bool true) rfl rfl) rfl
       refine w_val (y_pick_t (ev (.bool true) rfl rfl) (evc (.bool true))) ?_
       refine w_as (ev (.bool true) rfl rfl) ?_
       refine nt ?_
       refine c_tt (ev (.bool true) rfl rfl) ?_
       refine sr ?_
       refine w_as (evc (.int .i64 6)) ?_
       refine nt ?_
       refine wp_ret ?_
       refine inb_r ?_
       refine then_r ?_
       refine fin_ret1 rfl (ev (.int .i64 6) rfl rfl) ?_
       exact ⟨rfl, hk⟩
      ·skip
       refine w_val_g (v := .int .i64 ((n : Nat) : Int)) (want_yes (j := 7) rfl rfl (ev (.bool false) (Eq.trans (b := .bool (decide (((n : Nat) : Int) < 0))) rfl (by rw [decide_eq_false hc8])) rfl) rfl) (y_mv (ev (.int .i64 ((n : Nat) : Int)) rfl rfl)) ?_
       refine w_val_g (want_yes (j := 7) rfl rfl (ev (.bool false) (Eq.trans (b := .bool (decide (((n : Nat) : Int) < 0))) rfl (by rw [decide_eq_false hc8])) rfl) rfl) (y_bin (ev (.int .i64 ((n : Nat) : Int)) rfl rfl) (evc (.int .i64 70000)) b_gtr) ?_
       refine w_val (y_pick_f (ev (.bool false) (Eq.trans (b := .bool (decide (((n : Nat) : Int) < 0))) rfl (by rw [decide_eq_false hc8])) rfl) (ev (.bool (decide (70000 < ((n : Nat) : Int)))) rfl rfl)) ?_
       refine w_mv (ev (.bool (decide (70000 < ((n : Nat) : Int)))) rfl rfl) ?_
       by_cases hc9 : 70000 < ((n : Nat) : Int)
       ·skip
        first | with_reducible refine w_skip ?_ ?_ | refine w_skip ?_ ?_
        · exact want_no (j := 11) rfl rfl (ev (.bool true) (Eq.trans (b := .bool (decide (70000 < ((n : Nat) : Int)))) rfl (by rw [decide_eq_true hc9])) rfl) rfl
        first | with_reducible refine w_skip ?_ ?_ | refine w_skip ?_ ?_
        · exact want_no (j := 11) rfl rfl (ev (.bool true) (Eq.trans (b := .bool (decide (70000 < ((n : Nat) : Int)))) rfl (by rw [decide_eq_true hc9])) rfl) rfl
        first | with_reducible refine w_skip ?_ ?_ | refine w_skip ?_ ?_
        · exact want_no (j := 11) rfl rfl (ev (.bool true) (Eq.trans (b := .bool (decide (70000 < ((n : Nat) : Int)))) rfl (by rw [decide_eq_true hc9])) rfl) rfl
        first | with_reducible refine w_skip ?_ ?_ | refine w_skip ?_ ?_
        · exact want_un (j := 14) rfl rfl (ev undef rfl rfl) rfl
        first | with_reducible refine w_skip ?_ ?_ | refine w_skip ?_ ?_
        · exact want_un (j := 14) rfl rfl (ev undef rfl rfl) rfl
        first | with_reducible refine w_skip ?_ ?_ | refine w_skip ?_ ?_
        · exact want_un (j := 14) rfl rfl (ev undef rfl rfl) rfl
        first | with_reducible refine w_skip ?_ ?_ | refine w_skip ?_ ?_
        · exact want_no (j := 11) rfl rfl (ev (.bool true) (Eq.trans (b := .bool (decide (70000 < ((n : Nat) : Int)))) rfl (by rw [decide_eq_true hc9])) rfl) rfl
        refine w_val (y_pick_t (ev (.bool true) (Eq.trans (b := .bool (decide (70000 < ((n : Nat) : Int)))) rfl (by rw [decide_eq_true hc9])) rfl) (evc (.bool true))) ?_
        refine w_as (ev (.bool true) rfl rfl) ?_
        refine nt ?_
        refine c_tt (ev (.bool true) rfl rfl) ?_
        refine sr ?_
        refine w_as (evc (.int .i64 6)) ?_
        refine nt ?_
        refine wp_ret ?_
        refine inb_r ?_
        refine then_r ?_
        refine fin_ret1 rfl (ev (.int .i64 6) rfl rfl) ?_
        exact ⟨rfl, hk⟩
       ·skip
        refine w_val_g (v := .int .i64 ((n : Nat) : Int)) (want_yes (j := 11) rfl rfl (ev (.bool false) (Eq.trans (b := .bool (decide (70000 < ((n : Nat) : Int)))) rfl (by rw [decide_eq_false hc9])) rfl) rfl) (y_mv (ev (.int .i64 ((n : Nat) : Int)) rfl rfl)) ?_
        refine w_val_g (want_yes (j := 11) rfl rfl (ev (.bool false) (Eq.trans (b := .bool (decide (70000 < ((n : Nat) : Int)))) rfl (by rw [decide_eq_false hc9])) rfl) rfl) (y_bin (ev (.int .i64 ((n : Nat) : Int)) rfl rfl) (evc (.int .i64 65536)) b_geq) ?_
        refine w_val_g (v := .bool (decide (65536 ≤ ((n : Nat) : Int)))) (want_yes (j := 11) rfl rfl (ev (.bool false) (Eq.trans (b := .bool (decide (70000 < ((n : Nat) : Int)))) rfl (by rw [decide_eq_false hc9])) rfl) rfl) (y_mv (ev (.bool (decide (65536 ≤ ((n : Nat) : Int)))) rfl rfl)) ?_
        by_cases hc10 : 65536 ≤ ((n : Nat) : Int)
        ·skip
         refine w_val_g (v := .string (str nonce)) (want_yes (j := 14) rfl rfl (ev (.bool true) (Eq.trans (b := .bool (decide (65536 ≤ ((n : Nat) : Int)))) rfl (by rw [decide_eq_true hc10])) rfl) rfl) (y_mv (ev (.string (str nonce)) rfl rfl)) ?_
         refine w_val_g (want_yes (j := 14) rfl rfl (ev (.bool true) (Eq.trans (b := .bool (decide (65536 ≤ ((n : Nat) : Int)))) rfl (by rw [decide_eq_true hc10])) rfl) rfl) (y_len (ev (.string (str nonce)) rfl rfl) Try.underlying9) ?_
         refine w_val_g (want_yes (j := 14) rfl rfl (ev (.bool true) (Eq.trans (b := .bool (decide (65536 ≤ ((n : Nat) : Int)))) rfl (by rw [decide_eq_true hc10])) rfl) rfl) (y_bin (ev (.int .i64 ((nonce.length : Nat) : Int)) rfl rfl) (evc (.int .i64 13)) b_eql) ?_
         refine w_val_g (want_yes (j := 11) rfl rfl (ev (.bool false) (Eq.trans (b := .bool (decide (70000 < ((n : Nat) : Int)))) rfl (by rw [decide_eq_false hc9])) rfl) rfl) (y_pick_t (ev (.bool true) (Eq.trans (b := .bool (decide (65536 ≤ ((n : Nat) : Int)))) rfl (by rw [decide_eq_true hc10])) rfl) (ev (.bool (decide (((nonce.length : Nat) : Int) = 13))) rfl rfl)) ?_
         refine w_val (y_pick_f (ev (.bool false) (Eq.trans (b := .bool (decide (70000 < ((n : Nat) : Int)))) rfl (by rw [decide_eq_false hc9])) rfl) (ev (.bool (decide (((nonce.length : Nat) : Int) = 13))) rfl rfl)) ?_
         refine w_as (ev (.bool (decide (((nonce.length : Nat) : Int) = 13))) rfl rfl) ?_
         refine nt ?_
         refine c_if (p := ((nonce.length : Nat) : Int) = 13) (ev (.bool (decide (((nonce.length : Nat) : Int) = 13))) rfl rfl) (fun hc11 => ?_) (fun hc11 => ?_)
         ·skip
          refine sr ?_
          refine w_as (evc (.int .i64 6)) ?_
          refine nt ?_
          refine wp_ret ?_
          refine inb_r ?_
          refine then_r ?_
          refine fin_ret1 rfl (ev (.int .i64 6) rfl rfl) ?_
          exact ⟨rfl, hk⟩
         ·skip
          refine wp_skip ?_
          refine inb_n ?_
          refine then_n ?_
          refine wp_seq ?_
          exfalso; omega
        ·skip
         first | with_reducible refine w_skip ?_ ?_ | refine w_skip ?_ ?_
         · exact want_no (j := 14) rfl rfl (ev (.bool false) (Eq.trans (b := .bool (decide (65536 ≤ ((n : Nat) : Int)))) rfl (by rw [decide_eq_false hc10])) rfl) rfl
         first | with_reducible refine w_skip ?_ ?_ | refine w_skip ?_ ?_
         · exact want_no (j := 14) rfl rfl (ev (.bool false) (Eq.trans (b := .bool (decide (65536 ≤ ((n : Nat) : Int)))) rfl (by rw [decide_eq_false hc10])) rfl) rfl
         first | with_reducible refine w_skip ?_ ?_ | refine w_skip ?_ ?_
         · exact want_no (j := 14) rfl rfl (ev (.bool false) (Eq.trans (b := .bool (decide (65536 ≤ ((n : Nat) : Int)))) rfl (by rw [decide_eq_false hc10])) rfl) rfl
         refine w_val_g (want_yes (j := 11) rfl rfl (ev (.bool false) (Eq.trans (b := .bool (decide (70000 < ((n : Nat) : Int)))) rfl (by rw [decide_eq_false hc9])) rfl) rfl) (y_pick_f (ev (.bool false) (Eq.trans (b := .bool (decide (65536 ≤ ((n : Nat) : Int)))) rfl (by rw [decide_eq_false hc10])) rfl) (evc (.bool false))) ?_
         refine w_val (y_pick_f (ev (.bool false) (Eq.trans (b := .bool (decide (70000 < ((n : Nat) : Int)))) rfl (by rw [decide_eq_false hc9])) rfl) (ev (.bool false) rfl rfl)) ?_
         refine w_as (ev (.bool false) rfl rfl) ?_
         refine nt ?_
         refine c_ff (ev (.bool false) rfl rfl) ?_
         refine wp_skip ?_
         refine inb_n ?_
         refine then_n ?_
         refine wp_seq ?_
         exfalso; omega

set_option maxRecDepth 100000 in
set_option maxHeartbeats 1000000 in
theorem cmRefWrong_y (key nonce aad : List (BitVec 8)) (n : Nat) (size : Nat) (hok : Aes.okKey key.length) (hn : 7 ≤ nonce.length ∧ nonce.length ≤ 13) (h4 : 4 ≤ size) (h16 : size ≤ 16) (hev : size % 2 = 0) (ha : aad.length ≤ 70000) (hf : Cm.Fit n nonce) (w0 : World) : Calls Try.prog 73 #[.string (str key), .string (str nonce), .string (str aad), .int .i64 ((n : Nat) : Int), .int .i64 ((size : Nat) : Int)] w0 fun e w' => e = .returned (.int .i64 0) ∧ Below w0.heap.size w0 w' := by
 have hf1 := hf.1
 have hf2 := hf.2
 refine enter (n := 57) Try.func73 rfl rfl rfl ?_
 have hk : Below w0.heap.size w0 w0 := Below.refl _ _
 refine sr ?_
 refine w_as (evc (.int .i64 0)) ?_
 refine nt ?_
 refine wp_seq ?_
 refine wp_block ?_
 refine sr ?_
 refine w_mv (ev (.string (str key)) rfl rfl) ?_
 refine w_call (Try.func64) (by kernel_rfl) rfl (m1 (ev (.string (str key)) rfl rfl)) (right_l key w0 hok) ?_
 rintro _ _ ⟨rfl, rfl⟩
 refine ⟨_, rfl, ?_⟩
 refine w_val (y_not (ev (.bool true) rfl rfl)) ?_
 refine w_as (ev (.bool false) rfl rfl) ?_
 refine nt ?_
 refine c_ff (ev (.bool false) rfl rfl) ?_
 refine sr ?_
 refine w_mv (ev (.string (str nonce)) rfl rfl) ?_
 refine w_val (y_len (ev (.string (str nonce)) rfl rfl) Try.underlying9) ?_
 refine w_val (y_bin (ev (.int .i64 ((nonce.length : Nat) : Int)) rfl rfl) (evc (.int .i64 7)) b_lss) ?_
 refine w_mv (ev (.bool (decide (((nonce.length : Nat) : Int) < 7))) rfl rfl) ?_
 by_cases hc2 : ((nonce.length : Nat) : Int) < 7
 ·skip
  first | with_reducible refine w_skip ?_ ?_ | refine w_skip ?_ ?_
  · exact want_no (j := 3) rfl rfl (ev (.bool true) (Eq.trans (b := .bool (decide (((nonce.length : Nat) : Int) < 7))) rfl (by rw [decide_eq_true hc2])) rfl) rfl
  first | with_reducible refine w_skip ?_ ?_ | refine w_skip ?_ ?_
  · exact want_no (j := 3) rfl rfl (ev (.bool true) (Eq.trans (b := .bool (decide (((nonce.length : Nat) : Int) < 7))) rfl (by rw [decide_eq_true hc2])) rfl) rfl
  first | with_reducible refine w_skip ?_ ?_ | refine w_skip ?_ ?_
  · exact want_no (j := 3) rfl rfl (ev (.bool true) (Eq.trans (b := .bool (decide (((nonce.length : Nat) : Int) < 7))) rfl (by rw [decide_eq_true hc2])) rfl) rfl
  refine w_val (y_pick_t (ev (.bool true) (Eq.trans (b := .bool (decide (((nonce.length : Nat) : Int) < 7))) rfl (by rw [decide_eq_true hc2])) rfl) (evc (.bool true))) ?_
  refine w_as (ev (.bool true) rfl rfl) ?_
  refine nt ?_
  refine c_tt (ev (.bool true) rfl rfl) ?_
  refine wp_seq ?_
  exfalso; omega
 ·skip
  refine w_val_g (v := .string (str nonce)) (want_yes (j := 3) rfl rfl (ev (.bool false) (Eq.trans (b := .bool (decide (((nonce.length : Nat) : Int) < 7))) rfl (by rw [decide_eq_false hc2])) rfl) rfl) (y_mv (ev (.string (str nonce)) rfl rfl)) ?_
  refine w_val_g (want_yes (j := 3) rfl rfl (ev (.bool false) (Eq.trans (b := .bool (decide (((nonce.length : Nat) : Int) < 7))) rfl (by rw [decide_eq_false hc2])) rfl) rfl) (y_len (ev (.string (str nonce)) rfl rfl) Try.underlying9) ?_
  refine w_val_g (want_yes (j := 3) rfl rfl (ev (.bool false) (Eq.trans (b := .bool (decide (((nonce.length : Nat) : Int) < 7))) rfl (by rw [decide_eq_false hc2])) rfl) rfl) (y_bin (ev (.int .i64 ((nonce.length : Nat) : Int)) rfl rfl) (evc (.int .i64 13)) b_gtr) ?_
  refine w_val (y_pick_f (ev (.bool false) (Eq.trans (b := .bool (decide (((nonce.length : Nat) : Int) < 7))) rfl (by rw [decide_eq_false hc2])) rfl) (ev (.bool (decide (13 < ((nonce.length : Nat) : Int)))) rfl rfl)) ?_
  refine w_as (ev (.bool (decide (13 < ((nonce.length : Nat) : Int)))) rfl rfl) ?_
  refine nt ?_
  refine c_if (p := 13 < ((nonce.length : Nat) : Int)) (ev (.bool (decide (13 < ((nonce.length : Nat) : Int)))) rfl rfl) (fun hc3 => ?_) (fun hc3 => ?_)
  ·skip
   refine wp_seq ?_
   exfalso; omega
  ·skip
   refine sr ?_
   refine w_mv (ev (.int .i64 ((size : Nat) : Int)) rfl rfl) ?_
   refine w_val (y_bin (ev (.int .i64 ((size : Nat) : Int)) rfl rfl) (evc (.int .i64 4)) b_lss) ?_
   refine w_mv (ev (.bool (decide (((size : Nat) : Int) < 4))) rfl rfl) ?_
   by_cases hc4 : ((size : Nat) : Int) < 4
   ·skip
    first | with_reducible refine w_skip ?_ ?_ | refine w_skip ?_ ?_
    · exact want_no (j := 2) rfl rfl (ev (.bool true) (Eq.trans (b := .bool (decide (((size : Nat) : Int) < 4))) rfl (by rw [decide_eq_true hc4])) rfl) rfl
    first | with_reducible refine w_skip ?_ ?_ | refine w_skip ?_ ?_
    · exact want_no (j := 2) rfl rfl (ev (.bool true) (Eq.trans (b := .bool (decide (((size : Nat) : Int) < 4))) rfl (by rw [decide_eq_true hc4])) rfl) rfl
    refine w_val (y_pick_t (ev (.bool true) (Eq.trans (b := .bool (decide (((size : Nat) : Int) < 4))) rfl (by rw [decide_eq_true hc4])) rfl) (evc (.bool true))) ?_
    refine w_mv (ev (.bool true) rfl rfl) ?_
    first | with_reducible refine w_skip ?_ ?_ | refine w_skip ?_ ?_
    · exact want_no (j := 6) rfl rfl (ev (.bool true) rfl rfl) rfl
    first | with_reducible refine w_skip ?_ ?_ | refine w_skip ?_ ?_
    · exact want_no (j := 6) rfl rfl (ev (.bool true) rfl rfl) rfl
    first | with_reducible refine w_skip ?_ ?_ | refine w_skip ?_ ?_
    · exact want_no (j := 6) rfl rfl (ev (.bool true) rfl rfl) rfl
    refine w_val (y_pick_t (ev (.bool true) rfl rfl) (evc (.bool true))) ?_
    refine w_as (ev (.bool true) rfl rfl) ?_
    refine nt ?_
    refine c_tt (ev (.bool true) rfl rfl) ?_
    refine wp_seq ?_
    exfalso; omega
   ·skip
    refine w_val_g (v := .int .i64 ((size : Nat) : Int)) (want_yes (j := 2) rfl rfl (ev (.bool false) (Eq.trans (b := .bool (decide (((size : Nat) : Int) < 4))) rfl (by rw [decide_eq_false hc4])) rfl) rfl) (y_mv (ev (.int .i64 ((size : Nat) : Int)) rfl rfl)) ?_
    refine w_val_g (want_yes (j := 2) rfl rfl (ev (.bool false) (Eq.trans (b := .bool (decide (((size : Nat) : Int) < 4))) rfl (by rw [decide_eq_false hc4])) rfl) rfl) (y_bin (ev (.int .i64 ((size : Nat) : Int)) rfl rfl) (evc (.int .i64 16)) b_gtr) ?_
    refine w_val (y_pick_f (ev (.bool false) (Eq.trans (b := .bool (decide (((size : Nat) : Int) < 4))) rfl (by rw [decide_eq_false hc4])) rfl) (ev (.bool (decide (16 < ((size : Nat) : Int)))) rfl rfl)) ?_
    refine w_mv (ev (.bool (decide (16 < ((size : Nat) : Int)))) rfl rfl) ?_
    by_cases hc5 : 16 < ((size : Nat) : Int)
    ·skip
     first | with_reducible refine w_skip ?_ ?_ | refine w_skip ?_ ?_
     · exact want_no (j := 6) rfl rfl (ev (.bool true) (Eq.trans (b := .bool (decide (16 < ((size : Nat) : Int)))) rfl (by rw [decide_eq_true hc5])) rfl) rfl
     first | with_reducible refine w_skip ?_ ?_ | refine w_skip ?_ ?_
     · exact want_no (j := 6) rfl rfl (ev (.bool true) (Eq.trans (b := .bool (decide (16 < ((size : Nat) : Int)))) rfl (by rw [decide_eq_true hc5])) rfl) rfl
     first | with_reducible refine w_skip ?_ ?_ | refine w_skip ?_ ?_
     · exact want_no (j := 6) rfl rfl (ev (.bool true) (Eq.trans (b := .bool (decide (16 < ((size : Nat) : Int)))) rfl (by rw [decide_eq_true hc5])) rfl) rfl
     refine w_val (y_pick_t (ev (.bool true) (Eq.trans (b := .bool (decide (16 < ((size : Nat) : Int)))) rfl (by rw [decide_eq_true hc5])) rfl) (evc (.bool true))) ?_
     refine w_as (ev (.bool true) rfl rfl) ?_
     refine nt ?_
     refine c_tt (ev (.bool true) rfl rfl) ?_
     refine wp_seq ?_
     exfalso; omega
    ·skip
     refine w_val_g (v := .int .i64 ((size : Nat) : Int)) (want_yes (j := 6) rfl rfl (ev (.bool false) (Eq.trans (b := .bool (decide (16 < ((size : Nat) : Int)))) rfl (by rw [decide_eq_false hc5])) rfl) rfl) (y_mv (ev (.int .i64 ((size : Nat) : Int)) rfl rfl)) ?_
     refine w_val_g (want_yes (j := 6) rfl rfl (ev (.bool false) (Eq.trans (b := .bool (decide (16 < ((size : Nat) : Int)))) rfl (by rw [decide_eq_false hc5])) rfl) rfl) (y_bin (ev (.int .i64 ((size : Nat) : Int)) rfl rfl) (evc (.int .i64 2)) (b_rem (by omega))) ?_
     refine w_val_g (want_yes (j := 6) rfl rfl (ev (.bool false) (Eq.trans (b := .bool (decide (16 < ((size : Nat) : Int)))) rfl (by rw [decide_eq_false hc5])) rfl) rfl) (y_bin (ev (.int .i64 (((size : Nat) : Int) % 2)) rfl rfl) (evc (.int .i64 0)) b_neq) ?_
     refine w_val (y_pick_f (ev (.bool false) (Eq.trans (b := .bool (decide (16 < ((size : Nat) : Int)))) rfl (by rw [decide_eq_false hc5])) rfl) (ev (.bool (decide ((((size : Nat) : Int) % 2) ≠ 0))) rfl rfl)) ?_
     refine w_as (ev (.bool (decide ((((size : Nat) : Int) % 2) ≠ 0))) rfl rfl) ?_
     refine nt ?_
     refine c_if (p := (((size : Nat) : Int) % 2) ≠ 0) (ev (.bool (decide ((((size : Nat) : Int) % 2) ≠ 0))) rfl rfl) (fun hc6 => ?_) (fun hc6 => ?_)
     ·skip
      refine wp_seq ?_
      exfalso; omega
     ·skip
      refine sr ?_
      refine w_mv (ev (.string (str aad)) rfl rfl) ?_
      refine w_val (y_len (ev (.string (str aad)) rfl rfl) Try.underlying9) ?_
      refine w_val (y_bin (ev (.int .i64 ((aad.length : Nat) : Int)) rfl rfl) (evc (.int .i64 70000)) b_gtr) ?_
      refine w_mv (ev (.bool (decide (70000 < ((aad.length : Nat) : Int)))) rfl rfl) ?_
      have hc7 : ¬ (70000 < ((aad.length : Nat) : Int)) := by omega
      refine w_val_g (v := .int .i64 ((n : Nat) : Int)) (want_yes (j := 3) rfl rfl (ev (.bool false) (Eq.trans (b := .bool (decide (70000 < ((aad.length : Nat) : Int)))) rfl (by rw [decide_eq_false hc7])) rfl) rfl) (y_mv (ev (.int .i64 ((n : Nat) : Int)) rfl rfl)) ?_
      refine w_val_g (want_yes (j := 3) rfl rfl (ev (.bool false) (Eq.trans (b := .bool (decide (70000 < ((aad.length : Nat) : Int)))) rfl (by rw [decide_eq_false hc7])) rfl) rfl) (y_bin (ev (.int .i64 ((n : Nat) : Int)) rfl rfl) (evc (.int .i64 0)) b_lss) ?_
      refine w_val (y_pick_f (ev (.bool false) (Eq.trans (b := .bool (decide (70000 < ((aad.length : Nat) : Int)))) rfl (by rw [decide_eq_false hc7])) rfl) (ev (.bool (decide (((n : Nat) : Int) < 0))) rfl rfl)) ?_
      refine w_mv (ev (.bool (decide (((n : Nat) : Int) < 0))) rfl rfl) ?_
      by_cases hc8 : ((n : Nat) : Int) < 0
      ·skip
       first | with_reducible refine w_skip ?_ ?_ | refine w_skip ?_ ?_
       · exact want_no (j := 7) rfl rfl (ev (.bool true) (Eq.trans (b := .bool (decide (((n : Nat) : Int) < 0))) rfl (by rw [decide_eq_true hc8])) rfl) rfl
       first | with_reducible refine w_skip ?_ ?_ | refine w_skip ?_ ?_
       · exact want_no (j := 7) rfl rfl (ev (.bool true) (Eq.trans (b := .bool (decide (((n : Nat) : Int) < 0))) rfl (by rw [decide_eq_true hc8])) rfl) rfl
       refine w_val (y_pick_t (ev (.bool true) (Eq.trans (b := .bool (decide (((n : Nat) : Int) < 0))) rfl (by rw [decide_eq_true hc8])) rfl) (evc (.bool true))) ?_
       refine w_mv (ev (.bool true) rfl rfl) ?_
       first | with_reducible refine w_skip ?_ ?_ | refine w_skip ?_ ?_
       · exact want_no (j := 11) rfl rfl (ev (.bool true) rfl rfl) rfl
       first | with_reducible refine w_skip ?_ ?_ | refine w_skip ?_ ?_
       · exact want_no (j := 11) rfl rfl (ev (.bool true) rfl rfl) rfl
       first | with_reducible refine w_skip ?_ ?_ | refine w_skip ?_ ?_
       · exact want_no (j := 11) rfl rfl (ev (.bool true) rfl rfl) rfl
       first | with_reducible refine w_skip ?_ ?_ | refine w_skip ?_ ?_
       · exact want_un (j := 14) rfl rfl (ev undef rfl rfl) rfl
       first | with_reducible refine w_skip ?_ ?_ | refine w_skip ?_ ?_
       · exact want_un (j := 14) rfl rfl (ev undef rfl rfl) rfl
       first | with_reducible refine w_skip ?_ ?_ | refine w_skip ?_ ?_
       · exact want_un (j := 14) rfl rfl (ev undef rfl rfl) rfl
       first | with_reducible refine w_skip ?_ ?_ | refine w_skip ?_ ?_
       · exact want_no (j := 11) rfl rfl (ev (.bool true) rfl rfl) rfl
       refine w_val (y_pick_t (ev (.bool true) rfl rfl) (evc (.bool true))) ?_
       refine w_as (ev (.bool true) rfl rfl) ?_
       refine nt ?_
       refine c_tt (ev (.bool true) rfl rfl) ?_
       refine wp_seq ?_
       exfalso; omega
      ·skip
       refine w_val_g (v := .int .i64 ((n : Nat) : Int)) (want_yes (j := 7) rfl rfl (ev (.bool false) (Eq.trans (b := .bool (decide (((n : Nat) : Int) < 0))) rfl (by rw [decide_eq_false hc8])) rfl) rfl) (y_mv (ev (.int .i64 ((n : Nat) : Int)) rfl rfl)) ?_
       refine w_val_g (want_yes (j := 7) rfl rfl (ev (.bool false) (Eq.trans (b := .bool (decide (((n : Nat) : Int) < 0))) rfl (by rw [decide_eq_false hc8])) rfl) rfl) (y_bin (ev (.int .i64 ((n : Nat) : Int)) rfl rfl) (evc (.int .i64 70000)) b_gtr) ?_
       refine w_val (y_pick_f (ev (.bool false) (Eq.trans (b := .bool (decide (((n : Nat) : Int) < 0))) rfl (by rw [decide_eq_false hc8])) rfl) (ev (.bool (decide (70000 < ((n : Nat) : Int)))) rfl rfl)) ?_
       refine w_mv (ev (.bool (decide (70000 < ((n : Nat) : Int)))) rfl rfl) ?_
       by_cases hc9 : 70000 < ((n : Nat) : Int)
       ·skip
        first | with_reducible refine w_skip ?_ ?_ | refine w_skip ?_ ?_
        · exact want_no (j := 11) rfl rfl (ev (.bool true) (Eq.trans (b := .bool (decide (70000 < ((n : Nat) : Int)))) rfl (by rw [decide_eq_true hc9])) rfl) rfl
        first | with_reducible refine w_skip ?_ ?_ | refine w_skip ?_ ?_
        · exact want_no (j := 11) rfl rfl (ev (.bool true) (Eq.trans (b := .bool (decide (70000 < ((n : Nat) : Int)))) rfl (by rw [decide_eq_true hc9])) rfl) rfl
        first | with_reducible refine w_skip ?_ ?_ | refine w_skip ?_ ?_
        · exact want_no (j := 11) rfl rfl (ev (.bool true) (Eq.trans (b := .bool (decide (70000 < ((n : Nat) : Int)))) rfl (by rw [decide_eq_true hc9])) rfl) rfl
        first | with_reducible refine w_skip ?_ ?_ | refine w_skip ?_ ?_
        · exact want_un (j := 14) rfl rfl (ev undef rfl rfl) rfl
        first | with_reducible refine w_skip ?_ ?_ | refine w_skip ?_ ?_
        · exact want_un (j := 14) rfl rfl (ev undef rfl rfl) rfl
        first | with_reducible refine w_skip ?_ ?_ | refine w_skip ?_ ?_
        · exact want_un (j := 14) rfl rfl (ev undef rfl rfl) rfl
        first | with_reducible refine w_skip ?_ ?_ | refine w_skip ?_ ?_
        · exact want_no (j := 11) rfl rfl (ev (.bool true) (Eq.trans (b := .bool (decide (70000 < ((n : Nat) : Int)))) rfl (by rw [decide_eq_true hc9])) rfl) rfl
        refine w_val (y_pick_t (ev (.bool true) (Eq.trans (b := .bool (decide (70000 < ((n : Nat) : Int)))) rfl (by rw [decide_eq_true hc9])) rfl) (evc (.bool true))) ?_
        refine w_as (ev (.bool true) rfl rfl) ?_
        refine nt ?_
        refine c_tt (ev (.bool true) rfl rfl) ?_
        refine wp_seq ?_
        exfalso; omega
       ·skip
        refine w_val_g (v := .int .i64 ((n : Nat) : Int)) (want_yes (j := 11) rfl rfl (ev (.bool false) (Eq.trans (b := .bool (decide (70000 < ((n : Nat) : Int)))) rfl (by rw [decide_eq_false hc9])) rfl) rfl) (y_mv (ev (.int .i64 ((n : Nat) : Int)) rfl rfl)) ?_
        refine w_val_g (want_yes (j := 11) rfl rfl (ev (.bool false) (Eq.trans (b := .bool (decide (70000 < ((n : Nat) : Int)))) rfl (by rw [decide_eq_false hc9])) rfl) rfl) (y_bin (ev (.int .i64 ((n : Nat) : Int)) rfl rfl) (evc (.int .i64 65536)) b_geq) ?_
        refine w_val_g (v := .bool (decide (65536 ≤ ((n : Nat) : Int)))) (want_yes (j := 11) rfl rfl (ev (.bool false) (Eq.trans (b := .bool (decide (70000 < ((n : Nat) : Int)))) rfl (by rw [decide_eq_false hc9])) rfl) rfl) (y_mv (ev (.bool (decide (65536 ≤ ((n : Nat) : Int)))) rfl rfl)) ?_
        by_cases hc10 : 65536 ≤ ((n : Nat) : Int)
        ·skip
         refine w_val_g (v := .string (str nonce)) (want_yes (j := 14) rfl rfl (ev (.bool true) (Eq.trans (b := .bool (decide (65536 ≤ ((n : Nat) : Int)))) rfl (by rw [decide_eq_true hc10])) rfl) rfl) (y_mv (ev (.string (str nonce)) rfl rfl)) ?_
         refine w_val_g (want_yes (j := 14) rfl rfl (ev (.bool true) (Eq.trans (b := .bool (decide (65536 ≤ ((n : Nat) : Int)))) rfl (by rw [decide_eq_true hc10])) rfl) rfl) (y_len (ev (.string (str nonce)) rfl rfl) Try.underlying9) ?_
         refine w_val_g (want_yes (j := 14) rfl rfl (ev (.bool true) (Eq.trans (b := .bool (decide (65536 ≤ ((n : Nat) : Int)))) rfl (by rw [decide_eq_true hc10])) rfl) rfl) (y_bin (ev (.int .i64 ((nonce.length : Nat) : Int)) rfl rfl) (evc (.int .i64 13)) b_eql) ?_
         refine w_val_g (want_yes (j := 11) rfl rfl (ev (.bool false) (Eq.trans (b := .bool (decide (70000 < ((n : Nat) : Int)))) rfl (by rw [decide_eq_false hc9])) rfl) rfl) (y_pick_t (ev (.bool true) (Eq.trans (b := .bool (decide (65536 ≤ ((n : Nat) : Int)))) rfl (by rw [decide_eq_true hc10])) rfl) (ev (.bool (decide (((nonce.length : Nat) : Int) = 13))) rfl rfl)) ?_
         refine w_val (y_pick_f (ev (.bool false) (Eq.trans (b := .bool (decide (70000 < ((n : Nat) : Int)))) rfl (by rw [decide_eq_false hc9])) rfl) (ev (.bool (decide (((nonce.length : Nat) : Int) = 13))) rfl rfl)) ?_
         refine w_as (ev (.bool (decide (((nonce.length : Nat) : Int) = 13))) rfl rfl) ?_
         refine nt ?_
         have hc11 : ¬ (((nonce.length : Nat) : Int) = 13) := by omega
         refine c_f (p := ((nonce.length : Nat) : Int) = 13) (ev (.bool (decide (((nonce.length : Nat) : Int) = 13))) rfl rfl) hc11 ?_
         refine wp_skip ?_
         refine inb_n ?_
         refine then_n ?_
         refine sr ?_
         refine w_as (evc (.int .i64 0)) ?_
         refine nt ?_
         refine wp_ret ?_
         refine fin_ret1 rfl (ev (.int .i64 0) rfl rfl) ?_
         exact ⟨rfl, hk⟩
        ·skip
         first | with_reducible refine w_skip ?_ ?_ | refine w_skip ?_ ?_
         · exact want_no (j := 14) rfl rfl (ev (.bool false) (Eq.trans (b := .bool (decide (65536 ≤ ((n : Nat) : Int)))) rfl (by rw [decide_eq_false hc10])) rfl) rfl
         first | with_reducible refine w_skip ?_ ?_ | refine w_skip ?_ ?_
         · exact want_no (j := 14) rfl rfl (ev (.bool false) (Eq.trans (b := .bool (decide (65536 ≤ ((n : Nat) : Int)))) rfl (by rw [decide_eq_false hc10])) rfl) rfl
         first | with_reducible refine w_skip ?_ ?_ | refine w_skip ?_ ?_
         · exact want_no (j := 14) rfl rfl (ev (.bool false) (Eq.trans (b := .bool (decide (65536 ≤ ((n : Nat) : Int)))) rfl (by rw [decide_eq_false hc10])) rfl) rfl
         refine w_val_g (want_yes (j := 11) rfl rfl (ev (.bool false) (Eq.trans (b := .bool (decide (70000 < ((n : Nat) : Int)))) rfl (by rw [decide_eq_false hc9])) rfl) rfl) (y_pick_f (ev (.bool false) (Eq.trans (b := .bool (decide (65536 ≤ ((n : Nat) : Int)))) rfl (by rw [decide_eq_false hc10])) rfl) (evc (.bool false))) ?_
         refine w_val (y_pick_f (ev (.bool false) (Eq.trans (b := .bool (decide (70000 < ((n : Nat) : Int)))) rfl (by rw [decide_eq_false hc9])) rfl) (ev (.bool false) rfl rfl)) ?_
         refine w_as (ev (.bool false) rfl rfl) ?_
         refine nt ?_
         refine c_ff (ev (.bool false) rfl rfl) ?_
         refine wp_skip ?_
         refine inb_n ?_
         refine then_n ?_
         refine sr ?_
         refine w_as (evc (.int .i64 0)) ?_
         refine nt ?_
         refine wp_ret ?_
         refine fin_ret1 rfl (ev (.int .i64 0) rfl rfl) ?_
         exact ⟨rfl, hk⟩

set_option maxRecDepth 100000 in
set_option maxHeartbeats 1000000 in
theorem cmWide (n q : Nat) (h1 : 1 ≤ q) (h8 : q ≤ 8) (hm : n ≤ 1000000) (w0 : World) : Calls Try.prog 116 #[.int .i64 ((n : Nat) : Int), .int .i64 ((q : Nat) : Int)] w0 fun e w' => e = .returned (.string (str (Cm.num n q))) ∧ Below w0.heap.size w0 w' := by
 refine enter (n := 29) Try.func116 rfl rfl rfl ?_
 have hk : Below w0.heap.size w0 w0 := Below.refl _ _
 refine sr ?_
 refine w_as (evc (.string (str ([] : List (BitVec 8))))) ?_
 refine nt ?_
 refine sr ?_
 refine w_as (evc (.slice none 0 0)) ?_
 refine nt ?_
 refine wp_seq ?_
 refine sr ?_
 refine w_mv (ev (.int .i64 ((q : Nat) : Int)) rfl rfl) ?_
 refine w_val (y_bin (ev (.int .i64 ((q : Nat) : Int)) rfl rfl) (evc (.int .i64 1)) (b_sub (by omega))) ?_
 refine w_as (ev (.int .i64 (((q : Nat) : Int) - 1)) rfl rfl) ?_
 refine nt ?_
 refine wp_block ?_
 refine c_loop (fun dN aN wl => ∃ (k : Nat) (vo : Value), dN = (q - k) ∧ ∃ f1, aN = fr 29 f1 ∧ (k ≤ q) ∧ f1 0 = .int .i64 ((n : Nat) : Int) ∧ f1 1 = .int .i64 ((q : Nat) : Int) ∧ f1 4 = .string (str ([] : List (BitVec 8))) ∧ f1 5 = vo ∧ f1 6 = .int .i64 (((q : Nat) : Int) - 1 - ((k : Nat) : Int)) ∧ Own wl w0.heap.size 5 1 vo k (fun j => U8 (gb (Cm.num n q) j)) ∧ Below w0.heap.size w0 wl) (q - 0) ?_ ?_
 · exact ⟨0, (.slice none 0 0), rfl, _, rfl, iv, rfl, rfl, rfl, (etv (b := .slice none 0 0) rfl), (Eq.trans (b := .int .i64 (((q : Nat) : Int) - 1)) rfl (by congr 1; omega)), Own.nil, hk⟩
 ·skip
  clear hk
  rintro _ _ w2 ⟨k, vo, rfl, f1, rfl, i1_0, s1_0, s1_1, s1_4, s1_5, s1_6, o_vo, hk⟩
  refine wp_seq ?_
  refine sr ?_
  refine w_mv (ev (.int .i64 (((q : Nat) : Int) - 1 - ((k : Nat) : Int))) s1_6 rfl) ?_
  refine w_val (y_bin (ev (.int .i64 (((q : Nat) : Int) - 1 - ((k : Nat) : Int))) rfl rfl) (evc (.int .i64 0)) b_geq) ?_
  refine nt ?_
  refine c_if (p := 0 ≤ (((q : Nat) : Int) - 1 - ((k : Nat) : Int))) (ev (.bool (decide (0 ≤ (((q : Nat) : Int) - 1 - ((k : Nat) : Int))))) rfl rfl) (fun hc3 => ?_) (fun hc3 => ?_)
  ·skip
   refine wp_skip ?_
   refine then_n ?_
   refine wp_seq ?_
   refine wp_block ?_
   refine sr ?_
   refine w_as (evc (U8 (0#8))) ?_
   refine nt ?_
   refine wp_seq ?_
   refine sr ?_
   refine w_mv (ev (.int .i64 (((q : Nat) : Int) - 1 - ((k : Nat) : Int))) s1_6 rfl) ?_
   refine w_val (y_bin (ev (.int .i64 (((q : Nat) : Int) - 1 - ((k : Nat) : Int))) rfl rfl) (evc (.int .i64 8)) b_lss) ?_
   refine nt ?_
   have hc4 : (((q : Nat) : Int) - 1 - ((k : Nat) : Int)) < 8 := by omega
   refine c_t (p := (((q : Nat) : Int) - 1 - ((k : Nat) : Int)) < 8) (ev (.bool (decide ((((q : Nat) : Int) - 1 - ((k : Nat) : Int)) < 8))) rfl rfl) hc4 ?_
   refine wp_region_lit ?_
   refine w_mv (ev (.int .i64 ((n : Nat) : Int)) s1_0 rfl) ?_
   refine w_val (y_nat_u64 (p := n) (ev (.int .i64 ((n : Nat) : Int)) rfl rfl) (by omega) CcmDT.so3 Try.underlying129) ?_
   refine w_mv (ev (.int .i64 (((q : Nat) : Int) - 1 - ((k : Nat) : Int))) s1_6 rfl) ?_
   refine w_val (y_bin (evc (.int .i64 8)) (ev (.int .i64 (((q : Nat) : Int) - 1 - ((k : Nat) : Int))) rfl rfl) (b_mul (by omega))) ?_
   refine w_val (y_nat_u64 (p := (8 * (q - 1 - k))) (ev (.int .i64 (8 * (((q : Nat) : Int) - 1 - ((k : Nat) : Int)))) rfl rfl) (by omega) CcmDT.so3 Try.underlying83) ?_
   refine w_val (y_bin (ev (U64 (BitVec.ofNat 64 n)) rfl rfl) (ev (U64 (BitVec.ofNat 64 (8 * (q - 1 - k)))) rfl rfl) (shr64 (c := (8 * (q - 1 - k))) (by rw [BitVec.toNat_ofNat]; omega))) ?_
   refine w_val (y_u64_u8 (ev (U64 ((BitVec.ofNat 64 n) >>> (8 * (q - 1 - k)))) rfl rfl) CcmDT.so129 Try.underlying5) ?_
   refine w_as (ev (U8 (((BitVec.ofNat 64 n) >>> (8 * (q - 1 - k))).setWidth 8)) rfl rfl) ?_
   refine nt ?_
   refine wp_region_lit ?_
   refine w_mv (ev vo s1_5 rfl) ?_
   refine w_mv (ev (U8 (((BitVec.ofNat 64 n) >>> (8 * (q - 1 - k))).setWidth 8)) rfl rfl) ?_
   refine w_bs1 (m := 1) (e := 5) (F := fun j => U8 (((BitVec.ofNat 64 n) >>> (8 * (q - 1 - k))).setWidth 8)) (ev (U8 (((BitVec.ofNat 64 n) >>> (8 * (q - 1 - k))).setWidth 8)) rfl rfl) (fun w => by kernel_rfl) ?_
   intro b_25 w5 hbe_b_25 r_b_25 hb6
   have no_vo_b_25 : vo.ownBlock ≠ some b_25 := o_vo.apart (by omega)
   have ge_b_25 : w0.heap.size ≤ b_25 := by have := hk.size; omega
   clear hbe_b_25
   replace o_vo := o_vo.step hb6
   replace hk := thenB hk hb6
   refine w_app (k := k) (m := 1) (size := 1) (bytes := 1) (ev vo rfl rfl) (ev (.slice (some ⟨b_25, 0, none⟩) 1 1) rfl rfl) Try.underlying54 (by kernel_rfl) (by decide) o_vo hk.size r_b_25 (by omega) oca (by simp only [maxLen]; omega) (by omega) ?_
   intro v7 w8 o_v7 hg9 hv10
   have no_v7_b_25 := no_new no_vo_b_25 r_b_25.lt hv10
   replace r_b_25 := r_b_25.stepO hg9 no_vo_b_25
   replace hk := thenO hk hg9 (fun g e => (o_vo.block_lt g e).2)
   clear o_vo
   refine w_as (ev v7 rfl rfl) ?_
   refine wpList_nil ?_
   refine inb_n ?_
   refine then_n ?_
   refine wp_region_lit ?_
   refine w_mv (ev (.int .i64 (((q : Nat) : Int) - 1 - ((k : Nat) : Int))) s1_6 rfl) ?_
   refine w_val (y_bin (ev (.int .i64 (((q : Nat) : Int) - 1 - ((k : Nat) : Int))) rfl rfl) (evc (.int .i64 1)) (b_sub (by omega))) ?_
   refine w_as (ev (.int .i64 ((((q : Nat) : Int) - 1 - ((k : Nat) : Int)) - 1)) rfl rfl) ?_
   refine wpList_nil ?_
   exact then_n ⟨_, (by omega), k + 1, v7, rfl, _, rfl, iv, s1_0, s1_1, s1_4, rfl, (Eq.trans (b := .int .i64 ((((q : Nat) : Int) - 1 - ((k : Nat) : Int)) - 1)) rfl (by congr 1; omega)), (own_n (o_v7.congr (fun j hj => by (try dsimp only); by_cases e : j < k * 1; (rw [if_pos e]); (rw [if_neg e, show gb (Cm.num n q) j = _ from Oct.gb_be _ q j (by omega), show j = k from by omega]))) (by omega)), hk⟩
  ·skip
   refine wp_exit ?_
   refine then_x ?_
   refine then_x ?_
   refine inb_x ?_
   refine then_n ?_
   refine sr ?_
   refine w_mv (ev vo s1_5 rfl) ?_
   refine w_val (v := .string (str (Cm.num n q))) (y_strown (l := Cm.num n q) (ev vo rfl rfl) o_vo  (by exact (by rw [Cm.num_len]; omega)) (fun j hj => by exact rfl) Try.underlying54 Try.underlying5 Try.underlying9) ?_
   refine w_as (ev (.string (str (Cm.num n q))) rfl rfl) ?_
   refine nt ?_
   refine wp_ret ?_
   refine fin_ret1 rfl (ev (.string (str (Cm.num n q))) rfl rfl) ?_
   exact ⟨rfl, hk⟩

set_option maxRecDepth 100000 in
set_option maxHeartbeats 1000000 in
theorem cmRefCounter (nonce : List (BitVec 8)) (i : Nat) (hi : i ≤ 1000000) (q : Nat) (hq : nonce.length + q = 15) (h2 : 2 ≤ q) (h8 : q ≤ 8) (w0 : World) : Calls Try.prog 98 #[.string (str nonce), .int .i64 ((i : Nat) : Int)] w0 fun e w' => e = .returned (.string (str (Cm.cnt nonce q i))) ∧ Below w0.heap.size w0 w' := by
 refine enter (n := 20) Try.func98 rfl rfl rfl ?_
 have hk : Below w0.heap.size w0 w0 := Below.refl _ _
 refine sr ?_
 refine w_as (evc (.string (str ([] : List (BitVec 8))))) ?_
 refine nt ?_
 refine sr ?_
 refine w_mv (ev (.string (str nonce)) rfl rfl) ?_
 refine w_val (y_len (ev (.string (str nonce)) rfl rfl) Try.underlying9) ?_
 refine w_val (y_bin (evc (.int .i64 15)) (ev (.int .i64 ((nonce.length : Nat) : Int)) rfl rfl) (b_sub (by omega))) ?_
 refine w_as (ev (.int .i64 (15 - ((nonce.length : Nat) : Int))) rfl rfl) ?_
 refine nt ?_
 refine wp_seq ?_
 refine region_dc (Nat.testBit 0) 12 CcmDT.mixed rfl ?_
 intro w1 hb2
 replace hk := thenB hk hb2
 have hS : Cls w1 w1 := Below.refl _ _
 refine d_pure (v := .int .i64 ((q : Nat) : Int)) 0 rfl (by kernel_rfl) (by kernel_rfl) (by kernel_rfl) (by kernel_rfl) (fun _ _ _ h => h) (fun w' => y_mv (ev (.int .i64 ((q : Nat) : Int)) (Eq.trans (b := .int .i64 (15 - ((nonce.length : Nat) : Int))) rfl (by congr 1; omega)) rfl)) ?_
 refine d_pure (v := .int .i64 (((q : Nat) : Int) - 1)) 1 rfl (by kernel_rfl) (by kernel_rfl) (by kernel_rfl) (by kernel_rfl) (fun _ _ _ h => h) (fun w' => y_bin (ev (.int .i64 ((q : Nat) : Int)) rfl rfl) (evc (.int .i64 1)) (b_sub (by omega))) ?_
 refine d_pure (v := U8 (BitVec.ofNat 8 (q - 1))) 2 rfl (by kernel_rfl) (by kernel_rfl) (by kernel_rfl) (by kernel_rfl) (fun _ _ _ h => h) (fun w' => y_nat_u8 (p := (q - 1)) (ev (.int .i64 (((q : Nat) : Int) - 1)) rfl rfl) (by omega) CcmDT.so3 Try.underlying5) ?_
 refine d_pure (v := .string (str nonce)) 5 rfl (by kernel_rfl) (by kernel_rfl) (by kernel_rfl) (by kernel_rfl) (fun _ _ _ h => h) (fun w' => y_mv (ev (.string (str nonce)) rfl rfl)) ?_
 refine d_pure (v := .int .i64 ((i : Nat) : Int)) 7 rfl (by kernel_rfl) (by kernel_rfl) (by kernel_rfl) (by kernel_rfl) (fun _ _ _ h => h) (fun w' => y_mv (ev (.int .i64 ((i : Nat) : Int)) rfl rfl)) ?_
 refine d_pure (v := .int .i64 ((q : Nat) : Int)) 8 rfl (by kernel_rfl) (by kernel_rfl) (by kernel_rfl) (by kernel_rfl) (fun _ _ _ h => h) (fun w' => y_mv (ev (.int .i64 ((q : Nat) : Int)) (Eq.trans (b := .int .i64 (15 - ((nonce.length : Nat) : Int))) rfl (by congr 1; omega)) rfl)) ?_
 refine d_two 3 9 (by kernel_rfl) rfl rfl ?_ ?_
 ·skip
  refine w_bs1 (m := 1) (e := 5) (F := fun j => U8 (BitVec.ofNat 8 (q - 1))) (ev (U8 (BitVec.ofNat 8 (q - 1))) rfl rfl) (fun w => by kernel_rfl) ?_
  intro b_12 w3 hbe_b_12 r_b_12 hb4
  have ge_b_12 : w0.heap.size ≤ b_12 := by have := hk.size; omega
  clear hbe_b_12
  replace hk := thenB hk hb4
  replace hS := thenB hS hb4
  refine wpList_nil ?_
  refine then_n ⟨fun _ h => thenB h (by assumption), ?_⟩
  refine d_two 4 9 (by kernel_rfl) rfl rfl ?_ ?_
  ·skip
   refine w_val (y_str (l := [BitVec.ofNat 8 (q - 1)]) (ev (.slice (some ⟨b_12, 0, none⟩) 1 1) rfl rfl) (by rfl) Try.underlying54 Try.underlying5 Try.underlying9 (fun j hj => (r_b_12.val (by omega) (by (obtain rfl : j = 0 := (by omega)); rfl)))) ?_
   refine wpList_nil ?_
   refine then_n ⟨fun _ h => h, ?_⟩
   refine d_pure (v := .string (str (([BitVec.ofNat 8 (q - 1)]) ++ nonce))) 6 rfl (by kernel_rfl) (by kernel_rfl) (by kernel_rfl) (by kernel_rfl) (fun _ _ _ h => h) (fun w' => y_bin (ev (.string (str ([BitVec.ofNat 8 (q - 1)]))) rfl rfl) (ev (.string (str nonce)) rfl rfl) (b_cat (by simp only [List.length_append, List.length_cons, List.length_nil, Cm.num_len, List.length_replicate]; omega))) ?_
   refine d_one 9 (by kernel_rfl) rfl ?_
   refine w_call (Try.func116) (by kernel_rfl) rfl (m2 (ev (.int .i64 ((i : Nat) : Int)) rfl rfl) (ev (.int .i64 ((q : Nat) : Int)) rfl rfl)) (cmWide i q (by omega) (by omega) (by omega) w3) ?_
   rintro _ w5 ⟨rfl, hb6⟩
   refine ⟨_, rfl, ?_⟩
   replace r_b_12 := r_b_12.step hb6
   replace hk := thenB hk hb6
   replace hS := thenB hS hb6
   refine wpList_nil ?_
   refine then_n ⟨fun _ h => thenB h (by assumption), ?_⟩
   refine d_pure (v := .string (str ((([BitVec.ofNat 8 (q - 1)]) ++ nonce) ++ (Cm.num i q)))) 10 rfl (by kernel_rfl) (by kernel_rfl) (by kernel_rfl) (by kernel_rfl) (fun _ _ _ h => h) (fun w' => y_bin (ev (.string (str (([BitVec.ofNat 8 (q - 1)]) ++ nonce))) rfl rfl) (ev (.string (str (Cm.num i q))) rfl rfl) (b_cat (by simp only [List.length_append, List.length_cons, List.length_nil, Cm.num_len, List.length_replicate]; omega))) ?_
   refine d_pure (v := .string (str ((([BitVec.ofNat 8 (q - 1)]) ++ nonce) ++ (Cm.num i q)))) 11 rfl (by kernel_rfl) (by kernel_rfl) (by kernel_rfl) (by kernel_rfl) (fun _ _ _ h => h) (fun w' => y_as (ev (.string (str ((([BitVec.ofNat 8 (q - 1)]) ++ nonce) ++ (Cm.num i q)))) rfl rfl)) ?_
   refine d_done (by kernel_rfl) ?_
   clear hS
   refine then_n ?_
   refine wp_ret ?_
   refine fin_ret1 rfl (ev (.string (str ((([BitVec.ofNat 8 (q - 1)]) ++ nonce) ++ (Cm.num i q)))) rfl rfl) ?_
   refine ⟨congrArg Ending.returned ?_, hk⟩
   show (.string (str ((([BitVec.ofNat 8 (q - 1)]) ++ nonce) ++ (Cm.num i q))) : Value) = .string (str (Cm.cnt nonce q i))
   first | with_reducible rfl | (with_reducible congr 1 <;> omega) | (with_reducible congr 2 <;> omega) | (with_reducible congr 3 <;> omega) | rfl
  ·skip
   refine w_call (Try.func116) (by kernel_rfl) rfl (m2 (ev (.int .i64 ((i : Nat) : Int)) rfl rfl) (ev (.int .i64 ((q : Nat) : Int)) rfl rfl)) (cmWide i q (by omega) (by omega) (by omega) w3) ?_
   rintro _ w7 ⟨rfl, hb8⟩
   refine ⟨_, rfl, ?_⟩
   replace r_b_12 := r_b_12.step hb8
   replace hk := thenB hk hb8
   replace hS := thenB hS hb8
   refine wpList_nil ?_
   refine then_n ⟨fun _ h => thenB h (by assumption), ?_⟩
   refine d_one 4 (by kernel_rfl) rfl ?_
   refine w_val (y_str (l := [BitVec.ofNat 8 (q - 1)]) (ev (.slice (some ⟨b_12, 0, none⟩) 1 1) rfl rfl) (by rfl) Try.underlying54 Try.underlying5 Try.underlying9 (fun j hj => (r_b_12.val (by omega) (by (obtain rfl : j = 0 := (by omega)); rfl)))) ?_
   refine wpList_nil ?_
   refine then_n ⟨fun _ h => h, ?_⟩
   refine d_pure (v := .string (str (([BitVec.ofNat 8 (q - 1)]) ++ nonce))) 6 rfl (by kernel_rfl) (by kernel_rfl) (by kernel_rfl) (by kernel_rfl) (fun _ _ _ h => h) (fun w' => y_bin (ev (.string (str ([BitVec.ofNat 8 (q - 1)]))) rfl rfl) (ev (.string (str nonce)) rfl rfl) (b_cat (by simp only [List.length_append, List.length_cons, List.length_nil, Cm.num_len, List.length_replicate]; omega))) ?_
   refine d_pure (v := .string (str ((([BitVec.ofNat 8 (q - 1)]) ++ nonce) ++ (Cm.num i q)))) 10 rfl (by kernel_rfl) (by kernel_rfl) (by kernel_rfl) (by kernel_rfl) (fun _ _ _ h => h) (fun w' => y_bin (ev (.string (str (([BitVec.ofNat 8 (q - 1)]) ++ nonce))) rfl rfl) (ev (.string (str (Cm.num i q))) rfl rfl) (b_cat (by simp only [List.length_append, List.length_cons, List.length_nil, Cm.num_len, List.length_replicate]; omega))) ?_
   refine d_pure (v := .string (str ((([BitVec.ofNat 8 (q - 1)]) ++ nonce) ++ (Cm.num i q)))) 11 rfl (by kernel_rfl) (by kernel_rfl) (by kernel_rfl) (by kernel_rfl) (fun _ _ _ h => h) (fun w' => y_as (ev (.string (str ((([BitVec.ofNat 8 (q - 1)]) ++ nonce) ++ (Cm.num i q)))) rfl rfl)) ?_
   refine d_done (by kernel_rfl) ?_
   clear hS
   refine then_n ?_
   refine wp_ret ?_
   refine fin_ret1 rfl (ev (.string (str ((([BitVec.ofNat 8 (q - 1)]) ++ nonce) ++ (Cm.num i q)))) rfl rfl) ?_
   refine ⟨congrArg Ending.returned ?_, hk⟩
   show (.string (str ((([BitVec.ofNat 8 (q - 1)]) ++ nonce) ++ (Cm.num i q))) : Value) = .string (str (Cm.cnt nonce q i))
   first | with_reducible rfl | (with_reducible congr 1 <;> omega) | (with_reducible congr 2 <;> omega) | (with_reducible congr 3 <;> omega) | rfl
 ·skip
  refine w_call (Try.func116) (by kernel_rfl) rfl (m2 (ev (.int .i64 ((i : Nat) : Int)) rfl rfl) (ev (.int .i64 ((q : Nat) : Int)) rfl rfl)) (cmWide i q (by omega) (by omega) (by omega) w1) ?_
  rintro _ w9 ⟨rfl, hb10⟩
  refine ⟨_, rfl, ?_⟩
  replace hk := thenB hk hb10
  replace hS := thenB hS hb10
  refine wpList_nil ?_
  refine then_n ⟨fun _ h => thenB h (by assumption), ?_⟩
  refine d_one 3 (by kernel_rfl) rfl ?_
  refine w_bs1 (m := 1) (e := 5) (F := fun j => U8 (BitVec.ofNat 8 (q - 1))) (ev (U8 (BitVec.ofNat 8 (q - 1))) rfl rfl) (fun w => by kernel_rfl) ?_
  intro b_12 w11 hbe_b_12 r_b_12 hb12
  have ge_b_12 : w0.heap.size ≤ b_12 := by have := hk.size; omega
  clear hbe_b_12
  replace hk := thenB hk hb12
  replace hS := thenB hS hb12
  refine wpList_nil ?_
  refine then_n ⟨fun _ h => thenB h (by assumption), ?_⟩
  refine d_one 4 (by kernel_rfl) rfl ?_
  refine w_val (y_str (l := [BitVec.ofNat 8 (q - 1)]) (ev (.slice (some ⟨b_12, 0, none⟩) 1 1) rfl rfl) (by rfl) Try.underlying54 Try.underlying5 Try.underlying9 (fun j hj => (r_b_12.val (by omega) (by (obtain rfl : j = 0 := (by omega)); rfl)))) ?_
  refine wpList_nil ?_
  refine then_n ⟨fun _ h => h, ?_⟩
  refine d_pure (v := .string (str (([BitVec.ofNat 8 (q - 1)]) ++ nonce))) 6 rfl (by kernel_rfl) (by kernel_rfl) (by kernel_rfl) (by kernel_rfl) (fun _ _ _ h => h) (fun w' => y_bin (ev (.string (str ([BitVec.ofNat 8 (q - 1)]))) rfl rfl) (ev (.string (str nonce)) rfl rfl) (b_cat (by simp only [List.length_append, List.length_cons, List.length_nil, Cm.num_len, List.length_replicate]; omega))) ?_
  refine d_pure (v := .string (str ((([BitVec.ofNat 8 (q - 1)]) ++ nonce) ++ (Cm.num i q)))) 10 rfl (by kernel_rfl) (by kernel_rfl) (by kernel_rfl) (by kernel_rfl) (fun _ _ _ h => h) (fun w' => y_bin (ev (.string (str (([BitVec.ofNat 8 (q - 1)]) ++ nonce))) rfl rfl) (ev (.string (str (Cm.num i q))) rfl rfl) (b_cat (by simp only [List.length_append, List.length_cons, List.length_nil, Cm.num_len, List.length_replicate]; omega))) ?_
  refine d_pure (v := .string (str ((([BitVec.ofNat 8 (q - 1)]) ++ nonce) ++ (Cm.num i q)))) 11 rfl (by kernel_rfl) (by kernel_rfl) (by kernel_rfl) (by kernel_rfl) (fun _ _ _ h => h) (fun w' => y_as (ev (.string (str ((([BitVec.ofNat 8 (q - 1)]) ++ nonce) ++ (Cm.num i q)))) rfl rfl)) ?_
  refine d_done (by kernel_rfl) ?_
  clear hS
  refine then_n ?_
  refine wp_ret ?_
  refine fin_ret1 rfl (ev (.string (str ((([BitVec.ofNat 8 (q - 1)]) ++ nonce) ++ (Cm.num i q)))) rfl rfl) ?_
  refine ⟨congrArg Ending.returned ?_, hk⟩
  show (.string (str ((([BitVec.ofNat 8 (q - 1)]) ++ nonce) ++ (Cm.num i q))) : Value) = .string (str (Cm.cnt nonce q i))
  first | with_reducible rfl | (with_reducible congr 1 <;> omega) | (with_reducible congr 2 <;> omega) | (with_reducible congr 3 <;> omega) | rfl

set_option maxRecDepth 100000 in
set_option maxHeartbeats 1000000 in
theorem refFilled (s : List (BitVec 8)) (hs : s.length ≤ 1000000) (w0 : World) : Calls Try.prog 117 #[.string (str s)] w0 fun e w' => e = .returned (.string (str (Cb.z s))) ∧ Below w0.heap.size w0 w' := by
 have hzl : (Cb.z s).length = s.length + (16 - s.length % 16) % 16 := Cb.z_len s
 refine enter (n := 15) Try.func117 rfl rfl rfl ?_
 have hk : Below w0.heap.size w0 w0 := Below.refl _ _
 refine sr ?_
 refine w_as (evc (.string (str ([] : List (BitVec 8))))) ?_
 refine nt ?_
 refine sr ?_
 refine w_mv (ev (.string (str s)) rfl rfl) ?_
 refine w_bytes_own (ev (.string (str s)) rfl rfl) Try.underlying9 Try.underlying54 Try.underlying5 (by simp only [maxLen]; omega) hk.size ?_
 intro v1 w2 o_v1 hv4 hb3
 replace hk := thenB hk hb3
 refine w_as (ev v1 rfl rfl) ?_
 refine nt ?_
 refine wp_seq ?_
 refine wp_block ?_
 refine c_loop (fun dN aN wl => ∃ (m : Nat) (vo : Value), dN = (16 - m) ∧ ∃ f5, aN = fr 15 f5 ∧ (m ≤ (16 - s.length % 16) % 16) ∧ f5 0 = .string (str s) ∧ f5 2 = .string (str ([] : List (BitVec 8))) ∧ f5 3 = vo ∧ Own wl w0.heap.size 5 1 vo (s.length + m) (fun j => U8 (gb s j)) ∧ Below w0.heap.size w0 wl) (16 - 0) ?_ ?_
 · exact ⟨0, v1, rfl, _, rfl, iv, rfl, rfl, (etv (b := v1) rfl), (own_n (o_v1.cg) (by omega)), hk⟩
 ·skip
  clear o_v1 hk
  rintro _ _ w6 ⟨m, vo, rfl, f5, rfl, i1_0, s1_0, s1_2, s1_3, o_vo, hk⟩
  refine wp_seq ?_
  refine sr ?_
  refine w_mv (ev vo s1_3 rfl) ?_
  refine w_val (v := .int .i64 (((s.length + m) : Nat) : Int)) (y_len_own (ev vo rfl rfl) o_vo Try.underlying54) ?_
  refine w_val (y_bin (ev (.int .i64 (((s.length + m) : Nat) : Int)) rfl rfl) (evc (.int .i64 16)) (b_rem (by omega))) ?_
  refine w_val (y_bin (ev (.int .i64 ((((s.length + m) : Nat) : Int) % 16)) rfl rfl) (evc (.int .i64 0)) b_neq) ?_
  refine nt ?_
  refine c_if (p := ((((s.length + m) : Nat) : Int) % 16) ≠ 0) (ev (.bool (decide (((((s.length + m) : Nat) : Int) % 16) ≠ 0))) rfl rfl) (fun hc7 => ?_) (fun hc7 => ?_)
  ·skip
   refine wp_skip ?_
   refine then_n ?_
   refine wp_block ?_
   refine wp_region_lit ?_
   refine w_mv (ev vo s1_3 rfl) ?_
   refine w_bs1 (m := 1) (e := 5) (F := fun j => U8 (0#8)) (evc (U8 (0#8))) (fun w => by kernel_rfl) ?_
   intro b_11 w8 hbe_b_11 r_b_11 hb9
   have no_vo_b_11 : vo.ownBlock ≠ some b_11 := o_vo.apart (by omega)
   have ge_b_11 : w0.heap.size ≤ b_11 := by have := hk.size; omega
   clear hbe_b_11
   replace o_vo := o_vo.step hb9
   replace hk := thenB hk hb9
   refine w_app (k := (s.length + m)) (m := 1) (size := 1) (bytes := 1) (ev vo rfl rfl) (ev (.slice (some ⟨b_11, 0, none⟩) 1 1) rfl rfl) Try.underlying54 (by kernel_rfl) (by decide) o_vo hk.size r_b_11 (by omega) oca (by simp only [maxLen]; omega) (by omega) ?_
   intro v10 w11 o_v10 hg12 hv13
   have no_v10_b_11 := no_new no_vo_b_11 r_b_11.lt hv13
   replace r_b_11 := r_b_11.stepO hg12 no_vo_b_11
   replace hk := thenO hk hg12 (fun g e => (o_vo.block_lt g e).2)
   clear o_vo
   refine w_as (ev v10 rfl rfl) ?_
   refine wpList_nil ?_
   refine inb_n ?_
   exact then_n ⟨_, (by omega), m + 1, v10, rfl, _, rfl, iv, s1_0, s1_2, rfl, (own_n (o_v10.congr (fun j hj => by (try dsimp only); by_cases e : j < (s.length + m) * 1; (rw [if_pos e]); (rw [if_neg e, gb_out s j (by omega)]))) (by omega)), hk⟩
  ·skip
   refine wp_exit ?_
   refine then_x ?_
   refine then_x ?_
   refine inb_x ?_
   refine then_n ?_
   refine sr ?_
   refine w_mv (ev vo s1_3 rfl) ?_
   refine w_val (v := .string (str (Cb.z s))) (y_strown (l := Cb.z s) (ev vo rfl rfl) o_vo  (by exact (by rw [hzl]; omega)) (fun j hj => by exact (by rw [Cb.gb_z])) Try.underlying54 Try.underlying5 Try.underlying9) ?_
   refine w_as (ev (.string (str (Cb.z s))) rfl rfl) ?_
   refine nt ?_
   refine wp_ret ?_
   refine fin_ret1 rfl (ev (.string (str (Cb.z s))) rfl rfl) ?_
   exact ⟨rfl, hk⟩

set_option maxRecDepth 100000 in
set_option maxHeartbeats 1000000 in
theorem cmRefAll (nonce aad text : List (BitVec 8)) (q : Nat) (hq : nonce.length + q = 15) (h2 : 2 ≤ q) (h8 : q ≤ 8) (size : Nat) (h4 : 4 ≤ size) (h16 : size ≤ 16) (hev : size % 2 = 0) (ha : aad.length ≤ 70000) (ht : text.length ≤ 70000) (w0 : World) : Calls Try.prog 99 #[.string (str nonce), .string (str aad), .string (str text), .int .i64 ((size : Nat) : Int)] w0 fun e w' => e = .returned (.string (str (Cb.z (Cm.all nonce aad text q size)))) ∧ Below w0.heap.size w0 w' := by
 refine enter (n := 70) Try.func99 rfl rfl rfl ?_
 have hk : Below w0.heap.size w0 w0 := Below.refl _ _
 refine sr ?_
 refine w_as (evc (.string (str ([] : List (BitVec 8))))) ?_
 refine nt ?_
 refine sr ?_
 refine w_mv (ev (.string (str nonce)) rfl rfl) ?_
 refine w_val (y_len (ev (.string (str nonce)) rfl rfl) Try.underlying9) ?_
 refine w_val (y_bin (evc (.int .i64 15)) (ev (.int .i64 ((nonce.length : Nat) : Int)) rfl rfl) (b_sub (by omega))) ?_
 refine w_as (ev (.int .i64 (15 - ((nonce.length : Nat) : Int))) rfl rfl) ?_
 refine nt ?_
 refine sr ?_
 refine w_mv (ev (.int .i64 ((size : Nat) : Int)) rfl rfl) ?_
 refine w_val (y_bin (ev (.int .i64 ((size : Nat) : Int)) rfl rfl) (evc (.int .i64 2)) (b_sub (by omega))) ?_
 refine w_val (y_bin (evc (.int .i64 8)) (ev (.int .i64 (((size : Nat) : Int) - 2)) rfl rfl) (b_mul (by omega))) ?_
 refine w_val (y_bin (ev (.int .i64 (8 * (((size : Nat) : Int) - 2))) rfl rfl) (evc (.int .i64 2)) (b_quo (by omega))) ?_
 refine w_mv (ev (.int .i64 ((q : Nat) : Int)) (Eq.trans (b := .int .i64 (15 - ((nonce.length : Nat) : Int))) rfl (by congr 1; omega)) rfl) ?_
 refine w_val (y_bin (ev (.int .i64 ((8 * (((size : Nat) : Int) - 2)) / 2)) rfl rfl) (ev (.int .i64 ((q : Nat) : Int)) rfl rfl) (b_add (by omega))) ?_
 refine w_val (y_bin (ev (.int .i64 (((8 * (((size : Nat) : Int) - 2)) / 2) + ((q : Nat) : Int))) rfl rfl) (evc (.int .i64 1)) (b_sub (by omega))) ?_
 refine w_as (ev (.int .i64 ((((8 * (((size : Nat) : Int) - 2)) / 2) + ((q : Nat) : Int)) - 1)) rfl rfl) ?_
 refine nt ?_
 refine wp_seq ?_
 refine sr ?_
 refine w_mv (ev (.string (str aad)) rfl rfl) ?_
 refine w_val (y_len (ev (.string (str aad)) rfl rfl) Try.underlying9) ?_
 refine w_val (y_bin (ev (.int .i64 ((aad.length : Nat) : Int)) rfl rfl) (evc (.int .i64 0)) b_gtr) ?_
 refine nt ?_
 refine c_if (p := 0 < ((aad.length : Nat) : Int)) (ev (.bool (decide (0 < ((aad.length : Nat) : Int)))) rfl rfl) (fun hc1 => ?_) (fun hc1 => ?_)
 ·skip
  refine wp_region_lit ?_
  refine w_mv (ev (.int .i64 ((((8 * (((size : Nat) : Int) - 2)) / 2) + ((q : Nat) : Int)) - 1)) rfl rfl) ?_
  refine w_val (y_bin (ev (.int .i64 ((((8 * (((size : Nat) : Int) - 2)) / 2) + ((q : Nat) : Int)) - 1)) rfl rfl) (evc (.int .i64 64)) (b_add (by omega))) ?_
  refine w_as (ev (.int .i64 (((((8 * (((size : Nat) : Int) - 2)) / 2) + ((q : Nat) : Int)) - 1) + 64)) rfl rfl) ?_
  refine nt ?_
  refine c_cut (fun aN wl => ∃ f2, aN = fr 70 f2 ∧ f2 0 = .string (str nonce) ∧ f2 1 = .string (str aad) ∧ f2 2 = .string (str text) ∧ f2 3 = .int .i64 ((size : Nat) : Int) ∧ f2 8 = .string (str ([] : List (BitVec 8))) ∧ f2 9 = .int .i64 ((q : Nat) : Int) ∧ f2 11 = .string (str (Cm.head nonce aad text.length q size)) ∧ Below w0.heap.size w0 wl) ?_ ?_
  ·skip
   refine region_dc (Nat.testBit 0) 12 CcmDT.mixed rfl ?_
   intro w4 hb5
   replace hk := thenB hk hb5
   have hS : Cls w4 w4 := Below.refl _ _
   refine d_pure (v := .int .i64 (((Cm.fst q aad size) : Nat) : Int)) 0 rfl (by kernel_rfl) (by kernel_rfl) (by kernel_rfl) (by kernel_rfl) (fun _ _ _ h => h) (fun w' => y_mv (ev (.int .i64 (((Cm.fst q aad size) : Nat) : Int)) (Eq.trans (b := .int .i64 (((((8 * (((size : Nat) : Int) - 2)) / 2) + ((q : Nat) : Int)) - 1) + 64)) rfl (by exact congrArg (Value.int .i64) (by unfold Cm.fst; split <;> omega))) rfl)) ?_
   refine d_pure (v := U8 (BitVec.ofNat 8 (Cm.fst q aad size))) 1 rfl (by kernel_rfl) (by kernel_rfl) (by kernel_rfl) (by kernel_rfl) (fun _ _ _ h => h) (fun w' => y_nat_u8 (p := (Cm.fst q aad size)) (ev (.int .i64 (((Cm.fst q aad size) : Nat) : Int)) rfl rfl) (by omega) CcmDT.so3 Try.underlying5) ?_
   refine d_pure (v := .string (str nonce)) 4 rfl (by kernel_rfl) (by kernel_rfl) (by kernel_rfl) (by kernel_rfl) (fun _ _ _ h => h) (fun w' => y_mv (ev (.string (str nonce)) rfl rfl)) ?_
   refine d_pure (v := .string (str text)) 6 rfl (by kernel_rfl) (by kernel_rfl) (by kernel_rfl) (by kernel_rfl) (fun _ _ _ h => h) (fun w' => y_mv (ev (.string (str text)) rfl rfl)) ?_
   refine d_pure (v := .int .i64 ((text.length : Nat) : Int)) 7 rfl (by kernel_rfl) (by kernel_rfl) (by kernel_rfl) (by kernel_rfl) (fun _ _ _ h => h) (fun w' => y_len (ev (.string (str text)) rfl rfl) Try.underlying9) ?_
   refine d_pure (v := .int .i64 ((q : Nat) : Int)) 8 rfl (by kernel_rfl) (by kernel_rfl) (by kernel_rfl) (by kernel_rfl) (fun _ _ _ h => h) (fun w' => y_mv (ev (.int .i64 ((q : Nat) : Int)) (Eq.trans (b := .int .i64 (15 - ((nonce.length : Nat) : Int))) rfl (by congr 1; omega)) rfl)) ?_
   refine d_two 2 9 (by kernel_rfl) rfl rfl ?_ ?_
   ·skip
    refine w_bs1 (m := 1) (e := 5) (F := fun j => U8 (BitVec.ofNat 8 (Cm.fst q aad size))) (ev (U8 (BitVec.ofNat 8 (Cm.fst q aad size))) rfl rfl) (fun w => by kernel_rfl) ?_
    intro b_29 w6 hbe_b_29 r_b_29 hb7
    have ge_b_29 : w0.heap.size ≤ b_29 := by have := hk.size; omega
    clear hbe_b_29
    replace hk := thenB hk hb7
    replace hS := thenB hS hb7
    refine wpList_nil ?_
    refine then_n ⟨fun _ h => thenB h (by assumption), ?_⟩
    refine d_two 3 9 (by kernel_rfl) rfl rfl ?_ ?_
    ·skip
     refine w_val (y_str (l := [BitVec.ofNat 8 (Cm.fst q aad size)]) (ev (.slice (some ⟨b_29, 0, none⟩) 1 1) rfl rfl) (by rfl) Try.underlying54 Try.underlying5 Try.underlying9 (fun j hj => (r_b_29.val (by omega) (by (obtain rfl : j = 0 := (by omega)); rfl)))) ?_
     refine wpList_nil ?_
     refine then_n ⟨fun _ h => h, ?_⟩
     refine d_pure (v := .string (str (([BitVec.ofNat 8 (Cm.fst q aad size)]) ++ nonce))) 5 rfl (by kernel_rfl) (by kernel_rfl) (by kernel_rfl) (by kernel_rfl) (fun _ _ _ h => h) (fun w' => y_bin (ev (.string (str ([BitVec.ofNat 8 (Cm.fst q aad size)]))) rfl rfl) (ev (.string (str nonce)) rfl rfl) (b_cat (by simp only [Cb.z_len, Cb.zn, List.length_append, List.length_cons, List.length_nil, Cm.num_len, Cm.head_len nonce aad text.length q size hq]; omega))) ?_
     refine d_one 9 (by kernel_rfl) rfl ?_
     refine w_call (Try.func116) (by kernel_rfl) rfl (m2 (ev (.int .i64 ((text.length : Nat) : Int)) rfl rfl) (ev (.int .i64 ((q : Nat) : Int)) rfl rfl)) (cmWide text.length q (by omega) (by omega) (by omega) w6) ?_
     rintro _ w8 ⟨rfl, hb9⟩
     refine ⟨_, rfl, ?_⟩
     replace r_b_29 := r_b_29.step hb9
     replace hk := thenB hk hb9
     replace hS := thenB hS hb9
     refine wpList_nil ?_
     refine then_n ⟨fun _ h => thenB h (by assumption), ?_⟩
     refine d_pure (v := .string (str ((([BitVec.ofNat 8 (Cm.fst q aad size)]) ++ nonce) ++ (Cm.num text.length q)))) 10 rfl (by kernel_rfl) (by kernel_rfl) (by kernel_rfl) (by kernel_rfl) (fun _ _ _ h => h) (fun w' => y_bin (ev (.string (str (([BitVec.ofNat 8 (Cm.fst q aad size)]) ++ nonce))) rfl rfl) (ev (.string (str (Cm.num text.length q))) rfl rfl) (b_cat (by simp only [Cb.z_len, Cb.zn, List.length_append, List.length_cons, List.length_nil, Cm.num_len, Cm.head_len nonce aad text.length q size hq]; omega))) ?_
     refine d_pure (v := .string (str ((([BitVec.ofNat 8 (Cm.fst q aad size)]) ++ nonce) ++ (Cm.num text.length q)))) 11 rfl (by kernel_rfl) (by kernel_rfl) (by kernel_rfl) (by kernel_rfl) (fun _ _ _ h => h) (fun w' => y_as (ev (.string (str ((([BitVec.ofNat 8 (Cm.fst q aad size)]) ++ nonce) ++ (Cm.num text.length q)))) rfl rfl)) ?_
     refine d_done (by kernel_rfl) ?_
     clear hS
     exact then_n ⟨_, rfl, rfl, rfl, rfl, rfl, rfl, (Eq.trans (b := .int .i64 (15 - ((nonce.length : Nat) : Int))) rfl (by congr 1; omega)), (Eq.trans (b := .string (str ((([BitVec.ofNat 8 (Cm.fst q aad size)]) ++ nonce) ++ (Cm.num text.length q)))) rfl (by first | with_reducible rfl | (with_reducible congr 1 <;> omega) | (with_reducible congr 2 <;> omega) | (with_reducible congr 3 <;> omega) | rfl)), hk⟩
    ·skip
     refine w_call (Try.func116) (by kernel_rfl) rfl (m2 (ev (.int .i64 ((text.length : Nat) : Int)) rfl rfl) (ev (.int .i64 ((q : Nat) : Int)) rfl rfl)) (cmWide text.length q (by omega) (by omega) (by omega) w6) ?_
     rintro _ w10 ⟨rfl, hb11⟩
     refine ⟨_, rfl, ?_⟩
     replace r_b_29 := r_b_29.step hb11
     replace hk := thenB hk hb11
     replace hS := thenB hS hb11
     refine wpList_nil ?_
     refine then_n ⟨fun _ h => thenB h (by assumption), ?_⟩
     refine d_one 3 (by kernel_rfl) rfl ?_
     refine w_val (y_str (l := [BitVec.ofNat 8 (Cm.fst q aad size)]) (ev (.slice (some ⟨b_29, 0, none⟩) 1 1) rfl rfl) (by rfl) Try.underlying54 Try.underlying5 Try.underlying9 (fun j hj => (r_b_29.val (by omega) (by (obtain rfl : j = 0 := (by omega)); rfl)))) ?_
     refine wpList_nil ?_
     refine then_n ⟨fun _ h => h, ?_⟩
     refine d_pure (v := .string (str (([BitVec.ofNat 8 (Cm.fst q aad size)]) ++ nonce))) 5 rfl (by kernel_rfl) (by kernel_rfl) (by kernel_rfl) (by kernel_rfl) (fun _ _ _ h => h) (fun w' => y_bin (ev (.string (str ([BitVec.ofNat 8 (Cm.fst q aad size)]))) rfl rfl) (ev (.string (str nonce)) rfl rfl) (b_cat (by simp only [Cb.z_len, Cb.zn, List.length_append, List.length_cons, List.length_nil, Cm.num_len, Cm.head_len nonce aad text.length q size hq]; omega))) ?_
     refine d_pure (v := .string (str ((([BitVec.ofNat 8 (Cm.fst q aad size)]) ++ nonce) ++ (Cm.num text.length q)))) 10 rfl (by kernel_rfl) (by kernel_rfl) (by kernel_rfl) (by kernel_rfl) (fun _ _ _ h => h) (fun w' => y_bin (ev (.string (str (([BitVec.ofNat 8 (Cm.fst q aad size)]) ++ nonce))) rfl rfl) (ev (.string (str (Cm.num text.length q))) rfl rfl) (b_cat (by simp only [Cb.z_len, Cb.zn, List.length_append, List.length_cons, List.length_nil, Cm.num_len, Cm.head_len nonce aad text.length q size hq]; omega))) ?_
     refine d_pure (v := .string (str ((([BitVec.ofNat 8 (Cm.fst q aad size)]) ++ nonce) ++ (Cm.num text.length q)))) 11 rfl (by kernel_rfl) (by kernel_rfl) (by kernel_rfl) (by kernel_rfl) (fun _ _ _ h => h) (fun w' => y_as (ev (.string (str ((([BitVec.ofNat 8 (Cm.fst q aad size)]) ++ nonce) ++ (Cm.num text.length q)))) rfl rfl)) ?_
     refine d_done (by kernel_rfl) ?_
     clear hS
     exact then_n ⟨_, rfl, rfl, rfl, rfl, rfl, rfl, (Eq.trans (b := .int .i64 (15 - ((nonce.length : Nat) : Int))) rfl (by congr 1; omega)), (Eq.trans (b := .string (str ((([BitVec.ofNat 8 (Cm.fst q aad size)]) ++ nonce) ++ (Cm.num text.length q)))) rfl (by first | with_reducible rfl | (with_reducible congr 1 <;> omega) | (with_reducible congr 2 <;> omega) | (with_reducible congr 3 <;> omega) | rfl)), hk⟩
   ·skip
    refine w_call (Try.func116) (by kernel_rfl) rfl (m2 (ev (.int .i64 ((text.length : Nat) : Int)) rfl rfl) (ev (.int .i64 ((q : Nat) : Int)) rfl rfl)) (cmWide text.length q (by omega) (by omega) (by omega) w4) ?_
    rintro _ w12 ⟨rfl, hb13⟩
    refine ⟨_, rfl, ?_⟩
    replace hk := thenB hk hb13
    replace hS := thenB hS hb13
    refine wpList_nil ?_
    refine then_n ⟨fun _ h => thenB h (by assumption), ?_⟩
    refine d_one 2 (by kernel_rfl) rfl ?_
    refine w_bs1 (m := 1) (e := 5) (F := fun j => U8 (BitVec.ofNat 8 (Cm.fst q aad size))) (ev (U8 (BitVec.ofNat 8 (Cm.fst q aad size))) rfl rfl) (fun w => by kernel_rfl) ?_
    intro b_29 w14 hbe_b_29 r_b_29 hb15
    have ge_b_29 : w0.heap.size ≤ b_29 := by have := hk.size; omega
    clear hbe_b_29
    replace hk := thenB hk hb15
    replace hS := thenB hS hb15
    refine wpList_nil ?_
    refine then_n ⟨fun _ h => thenB h (by assumption), ?_⟩
    refine d_one 3 (by kernel_rfl) rfl ?_
    refine w_val (y_str (l := [BitVec.ofNat 8 (Cm.fst q aad size)]) (ev (.slice (some ⟨b_29, 0, none⟩) 1 1) rfl rfl) (by rfl) Try.underlying54 Try.underlying5 Try.underlying9 (fun j hj => (r_b_29.val (by omega) (by (obtain rfl : j = 0 := (by omega)); rfl)))) ?_
    refine wpList_nil ?_
    refine then_n ⟨fun _ h => h, ?_⟩
    refine d_pure (v := .string (str (([BitVec.ofNat 8 (Cm.fst q aad size)]) ++ nonce))) 5 rfl (by kernel_rfl) (by kernel_rfl) (by kernel_rfl) (by kernel_rfl) (fun _ _ _ h => h) (fun w' => y_bin (ev (.string (str ([BitVec.ofNat 8 (Cm.fst q aad size)]))) rfl rfl) (ev (.string (str nonce)) rfl rfl) (b_cat (by simp only [Cb.z_len, Cb.zn, List.length_append, List.length_cons, List.length_nil, Cm.num_len, Cm.head_len nonce aad text.length q size hq]; omega))) ?_
    refine d_pure (v := .string (str ((([BitVec.ofNat 8 (Cm.fst q aad size)]) ++ nonce) ++ (Cm.num text.length q)))) 10 rfl (by kernel_rfl) (by kernel_rfl) (by kernel_rfl) (by kernel_rfl) (fun _ _ _ h => h) (fun w' => y_bin (ev (.string (str (([BitVec.ofNat 8 (Cm.fst q aad size)]) ++ nonce))) rfl rfl) (ev (.string (str (Cm.num text.length q))) rfl rfl) (b_cat (by simp only [Cb.z_len, Cb.zn, List.length_append, List.length_cons, List.length_nil, Cm.num_len, Cm.head_len nonce aad text.length q size hq]; omega))) ?_
    refine d_pure (v := .string (str ((([BitVec.ofNat 8 (Cm.fst q aad size)]) ++ nonce) ++ (Cm.num text.length q)))) 11 rfl (by kernel_rfl) (by kernel_rfl) (by kernel_rfl) (by kernel_rfl) (fun _ _ _ h => h) (fun w' => y_as (ev (.string (str ((([BitVec.ofNat 8 (Cm.fst q aad size)]) ++ nonce) ++ (Cm.num text.length q)))) rfl rfl)) ?_
    refine d_done (by kernel_rfl) ?_
    clear hS
    exact then_n ⟨_, rfl, rfl, rfl, rfl, rfl, rfl, (Eq.trans (b := .int .i64 (15 - ((nonce.length : Nat) : Int))) rfl (by congr 1; omega)), (Eq.trans (b := .string (str ((([BitVec.ofNat 8 (Cm.fst q aad size)]) ++ nonce) ++ (Cm.num text.length q)))) rfl (by first | with_reducible rfl | (with_reducible congr 1 <;> omega) | (with_reducible congr 2 <;> omega) | (with_reducible congr 3 <;> omega) | rfl)), hk⟩
  ·skip
   clear hk
   rintro _ w16 ⟨f2, rfl, t3_s0, t3_s1, t3_s2, t3_s3, t3_s8, t3_s9, t3_s11, hk⟩
   refine wp_seq ?_
   refine sr ?_
   refine w_mv (ev (.string (str aad)) t3_s1 rfl) ?_
   refine w_val (y_len (ev (.string (str aad)) rfl rfl) Try.underlying9) ?_
   refine w_val (y_bin (ev (.int .i64 ((aad.length : Nat) : Int)) rfl rfl) (evc (.int .i64 0)) b_gtr) ?_
   refine w_mv (ev (.bool (decide (0 < ((aad.length : Nat) : Int)))) rfl rfl) ?_
   by_cases hc17 : 0 < ((aad.length : Nat) : Int)
   ·skip
    refine w_val_g (v := .string (str aad)) (want_yes (j := 3) rfl rfl (ev (.bool true) (Eq.trans (b := .bool (decide (0 < ((aad.length : Nat) : Int)))) rfl (by rw [decide_eq_true hc17])) rfl) rfl) (y_mv (ev (.string (str aad)) t3_s1 rfl)) ?_
    refine w_val_g (want_yes (j := 3) rfl rfl (ev (.bool true) (Eq.trans (b := .bool (decide (0 < ((aad.length : Nat) : Int)))) rfl (by rw [decide_eq_true hc17])) rfl) rfl) (y_len (ev (.string (str aad)) rfl rfl) Try.underlying9) ?_
    refine w_val_g (want_yes (j := 3) rfl rfl (ev (.bool true) (Eq.trans (b := .bool (decide (0 < ((aad.length : Nat) : Int)))) rfl (by rw [decide_eq_true hc17])) rfl) rfl) (y_bin (ev (.int .i64 ((aad.length : Nat) : Int)) rfl rfl) (evc (.int .i64 65280)) b_lss) ?_
    refine w_val (y_pick_t (ev (.bool true) (Eq.trans (b := .bool (decide (0 < ((aad.length : Nat) : Int)))) rfl (by rw [decide_eq_true hc17])) rfl) (ev (.bool (decide (((aad.length : Nat) : Int) < 65280))) rfl rfl)) ?_
    refine nt ?_
    refine c_if (p := ((aad.length : Nat) : Int) < 65280) (ev (.bool (decide (((aad.length : Nat) : Int) < 65280))) rfl rfl) (fun hc18 => ?_) (fun hc18 => ?_)
    ·skip
     refine wp_region_lit ?_
     refine w_mv (ev (.string (str (Cm.head nonce aad text.length q size))) t3_s11 rfl) ?_
     refine w_mv (ev (.string (str aad)) t3_s1 rfl) ?_
     refine w_val (y_len (ev (.string (str aad)) rfl rfl) Try.underlying9) ?_
     refine w_call (Try.func116) (by kernel_rfl) rfl (m2 (ev (.int .i64 ((aad.length : Nat) : Int)) rfl rfl) (evc (.int .i64 2))) (cmWide aad.length 2 (by omega) (by omega) (by omega) w16) ?_
     rintro _ w19 ⟨rfl, hb20⟩
     refine ⟨_, rfl, ?_⟩
     replace hk := thenB hk hb20
     refine w_mv (ev (.string (str aad)) t3_s1 rfl) ?_
     refine w_val (y_bin (ev (.string (str (Cm.num aad.length 2))) rfl rfl) (ev (.string (str aad)) rfl rfl) (b_cat (by simp only [Cb.z_len, Cb.zn, List.length_append, List.length_cons, List.length_nil, Cm.num_len, Cm.head_len nonce aad text.length q size hq]; omega))) ?_
     refine w_call (Try.func117) (by kernel_rfl) rfl (m1 (ev (.string (str ((Cm.num aad.length 2) ++ aad))) rfl rfl)) (refFilled ((Cm.num aad.length 2) ++ aad) (by (try simp only [List.length_append, List.length_cons, List.length_nil, Cm.num_len, List.length_replicate]; omega); first | done | omega) w19) ?_
     rintro _ w21 ⟨rfl, hb22⟩
     refine ⟨_, rfl, ?_⟩
     replace hk := thenB hk hb22
     refine w_val (y_bin (ev (.string (str (Cm.head nonce aad text.length q size))) rfl rfl) (ev (.string (str (Cb.z ((Cm.num aad.length 2) ++ aad)))) rfl rfl) (b_cat (by simp only [Cb.z_len, Cb.zn, List.length_append, List.length_cons, List.length_nil, Cm.num_len, Cm.head_len nonce aad text.length q size hq]; omega))) ?_
     refine w_as (ev (.string (str ((Cm.head nonce aad text.length q size) ++ (Cb.z ((Cm.num aad.length 2) ++ aad))))) rfl rfl) ?_
     refine nt ?_
     refine sr ?_
     refine w_mv (ev (.string (str ((Cm.head nonce aad text.length q size) ++ (Cb.z ((Cm.num aad.length 2) ++ aad))))) rfl rfl) ?_
     refine w_mv (ev (.string (str text)) t3_s2 rfl) ?_
     refine w_call (Try.func117) (by kernel_rfl) rfl (m1 (ev (.string (str text)) rfl rfl)) (refFilled text (by (try simp only [List.length_append, List.length_cons, List.length_nil, Cm.num_len, List.length_replicate]; omega); first | done | omega) w21) ?_
     rintro _ w23 ⟨rfl, hb24⟩
     refine ⟨_, rfl, ?_⟩
     replace hk := thenB hk hb24
     refine w_val (y_bin (ev (.string (str ((Cm.head nonce aad text.length q size) ++ (Cb.z ((Cm.num aad.length 2) ++ aad))))) rfl rfl) (ev (.string (str (Cb.z text))) rfl rfl) (b_cat (by simp only [Cb.z_len, Cb.zn, List.length_append, List.length_cons, List.length_nil, Cm.num_len, Cm.head_len nonce aad text.length q size hq]; omega))) ?_
     refine w_as (ev (.string (str (((Cm.head nonce aad text.length q size) ++ (Cb.z ((Cm.num aad.length 2) ++ aad))) ++ (Cb.z text)))) rfl rfl) ?_
     refine nt ?_
     refine wp_ret ?_
     refine fin_ret1 rfl (ev (.string (str (((Cm.head nonce aad text.length q size) ++ (Cb.z ((Cm.num aad.length 2) ++ aad))) ++ (Cb.z text)))) rfl rfl) ?_
     refine ⟨congrArg Ending.returned ?_, hk⟩
     show (.string (str (((Cm.head nonce aad text.length q size) ++ (Cb.z ((Cm.num aad.length 2) ++ aad))) ++ (Cb.z text))) : Value) = .string (str (Cb.z (Cm.all nonce aad text q size)))
     rw [Cm.z_all nonce aad text q size hq]
     unfold Cm.bes
     first | (exfalso; omega) | (rw [if_pos (by omega), List.append_nil]) | (rw [if_neg (by omega), if_pos (by omega)]; done) | (rw [if_neg (by omega), if_neg (by omega)]; done) | (rw [if_neg (by omega), if_pos (by omega)]; rfl) | (rw [if_neg (by omega), if_neg (by omega)]; rfl)
    ·skip
     refine sr ?_
     refine w_mv (ev (.string (str aad)) t3_s1 rfl) ?_
     refine w_val (y_len (ev (.string (str aad)) rfl rfl) Try.underlying9) ?_
     refine w_val (y_bin (ev (.int .i64 ((aad.length : Nat) : Int)) rfl rfl) (evc (.int .i64 0)) b_gtr) ?_
     refine nt ?_
     refine c_tt (ev (.bool true) (Eq.trans (b := .bool (decide (0 < ((aad.length : Nat) : Int)))) rfl (by rw [decide_eq_true hc17])) rfl) ?_
     refine wp_region_lit ?_
     refine w_mv (ev (.string (str (Cm.head nonce aad text.length q size))) t3_s11 rfl) ?_
     refine w_mv (ev (.string (str aad)) t3_s1 rfl) ?_
     refine w_val (y_len (ev (.string (str aad)) rfl rfl) Try.underlying9) ?_
     refine w_call (Try.func116) (by kernel_rfl) rfl (m2 (ev (.int .i64 ((aad.length : Nat) : Int)) rfl rfl) (evc (.int .i64 4))) (cmWide aad.length 4 (by omega) (by omega) (by omega) w16) ?_
     rintro _ w25 ⟨rfl, hb26⟩
     refine ⟨_, rfl, ?_⟩
     replace hk := thenB hk hb26
     refine w_val (y_bin (evc (.string (str ([255#8, 254#8])))) (ev (.string (str (Cm.num aad.length 4))) rfl rfl) (b_cat (by simp only [Cb.z_len, Cb.zn, List.length_append, List.length_cons, List.length_nil, Cm.num_len, Cm.head_len nonce aad text.length q size hq]; omega))) ?_
     refine w_mv (ev (.string (str aad)) t3_s1 rfl) ?_
     refine w_val (y_bin (ev (.string (str (([255#8, 254#8]) ++ (Cm.num aad.length 4)))) rfl rfl) (ev (.string (str aad)) rfl rfl) (b_cat (by simp only [Cb.z_len, Cb.zn, List.length_append, List.length_cons, List.length_nil, Cm.num_len, Cm.head_len nonce aad text.length q size hq]; omega))) ?_
     refine w_call (Try.func117) (by kernel_rfl) rfl (m1 (ev (.string (str ((([255#8, 254#8]) ++ (Cm.num aad.length 4)) ++ aad))) rfl rfl)) (refFilled ((([255#8, 254#8]) ++ (Cm.num aad.length 4)) ++ aad) (by (try simp only [List.length_append, List.length_cons, List.length_nil, Cm.num_len, List.length_replicate]; omega); first | done | omega) w25) ?_
     rintro _ w27 ⟨rfl, hb28⟩
     refine ⟨_, rfl, ?_⟩
     replace hk := thenB hk hb28
     refine w_val (y_bin (ev (.string (str (Cm.head nonce aad text.length q size))) rfl rfl) (ev (.string (str (Cb.z ((([255#8, 254#8]) ++ (Cm.num aad.length 4)) ++ aad)))) rfl rfl) (b_cat (by simp only [Cb.z_len, Cb.zn, List.length_append, List.length_cons, List.length_nil, Cm.num_len, Cm.head_len nonce aad text.length q size hq]; omega))) ?_
     refine w_as (ev (.string (str ((Cm.head nonce aad text.length q size) ++ (Cb.z ((([255#8, 254#8]) ++ (Cm.num aad.length 4)) ++ aad))))) rfl rfl) ?_
     refine nt ?_
     refine sr ?_
     refine w_mv (ev (.string (str ((Cm.head nonce aad text.length q size) ++ (Cb.z ((([255#8, 254#8]) ++ (Cm.num aad.length 4)) ++ aad))))) rfl rfl) ?_
     refine w_mv (ev (.string (str text)) t3_s2 rfl) ?_
     refine w_call (Try.func117) (by kernel_rfl) rfl (m1 (ev (.string (str text)) rfl rfl)) (refFilled text (by (try simp only [List.length_append, List.length_cons, List.length_nil, Cm.num_len, List.length_replicate]; omega); first | done | omega) w27) ?_
     rintro _ w29 ⟨rfl, hb30⟩
     refine ⟨_, rfl, ?_⟩
     replace hk := thenB hk hb30
     refine w_val (y_bin (ev (.string (str ((Cm.head nonce aad text.length q size) ++ (Cb.z ((([255#8, 254#8]) ++ (Cm.num aad.length 4)) ++ aad))))) rfl rfl) (ev (.string (str (Cb.z text))) rfl rfl) (b_cat (by simp only [Cb.z_len, Cb.zn, List.length_append, List.length_cons, List.length_nil, Cm.num_len, Cm.head_len nonce aad text.length q size hq]; omega))) ?_
     refine w_as (ev (.string (str (((Cm.head nonce aad text.length q size) ++ (Cb.z ((([255#8, 254#8]) ++ (Cm.num aad.length 4)) ++ aad))) ++ (Cb.z text)))) rfl rfl) ?_
     refine nt ?_
     refine wp_ret ?_
     refine fin_ret1 rfl (ev (.string (str (((Cm.head nonce aad text.length q size) ++ (Cb.z ((([255#8, 254#8]) ++ (Cm.num aad.length 4)) ++ aad))) ++ (Cb.z text)))) rfl rfl) ?_
     refine ⟨congrArg Ending.returned ?_, hk⟩
     show (.string (str (((Cm.head nonce aad text.length q size) ++ (Cb.z ((([255#8, 254#8]) ++ (Cm.num aad.length 4)) ++ aad))) ++ (Cb.z text))) : Value) = .string (str (Cb.z (Cm.all nonce aad text q size)))
     rw [Cm.z_all nonce aad text q size hq]
     unfold Cm.bes
     first | (exfalso; omega) | (rw [if_pos (by omega), List.append_nil]) | (rw [if_neg (by omega), if_pos (by omega)]; done) | (rw [if_neg (by omega), if_neg (by omega)]; done) | (rw [if_neg (by omega), if_pos (by omega)]; rfl) | (rw [if_neg (by omega), if_neg (by omega)]; rfl)
   ·skip
    first | with_reducible refine w_skip ?_ ?_ | refine w_skip ?_ ?_
    · exact want_no (j := 3) rfl rfl (ev (.bool false) (Eq.trans (b := .bool (decide (0 < ((aad.length : Nat) : Int)))) rfl (by rw [decide_eq_false hc17])) rfl) rfl
    first | with_reducible refine w_skip ?_ ?_ | refine w_skip ?_ ?_
    · exact want_no (j := 3) rfl rfl (ev (.bool false) (Eq.trans (b := .bool (decide (0 < ((aad.length : Nat) : Int)))) rfl (by rw [decide_eq_false hc17])) rfl) rfl
    first | with_reducible refine w_skip ?_ ?_ | refine w_skip ?_ ?_
    · exact want_no (j := 3) rfl rfl (ev (.bool false) (Eq.trans (b := .bool (decide (0 < ((aad.length : Nat) : Int)))) rfl (by rw [decide_eq_false hc17])) rfl) rfl
    refine w_val (y_pick_f (ev (.bool false) (Eq.trans (b := .bool (decide (0 < ((aad.length : Nat) : Int)))) rfl (by rw [decide_eq_false hc17])) rfl) (evc (.bool false))) ?_
    refine nt ?_
    refine c_ff (ev (.bool false) rfl rfl) ?_
    refine sr ?_
    refine w_mv (ev (.string (str aad)) t3_s1 rfl) ?_
    refine w_val (y_len (ev (.string (str aad)) rfl rfl) Try.underlying9) ?_
    refine w_val (y_bin (ev (.int .i64 ((aad.length : Nat) : Int)) rfl rfl) (evc (.int .i64 0)) b_gtr) ?_
    refine nt ?_
    refine c_ff (ev (.bool false) (Eq.trans (b := .bool (decide (0 < ((aad.length : Nat) : Int)))) rfl (by rw [decide_eq_false hc17])) rfl) ?_
    refine wp_skip ?_
    refine then_n ?_
    refine sr ?_
    refine w_mv (ev (.string (str (Cm.head nonce aad text.length q size))) t3_s11 rfl) ?_
    refine w_mv (ev (.string (str text)) t3_s2 rfl) ?_
    refine w_call (Try.func117) (by kernel_rfl) rfl (m1 (ev (.string (str text)) rfl rfl)) (refFilled text (by (try simp only [List.length_append, List.length_cons, List.length_nil, Cm.num_len, List.length_replicate]; omega); first | done | omega) w16) ?_
    rintro _ w31 ⟨rfl, hb32⟩
    refine ⟨_, rfl, ?_⟩
    replace hk := thenB hk hb32
    refine w_val (y_bin (ev (.string (str (Cm.head nonce aad text.length q size))) rfl rfl) (ev (.string (str (Cb.z text))) rfl rfl) (b_cat (by simp only [Cb.z_len, Cb.zn, List.length_append, List.length_cons, List.length_nil, Cm.num_len, Cm.head_len nonce aad text.length q size hq]; omega))) ?_
    refine w_as (ev (.string (str ((Cm.head nonce aad text.length q size) ++ (Cb.z text)))) rfl rfl) ?_
    refine nt ?_
    refine wp_ret ?_
    refine fin_ret1 rfl (ev (.string (str ((Cm.head nonce aad text.length q size) ++ (Cb.z text)))) rfl rfl) ?_
    refine ⟨congrArg Ending.returned ?_, hk⟩
    show (.string (str ((Cm.head nonce aad text.length q size) ++ (Cb.z text))) : Value) = .string (str (Cb.z (Cm.all nonce aad text q size)))
    rw [Cm.z_all nonce aad text q size hq]
    unfold Cm.bes
    first | (exfalso; omega) | (rw [if_pos (by omega), List.append_nil]) | (rw [if_neg (by omega), if_pos (by omega)]; done) | (rw [if_neg (by omega), if_neg (by omega)]; done) | (rw [if_neg (by omega), if_pos (by omega)]; rfl) | (rw [if_neg (by omega), if_neg (by omega)]; rfl)
 ·skip
  refine wp_skip ?_
  refine then_n ?_
  refine c_cut (fun aN wl => ∃ f33, aN = fr 70 f33 ∧ f33 0 = .string (str nonce) ∧ f33 1 = .string (str aad) ∧ f33 2 = .string (str text) ∧ f33 3 = .int .i64 ((size : Nat) : Int) ∧ f33 8 = .string (str ([] : List (BitVec 8))) ∧ f33 9 = .int .i64 ((q : Nat) : Int) ∧ f33 11 = .string (str (Cm.head nonce aad text.length q size)) ∧ Below w0.heap.size w0 wl) ?_ ?_
  ·skip
   refine region_dc (Nat.testBit 0) 12 CcmDT.mixed rfl ?_
   intro w35 hb36
   replace hk := thenB hk hb36
   have hS : Cls w35 w35 := Below.refl _ _
   refine d_pure (v := .int .i64 (((Cm.fst q aad size) : Nat) : Int)) 0 rfl (by kernel_rfl) (by kernel_rfl) (by kernel_rfl) (by kernel_rfl) (fun _ _ _ h => h) (fun w' => y_mv (ev (.int .i64 (((Cm.fst q aad size) : Nat) : Int)) (Eq.trans (b := .int .i64 ((((8 * (((size : Nat) : Int) - 2)) / 2) + ((q : Nat) : Int)) - 1)) rfl (by exact congrArg (Value.int .i64) (by unfold Cm.fst; split <;> omega))) rfl)) ?_
   refine d_pure (v := U8 (BitVec.ofNat 8 (Cm.fst q aad size))) 1 rfl (by kernel_rfl) (by kernel_rfl) (by kernel_rfl) (by kernel_rfl) (fun _ _ _ h => h) (fun w' => y_nat_u8 (p := (Cm.fst q aad size)) (ev (.int .i64 (((Cm.fst q aad size) : Nat) : Int)) rfl rfl) (by omega) CcmDT.so3 Try.underlying5) ?_
   refine d_pure (v := .string (str nonce)) 4 rfl (by kernel_rfl) (by kernel_rfl) (by kernel_rfl) (by kernel_rfl) (fun _ _ _ h => h) (fun w' => y_mv (ev (.string (str nonce)) rfl rfl)) ?_
   refine d_pure (v := .string (str text)) 6 rfl (by kernel_rfl) (by kernel_rfl) (by kernel_rfl) (by kernel_rfl) (fun _ _ _ h => h) (fun w' => y_mv (ev (.string (str text)) rfl rfl)) ?_
   refine d_pure (v := .int .i64 ((text.length : Nat) : Int)) 7 rfl (by kernel_rfl) (by kernel_rfl) (by kernel_rfl) (by kernel_rfl) (fun _ _ _ h => h) (fun w' => y_len (ev (.string (str text)) rfl rfl) Try.underlying9) ?_
   refine d_pure (v := .int .i64 ((q : Nat) : Int)) 8 rfl (by kernel_rfl) (by kernel_rfl) (by kernel_rfl) (by kernel_rfl) (fun _ _ _ h => h) (fun w' => y_mv (ev (.int .i64 ((q : Nat) : Int)) (Eq.trans (b := .int .i64 (15 - ((nonce.length : Nat) : Int))) rfl (by congr 1; omega)) rfl)) ?_
   refine d_two 2 9 (by kernel_rfl) rfl rfl ?_ ?_
   ·skip
    refine w_bs1 (m := 1) (e := 5) (F := fun j => U8 (BitVec.ofNat 8 (Cm.fst q aad size))) (ev (U8 (BitVec.ofNat 8 (Cm.fst q aad size))) rfl rfl) (fun w => by kernel_rfl) ?_
    intro b_29 w37 hbe_b_29 r_b_29 hb38
    have ge_b_29 : w0.heap.size ≤ b_29 := by have := hk.size; omega
    clear hbe_b_29
    replace hk := thenB hk hb38
    replace hS := thenB hS hb38
    refine wpList_nil ?_
    refine then_n ⟨fun _ h => thenB h (by assumption), ?_⟩
    refine d_two 3 9 (by kernel_rfl) rfl rfl ?_ ?_
    ·skip
     refine w_val (y_str (l := [BitVec.ofNat 8 (Cm.fst q aad size)]) (ev (.slice (some ⟨b_29, 0, none⟩) 1 1) rfl rfl) (by rfl) Try.underlying54 Try.underlying5 Try.underlying9 (fun j hj => (r_b_29.val (by omega) (by (obtain rfl : j = 0 := (by omega)); rfl)))) ?_
     refine wpList_nil ?_
     refine then_n ⟨fun _ h => h, ?_⟩
     refine d_pure (v := .string (str (([BitVec.ofNat 8 (Cm.fst q aad size)]) ++ nonce))) 5 rfl (by kernel_rfl) (by kernel_rfl) (by kernel_rfl) (by kernel_rfl) (fun _ _ _ h => h) (fun w' => y_bin (ev (.string (str ([BitVec.ofNat 8 (Cm.fst q aad size)]))) rfl rfl) (ev (.string (str nonce)) rfl rfl) (b_cat (by simp only [Cb.z_len, Cb.zn, List.length_append, List.length_cons, List.length_nil, Cm.num_len, Cm.head_len nonce aad text.length q size hq]; omega))) ?_
     refine d_one 9 (by kernel_rfl) rfl ?_
     refine w_call (Try.func116) (by kernel_rfl) rfl (m2 (ev (.int .i64 ((text.length : Nat) : Int)) rfl rfl) (ev (.int .i64 ((q : Nat) : Int)) rfl rfl)) (cmWide text.length q (by omega) (by omega) (by omega) w37) ?_
     rintro _ w39 ⟨rfl, hb40⟩
     refine ⟨_, rfl, ?_⟩
     replace r_b_29 := r_b_29.step hb40
     replace hk := thenB hk hb40
     replace hS := thenB hS hb40
     refine wpList_nil ?_
     refine then_n ⟨fun _ h => thenB h (by assumption), ?_⟩
     refine d_pure (v := .string (str ((([BitVec.ofNat 8 (Cm.fst q aad size)]) ++ nonce) ++ (Cm.num text.length q)))) 10 rfl (by kernel_rfl) (by kernel_rfl) (by kernel_rfl) (by kernel_rfl) (fun _ _ _ h => h) (fun w' => y_bin (ev (.string (str (([BitVec.ofNat 8 (Cm.fst q aad size)]) ++ nonce))) rfl rfl) (ev (.string (str (Cm.num text.length q))) rfl rfl) (b_cat (by simp only [Cb.z_len, Cb.zn, List.length_append, List.length_cons, List.length_nil, Cm.num_len, Cm.head_len nonce aad text.length q size hq]; omega))) ?_
     refine d_pure (v := .string (str ((([BitVec.ofNat 8 (Cm.fst q aad size)]) ++ nonce) ++ (Cm.num text.length q)))) 11 rfl (by kernel_rfl) (by kernel_rfl) (by kernel_rfl) (by kernel_rfl) (fun _ _ _ h => h) (fun w' => y_as (ev (.string (str ((([BitVec.ofNat 8 (Cm.fst q aad size)]) ++ nonce) ++ (Cm.num text.length q)))) rfl rfl)) ?_
     refine d_done (by kernel_rfl) ?_
     clear hS
     exact then_n ⟨_, rfl, rfl, rfl, rfl, rfl, rfl, (Eq.trans (b := .int .i64 (15 - ((nonce.length : Nat) : Int))) rfl (by congr 1; omega)), (Eq.trans (b := .string (str ((([BitVec.ofNat 8 (Cm.fst q aad size)]) ++ nonce) ++ (Cm.num text.length q)))) rfl (by first | with_reducible rfl | (with_reducible congr 1 <;> omega) | (with_reducible congr 2 <;> omega) | (with_reducible congr 3 <;> omega) | rfl)), hk⟩
    ·skip
     refine w_call (Try.func116) (by kernel_rfl) rfl (m2 (ev (.int .i64 ((text.length : Nat) : Int)) rfl rfl) (ev (.int .i64 ((q : Nat) : Int)) rfl rfl)) (cmWide text.length q (by omega) (by omega) (by omega) w37) ?_
     rintro _ w41 ⟨rfl, hb42⟩
     refine ⟨_, rfl, ?_⟩
     replace r_b_29 := r_b_29.step hb42
     replace hk := thenB hk hb42
     replace hS := thenB hS hb42
     refine wpList_nil ?_
     refine then_n ⟨fun _ h => thenB h (by assumption), ?_⟩
     refine d_one 3 (by kernel_rfl) rfl ?_
     refine w_val (y_str (l := [BitVec.ofNat 8 (Cm.fst q aad size)]) (ev (.slice (some ⟨b_29, 0, none⟩) 1 1) rfl rfl) (by rfl) Try.underlying54 Try.underlying5 Try.underlying9 (fun j hj => (r_b_29.val (by omega) (by (obtain rfl : j = 0 := (by omega)); rfl)))) ?_
     refine wpList_nil ?_
     refine then_n ⟨fun _ h => h, ?_⟩
     refine d_pure (v := .string (str (([BitVec.ofNat 8 (Cm.fst q aad size)]) ++ nonce))) 5 rfl (by kernel_rfl) (by kernel_rfl) (by kernel_rfl) (by kernel_rfl) (fun _ _ _ h => h) (fun w' => y_bin (ev (.string (str ([BitVec.ofNat 8 (Cm.fst q aad size)]))) rfl rfl) (ev (.string (str nonce)) rfl rfl) (b_cat (by simp only [Cb.z_len, Cb.zn, List.length_append, List.length_cons, List.length_nil, Cm.num_len, Cm.head_len nonce aad text.length q size hq]; omega))) ?_
     refine d_pure (v := .string (str ((([BitVec.ofNat 8 (Cm.fst q aad size)]) ++ nonce) ++ (Cm.num text.length q)))) 10 rfl (by kernel_rfl) (by kernel_rfl) (by kernel_rfl) (by kernel_rfl) (fun _ _ _ h => h) (fun w' => y_bin (ev (.string (str (([BitVec.ofNat 8 (Cm.fst q aad size)]) ++ nonce))) rfl rfl) (ev (.string (str (Cm.num text.length q))) rfl rfl) (b_cat (by simp only [Cb.z_len, Cb.zn, List.length_append, List.length_cons, List.length_nil, Cm.num_len, Cm.head_len nonce aad text.length q size hq]; omega))) ?_
     refine d_pure (v := .string (str ((([BitVec.ofNat 8 (Cm.fst q aad size)]) ++ nonce) ++ (Cm.num text.length q)))) 11 rfl (by kernel_rfl) (by kernel_rfl) (by kernel_rfl) (by kernel_rfl) (fun _ _ _ h => h) (fun w' => y_as (ev (.string (str ((([BitVec.ofNat 8 (Cm.fst q aad size)]) ++ nonce) ++ (Cm.num text.length q)))) rfl rfl)) ?_
     refine d_done (by kernel_rfl) ?_
     clear hS
     exact then_n ⟨_, rfl, rfl, rfl, rfl, rfl, rfl, (Eq.trans (b := .int .i64 (15 - ((nonce.length : Nat) : Int))) rfl (by congr 1; omega)), (Eq.trans (b := .string (str ((([BitVec.ofNat 8 (Cm.fst q aad size)]) ++ nonce) ++ (Cm.num text.length q)))) rfl (by first | with_reducible rfl | (with_reducible congr 1 <;> omega) | (with_reducible congr 2 <;> omega) | (with_reducible congr 3 <;> omega) | rfl)), hk⟩
   ·skip
    refine w_call (Try.func116) (by kernel_rfl) rfl (m2 (ev (.int .i64 ((text.length : Nat) : Int)) rfl rfl) (ev (.int .i64 ((q : Nat) : Int)) rfl rfl)) (cmWide text.length q (by omega) (by omega) (by omega) w35) ?_
    rintro _ w43 ⟨rfl, hb44⟩
    refine ⟨_, rfl, ?_⟩
    replace hk := thenB hk hb44
    replace hS := thenB hS hb44
    refine wpList_nil ?_
    refine then_n ⟨fun _ h => thenB h (by assumption), ?_⟩
    refine d_one 2 (by kernel_rfl) rfl ?_
    refine w_bs1 (m := 1) (e := 5) (F := fun j => U8 (BitVec.ofNat 8 (Cm.fst q aad size))) (ev (U8 (BitVec.ofNat 8 (Cm.fst q aad size))) rfl rfl) (fun w => by kernel_rfl) ?_
    intro b_29 w45 hbe_b_29 r_b_29 hb46
    have ge_b_29 : w0.heap.size ≤ b_29 := by have := hk.size; omega
    clear hbe_b_29
    replace hk := thenB hk hb46
    replace hS := thenB hS hb46
    refine wpList_nil ?_
    refine then_n ⟨fun _ h => thenB h (by assumption), ?_⟩
    refine d_one 3 (by kernel_rfl) rfl ?_
    refine w_val (y_str (l := [BitVec.ofNat 8 (Cm.fst q aad size)]) (ev (.slice (some ⟨b_29, 0, none⟩) 1 1) rfl rfl) (by rfl) Try.underlying54 Try.underlying5 Try.underlying9 (fun j hj => (r_b_29.val (by omega) (by (obtain rfl : j = 0 := (by omega)); rfl)))) ?_
    refine wpList_nil ?_
    refine then_n ⟨fun _ h => h, ?_⟩
    refine d_pure (v := .string (str (([BitVec.ofNat 8 (Cm.fst q aad size)]) ++ nonce))) 5 rfl (by kernel_rfl) (by kernel_rfl) (by kernel_rfl) (by kernel_rfl) (fun _ _ _ h => h) (fun w' => y_bin (ev (.string (str ([BitVec.ofNat 8 (Cm.fst q aad size)]))) rfl rfl) (ev (.string (str nonce)) rfl rfl) (b_cat (by simp only [Cb.z_len, Cb.zn, List.length_append, List.length_cons, List.length_nil, Cm.num_len, Cm.head_len nonce aad text.length q size hq]; omega))) ?_
    refine d_pure (v := .string (str ((([BitVec.ofNat 8 (Cm.fst q aad size)]) ++ nonce) ++ (Cm.num text.length q)))) 10 rfl (by kernel_rfl) (by kernel_rfl) (by kernel_rfl) (by kernel_rfl) (fun _ _ _ h => h) (fun w' => y_bin (ev (.string (str (([BitVec.ofNat 8 (Cm.fst q aad size)]) ++ nonce))) rfl rfl) (ev (.string (str (Cm.num text.length q))) rfl rfl) (b_cat (by simp only [Cb.z_len, Cb.zn, List.length_append, List.length_cons, List.length_nil, Cm.num_len, Cm.head_len nonce aad text.length q size hq]; omega))) ?_
    refine d_pure (v := .string (str ((([BitVec.ofNat 8 (Cm.fst q aad size)]) ++ nonce) ++ (Cm.num text.length q)))) 11 rfl (by kernel_rfl) (by kernel_rfl) (by kernel_rfl) (by kernel_rfl) (fun _ _ _ h => h) (fun w' => y_as (ev (.string (str ((([BitVec.ofNat 8 (Cm.fst q aad size)]) ++ nonce) ++ (Cm.num text.length q)))) rfl rfl)) ?_
    refine d_done (by kernel_rfl) ?_
    clear hS
    exact then_n ⟨_, rfl, rfl, rfl, rfl, rfl, rfl, (Eq.trans (b := .int .i64 (15 - ((nonce.length : Nat) : Int))) rfl (by congr 1; omega)), (Eq.trans (b := .string (str ((([BitVec.ofNat 8 (Cm.fst q aad size)]) ++ nonce) ++ (Cm.num text.length q)))) rfl (by first | with_reducible rfl | (with_reducible congr 1 <;> omega) | (with_reducible congr 2 <;> omega) | (with_reducible congr 3 <;> omega) | rfl)), hk⟩
  ·skip
   clear hk
   rintro _ w47 ⟨f33, rfl, t34_s0, t34_s1, t34_s2, t34_s3, t34_s8, t34_s9, t34_s11, hk⟩
   refine wp_seq ?_
   refine sr ?_
   refine w_mv (ev (.string (str aad)) t34_s1 rfl) ?_
   refine w_val (y_len (ev (.string (str aad)) rfl rfl) Try.underlying9) ?_
   refine w_val (y_bin (ev (.int .i64 ((aad.length : Nat) : Int)) rfl rfl) (evc (.int .i64 0)) b_gtr) ?_
   refine w_mv (ev (.bool (decide (0 < ((aad.length : Nat) : Int)))) rfl rfl) ?_
   by_cases hc48 : 0 < ((aad.length : Nat) : Int)
   ·skip
    refine w_val_g (v := .string (str aad)) (want_yes (j := 3) rfl rfl (ev (.bool true) (Eq.trans (b := .bool (decide (0 < ((aad.length : Nat) : Int)))) rfl (by rw [decide_eq_true hc48])) rfl) rfl) (y_mv (ev (.string (str aad)) t34_s1 rfl)) ?_
    refine w_val_g (want_yes (j := 3) rfl rfl (ev (.bool true) (Eq.trans (b := .bool (decide (0 < ((aad.length : Nat) : Int)))) rfl (by rw [decide_eq_true hc48])) rfl) rfl) (y_len (ev (.string (str aad)) rfl rfl) Try.underlying9) ?_
    refine w_val_g (want_yes (j := 3) rfl rfl (ev (.bool true) (Eq.trans (b := .bool (decide (0 < ((aad.length : Nat) : Int)))) rfl (by rw [decide_eq_true hc48])) rfl) rfl) (y_bin (ev (.int .i64 ((aad.length : Nat) : Int)) rfl rfl) (evc (.int .i64 65280)) b_lss) ?_
    refine w_val (y_pick_t (ev (.bool true) (Eq.trans (b := .bool (decide (0 < ((aad.length : Nat) : Int)))) rfl (by rw [decide_eq_true hc48])) rfl) (ev (.bool (decide (((aad.length : Nat) : Int) < 65280))) rfl rfl)) ?_
    refine nt ?_
    refine c_if (p := ((aad.length : Nat) : Int) < 65280) (ev (.bool (decide (((aad.length : Nat) : Int) < 65280))) rfl rfl) (fun hc49 => ?_) (fun hc49 => ?_)
    ·skip
     refine wp_region_lit ?_
     refine w_mv (ev (.string (str (Cm.head nonce aad text.length q size))) t34_s11 rfl) ?_
     refine w_mv (ev (.string (str aad)) t34_s1 rfl) ?_
     refine w_val (y_len (ev (.string (str aad)) rfl rfl) Try.underlying9) ?_
     refine w_call (Try.func116) (by kernel_rfl) rfl (m2 (ev (.int .i64 ((aad.length : Nat) : Int)) rfl rfl) (evc (.int .i64 2))) (cmWide aad.length 2 (by omega) (by omega) (by omega) w47) ?_
     rintro _ w50 ⟨rfl, hb51⟩
     refine ⟨_, rfl, ?_⟩
     replace hk := thenB hk hb51
     refine w_mv (ev (.string (str aad)) t34_s1 rfl) ?_
     refine w_val (y_bin (ev (.string (str (Cm.num aad.length 2))) rfl rfl) (ev (.string (str aad)) rfl rfl) (b_cat (by simp only [Cb.z_len, Cb.zn, List.length_append, List.length_cons, List.length_nil, Cm.num_len, Cm.head_len nonce aad text.length q size hq]; omega))) ?_
     refine w_call (Try.func117) (by kernel_rfl) rfl (m1 (ev (.string (str ((Cm.num aad.length 2) ++ aad))) rfl rfl)) (refFilled ((Cm.num aad.length 2) ++ aad) (by (try simp only [List.length_append, List.length_cons, List.length_nil, Cm.num_len, List.length_replicate]; omega); first | done | omega) w50) ?_
     rintro _ w52 ⟨rfl, hb53⟩
     refine ⟨_, rfl, ?_⟩
     replace hk := thenB hk hb53
     refine w_val (y_bin (ev (.string (str (Cm.head nonce aad text.length q size))) rfl rfl) (ev (.string (str (Cb.z ((Cm.num aad.length 2) ++ aad)))) rfl rfl) (b_cat (by simp only [Cb.z_len, Cb.zn, List.length_append, List.length_cons, List.length_nil, Cm.num_len, Cm.head_len nonce aad text.length q size hq]; omega))) ?_
     refine w_as (ev (.string (str ((Cm.head nonce aad text.length q size) ++ (Cb.z ((Cm.num aad.length 2) ++ aad))))) rfl rfl) ?_
     refine nt ?_
     refine sr ?_
     refine w_mv (ev (.string (str ((Cm.head nonce aad text.length q size) ++ (Cb.z ((Cm.num aad.length 2) ++ aad))))) rfl rfl) ?_
     refine w_mv (ev (.string (str text)) t34_s2 rfl) ?_
     refine w_call (Try.func117) (by kernel_rfl) rfl (m1 (ev (.string (str text)) rfl rfl)) (refFilled text (by (try simp only [List.length_append, List.length_cons, List.length_nil, Cm.num_len, List.length_replicate]; omega); first | done | omega) w52) ?_
     rintro _ w54 ⟨rfl, hb55⟩
     refine ⟨_, rfl, ?_⟩
     replace hk := thenB hk hb55
     refine w_val (y_bin (ev (.string (str ((Cm.head nonce aad text.length q size) ++ (Cb.z ((Cm.num aad.length 2) ++ aad))))) rfl rfl) (ev (.string (str (Cb.z text))) rfl rfl) (b_cat (by simp only [Cb.z_len, Cb.zn, List.length_append, List.length_cons, List.length_nil, Cm.num_len, Cm.head_len nonce aad text.length q size hq]; omega))) ?_
     refine w_as (ev (.string (str (((Cm.head nonce aad text.length q size) ++ (Cb.z ((Cm.num aad.length 2) ++ aad))) ++ (Cb.z text)))) rfl rfl) ?_
     refine nt ?_
     refine wp_ret ?_
     refine fin_ret1 rfl (ev (.string (str (((Cm.head nonce aad text.length q size) ++ (Cb.z ((Cm.num aad.length 2) ++ aad))) ++ (Cb.z text)))) rfl rfl) ?_
     refine ⟨congrArg Ending.returned ?_, hk⟩
     show (.string (str (((Cm.head nonce aad text.length q size) ++ (Cb.z ((Cm.num aad.length 2) ++ aad))) ++ (Cb.z text))) : Value) = .string (str (Cb.z (Cm.all nonce aad text q size)))
     rw [Cm.z_all nonce aad text q size hq]
     unfold Cm.bes
     first | (exfalso; omega) | (rw [if_pos (by omega), List.append_nil]) | (rw [if_neg (by omega), if_pos (by omega)]; done) | (rw [if_neg (by omega), if_neg (by omega)]; done) | (rw [if_neg (by omega), if_pos (by omega)]; rfl) | (rw [if_neg (by omega), if_neg (by omega)]; rfl)
    ·skip
     refine sr ?_
     refine w_mv (ev (.string (str aad)) t34_s1 rfl) ?_
     refine w_val (y_len (ev (.string (str aad)) rfl rfl) Try.underlying9) ?_
     refine w_val (y_bin (ev (.int .i64 ((aad.length : Nat) : Int)) rfl rfl) (evc (.int .i64 0)) b_gtr) ?_
     refine nt ?_
     refine c_tt (ev (.bool true) (Eq.trans (b := .bool (decide (0 < ((aad.length : Nat) : Int)))) rfl (by rw [decide_eq_true hc48])) rfl) ?_
     refine wp_region_lit ?_
     refine w_mv (ev (.string (str (Cm.head nonce aad text.length q size))) t34_s11 rfl) ?_
     refine w_mv (ev (.string (str aad)) t34_s1 rfl) ?_
     refine w_val (y_len (ev (.string (str aad)) rfl rfl) Try.underlying9) ?_
     refine w_call (Try.func116) (by kernel_rfl) rfl (m2 (ev (.int .i64 ((aad.length : Nat) : Int)) rfl rfl) (evc (.int .i64 4))) (cmWide aad.length 4 (by omega) (by omega) (by omega) w47) ?_
     rintro _ w56 ⟨rfl, hb57⟩
     refine ⟨_, rfl, ?_⟩
     replace hk := thenB hk hb57
     refine w_val (y_bin (evc (.string (str ([255#8, 254#8])))) (ev (.string (str (Cm.num aad.length 4))) rfl rfl) (b_cat (by simp only [Cb.z_len, Cb.zn, List.length_append, List.length_cons, List.length_nil, Cm.num_len, Cm.head_len nonce aad text.length q size hq]; omega))) ?_
     refine w_mv (ev (.string (str aad)) t34_s1 rfl) ?_
     refine w_val (y_bin (ev (.string (str (([255#8, 254#8]) ++ (Cm.num aad.length 4)))) rfl rfl) (ev (.string (str aad)) rfl rfl) (b_cat (by simp only [Cb.z_len, Cb.zn, List.length_append, List.length_cons, List.length_nil, Cm.num_len, Cm.head_len nonce aad text.length q size hq]; omega))) ?_
     refine w_call (Try.func117) (by kernel_rfl) rfl (m1 (ev (.string (str ((([255#8, 254#8]) ++ (Cm.num aad.length 4)) ++ aad))) rfl rfl)) (refFilled ((([255#8, 254#8]) ++ (Cm.num aad.length 4)) ++ aad) (by (try simp only [List.length_append, List.length_cons, List.length_nil, Cm.num_len, List.length_replicate]; omega); first | done | omega) w56) ?_
     rintro _ w58 ⟨rfl, hb59⟩
     refine ⟨_, rfl, ?_⟩
     replace hk := thenB hk hb59
     refine w_val (y_bin (ev (.string (str (Cm.head nonce aad text.length q size))) rfl rfl) (ev (.string (str (Cb.z ((([255#8, 254#8]) ++ (Cm.num aad.length 4)) ++ aad)))) rfl rfl) (b_cat (by simp only [Cb.z_len, Cb.zn, List.length_append, List.length_cons, List.length_nil, Cm.num_len, Cm.head_len nonce aad text.length q size hq]; omega))) ?_
     refine w_as (ev (.string (str ((Cm.head nonce aad text.length q size) ++ (Cb.z ((([255#8, 254#8]) ++ (Cm.num aad.length 4)) ++ aad))))) rfl rfl) ?_
     refine nt ?_
     refine sr ?_
     refine w_mv (ev (.string (str ((Cm.head nonce aad text.length q size) ++ (Cb.z ((([255#8, 254#8]) ++ (Cm.num aad.length 4)) ++ aad))))) rfl rfl) ?_
     refine w_mv (ev (.string (str text)) t34_s2 rfl) ?_
     refine w_call (Try.func117) (by kernel_rfl) rfl (m1 (ev (.string (str text)) rfl rfl)) (refFilled text (by (try simp only [List.length_append, List.length_cons, List.length_nil, Cm.num_len, List.length_replicate]; omega); first | done | omega) w58) ?_
     rintro _ w60 ⟨rfl, hb61⟩
     refine ⟨_, rfl, ?_⟩
     replace hk := thenB hk hb61
     refine w_val (y_bin (ev (.string (str ((Cm.head nonce aad text.length q size) ++ (Cb.z ((([255#8, 254#8]) ++ (Cm.num aad.length 4)) ++ aad))))) rfl rfl) (ev (.string (str (Cb.z text))) rfl rfl) (b_cat (by simp only [Cb.z_len, Cb.zn, List.length_append, List.length_cons, List.length_nil, Cm.num_len, Cm.head_len nonce aad text.length q size hq]; omega))) ?_
     refine w_as (ev (.string (str (((Cm.head nonce aad text.length q size) ++ (Cb.z ((([255#8, 254#8]) ++ (Cm.num aad.length 4)) ++ aad))) ++ (Cb.z text)))) rfl rfl) ?_
     refine nt ?_
     refine wp_ret ?_
     refine fin_ret1 rfl (ev (.string (str (((Cm.head nonce aad text.length q size) ++ (Cb.z ((([255#8, 254#8]) ++ (Cm.num aad.length 4)) ++ aad))) ++ (Cb.z text)))) rfl rfl) ?_
     refine ⟨congrArg Ending.returned ?_, hk⟩
     show (.string (str (((Cm.head nonce aad text.length q size) ++ (Cb.z ((([255#8, 254#8]) ++ (Cm.num aad.length 4)) ++ aad))) ++ (Cb.z text))) : Value) = .string (str (Cb.z (Cm.all nonce aad text q size)))
     rw [Cm.z_all nonce aad text q size hq]
     unfold Cm.bes
     first | (exfalso; omega) | (rw [if_pos (by omega), List.append_nil]) | (rw [if_neg (by omega), if_pos (by omega)]; done) | (rw [if_neg (by omega), if_neg (by omega)]; done) | (rw [if_neg (by omega), if_pos (by omega)]; rfl) | (rw [if_neg (by omega), if_neg (by omega)]; rfl)
   ·skip
    first | with_reducible refine w_skip ?_ ?_ | refine w_skip ?_ ?_
    · exact want_no (j := 3) rfl rfl (ev (.bool false) (Eq.trans (b := .bool (decide (0 < ((aad.length : Nat) : Int)))) rfl (by rw [decide_eq_false hc48])) rfl) rfl
    first | with_reducible refine w_skip ?_ ?_ | refine w_skip ?_ ?_
    · exact want_no (j := 3) rfl rfl (ev (.bool false) (Eq.trans (b := .bool (decide (0 < ((aad.length : Nat) : Int)))) rfl (by rw [decide_eq_false hc48])) rfl) rfl
    first | with_reducible refine w_skip ?_ ?_ | refine w_skip ?_ ?_
    · exact want_no (j := 3) rfl rfl (ev (.bool false) (Eq.trans (b := .bool (decide (0 < ((aad.length : Nat) : Int)))) rfl (by rw [decide_eq_false hc48])) rfl) rfl
    refine w_val (y_pick_f (ev (.bool false) (Eq.trans (b := .bool (decide (0 < ((aad.length : Nat) : Int)))) rfl (by rw [decide_eq_false hc48])) rfl) (evc (.bool false))) ?_
    refine nt ?_
    refine c_ff (ev (.bool false) rfl rfl) ?_
    refine sr ?_
    refine w_mv (ev (.string (str aad)) t34_s1 rfl) ?_
    refine w_val (y_len (ev (.string (str aad)) rfl rfl) Try.underlying9) ?_
    refine w_val (y_bin (ev (.int .i64 ((aad.length : Nat) : Int)) rfl rfl) (evc (.int .i64 0)) b_gtr) ?_
    refine nt ?_
    refine c_ff (ev (.bool false) (Eq.trans (b := .bool (decide (0 < ((aad.length : Nat) : Int)))) rfl (by rw [decide_eq_false hc48])) rfl) ?_
    refine wp_skip ?_
    refine then_n ?_
    refine sr ?_
    refine w_mv (ev (.string (str (Cm.head nonce aad text.length q size))) t34_s11 rfl) ?_
    refine w_mv (ev (.string (str text)) t34_s2 rfl) ?_
    refine w_call (Try.func117) (by kernel_rfl) rfl (m1 (ev (.string (str text)) rfl rfl)) (refFilled text (by (try simp only [List.length_append, List.length_cons, List.length_nil, Cm.num_len, List.length_replicate]; omega); first | done | omega) w47) ?_
    rintro _ w62 ⟨rfl, hb63⟩
    refine ⟨_, rfl, ?_⟩
    replace hk := thenB hk hb63
    refine w_val (y_bin (ev (.string (str (Cm.head nonce aad text.length q size))) rfl rfl) (ev (.string (str (Cb.z text))) rfl rfl) (b_cat (by simp only [Cb.z_len, Cb.zn, List.length_append, List.length_cons, List.length_nil, Cm.num_len, Cm.head_len nonce aad text.length q size hq]; omega))) ?_
    refine w_as (ev (.string (str ((Cm.head nonce aad text.length q size) ++ (Cb.z text)))) rfl rfl) ?_
    refine nt ?_
    refine wp_ret ?_
    refine fin_ret1 rfl (ev (.string (str ((Cm.head nonce aad text.length q size) ++ (Cb.z text)))) rfl rfl) ?_
    refine ⟨congrArg Ending.returned ?_, hk⟩
    show (.string (str ((Cm.head nonce aad text.length q size) ++ (Cb.z text))) : Value) = .string (str (Cb.z (Cm.all nonce aad text q size)))
    rw [Cm.z_all nonce aad text q size hq]
    unfold Cm.bes
    first | (exfalso; omega) | (rw [if_pos (by omega), List.append_nil]) | (rw [if_neg (by omega), if_pos (by omega)]; done) | (rw [if_neg (by omega), if_neg (by omega)]; done) | (rw [if_neg (by omega), if_pos (by omega)]; rfl) | (rw [if_neg (by omega), if_neg (by omega)]; rfl)
end Go.Proofs.Ytjdcpejcnmpiaaa
