/-
  Names, fillings, what is wrong. Conditions as each says.
-/
import Derived.Test.YtjdcpejcnmpiaaaRows
import Derived.Test.YtjdcpejcnmpiaaaCbcE
import Derived.Test.YtjdcpejcnmpiaaaRecPlain
import Derived.Test.YtjdcpejcnmpiaaaGenSl
import Derived.ProofKit
namespace Go.Proofs.Ytjdcpejcnmpiaaa
open Go.RowKit
set_option linter.unusedSimpArgs false
set_option linter.unusedVariables false
namespace RecAT
theorem mixed : Try.prog.follows .mixedOrders = true := by kernel_rfl
end RecAT
set_option maxRecDepth 100000 in
set_option maxHeartbeats 1000000 in
theorem name_256  (w0 : World) : Calls Try.prog 41 #[.int .i64 256] w0 fun e w' => e = .returned (.tuple #[.string (str Rc.n256), .int .i64 0]) ∧ Below w0.heap.size w0 w' := by
 refine enter (n := 11) Try.func41 rfl rfl rfl ?_
 have hk : Below w0.heap.size w0 w0 := Below.refl _ _
 refine sr ?_
 refine w_as (evc (.string (str ([] : List (BitVec 8))))) ?_
 refine w_as (evc (.int .i64 0)) ?_
 refine nt ?_
 refine wp_seq ?_
 refine sr ?_
 refine w_mv (ev (.int .i64 256) rfl rfl) ?_
 refine nt ?_
 refine wp_block ?_
 refine sr ?_
 refine w_val (y_bin (ev (.int .i64 256) rfl rfl) (evc (.int .i64 256)) b_eql) ?_
 refine w_as (ev (.bool true) rfl rfl) ?_
 refine nt ?_
 refine c_tt (ev (.bool true) rfl rfl) ?_
 refine sr ?_
 refine w_as (evc (.string (str Rc.n256))) ?_
 refine w_as (evc (.int .i64 0)) ?_
 refine nt ?_
 refine wp_ret ?_
 refine inb_r ?_
 refine then_r ?_
 refine fin_ret2 rfl (ev (.string (str Rc.n256)) rfl rfl) (ev (.int .i64 0) rfl rfl) ?_
 exact ⟨rfl, hk⟩

set_option maxRecDepth 100000 in
set_option maxHeartbeats 1000000 in
theorem name_384  (w0 : World) : Calls Try.prog 41 #[.int .i64 384] w0 fun e w' => e = .returned (.tuple #[.string (str Rc.n384), .int .i64 0]) ∧ Below w0.heap.size w0 w' := by
 refine enter (n := 11) Try.func41 rfl rfl rfl ?_
 have hk : Below w0.heap.size w0 w0 := Below.refl _ _
 refine sr ?_
 refine w_as (evc (.string (str ([] : List (BitVec 8))))) ?_
 refine w_as (evc (.int .i64 0)) ?_
 refine nt ?_
 refine wp_seq ?_
 refine sr ?_
 refine w_mv (ev (.int .i64 384) rfl rfl) ?_
 refine nt ?_
 refine wp_block ?_
 refine sr ?_
 refine w_val (y_bin (ev (.int .i64 384) rfl rfl) (evc (.int .i64 256)) b_eql) ?_
 refine w_as (ev (.bool false) rfl rfl) ?_
 refine nt ?_
 refine c_ff (ev (.bool false) rfl rfl) ?_
 refine sr ?_
 refine w_val (y_bin (ev (.int .i64 384) rfl rfl) (evc (.int .i64 384)) b_eql) ?_
 refine w_as (ev (.bool true) rfl rfl) ?_
 refine nt ?_
 refine c_tt (ev (.bool true) rfl rfl) ?_
 refine sr ?_
 refine w_as (evc (.string (str Rc.n384))) ?_
 refine w_as (evc (.int .i64 0)) ?_
 refine nt ?_
 refine wp_ret ?_
 refine inb_r ?_
 refine then_r ?_
 refine fin_ret2 rfl (ev (.string (str Rc.n384)) rfl rfl) (ev (.int .i64 0) rfl rfl) ?_
 exact ⟨rfl, hk⟩

set_option maxRecDepth 100000 in
set_option maxHeartbeats 1000000 in
theorem name_512  (w0 : World) : Calls Try.prog 41 #[.int .i64 512] w0 fun e w' => e = .returned (.tuple #[.string (str Rc.n512), .int .i64 0]) ∧ Below w0.heap.size w0 w' := by
 refine enter (n := 11) Try.func41 rfl rfl rfl ?_
 have hk : Below w0.heap.size w0 w0 := Below.refl _ _
 refine sr ?_
 refine w_as (evc (.string (str ([] : List (BitVec 8))))) ?_
 refine w_as (evc (.int .i64 0)) ?_
 refine nt ?_
 refine wp_seq ?_
 refine sr ?_
 refine w_mv (ev (.int .i64 512) rfl rfl) ?_
 refine nt ?_
 refine wp_block ?_
 refine sr ?_
 refine w_val (y_bin (ev (.int .i64 512) rfl rfl) (evc (.int .i64 256)) b_eql) ?_
 refine w_as (ev (.bool false) rfl rfl) ?_
 refine nt ?_
 refine c_ff (ev (.bool false) rfl rfl) ?_
 refine sr ?_
 refine w_val (y_bin (ev (.int .i64 512) rfl rfl) (evc (.int .i64 384)) b_eql) ?_
 refine w_as (ev (.bool false) rfl rfl) ?_
 refine nt ?_
 refine c_ff (ev (.bool false) rfl rfl) ?_
 refine sr ?_
 refine w_val (y_bin (ev (.int .i64 512) rfl rfl) (evc (.int .i64 512)) b_eql) ?_
 refine w_as (ev (.bool true) rfl rfl) ?_
 refine nt ?_
 refine c_tt (ev (.bool true) rfl rfl) ?_
 refine sr ?_
 refine w_as (evc (.string (str Rc.n512))) ?_
 refine w_as (evc (.int .i64 0)) ?_
 refine nt ?_
 refine wp_ret ?_
 refine inb_r ?_
 refine then_r ?_
 refine fin_ret2 rfl (ev (.string (str Rc.n512)) rfl rfl) (ev (.int .i64 0) rfl rfl) ?_
 exact ⟨rfl, hk⟩

set_option maxRecDepth 100000 in
set_option maxHeartbeats 1000000 in
theorem name_o (k : Int) (h1 : k ≠ 256) (h2 : k ≠ 384) (h3 : k ≠ 512) (w0 : World) : Calls Try.prog 41 #[.int .i64 k] w0 fun e w' => e = .returned (.tuple #[.string (str ([] : List (BitVec 8))), .int .i64 11]) ∧ Below w0.heap.size w0 w' := by
 refine enter (n := 11) Try.func41 rfl rfl rfl ?_
 have hk : Below w0.heap.size w0 w0 := Below.refl _ _
 refine sr ?_
 refine w_as (evc (.string (str ([] : List (BitVec 8))))) ?_
 refine w_as (evc (.int .i64 0)) ?_
 refine nt ?_
 refine wp_seq ?_
 refine sr ?_
 refine w_mv (ev (.int .i64 k) rfl rfl) ?_
 refine nt ?_
 refine wp_block ?_
 refine sr ?_
 refine w_val (y_bin (ev (.int .i64 k) rfl rfl) (evc (.int .i64 256)) b_eql) ?_
 refine w_as (ev (.bool (decide (k = 256))) rfl rfl) ?_
 refine nt ?_
 refine c_if (p := k = 256) (ev (.bool (decide (k = 256))) rfl rfl) (fun hc1 => ?_) (fun hc1 => ?_)
 ·skip
  refine wp_seq ?_
  exfalso; omega
 ·skip
  refine sr ?_
  refine w_val (y_bin (ev (.int .i64 k) rfl rfl) (evc (.int .i64 384)) b_eql) ?_
  refine w_as (ev (.bool (decide (k = 384))) rfl rfl) ?_
  refine nt ?_
  refine c_if (p := k = 384) (ev (.bool (decide (k = 384))) rfl rfl) (fun hc2 => ?_) (fun hc2 => ?_)
  ·skip
   refine wp_seq ?_
   exfalso; omega
  ·skip
   refine sr ?_
   refine w_val (y_bin (ev (.int .i64 k) rfl rfl) (evc (.int .i64 512)) b_eql) ?_
   refine w_as (ev (.bool (decide (k = 512))) rfl rfl) ?_
   refine nt ?_
   refine c_if (p := k = 512) (ev (.bool (decide (k = 512))) rfl rfl) (fun hc3 => ?_) (fun hc3 => ?_)
   ·skip
    refine wp_seq ?_
    exfalso; omega
   ·skip
    refine wp_skip ?_
    refine inb_n ?_
    refine then_n ?_
    refine sr ?_
    refine w_as (evc (.string (str ([] : List (BitVec 8))))) ?_
    refine w_as (evc (.int .i64 11)) ?_
    refine nt ?_
    refine wp_ret ?_
    refine fin_ret2 rfl (ev (.string (str ([] : List (BitVec 8)))) rfl rfl) (ev (.int .i64 11) rfl rfl) ?_
    exact ⟨rfl, hk⟩

set_option maxRecDepth 100000 in
set_option maxHeartbeats 1000000 in
theorem refName_256  (w0 : World) : Calls Try.prog 42 #[.int .i64 256] w0 fun e w' => e = .returned (.tuple #[.string (str Rc.n256), .int .i64 0]) ∧ Below w0.heap.size w0 w' := by
 refine enter (n := 11) Try.func42 rfl rfl rfl ?_
 have hk : Below w0.heap.size w0 w0 := Below.refl _ _
 refine sr ?_
 refine w_as (evc (.string (str ([] : List (BitVec 8))))) ?_
 refine w_as (evc (.int .i64 0)) ?_
 refine nt ?_
 refine wp_seq ?_
 refine sr ?_
 refine w_mv (ev (.int .i64 256) rfl rfl) ?_
 refine nt ?_
 refine wp_block ?_
 refine sr ?_
 refine w_val (y_bin (ev (.int .i64 256) rfl rfl) (evc (.int .i64 256)) b_eql) ?_
 refine w_as (ev (.bool true) rfl rfl) ?_
 refine nt ?_
 refine c_tt (ev (.bool true) rfl rfl) ?_
 refine sr ?_
 refine w_as (evc (.string (str Rc.n256))) ?_
 refine w_as (evc (.int .i64 0)) ?_
 refine nt ?_
 refine wp_ret ?_
 refine inb_r ?_
 refine then_r ?_
 refine fin_ret2 rfl (ev (.string (str Rc.n256)) rfl rfl) (ev (.int .i64 0) rfl rfl) ?_
 exact ⟨rfl, hk⟩

set_option maxRecDepth 100000 in
set_option maxHeartbeats 1000000 in
theorem refName_384  (w0 : World) : Calls Try.prog 42 #[.int .i64 384] w0 fun e w' => e = .returned (.tuple #[.string (str Rc.n384), .int .i64 0]) ∧ Below w0.heap.size w0 w' := by
 refine enter (n := 11) Try.func42 rfl rfl rfl ?_
 have hk : Below w0.heap.size w0 w0 := Below.refl _ _
 refine sr ?_
 refine w_as (evc (.string (str ([] : List (BitVec 8))))) ?_
 refine w_as (evc (.int .i64 0)) ?_
 refine nt ?_
 refine wp_seq ?_
 refine sr ?_
 refine w_mv (ev (.int .i64 384) rfl rfl) ?_
 refine nt ?_
 refine wp_block ?_
 refine sr ?_
 refine w_val (y_bin (ev (.int .i64 384) rfl rfl) (evc (.int .i64 256)) b_eql) ?_
 refine w_as (ev (.bool false) rfl rfl) ?_
 refine nt ?_
 refine c_ff (ev (.bool false) rfl rfl) ?_
 refine sr ?_
 refine w_val (y_bin (ev (.int .i64 384) rfl rfl) (evc (.int .i64 384)) b_eql) ?_
 refine w_as (ev (.bool true) rfl rfl) ?_
 refine nt ?_
 refine c_tt (ev (.bool true) rfl rfl) ?_
 refine sr ?_
 refine w_as (evc (.string (str Rc.n384))) ?_
 refine w_as (evc (.int .i64 0)) ?_
 refine nt ?_
 refine wp_ret ?_
 refine inb_r ?_
 refine then_r ?_
 refine fin_ret2 rfl (ev (.string (str Rc.n384)) rfl rfl) (ev (.int .i64 0) rfl rfl) ?_
 exact ⟨rfl, hk⟩

set_option maxRecDepth 100000 in
set_option maxHeartbeats 1000000 in
theorem refName_512  (w0 : World) : Calls Try.prog 42 #[.int .i64 512] w0 fun e w' => e = .returned (.tuple #[.string (str Rc.n512), .int .i64 0]) ∧ Below w0.heap.size w0 w' := by
 refine enter (n := 11) Try.func42 rfl rfl rfl ?_
 have hk : Below w0.heap.size w0 w0 := Below.refl _ _
 refine sr ?_
 refine w_as (evc (.string (str ([] : List (BitVec 8))))) ?_
 refine w_as (evc (.int .i64 0)) ?_
 refine nt ?_
 refine wp_seq ?_
 refine sr ?_
 refine w_mv (ev (.int .i64 512) rfl rfl) ?_
 refine nt ?_
 refine wp_block ?_
 refine sr ?_
 refine w_val (y_bin (ev (.int .i64 512) rfl rfl) (evc (.int .i64 256)) b_eql) ?_
 refine w_as (ev (.bool false) rfl rfl) ?_
 refine nt ?_
 refine c_ff (ev (.bool false) rfl rfl) ?_
 refine sr ?_
 refine w_val (y_bin (ev (.int .i64 512) rfl rfl) (evc (.int .i64 384)) b_eql) ?_
 refine w_as (ev (.bool false) rfl rfl) ?_
 refine nt ?_
 refine c_ff (ev (.bool false) rfl rfl) ?_
 refine sr ?_
 refine w_val (y_bin (ev (.int .i64 512) rfl rfl) (evc (.int .i64 512)) b_eql) ?_
 refine w_as (ev (.bool true) rfl rfl) ?_
 refine nt ?_
 refine c_tt (ev (.bool true) rfl rfl) ?_
 refine sr ?_
 refine w_as (evc (.string (str Rc.n512))) ?_
 refine w_as (evc (.int .i64 0)) ?_
 refine nt ?_
 refine wp_ret ?_
 refine inb_r ?_
 refine then_r ?_
 refine fin_ret2 rfl (ev (.string (str Rc.n512)) rfl rfl) (ev (.int .i64 0) rfl rfl) ?_
 exact ⟨rfl, hk⟩

set_option maxRecDepth 100000 in
set_option maxHeartbeats 1000000 in
theorem refName_o (k : Int) (h1 : k ≠ 256) (h2 : k ≠ 384) (h3 : k ≠ 512) (w0 : World) : Calls Try.prog 42 #[.int .i64 k] w0 fun e w' => e = .returned (.tuple #[.string (str ([] : List (BitVec 8))), .int .i64 11]) ∧ Below w0.heap.size w0 w' := by
 refine enter (n := 11) Try.func42 rfl rfl rfl ?_
 have hk : Below w0.heap.size w0 w0 := Below.refl _ _
 refine sr ?_
 refine w_as (evc (.string (str ([] : List (BitVec 8))))) ?_
 refine w_as (evc (.int .i64 0)) ?_
 refine nt ?_
 refine wp_seq ?_
 refine sr ?_
 refine w_mv (ev (.int .i64 k) rfl rfl) ?_
 refine nt ?_
 refine wp_block ?_
 refine sr ?_
 refine w_val (y_bin (ev (.int .i64 k) rfl rfl) (evc (.int .i64 256)) b_eql) ?_
 refine w_as (ev (.bool (decide (k = 256))) rfl rfl) ?_
 refine nt ?_
 refine c_if (p := k = 256) (ev (.bool (decide (k = 256))) rfl rfl) (fun hc1 => ?_) (fun hc1 => ?_)
 ·skip
  refine wp_seq ?_
  exfalso; omega
 ·skip
  refine sr ?_
  refine w_val (y_bin (ev (.int .i64 k) rfl rfl) (evc (.int .i64 384)) b_eql) ?_
  refine w_as (ev (.bool (decide (k = 384))) rfl rfl) ?_
  refine nt ?_
  refine c_if (p := k = 384) (ev (.bool (decide (k = 384))) rfl rfl) (fun hc2 => ?_) (fun hc2 => ?_)
  ·skip
   refine wp_seq ?_
   exfalso; omega
  ·skip
   refine sr ?_
   refine w_val (y_bin (ev (.int .i64 k) rfl rfl) (evc (.int .i64 512)) b_eql) ?_
   refine w_as (ev (.bool (decide (k = 512))) rfl rfl) ?_
   refine nt ?_
   refine c_if (p := k = 512) (ev (.bool (decide (k = 512))) rfl rfl) (fun hc3 => ?_) (fun hc3 => ?_)
   ·skip
    refine wp_seq ?_
    exfalso; omega
   ·skip
    refine wp_skip ?_
    refine inb_n ?_
    refine then_n ?_
    refine sr ?_
    refine w_as (evc (.string (str ([] : List (BitVec 8))))) ?_
    refine w_as (evc (.int .i64 11)) ?_
    refine nt ?_
    refine wp_ret ?_
    refine fin_ret2 rfl (ev (.string (str ([] : List (BitVec 8)))) rfl rfl) (ev (.int .i64 11) rfl rfl) ?_
    exact ⟨rfl, hk⟩

set_option maxRecDepth 100000 in
set_option maxHeartbeats 1000000 in
theorem fill_s (n : Int) (hn : ¬ (3 ≤ n ∧ n ≤ 255)) (w0 : World) : Calls Try.prog 34 #[.int .i64 n] w0 fun e w' => e = .returned (.tuple #[.int .i64 0, .int .i64 6]) ∧ Below w0.heap.size w0 w' := by
 refine enter (n := 20) Try.func34 rfl rfl rfl ?_
 have hk : Below w0.heap.size w0 w0 := Below.refl _ _
 refine sr ?_
 refine w_as (evc (.int .i64 0)) ?_
 refine w_as (evc (.int .i64 0)) ?_
 refine nt ?_
 refine wp_seq ?_
 refine sr ?_
 refine w_mv (ev (.int .i64 n) rfl rfl) ?_
 refine w_val (y_bin (ev (.int .i64 n) rfl rfl) (evc (.int .i64 3)) b_lss) ?_
 refine w_mv (ev (.bool (decide (n < 3))) rfl rfl) ?_
 by_cases hc1 : n < 3
 ·skip
  first | with_reducible refine w_skip ?_ ?_ | refine w_skip ?_ ?_
  · exact want_no (j := 2) rfl rfl (ev (.bool true) (Eq.trans (b := .bool (decide (n < 3))) rfl (by rw [decide_eq_true hc1])) rfl) rfl
  first | with_reducible refine w_skip ?_ ?_ | refine w_skip ?_ ?_
  · exact want_no (j := 2) rfl rfl (ev (.bool true) (Eq.trans (b := .bool (decide (n < 3))) rfl (by rw [decide_eq_true hc1])) rfl) rfl
  refine w_val (y_pick_t (ev (.bool true) (Eq.trans (b := .bool (decide (n < 3))) rfl (by rw [decide_eq_true hc1])) rfl) (evc (.bool true))) ?_
  refine nt ?_
  refine c_tt (ev (.bool true) rfl rfl) ?_
  refine sr ?_
  refine w_as (evc (.int .i64 0)) ?_
  refine w_as (evc (.int .i64 6)) ?_
  refine nt ?_
  refine wp_ret ?_
  refine then_r ?_
  refine fin_ret2 rfl (ev (.int .i64 0) rfl rfl) (ev (.int .i64 6) rfl rfl) ?_
  exact ⟨rfl, hk⟩
 ·skip
  refine w_val_g (v := .int .i64 n) (want_yes (j := 2) rfl rfl (ev (.bool false) (Eq.trans (b := .bool (decide (n < 3))) rfl (by rw [decide_eq_false hc1])) rfl) rfl) (y_mv (ev (.int .i64 n) rfl rfl)) ?_
  refine w_val_g (want_yes (j := 2) rfl rfl (ev (.bool false) (Eq.trans (b := .bool (decide (n < 3))) rfl (by rw [decide_eq_false hc1])) rfl) rfl) (y_bin (ev (.int .i64 n) rfl rfl) (evc (.int .i64 255)) b_gtr) ?_
  refine w_val (y_pick_f (ev (.bool false) (Eq.trans (b := .bool (decide (n < 3))) rfl (by rw [decide_eq_false hc1])) rfl) (ev (.bool (decide (255 < n))) rfl rfl)) ?_
  refine nt ?_
  refine c_if (p := 255 < n) (ev (.bool (decide (255 < n))) rfl rfl) (fun hc2 => ?_) (fun hc2 => ?_)
  ·skip
   refine sr ?_
   refine w_as (evc (.int .i64 0)) ?_
   refine w_as (evc (.int .i64 6)) ?_
   refine nt ?_
   refine wp_ret ?_
   refine then_r ?_
   refine fin_ret2 rfl (ev (.int .i64 0) rfl rfl) (ev (.int .i64 6) rfl rfl) ?_
   exact ⟨rfl, hk⟩
  ·skip
   refine wp_skip ?_
   refine then_n ?_
   refine ss ?_
   exfalso; omega

set_option maxRecDepth 100000 in
set_option maxHeartbeats 1000000 in
theorem refFill_s (n : Int) (hn : ¬ (3 ≤ n ∧ n ≤ 255)) (w0 : World) : Calls Try.prog 35 #[.int .i64 n] w0 fun e w' => e = .returned (.tuple #[.int .i64 0, .int .i64 6]) ∧ Below w0.heap.size w0 w' := by
 refine enter (n := 27) Try.func35 rfl rfl rfl ?_
 have hk : Below w0.heap.size w0 w0 := Below.refl _ _
 refine sr ?_
 refine w_as (evc (.int .i64 0)) ?_
 refine w_as (evc (.int .i64 0)) ?_
 refine nt ?_
 refine wp_seq ?_
 refine sr ?_
 refine w_mv (ev (.int .i64 n) rfl rfl) ?_
 refine w_val (y_bin (ev (.int .i64 n) rfl rfl) (evc (.int .i64 3)) b_lss) ?_
 refine w_mv (ev (.bool (decide (n < 3))) rfl rfl) ?_
 by_cases hc1 : n < 3
 ·skip
  first | with_reducible refine w_skip ?_ ?_ | refine w_skip ?_ ?_
  · exact want_no (j := 2) rfl rfl (ev (.bool true) (Eq.trans (b := .bool (decide (n < 3))) rfl (by rw [decide_eq_true hc1])) rfl) rfl
  first | with_reducible refine w_skip ?_ ?_ | refine w_skip ?_ ?_
  · exact want_no (j := 2) rfl rfl (ev (.bool true) (Eq.trans (b := .bool (decide (n < 3))) rfl (by rw [decide_eq_true hc1])) rfl) rfl
  refine w_val (y_pick_t (ev (.bool true) (Eq.trans (b := .bool (decide (n < 3))) rfl (by rw [decide_eq_true hc1])) rfl) (evc (.bool true))) ?_
  refine nt ?_
  refine c_tt (ev (.bool true) rfl rfl) ?_
  refine sr ?_
  refine w_as (evc (.int .i64 0)) ?_
  refine w_as (evc (.int .i64 6)) ?_
  refine nt ?_
  refine wp_ret ?_
  refine then_r ?_
  refine fin_ret2 rfl (ev (.int .i64 0) rfl rfl) (ev (.int .i64 6) rfl rfl) ?_
  exact ⟨rfl, hk⟩
 ·skip
  refine w_val_g (v := .int .i64 n) (want_yes (j := 2) rfl rfl (ev (.bool false) (Eq.trans (b := .bool (decide (n < 3))) rfl (by rw [decide_eq_false hc1])) rfl) rfl) (y_mv (ev (.int .i64 n) rfl rfl)) ?_
  refine w_val_g (want_yes (j := 2) rfl rfl (ev (.bool false) (Eq.trans (b := .bool (decide (n < 3))) rfl (by rw [decide_eq_false hc1])) rfl) rfl) (y_bin (ev (.int .i64 n) rfl rfl) (evc (.int .i64 255)) b_gtr) ?_
  refine w_val (y_pick_f (ev (.bool false) (Eq.trans (b := .bool (decide (n < 3))) rfl (by rw [decide_eq_false hc1])) rfl) (ev (.bool (decide (255 < n))) rfl rfl)) ?_
  refine nt ?_
  refine c_if (p := 255 < n) (ev (.bool (decide (255 < n))) rfl rfl) (fun hc2 => ?_) (fun hc2 => ?_)
  ·skip
   refine sr ?_
   refine w_as (evc (.int .i64 0)) ?_
   refine w_as (evc (.int .i64 6)) ?_
   refine nt ?_
   refine wp_ret ?_
   refine then_r ?_
   refine fin_ret2 rfl (ev (.int .i64 0) rfl rfl) (ev (.int .i64 6) rfl rfl) ?_
   exact ⟨rfl, hk⟩
  ·skip
   refine wp_skip ?_
   refine then_n ?_
   refine wp_seq ?_
   exfalso; omega

set_option maxRecDepth 100000 in
set_option maxHeartbeats 1000000 in
theorem fill_y (n : Nat) (h3 : 3 ≤ n) (h255 : n ≤ 255) (w0 : World) : Calls Try.prog 34 #[.int .i64 ((n : Nat) : Int)] w0 fun e w' => e = .returned (.tuple #[.int .i64 (((Rc.fl n) : Nat) : Int), .int .i64 0]) ∧ Below w0.heap.size w0 w' := by
 have hfl : (n + 4 < 32 ∧ Rc.fl n = 28 - n) ∨ (¬ n + 4 < 32 ∧ Rc.fl n = (16 - (n + 4) % 16) % 16) := by unfold Rc.fl; split <;> omega
 refine enter (n := 20) Try.func34 rfl rfl rfl ?_
 have hk : Below w0.heap.size w0 w0 := Below.refl _ _
 refine sr ?_
 refine w_as (evc (.int .i64 0)) ?_
 refine w_as (evc (.int .i64 0)) ?_
 refine nt ?_
 refine wp_seq ?_
 refine sr ?_
 refine w_mv (ev (.int .i64 ((n : Nat) : Int)) rfl rfl) ?_
 refine w_val (y_bin (ev (.int .i64 ((n : Nat) : Int)) rfl rfl) (evc (.int .i64 3)) b_lss) ?_
 refine w_mv (ev (.bool (decide (((n : Nat) : Int) < 3))) rfl rfl) ?_
 have hc1 : ¬ (((n : Nat) : Int) < 3) := by omega
 refine w_val_g (v := .int .i64 ((n : Nat) : Int)) (want_yes (j := 2) rfl rfl (ev (.bool false) (Eq.trans (b := .bool (decide (((n : Nat) : Int) < 3))) rfl (by rw [decide_eq_false hc1])) rfl) rfl) (y_mv (ev (.int .i64 ((n : Nat) : Int)) rfl rfl)) ?_
 refine w_val_g (want_yes (j := 2) rfl rfl (ev (.bool false) (Eq.trans (b := .bool (decide (((n : Nat) : Int) < 3))) rfl (by rw [decide_eq_false hc1])) rfl) rfl) (y_bin (ev (.int .i64 ((n : Nat) : Int)) rfl rfl) (evc (.int .i64 255)) b_gtr) ?_
 refine w_val (y_pick_f (ev (.bool false) (Eq.trans (b := .bool (decide (((n : Nat) : Int) < 3))) rfl (by rw [decide_eq_false hc1])) rfl) (ev (.bool (decide (255 < ((n : Nat) : Int)))) rfl rfl)) ?_
 refine nt ?_
 have hc2 : ¬ (255 < ((n : Nat) : Int)) := by omega
 refine c_f (p := 255 < ((n : Nat) : Int)) (ev (.bool (decide (255 < ((n : Nat) : Int)))) rfl rfl) hc2 ?_
 refine wp_skip ?_
 refine then_n ?_
 refine wp_seq ?_
 refine sr ?_
 refine w_mv (ev (.int .i64 ((n : Nat) : Int)) rfl rfl) ?_
 refine w_val (y_bin (ev (.int .i64 ((n : Nat) : Int)) rfl rfl) (evc (.int .i64 4)) (b_add (by omega))) ?_
 refine w_val (y_bin (ev (.int .i64 (((n : Nat) : Int) + 4)) rfl rfl) (evc (.int .i64 32)) b_lss) ?_
 refine nt ?_
 refine c_if (p := (((n : Nat) : Int) + 4) < 32) (ev (.bool (decide ((((n : Nat) : Int) + 4) < 32))) rfl rfl) (fun hc3 => ?_) (fun hc3 => ?_)
 ·skip
  refine sr ?_
  refine w_mv (ev (.int .i64 ((n : Nat) : Int)) rfl rfl) ?_
  refine w_val (y_bin (evc (.int .i64 28)) (ev (.int .i64 ((n : Nat) : Int)) rfl rfl) (b_sub (by omega))) ?_
  refine w_as (ev (.int .i64 (28 - ((n : Nat) : Int))) rfl rfl) ?_
  refine w_as (evc (.int .i64 0)) ?_
  refine nt ?_
  refine wp_ret ?_
  refine then_r ?_
  refine fin_ret2 rfl (ev (.int .i64 (28 - ((n : Nat) : Int))) rfl rfl) (ev (.int .i64 0) rfl rfl) ?_
  refine ⟨congrArg Ending.returned ?_, hk⟩
  show (.tuple #[.int .i64 (28 - ((n : Nat) : Int)), .int .i64 0] : Value) = .tuple #[.int .i64 (((Rc.fl n) : Nat) : Int), .int .i64 0]
  exact congrArg (fun i : Int => Value.tuple #[.int .i64 i, .int .i64 0]) (by omega)
 ·skip
  refine wp_skip ?_
  refine then_n ?_
  refine sr ?_
  refine w_mv (ev (.int .i64 ((n : Nat) : Int)) rfl rfl) ?_
  refine w_val (y_bin (ev (.int .i64 ((n : Nat) : Int)) rfl rfl) (evc (.int .i64 4)) (b_add (by omega))) ?_
  refine w_val (y_bin (ev (.int .i64 (((n : Nat) : Int) + 4)) rfl rfl) (evc (.int .i64 16)) (b_rem (by omega))) ?_
  refine w_val (y_bin (evc (.int .i64 16)) (ev (.int .i64 ((((n : Nat) : Int) + 4) % 16)) rfl rfl) (b_sub (by omega))) ?_
  refine w_val (y_bin (ev (.int .i64 (16 - ((((n : Nat) : Int) + 4) % 16))) rfl rfl) (evc (.int .i64 16)) (b_rem (by omega))) ?_
  refine w_as (ev (.int .i64 ((16 - ((((n : Nat) : Int) + 4) % 16)) % 16)) rfl rfl) ?_
  refine w_as (evc (.int .i64 0)) ?_
  refine nt ?_
  refine wp_ret ?_
  refine fin_ret2 rfl (ev (.int .i64 ((16 - ((((n : Nat) : Int) + 4) % 16)) % 16)) rfl rfl) (ev (.int .i64 0) rfl rfl) ?_
  refine ⟨congrArg Ending.returned ?_, hk⟩
  show (.tuple #[.int .i64 ((16 - ((((n : Nat) : Int) + 4) % 16)) % 16), .int .i64 0] : Value) = .tuple #[.int .i64 (((Rc.fl n) : Nat) : Int), .int .i64 0]
  exact congrArg (fun i : Int => Value.tuple #[.int .i64 i, .int .i64 0]) (by omega)

set_option maxRecDepth 100000 in
set_option maxHeartbeats 1000000 in
theorem refFill_y (n : Nat) (h3 : 3 ≤ n) (h255 : n ≤ 255) (w0 : World) : Calls Try.prog 35 #[.int .i64 ((n : Nat) : Int)] w0 fun e w' => e = .returned (.tuple #[.int .i64 (((Rc.fl n) : Nat) : Int), .int .i64 0]) ∧ Below w0.heap.size w0 w' := by
 have hfl : (n + 4 < 32 ∧ Rc.fl n = 28 - n) ∨ (¬ n + 4 < 32 ∧ Rc.fl n = (16 - (n + 4) % 16) % 16) := by unfold Rc.fl; split <;> omega
 refine enter (n := 27) Try.func35 rfl rfl rfl ?_
 have hk : Below w0.heap.size w0 w0 := Below.refl _ _
 refine sr ?_
 refine w_as (evc (.int .i64 0)) ?_
 refine w_as (evc (.int .i64 0)) ?_
 refine nt ?_
 refine wp_seq ?_
 refine sr ?_
 refine w_mv (ev (.int .i64 ((n : Nat) : Int)) rfl rfl) ?_
 refine w_val (y_bin (ev (.int .i64 ((n : Nat) : Int)) rfl rfl) (evc (.int .i64 3)) b_lss) ?_
 refine w_mv (ev (.bool (decide (((n : Nat) : Int) < 3))) rfl rfl) ?_
 have hc1 : ¬ (((n : Nat) : Int) < 3) := by omega
 refine w_val_g (v := .int .i64 ((n : Nat) : Int)) (want_yes (j := 2) rfl rfl (ev (.bool false) (Eq.trans (b := .bool (decide (((n : Nat) : Int) < 3))) rfl (by rw [decide_eq_false hc1])) rfl) rfl) (y_mv (ev (.int .i64 ((n : Nat) : Int)) rfl rfl)) ?_
 refine w_val_g (want_yes (j := 2) rfl rfl (ev (.bool false) (Eq.trans (b := .bool (decide (((n : Nat) : Int) < 3))) rfl (by rw [decide_eq_false hc1])) rfl) rfl) (y_bin (ev (.int .i64 ((n : Nat) : Int)) rfl rfl) (evc (.int .i64 255)) b_gtr) ?_
 refine w_val (y_pick_f (ev (.bool false) (Eq.trans (b := .bool (decide (((n : Nat) : Int) < 3))) rfl (by rw [decide_eq_false hc1])) rfl) (ev (.bool (decide (255 < ((n : Nat) : Int)))) rfl rfl)) ?_
 refine nt ?_
 have hc2 : ¬ (255 < ((n : Nat) : Int)) := by omega
 refine c_f (p := 255 < ((n : Nat) : Int)) (ev (.bool (decide (255 < ((n : Nat) : Int)))) rfl rfl) hc2 ?_
 refine wp_skip ?_
 refine then_n ?_
 refine sr ?_
 refine w_as (evc (.int .i64 0)) ?_
 refine nt ?_
 refine wp_seq ?_
 refine wp_block ?_
 refine c_loop (fun dN aN wl => ∃ (k : Nat), dN = (Rc.fl n - k) ∧ ∃ f3, aN = fr 27 f3 ∧ (k ≤ Rc.fl n) ∧ f3 0 = .int .i64 ((n : Nat) : Int) ∧ f3 2 = .int .i64 0 ∧ f3 3 = .int .i64 0 ∧ f3 4 = .int .i64 ((k : Nat) : Int) ∧ Below w0.heap.size w0 wl) (Rc.fl n - 0) ?_ ?_
 · exact ⟨0, rfl, _, rfl, iv, rfl, rfl, rfl, (etv (b := .int .i64 0) rfl), hk⟩
 ·skip
  clear hk
  rintro _ _ w4 ⟨k, rfl, f3, rfl, i1_0, s1_0, s1_2, s1_3, s1_4, hk⟩
  refine wp_seq ?_
  refine sr ?_
  refine w_mv (ev (.int .i64 ((n : Nat) : Int)) s1_0 rfl) ?_
  refine w_val (y_bin (evc (.int .i64 4)) (ev (.int .i64 ((n : Nat) : Int)) rfl rfl) (b_add (by omega))) ?_
  refine w_mv (ev (.int .i64 ((k : Nat) : Int)) s1_4 rfl) ?_
  refine w_val (y_bin (ev (.int .i64 (4 + ((n : Nat) : Int))) rfl rfl) (ev (.int .i64 ((k : Nat) : Int)) rfl rfl) (b_add (by omega))) ?_
  refine w_val (y_bin (ev (.int .i64 ((4 + ((n : Nat) : Int)) + ((k : Nat) : Int))) rfl rfl) (evc (.int .i64 16)) (b_rem (by omega))) ?_
  refine w_val (y_bin (ev (.int .i64 (((4 + ((n : Nat) : Int)) + ((k : Nat) : Int)) % 16)) rfl rfl) (evc (.int .i64 0)) b_neq) ?_
  refine w_mv (ev (.bool (decide ((((4 + ((n : Nat) : Int)) + ((k : Nat) : Int)) % 16) ≠ 0))) rfl rfl) ?_
  by_cases hc5 : (((4 + ((n : Nat) : Int)) + ((k : Nat) : Int)) % 16) ≠ 0
  ·skip
   first | with_reducible refine w_skip ?_ ?_ | refine w_skip ?_ ?_
   · exact want_no (j := 6) rfl rfl (ev (.bool true) (Eq.trans (b := .bool (decide ((((4 + ((n : Nat) : Int)) + ((k : Nat) : Int)) % 16) ≠ 0))) rfl (by rw [decide_eq_true hc5])) rfl) rfl
   first | with_reducible refine w_skip ?_ ?_ | refine w_skip ?_ ?_
   · exact want_no (j := 6) rfl rfl (ev (.bool true) (Eq.trans (b := .bool (decide ((((4 + ((n : Nat) : Int)) + ((k : Nat) : Int)) % 16) ≠ 0))) rfl (by rw [decide_eq_true hc5])) rfl) rfl
   first | with_reducible refine w_skip ?_ ?_ | refine w_skip ?_ ?_
   · exact want_no (j := 6) rfl rfl (ev (.bool true) (Eq.trans (b := .bool (decide ((((4 + ((n : Nat) : Int)) + ((k : Nat) : Int)) % 16) ≠ 0))) rfl (by rw [decide_eq_true hc5])) rfl) rfl
   first | with_reducible refine w_skip ?_ ?_ | refine w_skip ?_ ?_
   · exact want_no (j := 6) rfl rfl (ev (.bool true) (Eq.trans (b := .bool (decide ((((4 + ((n : Nat) : Int)) + ((k : Nat) : Int)) % 16) ≠ 0))) rfl (by rw [decide_eq_true hc5])) rfl) rfl
   first | with_reducible refine w_skip ?_ ?_ | refine w_skip ?_ ?_
   · exact want_no (j := 6) rfl rfl (ev (.bool true) (Eq.trans (b := .bool (decide ((((4 + ((n : Nat) : Int)) + ((k : Nat) : Int)) % 16) ≠ 0))) rfl (by rw [decide_eq_true hc5])) rfl) rfl
   refine w_val (y_pick_t (ev (.bool true) (Eq.trans (b := .bool (decide ((((4 + ((n : Nat) : Int)) + ((k : Nat) : Int)) % 16) ≠ 0))) rfl (by rw [decide_eq_true hc5])) rfl) (evc (.bool true))) ?_
   refine nt ?_
   refine c_tt (ev (.bool true) rfl rfl) ?_
   refine wp_skip ?_
   refine then_n ?_
   refine wp_block ?_
   refine wp_region_lit ?_
   refine w_mv (ev (.int .i64 ((k : Nat) : Int)) s1_4 rfl) ?_
   refine w_val (y_bin (ev (.int .i64 ((k : Nat) : Int)) rfl rfl) (evc (.int .i64 1)) (b_add (by omega))) ?_
   refine w_as (ev (.int .i64 (((k : Nat) : Int) + 1)) rfl rfl) ?_
   refine wpList_nil ?_
   refine inb_n ?_
   have hk1 : k + 1 ≤ Rc.fl n := by omega
   exact then_n ⟨_, (by omega), k + 1, rfl, _, rfl, iv, s1_0, s1_2, s1_3, (etv (b := .int .i64 (((k : Nat) : Int) + 1)) rfl), hk⟩
  ·skip
   refine w_val_g (v := .int .i64 ((n : Nat) : Int)) (want_yes (j := 6) rfl rfl (ev (.bool false) (Eq.trans (b := .bool (decide ((((4 + ((n : Nat) : Int)) + ((k : Nat) : Int)) % 16) ≠ 0))) rfl (by rw [decide_eq_false hc5])) rfl) rfl) (y_mv (ev (.int .i64 ((n : Nat) : Int)) s1_0 rfl)) ?_
   refine w_val_g (want_yes (j := 6) rfl rfl (ev (.bool false) (Eq.trans (b := .bool (decide ((((4 + ((n : Nat) : Int)) + ((k : Nat) : Int)) % 16) ≠ 0))) rfl (by rw [decide_eq_false hc5])) rfl) rfl) (y_bin (evc (.int .i64 4)) (ev (.int .i64 ((n : Nat) : Int)) rfl rfl) (b_add (by omega))) ?_
   refine w_val_g (v := .int .i64 ((k : Nat) : Int)) (want_yes (j := 6) rfl rfl (ev (.bool false) (Eq.trans (b := .bool (decide ((((4 + ((n : Nat) : Int)) + ((k : Nat) : Int)) % 16) ≠ 0))) rfl (by rw [decide_eq_false hc5])) rfl) rfl) (y_mv (ev (.int .i64 ((k : Nat) : Int)) s1_4 rfl)) ?_
   refine w_val_g (want_yes (j := 6) rfl rfl (ev (.bool false) (Eq.trans (b := .bool (decide ((((4 + ((n : Nat) : Int)) + ((k : Nat) : Int)) % 16) ≠ 0))) rfl (by rw [decide_eq_false hc5])) rfl) rfl) (y_bin (ev (.int .i64 (4 + ((n : Nat) : Int))) rfl rfl) (ev (.int .i64 ((k : Nat) : Int)) rfl rfl) (b_add (by omega))) ?_
   refine w_val_g (want_yes (j := 6) rfl rfl (ev (.bool false) (Eq.trans (b := .bool (decide ((((4 + ((n : Nat) : Int)) + ((k : Nat) : Int)) % 16) ≠ 0))) rfl (by rw [decide_eq_false hc5])) rfl) rfl) (y_bin (ev (.int .i64 ((4 + ((n : Nat) : Int)) + ((k : Nat) : Int))) rfl rfl) (evc (.int .i64 32)) b_lss) ?_
   refine w_val (y_pick_f (ev (.bool false) (Eq.trans (b := .bool (decide ((((4 + ((n : Nat) : Int)) + ((k : Nat) : Int)) % 16) ≠ 0))) rfl (by rw [decide_eq_false hc5])) rfl) (ev (.bool (decide (((4 + ((n : Nat) : Int)) + ((k : Nat) : Int)) < 32))) rfl rfl)) ?_
   refine nt ?_
   refine c_if (p := ((4 + ((n : Nat) : Int)) + ((k : Nat) : Int)) < 32) (ev (.bool (decide (((4 + ((n : Nat) : Int)) + ((k : Nat) : Int)) < 32))) rfl rfl) (fun hc6 => ?_) (fun hc6 => ?_)
   ·skip
    refine wp_skip ?_
    refine then_n ?_
    refine wp_block ?_
    refine wp_region_lit ?_
    refine w_mv (ev (.int .i64 ((k : Nat) : Int)) s1_4 rfl) ?_
    refine w_val (y_bin (ev (.int .i64 ((k : Nat) : Int)) rfl rfl) (evc (.int .i64 1)) (b_add (by omega))) ?_
    refine w_as (ev (.int .i64 (((k : Nat) : Int) + 1)) rfl rfl) ?_
    refine wpList_nil ?_
    refine inb_n ?_
    have hk1 : k + 1 ≤ Rc.fl n := by omega
    exact then_n ⟨_, (by omega), k + 1, rfl, _, rfl, iv, s1_0, s1_2, s1_3, (etv (b := .int .i64 (((k : Nat) : Int) + 1)) rfl), hk⟩
   ·skip
    refine wp_exit ?_
    refine then_x ?_
    refine then_x ?_
    refine inb_x ?_
    refine then_n ?_
    refine sr ?_
    refine w_mv (ev (.int .i64 ((k : Nat) : Int)) s1_4 rfl) ?_
    refine w_as (ev (.int .i64 ((k : Nat) : Int)) rfl rfl) ?_
    refine w_as (evc (.int .i64 0)) ?_
    refine nt ?_
    refine wp_ret ?_
    refine fin_ret2 rfl (ev (.int .i64 ((k : Nat) : Int)) rfl rfl) (ev (.int .i64 0) rfl rfl) ?_
    refine ⟨congrArg Ending.returned ?_, hk⟩
    show (.tuple #[.int .i64 ((k : Nat) : Int), .int .i64 0] : Value) = .tuple #[.int .i64 (((Rc.fl n) : Nat) : Int), .int .i64 0]
    exact congrArg (fun i : Int => Value.tuple #[.int .i64 i, .int .i64 0]) (by omega)

set_option maxRecDepth 100000 in
set_option maxHeartbeats 1000000 in
theorem rcWrong_k (key vi : List (BitVec 8)) (hok : ¬ Aes.okKey key.length) (w0 : World) : Calls Try.prog 65 #[.string (str key), .string (str vi)] w0 fun e w' => e = .returned (.int .i64 3) ∧ Below w0.heap.size w0 w' := by
 refine enter (n := 18) Try.func65 rfl rfl rfl ?_
 have hk : Below w0.heap.size w0 w0 := Below.refl _ _
 refine sr ?_
 refine w_as (evc (.int .i64 0)) ?_
 refine nt ?_
 refine wp_seq ?_
 refine sr ?_
 refine w_mv (ev (.string (str key)) rfl rfl) ?_
 refine w_call (Try.func62) (by kernel_rfl) rfl (m1 (ev (.string (str key)) rfl rfl)) (new_l_no key w0 hok) ?_
 rintro _ _ ⟨rfl, rfl⟩
 refine ⟨_, rfl, ?_⟩
 refine w_mv (ev (.tuple #[.pointer none, .int .i64 3]) rfl rfl) ?_
 refine w_val (y_ext (v := .pointer none) (ev (.tuple #[.pointer none, .int .i64 3]) rfl rfl) rfl) ?_
 refine w_val (y_ext (v := .int .i64 3) (ev (.tuple #[.pointer none, .int .i64 3]) rfl rfl) rfl) ?_
 refine w_as (ev (.pointer none) rfl rfl) ?_
 refine w_as (ev (.int .i64 3) rfl rfl) ?_
 refine nt ?_
 refine sr ?_
 refine w_mv (ev (.int .i64 3) rfl rfl) ?_
 refine w_val (y_bin (ev (.int .i64 3) rfl rfl) (evc (.int .i64 0)) b_neq) ?_
 refine nt ?_
 refine c_tt (ev (.bool true) rfl rfl) ?_
 refine sr ?_
 refine w_mv (ev (.int .i64 3) rfl rfl) ?_
 refine w_as (ev (.int .i64 3) rfl rfl) ?_
 refine nt ?_
 refine wp_ret ?_
 refine then_r ?_
 refine fin_ret1 rfl (ev (.int .i64 3) rfl rfl) ?_
 exact ⟨rfl, hk⟩

set_option maxRecDepth 100000 in
set_option maxHeartbeats 1000000 in
theorem rcWrong_i (key vi : List (BitVec 8)) (hok : Aes.okKey key.length) (hiv : vi.length ≠ 16) (w0 : World) : Calls Try.prog 65 #[.string (str key), .string (str vi)] w0 fun e w' => e = .returned (.int .i64 4) ∧ Below w0.heap.size w0 w' := by
 refine enter (n := 18) Try.func65 rfl rfl rfl ?_
 have hk : Below w0.heap.size w0 w0 := Below.refl _ _
 refine sr ?_
 refine w_as (evc (.int .i64 0)) ?_
 refine nt ?_
 refine wp_seq ?_
 refine sr ?_
 refine w_mv (ev (.string (str key)) rfl rfl) ?_
 refine w_call (Try.func62) (by kernel_rfl) rfl (m1 (ev (.string (str key)) rfl rfl)) (new_l key w0 hok) ?_
 rintro _ w1 ⟨p, rfl, hge_p, hc, hb_p⟩
 refine ⟨_, rfl, ?_⟩
 have ge_p : w0.heap.size ≤ p := by have := hk.size; omega
 replace hk := thenB hk hb_p
 refine w_mv (ev (.tuple #[pt p 0, .int .i64 0]) rfl rfl) ?_
 refine w_val (y_ext (v := pt p 0) (ev (.tuple #[pt p 0, .int .i64 0]) rfl rfl) rfl) ?_
 refine w_val (y_ext (v := .int .i64 0) (ev (.tuple #[pt p 0, .int .i64 0]) rfl rfl) rfl) ?_
 refine w_as (ev (pt p 0) rfl rfl) ?_
 refine w_as (ev (.int .i64 0) rfl rfl) ?_
 refine nt ?_
 refine sr ?_
 refine w_mv (ev (.int .i64 0) rfl rfl) ?_
 refine w_val (y_bin (ev (.int .i64 0) rfl rfl) (evc (.int .i64 0)) b_neq) ?_
 refine nt ?_
 refine c_ff (ev (.bool false) rfl rfl) ?_
 refine wp_skip ?_
 refine then_n ?_
 refine wp_seq ?_
 refine sr ?_
 refine w_mv (ev (.string (str vi)) rfl rfl) ?_
 refine w_val (y_len (ev (.string (str vi)) rfl rfl) Try.underlying9) ?_
 refine w_val (y_bin (ev (.int .i64 ((vi.length : Nat) : Int)) rfl rfl) (evc (.int .i64 16)) b_neq) ?_
 refine nt ?_
 have hc2 : ((vi.length : Nat) : Int) ≠ 16 := by omega
 refine c_t (p := ((vi.length : Nat) : Int) ≠ 16) (ev (.bool (decide (((vi.length : Nat) : Int) ≠ 16))) rfl rfl) hc2 ?_
 refine sr ?_
 refine w_as (evc (.int .i64 4)) ?_
 refine nt ?_
 refine wp_ret ?_
 refine then_r ?_
 refine fin_ret1 rfl (ev (.int .i64 4) rfl rfl) ?_
 exact ⟨rfl, hk⟩

set_option maxRecDepth 100000 in
set_option maxHeartbeats 1000000 in
theorem rcWrong_y (key vi : List (BitVec 8)) (hok : Aes.okKey key.length) (hiv : vi.length = 16) (w0 : World) : Calls Try.prog 65 #[.string (str key), .string (str vi)] w0 fun e w' => e = .returned (.int .i64 0) ∧ Below w0.heap.size w0 w' := by
 refine enter (n := 18) Try.func65 rfl rfl rfl ?_
 have hk : Below w0.heap.size w0 w0 := Below.refl _ _
 refine sr ?_
 refine w_as (evc (.int .i64 0)) ?_
 refine nt ?_
 refine wp_seq ?_
 refine sr ?_
 refine w_mv (ev (.string (str key)) rfl rfl) ?_
 refine w_call (Try.func62) (by kernel_rfl) rfl (m1 (ev (.string (str key)) rfl rfl)) (new_l key w0 hok) ?_
 rintro _ w1 ⟨p, rfl, hge_p, hc, hb_p⟩
 refine ⟨_, rfl, ?_⟩
 have ge_p : w0.heap.size ≤ p := by have := hk.size; omega
 replace hk := thenB hk hb_p
 refine w_mv (ev (.tuple #[pt p 0, .int .i64 0]) rfl rfl) ?_
 refine w_val (y_ext (v := pt p 0) (ev (.tuple #[pt p 0, .int .i64 0]) rfl rfl) rfl) ?_
 refine w_val (y_ext (v := .int .i64 0) (ev (.tuple #[pt p 0, .int .i64 0]) rfl rfl) rfl) ?_
 refine w_as (ev (pt p 0) rfl rfl) ?_
 refine w_as (ev (.int .i64 0) rfl rfl) ?_
 refine nt ?_
 refine sr ?_
 refine w_mv (ev (.int .i64 0) rfl rfl) ?_
 refine w_val (y_bin (ev (.int .i64 0) rfl rfl) (evc (.int .i64 0)) b_neq) ?_
 refine nt ?_
 refine c_ff (ev (.bool false) rfl rfl) ?_
 refine wp_skip ?_
 refine then_n ?_
 refine wp_seq ?_
 refine sr ?_
 refine w_mv (ev (.string (str vi)) rfl rfl) ?_
 refine w_val (y_len (ev (.string (str vi)) rfl rfl) Try.underlying9) ?_
 refine w_val (y_bin (ev (.int .i64 ((vi.length : Nat) : Int)) rfl rfl) (evc (.int .i64 16)) b_neq) ?_
 refine nt ?_
 have hc2 : ¬ (((vi.length : Nat) : Int) ≠ 16) := by omega
 refine c_f (p := ((vi.length : Nat) : Int) ≠ 16) (ev (.bool (decide (((vi.length : Nat) : Int) ≠ 16))) rfl rfl) hc2 ?_
 refine wp_skip ?_
 refine then_n ?_
 refine sr ?_
 refine w_as (evc (.int .i64 0)) ?_
 refine nt ?_
 refine wp_ret ?_
 refine fin_ret1 rfl (ev (.int .i64 0) rfl rfl) ?_
 exact ⟨rfl, hk⟩

set_option maxRecDepth 100000 in
set_option maxHeartbeats 1000000 in
theorem rcRefWrong_k (key vi : List (BitVec 8)) (hok : ¬ Aes.okKey key.length) (w0 : World) : Calls Try.prog 66 #[.string (str key), .string (str vi)] w0 fun e w' => e = .returned (.int .i64 3) ∧ Below w0.heap.size w0 w' := by
 refine enter (n := 11) Try.func66 rfl rfl rfl ?_
 have hk : Below w0.heap.size w0 w0 := Below.refl _ _
 refine sr ?_
 refine w_as (evc (.int .i64 0)) ?_
 refine nt ?_
 refine wp_seq ?_
 refine sr ?_
 refine w_mv (ev (.string (str key)) rfl rfl) ?_
 refine w_call (Try.func64) (by kernel_rfl) rfl (m1 (ev (.string (str key)) rfl rfl)) (right_l_no key w0 hok) ?_
 rintro _ _ ⟨rfl, rfl⟩
 refine ⟨_, rfl, ?_⟩
 refine w_val (y_not (ev (.bool false) rfl rfl)) ?_
 refine nt ?_
 refine c_tt (ev (.bool true) rfl rfl) ?_
 refine sr ?_
 refine w_as (evc (.int .i64 3)) ?_
 refine nt ?_
 refine wp_ret ?_
 refine then_r ?_
 refine fin_ret1 rfl (ev (.int .i64 3) rfl rfl) ?_
 exact ⟨rfl, hk⟩

set_option maxRecDepth 100000 in
set_option maxHeartbeats 1000000 in
theorem rcRefWrong_i (key vi : List (BitVec 8)) (hok : Aes.okKey key.length) (hiv : vi.length ≠ 16) (w0 : World) : Calls Try.prog 66 #[.string (str key), .string (str vi)] w0 fun e w' => e = .returned (.int .i64 4) ∧ Below w0.heap.size w0 w' := by
 refine enter (n := 11) Try.func66 rfl rfl rfl ?_
 have hk : Below w0.heap.size w0 w0 := Below.refl _ _
 refine sr ?_
 refine w_as (evc (.int .i64 0)) ?_
 refine nt ?_
 refine wp_seq ?_
 refine sr ?_
 refine w_mv (ev (.string (str key)) rfl rfl) ?_
 refine w_call (Try.func64) (by kernel_rfl) rfl (m1 (ev (.string (str key)) rfl rfl)) (right_l key w0 hok) ?_
 rintro _ _ ⟨rfl, rfl⟩
 refine ⟨_, rfl, ?_⟩
 refine w_val (y_not (ev (.bool true) rfl rfl)) ?_
 refine nt ?_
 refine c_ff (ev (.bool false) rfl rfl) ?_
 refine wp_skip ?_
 refine then_n ?_
 refine wp_seq ?_
 refine sr ?_
 refine w_mv (ev (.string (str vi)) rfl rfl) ?_
 refine w_val (y_len (ev (.string (str vi)) rfl rfl) Try.underlying9) ?_
 refine w_val (y_bin (ev (.int .i64 ((vi.length : Nat) : Int)) rfl rfl) (evc (.int .i64 16)) b_neq) ?_
 refine nt ?_
 have hc2 : ((vi.length : Nat) : Int) ≠ 16 := by omega
 refine c_t (p := ((vi.length : Nat) : Int) ≠ 16) (ev (.bool (decide (((vi.length : Nat) : Int) ≠ 16))) rfl rfl) hc2 ?_
 refine sr ?_
 refine w_as (evc (.int .i64 4)) ?_
 refine nt ?_
 refine wp_ret ?_
 refine then_r ?_
 refine fin_ret1 rfl (ev (.int .i64 4) rfl rfl) ?_
 exact ⟨rfl, hk⟩

set_option maxRecDepth 100000 in
set_option maxHeartbeats 1000000 in
theorem rcRefWrong_y (key vi : List (BitVec 8)) (hok : Aes.okKey key.length) (hiv : vi.length = 16) (w0 : World) : Calls Try.prog 66 #[.string (str key), .string (str vi)] w0 fun e w' => e = .returned (.int .i64 0) ∧ Below w0.heap.size w0 w' := by
 refine enter (n := 11) Try.func66 rfl rfl rfl ?_
 have hk : Below w0.heap.size w0 w0 := Below.refl _ _
 refine sr ?_
 refine w_as (evc (.int .i64 0)) ?_
 refine nt ?_
 refine wp_seq ?_
 refine sr ?_
 refine w_mv (ev (.string (str key)) rfl rfl) ?_
 refine w_call (Try.func64) (by kernel_rfl) rfl (m1 (ev (.string (str key)) rfl rfl)) (right_l key w0 hok) ?_
 rintro _ _ ⟨rfl, rfl⟩
 refine ⟨_, rfl, ?_⟩
 refine w_val (y_not (ev (.bool true) rfl rfl)) ?_
 refine nt ?_
 refine c_ff (ev (.bool false) rfl rfl) ?_
 refine wp_skip ?_
 refine then_n ?_
 refine wp_seq ?_
 refine sr ?_
 refine w_mv (ev (.string (str vi)) rfl rfl) ?_
 refine w_val (y_len (ev (.string (str vi)) rfl rfl) Try.underlying9) ?_
 refine w_val (y_bin (ev (.int .i64 ((vi.length : Nat) : Int)) rfl rfl) (evc (.int .i64 16)) b_neq) ?_
 refine nt ?_
 have hc2 : ¬ (((vi.length : Nat) : Int) ≠ 16) := by omega
 refine c_f (p := ((vi.length : Nat) : Int) ≠ 16) (ev (.bool (decide (((vi.length : Nat) : Int) ≠ 16))) rfl rfl) hc2 ?_
 refine wp_skip ?_
 refine then_n ?_
 refine sr ?_
 refine w_as (evc (.int .i64 0)) ?_
 refine nt ?_
 refine wp_ret ?_
 refine fin_ret1 rfl (ev (.int .i64 0) rfl rfl) ?_
 exact ⟨rfl, hk⟩
end Go.Proofs.Ytjdcpejcnmpiaaa
