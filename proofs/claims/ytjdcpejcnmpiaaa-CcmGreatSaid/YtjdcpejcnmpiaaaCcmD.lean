/-
  What is wrong, numbers, counters, what goes through the chain: by the reference. Conditions as each says.
-/
import Derived.Test.YtjdcpejcnmpiaaaRows
import Derived.Test.YtjdcpejcnmpiaaaGenSl
import Derived.Test.YtjdcpejcnmpiaaaOctW
import Derived.Test.YtjdcpejcnmpiaaaCcmPlain
import Derived.Test.YtjdcpejcnmpiaaaGenSh
import Derived.ProofKit
namespace Go.Proofs.Ytjdcpejcnmpiaaa
open Go.RowKit
set_option linter.unusedSimpArgs false
set_option linter.unusedVariables false
set_option maxRecDepth 100000
set_option maxHeartbeats 1000000
namespace CcmDT
theorem mixed : Try.prog.follows .mixedOrders = true := by kernel_rfl
theorem so129 : (Try.prog.underlying 129).isSome = true := by rw [Try.underlying129]; rfl
theorem so3 : (Try.prog.underlying 3).isSome = true := by rw [Try.underlying3]; rfl
end CcmDT
theorem cmRefWrong_k (key nonce aad : List (BitVec 8)) (n : Int) (size : Int) (hok : ¬ Aes.okKey key.length) (w0 : World) : Calls Try.prog 73 #[.string (str key), .string (str nonce), .string (str aad), .int .i64 n, .int .i64 size] w0 fun e w' => e = .returned (.int .i64 3) ∧ Below w0.heap.size w0 w' := by
 refine enter (n := 57) Try.func73 rfl rfl rfl ?_
 have hk : Below w0.heap.size w0 w0 := Below.refl _ _
 refine sr ?_
 refine w_as Ev.c ?_
 refine nt ?_
 refine wp_seq ?_
 refine wp_block ?_
 refine sr ?_
 refine w_mv es ?_
 refine w_call (Try.func64) (by kernel_rfl) rfl (m1 es) (right_l_no key w0 hok) ?_
 rintro _ _ ⟨rfl, rfl⟩
 refine ⟨_, rfl, ?_⟩
 refine w_val (y_not eb) ?_
 refine w_as eb ?_
 refine nt ?_
 refine c_tt eb ?_
 refine sr ?_
 refine w_as Ev.c ?_
 refine nt ?_
 refine wp_ret ?_
 refine inb_r ?_
 refine then_r ?_
 refine fin_ret1 rfl ei ?_
 exact ⟨rfl, hk⟩

theorem cmRefWrong_n (key nonce aad : List (BitVec 8)) (n : Int) (size : Int) (hok : Aes.okKey key.length) (hn : ¬ (7 ≤ nonce.length ∧ nonce.length ≤ 13)) (w0 : World) : Calls Try.prog 73 #[.string (str key), .string (str nonce), .string (str aad), .int .i64 n, .int .i64 size] w0 fun e w' => e = .returned (.int .i64 4) ∧ Below w0.heap.size w0 w' := by
 refine enter (n := 57) Try.func73 rfl rfl rfl ?_
 have hk : Below w0.heap.size w0 w0 := Below.refl _ _
 refine sr ?_
 refine w_as Ev.c ?_
 refine nt ?_
 refine wp_seq ?_
 refine wp_block ?_
 refine sr ?_
 refine w_mv es ?_
 refine w_call (Try.func64) (by kernel_rfl) rfl (m1 es) (right_l key w0 hok) ?_
 rintro _ _ ⟨rfl, rfl⟩
 refine ⟨_, rfl, ?_⟩
 refine w_val (y_not eb) ?_
 refine w_as eb ?_
 refine nt ?_
 refine c_ff eb ?_
 refine sr ?_
 refine w_mv es ?_
 refine w_val (y_len es Try.underlying9) ?_
 refine w_val (y_bin ei Ev.c b_lss) ?_
 refine w_mv eb ?_
 by_cases hc2 : ((nonce.length : Nat) : Int) < 7
 ·skip
  with_reducible refine w_skip ?_ ?_
  exact wn rfl rfl (eb (dt hc2))
  with_reducible refine w_skip ?_ ?_
  exact wn rfl rfl (eb (dt hc2))
  with_reducible refine w_skip ?_ ?_
  exact wn rfl rfl (eb (dt hc2))
  refine w_val (y_pick_t (eb (dt hc2)) Ev.c) ?_
  refine w_as eb ?_
  refine nt ?_
  refine c_tt eb ?_
  refine sr ?_
  refine w_as Ev.c ?_
  refine nt ?_
  refine wp_ret ?_
  refine inb_r ?_
  refine then_r ?_
  refine fin_ret1 rfl ei ?_
  exact ⟨rfl, hk⟩
 ·skip
  refine w_val_g (v := .string (str nonce)) (wy rfl rfl (eb (df hc2))) (y_mv es) ?_
  refine w_val_g (wy rfl rfl (eb (df hc2))) (y_len es Try.underlying9) ?_
  refine w_val_g (wy rfl rfl (eb (df hc2))) (y_bin ei Ev.c b_gtr) ?_
  refine w_val (y_pick_f (eb (df hc2)) eb) ?_
  refine w_as eb ?_
  refine nt ?_
  refine c_if (p := 13 < ((nonce.length : Nat) : Int)) eb (fun hc3 => ?_) (fun hc3 => ?_)
  ·skip
   refine sr ?_
   refine w_as Ev.c ?_
   refine nt ?_
   refine wp_ret ?_
   refine inb_r ?_
   refine then_r ?_
   refine fin_ret1 rfl ei ?_
   exact ⟨rfl, hk⟩
  ·skip
   refine wp_seq ?_
   exfalso; omega

theorem cmRefWrong_t (key nonce aad : List (BitVec 8)) (n : Int) (size : Int) (hok : Aes.okKey key.length) (hn : 7 ≤ nonce.length ∧ nonce.length ≤ 13) (ht : ¬ (4 ≤ size ∧ size ≤ 16 ∧ size % 2 = 0)) (w0 : World) : Calls Try.prog 73 #[.string (str key), .string (str nonce), .string (str aad), .int .i64 n, .int .i64 size] w0 fun e w' => e = .returned (.int .i64 5) ∧ Below w0.heap.size w0 w' := by
 refine enter (n := 57) Try.func73 rfl rfl rfl ?_
 have hk : Below w0.heap.size w0 w0 := Below.refl _ _
 refine sr ?_
 refine w_as Ev.c ?_
 refine nt ?_
 refine wp_seq ?_
 refine wp_block ?_
 refine sr ?_
 refine w_mv es ?_
 refine w_call (Try.func64) (by kernel_rfl) rfl (m1 es) (right_l key w0 hok) ?_
 rintro _ _ ⟨rfl, rfl⟩
 refine ⟨_, rfl, ?_⟩
 refine w_val (y_not eb) ?_
 refine w_as eb ?_
 refine nt ?_
 refine c_ff eb ?_
 refine sr ?_
 refine w_mv es ?_
 refine w_val (y_len es Try.underlying9) ?_
 refine w_val (y_bin ei Ev.c b_lss) ?_
 refine w_mv eb ?_
 by_cases hc2 : ((nonce.length : Nat) : Int) < 7
 ·skip
  with_reducible refine w_skip ?_ ?_
  exact wn rfl rfl (eb (dt hc2))
  with_reducible refine w_skip ?_ ?_
  exact wn rfl rfl (eb (dt hc2))
  with_reducible refine w_skip ?_ ?_
  exact wn rfl rfl (eb (dt hc2))
  refine w_val (y_pick_t (eb (dt hc2)) Ev.c) ?_
  refine w_as eb ?_
  refine nt ?_
  refine c_tt eb ?_
  refine sr ?_
  refine w_as Ev.c ?_
  refine nt ?_
  refine wp_ret ?_
  refine inb_r ?_
  refine then_r ?_
  refine fin_ret1 rfl ei ?_
  refine ⟨congrArg Ending.returned ?_, hk⟩
  show (.int .i64 4 : Value) = .int .i64 5
  first | with_reducible rfl | (with_reducible congr 1 <;> omega) | (with_reducible congr 2 <;> omega) | (with_reducible congr 3 <;> omega) | rfl
 ·skip
  refine w_val_g (v := .string (str nonce)) (wy rfl rfl (eb (df hc2))) (y_mv es) ?_
  refine w_val_g (wy rfl rfl (eb (df hc2))) (y_len es Try.underlying9) ?_
  refine w_val_g (wy rfl rfl (eb (df hc2))) (y_bin ei Ev.c b_gtr) ?_
  refine w_val (y_pick_f (eb (df hc2)) eb) ?_
  refine w_as eb ?_
  refine nt ?_
  refine c_if (p := 13 < ((nonce.length : Nat) : Int)) eb (fun hc3 => ?_) (fun hc3 => ?_)
  ·skip
   refine sr ?_
   refine w_as Ev.c ?_
   refine nt ?_
   refine wp_ret ?_
   refine inb_r ?_
   refine then_r ?_
   refine fin_ret1 rfl ei ?_
   refine ⟨congrArg Ending.returned ?_, hk⟩
   show (.int .i64 4 : Value) = .int .i64 5
   first | with_reducible rfl | (with_reducible congr 1 <;> omega) | (with_reducible congr 2 <;> omega) | (with_reducible congr 3 <;> omega) | rfl
  ·skip
   refine sr ?_
   refine w_mv ei ?_
   refine w_val (y_bin ei Ev.c b_lss) ?_
   refine w_mv eb ?_
   by_cases hc4 : size < 4
   ·skip
    with_reducible refine w_skip ?_ ?_
    exact wn rfl rfl (eb (dt hc4))
    with_reducible refine w_skip ?_ ?_
    exact wn rfl rfl (eb (dt hc4))
    refine w_val (y_pick_t (eb (dt hc4)) Ev.c) ?_
    refine w_mv eb ?_
    with_reducible refine w_skip ?_ ?_
    exact wn rfl rfl eb
    with_reducible refine w_skip ?_ ?_
    exact wn rfl rfl eb
    with_reducible refine w_skip ?_ ?_
    exact wn rfl rfl eb
    refine w_val (y_pick_t eb Ev.c) ?_
    refine w_as eb ?_
    refine nt ?_
    refine c_tt eb ?_
    refine sr ?_
    refine w_as Ev.c ?_
    refine nt ?_
    refine wp_ret ?_
    refine inb_r ?_
    refine then_r ?_
    refine fin_ret1 rfl ei ?_
    exact ⟨rfl, hk⟩
   ·skip
    refine w_val_g (v := .int .i64 size) (wy rfl rfl (eb (df hc4))) (y_mv ei) ?_
    refine w_val_g (wy rfl rfl (eb (df hc4))) (y_bin ei Ev.c b_gtr) ?_
    refine w_val (y_pick_f (eb (df hc4)) eb) ?_
    refine w_mv eb ?_
    by_cases hc5 : 16 < size
    ·skip
     with_reducible refine w_skip ?_ ?_
     exact wn rfl rfl (eb (dt hc5))
     with_reducible refine w_skip ?_ ?_
     exact wn rfl rfl (eb (dt hc5))
     with_reducible refine w_skip ?_ ?_
     exact wn rfl rfl (eb (dt hc5))
     refine w_val (y_pick_t (eb (dt hc5)) Ev.c) ?_
     refine w_as eb ?_
     refine nt ?_
     refine c_tt eb ?_
     refine sr ?_
     refine w_as Ev.c ?_
     refine nt ?_
     refine wp_ret ?_
     refine inb_r ?_
     refine then_r ?_
     refine fin_ret1 rfl ei ?_
     exact ⟨rfl, hk⟩
    ·skip
     refine w_val_g (v := .int .i64 size) (wy rfl rfl (eb (df hc5))) (y_mv ei) ?_
     refine w_val_g (wy rfl rfl (eb (df hc5))) (y_bin ei Ev.c (b_rem (by omega))) ?_
     refine w_val_g (wy rfl rfl (eb (df hc5))) (y_bin ei Ev.c b_neq) ?_
     refine w_val (y_pick_f (eb (df hc5)) eb) ?_
     refine w_as eb ?_
     refine nt ?_
     refine c_if (p := (size % 2) ≠ 0) eb (fun hc6 => ?_) (fun hc6 => ?_)
     ·skip
      refine sr ?_
      refine w_as Ev.c ?_
      refine nt ?_
      refine wp_ret ?_
      refine inb_r ?_
      refine then_r ?_
      refine fin_ret1 rfl ei ?_
      exact ⟨rfl, hk⟩
     ·skip
      refine wp_seq ?_
      exfalso; omega

theorem cmRefWrong_a (key nonce aad : List (BitVec 8)) (n : Int) (size : Nat) (hok : Aes.okKey key.length) (hn : 7 ≤ nonce.length ∧ nonce.length ≤ 13) (h4 : 4 ≤ size) (h16 : size ≤ 16) (hev : size % 2 = 0) (ha : 70000 < aad.length) (w0 : World) : Calls Try.prog 73 #[.string (str key), .string (str nonce), .string (str aad), .int .i64 n, .int .i64 ((size : Nat) : Int)] w0 fun e w' => e = .returned (.int .i64 6) ∧ Below w0.heap.size w0 w' := by
 refine enter (n := 57) Try.func73 rfl rfl rfl ?_
 have hk : Below w0.heap.size w0 w0 := Below.refl _ _
 refine sr ?_
 refine w_as Ev.c ?_
 refine nt ?_
 refine wp_seq ?_
 refine wp_block ?_
 refine sr ?_
 refine w_mv es ?_
 refine w_call (Try.func64) (by kernel_rfl) rfl (m1 es) (right_l key w0 hok) ?_
 rintro _ _ ⟨rfl, rfl⟩
 refine ⟨_, rfl, ?_⟩
 refine w_val (y_not eb) ?_
 refine w_as eb ?_
 refine nt ?_
 refine c_ff eb ?_
 refine sr ?_
 refine w_mv es ?_
 refine w_val (y_len es Try.underlying9) ?_
 refine w_val (y_bin ei Ev.c b_lss) ?_
 refine w_mv eb ?_
 by_cases hc2 : ((nonce.length : Nat) : Int) < 7
 ·skip
  with_reducible refine w_skip ?_ ?_
  exact wn rfl rfl (eb (dt hc2))
  with_reducible refine w_skip ?_ ?_
  exact wn rfl rfl (eb (dt hc2))
  with_reducible refine w_skip ?_ ?_
  exact wn rfl rfl (eb (dt hc2))
  refine w_val (y_pick_t (eb (dt hc2)) Ev.c) ?_
  refine w_as eb ?_
  refine nt ?_
  refine c_tt eb ?_
  refine wp_seq ?_
  exfalso; omega
 ·skip
  refine w_val_g (v := .string (str nonce)) (wy rfl rfl (eb (df hc2))) (y_mv es) ?_
  refine w_val_g (wy rfl rfl (eb (df hc2))) (y_len es Try.underlying9) ?_
  refine w_val_g (wy rfl rfl (eb (df hc2))) (y_bin ei Ev.c b_gtr) ?_
  refine w_val (y_pick_f (eb (df hc2)) eb) ?_
  refine w_as eb ?_
  refine nt ?_
  refine c_if (p := 13 < ((nonce.length : Nat) : Int)) eb (fun hc3 => ?_) (fun hc3 => ?_)
  ·skip
   refine wp_seq ?_
   exfalso; omega
  ·skip
   refine sr ?_
   refine w_mv ei ?_
   refine w_val (y_bin ei Ev.c b_lss) ?_
   refine w_mv eb ?_
   by_cases hc4 : ((size : Nat) : Int) < 4
   ·skip
    with_reducible refine w_skip ?_ ?_
    exact wn rfl rfl (eb (dt hc4))
    with_reducible refine w_skip ?_ ?_
    exact wn rfl rfl (eb (dt hc4))
    refine w_val (y_pick_t (eb (dt hc4)) Ev.c) ?_
    refine w_mv eb ?_
    with_reducible refine w_skip ?_ ?_
    exact wn rfl rfl eb
    with_reducible refine w_skip ?_ ?_
    exact wn rfl rfl eb
    with_reducible refine w_skip ?_ ?_
    exact wn rfl rfl eb
    refine w_val (y_pick_t eb Ev.c) ?_
    refine w_as eb ?_
    refine nt ?_
    refine c_tt eb ?_
    refine wp_seq ?_
    exfalso; omega
   ·skip
    refine w_val_g (v := .int .i64 ((size : Nat) : Int)) (wy rfl rfl (eb (df hc4))) (y_mv ei) ?_
    refine w_val_g (wy rfl rfl (eb (df hc4))) (y_bin ei Ev.c b_gtr) ?_
    refine w_val (y_pick_f (eb (df hc4)) eb) ?_
    refine w_mv eb ?_
    by_cases hc5 : 16 < ((size : Nat) : Int)
    ·skip
     with_reducible refine w_skip ?_ ?_
     exact wn rfl rfl (eb (dt hc5))
     with_reducible refine w_skip ?_ ?_
     exact wn rfl rfl (eb (dt hc5))
     with_reducible refine w_skip ?_ ?_
     exact wn rfl rfl (eb (dt hc5))
     refine w_val (y_pick_t (eb (dt hc5)) Ev.c) ?_
     refine w_as eb ?_
     refine nt ?_
     refine c_tt eb ?_
     refine wp_seq ?_
     exfalso; omega
    ·skip
     refine w_val_g (v := .int .i64 ((size : Nat) : Int)) (wy rfl rfl (eb (df hc5))) (y_mv ei) ?_
     refine w_val_g (wy rfl rfl (eb (df hc5))) (y_bin ei Ev.c (b_rem (by omega))) ?_
     refine w_val_g (wy rfl rfl (eb (df hc5))) (y_bin ei Ev.c b_neq) ?_
     refine w_val (y_pick_f (eb (df hc5)) eb) ?_
     refine w_as eb ?_
     refine nt ?_
     refine c_if (p := (((size : Nat) : Int) % 2) ≠ 0) eb (fun hc6 => ?_) (fun hc6 => ?_)
     ·skip
      refine wp_seq ?_
      exfalso; omega
     ·skip
      refine sr ?_
      refine w_mv es ?_
      refine w_val (y_len es Try.underlying9) ?_
      refine w_val (y_bin ei Ev.c b_gtr) ?_
      refine w_mv eb ?_
      have hc7 : 70000 < ((aad.length : Nat) : Int) := by omega
      with_reducible refine w_skip ?_ ?_
      exact wn rfl rfl (eb (dt hc7))
      with_reducible refine w_skip ?_ ?_
      exact wn rfl rfl (eb (dt hc7))
      refine w_val (y_pick_t (eb (dt hc7)) Ev.c) ?_
      refine w_mv eb ?_
      with_reducible refine w_skip ?_ ?_
      exact wn rfl rfl eb
      with_reducible refine w_skip ?_ ?_
      exact wn rfl rfl eb
      refine w_val (y_pick_t eb Ev.c) ?_
      refine w_mv eb ?_
      with_reducible refine w_skip ?_ ?_
      exact wn rfl rfl eb
      with_reducible refine w_skip ?_ ?_
      exact wn rfl rfl eb
      with_reducible refine w_skip ?_ ?_
      exact wn rfl rfl eb
      with_reducible refine w_skip ?_ ?_
      exact wu rfl rfl (ex undef)
      with_reducible refine w_skip ?_ ?_
      exact wu rfl rfl (ex undef)
      with_reducible refine w_skip ?_ ?_
      exact wu rfl rfl (ex undef)
      with_reducible refine w_skip ?_ ?_
      exact wn rfl rfl eb
      refine w_val (y_pick_t eb Ev.c) ?_
      refine w_as eb ?_
      refine nt ?_
      refine c_tt eb ?_
      refine sr ?_
      refine w_as Ev.c ?_
      refine nt ?_
      refine wp_ret ?_
      refine inb_r ?_
      refine then_r ?_
      refine fin_ret1 rfl ei ?_
      exact ⟨rfl, hk⟩

theorem cmRefWrong_z (key nonce aad : List (BitVec 8)) (n : Nat) (size : Nat) (hok : Aes.okKey key.length) (hn : 7 ≤ nonce.length ∧ nonce.length ≤ 13) (h4 : 4 ≤ size) (h16 : size ≤ 16) (hev : size % 2 = 0) (ha : aad.length ≤ 70000) (hf : ¬ Cm.Fit n nonce) (w0 : World) : Calls Try.prog 73 #[.string (str key), .string (str nonce), .string (str aad), .int .i64 ((n : Nat) : Int), .int .i64 ((size : Nat) : Int)] w0 fun e w' => e = .returned (.int .i64 6) ∧ Below w0.heap.size w0 w' := by
 have hz : ¬ (n ≤ 70000 ∧ (nonce.length < 13 ∨ n < 65536)) := hf
 refine enter (n := 57) Try.func73 rfl rfl rfl ?_
 have hk : Below w0.heap.size w0 w0 := Below.refl _ _
 refine sr ?_
 refine w_as Ev.c ?_
 refine nt ?_
 refine wp_seq ?_
 refine wp_block ?_
 refine sr ?_
 refine w_mv es ?_
 refine w_call (Try.func64) (by kernel_rfl) rfl (m1 es) (right_l key w0 hok) ?_
 rintro _ _ ⟨rfl, rfl⟩
 refine ⟨_, rfl, ?_⟩
 refine w_val (y_not eb) ?_
 refine w_as eb ?_
 refine nt ?_
 refine c_ff eb ?_
 refine sr ?_
 refine w_mv es ?_
 refine w_val (y_len es Try.underlying9) ?_
 refine w_val (y_bin ei Ev.c b_lss) ?_
 refine w_mv eb ?_
 by_cases hc2 : ((nonce.length : Nat) : Int) < 7
 ·skip
  with_reducible refine w_skip ?_ ?_
  exact wn rfl rfl (eb (dt hc2))
  with_reducible refine w_skip ?_ ?_
  exact wn rfl rfl (eb (dt hc2))
  with_reducible refine w_skip ?_ ?_
  exact wn rfl rfl (eb (dt hc2))
  refine w_val (y_pick_t (eb (dt hc2)) Ev.c) ?_
  refine w_as eb ?_
  refine nt ?_
  refine c_tt eb ?_
  refine wp_seq ?_
  exfalso; omega
 ·skip
  refine w_val_g (v := .string (str nonce)) (wy rfl rfl (eb (df hc2))) (y_mv es) ?_
  refine w_val_g (wy rfl rfl (eb (df hc2))) (y_len es Try.underlying9) ?_
  refine w_val_g (wy rfl rfl (eb (df hc2))) (y_bin ei Ev.c b_gtr) ?_
  refine w_val (y_pick_f (eb (df hc2)) eb) ?_
  refine w_as eb ?_
  refine nt ?_
  refine c_if (p := 13 < ((nonce.length : Nat) : Int)) eb (fun hc3 => ?_) (fun hc3 => ?_)
  ·skip
   refine wp_seq ?_
   exfalso; omega
  ·skip
   refine sr ?_
   refine w_mv ei ?_
   refine w_val (y_bin ei Ev.c b_lss) ?_
   refine w_mv eb ?_
   by_cases hc4 : ((size : Nat) : Int) < 4
   ·skip
    with_reducible refine w_skip ?_ ?_
    exact wn rfl rfl (eb (dt hc4))
    with_reducible refine w_skip ?_ ?_
    exact wn rfl rfl (eb (dt hc4))
    refine w_val (y_pick_t (eb (dt hc4)) Ev.c) ?_
    refine w_mv eb ?_
    with_reducible refine w_skip ?_ ?_
    exact wn rfl rfl eb
    with_reducible refine w_skip ?_ ?_
    exact wn rfl rfl eb
    with_reducible refine w_skip ?_ ?_
    exact wn rfl rfl eb
    refine w_val (y_pick_t eb Ev.c) ?_
    refine w_as eb ?_
    refine nt ?_
    refine c_tt eb ?_
    refine wp_seq ?_
    exfalso; omega
   ·skip
    refine w_val_g (v := .int .i64 ((size : Nat) : Int)) (wy rfl rfl (eb (df hc4))) (y_mv ei) ?_
    refine w_val_g (wy rfl rfl (eb (df hc4))) (y_bin ei Ev.c b_gtr) ?_
    refine w_val (y_pick_f (eb (df hc4)) eb) ?_
    refine w_mv eb ?_
    by_cases hc5 : 16 < ((size : Nat) : Int)
    ·skip
     with_reducible refine w_skip ?_ ?_
     exact wn rfl rfl (eb (dt hc5))
     with_reducible refine w_skip ?_ ?_
     exact wn rfl rfl (eb (dt hc5))
     with_reducible refine w_skip ?_ ?_
     exact wn rfl rfl (eb (dt hc5))
     refine w_val (y_pick_t (eb (dt hc5)) Ev.c) ?_
     refine w_as eb ?_
     refine nt ?_
     refine c_tt eb ?_
     refine wp_seq ?_
     exfalso; omega
    ·skip
     refine w_val_g (v := .int .i64 ((size : Nat) : Int)) (wy rfl rfl (eb (df hc5))) (y_mv ei) ?_
     refine w_val_g (wy rfl rfl (eb (df hc5))) (y_bin ei Ev.c (b_rem (by omega))) ?_
     refine w_val_g (wy rfl rfl (eb (df hc5))) (y_bin ei Ev.c b_neq) ?_
     refine w_val (y_pick_f (eb (df hc5)) eb) ?_
     refine w_as eb ?_
     refine nt ?_
     refine c_if (p := (((size : Nat) : Int) % 2) ≠ 0) eb (fun hc6 => ?_) (fun hc6 => ?_)
     ·skip
      refine wp_seq ?_
      exfalso; omega
     ·skip
      refine sr ?_
      refine w_mv es ?_
      refine w_val (y_len es Try.underlying9) ?_
      refine w_val (y_bin ei Ev.c b_gtr) ?_
      refine w_mv eb ?_
      have hc7 : ¬ (70000 < ((aad.length : Nat) : Int)) := by omega
      refine w_val_g (v := .int .i64 ((n : Nat) : Int)) (wy rfl rfl (eb (df hc7))) (y_mv ei) ?_
      refine w_val_g (wy rfl rfl (eb (df hc7))) (y_bin ei Ev.c b_lss) ?_
      refine w_val (y_pick_f (eb (df hc7)) eb) ?_
      refine w_mv eb ?_
      by_cases hc8 : ((n : Nat) : Int) < 0
      ·skip
       with_reducible refine w_skip ?_ ?_
       exact wn rfl rfl (eb (dt hc8))
       with_reducible refine w_skip ?_ ?_
       exact wn rfl rfl (eb (dt hc8))
       refine w_val (y_pick_t (eb (dt hc8)) Ev.c) ?_
       refine w_mv eb ?_
       with_reducible refine w_skip ?_ ?_
       exact wn rfl rfl eb
       with_reducible refine w_skip ?_ ?_
       exact wn rfl rfl eb
       with_reducible refine w_skip ?_ ?_
       exact wn rfl rfl eb
       with_reducible refine w_skip ?_ ?_
       exact wu rfl rfl (ex undef)
       with_reducible refine w_skip ?_ ?_
       exact wu rfl rfl (ex undef)
       with_reducible refine w_skip ?_ ?_
       exact wu rfl rfl (ex undef)
       with_reducible refine w_skip ?_ ?_
       exact wn rfl rfl eb
       refine w_val (y_pick_t eb Ev.c) ?_
       refine w_as eb ?_
       refine nt ?_
       refine c_tt eb ?_
       refine sr ?_
       refine w_as Ev.c ?_
       refine nt ?_
       refine wp_ret ?_
       refine inb_r ?_
       refine then_r ?_
       refine fin_ret1 rfl ei ?_
       exact ⟨rfl, hk⟩
      ·skip
       refine w_val_g (v := .int .i64 ((n : Nat) : Int)) (wy rfl rfl (eb (df hc8))) (y_mv ei) ?_
       refine w_val_g (wy rfl rfl (eb (df hc8))) (y_bin ei Ev.c b_gtr) ?_
       refine w_val (y_pick_f (eb (df hc8)) eb) ?_
       refine w_mv eb ?_
       by_cases hc9 : 70000 < ((n : Nat) : Int)
       ·skip
        with_reducible refine w_skip ?_ ?_
        exact wn rfl rfl (eb (dt hc9))
        with_reducible refine w_skip ?_ ?_
        exact wn rfl rfl (eb (dt hc9))
        with_reducible refine w_skip ?_ ?_
        exact wn rfl rfl (eb (dt hc9))
        with_reducible refine w_skip ?_ ?_
        exact wu rfl rfl (ex undef)
        with_reducible refine w_skip ?_ ?_
        exact wu rfl rfl (ex undef)
        with_reducible refine w_skip ?_ ?_
        exact wu rfl rfl (ex undef)
        with_reducible refine w_skip ?_ ?_
        exact wn rfl rfl (eb (dt hc9))
        refine w_val (y_pick_t (eb (dt hc9)) Ev.c) ?_
        refine w_as eb ?_
        refine nt ?_
        refine c_tt eb ?_
        refine sr ?_
        refine w_as Ev.c ?_
        refine nt ?_
        refine wp_ret ?_
        refine inb_r ?_
        refine then_r ?_
        refine fin_ret1 rfl ei ?_
        exact ⟨rfl, hk⟩
       ·skip
        refine w_val_g (v := .int .i64 ((n : Nat) : Int)) (wy rfl rfl (eb (df hc9))) (y_mv ei) ?_
        refine w_val_g (wy rfl rfl (eb (df hc9))) (y_bin ei Ev.c b_geq) ?_
        refine w_val_g (v := .bool (decide (65536 ≤ ((n : Nat) : Int)))) (wy rfl rfl (eb (df hc9))) (y_mv eb) ?_
        by_cases hc10 : 65536 ≤ ((n : Nat) : Int)
        ·skip
         refine w_val_g (v := .string (str nonce)) (wy rfl rfl (eb (dt hc10))) (y_mv es) ?_
         refine w_val_g (wy rfl rfl (eb (dt hc10))) (y_len es Try.underlying9) ?_
         refine w_val_g (wy rfl rfl (eb (dt hc10))) (y_bin ei Ev.c b_eql) ?_
         refine w_val_g (wy rfl rfl (eb (df hc9))) (y_pick_t (eb (dt hc10)) eb) ?_
         refine w_val (y_pick_f (eb (df hc9)) eb) ?_
         refine w_as eb ?_
         refine nt ?_
         refine c_if (p := ((nonce.length : Nat) : Int) = 13) eb (fun hc11 => ?_) (fun hc11 => ?_)
         ·skip
          refine sr ?_
          refine w_as Ev.c ?_
          refine nt ?_
          refine wp_ret ?_
          refine inb_r ?_
          refine then_r ?_
          refine fin_ret1 rfl ei ?_
          exact ⟨rfl, hk⟩
         ·skip
          refine wp_skip ?_
          refine inb_n ?_
          refine then_n ?_
          refine wp_seq ?_
          exfalso; omega
        ·skip
         with_reducible refine w_skip ?_ ?_
         exact wn rfl rfl (eb (df hc10))
         with_reducible refine w_skip ?_ ?_
         exact wn rfl rfl (eb (df hc10))
         with_reducible refine w_skip ?_ ?_
         exact wn rfl rfl (eb (df hc10))
         refine w_val_g (wy rfl rfl (eb (df hc9))) (y_pick_f (eb (df hc10)) Ev.c) ?_
         refine w_val (y_pick_f (eb (df hc9)) eb) ?_
         refine w_as eb ?_
         refine nt ?_
         refine c_ff eb ?_
         refine wp_skip ?_
         refine inb_n ?_
         refine then_n ?_
         refine wp_seq ?_
         exfalso; omega

theorem cmRefWrong_y (key nonce aad : List (BitVec 8)) (n : Nat) (size : Nat) (hok : Aes.okKey key.length) (hn : 7 ≤ nonce.length ∧ nonce.length ≤ 13) (h4 : 4 ≤ size) (h16 : size ≤ 16) (hev : size % 2 = 0) (ha : aad.length ≤ 70000) (hf : Cm.Fit n nonce) (w0 : World) : Calls Try.prog 73 #[.string (str key), .string (str nonce), .string (str aad), .int .i64 ((n : Nat) : Int), .int .i64 ((size : Nat) : Int)] w0 fun e w' => e = .returned (.int .i64 0) ∧ Below w0.heap.size w0 w' := by
 have hf1 := hf.1
 have hf2 := hf.2
 refine enter (n := 57) Try.func73 rfl rfl rfl ?_
 have hk : Below w0.heap.size w0 w0 := Below.refl _ _
 refine sr ?_
 refine w_as Ev.c ?_
 refine nt ?_
 refine wp_seq ?_
 refine wp_block ?_
 refine sr ?_
 refine w_mv es ?_
 refine w_call (Try.func64) (by kernel_rfl) rfl (m1 es) (right_l key w0 hok) ?_
 rintro _ _ ⟨rfl, rfl⟩
 refine ⟨_, rfl, ?_⟩
 refine w_val (y_not eb) ?_
 refine w_as eb ?_
 refine nt ?_
 refine c_ff eb ?_
 refine sr ?_
 refine w_mv es ?_
 refine w_val (y_len es Try.underlying9) ?_
 refine w_val (y_bin ei Ev.c b_lss) ?_
 refine w_mv eb ?_
 by_cases hc2 : ((nonce.length : Nat) : Int) < 7
 ·skip
  with_reducible refine w_skip ?_ ?_
  exact wn rfl rfl (eb (dt hc2))
  with_reducible refine w_skip ?_ ?_
  exact wn rfl rfl (eb (dt hc2))
  with_reducible refine w_skip ?_ ?_
  exact wn rfl rfl (eb (dt hc2))
  refine w_val (y_pick_t (eb (dt hc2)) Ev.c) ?_
  refine w_as eb ?_
  refine nt ?_
  refine c_tt eb ?_
  refine wp_seq ?_
  exfalso; omega
 ·skip
  refine w_val_g (v := .string (str nonce)) (wy rfl rfl (eb (df hc2))) (y_mv es) ?_
  refine w_val_g (wy rfl rfl (eb (df hc2))) (y_len es Try.underlying9) ?_
  refine w_val_g (wy rfl rfl (eb (df hc2))) (y_bin ei Ev.c b_gtr) ?_
  refine w_val (y_pick_f (eb (df hc2)) eb) ?_
  refine w_as eb ?_
  refine nt ?_
  refine c_if (p := 13 < ((nonce.length : Nat) : Int)) eb (fun hc3 => ?_) (fun hc3 => ?_)
  ·skip
   refine wp_seq ?_
   exfalso; omega
  ·skip
   refine sr ?_
   refine w_mv ei ?_
   refine w_val (y_bin ei Ev.c b_lss) ?_
   refine w_mv eb ?_
   by_cases hc4 : ((size : Nat) : Int) < 4
   ·skip
    with_reducible refine w_skip ?_ ?_
    exact wn rfl rfl (eb (dt hc4))
    with_reducible refine w_skip ?_ ?_
    exact wn rfl rfl (eb (dt hc4))
    refine w_val (y_pick_t (eb (dt hc4)) Ev.c) ?_
    refine w_mv eb ?_
    with_reducible refine w_skip ?_ ?_
    exact wn rfl rfl eb
    with_reducible refine w_skip ?_ ?_
    exact wn rfl rfl eb
    with_reducible refine w_skip ?_ ?_
    exact wn rfl rfl eb
    refine w_val (y_pick_t eb Ev.c) ?_
    refine w_as eb ?_
    refine nt ?_
    refine c_tt eb ?_
    refine wp_seq ?_
    exfalso; omega
   ·skip
    refine w_val_g (v := .int .i64 ((size : Nat) : Int)) (wy rfl rfl (eb (df hc4))) (y_mv ei) ?_
    refine w_val_g (wy rfl rfl (eb (df hc4))) (y_bin ei Ev.c b_gtr) ?_
    refine w_val (y_pick_f (eb (df hc4)) eb) ?_
    refine w_mv eb ?_
    by_cases hc5 : 16 < ((size : Nat) : Int)
    ·skip
     with_reducible refine w_skip ?_ ?_
     exact wn rfl rfl (eb (dt hc5))
     with_reducible refine w_skip ?_ ?_
     exact wn rfl rfl (eb (dt hc5))
     with_reducible refine w_skip ?_ ?_
     exact wn rfl rfl (eb (dt hc5))
     refine w_val (y_pick_t (eb (dt hc5)) Ev.c) ?_
     refine w_as eb ?_
     refine nt ?_
     refine c_tt eb ?_
     refine wp_seq ?_
     exfalso; omega
    ·skip
     refine w_val_g (v := .int .i64 ((size : Nat) : Int)) (wy rfl rfl (eb (df hc5))) (y_mv ei) ?_
     refine w_val_g (wy rfl rfl (eb (df hc5))) (y_bin ei Ev.c (b_rem (by omega))) ?_
     refine w_val_g (wy rfl rfl (eb (df hc5))) (y_bin ei Ev.c b_neq) ?_
     refine w_val (y_pick_f (eb (df hc5)) eb) ?_
     refine w_as eb ?_
     refine nt ?_
     refine c_if (p := (((size : Nat) : Int) % 2) ≠ 0) eb (fun hc6 => ?_) (fun hc6 => ?_)
     ·skip
      refine wp_seq ?_
      exfalso; omega
     ·skip
      refine sr ?_
      refine w_mv es ?_
      refine w_val (y_len es Try.underlying9) ?_
      refine w_val (y_bin ei Ev.c b_gtr) ?_
      refine w_mv eb ?_
      have hc7 : ¬ (70000 < ((aad.length : Nat) : Int)) := by omega
      refine w_val_g (v := .int .i64 ((n : Nat) : Int)) (wy rfl rfl (eb (df hc7))) (y_mv ei) ?_
      refine w_val_g (wy rfl rfl (eb (df hc7))) (y_bin ei Ev.c b_lss) ?_
      refine w_val (y_pick_f (eb (df hc7)) eb) ?_
      refine w_mv eb ?_
      by_cases hc8 : ((n : Nat) : Int) < 0
      ·skip
       with_reducible refine w_skip ?_ ?_
       exact wn rfl rfl (eb (dt hc8))
       with_reducible refine w_skip ?_ ?_
       exact wn rfl rfl (eb (dt hc8))
       refine w_val (y_pick_t (eb (dt hc8)) Ev.c) ?_
       refine w_mv eb ?_
       with_reducible refine w_skip ?_ ?_
       exact wn rfl rfl eb
       with_reducible refine w_skip ?_ ?_
       exact wn rfl rfl eb
       with_reducible refine w_skip ?_ ?_
       exact wn rfl rfl eb
       with_reducible refine w_skip ?_ ?_
       exact wu rfl rfl (ex undef)
       with_reducible refine w_skip ?_ ?_
       exact wu rfl rfl (ex undef)
       with_reducible refine w_skip ?_ ?_
       exact wu rfl rfl (ex undef)
       with_reducible refine w_skip ?_ ?_
       exact wn rfl rfl eb
       refine w_val (y_pick_t eb Ev.c) ?_
       refine w_as eb ?_
       refine nt ?_
       refine c_tt eb ?_
       refine wp_seq ?_
       exfalso; omega
      ·skip
       refine w_val_g (v := .int .i64 ((n : Nat) : Int)) (wy rfl rfl (eb (df hc8))) (y_mv ei) ?_
       refine w_val_g (wy rfl rfl (eb (df hc8))) (y_bin ei Ev.c b_gtr) ?_
       refine w_val (y_pick_f (eb (df hc8)) eb) ?_
       refine w_mv eb ?_
       by_cases hc9 : 70000 < ((n : Nat) : Int)
       ·skip
        with_reducible refine w_skip ?_ ?_
        exact wn rfl rfl (eb (dt hc9))
        with_reducible refine w_skip ?_ ?_
        exact wn rfl rfl (eb (dt hc9))
        with_reducible refine w_skip ?_ ?_
        exact wn rfl rfl (eb (dt hc9))
        with_reducible refine w_skip ?_ ?_
        exact wu rfl rfl (ex undef)
        with_reducible refine w_skip ?_ ?_
        exact wu rfl rfl (ex undef)
        with_reducible refine w_skip ?_ ?_
        exact wu rfl rfl (ex undef)
        with_reducible refine w_skip ?_ ?_
        exact wn rfl rfl (eb (dt hc9))
        refine w_val (y_pick_t (eb (dt hc9)) Ev.c) ?_
        refine w_as eb ?_
        refine nt ?_
        refine c_tt eb ?_
        refine wp_seq ?_
        exfalso; omega
       ·skip
        refine w_val_g (v := .int .i64 ((n : Nat) : Int)) (wy rfl rfl (eb (df hc9))) (y_mv ei) ?_
        refine w_val_g (wy rfl rfl (eb (df hc9))) (y_bin ei Ev.c b_geq) ?_
        refine w_val_g (v := .bool (decide (65536 ≤ ((n : Nat) : Int)))) (wy rfl rfl (eb (df hc9))) (y_mv eb) ?_
        by_cases hc10 : 65536 ≤ ((n : Nat) : Int)
        ·skip
         refine w_val_g (v := .string (str nonce)) (wy rfl rfl (eb (dt hc10))) (y_mv es) ?_
         refine w_val_g (wy rfl rfl (eb (dt hc10))) (y_len es Try.underlying9) ?_
         refine w_val_g (wy rfl rfl (eb (dt hc10))) (y_bin ei Ev.c b_eql) ?_
         refine w_val_g (wy rfl rfl (eb (df hc9))) (y_pick_t (eb (dt hc10)) eb) ?_
         refine w_val (y_pick_f (eb (df hc9)) eb) ?_
         refine w_as eb ?_
         refine nt ?_
         have hc11 : ¬ (((nonce.length : Nat) : Int) = 13) := by omega
         refine c_f (p := ((nonce.length : Nat) : Int) = 13) eb hc11 ?_
         refine wp_skip ?_
         refine inb_n ?_
         refine then_n ?_
         refine sr ?_
         refine w_as Ev.c ?_
         refine nt ?_
         refine wp_ret ?_
         refine fin_ret1 rfl ei ?_
         exact ⟨rfl, hk⟩
        ·skip
         with_reducible refine w_skip ?_ ?_
         exact wn rfl rfl (eb (df hc10))
         with_reducible refine w_skip ?_ ?_
         exact wn rfl rfl (eb (df hc10))
         with_reducible refine w_skip ?_ ?_
         exact wn rfl rfl (eb (df hc10))
         refine w_val_g (wy rfl rfl (eb (df hc9))) (y_pick_f (eb (df hc10)) Ev.c) ?_
         refine w_val (y_pick_f (eb (df hc9)) eb) ?_
         refine w_as eb ?_
         refine nt ?_
         refine c_ff eb ?_
         refine wp_skip ?_
         refine inb_n ?_
         refine then_n ?_
         refine sr ?_
         refine w_as Ev.c ?_
         refine nt ?_
         refine wp_ret ?_
         refine fin_ret1 rfl ei ?_
         exact ⟨rfl, hk⟩

theorem cmWide (n q : Nat) (h1 : 1 ≤ q) (h8 : q ≤ 8) (hm : n ≤ 1000000) (w0 : World) : Calls Try.prog 116 #[.int .i64 ((n : Nat) : Int), .int .i64 ((q : Nat) : Int)] w0 fun e w' => e = .returned (.string (str (Cm.num n q))) ∧ Below w0.heap.size w0 w' := by
 refine enter (n := 29) Try.func116 rfl rfl rfl ?_
 have hk : Below w0.heap.size w0 w0 := Below.refl _ _
 refine sr ?_
 refine w_as (evc (.string (str ([] : List (BitVec 8))))) ?_
 refine nt ?_
 refine sr ?_
 refine w_as Ev.c ?_
 refine nt ?_
 refine wp_seq ?_
 refine sr ?_
 refine w_mv ei ?_
 refine w_val (y_bin ei Ev.c (b_sub (by omega))) ?_
 refine w_as ei ?_
 refine nt ?_
 refine wp_block ?_
 refine c_loop (fun dN aN wl => ∃ (k : Nat) (vo : Value), dN = (q - k) ∧ ∃ f1, aN = fr 29 f1 ∧ (k ≤ q) ∧ f1 0 = .int .i64 ((n : Nat) : Int) ∧ f1 1 = .int .i64 ((q : Nat) : Int) ∧ f1 4 = .string (str ([] : List (BitVec 8))) ∧ f1 5 = vo ∧ f1 6 = .int .i64 (((q : Nat) : Int) - 1 - ((k : Nat) : Int)) ∧ Own wl w0.heap.size 5 1 vo k (fun j => U8 (gb (Cm.num n q) j)) ∧ Below w0.heap.size w0 wl) (q - 0) ?_ ?_
 · exact ⟨0, (.slice none 0 0), rfl, _, rfl, iv, rfl, rfl, rfl, (etv (b := .slice none 0 0) rfl), (Eq.trans (b := .int .i64 (((q : Nat) : Int) - 1)) rfl (by congr 1; omega)), Own.nil, hk⟩
 ·skip
  clear hk
  rintro _ _ w2 ⟨k, vo, rfl, f1, rfl, i1_0, s1_0, s1_1, s1_4, s1_5, s1_6, o_vo, hk⟩
  refine wp_seq ?_
  refine sr ?_
  refine w_mv (ei s1_6) ?_
  refine w_val (y_bin ei Ev.c b_geq) ?_
  refine nt ?_
  refine c_if (p := 0 ≤ (((q : Nat) : Int) - 1 - ((k : Nat) : Int))) eb (fun hc3 => ?_) (fun hc3 => ?_)
  ·skip
   refine wp_skip ?_
   refine then_n ?_
   refine wp_seq ?_
   refine wp_block ?_
   refine sr ?_
   refine w_as (evc (U8 (0#8))) ?_
   refine nt ?_
   refine wp_seq ?_
   refine sr ?_
   refine w_mv (ei s1_6) ?_
   refine w_val (y_bin ei Ev.c b_lss) ?_
   refine nt ?_
   have hc4 : (((q : Nat) : Int) - 1 - ((k : Nat) : Int)) < 8 := by omega
   refine c_t (p := (((q : Nat) : Int) - 1 - ((k : Nat) : Int)) < 8) eb hc4 ?_
   refine wp_region_lit ?_
   refine w_mv (ei s1_0) ?_
   refine w_val (y_nat_u64 (p := n) ei (by omega) CcmDT.so3 Try.underlying129) ?_
   refine w_mv (ei s1_6) ?_
   refine w_val (y_bin Ev.c ei (b_mul (by omega))) ?_
   refine w_val (y_nat_u64 (p := (8 * (q - 1 - k))) ei (by omega) CcmDT.so3 Try.underlying83) ?_
   refine w_val (y_bin e6 e6 (shr64 (c := (8 * (q - 1 - k))) (by rw [BitVec.toNat_ofNat]; omega))) ?_
   refine w_val (y_u64_u8 e6 CcmDT.so129 Try.underlying5) ?_
   refine w_as e8 ?_
   refine nt ?_
   refine wp_region_lit ?_
   refine w_mv (ex vo s1_5) ?_
   refine w_mv e8 ?_
   refine w_bs1 (m := 1) (e := 5) (F := fun j => U8 (((BitVec.ofNat 64 n) >>> (8 * (q - 1 - k))).setWidth 8)) e8 (fun w => by kernel_rfl) ?_
   intro b_25 w5 hbe_b_25 r_b_25 hb6
   have no_vo_b_25 : vo.ownBlock ≠ some b_25 := o_vo.apart (by omega)
   have ge_b_25 : w0.heap.size ≤ b_25 := by have := hk.size; omega
   clear hbe_b_25
   replace o_vo := o_vo.step hb6
   replace hk := thenB hk hb6
   refine w_app (k := k) (m := 1) (size := 1) (bytes := 1) (ex vo) el Try.underlying54 (by kernel_rfl) (by decide) o_vo hk.size r_b_25 (by omega) oca (by simp only [maxLen]; omega) (by omega) ?_
   intro v7 w8 o_v7 hg9 hv10
   have no_v7_b_25 := no_new no_vo_b_25 r_b_25.lt hv10
   replace r_b_25 := r_b_25.stepO hg9 no_vo_b_25
   replace hk := thenO hk hg9 (fun g e => (o_vo.block_lt g e).2)
   clear o_vo
   refine w_as (ex v7) ?_
   refine wpList_nil ?_
   refine inb_n ?_
   refine then_n ?_
   refine wp_region_lit ?_
   refine w_mv (ei s1_6) ?_
   refine w_val (y_bin ei Ev.c (b_sub (by omega))) ?_
   refine w_as ei ?_
   refine wpList_nil ?_
   exact then_n ⟨_, (by omega), k + 1, v7, rfl, _, rfl, iv, s1_0, s1_1, s1_4, rfl, (Eq.trans (b := .int .i64 ((((q : Nat) : Int) - 1 - ((k : Nat) : Int)) - 1)) rfl (by congr 1; omega)), (own_n (o_v7.congr (fun j hj => by (try dsimp only); by_cases e : j < k * 1; (rw [if_pos e]); (rw [if_neg e, show gb (Cm.num n q) j = _ from Oct.gb_be _ q j (by omega), show j = k from by omega]))) (by omega)), hk⟩
  ·skip
   refine wp_exit ?_
   refine then_x ?_
   refine then_x ?_
   refine inb_x ?_
   refine then_n ?_
   refine sr ?_
   refine w_mv (ex vo s1_5) ?_
   refine w_val (v := .string (str (Cm.num n q))) (y_strown (l := Cm.num n q) (ex vo) o_vo  (by exact (by rw [Cm.num_len]; omega)) (fun j hj => by exact rfl) Try.underlying54 Try.underlying5 Try.underlying9) ?_
   refine w_as es ?_
   refine nt ?_
   refine wp_ret ?_
   refine fin_ret1 rfl es ?_
   exact ⟨rfl, hk⟩

theorem cmRefCounter (nonce : List (BitVec 8)) (i : Nat) (hi : i ≤ 1000000) (q : Nat) (hq : nonce.length + q = 15) (h2 : 2 ≤ q) (h8 : q ≤ 8) (w0 : World) : Calls Try.prog 98 #[.string (str nonce), .int .i64 ((i : Nat) : Int)] w0 fun e w' => e = .returned (.string (str (Cm.cnt nonce q i))) ∧ Below w0.heap.size w0 w' := by
 refine enter (n := 20) Try.func98 rfl rfl rfl ?_
 have hk : Below w0.heap.size w0 w0 := Below.refl _ _
 refine sr ?_
 refine w_as (evc (.string (str ([] : List (BitVec 8))))) ?_
 refine nt ?_
 refine sr ?_
 refine w_mv es ?_
 refine w_val (y_len es Try.underlying9) ?_
 refine w_val (y_bin Ev.c ei (b_sub (by omega))) ?_
 refine w_as ei ?_
 refine nt ?_
 refine wp_seq ?_
 refine region_dc (Nat.testBit 0) 12 CcmDT.mixed rfl ?_
 intro w1 hb2
 replace hk := thenB hk hb2
 have hS : Cls w1 w1 := Below.refl _ _
 refine dp 0 rfl (fun w' => y_mv (ex (.int .i64 ((q : Nat) : Int)) (Eq.trans (b := .int .i64 (15 - ((nonce.length : Nat) : Int))) rfl (by congr 1; omega)))) ?_
 refine dp (v := .int .i64 (((q : Nat) : Int) - 1)) 1 rfl (fun w' => y_bin ei Ev.c (b_sub (by omega))) ?_
 refine dp (v := U8 (BitVec.ofNat 8 (q - 1))) 2 rfl (fun w' => y_nat_u8 (p := (q - 1)) ei (by omega) CcmDT.so3 Try.underlying5) ?_
 refine dp 5 rfl (fun w' => y_mv es) ?_
 refine dp 7 rfl (fun w' => y_mv ei) ?_
 refine dp 8 rfl (fun w' => y_mv (ex (.int .i64 ((q : Nat) : Int)) (Eq.trans (b := .int .i64 (15 - ((nonce.length : Nat) : Int))) rfl (by congr 1; omega)))) ?_
 refine d_two 3 9 (by kernel_rfl) rfl rfl ?_ ?_
 ·skip
  refine w_bs1 (m := 1) (e := 5) (F := fun j => U8 (BitVec.ofNat 8 (q - 1))) e8 (fun w => by kernel_rfl) ?_
  intro b_12 w3 hbe_b_12 r_b_12 hb4
  have ge_b_12 : w0.heap.size ≤ b_12 := by have := hk.size; omega
  clear hbe_b_12
  replace hk := thenB hk hb4
  replace hS := thenB hS hb4
  refine wpList_nil ?_
  refine then_n ⟨fun _ h => thenB h (by assumption), ?_⟩
  refine d_two 4 9 (by kernel_rfl) rfl rfl ?_ ?_
  ·skip
   refine w_val (y_str (l := [BitVec.ofNat 8 (q - 1)]) el (by rfl) Try.underlying54 Try.underlying5 Try.underlying9 (fun j hj => (r_b_12.val (by omega) (by (obtain rfl : j = 0 := (by omega)); rfl)))) ?_
   refine wpList_nil ?_
   refine then_n ⟨fun _ h => h, ?_⟩
   refine dp (v := .string (str (([BitVec.ofNat 8 (q - 1)]) ++ nonce))) 6 rfl (fun w' => y_bin es es (b_cat (by simp only [List.length_append, List.length_cons, List.length_nil, Cm.num_len, List.length_replicate]; omega))) ?_
   refine d_one 9 (by kernel_rfl) rfl ?_
   refine w_call (Try.func116) (by kernel_rfl) rfl (m2 ei ei) (cmWide i q (by omega) (by omega) (by omega) w3) ?_
   rintro _ w5 ⟨rfl, hb6⟩
   refine ⟨_, rfl, ?_⟩
   replace r_b_12 := r_b_12.step hb6
   replace hk := thenB hk hb6
   replace hS := thenB hS hb6
   refine wpList_nil ?_
   refine then_n ⟨fun _ h => thenB h (by assumption), ?_⟩
   refine dp (v := .string (str ((([BitVec.ofNat 8 (q - 1)]) ++ nonce) ++ (Cm.num i q)))) 10 rfl (fun w' => y_bin es es (b_cat (by simp only [List.length_append, List.length_cons, List.length_nil, Cm.num_len, List.length_replicate]; omega))) ?_
   refine dp 11 rfl (fun w' => y_as es) ?_
   refine d_done (by kernel_rfl) ?_
   clear hS
   refine then_n ?_
   refine wp_ret ?_
   refine fin_ret1 rfl es ?_
   refine ⟨congrArg Ending.returned ?_, hk⟩
   show (.string (str ((([BitVec.ofNat 8 (q - 1)]) ++ nonce) ++ (Cm.num i q))) : Value) = .string (str (Cm.cnt nonce q i))
   first | with_reducible rfl | (with_reducible congr 1 <;> omega) | (with_reducible congr 2 <;> omega) | (with_reducible congr 3 <;> omega) | rfl
  ·skip
   refine w_call (Try.func116) (by kernel_rfl) rfl (m2 ei ei) (cmWide i q (by omega) (by omega) (by omega) w3) ?_
   rintro _ w7 ⟨rfl, hb8⟩
   refine ⟨_, rfl, ?_⟩
   replace r_b_12 := r_b_12.step hb8
   replace hk := thenB hk hb8
   replace hS := thenB hS hb8
   refine wpList_nil ?_
   refine then_n ⟨fun _ h => thenB h (by assumption), ?_⟩
   refine d_one 4 (by kernel_rfl) rfl ?_
   refine w_val (y_str (l := [BitVec.ofNat 8 (q - 1)]) el (by rfl) Try.underlying54 Try.underlying5 Try.underlying9 (fun j hj => (r_b_12.val (by omega) (by (obtain rfl : j = 0 := (by omega)); rfl)))) ?_
   refine wpList_nil ?_
   refine then_n ⟨fun _ h => h, ?_⟩
   refine dp (v := .string (str (([BitVec.ofNat 8 (q - 1)]) ++ nonce))) 6 rfl (fun w' => y_bin es es (b_cat (by simp only [List.length_append, List.length_cons, List.length_nil, Cm.num_len, List.length_replicate]; omega))) ?_
   refine dp (v := .string (str ((([BitVec.ofNat 8 (q - 1)]) ++ nonce) ++ (Cm.num i q)))) 10 rfl (fun w' => y_bin es es (b_cat (by simp only [List.length_append, List.length_cons, List.length_nil, Cm.num_len, List.length_replicate]; omega))) ?_
   refine dp 11 rfl (fun w' => y_as es) ?_
   refine d_done (by kernel_rfl) ?_
   clear hS
   refine then_n ?_
   refine wp_ret ?_
   refine fin_ret1 rfl es ?_
   refine ⟨congrArg Ending.returned ?_, hk⟩
   show (.string (str ((([BitVec.ofNat 8 (q - 1)]) ++ nonce) ++ (Cm.num i q))) : Value) = .string (str (Cm.cnt nonce q i))
   first | with_reducible rfl | (with_reducible congr 1 <;> omega) | (with_reducible congr 2 <;> omega) | (with_reducible congr 3 <;> omega) | rfl
 ·skip
  refine w_call (Try.func116) (by kernel_rfl) rfl (m2 ei ei) (cmWide i q (by omega) (by omega) (by omega) w1) ?_
  rintro _ w9 ⟨rfl, hb10⟩
  refine ⟨_, rfl, ?_⟩
  replace hk := thenB hk hb10
  replace hS := thenB hS hb10
  refine wpList_nil ?_
  refine then_n ⟨fun _ h => thenB h (by assumption), ?_⟩
  refine d_one 3 (by kernel_rfl) rfl ?_
  refine w_bs1 (m := 1) (e := 5) (F := fun j => U8 (BitVec.ofNat 8 (q - 1))) e8 (fun w => by kernel_rfl) ?_
  intro b_12 w11 hbe_b_12 r_b_12 hb12
  have ge_b_12 : w0.heap.size ≤ b_12 := by have := hk.size; omega
  clear hbe_b_12
  replace hk := thenB hk hb12
  replace hS := thenB hS hb12
  refine wpList_nil ?_
  refine then_n ⟨fun _ h => thenB h (by assumption), ?_⟩
  refine d_one 4 (by kernel_rfl) rfl ?_
  refine w_val (y_str (l := [BitVec.ofNat 8 (q - 1)]) el (by rfl) Try.underlying54 Try.underlying5 Try.underlying9 (fun j hj => (r_b_12.val (by omega) (by (obtain rfl : j = 0 := (by omega)); rfl)))) ?_
  refine wpList_nil ?_
  refine then_n ⟨fun _ h => h, ?_⟩
  refine dp (v := .string (str (([BitVec.ofNat 8 (q - 1)]) ++ nonce))) 6 rfl (fun w' => y_bin es es (b_cat (by simp only [List.length_append, List.length_cons, List.length_nil, Cm.num_len, List.length_replicate]; omega))) ?_
  refine dp (v := .string (str ((([BitVec.ofNat 8 (q - 1)]) ++ nonce) ++ (Cm.num i q)))) 10 rfl (fun w' => y_bin es es (b_cat (by simp only [List.length_append, List.length_cons, List.length_nil, Cm.num_len, List.length_replicate]; omega))) ?_
  refine dp 11 rfl (fun w' => y_as es) ?_
  refine d_done (by kernel_rfl) ?_
  clear hS
  refine then_n ?_
  refine wp_ret ?_
  refine fin_ret1 rfl es ?_
  refine ⟨congrArg Ending.returned ?_, hk⟩
  show (.string (str ((([BitVec.ofNat 8 (q - 1)]) ++ nonce) ++ (Cm.num i q))) : Value) = .string (str (Cm.cnt nonce q i))
  first | with_reducible rfl | (with_reducible congr 1 <;> omega) | (with_reducible congr 2 <;> omega) | (with_reducible congr 3 <;> omega) | rfl

theorem refFilled (s : List (BitVec 8)) (hs : s.length ≤ 1000000) (w0 : World) : Calls Try.prog 117 #[.string (str s)] w0 fun e w' => e = .returned (.string (str (Cb.z s))) ∧ Below w0.heap.size w0 w' := by
 have hzl : (Cb.z s).length = s.length + (16 - s.length % 16) % 16 := Cb.z_len s
 refine enter (n := 15) Try.func117 rfl rfl rfl ?_
 have hk : Below w0.heap.size w0 w0 := Below.refl _ _
 refine sr ?_
 refine w_as (evc (.string (str ([] : List (BitVec 8))))) ?_
 refine nt ?_
 refine sr ?_
 refine w_mv es ?_
 refine w_bytes_own es Try.underlying9 Try.underlying54 Try.underlying5 (by simp only [maxLen]; omega) hk.size ?_
 intro v1 w2 o_v1 hv4 hb3
 replace hk := thenB hk hb3
 refine w_as (ex v1) ?_
 refine nt ?_
 refine wp_seq ?_
 refine wp_block ?_
 refine c_loop (fun dN aN wl => ∃ (m : Nat) (vo : Value), dN = (16 - m) ∧ ∃ f5, aN = fr 15 f5 ∧ (m ≤ (16 - s.length % 16) % 16) ∧ f5 0 = .string (str s) ∧ f5 2 = .string (str ([] : List (BitVec 8))) ∧ f5 3 = vo ∧ Own wl w0.heap.size 5 1 vo (s.length + m) (fun j => U8 (gb s j)) ∧ Below w0.heap.size w0 wl) (16 - 0) ?_ ?_
 · exact ⟨0, v1, rfl, _, rfl, iv, rfl, rfl, (etv (b := v1) rfl), (own_n (o_v1.cg) (by omega)), hk⟩
 ·skip
  clear o_v1 hk
  rintro _ _ w6 ⟨m, vo, rfl, f5, rfl, i1_0, s1_0, s1_2, s1_3, o_vo, hk⟩
  refine wp_seq ?_
  refine sr ?_
  refine w_mv (ex vo s1_3) ?_
  refine w_val (v := .int .i64 (((s.length + m) : Nat) : Int)) (y_len_own (ex vo) o_vo Try.underlying54) ?_
  refine w_val (y_bin ei Ev.c (b_rem (by omega))) ?_
  refine w_val (y_bin ei Ev.c b_neq) ?_
  refine nt ?_
  refine c_if (p := ((((s.length + m) : Nat) : Int) % 16) ≠ 0) eb (fun hc7 => ?_) (fun hc7 => ?_)
  ·skip
   refine wp_skip ?_
   refine then_n ?_
   refine wp_block ?_
   refine wp_region_lit ?_
   refine w_mv (ex vo s1_3) ?_
   refine w_bs1 (m := 1) (e := 5) (F := fun j => U8 (0#8)) (evc (U8 (0#8))) (fun w => by kernel_rfl) ?_
   intro b_11 w8 hbe_b_11 r_b_11 hb9
   have no_vo_b_11 : vo.ownBlock ≠ some b_11 := o_vo.apart (by omega)
   have ge_b_11 : w0.heap.size ≤ b_11 := by have := hk.size; omega
   clear hbe_b_11
   replace o_vo := o_vo.step hb9
   replace hk := thenB hk hb9
   refine w_app (k := (s.length + m)) (m := 1) (size := 1) (bytes := 1) (ex vo) el Try.underlying54 (by kernel_rfl) (by decide) o_vo hk.size r_b_11 (by omega) oca (by simp only [maxLen]; omega) (by omega) ?_
   intro v10 w11 o_v10 hg12 hv13
   have no_v10_b_11 := no_new no_vo_b_11 r_b_11.lt hv13
   replace r_b_11 := r_b_11.stepO hg12 no_vo_b_11
   replace hk := thenO hk hg12 (fun g e => (o_vo.block_lt g e).2)
   clear o_vo
   refine w_as (ex v10) ?_
   refine wpList_nil ?_
   refine inb_n ?_
   exact then_n ⟨_, (by omega), m + 1, v10, rfl, _, rfl, iv, s1_0, s1_2, rfl, (own_n (o_v10.congr (fun j hj => by (try dsimp only); by_cases e : j < (s.length + m) * 1; (rw [if_pos e]); (rw [if_neg e, gb_out s j (by omega)]))) (by omega)), hk⟩
  ·skip
   refine wp_exit ?_
   refine then_x ?_
   refine then_x ?_
   refine inb_x ?_
   refine then_n ?_
   refine sr ?_
   refine w_mv (ex vo s1_3) ?_
   refine w_val (v := .string (str (Cb.z s))) (y_strown (l := Cb.z s) (ex vo) o_vo  (by exact (by rw [hzl]; omega)) (fun j hj => by exact (by rw [Cb.gb_z])) Try.underlying54 Try.underlying5 Try.underlying9) ?_
   refine w_as es ?_
   refine nt ?_
   refine wp_ret ?_
   refine fin_ret1 rfl es ?_
   exact ⟨rfl, hk⟩

theorem cmRefAll (nonce aad text : List (BitVec 8)) (q : Nat) (hq : nonce.length + q = 15) (h2 : 2 ≤ q) (h8 : q ≤ 8) (size : Nat) (h4 : 4 ≤ size) (h16 : size ≤ 16) (hev : size % 2 = 0) (ha : aad.length ≤ 70000) (ht : text.length ≤ 70000) (w0 : World) : Calls Try.prog 99 #[.string (str nonce), .string (str aad), .string (str text), .int .i64 ((size : Nat) : Int)] w0 fun e w' => e = .returned (.string (str (Cb.z (Cm.all nonce aad text q size)))) ∧ Below w0.heap.size w0 w' := by
 refine enter (n := 70) Try.func99 rfl rfl rfl ?_
 have hk : Below w0.heap.size w0 w0 := Below.refl _ _
 refine sr ?_
 refine w_as (evc (.string (str ([] : List (BitVec 8))))) ?_
 refine nt ?_
 refine sr ?_
 refine w_mv es ?_
 refine w_val (y_len es Try.underlying9) ?_
 refine w_val (y_bin Ev.c ei (b_sub (by omega))) ?_
 refine w_as ei ?_
 refine nt ?_
 refine sr ?_
 refine w_mv ei ?_
 refine w_val (y_bin ei Ev.c (b_sub (by omega))) ?_
 refine w_val (y_bin Ev.c ei (b_mul (by omega))) ?_
 refine w_val (y_bin ei Ev.c (b_quo (by omega))) ?_
 refine w_mv (ex (.int .i64 ((q : Nat) : Int)) (Eq.trans (b := .int .i64 (15 - ((nonce.length : Nat) : Int))) rfl (by congr 1; omega))) ?_
 refine w_val (y_bin ei ei (b_add (by omega))) ?_
 refine w_val (y_bin ei Ev.c (b_sub (by omega))) ?_
 refine w_as ei ?_
 refine nt ?_
 refine wp_seq ?_
 refine sr ?_
 refine w_mv es ?_
 refine w_val (y_len es Try.underlying9) ?_
 refine w_val (y_bin ei Ev.c b_gtr) ?_
 refine nt ?_
 refine c_if (p := 0 < ((aad.length : Nat) : Int)) eb (fun hc1 => ?_) (fun hc1 => ?_)
 ·skip
  refine wp_region_lit ?_
  refine w_mv ei ?_
  refine w_val (y_bin ei Ev.c (b_add (by omega))) ?_
  refine w_as ei ?_
  refine nt ?_
  refine c_cut (fun aN wl => ∃ f2, aN = fr 70 f2 ∧ f2 0 = .string (str nonce) ∧ f2 1 = .string (str aad) ∧ f2 2 = .string (str text) ∧ f2 3 = .int .i64 ((size : Nat) : Int) ∧ f2 8 = .string (str ([] : List (BitVec 8))) ∧ f2 9 = .int .i64 ((q : Nat) : Int) ∧ f2 11 = .string (str (Cm.head nonce aad text.length q size)) ∧ Below w0.heap.size w0 wl) ?_ ?_
  ·skip
   refine region_dc (Nat.testBit 0) 12 CcmDT.mixed rfl ?_
   intro w4 hb5
   replace hk := thenB hk hb5
   have hS : Cls w4 w4 := Below.refl _ _
   refine dp 0 rfl (fun w' => y_mv (ex (.int .i64 (((Cm.fst q aad size) : Nat) : Int)) (Eq.trans (b := .int .i64 (((((8 * (((size : Nat) : Int) - 2)) / 2) + ((q : Nat) : Int)) - 1) + 64)) rfl (by exact congrArg (Value.int .i64) (by unfold Cm.fst; split <;> omega))))) ?_
   refine dp (v := U8 (BitVec.ofNat 8 (Cm.fst q aad size))) 1 rfl (fun w' => y_nat_u8 (p := (Cm.fst q aad size)) ei (by omega) CcmDT.so3 Try.underlying5) ?_
   refine dp 4 rfl (fun w' => y_mv es) ?_
   refine dp 6 rfl (fun w' => y_mv es) ?_
   refine dp (v := .int .i64 ((text.length : Nat) : Int)) 7 rfl (fun w' => y_len es Try.underlying9) ?_
   refine dp 8 rfl (fun w' => y_mv (ex (.int .i64 ((q : Nat) : Int)) (Eq.trans (b := .int .i64 (15 - ((nonce.length : Nat) : Int))) rfl (by congr 1; omega)))) ?_
   refine d_two 2 9 (by kernel_rfl) rfl rfl ?_ ?_
   ·skip
    refine w_bs1 (m := 1) (e := 5) (F := fun j => U8 (BitVec.ofNat 8 (Cm.fst q aad size))) e8 (fun w => by kernel_rfl) ?_
    intro b_29 w6 hbe_b_29 r_b_29 hb7
    have ge_b_29 : w0.heap.size ≤ b_29 := by have := hk.size; omega
    clear hbe_b_29
    replace hk := thenB hk hb7
    replace hS := thenB hS hb7
    refine wpList_nil ?_
    refine then_n ⟨fun _ h => thenB h (by assumption), ?_⟩
    refine d_two 3 9 (by kernel_rfl) rfl rfl ?_ ?_
    ·skip
     refine w_val (y_str (l := [BitVec.ofNat 8 (Cm.fst q aad size)]) el (by rfl) Try.underlying54 Try.underlying5 Try.underlying9 (fun j hj => (r_b_29.val (by omega) (by (obtain rfl : j = 0 := (by omega)); rfl)))) ?_
     refine wpList_nil ?_
     refine then_n ⟨fun _ h => h, ?_⟩
     refine dp (v := .string (str (([BitVec.ofNat 8 (Cm.fst q aad size)]) ++ nonce))) 5 rfl (fun w' => y_bin es es (b_cat (by simp only [Cb.z_len, Cb.zn, List.length_append, List.length_cons, List.length_nil, Cm.num_len, Cm.head_len nonce aad text.length q size hq]; omega))) ?_
     refine d_one 9 (by kernel_rfl) rfl ?_
     refine w_call (Try.func116) (by kernel_rfl) rfl (m2 ei ei) (cmWide text.length q (by omega) (by omega) (by omega) w6) ?_
     rintro _ w8 ⟨rfl, hb9⟩
     refine ⟨_, rfl, ?_⟩
     replace r_b_29 := r_b_29.step hb9
     replace hk := thenB hk hb9
     replace hS := thenB hS hb9
     refine wpList_nil ?_
     refine then_n ⟨fun _ h => thenB h (by assumption), ?_⟩
     refine dp (v := .string (str ((([BitVec.ofNat 8 (Cm.fst q aad size)]) ++ nonce) ++ (Cm.num text.length q)))) 10 rfl (fun w' => y_bin es es (b_cat (by simp only [Cb.z_len, Cb.zn, List.length_append, List.length_cons, List.length_nil, Cm.num_len, Cm.head_len nonce aad text.length q size hq]; omega))) ?_
     refine dp 11 rfl (fun w' => y_as es) ?_
     refine d_done (by kernel_rfl) ?_
     clear hS
     exact then_n ⟨_, rfl, rfl, rfl, rfl, rfl, rfl, (Eq.trans (b := .int .i64 (15 - ((nonce.length : Nat) : Int))) rfl (by congr 1; omega)), (Eq.trans (b := .string (str ((([BitVec.ofNat 8 (Cm.fst q aad size)]) ++ nonce) ++ (Cm.num text.length q)))) rfl (by first | with_reducible rfl | (with_reducible congr 1 <;> omega) | (with_reducible congr 2 <;> omega) | (with_reducible congr 3 <;> omega) | rfl)), hk⟩
    ·skip
     refine w_call (Try.func116) (by kernel_rfl) rfl (m2 ei ei) (cmWide text.length q (by omega) (by omega) (by omega) w6) ?_
     rintro _ w10 ⟨rfl, hb11⟩
     refine ⟨_, rfl, ?_⟩
     replace r_b_29 := r_b_29.step hb11
     replace hk := thenB hk hb11
     replace hS := thenB hS hb11
     refine wpList_nil ?_
     refine then_n ⟨fun _ h => thenB h (by assumption), ?_⟩
     refine d_one 3 (by kernel_rfl) rfl ?_
     refine w_val (y_str (l := [BitVec.ofNat 8 (Cm.fst q aad size)]) el (by rfl) Try.underlying54 Try.underlying5 Try.underlying9 (fun j hj => (r_b_29.val (by omega) (by (obtain rfl : j = 0 := (by omega)); rfl)))) ?_
     refine wpList_nil ?_
     refine then_n ⟨fun _ h => h, ?_⟩
     refine dp (v := .string (str (([BitVec.ofNat 8 (Cm.fst q aad size)]) ++ nonce))) 5 rfl (fun w' => y_bin es es (b_cat (by simp only [Cb.z_len, Cb.zn, List.length_append, List.length_cons, List.length_nil, Cm.num_len, Cm.head_len nonce aad text.length q size hq]; omega))) ?_
     refine dp (v := .string (str ((([BitVec.ofNat 8 (Cm.fst q aad size)]) ++ nonce) ++ (Cm.num text.length q)))) 10 rfl (fun w' => y_bin es es (b_cat (by simp only [Cb.z_len, Cb.zn, List.length_append, List.length_cons, List.length_nil, Cm.num_len, Cm.head_len nonce aad text.length q size hq]; omega))) ?_
     refine dp 11 rfl (fun w' => y_as es) ?_
     refine d_done (by kernel_rfl) ?_
     clear hS
     exact then_n ⟨_, rfl, rfl, rfl, rfl, rfl, rfl, (Eq.trans (b := .int .i64 (15 - ((nonce.length : Nat) : Int))) rfl (by congr 1; omega)), (Eq.trans (b := .string (str ((([BitVec.ofNat 8 (Cm.fst q aad size)]) ++ nonce) ++ (Cm.num text.length q)))) rfl (by first | with_reducible rfl | (with_reducible congr 1 <;> omega) | (with_reducible congr 2 <;> omega) | (with_reducible congr 3 <;> omega) | rfl)), hk⟩
   ·skip
    refine w_call (Try.func116) (by kernel_rfl) rfl (m2 ei ei) (cmWide text.length q (by omega) (by omega) (by omega) w4) ?_
    rintro _ w12 ⟨rfl, hb13⟩
    refine ⟨_, rfl, ?_⟩
    replace hk := thenB hk hb13
    replace hS := thenB hS hb13
    refine wpList_nil ?_
    refine then_n ⟨fun _ h => thenB h (by assumption), ?_⟩
    refine d_one 2 (by kernel_rfl) rfl ?_
    refine w_bs1 (m := 1) (e := 5) (F := fun j => U8 (BitVec.ofNat 8 (Cm.fst q aad size))) e8 (fun w => by kernel_rfl) ?_
    intro b_29 w14 hbe_b_29 r_b_29 hb15
    have ge_b_29 : w0.heap.size ≤ b_29 := by have := hk.size; omega
    clear hbe_b_29
    replace hk := thenB hk hb15
    replace hS := thenB hS hb15
    refine wpList_nil ?_
    refine then_n ⟨fun _ h => thenB h (by assumption), ?_⟩
    refine d_one 3 (by kernel_rfl) rfl ?_
    refine w_val (y_str (l := [BitVec.ofNat 8 (Cm.fst q aad size)]) el (by rfl) Try.underlying54 Try.underlying5 Try.underlying9 (fun j hj => (r_b_29.val (by omega) (by (obtain rfl : j = 0 := (by omega)); rfl)))) ?_
    refine wpList_nil ?_
    refine then_n ⟨fun _ h => h, ?_⟩
    refine dp (v := .string (str (([BitVec.ofNat 8 (Cm.fst q aad size)]) ++ nonce))) 5 rfl (fun w' => y_bin es es (b_cat (by simp only [Cb.z_len, Cb.zn, List.length_append, List.length_cons, List.length_nil, Cm.num_len, Cm.head_len nonce aad text.length q size hq]; omega))) ?_
    refine dp (v := .string (str ((([BitVec.ofNat 8 (Cm.fst q aad size)]) ++ nonce) ++ (Cm.num text.length q)))) 10 rfl (fun w' => y_bin es es (b_cat (by simp only [Cb.z_len, Cb.zn, List.length_append, List.length_cons, List.length_nil, Cm.num_len, Cm.head_len nonce aad text.length q size hq]; omega))) ?_
    refine dp 11 rfl (fun w' => y_as es) ?_
    refine d_done (by kernel_rfl) ?_
    clear hS
    exact then_n ⟨_, rfl, rfl, rfl, rfl, rfl, rfl, (Eq.trans (b := .int .i64 (15 - ((nonce.length : Nat) : Int))) rfl (by congr 1; omega)), (Eq.trans (b := .string (str ((([BitVec.ofNat 8 (Cm.fst q aad size)]) ++ nonce) ++ (Cm.num text.length q)))) rfl (by first | with_reducible rfl | (with_reducible congr 1 <;> omega) | (with_reducible congr 2 <;> omega) | (with_reducible congr 3 <;> omega) | rfl)), hk⟩
  ·skip
   clear hk
   rintro _ w16 ⟨f2, rfl, t3_s0, t3_s1, t3_s2, t3_s3, t3_s8, t3_s9, t3_s11, hk⟩
   refine wp_seq ?_
   refine sr ?_
   refine w_mv (es t3_s1) ?_
   refine w_val (y_len es Try.underlying9) ?_
   refine w_val (y_bin ei Ev.c b_gtr) ?_
   refine w_mv eb ?_
   by_cases hc17 : 0 < ((aad.length : Nat) : Int)
   ·skip
    refine w_val_g (v := .string (str aad)) (wy rfl rfl (eb (dt hc17))) (y_mv (es t3_s1)) ?_
    refine w_val_g (wy rfl rfl (eb (dt hc17))) (y_len es Try.underlying9) ?_
    refine w_val_g (wy rfl rfl (eb (dt hc17))) (y_bin ei Ev.c b_lss) ?_
    refine w_val (y_pick_t (eb (dt hc17)) eb) ?_
    refine nt ?_
    refine c_if (p := ((aad.length : Nat) : Int) < 65280) eb (fun hc18 => ?_) (fun hc18 => ?_)
    ·skip
     refine wp_region_lit ?_
     refine w_mv (es t3_s11) ?_
     refine w_mv (es t3_s1) ?_
     refine w_val (y_len es Try.underlying9) ?_
     refine w_call (Try.func116) (by kernel_rfl) rfl (m2 ei Ev.c) (cmWide aad.length 2 (by omega) (by omega) (by omega) w16) ?_
     rintro _ w19 ⟨rfl, hb20⟩
     refine ⟨_, rfl, ?_⟩
     replace hk := thenB hk hb20
     refine w_mv (es t3_s1) ?_
     refine w_val (y_bin es es (b_cat (by simp only [Cb.z_len, Cb.zn, List.length_append, List.length_cons, List.length_nil, Cm.num_len, Cm.head_len nonce aad text.length q size hq]; omega))) ?_
     refine w_call (Try.func117) (by kernel_rfl) rfl (m1 es) (refFilled ((Cm.num aad.length 2) ++ aad) (by (try simp only [List.length_append, List.length_cons, List.length_nil, Cm.num_len, List.length_replicate]; omega); first | done | omega) w19) ?_
     rintro _ w21 ⟨rfl, hb22⟩
     refine ⟨_, rfl, ?_⟩
     replace hk := thenB hk hb22
     refine w_val (y_bin es es (b_cat (by simp only [Cb.z_len, Cb.zn, List.length_append, List.length_cons, List.length_nil, Cm.num_len, Cm.head_len nonce aad text.length q size hq]; omega))) ?_
     refine w_as es ?_
     refine nt ?_
     refine sr ?_
     refine w_mv es ?_
     refine w_mv (es t3_s2) ?_
     refine w_call (Try.func117) (by kernel_rfl) rfl (m1 es) (refFilled text (by (try simp only [List.length_append, List.length_cons, List.length_nil, Cm.num_len, List.length_replicate]; omega); first | done | omega) w21) ?_
     rintro _ w23 ⟨rfl, hb24⟩
     refine ⟨_, rfl, ?_⟩
     replace hk := thenB hk hb24
     refine w_val (y_bin es es (b_cat (by simp only [Cb.z_len, Cb.zn, List.length_append, List.length_cons, List.length_nil, Cm.num_len, Cm.head_len nonce aad text.length q size hq]; omega))) ?_
     refine w_as es ?_
     refine nt ?_
     refine wp_ret ?_
     refine fin_ret1 rfl es ?_
     refine ⟨congrArg Ending.returned ?_, hk⟩
     show (.string (str (((Cm.head nonce aad text.length q size) ++ (Cb.z ((Cm.num aad.length 2) ++ aad))) ++ (Cb.z text))) : Value) = .string (str (Cb.z (Cm.all nonce aad text q size)))
     rw [Cm.z_all nonce aad text q size hq]
     unfold Cm.bes
     first | (exfalso; omega) | (rw [if_pos (by omega), List.append_nil]) | (rw [if_neg (by omega), if_pos (by omega)]; done) | (rw [if_neg (by omega), if_neg (by omega)]; done) | (rw [if_neg (by omega), if_pos (by omega)]; rfl) | (rw [if_neg (by omega), if_neg (by omega)]; rfl)
    ·skip
     refine sr ?_
     refine w_mv (es t3_s1) ?_
     refine w_val (y_len es Try.underlying9) ?_
     refine w_val (y_bin ei Ev.c b_gtr) ?_
     refine nt ?_
     refine c_tt (eb (dt hc17)) ?_
     refine wp_region_lit ?_
     refine w_mv (es t3_s11) ?_
     refine w_mv (es t3_s1) ?_
     refine w_val (y_len es Try.underlying9) ?_
     refine w_call (Try.func116) (by kernel_rfl) rfl (m2 ei Ev.c) (cmWide aad.length 4 (by omega) (by omega) (by omega) w16) ?_
     rintro _ w25 ⟨rfl, hb26⟩
     refine ⟨_, rfl, ?_⟩
     replace hk := thenB hk hb26
     refine w_val (y_bin (evc (.string (str ([255#8, 254#8])))) es (b_cat (by simp only [Cb.z_len, Cb.zn, List.length_append, List.length_cons, List.length_nil, Cm.num_len, Cm.head_len nonce aad text.length q size hq]; omega))) ?_
     refine w_mv (es t3_s1) ?_
     refine w_val (y_bin es es (b_cat (by simp only [Cb.z_len, Cb.zn, List.length_append, List.length_cons, List.length_nil, Cm.num_len, Cm.head_len nonce aad text.length q size hq]; omega))) ?_
     refine w_call (Try.func117) (by kernel_rfl) rfl (m1 es) (refFilled ((([255#8, 254#8]) ++ (Cm.num aad.length 4)) ++ aad) (by (try simp only [List.length_append, List.length_cons, List.length_nil, Cm.num_len, List.length_replicate]; omega); first | done | omega) w25) ?_
     rintro _ w27 ⟨rfl, hb28⟩
     refine ⟨_, rfl, ?_⟩
     replace hk := thenB hk hb28
     refine w_val (y_bin es es (b_cat (by simp only [Cb.z_len, Cb.zn, List.length_append, List.length_cons, List.length_nil, Cm.num_len, Cm.head_len nonce aad text.length q size hq]; omega))) ?_
     refine w_as es ?_
     refine nt ?_
     refine sr ?_
     refine w_mv es ?_
     refine w_mv (es t3_s2) ?_
     refine w_call (Try.func117) (by kernel_rfl) rfl (m1 es) (refFilled text (by (try simp only [List.length_append, List.length_cons, List.length_nil, Cm.num_len, List.length_replicate]; omega); first | done | omega) w27) ?_
     rintro _ w29 ⟨rfl, hb30⟩
     refine ⟨_, rfl, ?_⟩
     replace hk := thenB hk hb30
     refine w_val (y_bin es es (b_cat (by simp only [Cb.z_len, Cb.zn, List.length_append, List.length_cons, List.length_nil, Cm.num_len, Cm.head_len nonce aad text.length q size hq]; omega))) ?_
     refine w_as es ?_
     refine nt ?_
     refine wp_ret ?_
     refine fin_ret1 rfl es ?_
     refine ⟨congrArg Ending.returned ?_, hk⟩
     show (.string (str (((Cm.head nonce aad text.length q size) ++ (Cb.z ((([255#8, 254#8]) ++ (Cm.num aad.length 4)) ++ aad))) ++ (Cb.z text))) : Value) = .string (str (Cb.z (Cm.all nonce aad text q size)))
     rw [Cm.z_all nonce aad text q size hq]
     unfold Cm.bes
     first | (exfalso; omega) | (rw [if_pos (by omega), List.append_nil]) | (rw [if_neg (by omega), if_pos (by omega)]; done) | (rw [if_neg (by omega), if_neg (by omega)]; done) | (rw [if_neg (by omega), if_pos (by omega)]; rfl) | (rw [if_neg (by omega), if_neg (by omega)]; rfl)
   ·skip
    with_reducible refine w_skip ?_ ?_
    exact wn rfl rfl (eb (df hc17))
    with_reducible refine w_skip ?_ ?_
    exact wn rfl rfl (eb (df hc17))
    with_reducible refine w_skip ?_ ?_
    exact wn rfl rfl (eb (df hc17))
    refine w_val (y_pick_f (eb (df hc17)) Ev.c) ?_
    refine nt ?_
    refine c_ff eb ?_
    refine sr ?_
    refine w_mv (es t3_s1) ?_
    refine w_val (y_len es Try.underlying9) ?_
    refine w_val (y_bin ei Ev.c b_gtr) ?_
    refine nt ?_
    refine c_ff (eb (df hc17)) ?_
    refine wp_skip ?_
    refine then_n ?_
    refine sr ?_
    refine w_mv (es t3_s11) ?_
    refine w_mv (es t3_s2) ?_
    refine w_call (Try.func117) (by kernel_rfl) rfl (m1 es) (refFilled text (by (try simp only [List.length_append, List.length_cons, List.length_nil, Cm.num_len, List.length_replicate]; omega); first | done | omega) w16) ?_
    rintro _ w31 ⟨rfl, hb32⟩
    refine ⟨_, rfl, ?_⟩
    replace hk := thenB hk hb32
    refine w_val (y_bin es es (b_cat (by simp only [Cb.z_len, Cb.zn, List.length_append, List.length_cons, List.length_nil, Cm.num_len, Cm.head_len nonce aad text.length q size hq]; omega))) ?_
    refine w_as es ?_
    refine nt ?_
    refine wp_ret ?_
    refine fin_ret1 rfl es ?_
    refine ⟨congrArg Ending.returned ?_, hk⟩
    show (.string (str ((Cm.head nonce aad text.length q size) ++ (Cb.z text))) : Value) = .string (str (Cb.z (Cm.all nonce aad text q size)))
    rw [Cm.z_all nonce aad text q size hq]
    unfold Cm.bes
    first | (exfalso; omega) | (rw [if_pos (by omega), List.append_nil]) | (rw [if_neg (by omega), if_pos (by omega)]; done) | (rw [if_neg (by omega), if_neg (by omega)]; done) | (rw [if_neg (by omega), if_pos (by omega)]; rfl) | (rw [if_neg (by omega), if_neg (by omega)]; rfl)
 ·skip
  refine wp_skip ?_
  refine then_n ?_
  refine c_cut (fun aN wl => ∃ f33, aN = fr 70 f33 ∧ f33 0 = .string (str nonce) ∧ f33 1 = .string (str aad) ∧ f33 2 = .string (str text) ∧ f33 3 = .int .i64 ((size : Nat) : Int) ∧ f33 8 = .string (str ([] : List (BitVec 8))) ∧ f33 9 = .int .i64 ((q : Nat) : Int) ∧ f33 11 = .string (str (Cm.head nonce aad text.length q size)) ∧ Below w0.heap.size w0 wl) ?_ ?_
  ·skip
   refine region_dc (Nat.testBit 0) 12 CcmDT.mixed rfl ?_
   intro w35 hb36
   replace hk := thenB hk hb36
   have hS : Cls w35 w35 := Below.refl _ _
   refine dp 0 rfl (fun w' => y_mv (ex (.int .i64 (((Cm.fst q aad size) : Nat) : Int)) (Eq.trans (b := .int .i64 ((((8 * (((size : Nat) : Int) - 2)) / 2) + ((q : Nat) : Int)) - 1)) rfl (by exact congrArg (Value.int .i64) (by unfold Cm.fst; split <;> omega))))) ?_
   refine dp (v := U8 (BitVec.ofNat 8 (Cm.fst q aad size))) 1 rfl (fun w' => y_nat_u8 (p := (Cm.fst q aad size)) ei (by omega) CcmDT.so3 Try.underlying5) ?_
   refine dp 4 rfl (fun w' => y_mv es) ?_
   refine dp 6 rfl (fun w' => y_mv es) ?_
   refine dp (v := .int .i64 ((text.length : Nat) : Int)) 7 rfl (fun w' => y_len es Try.underlying9) ?_
   refine dp 8 rfl (fun w' => y_mv (ex (.int .i64 ((q : Nat) : Int)) (Eq.trans (b := .int .i64 (15 - ((nonce.length : Nat) : Int))) rfl (by congr 1; omega)))) ?_
   refine d_two 2 9 (by kernel_rfl) rfl rfl ?_ ?_
   ·skip
    refine w_bs1 (m := 1) (e := 5) (F := fun j => U8 (BitVec.ofNat 8 (Cm.fst q aad size))) e8 (fun w => by kernel_rfl) ?_
    intro b_29 w37 hbe_b_29 r_b_29 hb38
    have ge_b_29 : w0.heap.size ≤ b_29 := by have := hk.size; omega
    clear hbe_b_29
    replace hk := thenB hk hb38
    replace hS := thenB hS hb38
    refine wpList_nil ?_
    refine then_n ⟨fun _ h => thenB h (by assumption), ?_⟩
    refine d_two 3 9 (by kernel_rfl) rfl rfl ?_ ?_
    ·skip
     refine w_val (y_str (l := [BitVec.ofNat 8 (Cm.fst q aad size)]) el (by rfl) Try.underlying54 Try.underlying5 Try.underlying9 (fun j hj => (r_b_29.val (by omega) (by (obtain rfl : j = 0 := (by omega)); rfl)))) ?_
     refine wpList_nil ?_
     refine then_n ⟨fun _ h => h, ?_⟩
     refine dp (v := .string (str (([BitVec.ofNat 8 (Cm.fst q aad size)]) ++ nonce))) 5 rfl (fun w' => y_bin es es (b_cat (by simp only [Cb.z_len, Cb.zn, List.length_append, List.length_cons, List.length_nil, Cm.num_len, Cm.head_len nonce aad text.length q size hq]; omega))) ?_
     refine d_one 9 (by kernel_rfl) rfl ?_
     refine w_call (Try.func116) (by kernel_rfl) rfl (m2 ei ei) (cmWide text.length q (by omega) (by omega) (by omega) w37) ?_
     rintro _ w39 ⟨rfl, hb40⟩
     refine ⟨_, rfl, ?_⟩
     replace r_b_29 := r_b_29.step hb40
     replace hk := thenB hk hb40
     replace hS := thenB hS hb40
     refine wpList_nil ?_
     refine then_n ⟨fun _ h => thenB h (by assumption), ?_⟩
     refine dp (v := .string (str ((([BitVec.ofNat 8 (Cm.fst q aad size)]) ++ nonce) ++ (Cm.num text.length q)))) 10 rfl (fun w' => y_bin es es (b_cat (by simp only [Cb.z_len, Cb.zn, List.length_append, List.length_cons, List.length_nil, Cm.num_len, Cm.head_len nonce aad text.length q size hq]; omega))) ?_
     refine dp 11 rfl (fun w' => y_as es) ?_
     refine d_done (by kernel_rfl) ?_
     clear hS
     exact then_n ⟨_, rfl, rfl, rfl, rfl, rfl, rfl, (Eq.trans (b := .int .i64 (15 - ((nonce.length : Nat) : Int))) rfl (by congr 1; omega)), (Eq.trans (b := .string (str ((([BitVec.ofNat 8 (Cm.fst q aad size)]) ++ nonce) ++ (Cm.num text.length q)))) rfl (by first | with_reducible rfl | (with_reducible congr 1 <;> omega) | (with_reducible congr 2 <;> omega) | (with_reducible congr 3 <;> omega) | rfl)), hk⟩
    ·skip
     refine w_call (Try.func116) (by kernel_rfl) rfl (m2 ei ei) (cmWide text.length q (by omega) (by omega) (by omega) w37) ?_
     rintro _ w41 ⟨rfl, hb42⟩
     refine ⟨_, rfl, ?_⟩
     replace r_b_29 := r_b_29.step hb42
     replace hk := thenB hk hb42
     replace hS := thenB hS hb42
     refine wpList_nil ?_
     refine then_n ⟨fun _ h => thenB h (by assumption), ?_⟩
     refine d_one 3 (by kernel_rfl) rfl ?_
     refine w_val (y_str (l := [BitVec.ofNat 8 (Cm.fst q aad size)]) el (by rfl) Try.underlying54 Try.underlying5 Try.underlying9 (fun j hj => (r_b_29.val (by omega) (by (obtain rfl : j = 0 := (by omega)); rfl)))) ?_
     refine wpList_nil ?_
     refine then_n ⟨fun _ h => h, ?_⟩
     refine dp (v := .string (str (([BitVec.ofNat 8 (Cm.fst q aad size)]) ++ nonce))) 5 rfl (fun w' => y_bin es es (b_cat (by simp only [Cb.z_len, Cb.zn, List.length_append, List.length_cons, List.length_nil, Cm.num_len, Cm.head_len nonce aad text.length q size hq]; omega))) ?_
     refine dp (v := .string (str ((([BitVec.ofNat 8 (Cm.fst q aad size)]) ++ nonce) ++ (Cm.num text.length q)))) 10 rfl (fun w' => y_bin es es (b_cat (by simp only [Cb.z_len, Cb.zn, List.length_append, List.length_cons, List.length_nil, Cm.num_len, Cm.head_len nonce aad text.length q size hq]; omega))) ?_
     refine dp 11 rfl (fun w' => y_as es) ?_
     refine d_done (by kernel_rfl) ?_
     clear hS
     exact then_n ⟨_, rfl, rfl, rfl, rfl, rfl, rfl, (Eq.trans (b := .int .i64 (15 - ((nonce.length : Nat) : Int))) rfl (by congr 1; omega)), (Eq.trans (b := .string (str ((([BitVec.ofNat 8 (Cm.fst q aad size)]) ++ nonce) ++ (Cm.num text.length q)))) rfl (by first | with_reducible rfl | (with_reducible congr 1 <;> omega) | (with_reducible congr 2 <;> omega) | (with_reducible congr 3 <;> omega) | rfl)), hk⟩
   ·skip
    refine w_call (Try.func116) (by kernel_rfl) rfl (m2 ei ei) (cmWide text.length q (by omega) (by omega) (by omega) w35) ?_
    rintro _ w43 ⟨rfl, hb44⟩
    refine ⟨_, rfl, ?_⟩
    replace hk := thenB hk hb44
    replace hS := thenB hS hb44
    refine wpList_nil ?_
    refine then_n ⟨fun _ h => thenB h (by assumption), ?_⟩
    refine d_one 2 (by kernel_rfl) rfl ?_
    refine w_bs1 (m := 1) (e := 5) (F := fun j => U8 (BitVec.ofNat 8 (Cm.fst q aad size))) e8 (fun w => by kernel_rfl) ?_
    intro b_29 w45 hbe_b_29 r_b_29 hb46
    have ge_b_29 : w0.heap.size ≤ b_29 := by have := hk.size; omega
    clear hbe_b_29
    replace hk := thenB hk hb46
    replace hS := thenB hS hb46
    refine wpList_nil ?_
    refine then_n ⟨fun _ h => thenB h (by assumption), ?_⟩
    refine d_one 3 (by kernel_rfl) rfl ?_
    refine w_val (y_str (l := [BitVec.ofNat 8 (Cm.fst q aad size)]) el (by rfl) Try.underlying54 Try.underlying5 Try.underlying9 (fun j hj => (r_b_29.val (by omega) (by (obtain rfl : j = 0 := (by omega)); rfl)))) ?_
    refine wpList_nil ?_
    refine then_n ⟨fun _ h => h, ?_⟩
    refine dp (v := .string (str (([BitVec.ofNat 8 (Cm.fst q aad size)]) ++ nonce))) 5 rfl (fun w' => y_bin es es (b_cat (by simp only [Cb.z_len, Cb.zn, List.length_append, List.length_cons, List.length_nil, Cm.num_len, Cm.head_len nonce aad text.length q size hq]; omega))) ?_
    refine dp (v := .string (str ((([BitVec.ofNat 8 (Cm.fst q aad size)]) ++ nonce) ++ (Cm.num text.length q)))) 10 rfl (fun w' => y_bin es es (b_cat (by simp only [Cb.z_len, Cb.zn, List.length_append, List.length_cons, List.length_nil, Cm.num_len, Cm.head_len nonce aad text.length q size hq]; omega))) ?_
    refine dp 11 rfl (fun w' => y_as es) ?_
    refine d_done (by kernel_rfl) ?_
    clear hS
    exact then_n ⟨_, rfl, rfl, rfl, rfl, rfl, rfl, (Eq.trans (b := .int .i64 (15 - ((nonce.length : Nat) : Int))) rfl (by congr 1; omega)), (Eq.trans (b := .string (str ((([BitVec.ofNat 8 (Cm.fst q aad size)]) ++ nonce) ++ (Cm.num text.length q)))) rfl (by first | with_reducible rfl | (with_reducible congr 1 <;> omega) | (with_reducible congr 2 <;> omega) | (with_reducible congr 3 <;> omega) | rfl)), hk⟩
  ·skip
   clear hk
   rintro _ w47 ⟨f33, rfl, t34_s0, t34_s1, t34_s2, t34_s3, t34_s8, t34_s9, t34_s11, hk⟩
   refine wp_seq ?_
   refine sr ?_
   refine w_mv (es t34_s1) ?_
   refine w_val (y_len es Try.underlying9) ?_
   refine w_val (y_bin ei Ev.c b_gtr) ?_
   refine w_mv eb ?_
   by_cases hc48 : 0 < ((aad.length : Nat) : Int)
   ·skip
    refine w_val_g (v := .string (str aad)) (wy rfl rfl (eb (dt hc48))) (y_mv (es t34_s1)) ?_
    refine w_val_g (wy rfl rfl (eb (dt hc48))) (y_len es Try.underlying9) ?_
    refine w_val_g (wy rfl rfl (eb (dt hc48))) (y_bin ei Ev.c b_lss) ?_
    refine w_val (y_pick_t (eb (dt hc48)) eb) ?_
    refine nt ?_
    refine c_if (p := ((aad.length : Nat) : Int) < 65280) eb (fun hc49 => ?_) (fun hc49 => ?_)
    ·skip
     refine wp_region_lit ?_
     refine w_mv (es t34_s11) ?_
     refine w_mv (es t34_s1) ?_
     refine w_val (y_len es Try.underlying9) ?_
     refine w_call (Try.func116) (by kernel_rfl) rfl (m2 ei Ev.c) (cmWide aad.length 2 (by omega) (by omega) (by omega) w47) ?_
     rintro _ w50 ⟨rfl, hb51⟩
     refine ⟨_, rfl, ?_⟩
     replace hk := thenB hk hb51
     refine w_mv (es t34_s1) ?_
     refine w_val (y_bin es es (b_cat (by simp only [Cb.z_len, Cb.zn, List.length_append, List.length_cons, List.length_nil, Cm.num_len, Cm.head_len nonce aad text.length q size hq]; omega))) ?_
     refine w_call (Try.func117) (by kernel_rfl) rfl (m1 es) (refFilled ((Cm.num aad.length 2) ++ aad) (by (try simp only [List.length_append, List.length_cons, List.length_nil, Cm.num_len, List.length_replicate]; omega); first | done | omega) w50) ?_
     rintro _ w52 ⟨rfl, hb53⟩
     refine ⟨_, rfl, ?_⟩
     replace hk := thenB hk hb53
     refine w_val (y_bin es es (b_cat (by simp only [Cb.z_len, Cb.zn, List.length_append, List.length_cons, List.length_nil, Cm.num_len, Cm.head_len nonce aad text.length q size hq]; omega))) ?_
     refine w_as es ?_
     refine nt ?_
     refine sr ?_
     refine w_mv es ?_
     refine w_mv (es t34_s2) ?_
     refine w_call (Try.func117) (by kernel_rfl) rfl (m1 es) (refFilled text (by (try simp only [List.length_append, List.length_cons, List.length_nil, Cm.num_len, List.length_replicate]; omega); first | done | omega) w52) ?_
     rintro _ w54 ⟨rfl, hb55⟩
     refine ⟨_, rfl, ?_⟩
     replace hk := thenB hk hb55
     refine w_val (y_bin es es (b_cat (by simp only [Cb.z_len, Cb.zn, List.length_append, List.length_cons, List.length_nil, Cm.num_len, Cm.head_len nonce aad text.length q size hq]; omega))) ?_
     refine w_as es ?_
     refine nt ?_
     refine wp_ret ?_
     refine fin_ret1 rfl es ?_
     refine ⟨congrArg Ending.returned ?_, hk⟩
     show (.string (str (((Cm.head nonce aad text.length q size) ++ (Cb.z ((Cm.num aad.length 2) ++ aad))) ++ (Cb.z text))) : Value) = .string (str (Cb.z (Cm.all nonce aad text q size)))
     rw [Cm.z_all nonce aad text q size hq]
     unfold Cm.bes
     first | (exfalso; omega) | (rw [if_pos (by omega), List.append_nil]) | (rw [if_neg (by omega), if_pos (by omega)]; done) | (rw [if_neg (by omega), if_neg (by omega)]; done) | (rw [if_neg (by omega), if_pos (by omega)]; rfl) | (rw [if_neg (by omega), if_neg (by omega)]; rfl)
    ·skip
     refine sr ?_
     refine w_mv (es t34_s1) ?_
     refine w_val (y_len es Try.underlying9) ?_
     refine w_val (y_bin ei Ev.c b_gtr) ?_
     refine nt ?_
     refine c_tt (eb (dt hc48)) ?_
     refine wp_region_lit ?_
     refine w_mv (es t34_s11) ?_
     refine w_mv (es t34_s1) ?_
     refine w_val (y_len es Try.underlying9) ?_
     refine w_call (Try.func116) (by kernel_rfl) rfl (m2 ei Ev.c) (cmWide aad.length 4 (by omega) (by omega) (by omega) w47) ?_
     rintro _ w56 ⟨rfl, hb57⟩
     refine ⟨_, rfl, ?_⟩
     replace hk := thenB hk hb57
     refine w_val (y_bin (evc (.string (str ([255#8, 254#8])))) es (b_cat (by simp only [Cb.z_len, Cb.zn, List.length_append, List.length_cons, List.length_nil, Cm.num_len, Cm.head_len nonce aad text.length q size hq]; omega))) ?_
     refine w_mv (es t34_s1) ?_
     refine w_val (y_bin es es (b_cat (by simp only [Cb.z_len, Cb.zn, List.length_append, List.length_cons, List.length_nil, Cm.num_len, Cm.head_len nonce aad text.length q size hq]; omega))) ?_
     refine w_call (Try.func117) (by kernel_rfl) rfl (m1 es) (refFilled ((([255#8, 254#8]) ++ (Cm.num aad.length 4)) ++ aad) (by (try simp only [List.length_append, List.length_cons, List.length_nil, Cm.num_len, List.length_replicate]; omega); first | done | omega) w56) ?_
     rintro _ w58 ⟨rfl, hb59⟩
     refine ⟨_, rfl, ?_⟩
     replace hk := thenB hk hb59
     refine w_val (y_bin es es (b_cat (by simp only [Cb.z_len, Cb.zn, List.length_append, List.length_cons, List.length_nil, Cm.num_len, Cm.head_len nonce aad text.length q size hq]; omega))) ?_
     refine w_as es ?_
     refine nt ?_
     refine sr ?_
     refine w_mv es ?_
     refine w_mv (es t34_s2) ?_
     refine w_call (Try.func117) (by kernel_rfl) rfl (m1 es) (refFilled text (by (try simp only [List.length_append, List.length_cons, List.length_nil, Cm.num_len, List.length_replicate]; omega); first | done | omega) w58) ?_
     rintro _ w60 ⟨rfl, hb61⟩
     refine ⟨_, rfl, ?_⟩
     replace hk := thenB hk hb61
     refine w_val (y_bin es es (b_cat (by simp only [Cb.z_len, Cb.zn, List.length_append, List.length_cons, List.length_nil, Cm.num_len, Cm.head_len nonce aad text.length q size hq]; omega))) ?_
     refine w_as es ?_
     refine nt ?_
     refine wp_ret ?_
     refine fin_ret1 rfl es ?_
     refine ⟨congrArg Ending.returned ?_, hk⟩
     show (.string (str (((Cm.head nonce aad text.length q size) ++ (Cb.z ((([255#8, 254#8]) ++ (Cm.num aad.length 4)) ++ aad))) ++ (Cb.z text))) : Value) = .string (str (Cb.z (Cm.all nonce aad text q size)))
     rw [Cm.z_all nonce aad text q size hq]
     unfold Cm.bes
     first | (exfalso; omega) | (rw [if_pos (by omega), List.append_nil]) | (rw [if_neg (by omega), if_pos (by omega)]; done) | (rw [if_neg (by omega), if_neg (by omega)]; done) | (rw [if_neg (by omega), if_pos (by omega)]; rfl) | (rw [if_neg (by omega), if_neg (by omega)]; rfl)
   ·skip
    with_reducible refine w_skip ?_ ?_
    exact wn rfl rfl (eb (df hc48))
    with_reducible refine w_skip ?_ ?_
    exact wn rfl rfl (eb (df hc48))
    with_reducible refine w_skip ?_ ?_
    exact wn rfl rfl (eb (df hc48))
    refine w_val (y_pick_f (eb (df hc48)) Ev.c) ?_
    refine nt ?_
    refine c_ff eb ?_
    refine sr ?_
    refine w_mv (es t34_s1) ?_
    refine w_val (y_len es Try.underlying9) ?_
    refine w_val (y_bin ei Ev.c b_gtr) ?_
    refine nt ?_
    refine c_ff (eb (df hc48)) ?_
    refine wp_skip ?_
    refine then_n ?_
    refine sr ?_
    refine w_mv (es t34_s11) ?_
    refine w_mv (es t34_s2) ?_
    refine w_call (Try.func117) (by kernel_rfl) rfl (m1 es) (refFilled text (by (try simp only [List.length_append, List.length_cons, List.length_nil, Cm.num_len, List.length_replicate]; omega); first | done | omega) w47) ?_
    rintro _ w62 ⟨rfl, hb63⟩
    refine ⟨_, rfl, ?_⟩
    replace hk := thenB hk hb63
    refine w_val (y_bin es es (b_cat (by simp only [Cb.z_len, Cb.zn, List.length_append, List.length_cons, List.length_nil, Cm.num_len, Cm.head_len nonce aad text.length q size hq]; omega))) ?_
    refine w_as es ?_
    refine nt ?_
    refine wp_ret ?_
    refine fin_ret1 rfl es ?_
    refine ⟨congrArg Ending.returned ?_, hk⟩
    show (.string (str ((Cm.head nonce aad text.length q size) ++ (Cb.z text))) : Value) = .string (str (Cb.z (Cm.all nonce aad text q size)))
    rw [Cm.z_all nonce aad text q size hq]
    unfold Cm.bes
    first | (exfalso; omega) | (rw [if_pos (by omega), List.append_nil]) | (rw [if_neg (by omega), if_pos (by omega)]; done) | (rw [if_neg (by omega), if_neg (by omega)]; done) | (rw [if_neg (by omega), if_pos (by omega)]; rfl) | (rw [if_neg (by omega), if_neg (by omega)]; rfl)
end Go.Proofs.Ytjdcpejcnmpiaaa
