/-
  Counters: what the program and the reference compute. Conditions as each says.
-/
import Derived.Test.YtjdcpejcnmpiaaaRows
import Derived.Test.YtjdcpejcnmpiaaaGenMore
import Derived.Test.YtjdcpejcnmpiaaaAesBase
import Derived.Test.YtjdcpejcnmpiaaaOctW
import Derived.Test.YtjdcpejcnmpiaaaCtrPlain
import Derived.ProofKit
namespace Go.Proofs.Ytjdcpejcnmpiaaa
open Go.RowKit
set_option linter.unusedSimpArgs false
set_option linter.unusedVariables false
namespace CtrAT
theorem mixed : Try.prog.follows .mixedOrders = true := by kernel_rfl
end CtrAT
set_option maxRecDepth 100000 in
set_option maxHeartbeats 1000000 in
theorem wrong_i (s : List (BitVec 8)) (d : Int) (hs : s.length ≠ 16) (w0 : World) : Calls Try.prog 112 #[.string (str s), .int .i64 d] w0 fun e w' => e = .returned (.int .i64 4) ∧ Below w0.heap.size w0 w' := by
 refine enter (n := 14) Try.func112 rfl rfl rfl ?_
 have hk : Below w0.heap.size w0 w0 := Below.refl _ _
 refine sr ?_
 refine w_as (evc (.int .i64 0)) ?_
 refine nt ?_
 refine wp_seq ?_
 refine sr ?_
 refine w_mv (ev (.string (str s)) rfl rfl) ?_
 refine w_val (y_len (ev (.string (str s)) rfl rfl) Try.underlying9) ?_
 refine w_val (y_bin (ev (.int .i64 ((s.length : Nat) : Int)) rfl rfl) (evc (.int .i64 16)) b_neq) ?_
 refine nt ?_
 refine c_if (p := ((s.length : Nat) : Int) ≠ 16) (ev (.bool (decide (((s.length : Nat) : Int) ≠ 16))) rfl rfl) (fun hc1 => ?_) (fun hc1 => ?_)
 ·skip
  refine sr ?_
  refine w_as (evc (.int .i64 4)) ?_
  refine nt ?_
  refine wp_ret ?_
  refine then_r ?_
  refine fin_ret1 rfl (ev (.int .i64 4) rfl rfl) ?_
  exact ⟨rfl, hk⟩
 ·skip
  refine wp_skip ?_
  refine then_n ?_
  refine wp_seq ?_
  refine sr ?_
  refine w_mv (ev (.int .i64 d) rfl rfl) ?_
  refine w_val (y_bin (ev (.int .i64 d) rfl rfl) (evc (.int .i64 1)) b_lss) ?_
  refine w_mv (ev (.bool (decide (d < 1))) rfl rfl) ?_
  by_cases hc2 : d < 1
  ·skip
   first | with_reducible refine w_skip ?_ ?_ | refine w_skip ?_ ?_
   · exact want_no (j := 2) rfl rfl (ev (.bool true) (Eq.trans (b := .bool (decide (d < 1))) rfl (by rw [decide_eq_true hc2])) rfl) rfl
   first | with_reducible refine w_skip ?_ ?_ | refine w_skip ?_ ?_
   · exact want_no (j := 2) rfl rfl (ev (.bool true) (Eq.trans (b := .bool (decide (d < 1))) rfl (by rw [decide_eq_true hc2])) rfl) rfl
   refine w_val (y_pick_t (ev (.bool true) (Eq.trans (b := .bool (decide (d < 1))) rfl (by rw [decide_eq_true hc2])) rfl) (evc (.bool true))) ?_
   refine nt ?_
   refine c_tt (ev (.bool true) rfl rfl) ?_
   refine sr ?_
   refine w_as (evc (.int .i64 2)) ?_
   refine nt ?_
   refine wp_ret ?_
   refine then_r ?_
   refine fin_ret1 rfl (ev (.int .i64 2) rfl rfl) ?_
   refine ⟨congrArg Ending.returned ?_, hk⟩
   show (.int .i64 2 : Value) = .int .i64 4
   first | with_reducible rfl | (with_reducible congr 1 <;> omega) | (with_reducible congr 2 <;> omega) | (with_reducible congr 3 <;> omega) | rfl
  ·skip
   refine w_val_g (v := .int .i64 d) (want_yes (j := 2) rfl rfl (ev (.bool false) (Eq.trans (b := .bool (decide (d < 1))) rfl (by rw [decide_eq_false hc2])) rfl) rfl) (y_mv (ev (.int .i64 d) rfl rfl)) ?_
   refine w_val_g (want_yes (j := 2) rfl rfl (ev (.bool false) (Eq.trans (b := .bool (decide (d < 1))) rfl (by rw [decide_eq_false hc2])) rfl) rfl) (y_bin (ev (.int .i64 d) rfl rfl) (evc (.int .i64 16)) b_gtr) ?_
   refine w_val (y_pick_f (ev (.bool false) (Eq.trans (b := .bool (decide (d < 1))) rfl (by rw [decide_eq_false hc2])) rfl) (ev (.bool (decide (16 < d))) rfl rfl)) ?_
   refine nt ?_
   refine c_if (p := 16 < d) (ev (.bool (decide (16 < d))) rfl rfl) (fun hc3 => ?_) (fun hc3 => ?_)
   ·skip
    refine sr ?_
    refine w_as (evc (.int .i64 2)) ?_
    refine nt ?_
    refine wp_ret ?_
    refine then_r ?_
    refine fin_ret1 rfl (ev (.int .i64 2) rfl rfl) ?_
    refine ⟨congrArg Ending.returned ?_, hk⟩
    show (.int .i64 2 : Value) = .int .i64 4
    first | with_reducible rfl | (with_reducible congr 1 <;> omega) | (with_reducible congr 2 <;> omega) | (with_reducible congr 3 <;> omega) | rfl
   ·skip
    refine wp_skip ?_
    refine then_n ?_
    refine sr ?_
    refine w_as (evc (.int .i64 0)) ?_
    refine nt ?_
    refine wp_ret ?_
    refine fin_ret1 rfl (ev (.int .i64 0) rfl rfl) ?_
    refine ⟨congrArg Ending.returned ?_, hk⟩
    show (.int .i64 0 : Value) = .int .i64 4
    first | with_reducible rfl | (with_reducible congr 1 <;> omega) | (with_reducible congr 2 <;> omega) | (with_reducible congr 3 <;> omega) | rfl

set_option maxRecDepth 100000 in
set_option maxHeartbeats 1000000 in
theorem wrong_d (s : List (BitVec 8)) (d : Int) (hs : s.length = 16) (hd : ¬ (1 ≤ d ∧ d ≤ 16)) (w0 : World) : Calls Try.prog 112 #[.string (str s), .int .i64 d] w0 fun e w' => e = .returned (.int .i64 2) ∧ Below w0.heap.size w0 w' := by
 refine enter (n := 14) Try.func112 rfl rfl rfl ?_
 have hk : Below w0.heap.size w0 w0 := Below.refl _ _
 refine sr ?_
 refine w_as (evc (.int .i64 0)) ?_
 refine nt ?_
 refine wp_seq ?_
 refine sr ?_
 refine w_mv (ev (.string (str s)) rfl rfl) ?_
 refine w_val (y_len (ev (.string (str s)) rfl rfl) Try.underlying9) ?_
 refine w_val (y_bin (ev (.int .i64 ((s.length : Nat) : Int)) rfl rfl) (evc (.int .i64 16)) b_neq) ?_
 refine nt ?_
 have hc1 : ¬ (((s.length : Nat) : Int) ≠ 16) := by omega
 refine c_f (p := ((s.length : Nat) : Int) ≠ 16) (ev (.bool (decide (((s.length : Nat) : Int) ≠ 16))) rfl rfl) hc1 ?_
 refine wp_skip ?_
 refine then_n ?_
 refine wp_seq ?_
 refine sr ?_
 refine w_mv (ev (.int .i64 d) rfl rfl) ?_
 refine w_val (y_bin (ev (.int .i64 d) rfl rfl) (evc (.int .i64 1)) b_lss) ?_
 refine w_mv (ev (.bool (decide (d < 1))) rfl rfl) ?_
 by_cases hc2 : d < 1
 ·skip
  first | with_reducible refine w_skip ?_ ?_ | refine w_skip ?_ ?_
  · exact want_no (j := 2) rfl rfl (ev (.bool true) (Eq.trans (b := .bool (decide (d < 1))) rfl (by rw [decide_eq_true hc2])) rfl) rfl
  first | with_reducible refine w_skip ?_ ?_ | refine w_skip ?_ ?_
  · exact want_no (j := 2) rfl rfl (ev (.bool true) (Eq.trans (b := .bool (decide (d < 1))) rfl (by rw [decide_eq_true hc2])) rfl) rfl
  refine w_val (y_pick_t (ev (.bool true) (Eq.trans (b := .bool (decide (d < 1))) rfl (by rw [decide_eq_true hc2])) rfl) (evc (.bool true))) ?_
  refine nt ?_
  refine c_tt (ev (.bool true) rfl rfl) ?_
  refine sr ?_
  refine w_as (evc (.int .i64 2)) ?_
  refine nt ?_
  refine wp_ret ?_
  refine then_r ?_
  refine fin_ret1 rfl (ev (.int .i64 2) rfl rfl) ?_
  exact ⟨rfl, hk⟩
 ·skip
  refine w_val_g (v := .int .i64 d) (want_yes (j := 2) rfl rfl (ev (.bool false) (Eq.trans (b := .bool (decide (d < 1))) rfl (by rw [decide_eq_false hc2])) rfl) rfl) (y_mv (ev (.int .i64 d) rfl rfl)) ?_
  refine w_val_g (want_yes (j := 2) rfl rfl (ev (.bool false) (Eq.trans (b := .bool (decide (d < 1))) rfl (by rw [decide_eq_false hc2])) rfl) rfl) (y_bin (ev (.int .i64 d) rfl rfl) (evc (.int .i64 16)) b_gtr) ?_
  refine w_val (y_pick_f (ev (.bool false) (Eq.trans (b := .bool (decide (d < 1))) rfl (by rw [decide_eq_false hc2])) rfl) (ev (.bool (decide (16 < d))) rfl rfl)) ?_
  refine nt ?_
  refine c_if (p := 16 < d) (ev (.bool (decide (16 < d))) rfl rfl) (fun hc3 => ?_) (fun hc3 => ?_)
  ·skip
   refine sr ?_
   refine w_as (evc (.int .i64 2)) ?_
   refine nt ?_
   refine wp_ret ?_
   refine then_r ?_
   refine fin_ret1 rfl (ev (.int .i64 2) rfl rfl) ?_
   exact ⟨rfl, hk⟩
  ·skip
   refine wp_skip ?_
   refine then_n ?_
   refine wp_seq ?_
   exfalso; omega

set_option maxRecDepth 100000 in
set_option maxHeartbeats 1000000 in
theorem wrong_y (s : List (BitVec 8)) (d : Nat) (hs : s.length = 16) (h1 : 1 ≤ d) (h16 : d ≤ 16) (w0 : World) : Calls Try.prog 112 #[.string (str s), .int .i64 ((d : Nat) : Int)] w0 fun e w' => e = .returned (.int .i64 0) ∧ Below w0.heap.size w0 w' := by
 refine enter (n := 14) Try.func112 rfl rfl rfl ?_
 have hk : Below w0.heap.size w0 w0 := Below.refl _ _
 refine sr ?_
 refine w_as (evc (.int .i64 0)) ?_
 refine nt ?_
 refine wp_seq ?_
 refine sr ?_
 refine w_mv (ev (.string (str s)) rfl rfl) ?_
 refine w_val (y_len (ev (.string (str s)) rfl rfl) Try.underlying9) ?_
 refine w_val (y_bin (ev (.int .i64 ((s.length : Nat) : Int)) rfl rfl) (evc (.int .i64 16)) b_neq) ?_
 refine nt ?_
 have hc1 : ¬ (((s.length : Nat) : Int) ≠ 16) := by omega
 refine c_f (p := ((s.length : Nat) : Int) ≠ 16) (ev (.bool (decide (((s.length : Nat) : Int) ≠ 16))) rfl rfl) hc1 ?_
 refine wp_skip ?_
 refine then_n ?_
 refine wp_seq ?_
 refine sr ?_
 refine w_mv (ev (.int .i64 ((d : Nat) : Int)) rfl rfl) ?_
 refine w_val (y_bin (ev (.int .i64 ((d : Nat) : Int)) rfl rfl) (evc (.int .i64 1)) b_lss) ?_
 refine w_mv (ev (.bool (decide (((d : Nat) : Int) < 1))) rfl rfl) ?_
 have hc2 : ¬ (((d : Nat) : Int) < 1) := by omega
 refine w_val_g (v := .int .i64 ((d : Nat) : Int)) (want_yes (j := 2) rfl rfl (ev (.bool false) (Eq.trans (b := .bool (decide (((d : Nat) : Int) < 1))) rfl (by rw [decide_eq_false hc2])) rfl) rfl) (y_mv (ev (.int .i64 ((d : Nat) : Int)) rfl rfl)) ?_
 refine w_val_g (want_yes (j := 2) rfl rfl (ev (.bool false) (Eq.trans (b := .bool (decide (((d : Nat) : Int) < 1))) rfl (by rw [decide_eq_false hc2])) rfl) rfl) (y_bin (ev (.int .i64 ((d : Nat) : Int)) rfl rfl) (evc (.int .i64 16)) b_gtr) ?_
 refine w_val (y_pick_f (ev (.bool false) (Eq.trans (b := .bool (decide (((d : Nat) : Int) < 1))) rfl (by rw [decide_eq_false hc2])) rfl) (ev (.bool (decide (16 < ((d : Nat) : Int)))) rfl rfl)) ?_
 refine nt ?_
 have hc3 : ¬ (16 < ((d : Nat) : Int)) := by omega
 refine c_f (p := 16 < ((d : Nat) : Int)) (ev (.bool (decide (16 < ((d : Nat) : Int)))) rfl rfl) hc3 ?_
 refine wp_skip ?_
 refine then_n ?_
 refine sr ?_
 refine w_as (evc (.int .i64 0)) ?_
 refine nt ?_
 refine wp_ret ?_
 refine fin_ret1 rfl (ev (.int .i64 0) rfl rfl) ?_
 exact ⟨rfl, hk⟩

set_option maxRecDepth 100000 in
set_option maxHeartbeats 1000000 in
theorem next_i (s : List (BitVec 8)) (d : Int) (hs : s.length ≠ 16) (n : BitVec 64) (w0 : World) : Calls Try.prog 93 #[.string (str s), .int .i64 d, U64 n] w0 fun e w' => e = .returned (.tuple #[.string (str ([] : List (BitVec 8))), .int .i64 4]) ∧ Below w0.heap.size w0 w' := by
 refine enter (n := 26) Try.func93 rfl rfl rfl ?_
 have hk : Below w0.heap.size w0 w0 := Below.refl _ _
 refine sr ?_
 refine w_as (evc (.string (str ([] : List (BitVec 8))))) ?_
 refine w_as (evc (.int .i64 0)) ?_
 refine nt ?_
 refine wp_seq ?_
 refine sr ?_
 refine w_mv (ev (.string (str s)) rfl rfl) ?_
 refine w_mv (ev (.int .i64 d) rfl rfl) ?_
 refine w_call (Try.func112) (by kernel_rfl) rfl (m2 (ev (.string (str s)) rfl rfl) (ev (.int .i64 d) rfl rfl)) (wrong_i s d hs w0) ?_
 rintro _ w1 ⟨rfl, hb2⟩
 refine ⟨_, rfl, ?_⟩
 replace hk := thenB hk hb2
 refine w_as (ev (.int .i64 4) rfl rfl) ?_
 refine nt ?_
 refine sr ?_
 refine w_mv (ev (.int .i64 4) rfl rfl) ?_
 refine w_val (y_bin (ev (.int .i64 4) rfl rfl) (evc (.int .i64 0)) b_neq) ?_
 refine nt ?_
 refine c_tt (ev (.bool true) rfl rfl) ?_
 refine sr ?_
 refine w_mv (ev (.int .i64 4) rfl rfl) ?_
 refine w_as (evc (.string (str ([] : List (BitVec 8))))) ?_
 refine w_as (ev (.int .i64 4) rfl rfl) ?_
 refine nt ?_
 refine wp_ret ?_
 refine then_r ?_
 refine fin_ret2 rfl (ev (.string (str ([] : List (BitVec 8)))) rfl rfl) (ev (.int .i64 4) rfl rfl) ?_
 exact ⟨rfl, hk⟩

set_option maxRecDepth 100000 in
set_option maxHeartbeats 1000000 in
theorem next_d (s : List (BitVec 8)) (d : Int) (hs : s.length = 16) (hd : ¬ (1 ≤ d ∧ d ≤ 16)) (n : BitVec 64) (w0 : World) : Calls Try.prog 93 #[.string (str s), .int .i64 d, U64 n] w0 fun e w' => e = .returned (.tuple #[.string (str ([] : List (BitVec 8))), .int .i64 2]) ∧ Below w0.heap.size w0 w' := by
 refine enter (n := 26) Try.func93 rfl rfl rfl ?_
 have hk : Below w0.heap.size w0 w0 := Below.refl _ _
 refine sr ?_
 refine w_as (evc (.string (str ([] : List (BitVec 8))))) ?_
 refine w_as (evc (.int .i64 0)) ?_
 refine nt ?_
 refine wp_seq ?_
 refine sr ?_
 refine w_mv (ev (.string (str s)) rfl rfl) ?_
 refine w_mv (ev (.int .i64 d) rfl rfl) ?_
 refine w_call (Try.func112) (by kernel_rfl) rfl (m2 (ev (.string (str s)) rfl rfl) (ev (.int .i64 d) rfl rfl)) (wrong_d s d hs hd w0) ?_
 rintro _ w1 ⟨rfl, hb2⟩
 refine ⟨_, rfl, ?_⟩
 replace hk := thenB hk hb2
 refine w_as (ev (.int .i64 2) rfl rfl) ?_
 refine nt ?_
 refine sr ?_
 refine w_mv (ev (.int .i64 2) rfl rfl) ?_
 refine w_val (y_bin (ev (.int .i64 2) rfl rfl) (evc (.int .i64 0)) b_neq) ?_
 refine nt ?_
 refine c_tt (ev (.bool true) rfl rfl) ?_
 refine sr ?_
 refine w_mv (ev (.int .i64 2) rfl rfl) ?_
 refine w_as (evc (.string (str ([] : List (BitVec 8))))) ?_
 refine w_as (ev (.int .i64 2) rfl rfl) ?_
 refine nt ?_
 refine wp_ret ?_
 refine then_r ?_
 refine fin_ret2 rfl (ev (.string (str ([] : List (BitVec 8)))) rfl rfl) (ev (.int .i64 2) rfl rfl) ?_
 exact ⟨rfl, hk⟩

set_option maxRecDepth 100000 in
set_option maxHeartbeats 1000000 in
theorem next_y (s : List (BitVec 8)) (d : Nat) (hs : s.length = 16) (h1 : 1 ≤ d) (h16 : d ≤ 16) (n : Nat) (hn : n < 18446744073709551616) (w0 : World) : Calls Try.prog 93 #[.string (str s), .int .i64 ((d : Nat) : Int), U64 (BitVec.ofNat 64 n)] w0 fun e w' => e = .returned (.tuple #[.string (str (Ct.nx s d n)), .int .i64 0]) ∧ Below w0.heap.size w0 w' := by
 have hto : (BitVec.ofNat 64 n).toNat = n := by rw [BitVec.toNat_ofNat]; omega
 refine enter (n := 26) Try.func93 rfl rfl rfl ?_
 have hk : Below w0.heap.size w0 w0 := Below.refl _ _
 refine sr ?_
 refine w_as (evc (.string (str ([] : List (BitVec 8))))) ?_
 refine w_as (evc (.int .i64 0)) ?_
 refine nt ?_
 refine wp_seq ?_
 refine sr ?_
 refine w_mv (ev (.string (str s)) rfl rfl) ?_
 refine w_mv (ev (.int .i64 ((d : Nat) : Int)) rfl rfl) ?_
 refine w_call (Try.func112) (by kernel_rfl) rfl (m2 (ev (.string (str s)) rfl rfl) (ev (.int .i64 ((d : Nat) : Int)) rfl rfl)) (wrong_y s d hs h1 h16 w0) ?_
 rintro _ w1 ⟨rfl, hb2⟩
 refine ⟨_, rfl, ?_⟩
 replace hk := thenB hk hb2
 refine w_as (ev (.int .i64 0) rfl rfl) ?_
 refine nt ?_
 refine sr ?_
 refine w_mv (ev (.int .i64 0) rfl rfl) ?_
 refine w_val (y_bin (ev (.int .i64 0) rfl rfl) (evc (.int .i64 0)) b_neq) ?_
 refine nt ?_
 refine c_ff (ev (.bool false) rfl rfl) ?_
 refine wp_skip ?_
 refine then_n ?_
 refine wp_seq ?_
 refine region_q CtrAT.mixed (by kernel_rfl) ?_
 refine q_mv (ev (.string (str s)) rfl rfl) ?_
 refine q_mv (ev (.int .i64 ((d : Nat) : Int)) rfl rfl) ?_
 refine q_val (fun w' hw' => y_bin (evc (.int .i64 16)) (ev (.int .i64 ((d : Nat) : Int)) rfl rfl) (b_sub (by omega))) ?_
 refine q_val (v := .string (str (s.take (16 - d)))) (fun w' hw' => y_sls (ev (.string (str s)) rfl rfl) evo.no (evo.s (ev (.int .i64 (16 - ((d : Nat) : Int))) rfl rfl)) Try.underlying9 (bnd_h (h := (16 - d)) (by omega) (by omega))) ?_
 refine q_mv (ev (.string (str s)) rfl rfl) ?_
 refine q_mv (ev (.int .i64 ((d : Nat) : Int)) rfl rfl) ?_
 refine q_val (fun w' hw' => y_bin (evc (.int .i64 16)) (ev (.int .i64 ((d : Nat) : Int)) rfl rfl) (b_sub (by omega))) ?_
 refine q_val (v := .string (str (s.drop (16 - d)))) (fun w' hw' => y_slf (ev (.string (str s)) rfl rfl) (evo.s (ev (.int .i64 (16 - ((d : Nat) : Int))) rfl rfl)) Try.underlying9 (bnd_l (l := (16 - d)) (by omega) (by omega))) ?_
 refine q_mv (ev (U64 (BitVec.ofNat 64 n)) rfl rfl) ?_
 refine q_call (v := .string (str (Oct.add (s.drop (16 - d)) (BitVec.ofNat 64 n).toNat))) (Try.func113) (by kernel_rfl) rfl (m2 (ev (.string (str (s.drop (16 - d)))) rfl rfl) (ev (U64 (BitVec.ofNat 64 n)) rfl rfl)) (fun w' hw' => add_c (s.drop (16 - d)) (BitVec.ofNat 64 n) (by rw [List.length_drop]; omega) w') ?_
 refine q_val (fun w' hw' => y_bin (ev (.string (str (s.take (16 - d)))) rfl rfl) (ev (.string (str (Oct.add (s.drop (16 - d)) (BitVec.ofNat 64 n).toNat))) rfl rfl) (b_cat (by simp only [List.length_append, List.length_take, List.length_drop, Oct.length_add]; omega))) ?_
 refine q_as (ev (.string (str ((s.take (16 - d)) ++ (Oct.add (s.drop (16 - d)) (BitVec.ofNat 64 n).toNat)))) rfl rfl) ?_
 refine q_as (evc (.int .i64 0)) ?_
 refine q_nil ?_
 intro w3 hb4
 replace hk := thenB hk hb4
 refine then_n ?_
 refine wp_ret ?_
 refine fin_ret2 rfl (ev (.string (str ((s.take (16 - d)) ++ (Oct.add (s.drop (16 - d)) (BitVec.ofNat 64 n).toNat)))) rfl rfl) (ev (.int .i64 0) rfl rfl) ?_
 refine ⟨congrArg Ending.returned ?_, hk⟩
 show (.tuple #[.string (str ((s.take (16 - d)) ++ (Oct.add (s.drop (16 - d)) (BitVec.ofNat 64 n).toNat))), .int .i64 0] : Value) = .tuple #[.string (str (Ct.nx s d n)), .int .i64 0]
 rw [hto]; rfl
end Go.Proofs.Ytjdcpejcnmpiaaa
