/-
  Fillings: what the program and the reference compute. Conditions as each says.
-/
import Derived.Test.YtjdcpejcnmpiaaaRows
import Derived.Test.YtjdcpejcnmpiaaaGenMore
import Derived.Test.YtjdcpejcnmpiaaaCbcPlain
import Derived.Test.YtjdcpejcnmpiaaaRep
import Derived.ProofKit
namespace Go.Proofs.Ytjdcpejcnmpiaaa
open Go.RowKit
set_option linter.unusedSimpArgs false
set_option linter.unusedVariables false
namespace CbcAT
theorem mixed : Try.prog.follows .mixedOrders = true := by kernel_rfl
theorem so3 : (Try.prog.underlying 3).isSome = true := by rw [Try.underlying3]; rfl
theorem so5 : (Try.prog.underlying 5).isSome = true := by rw [Try.underlying5]; rfl
end CbcAT
set_option maxRecDepth 100000 in
set_option maxHeartbeats 1000000 in
theorem pad_a (s : List (BitVec 8)) (q : Int) (hq : ¬ (1 ≤ q ∧ q ≤ 255)) (w0 : World) : Calls Try.prog 19 #[.string (str s), .int .i64 q] w0 fun e w' => e = .returned (.tuple #[.string (str ([] : List (BitVec 8))), .int .i64 2]) ∧ Below w0.heap.size w0 w' := by
 refine enter (n := 27) Try.func19 rfl rfl rfl ?_
 have hk : Below w0.heap.size w0 w0 := Below.refl _ _
 refine sr ?_
 refine w_as (evc (.string (str ([] : List (BitVec 8))))) ?_
 refine w_as (evc (.int .i64 0)) ?_
 refine nt ?_
 refine wp_seq ?_
 refine sr ?_
 refine w_mv (ev (.int .i64 q) rfl rfl) ?_
 refine w_val (y_bin (ev (.int .i64 q) rfl rfl) (evc (.int .i64 1)) b_lss) ?_
 refine w_mv (ev (.bool (decide (q < 1))) rfl rfl) ?_
 by_cases hc1 : q < 1
 ·skip
  first | with_reducible refine w_skip ?_ ?_ | refine w_skip ?_ ?_
  · exact want_no (j := 2) rfl rfl (ev (.bool true) (Eq.trans (b := .bool (decide (q < 1))) rfl (by rw [decide_eq_true hc1])) rfl) rfl
  first | with_reducible refine w_skip ?_ ?_ | refine w_skip ?_ ?_
  · exact want_no (j := 2) rfl rfl (ev (.bool true) (Eq.trans (b := .bool (decide (q < 1))) rfl (by rw [decide_eq_true hc1])) rfl) rfl
  refine w_val (y_pick_t (ev (.bool true) (Eq.trans (b := .bool (decide (q < 1))) rfl (by rw [decide_eq_true hc1])) rfl) (evc (.bool true))) ?_
  refine nt ?_
  refine c_tt (ev (.bool true) rfl rfl) ?_
  refine sr ?_
  refine w_as (evc (.string (str ([] : List (BitVec 8))))) ?_
  refine w_as (evc (.int .i64 2)) ?_
  refine nt ?_
  refine wp_ret ?_
  refine then_r ?_
  refine fin_ret2 rfl (ev (.string (str ([] : List (BitVec 8)))) rfl rfl) (ev (.int .i64 2) rfl rfl) ?_
  exact ⟨rfl, hk⟩
 ·skip
  refine w_val_g (v := .int .i64 q) (want_yes (j := 2) rfl rfl (ev (.bool false) (Eq.trans (b := .bool (decide (q < 1))) rfl (by rw [decide_eq_false hc1])) rfl) rfl) (y_mv (ev (.int .i64 q) rfl rfl)) ?_
  refine w_val_g (want_yes (j := 2) rfl rfl (ev (.bool false) (Eq.trans (b := .bool (decide (q < 1))) rfl (by rw [decide_eq_false hc1])) rfl) rfl) (y_bin (ev (.int .i64 q) rfl rfl) (evc (.int .i64 255)) b_gtr) ?_
  refine w_val (y_pick_f (ev (.bool false) (Eq.trans (b := .bool (decide (q < 1))) rfl (by rw [decide_eq_false hc1])) rfl) (ev (.bool (decide (255 < q))) rfl rfl)) ?_
  refine nt ?_
  refine c_if (p := 255 < q) (ev (.bool (decide (255 < q))) rfl rfl) (fun hc2 => ?_) (fun hc2 => ?_)
  ·skip
   refine sr ?_
   refine w_as (evc (.string (str ([] : List (BitVec 8))))) ?_
   refine w_as (evc (.int .i64 2)) ?_
   refine nt ?_
   refine wp_ret ?_
   refine then_r ?_
   refine fin_ret2 rfl (ev (.string (str ([] : List (BitVec 8)))) rfl rfl) (ev (.int .i64 2) rfl rfl) ?_
   exact ⟨rfl, hk⟩
  ·skip
   refine wp_skip ?_
   refine then_n ?_
   refine wp_seq ?_
   exfalso; omega

set_option maxRecDepth 100000 in
set_option maxHeartbeats 1000000 in
theorem refPad_a (s : List (BitVec 8)) (q : Int) (hq : ¬ (1 ≤ q ∧ q ≤ 255)) (w0 : World) : Calls Try.prog 20 #[.string (str s), .int .i64 q] w0 fun e w' => e = .returned (.tuple #[.string (str ([] : List (BitVec 8))), .int .i64 2]) ∧ Below w0.heap.size w0 w' := by
 refine enter (n := 38) Try.func20 rfl rfl rfl ?_
 have hk : Below w0.heap.size w0 w0 := Below.refl _ _
 refine sr ?_
 refine w_as (evc (.string (str ([] : List (BitVec 8))))) ?_
 refine w_as (evc (.int .i64 0)) ?_
 refine nt ?_
 refine wp_seq ?_
 refine sr ?_
 refine w_mv (ev (.int .i64 q) rfl rfl) ?_
 refine w_val (y_bin (ev (.int .i64 q) rfl rfl) (evc (.int .i64 1)) b_lss) ?_
 refine w_mv (ev (.bool (decide (q < 1))) rfl rfl) ?_
 by_cases hc1 : q < 1
 ·skip
  first | with_reducible refine w_skip ?_ ?_ | refine w_skip ?_ ?_
  · exact want_no (j := 2) rfl rfl (ev (.bool true) (Eq.trans (b := .bool (decide (q < 1))) rfl (by rw [decide_eq_true hc1])) rfl) rfl
  first | with_reducible refine w_skip ?_ ?_ | refine w_skip ?_ ?_
  · exact want_no (j := 2) rfl rfl (ev (.bool true) (Eq.trans (b := .bool (decide (q < 1))) rfl (by rw [decide_eq_true hc1])) rfl) rfl
  refine w_val (y_pick_t (ev (.bool true) (Eq.trans (b := .bool (decide (q < 1))) rfl (by rw [decide_eq_true hc1])) rfl) (evc (.bool true))) ?_
  refine nt ?_
  refine c_tt (ev (.bool true) rfl rfl) ?_
  refine sr ?_
  refine w_as (evc (.string (str ([] : List (BitVec 8))))) ?_
  refine w_as (evc (.int .i64 2)) ?_
  refine nt ?_
  refine wp_ret ?_
  refine then_r ?_
  refine fin_ret2 rfl (ev (.string (str ([] : List (BitVec 8)))) rfl rfl) (ev (.int .i64 2) rfl rfl) ?_
  exact ⟨rfl, hk⟩
 ·skip
  refine w_val_g (v := .int .i64 q) (want_yes (j := 2) rfl rfl (ev (.bool false) (Eq.trans (b := .bool (decide (q < 1))) rfl (by rw [decide_eq_false hc1])) rfl) rfl) (y_mv (ev (.int .i64 q) rfl rfl)) ?_
  refine w_val_g (want_yes (j := 2) rfl rfl (ev (.bool false) (Eq.trans (b := .bool (decide (q < 1))) rfl (by rw [decide_eq_false hc1])) rfl) rfl) (y_bin (ev (.int .i64 q) rfl rfl) (evc (.int .i64 255)) b_gtr) ?_
  refine w_val (y_pick_f (ev (.bool false) (Eq.trans (b := .bool (decide (q < 1))) rfl (by rw [decide_eq_false hc1])) rfl) (ev (.bool (decide (255 < q))) rfl rfl)) ?_
  refine nt ?_
  refine c_if (p := 255 < q) (ev (.bool (decide (255 < q))) rfl rfl) (fun hc2 => ?_) (fun hc2 => ?_)
  ·skip
   refine sr ?_
   refine w_as (evc (.string (str ([] : List (BitVec 8))))) ?_
   refine w_as (evc (.int .i64 2)) ?_
   refine nt ?_
   refine wp_ret ?_
   refine then_r ?_
   refine fin_ret2 rfl (ev (.string (str ([] : List (BitVec 8)))) rfl rfl) (ev (.int .i64 2) rfl rfl) ?_
   exact ⟨rfl, hk⟩
  ·skip
   refine wp_skip ?_
   refine then_n ?_
   refine wp_seq ?_
   exfalso; omega

set_option maxRecDepth 100000 in
set_option maxHeartbeats 1000000 in
theorem unpad_a (s : List (BitVec 8)) (q : Int) (hq : ¬ (1 ≤ q ∧ q ≤ 255)) (w0 : World) : Calls Try.prog 21 #[.string (str s), .int .i64 q] w0 fun e w' => e = .returned (.tuple #[.string (str ([] : List (BitVec 8))), .int .i64 2]) ∧ Below w0.heap.size w0 w' := by
 refine enter (n := 58) Try.func21 rfl rfl rfl ?_
 have hk : Below w0.heap.size w0 w0 := Below.refl _ _
 refine sr ?_
 refine w_as (evc (.string (str ([] : List (BitVec 8))))) ?_
 refine w_as (evc (.int .i64 0)) ?_
 refine nt ?_
 refine wp_seq ?_
 refine sr ?_
 refine w_mv (ev (.int .i64 q) rfl rfl) ?_
 refine w_val (y_bin (ev (.int .i64 q) rfl rfl) (evc (.int .i64 1)) b_lss) ?_
 refine w_mv (ev (.bool (decide (q < 1))) rfl rfl) ?_
 by_cases hc1 : q < 1
 ·skip
  first | with_reducible refine w_skip ?_ ?_ | refine w_skip ?_ ?_
  · exact want_no (j := 2) rfl rfl (ev (.bool true) (Eq.trans (b := .bool (decide (q < 1))) rfl (by rw [decide_eq_true hc1])) rfl) rfl
  first | with_reducible refine w_skip ?_ ?_ | refine w_skip ?_ ?_
  · exact want_no (j := 2) rfl rfl (ev (.bool true) (Eq.trans (b := .bool (decide (q < 1))) rfl (by rw [decide_eq_true hc1])) rfl) rfl
  refine w_val (y_pick_t (ev (.bool true) (Eq.trans (b := .bool (decide (q < 1))) rfl (by rw [decide_eq_true hc1])) rfl) (evc (.bool true))) ?_
  refine nt ?_
  refine c_tt (ev (.bool true) rfl rfl) ?_
  refine sr ?_
  refine w_as (evc (.string (str ([] : List (BitVec 8))))) ?_
  refine w_as (evc (.int .i64 2)) ?_
  refine nt ?_
  refine wp_ret ?_
  refine then_r ?_
  refine fin_ret2 rfl (ev (.string (str ([] : List (BitVec 8)))) rfl rfl) (ev (.int .i64 2) rfl rfl) ?_
  exact ⟨rfl, hk⟩
 ·skip
  refine w_val_g (v := .int .i64 q) (want_yes (j := 2) rfl rfl (ev (.bool false) (Eq.trans (b := .bool (decide (q < 1))) rfl (by rw [decide_eq_false hc1])) rfl) rfl) (y_mv (ev (.int .i64 q) rfl rfl)) ?_
  refine w_val_g (want_yes (j := 2) rfl rfl (ev (.bool false) (Eq.trans (b := .bool (decide (q < 1))) rfl (by rw [decide_eq_false hc1])) rfl) rfl) (y_bin (ev (.int .i64 q) rfl rfl) (evc (.int .i64 255)) b_gtr) ?_
  refine w_val (y_pick_f (ev (.bool false) (Eq.trans (b := .bool (decide (q < 1))) rfl (by rw [decide_eq_false hc1])) rfl) (ev (.bool (decide (255 < q))) rfl rfl)) ?_
  refine nt ?_
  refine c_if (p := 255 < q) (ev (.bool (decide (255 < q))) rfl rfl) (fun hc2 => ?_) (fun hc2 => ?_)
  ·skip
   refine sr ?_
   refine w_as (evc (.string (str ([] : List (BitVec 8))))) ?_
   refine w_as (evc (.int .i64 2)) ?_
   refine nt ?_
   refine wp_ret ?_
   refine then_r ?_
   refine fin_ret2 rfl (ev (.string (str ([] : List (BitVec 8)))) rfl rfl) (ev (.int .i64 2) rfl rfl) ?_
   exact ⟨rfl, hk⟩
  ·skip
   refine wp_skip ?_
   refine then_n ?_
   refine ss ?_
   exfalso; omega

set_option maxRecDepth 100000 in
set_option maxHeartbeats 1000000 in
theorem refUnpad_a (s : List (BitVec 8)) (q : Int) (hq : ¬ (1 ≤ q ∧ q ≤ 255)) (w0 : World) : Calls Try.prog 22 #[.string (str s), .int .i64 q] w0 fun e w' => e = .returned (.tuple #[.string (str ([] : List (BitVec 8))), .int .i64 2]) ∧ Below w0.heap.size w0 w' := by
 refine enter (n := 50) Try.func22 rfl rfl rfl ?_
 have hk : Below w0.heap.size w0 w0 := Below.refl _ _
 refine sr ?_
 refine w_as (evc (.string (str ([] : List (BitVec 8))))) ?_
 refine w_as (evc (.int .i64 0)) ?_
 refine nt ?_
 refine wp_seq ?_
 refine sr ?_
 refine w_mv (ev (.int .i64 q) rfl rfl) ?_
 refine w_val (y_bin (ev (.int .i64 q) rfl rfl) (evc (.int .i64 1)) b_lss) ?_
 refine w_mv (ev (.bool (decide (q < 1))) rfl rfl) ?_
 by_cases hc1 : q < 1
 ·skip
  first | with_reducible refine w_skip ?_ ?_ | refine w_skip ?_ ?_
  · exact want_no (j := 2) rfl rfl (ev (.bool true) (Eq.trans (b := .bool (decide (q < 1))) rfl (by rw [decide_eq_true hc1])) rfl) rfl
  first | with_reducible refine w_skip ?_ ?_ | refine w_skip ?_ ?_
  · exact want_no (j := 2) rfl rfl (ev (.bool true) (Eq.trans (b := .bool (decide (q < 1))) rfl (by rw [decide_eq_true hc1])) rfl) rfl
  refine w_val (y_pick_t (ev (.bool true) (Eq.trans (b := .bool (decide (q < 1))) rfl (by rw [decide_eq_true hc1])) rfl) (evc (.bool true))) ?_
  refine nt ?_
  refine c_tt (ev (.bool true) rfl rfl) ?_
  refine sr ?_
  refine w_as (evc (.string (str ([] : List (BitVec 8))))) ?_
  refine w_as (evc (.int .i64 2)) ?_
  refine nt ?_
  refine wp_ret ?_
  refine then_r ?_
  refine fin_ret2 rfl (ev (.string (str ([] : List (BitVec 8)))) rfl rfl) (ev (.int .i64 2) rfl rfl) ?_
  exact ⟨rfl, hk⟩
 ·skip
  refine w_val_g (v := .int .i64 q) (want_yes (j := 2) rfl rfl (ev (.bool false) (Eq.trans (b := .bool (decide (q < 1))) rfl (by rw [decide_eq_false hc1])) rfl) rfl) (y_mv (ev (.int .i64 q) rfl rfl)) ?_
  refine w_val_g (want_yes (j := 2) rfl rfl (ev (.bool false) (Eq.trans (b := .bool (decide (q < 1))) rfl (by rw [decide_eq_false hc1])) rfl) rfl) (y_bin (ev (.int .i64 q) rfl rfl) (evc (.int .i64 255)) b_gtr) ?_
  refine w_val (y_pick_f (ev (.bool false) (Eq.trans (b := .bool (decide (q < 1))) rfl (by rw [decide_eq_false hc1])) rfl) (ev (.bool (decide (255 < q))) rfl rfl)) ?_
  refine nt ?_
  refine c_if (p := 255 < q) (ev (.bool (decide (255 < q))) rfl rfl) (fun hc2 => ?_) (fun hc2 => ?_)
  ·skip
   refine sr ?_
   refine w_as (evc (.string (str ([] : List (BitVec 8))))) ?_
   refine w_as (evc (.int .i64 2)) ?_
   refine nt ?_
   refine wp_ret ?_
   refine then_r ?_
   refine fin_ret2 rfl (ev (.string (str ([] : List (BitVec 8)))) rfl rfl) (ev (.int .i64 2) rfl rfl) ?_
   exact ⟨rfl, hk⟩
  ·skip
   refine wp_skip ?_
   refine then_n ?_
   refine ss ?_
   exfalso; omega

set_option maxRecDepth 100000 in
set_option maxHeartbeats 1000000 in
theorem pad_y (s : List (BitVec 8)) (q : Nat) (h1 : 1 ≤ q) (h255 : q ≤ 255) (hs : s.length ≤ 1100000) (w0 : World) : Calls Try.prog 19 #[.string (str s), .int .i64 ((q : Nat) : Int)] w0 fun e w' => e = .returned (.tuple #[.string (str (Cb.pad s q)), .int .i64 0]) ∧ Below w0.heap.size w0 w' := by
 have hml := Nat.mod_lt s.length (show 0 < q by omega)
 have hpp := Cb.pn_pos s.length q (by omega)
 have hpq := Cb.pn_le s.length q
 have hpm := Cb.pn_mod s.length q (by omega)
 refine enter (n := 27) Try.func19 rfl rfl rfl ?_
 have hk : Below w0.heap.size w0 w0 := Below.refl _ _
 refine sr ?_
 refine w_as (evc (.string (str ([] : List (BitVec 8))))) ?_
 refine w_as (evc (.int .i64 0)) ?_
 refine nt ?_
 refine wp_seq ?_
 refine sr ?_
 refine w_mv (ev (.int .i64 ((q : Nat) : Int)) rfl rfl) ?_
 refine w_val (y_bin (ev (.int .i64 ((q : Nat) : Int)) rfl rfl) (evc (.int .i64 1)) b_lss) ?_
 refine w_mv (ev (.bool (decide (((q : Nat) : Int) < 1))) rfl rfl) ?_
 have hc1 : ¬ (((q : Nat) : Int) < 1) := by omega
 refine w_val_g (v := .int .i64 ((q : Nat) : Int)) (want_yes (j := 2) rfl rfl (ev (.bool false) (Eq.trans (b := .bool (decide (((q : Nat) : Int) < 1))) rfl (by rw [decide_eq_false hc1])) rfl) rfl) (y_mv (ev (.int .i64 ((q : Nat) : Int)) rfl rfl)) ?_
 refine w_val_g (want_yes (j := 2) rfl rfl (ev (.bool false) (Eq.trans (b := .bool (decide (((q : Nat) : Int) < 1))) rfl (by rw [decide_eq_false hc1])) rfl) rfl) (y_bin (ev (.int .i64 ((q : Nat) : Int)) rfl rfl) (evc (.int .i64 255)) b_gtr) ?_
 refine w_val (y_pick_f (ev (.bool false) (Eq.trans (b := .bool (decide (((q : Nat) : Int) < 1))) rfl (by rw [decide_eq_false hc1])) rfl) (ev (.bool (decide (255 < ((q : Nat) : Int)))) rfl rfl)) ?_
 refine nt ?_
 have hc2 : ¬ (255 < ((q : Nat) : Int)) := by omega
 refine c_f (p := 255 < ((q : Nat) : Int)) (ev (.bool (decide (255 < ((q : Nat) : Int)))) rfl rfl) hc2 ?_
 refine wp_skip ?_
 refine then_n ?_
 refine sr ?_
 refine w_mv (ev (.int .i64 ((q : Nat) : Int)) rfl rfl) ?_
 refine w_mv (ev (.string (str s)) rfl rfl) ?_
 refine w_val (y_len (ev (.string (str s)) rfl rfl) Try.underlying9) ?_
 refine w_mv (ev (.int .i64 ((q : Nat) : Int)) rfl rfl) ?_
 refine w_val (y_bin (ev (.int .i64 ((s.length : Nat) : Int)) rfl rfl) (ev (.int .i64 ((q : Nat) : Int)) rfl rfl) (b_rem (by omega))) ?_
 refine w_val (y_bin (ev (.int .i64 ((q : Nat) : Int)) rfl rfl) (ev (.int .i64 (((s.length : Nat) : Int) % ((q : Nat) : Int))) rfl rfl) (b_sub (by omega))) ?_
 refine w_as (ev (.int .i64 (((q : Nat) : Int) - (((s.length : Nat) : Int) % ((q : Nat) : Int)))) rfl rfl) ?_
 refine nt ?_
 refine sr ?_
 refine w_mv (ev (.string (str s)) rfl rfl) ?_
 refine w_mv (ev (.int .i64 ((Cb.pn s.length q : Nat) : Int)) (Eq.trans (b := .int .i64 (((q : Nat) : Int) - (((s.length : Nat) : Int) % ((q : Nat) : Int)))) rfl (by exact congrArg (Value.int .i64) (by unfold Cb.pn; omega))) rfl) ?_
 refine w_val (y_nat_u8 (p := (Cb.pn s.length q)) (ev (.int .i64 ((Cb.pn s.length q : Nat) : Int)) rfl rfl) (by omega) CbcAT.so3 Try.underlying5) ?_
 refine w_bs1 (m := 1) (e := 5) (F := fun j => U8 (BitVec.ofNat 8 (Cb.pn s.length q))) (ev (U8 (BitVec.ofNat 8 (Cb.pn s.length q))) rfl rfl) (fun w => by kernel_rfl) ?_
 intro b_22 w3 hbe_b_22 r_b_22 hb4
 have ge_b_22 : w0.heap.size ≤ b_22 := by have := hk.size; omega
 clear hbe_b_22
 replace hk := thenB hk hb4
 refine w_val (y_str (l := [BitVec.ofNat 8 (Cb.pn s.length q)]) (ev (.slice (some ⟨b_22, 0, none⟩) 1 1) rfl rfl) (by rfl) Try.underlying54 Try.underlying5 Try.underlying9 (fun j hj => (r_b_22.val (by omega) (by (obtain rfl : j = 0 := (by omega)); rfl)))) ?_
 refine w_mv (ev (.int .i64 ((Cb.pn s.length q : Nat) : Int)) (Eq.trans (b := .int .i64 (((q : Nat) : Int) - (((s.length : Nat) : Int) % ((q : Nat) : Int)))) rfl (by exact congrArg (Value.int .i64) (by unfold Cb.pn; omega))) rfl) ?_
 refine w_call (Try.func52) (by kernel_rfl) rfl (m2 (ev (.string (str ([BitVec.ofNat 8 (Cb.pn s.length q)]))) rfl rfl) (ev (.int .i64 ((Cb.pn s.length q : Nat) : Int)) rfl rfl)) (rep_c (BitVec.ofNat 8 (Cb.pn s.length q)) (Cb.pn s.length q) (by omega) w3) ?_
 rintro _ w5 ⟨rfl, hb6⟩
 refine ⟨_, rfl, ?_⟩
 replace r_b_22 := r_b_22.step hb6
 replace hk := thenB hk hb6
 refine w_val (y_bin (ev (.string (str s)) rfl rfl) (ev (.string (str (List.replicate (Cb.pn s.length q) (BitVec.ofNat 8 (Cb.pn s.length q))))) rfl rfl) (b_cat (by simp only [List.length_replicate]; omega))) ?_
 refine w_as (ev (.string (str (s ++ (List.replicate (Cb.pn s.length q) (BitVec.ofNat 8 (Cb.pn s.length q)))))) rfl rfl) ?_
 refine w_as (evc (.int .i64 0)) ?_
 refine nt ?_
 refine wp_ret ?_
 refine fin_ret2 rfl (ev (.string (str (s ++ (List.replicate (Cb.pn s.length q) (BitVec.ofNat 8 (Cb.pn s.length q)))))) rfl rfl) (ev (.int .i64 0) rfl rfl) ?_
 refine ⟨congrArg Ending.returned ?_, hk⟩
 show (.tuple #[.string (str (s ++ (List.replicate (Cb.pn s.length q) (BitVec.ofNat 8 (Cb.pn s.length q))))), .int .i64 0] : Value) = .tuple #[.string (str (Cb.pad s q)), .int .i64 0]
 rfl

set_option maxRecDepth 100000 in
set_option maxHeartbeats 1000000 in
theorem refPad_y (s : List (BitVec 8)) (q : Nat) (h1 : 1 ≤ q) (h255 : q ≤ 255) (hs : s.length ≤ 1100000) (w0 : World) : Calls Try.prog 20 #[.string (str s), .int .i64 ((q : Nat) : Int)] w0 fun e w' => e = .returned (.tuple #[.string (str (Cb.pad s q)), .int .i64 0]) ∧ Below w0.heap.size w0 w' := by
 have hml := Nat.mod_lt s.length (show 0 < q by omega)
 have hpp := Cb.pn_pos s.length q (by omega)
 have hpq := Cb.pn_le s.length q
 have hpm := Cb.pn_mod s.length q (by omega)
 refine enter (n := 38) Try.func20 rfl rfl rfl ?_
 have hk : Below w0.heap.size w0 w0 := Below.refl _ _
 refine sr ?_
 refine w_as (evc (.string (str ([] : List (BitVec 8))))) ?_
 refine w_as (evc (.int .i64 0)) ?_
 refine nt ?_
 refine wp_seq ?_
 refine sr ?_
 refine w_mv (ev (.int .i64 ((q : Nat) : Int)) rfl rfl) ?_
 refine w_val (y_bin (ev (.int .i64 ((q : Nat) : Int)) rfl rfl) (evc (.int .i64 1)) b_lss) ?_
 refine w_mv (ev (.bool (decide (((q : Nat) : Int) < 1))) rfl rfl) ?_
 have hc1 : ¬ (((q : Nat) : Int) < 1) := by omega
 refine w_val_g (v := .int .i64 ((q : Nat) : Int)) (want_yes (j := 2) rfl rfl (ev (.bool false) (Eq.trans (b := .bool (decide (((q : Nat) : Int) < 1))) rfl (by rw [decide_eq_false hc1])) rfl) rfl) (y_mv (ev (.int .i64 ((q : Nat) : Int)) rfl rfl)) ?_
 refine w_val_g (want_yes (j := 2) rfl rfl (ev (.bool false) (Eq.trans (b := .bool (decide (((q : Nat) : Int) < 1))) rfl (by rw [decide_eq_false hc1])) rfl) rfl) (y_bin (ev (.int .i64 ((q : Nat) : Int)) rfl rfl) (evc (.int .i64 255)) b_gtr) ?_
 refine w_val (y_pick_f (ev (.bool false) (Eq.trans (b := .bool (decide (((q : Nat) : Int) < 1))) rfl (by rw [decide_eq_false hc1])) rfl) (ev (.bool (decide (255 < ((q : Nat) : Int)))) rfl rfl)) ?_
 refine nt ?_
 have hc2 : ¬ (255 < ((q : Nat) : Int)) := by omega
 refine c_f (p := 255 < ((q : Nat) : Int)) (ev (.bool (decide (255 < ((q : Nat) : Int)))) rfl rfl) hc2 ?_
 refine wp_skip ?_
 refine then_n ?_
 refine sr ?_
 refine w_mv (ev (.string (str s)) rfl rfl) ?_
 refine w_bytes_own (ev (.string (str s)) rfl rfl) Try.underlying9 Try.underlying54 Try.underlying5 (by simp only [maxLen]; omega) hk.size ?_
 intro v3 w4 o_v3 hv6 hb5
 replace hk := thenB hk hb5
 refine w_as (ev v3 rfl rfl) ?_
 refine nt ?_
 refine sr ?_
 refine w_as (evc (.int .i64 1)) ?_
 refine nt ?_
 refine wp_seq ?_
 refine wp_block ?_
 refine c_loop (fun dN aN wl => ∃ (n : Nat) (vo : Value), dN = (q - n) ∧ ∃ f7, aN = fr 38 f7 ∧ (1 ≤ n) ∧ (n ≤ Cb.pn s.length q) ∧ f7 0 = .string (str s) ∧ f7 1 = .int .i64 ((q : Nat) : Int) ∧ f7 4 = .string (str ([] : List (BitVec 8))) ∧ f7 5 = .int .i64 0 ∧ f7 6 = vo ∧ f7 7 = .int .i64 ((n : Nat) : Int) ∧ Own wl w0.heap.size 5 1 vo s.length (fun j => U8 (gb s j)) ∧ Below w0.heap.size w0 wl) (q - 1) ?_ ?_
 · exact ⟨1, v3, rfl, _, rfl, iv, iv, rfl, rfl, rfl, rfl, (etv (b := v3) rfl), (etv (b := .int .i64 1) rfl), o_v3, hk⟩
 ·skip
  clear o_v3 hk
  rintro _ _ w8 ⟨n, vo, rfl, f7, rfl, i1_0, i1_1, s1_0, s1_1, s1_4, s1_5, s1_6, s1_7, o_vo, hk⟩
  refine wp_seq ?_
  refine sr ?_
  refine w_mv (ev (.string (str s)) s1_0 rfl) ?_
  refine w_val (y_len (ev (.string (str s)) rfl rfl) Try.underlying9) ?_
  refine w_mv (ev (.int .i64 ((n : Nat) : Int)) s1_7 rfl) ?_
  refine w_val (y_bin (ev (.int .i64 ((s.length : Nat) : Int)) rfl rfl) (ev (.int .i64 ((n : Nat) : Int)) rfl rfl) (b_add (by omega))) ?_
  refine w_mv (ev (.int .i64 ((q : Nat) : Int)) s1_1 rfl) ?_
  refine w_val (y_bin (ev (.int .i64 (((s.length : Nat) : Int) + ((n : Nat) : Int))) rfl rfl) (ev (.int .i64 ((q : Nat) : Int)) rfl rfl) (b_rem (by omega))) ?_
  refine w_val (y_bin (ev (.int .i64 ((((s.length : Nat) : Int) + ((n : Nat) : Int)) % ((q : Nat) : Int))) rfl rfl) (evc (.int .i64 0)) b_neq) ?_
  refine nt ?_
  refine c_if (p := ((((s.length : Nat) : Int) + ((n : Nat) : Int)) % ((q : Nat) : Int)) ≠ 0) (ev (.bool (decide (((((s.length : Nat) : Int) + ((n : Nat) : Int)) % ((q : Nat) : Int)) ≠ 0))) rfl rfl) (fun hc9 => ?_) (fun hc9 => ?_)
  ·skip
   refine wp_skip ?_
   refine then_n ?_
   refine wp_block ?_
   refine wp_region_lit ?_
   refine w_mv (ev (.int .i64 ((n : Nat) : Int)) s1_7 rfl) ?_
   refine w_val (y_bin (ev (.int .i64 ((n : Nat) : Int)) rfl rfl) (evc (.int .i64 1)) (b_add (by omega))) ?_
   refine w_as (ev (.int .i64 (((n : Nat) : Int) + 1)) rfl rfl) ?_
   refine wpList_nil ?_
   refine inb_n ?_
   have hn1 : n + 1 ≤ Cb.pn s.length q := by
     rcases Nat.lt_or_ge n (Cb.pn s.length q) with h | h
     · omega
     · exfalso
       have e : n = Cb.pn s.length q := by omega
       rw [← e] at hpm
       have h2 : (((s.length + n) % q : Nat) : Int) = 0 := by rw [hpm]; rfl
       rw [Int.natCast_emod, Int.natCast_add] at h2
       contradiction
   exact then_n ⟨_, (by omega), n + 1, vo, rfl, _, rfl, iv, iv, s1_0, s1_1, s1_4, s1_5, s1_6, (etv (b := .int .i64 (((n : Nat) : Int) + 1)) rfl), o_vo, hk⟩
  ·skip
   refine wp_exit ?_
   refine then_x ?_
   refine then_x ?_
   refine inb_x ?_
   refine then_n ?_
   refine ss ?_
   have hcN : (((s.length + n) % q : Nat) : Int) = 0 := by rw [Int.natCast_emod, Int.natCast_add]; omega
   have hnp : n = Cb.pn s.length q := Cb.pn_only s.length q n (by omega) i1_0 (by omega) (by omega)
   refine wp_region_lit ?_
   refine w_as (evc (.int .i64 0)) ?_
   refine nt ?_
   refine wp_block ?_
   refine c_loop (fun dN aN wl => ∃ (i : Nat) (vp : Value), dN = (Cb.pn s.length q - i) ∧ ∃ f10, aN = fr 38 f10 ∧ (i ≤ Cb.pn s.length q) ∧ f10 0 = .string (str s) ∧ f10 1 = .int .i64 ((q : Nat) : Int) ∧ f10 4 = .string (str ([] : List (BitVec 8))) ∧ f10 5 = .int .i64 0 ∧ f10 6 = vp ∧ f10 7 = .int .i64 ((Cb.pn s.length q : Nat) : Int) ∧ f10 8 = .int .i64 ((i : Nat) : Int) ∧ Own wl w0.heap.size 5 1 vp (s.length + i) (fun j => U8 (gb (Cb.pad s q) j)) ∧ Below w0.heap.size w0 wl) (Cb.pn s.length q - 0) ?_ ?_
   · exact ⟨0, vo, rfl, _, rfl, iv, s1_0, s1_1, s1_4, s1_5, (Eq.trans (b := vo) s1_6 (by first | with_reducible rfl | (with_reducible congr 1 <;> omega) | (with_reducible congr 2 <;> omega) | (with_reducible congr 3 <;> omega) | rfl)), (by refine Eq.trans (b := .int .i64 ((n : Nat) : Int)) ?_ ?_; exact s1_7; (rw [hnp])), (etv (b := .int .i64 0) rfl), (own_n (o_vo.congr (fun j hj => by (try dsimp only); rw [Cb.gb_pad, if_pos (by omega)])) (by omega)), hk⟩
   ·skip
    clear o_vo hk
    rintro _ _ w11 ⟨i, vp, rfl, f10, rfl, i2_0, s2_0, s2_1, s2_4, s2_5, s2_6, s2_7, s2_8, o_vp, hk⟩
    refine wp_seq ?_
    refine sr ?_
    refine w_mv (ev (.int .i64 ((i : Nat) : Int)) s2_8 rfl) ?_
    refine w_mv (ev (.int .i64 ((Cb.pn s.length q : Nat) : Int)) s2_7 rfl) ?_
    refine w_val (y_bin (ev (.int .i64 ((i : Nat) : Int)) rfl rfl) (ev (.int .i64 ((Cb.pn s.length q : Nat) : Int)) rfl rfl) b_lss) ?_
    refine nt ?_
    refine c_if (p := ((i : Nat) : Int) < ((Cb.pn s.length q : Nat) : Int)) (ev (.bool (decide (((i : Nat) : Int) < ((Cb.pn s.length q : Nat) : Int)))) rfl rfl) (fun hc12 => ?_) (fun hc12 => ?_)
    ·skip
     refine wp_skip ?_
     refine then_n ?_
     refine wp_seq ?_
     refine wp_block ?_
     refine wp_region_lit ?_
     refine w_mv (ev vp s2_6 rfl) ?_
     refine w_mv (ev (.int .i64 ((Cb.pn s.length q : Nat) : Int)) s2_7 rfl) ?_
     refine w_val (y_nat_u8 (p := (Cb.pn s.length q)) (ev (.int .i64 ((Cb.pn s.length q : Nat) : Int)) rfl rfl) (by omega) CbcAT.so3 Try.underlying5) ?_
     refine w_bs1 (m := 1) (e := 5) (F := fun j => U8 (BitVec.ofNat 8 (Cb.pn s.length q))) (ev (U8 (BitVec.ofNat 8 (Cb.pn s.length q))) rfl rfl) (fun w => by kernel_rfl) ?_
     intro b_34 w13 hbe_b_34 r_b_34 hb14
     have no_vp_b_34 : vp.ownBlock ≠ some b_34 := o_vp.apart (by omega)
     have ge_b_34 : w0.heap.size ≤ b_34 := by have := hk.size; omega
     clear hbe_b_34
     replace o_vp := o_vp.step hb14
     replace hk := thenB hk hb14
     refine w_app (k := (s.length + i)) (m := 1) (size := 1) (bytes := 1) (ev vp rfl rfl) (ev (.slice (some ⟨b_34, 0, none⟩) 1 1) rfl rfl) Try.underlying54 (by kernel_rfl) (by decide) o_vp hk.size r_b_34 (by omega) oca (by simp only [maxLen]; omega) (by omega) ?_
     intro v15 w16 o_v15 hg17 hv18
     have no_v15_b_34 := no_new no_vp_b_34 r_b_34.lt hv18
     replace r_b_34 := r_b_34.stepO hg17 no_vp_b_34
     replace hk := thenO hk hg17 (fun g e => (o_vp.block_lt g e).2)
     clear o_vp
     refine w_as (ev v15 rfl rfl) ?_
     refine wpList_nil ?_
     refine inb_n ?_
     refine then_n ?_
     refine wp_region_lit ?_
     refine w_mv (ev (.int .i64 ((i : Nat) : Int)) s2_8 rfl) ?_
     refine w_val (y_bin (ev (.int .i64 ((i : Nat) : Int)) rfl rfl) (evc (.int .i64 1)) (b_add (by omega))) ?_
     refine w_as (ev (.int .i64 (((i : Nat) : Int) + 1)) rfl rfl) ?_
     refine wpList_nil ?_
     exact then_n ⟨_, (by omega), i + 1, v15, rfl, _, rfl, iv, s2_0, s2_1, s2_4, s2_5, rfl, s2_7, (etv (b := .int .i64 (((i : Nat) : Int) + 1)) rfl), (own_n (o_v15.congr (fun j hj => by (try dsimp only); by_cases e : j < (s.length + i) * 1; (rw [if_pos e]); (rw [if_neg e, Cb.gb_pad, if_neg (by omega), if_pos (by omega)]))) (by omega)), hk⟩
    ·skip
     refine wp_exit ?_
     refine then_x ?_
     refine then_x ?_
     refine inb_x ?_
     refine then_n ?_
     refine sr ?_
     refine w_mv (ev vp s2_6 rfl) ?_
     refine w_val (v := .string (str (Cb.pad s q))) (y_strown (l := Cb.pad s q) (ev vp rfl rfl) o_vp  (by exact (by rw [Cb.pad_len]; omega)) (fun j hj => by exact rfl) Try.underlying54 Try.underlying5 Try.underlying9) ?_
     refine w_as (ev (.string (str (Cb.pad s q))) rfl rfl) ?_
     refine w_as (evc (.int .i64 0)) ?_
     refine nt ?_
     refine wp_ret ?_
     refine fin_ret2 rfl (ev (.string (str (Cb.pad s q))) rfl rfl) (ev (.int .i64 0) rfl rfl) ?_
     exact ⟨rfl, hk⟩

set_option maxRecDepth 100000 in
set_option maxHeartbeats 1000000 in
theorem unpad_s (s : List (BitVec 8)) (q : Nat) (h1 : 1 ≤ q) (h255 : q ≤ 255) (hs : s.length = 0 ∨ s.length % q ≠ 0) (w0 : World) : Calls Try.prog 21 #[.string (str s), .int .i64 ((q : Nat) : Int)] w0 fun e w' => e = .returned (.tuple #[.string (str ([] : List (BitVec 8))), .int .i64 6]) ∧ Below w0.heap.size w0 w' := by
 refine enter (n := 58) Try.func21 rfl rfl rfl ?_
 have hk : Below w0.heap.size w0 w0 := Below.refl _ _
 refine sr ?_
 refine w_as (evc (.string (str ([] : List (BitVec 8))))) ?_
 refine w_as (evc (.int .i64 0)) ?_
 refine nt ?_
 refine wp_seq ?_
 refine sr ?_
 refine w_mv (ev (.int .i64 ((q : Nat) : Int)) rfl rfl) ?_
 refine w_val (y_bin (ev (.int .i64 ((q : Nat) : Int)) rfl rfl) (evc (.int .i64 1)) b_lss) ?_
 refine w_mv (ev (.bool (decide (((q : Nat) : Int) < 1))) rfl rfl) ?_
 have hc1 : ¬ (((q : Nat) : Int) < 1) := by omega
 refine w_val_g (v := .int .i64 ((q : Nat) : Int)) (want_yes (j := 2) rfl rfl (ev (.bool false) (Eq.trans (b := .bool (decide (((q : Nat) : Int) < 1))) rfl (by rw [decide_eq_false hc1])) rfl) rfl) (y_mv (ev (.int .i64 ((q : Nat) : Int)) rfl rfl)) ?_
 refine w_val_g (want_yes (j := 2) rfl rfl (ev (.bool false) (Eq.trans (b := .bool (decide (((q : Nat) : Int) < 1))) rfl (by rw [decide_eq_false hc1])) rfl) rfl) (y_bin (ev (.int .i64 ((q : Nat) : Int)) rfl rfl) (evc (.int .i64 255)) b_gtr) ?_
 refine w_val (y_pick_f (ev (.bool false) (Eq.trans (b := .bool (decide (((q : Nat) : Int) < 1))) rfl (by rw [decide_eq_false hc1])) rfl) (ev (.bool (decide (255 < ((q : Nat) : Int)))) rfl rfl)) ?_
 refine nt ?_
 have hc2 : ¬ (255 < ((q : Nat) : Int)) := by omega
 refine c_f (p := 255 < ((q : Nat) : Int)) (ev (.bool (decide (255 < ((q : Nat) : Int)))) rfl rfl) hc2 ?_
 refine wp_skip ?_
 refine then_n ?_
 refine wp_seq ?_
 refine sr ?_
 refine w_mv (ev (.string (str s)) rfl rfl) ?_
 refine w_val (y_bin (ev (.string (str s)) rfl rfl) (evc (.string (str ([] : List (BitVec 8))))) b_eqs) ?_
 refine w_mv (ev (.bool (decide (s = ([] : List (BitVec 8))))) rfl rfl) ?_
 by_cases hc3 : s = ([] : List (BitVec 8))
 ·skip
  first | with_reducible refine w_skip ?_ ?_ | refine w_skip ?_ ?_
  · exact want_no (j := 2) rfl rfl (ev (.bool true) (Eq.trans (b := .bool (decide (s = ([] : List (BitVec 8))))) rfl (by rw [decide_eq_true hc3])) rfl) rfl
  first | with_reducible refine w_skip ?_ ?_ | refine w_skip ?_ ?_
  · exact want_no (j := 2) rfl rfl (ev (.bool true) (Eq.trans (b := .bool (decide (s = ([] : List (BitVec 8))))) rfl (by rw [decide_eq_true hc3])) rfl) rfl
  first | with_reducible refine w_skip ?_ ?_ | refine w_skip ?_ ?_
  · exact want_no (j := 2) rfl rfl (ev (.bool true) (Eq.trans (b := .bool (decide (s = ([] : List (BitVec 8))))) rfl (by rw [decide_eq_true hc3])) rfl) rfl
  first | with_reducible refine w_skip ?_ ?_ | refine w_skip ?_ ?_
  · exact want_no (j := 2) rfl rfl (ev (.bool true) (Eq.trans (b := .bool (decide (s = ([] : List (BitVec 8))))) rfl (by rw [decide_eq_true hc3])) rfl) rfl
  first | with_reducible refine w_skip ?_ ?_ | refine w_skip ?_ ?_
  · exact want_no (j := 2) rfl rfl (ev (.bool true) (Eq.trans (b := .bool (decide (s = ([] : List (BitVec 8))))) rfl (by rw [decide_eq_true hc3])) rfl) rfl
  refine w_val (y_pick_t (ev (.bool true) (Eq.trans (b := .bool (decide (s = ([] : List (BitVec 8))))) rfl (by rw [decide_eq_true hc3])) rfl) (evc (.bool true))) ?_
  refine nt ?_
  refine c_tt (ev (.bool true) rfl rfl) ?_
  refine sr ?_
  refine w_as (evc (.string (str ([] : List (BitVec 8))))) ?_
  refine w_as (evc (.int .i64 6)) ?_
  refine nt ?_
  refine wp_ret ?_
  refine then_r ?_
  refine fin_ret2 rfl (ev (.string (str ([] : List (BitVec 8)))) rfl rfl) (ev (.int .i64 6) rfl rfl) ?_
  exact ⟨rfl, hk⟩
 ·skip
  refine w_val_g (v := .string (str s)) (want_yes (j := 2) rfl rfl (ev (.bool false) (Eq.trans (b := .bool (decide (s = ([] : List (BitVec 8))))) rfl (by rw [decide_eq_false hc3])) rfl) rfl) (y_mv (ev (.string (str s)) rfl rfl)) ?_
  refine w_val_g (want_yes (j := 2) rfl rfl (ev (.bool false) (Eq.trans (b := .bool (decide (s = ([] : List (BitVec 8))))) rfl (by rw [decide_eq_false hc3])) rfl) rfl) (y_len (ev (.string (str s)) rfl rfl) Try.underlying9) ?_
  refine w_val_g (v := .int .i64 ((q : Nat) : Int)) (want_yes (j := 2) rfl rfl (ev (.bool false) (Eq.trans (b := .bool (decide (s = ([] : List (BitVec 8))))) rfl (by rw [decide_eq_false hc3])) rfl) rfl) (y_mv (ev (.int .i64 ((q : Nat) : Int)) rfl rfl)) ?_
  refine w_val_g (want_yes (j := 2) rfl rfl (ev (.bool false) (Eq.trans (b := .bool (decide (s = ([] : List (BitVec 8))))) rfl (by rw [decide_eq_false hc3])) rfl) rfl) (y_bin (ev (.int .i64 ((s.length : Nat) : Int)) rfl rfl) (ev (.int .i64 ((q : Nat) : Int)) rfl rfl) (b_rem (by omega))) ?_
  refine w_val_g (want_yes (j := 2) rfl rfl (ev (.bool false) (Eq.trans (b := .bool (decide (s = ([] : List (BitVec 8))))) rfl (by rw [decide_eq_false hc3])) rfl) rfl) (y_bin (ev (.int .i64 (((s.length : Nat) : Int) % ((q : Nat) : Int))) rfl rfl) (evc (.int .i64 0)) b_neq) ?_
  refine w_val (y_pick_f (ev (.bool false) (Eq.trans (b := .bool (decide (s = ([] : List (BitVec 8))))) rfl (by rw [decide_eq_false hc3])) rfl) (ev (.bool (decide ((((s.length : Nat) : Int) % ((q : Nat) : Int)) ≠ 0))) rfl rfl)) ?_
  refine nt ?_
  refine c_if (p := (((s.length : Nat) : Int) % ((q : Nat) : Int)) ≠ 0) (ev (.bool (decide ((((s.length : Nat) : Int) % ((q : Nat) : Int)) ≠ 0))) rfl rfl) (fun hc4 => ?_) (fun hc4 => ?_)
  ·skip
   refine sr ?_
   refine w_as (evc (.string (str ([] : List (BitVec 8))))) ?_
   refine w_as (evc (.int .i64 6)) ?_
   refine nt ?_
   refine wp_ret ?_
   refine then_r ?_
   refine fin_ret2 rfl (ev (.string (str ([] : List (BitVec 8)))) rfl rfl) (ev (.int .i64 6) rfl rfl) ?_
   exact ⟨rfl, hk⟩
  ·skip
   refine wp_skip ?_
   refine then_n ?_
   refine wp_seq ?_
   exfalso; have hpo := List.length_pos_iff.2 (show s ≠ [] by assumption); omega

set_option maxRecDepth 100000 in
set_option maxHeartbeats 1000000 in
theorem refUnpad_s (s : List (BitVec 8)) (q : Nat) (h1 : 1 ≤ q) (h255 : q ≤ 255) (hs : s.length = 0 ∨ s.length % q ≠ 0) (w0 : World) : Calls Try.prog 22 #[.string (str s), .int .i64 ((q : Nat) : Int)] w0 fun e w' => e = .returned (.tuple #[.string (str ([] : List (BitVec 8))), .int .i64 6]) ∧ Below w0.heap.size w0 w' := by
 refine enter (n := 50) Try.func22 rfl rfl rfl ?_
 have hk : Below w0.heap.size w0 w0 := Below.refl _ _
 refine sr ?_
 refine w_as (evc (.string (str ([] : List (BitVec 8))))) ?_
 refine w_as (evc (.int .i64 0)) ?_
 refine nt ?_
 refine wp_seq ?_
 refine sr ?_
 refine w_mv (ev (.int .i64 ((q : Nat) : Int)) rfl rfl) ?_
 refine w_val (y_bin (ev (.int .i64 ((q : Nat) : Int)) rfl rfl) (evc (.int .i64 1)) b_lss) ?_
 refine w_mv (ev (.bool (decide (((q : Nat) : Int) < 1))) rfl rfl) ?_
 have hc1 : ¬ (((q : Nat) : Int) < 1) := by omega
 refine w_val_g (v := .int .i64 ((q : Nat) : Int)) (want_yes (j := 2) rfl rfl (ev (.bool false) (Eq.trans (b := .bool (decide (((q : Nat) : Int) < 1))) rfl (by rw [decide_eq_false hc1])) rfl) rfl) (y_mv (ev (.int .i64 ((q : Nat) : Int)) rfl rfl)) ?_
 refine w_val_g (want_yes (j := 2) rfl rfl (ev (.bool false) (Eq.trans (b := .bool (decide (((q : Nat) : Int) < 1))) rfl (by rw [decide_eq_false hc1])) rfl) rfl) (y_bin (ev (.int .i64 ((q : Nat) : Int)) rfl rfl) (evc (.int .i64 255)) b_gtr) ?_
 refine w_val (y_pick_f (ev (.bool false) (Eq.trans (b := .bool (decide (((q : Nat) : Int) < 1))) rfl (by rw [decide_eq_false hc1])) rfl) (ev (.bool (decide (255 < ((q : Nat) : Int)))) rfl rfl)) ?_
 refine nt ?_
 have hc2 : ¬ (255 < ((q : Nat) : Int)) := by omega
 refine c_f (p := 255 < ((q : Nat) : Int)) (ev (.bool (decide (255 < ((q : Nat) : Int)))) rfl rfl) hc2 ?_
 refine wp_skip ?_
 refine then_n ?_
 refine wp_seq ?_
 refine sr ?_
 refine w_mv (ev (.string (str s)) rfl rfl) ?_
 refine w_val (y_len (ev (.string (str s)) rfl rfl) Try.underlying9) ?_
 refine w_val (y_bin (ev (.int .i64 ((s.length : Nat) : Int)) rfl rfl) (evc (.int .i64 0)) b_eql) ?_
 refine w_mv (ev (.bool (decide (((s.length : Nat) : Int) = 0))) rfl rfl) ?_
 by_cases hc3 : ((s.length : Nat) : Int) = 0
 ·skip
  first | with_reducible refine w_skip ?_ ?_ | refine w_skip ?_ ?_
  · exact want_no (j := 3) rfl rfl (ev (.bool true) (Eq.trans (b := .bool (decide (((s.length : Nat) : Int) = 0))) rfl (by rw [decide_eq_true hc3])) rfl) rfl
  first | with_reducible refine w_skip ?_ ?_ | refine w_skip ?_ ?_
  · exact want_no (j := 3) rfl rfl (ev (.bool true) (Eq.trans (b := .bool (decide (((s.length : Nat) : Int) = 0))) rfl (by rw [decide_eq_true hc3])) rfl) rfl
  first | with_reducible refine w_skip ?_ ?_ | refine w_skip ?_ ?_
  · exact want_no (j := 3) rfl rfl (ev (.bool true) (Eq.trans (b := .bool (decide (((s.length : Nat) : Int) = 0))) rfl (by rw [decide_eq_true hc3])) rfl) rfl
  first | with_reducible refine w_skip ?_ ?_ | refine w_skip ?_ ?_
  · exact want_no (j := 3) rfl rfl (ev (.bool true) (Eq.trans (b := .bool (decide (((s.length : Nat) : Int) = 0))) rfl (by rw [decide_eq_true hc3])) rfl) rfl
  first | with_reducible refine w_skip ?_ ?_ | refine w_skip ?_ ?_
  · exact want_no (j := 3) rfl rfl (ev (.bool true) (Eq.trans (b := .bool (decide (((s.length : Nat) : Int) = 0))) rfl (by rw [decide_eq_true hc3])) rfl) rfl
  refine w_val (y_pick_t (ev (.bool true) (Eq.trans (b := .bool (decide (((s.length : Nat) : Int) = 0))) rfl (by rw [decide_eq_true hc3])) rfl) (evc (.bool true))) ?_
  refine nt ?_
  refine c_tt (ev (.bool true) rfl rfl) ?_
  refine sr ?_
  refine w_as (evc (.string (str ([] : List (BitVec 8))))) ?_
  refine w_as (evc (.int .i64 6)) ?_
  refine nt ?_
  refine wp_ret ?_
  refine then_r ?_
  refine fin_ret2 rfl (ev (.string (str ([] : List (BitVec 8)))) rfl rfl) (ev (.int .i64 6) rfl rfl) ?_
  exact ⟨rfl, hk⟩
 ·skip
  refine w_val_g (v := .string (str s)) (want_yes (j := 3) rfl rfl (ev (.bool false) (Eq.trans (b := .bool (decide (((s.length : Nat) : Int) = 0))) rfl (by rw [decide_eq_false hc3])) rfl) rfl) (y_mv (ev (.string (str s)) rfl rfl)) ?_
  refine w_val_g (want_yes (j := 3) rfl rfl (ev (.bool false) (Eq.trans (b := .bool (decide (((s.length : Nat) : Int) = 0))) rfl (by rw [decide_eq_false hc3])) rfl) rfl) (y_len (ev (.string (str s)) rfl rfl) Try.underlying9) ?_
  refine w_val_g (v := .int .i64 ((q : Nat) : Int)) (want_yes (j := 3) rfl rfl (ev (.bool false) (Eq.trans (b := .bool (decide (((s.length : Nat) : Int) = 0))) rfl (by rw [decide_eq_false hc3])) rfl) rfl) (y_mv (ev (.int .i64 ((q : Nat) : Int)) rfl rfl)) ?_
  refine w_val_g (want_yes (j := 3) rfl rfl (ev (.bool false) (Eq.trans (b := .bool (decide (((s.length : Nat) : Int) = 0))) rfl (by rw [decide_eq_false hc3])) rfl) rfl) (y_bin (ev (.int .i64 ((s.length : Nat) : Int)) rfl rfl) (ev (.int .i64 ((q : Nat) : Int)) rfl rfl) (b_rem (by omega))) ?_
  refine w_val_g (want_yes (j := 3) rfl rfl (ev (.bool false) (Eq.trans (b := .bool (decide (((s.length : Nat) : Int) = 0))) rfl (by rw [decide_eq_false hc3])) rfl) rfl) (y_bin (ev (.int .i64 (((s.length : Nat) : Int) % ((q : Nat) : Int))) rfl rfl) (evc (.int .i64 0)) b_neq) ?_
  refine w_val (y_pick_f (ev (.bool false) (Eq.trans (b := .bool (decide (((s.length : Nat) : Int) = 0))) rfl (by rw [decide_eq_false hc3])) rfl) (ev (.bool (decide ((((s.length : Nat) : Int) % ((q : Nat) : Int)) ≠ 0))) rfl rfl)) ?_
  refine nt ?_
  refine c_if (p := (((s.length : Nat) : Int) % ((q : Nat) : Int)) ≠ 0) (ev (.bool (decide ((((s.length : Nat) : Int) % ((q : Nat) : Int)) ≠ 0))) rfl rfl) (fun hc4 => ?_) (fun hc4 => ?_)
  ·skip
   refine sr ?_
   refine w_as (evc (.string (str ([] : List (BitVec 8))))) ?_
   refine w_as (evc (.int .i64 6)) ?_
   refine nt ?_
   refine wp_ret ?_
   refine then_r ?_
   refine fin_ret2 rfl (ev (.string (str ([] : List (BitVec 8)))) rfl rfl) (ev (.int .i64 6) rfl rfl) ?_
   exact ⟨rfl, hk⟩
  ·skip
   refine wp_skip ?_
   refine then_n ?_
   refine ss ?_
   exfalso; omega

set_option maxRecDepth 100000 in
set_option maxHeartbeats 1000000 in
theorem unpad_y (s : List (BitVec 8)) (q : Nat) (h1 : 1 ≤ q) (h255 : q ≤ 255) (hs : s.length ≤ 1100000) (h0 : 0 < s.length) (hm : s.length % q = 0) (hp : Cb.Padded s q) (w0 : World) : Calls Try.prog 21 #[.string (str s), .int .i64 ((q : Nat) : Int)] w0 fun e w' => e = .returned (.tuple #[.string (str (s.take (s.length - Cb.last s))), .int .i64 0]) ∧ Below w0.heap.size w0 w' := by
 have hzl : q ≤ s.length := Nat.le_of_dvd h0 (Nat.dvd_of_mod_eq_zero hm)
 have hl8 : Cb.last s < 256 := (gb s (s.length - 1)).isLt
 obtain ⟨hp1, hp2, hp3⟩ := hp
 refine enter (n := 58) Try.func21 rfl rfl rfl ?_
 have hk : Below w0.heap.size w0 w0 := Below.refl _ _
 refine sr ?_
 refine w_as (evc (.string (str ([] : List (BitVec 8))))) ?_
 refine w_as (evc (.int .i64 0)) ?_
 refine nt ?_
 refine wp_seq ?_
 refine sr ?_
 refine w_mv (ev (.int .i64 ((q : Nat) : Int)) rfl rfl) ?_
 refine w_val (y_bin (ev (.int .i64 ((q : Nat) : Int)) rfl rfl) (evc (.int .i64 1)) b_lss) ?_
 refine w_mv (ev (.bool (decide (((q : Nat) : Int) < 1))) rfl rfl) ?_
 have hc1 : ¬ (((q : Nat) : Int) < 1) := by omega
 refine w_val_g (v := .int .i64 ((q : Nat) : Int)) (want_yes (j := 2) rfl rfl (ev (.bool false) (Eq.trans (b := .bool (decide (((q : Nat) : Int) < 1))) rfl (by rw [decide_eq_false hc1])) rfl) rfl) (y_mv (ev (.int .i64 ((q : Nat) : Int)) rfl rfl)) ?_
 refine w_val_g (want_yes (j := 2) rfl rfl (ev (.bool false) (Eq.trans (b := .bool (decide (((q : Nat) : Int) < 1))) rfl (by rw [decide_eq_false hc1])) rfl) rfl) (y_bin (ev (.int .i64 ((q : Nat) : Int)) rfl rfl) (evc (.int .i64 255)) b_gtr) ?_
 refine w_val (y_pick_f (ev (.bool false) (Eq.trans (b := .bool (decide (((q : Nat) : Int) < 1))) rfl (by rw [decide_eq_false hc1])) rfl) (ev (.bool (decide (255 < ((q : Nat) : Int)))) rfl rfl)) ?_
 refine nt ?_
 have hc2 : ¬ (255 < ((q : Nat) : Int)) := by omega
 refine c_f (p := 255 < ((q : Nat) : Int)) (ev (.bool (decide (255 < ((q : Nat) : Int)))) rfl rfl) hc2 ?_
 refine wp_skip ?_
 refine then_n ?_
 refine wp_seq ?_
 refine sr ?_
 refine w_mv (ev (.string (str s)) rfl rfl) ?_
 refine w_val (y_bin (ev (.string (str s)) rfl rfl) (evc (.string (str ([] : List (BitVec 8))))) b_eqs) ?_
 refine w_mv (ev (.bool (decide (s = ([] : List (BitVec 8))))) rfl rfl) ?_
 have hc3 : ¬ (s = ([] : List (BitVec 8))) := by exact fun e => by rw [e] at h0; exact absurd h0 (by decide)
 refine w_val_g (v := .string (str s)) (want_yes (j := 2) rfl rfl (ev (.bool false) (Eq.trans (b := .bool (decide (s = ([] : List (BitVec 8))))) rfl (by rw [decide_eq_false hc3])) rfl) rfl) (y_mv (ev (.string (str s)) rfl rfl)) ?_
 refine w_val_g (want_yes (j := 2) rfl rfl (ev (.bool false) (Eq.trans (b := .bool (decide (s = ([] : List (BitVec 8))))) rfl (by rw [decide_eq_false hc3])) rfl) rfl) (y_len (ev (.string (str s)) rfl rfl) Try.underlying9) ?_
 refine w_val_g (v := .int .i64 ((q : Nat) : Int)) (want_yes (j := 2) rfl rfl (ev (.bool false) (Eq.trans (b := .bool (decide (s = ([] : List (BitVec 8))))) rfl (by rw [decide_eq_false hc3])) rfl) rfl) (y_mv (ev (.int .i64 ((q : Nat) : Int)) rfl rfl)) ?_
 refine w_val_g (want_yes (j := 2) rfl rfl (ev (.bool false) (Eq.trans (b := .bool (decide (s = ([] : List (BitVec 8))))) rfl (by rw [decide_eq_false hc3])) rfl) rfl) (y_bin (ev (.int .i64 ((s.length : Nat) : Int)) rfl rfl) (ev (.int .i64 ((q : Nat) : Int)) rfl rfl) (b_rem (by omega))) ?_
 refine w_val_g (want_yes (j := 2) rfl rfl (ev (.bool false) (Eq.trans (b := .bool (decide (s = ([] : List (BitVec 8))))) rfl (by rw [decide_eq_false hc3])) rfl) rfl) (y_bin (ev (.int .i64 (((s.length : Nat) : Int) % ((q : Nat) : Int))) rfl rfl) (evc (.int .i64 0)) b_neq) ?_
 refine w_val (y_pick_f (ev (.bool false) (Eq.trans (b := .bool (decide (s = ([] : List (BitVec 8))))) rfl (by rw [decide_eq_false hc3])) rfl) (ev (.bool (decide ((((s.length : Nat) : Int) % ((q : Nat) : Int)) ≠ 0))) rfl rfl)) ?_
 refine nt ?_
 have hc4 : ¬ ((((s.length : Nat) : Int) % ((q : Nat) : Int)) ≠ 0) := by omega
 refine c_f (p := (((s.length : Nat) : Int) % ((q : Nat) : Int)) ≠ 0) (ev (.bool (decide ((((s.length : Nat) : Int) % ((q : Nat) : Int)) ≠ 0))) rfl rfl) hc4 ?_
 refine wp_skip ?_
 refine then_n ?_
 refine sr ?_
 refine w_mv (ev (.string (str s)) rfl rfl) ?_
 refine w_mv (ev (.string (str s)) rfl rfl) ?_
 refine w_val (y_len (ev (.string (str s)) rfl rfl) Try.underlying9) ?_
 refine w_val (y_bin (ev (.int .i64 ((s.length : Nat) : Int)) rfl rfl) (evc (.int .i64 1)) (b_sub (by omega))) ?_
 refine w_val (v := U8 (gb s (s.length - 1))) (y_idx (ev (.string (str s)) rfl rfl) (ev (.int .i64 (((s.length : Nat) : Int) - 1)) rfl rfl) Try.underlying9 (by omega) (by omega)) ?_
 refine w_val (v := .int .i64 (((gb s (s.length - 1)).toNat : Nat) : Int)) (y_u8_i64 (ev (U8 (gb s (s.length - 1))) rfl rfl) CbcAT.so5 Try.underlying3 (by have := (gb s (s.length - 1)).isLt; omega)) ?_
 refine w_as (ev (.int .i64 (((gb s (s.length - 1)).toNat : Nat) : Int)) rfl rfl) ?_
 refine nt ?_
 refine wp_seq ?_
 refine sr ?_
 refine w_mv (ev (.int .i64 ((Cb.last s : Nat) : Int)) (Eq.trans (b := .int .i64 (((gb s (s.length - 1)).toNat : Nat) : Int)) rfl (by rfl)) rfl) ?_
 refine w_val (y_bin (ev (.int .i64 ((Cb.last s : Nat) : Int)) rfl rfl) (evc (.int .i64 0)) b_eql) ?_
 refine w_mv (ev (.bool (decide (((Cb.last s : Nat) : Int) = 0))) rfl rfl) ?_
 have hc5 : ¬ (((Cb.last s : Nat) : Int) = 0) := by omega
 refine w_val_g (v := .int .i64 ((Cb.last s : Nat) : Int)) (want_yes (j := 2) rfl rfl (ev (.bool false) (Eq.trans (b := .bool (decide (((Cb.last s : Nat) : Int) = 0))) rfl (by rw [decide_eq_false hc5])) rfl) rfl) (y_mv (ev (.int .i64 ((Cb.last s : Nat) : Int)) (Eq.trans (b := .int .i64 (((gb s (s.length - 1)).toNat : Nat) : Int)) rfl (by rfl)) rfl)) ?_
 refine w_val_g (v := .int .i64 ((q : Nat) : Int)) (want_yes (j := 2) rfl rfl (ev (.bool false) (Eq.trans (b := .bool (decide (((Cb.last s : Nat) : Int) = 0))) rfl (by rw [decide_eq_false hc5])) rfl) rfl) (y_mv (ev (.int .i64 ((q : Nat) : Int)) rfl rfl)) ?_
 refine w_val_g (want_yes (j := 2) rfl rfl (ev (.bool false) (Eq.trans (b := .bool (decide (((Cb.last s : Nat) : Int) = 0))) rfl (by rw [decide_eq_false hc5])) rfl) rfl) (y_bin (ev (.int .i64 ((Cb.last s : Nat) : Int)) rfl rfl) (ev (.int .i64 ((q : Nat) : Int)) rfl rfl) b_gtr) ?_
 refine w_val (y_pick_f (ev (.bool false) (Eq.trans (b := .bool (decide (((Cb.last s : Nat) : Int) = 0))) rfl (by rw [decide_eq_false hc5])) rfl) (ev (.bool (decide (((q : Nat) : Int) < ((Cb.last s : Nat) : Int)))) rfl rfl)) ?_
 refine nt ?_
 have hc6 : ¬ (((q : Nat) : Int) < ((Cb.last s : Nat) : Int)) := by omega
 refine c_f (p := ((q : Nat) : Int) < ((Cb.last s : Nat) : Int)) (ev (.bool (decide (((q : Nat) : Int) < ((Cb.last s : Nat) : Int)))) rfl rfl) hc6 ?_
 refine wp_skip ?_
 refine then_n ?_
 refine wp_seq ?_
 refine sr ?_
 refine w_mv (ev (.string (str s)) rfl rfl) ?_
 refine w_val (y_len (ev (.string (str s)) rfl rfl) Try.underlying9) ?_
 refine w_mv (ev (.int .i64 ((Cb.last s : Nat) : Int)) (Eq.trans (b := .int .i64 (((gb s (s.length - 1)).toNat : Nat) : Int)) rfl (by rfl)) rfl) ?_
 refine w_val (y_bin (ev (.int .i64 ((s.length : Nat) : Int)) rfl rfl) (ev (.int .i64 ((Cb.last s : Nat) : Int)) rfl rfl) (b_sub (by omega))) ?_
 refine w_as (ev (.int .i64 (((s.length : Nat) : Int) - ((Cb.last s : Nat) : Int))) rfl rfl) ?_
 refine nt ?_
 refine wp_block ?_
 refine c_loop (fun dN aN wl => ∃ (i : Nat), dN = (s.length - i) ∧ ∃ f7, aN = fr 58 f7 ∧ (s.length - Cb.last s ≤ i) ∧ (i ≤ s.length) ∧ f7 0 = .string (str s) ∧ f7 1 = .int .i64 ((q : Nat) : Int) ∧ f7 6 = .int .i64 ((Cb.last s : Nat) : Int) ∧ f7 7 = .int .i64 ((i : Nat) : Int) ∧ Below w0.heap.size w0 wl) (s.length - (s.length - Cb.last s)) ?_ ?_
 · exact ⟨s.length - Cb.last s, rfl, _, rfl, iv, iv, rfl, rfl, (Eq.trans (b := .int .i64 (((gb s (s.length - 1)).toNat : Nat) : Int)) rfl (by rfl)), (Eq.trans (b := .int .i64 (((s.length : Nat) : Int) - ((Cb.last s : Nat) : Int))) rfl (by congr 1; omega)), hk⟩
 ·skip
  clear hk
  rintro _ _ w8 ⟨i, rfl, f7, rfl, i1_0, i1_1, s1_0, s1_1, s1_6, s1_7, hk⟩
  refine wp_seq ?_
  refine sr ?_
  refine w_mv (ev (.int .i64 ((i : Nat) : Int)) s1_7 rfl) ?_
  refine w_mv (ev (.string (str s)) s1_0 rfl) ?_
  refine w_val (y_len (ev (.string (str s)) rfl rfl) Try.underlying9) ?_
  refine w_val (y_bin (ev (.int .i64 ((i : Nat) : Int)) rfl rfl) (ev (.int .i64 ((s.length : Nat) : Int)) rfl rfl) b_lss) ?_
  refine nt ?_
  refine c_if (p := ((i : Nat) : Int) < ((s.length : Nat) : Int)) (ev (.bool (decide (((i : Nat) : Int) < ((s.length : Nat) : Int)))) rfl rfl) (fun hc9 => ?_) (fun hc9 => ?_)
  ·skip
   refine wp_skip ?_
   refine then_n ?_
   refine wp_seq ?_
   refine wp_block ?_
   refine sr ?_
   refine w_mv (ev (.string (str s)) s1_0 rfl) ?_
   refine w_mv (ev (.int .i64 ((i : Nat) : Int)) s1_7 rfl) ?_
   refine w_val (v := U8 (gb s i)) (y_idx (ev (.string (str s)) rfl rfl) (ev (.int .i64 ((i : Nat) : Int)) rfl rfl) Try.underlying9 (by omega) (by omega)) ?_
   refine w_val (v := .int .i64 (((gb s i).toNat : Nat) : Int)) (y_u8_i64 (ev (U8 (gb s i)) rfl rfl) CbcAT.so5 Try.underlying3 (by have := (gb s i).isLt; omega)) ?_
   refine w_mv (ev (.int .i64 ((Cb.last s : Nat) : Int)) s1_6 rfl) ?_
   refine w_val (y_bin (ev (.int .i64 (((gb s i).toNat : Nat) : Int)) rfl rfl) (ev (.int .i64 ((Cb.last s : Nat) : Int)) rfl rfl) b_neq) ?_
   refine nt ?_
   have hc10 : ¬ ((((gb s i).toNat : Nat) : Int) ≠ ((Cb.last s : Nat) : Int)) := by have := hp3 i (by omega) (by omega); omega
   refine c_f (p := (((gb s i).toNat : Nat) : Int) ≠ ((Cb.last s : Nat) : Int)) (ev (.bool (decide ((((gb s i).toNat : Nat) : Int) ≠ ((Cb.last s : Nat) : Int)))) rfl rfl) hc10 ?_
   refine wp_skip ?_
   refine inb_n ?_
   refine then_n ?_
   refine wp_region_lit ?_
   refine w_mv (ev (.int .i64 ((i : Nat) : Int)) s1_7 rfl) ?_
   refine w_val (y_bin (ev (.int .i64 ((i : Nat) : Int)) rfl rfl) (evc (.int .i64 1)) (b_add (by omega))) ?_
   refine w_as (ev (.int .i64 (((i : Nat) : Int) + 1)) rfl rfl) ?_
   refine wpList_nil ?_
   exact then_n ⟨_, (by omega), i + 1, rfl, _, rfl, iv, iv, s1_0, s1_1, s1_6, (etv (b := .int .i64 (((i : Nat) : Int) + 1)) rfl), hk⟩
  ·skip
   refine wp_exit ?_
   refine then_x ?_
   refine then_x ?_
   refine inb_x ?_
   refine then_n ?_
   refine sr ?_
   refine w_mv (ev (.string (str s)) s1_0 rfl) ?_
   refine w_mv (ev (.string (str s)) s1_0 rfl) ?_
   refine w_val (y_len (ev (.string (str s)) rfl rfl) Try.underlying9) ?_
   refine w_mv (ev (.int .i64 ((Cb.last s : Nat) : Int)) s1_6 rfl) ?_
   refine w_val (y_bin (ev (.int .i64 ((s.length : Nat) : Int)) rfl rfl) (ev (.int .i64 ((Cb.last s : Nat) : Int)) rfl rfl) (b_sub (by omega))) ?_
   refine w_val (v := .string (str (s.take (s.length - (Cb.last s))))) (y_sls (ev (.string (str s)) rfl rfl) evo.no (evo.s (ev (.int .i64 (((s.length : Nat) : Int) - ((Cb.last s : Nat) : Int))) rfl rfl)) Try.underlying9 (bnd_h (h := (s.length - (Cb.last s))) (by omega) (by omega))) ?_
   refine w_as (ev (.string (str (s.take (s.length - (Cb.last s))))) rfl rfl) ?_
   refine w_as (evc (.int .i64 0)) ?_
   refine nt ?_
   refine wp_ret ?_
   refine fin_ret2 rfl (ev (.string (str (s.take (s.length - (Cb.last s))))) rfl rfl) (ev (.int .i64 0) rfl rfl) ?_
   refine ⟨congrArg Ending.returned ?_, hk⟩
   show (.tuple #[.string (str (s.take (s.length - (Cb.last s)))), .int .i64 0] : Value) = .tuple #[.string (str (s.take (s.length - Cb.last s))), .int .i64 0]
   first | with_reducible rfl | (with_reducible congr 1 <;> omega) | (with_reducible congr 2 <;> omega) | (with_reducible congr 3 <;> omega) | rfl

set_option maxRecDepth 100000 in
set_option maxHeartbeats 1000000 in
theorem unpad_n (s : List (BitVec 8)) (q : Nat) (h1 : 1 ≤ q) (h255 : q ≤ 255) (hs : s.length ≤ 1100000) (h0 : 0 < s.length) (hm : s.length % q = 0) (hp : ¬ Cb.Padded s q) (w0 : World) : Calls Try.prog 21 #[.string (str s), .int .i64 ((q : Nat) : Int)] w0 fun e w' => e = .returned (.tuple #[.string (str ([] : List (BitVec 8))), .int .i64 7]) ∧ Below w0.heap.size w0 w' := by
 have hzl : q ≤ s.length := Nat.le_of_dvd h0 (Nat.dvd_of_mod_eq_zero hm)
 have hl8 : Cb.last s < 256 := (gb s (s.length - 1)).isLt
 refine enter (n := 58) Try.func21 rfl rfl rfl ?_
 have hk : Below w0.heap.size w0 w0 := Below.refl _ _
 refine sr ?_
 refine w_as (evc (.string (str ([] : List (BitVec 8))))) ?_
 refine w_as (evc (.int .i64 0)) ?_
 refine nt ?_
 refine wp_seq ?_
 refine sr ?_
 refine w_mv (ev (.int .i64 ((q : Nat) : Int)) rfl rfl) ?_
 refine w_val (y_bin (ev (.int .i64 ((q : Nat) : Int)) rfl rfl) (evc (.int .i64 1)) b_lss) ?_
 refine w_mv (ev (.bool (decide (((q : Nat) : Int) < 1))) rfl rfl) ?_
 have hc1 : ¬ (((q : Nat) : Int) < 1) := by omega
 refine w_val_g (v := .int .i64 ((q : Nat) : Int)) (want_yes (j := 2) rfl rfl (ev (.bool false) (Eq.trans (b := .bool (decide (((q : Nat) : Int) < 1))) rfl (by rw [decide_eq_false hc1])) rfl) rfl) (y_mv (ev (.int .i64 ((q : Nat) : Int)) rfl rfl)) ?_
 refine w_val_g (want_yes (j := 2) rfl rfl (ev (.bool false) (Eq.trans (b := .bool (decide (((q : Nat) : Int) < 1))) rfl (by rw [decide_eq_false hc1])) rfl) rfl) (y_bin (ev (.int .i64 ((q : Nat) : Int)) rfl rfl) (evc (.int .i64 255)) b_gtr) ?_
 refine w_val (y_pick_f (ev (.bool false) (Eq.trans (b := .bool (decide (((q : Nat) : Int) < 1))) rfl (by rw [decide_eq_false hc1])) rfl) (ev (.bool (decide (255 < ((q : Nat) : Int)))) rfl rfl)) ?_
 refine nt ?_
 have hc2 : ¬ (255 < ((q : Nat) : Int)) := by omega
 refine c_f (p := 255 < ((q : Nat) : Int)) (ev (.bool (decide (255 < ((q : Nat) : Int)))) rfl rfl) hc2 ?_
 refine wp_skip ?_
 refine then_n ?_
 refine wp_seq ?_
 refine sr ?_
 refine w_mv (ev (.string (str s)) rfl rfl) ?_
 refine w_val (y_bin (ev (.string (str s)) rfl rfl) (evc (.string (str ([] : List (BitVec 8))))) b_eqs) ?_
 refine w_mv (ev (.bool (decide (s = ([] : List (BitVec 8))))) rfl rfl) ?_
 have hc3 : ¬ (s = ([] : List (BitVec 8))) := by exact fun e => by rw [e] at h0; exact absurd h0 (by decide)
 refine w_val_g (v := .string (str s)) (want_yes (j := 2) rfl rfl (ev (.bool false) (Eq.trans (b := .bool (decide (s = ([] : List (BitVec 8))))) rfl (by rw [decide_eq_false hc3])) rfl) rfl) (y_mv (ev (.string (str s)) rfl rfl)) ?_
 refine w_val_g (want_yes (j := 2) rfl rfl (ev (.bool false) (Eq.trans (b := .bool (decide (s = ([] : List (BitVec 8))))) rfl (by rw [decide_eq_false hc3])) rfl) rfl) (y_len (ev (.string (str s)) rfl rfl) Try.underlying9) ?_
 refine w_val_g (v := .int .i64 ((q : Nat) : Int)) (want_yes (j := 2) rfl rfl (ev (.bool false) (Eq.trans (b := .bool (decide (s = ([] : List (BitVec 8))))) rfl (by rw [decide_eq_false hc3])) rfl) rfl) (y_mv (ev (.int .i64 ((q : Nat) : Int)) rfl rfl)) ?_
 refine w_val_g (want_yes (j := 2) rfl rfl (ev (.bool false) (Eq.trans (b := .bool (decide (s = ([] : List (BitVec 8))))) rfl (by rw [decide_eq_false hc3])) rfl) rfl) (y_bin (ev (.int .i64 ((s.length : Nat) : Int)) rfl rfl) (ev (.int .i64 ((q : Nat) : Int)) rfl rfl) (b_rem (by omega))) ?_
 refine w_val_g (want_yes (j := 2) rfl rfl (ev (.bool false) (Eq.trans (b := .bool (decide (s = ([] : List (BitVec 8))))) rfl (by rw [decide_eq_false hc3])) rfl) rfl) (y_bin (ev (.int .i64 (((s.length : Nat) : Int) % ((q : Nat) : Int))) rfl rfl) (evc (.int .i64 0)) b_neq) ?_
 refine w_val (y_pick_f (ev (.bool false) (Eq.trans (b := .bool (decide (s = ([] : List (BitVec 8))))) rfl (by rw [decide_eq_false hc3])) rfl) (ev (.bool (decide ((((s.length : Nat) : Int) % ((q : Nat) : Int)) ≠ 0))) rfl rfl)) ?_
 refine nt ?_
 have hc4 : ¬ ((((s.length : Nat) : Int) % ((q : Nat) : Int)) ≠ 0) := by omega
 refine c_f (p := (((s.length : Nat) : Int) % ((q : Nat) : Int)) ≠ 0) (ev (.bool (decide ((((s.length : Nat) : Int) % ((q : Nat) : Int)) ≠ 0))) rfl rfl) hc4 ?_
 refine wp_skip ?_
 refine then_n ?_
 refine sr ?_
 refine w_mv (ev (.string (str s)) rfl rfl) ?_
 refine w_mv (ev (.string (str s)) rfl rfl) ?_
 refine w_val (y_len (ev (.string (str s)) rfl rfl) Try.underlying9) ?_
 refine w_val (y_bin (ev (.int .i64 ((s.length : Nat) : Int)) rfl rfl) (evc (.int .i64 1)) (b_sub (by omega))) ?_
 refine w_val (v := U8 (gb s (s.length - 1))) (y_idx (ev (.string (str s)) rfl rfl) (ev (.int .i64 (((s.length : Nat) : Int) - 1)) rfl rfl) Try.underlying9 (by omega) (by omega)) ?_
 refine w_val (v := .int .i64 (((gb s (s.length - 1)).toNat : Nat) : Int)) (y_u8_i64 (ev (U8 (gb s (s.length - 1))) rfl rfl) CbcAT.so5 Try.underlying3 (by have := (gb s (s.length - 1)).isLt; omega)) ?_
 refine w_as (ev (.int .i64 (((gb s (s.length - 1)).toNat : Nat) : Int)) rfl rfl) ?_
 refine nt ?_
 refine wp_seq ?_
 refine sr ?_
 refine w_mv (ev (.int .i64 ((Cb.last s : Nat) : Int)) (Eq.trans (b := .int .i64 (((gb s (s.length - 1)).toNat : Nat) : Int)) rfl (by rfl)) rfl) ?_
 refine w_val (y_bin (ev (.int .i64 ((Cb.last s : Nat) : Int)) rfl rfl) (evc (.int .i64 0)) b_eql) ?_
 refine w_mv (ev (.bool (decide (((Cb.last s : Nat) : Int) = 0))) rfl rfl) ?_
 by_cases hc5 : ((Cb.last s : Nat) : Int) = 0
 ·skip
  first | with_reducible refine w_skip ?_ ?_ | refine w_skip ?_ ?_
  · exact want_no (j := 2) rfl rfl (ev (.bool true) (Eq.trans (b := .bool (decide (((Cb.last s : Nat) : Int) = 0))) rfl (by rw [decide_eq_true hc5])) rfl) rfl
  first | with_reducible refine w_skip ?_ ?_ | refine w_skip ?_ ?_
  · exact want_no (j := 2) rfl rfl (ev (.bool true) (Eq.trans (b := .bool (decide (((Cb.last s : Nat) : Int) = 0))) rfl (by rw [decide_eq_true hc5])) rfl) rfl
  first | with_reducible refine w_skip ?_ ?_ | refine w_skip ?_ ?_
  · exact want_no (j := 2) rfl rfl (ev (.bool true) (Eq.trans (b := .bool (decide (((Cb.last s : Nat) : Int) = 0))) rfl (by rw [decide_eq_true hc5])) rfl) rfl
  refine w_val (y_pick_t (ev (.bool true) (Eq.trans (b := .bool (decide (((Cb.last s : Nat) : Int) = 0))) rfl (by rw [decide_eq_true hc5])) rfl) (evc (.bool true))) ?_
  refine nt ?_
  refine c_tt (ev (.bool true) rfl rfl) ?_
  refine sr ?_
  refine w_as (evc (.string (str ([] : List (BitVec 8))))) ?_
  refine w_as (evc (.int .i64 7)) ?_
  refine nt ?_
  refine wp_ret ?_
  refine then_r ?_
  refine fin_ret2 rfl (ev (.string (str ([] : List (BitVec 8)))) rfl rfl) (ev (.int .i64 7) rfl rfl) ?_
  exact ⟨rfl, hk⟩
 ·skip
  refine w_val_g (v := .int .i64 ((Cb.last s : Nat) : Int)) (want_yes (j := 2) rfl rfl (ev (.bool false) (Eq.trans (b := .bool (decide (((Cb.last s : Nat) : Int) = 0))) rfl (by rw [decide_eq_false hc5])) rfl) rfl) (y_mv (ev (.int .i64 ((Cb.last s : Nat) : Int)) (Eq.trans (b := .int .i64 (((gb s (s.length - 1)).toNat : Nat) : Int)) rfl (by rfl)) rfl)) ?_
  refine w_val_g (v := .int .i64 ((q : Nat) : Int)) (want_yes (j := 2) rfl rfl (ev (.bool false) (Eq.trans (b := .bool (decide (((Cb.last s : Nat) : Int) = 0))) rfl (by rw [decide_eq_false hc5])) rfl) rfl) (y_mv (ev (.int .i64 ((q : Nat) : Int)) rfl rfl)) ?_
  refine w_val_g (want_yes (j := 2) rfl rfl (ev (.bool false) (Eq.trans (b := .bool (decide (((Cb.last s : Nat) : Int) = 0))) rfl (by rw [decide_eq_false hc5])) rfl) rfl) (y_bin (ev (.int .i64 ((Cb.last s : Nat) : Int)) rfl rfl) (ev (.int .i64 ((q : Nat) : Int)) rfl rfl) b_gtr) ?_
  refine w_val (y_pick_f (ev (.bool false) (Eq.trans (b := .bool (decide (((Cb.last s : Nat) : Int) = 0))) rfl (by rw [decide_eq_false hc5])) rfl) (ev (.bool (decide (((q : Nat) : Int) < ((Cb.last s : Nat) : Int)))) rfl rfl)) ?_
  refine nt ?_
  refine c_if (p := ((q : Nat) : Int) < ((Cb.last s : Nat) : Int)) (ev (.bool (decide (((q : Nat) : Int) < ((Cb.last s : Nat) : Int)))) rfl rfl) (fun hc6 => ?_) (fun hc6 => ?_)
  ·skip
   refine sr ?_
   refine w_as (evc (.string (str ([] : List (BitVec 8))))) ?_
   refine w_as (evc (.int .i64 7)) ?_
   refine nt ?_
   refine wp_ret ?_
   refine then_r ?_
   refine fin_ret2 rfl (ev (.string (str ([] : List (BitVec 8)))) rfl rfl) (ev (.int .i64 7) rfl rfl) ?_
   exact ⟨rfl, hk⟩
  ·skip
   refine wp_skip ?_
   refine then_n ?_
   refine wp_seq ?_
   refine sr ?_
   refine w_mv (ev (.string (str s)) rfl rfl) ?_
   refine w_val (y_len (ev (.string (str s)) rfl rfl) Try.underlying9) ?_
   refine w_mv (ev (.int .i64 ((Cb.last s : Nat) : Int)) (Eq.trans (b := .int .i64 (((gb s (s.length - 1)).toNat : Nat) : Int)) rfl (by rfl)) rfl) ?_
   refine w_val (y_bin (ev (.int .i64 ((s.length : Nat) : Int)) rfl rfl) (ev (.int .i64 ((Cb.last s : Nat) : Int)) rfl rfl) (b_sub (by omega))) ?_
   refine w_as (ev (.int .i64 (((s.length : Nat) : Int) - ((Cb.last s : Nat) : Int))) rfl rfl) ?_
   refine nt ?_
   refine wp_block ?_
   refine c_loop (fun dN aN wl => ∃ (i : Nat), dN = (s.length - i) ∧ ∃ f7, aN = fr 58 f7 ∧ (s.length - Cb.last s ≤ i) ∧ (i ≤ s.length) ∧ (∀ k, s.length - Cb.last s ≤ k → k < i → (gb s k).toNat = Cb.last s) ∧ f7 0 = .string (str s) ∧ f7 1 = .int .i64 ((q : Nat) : Int) ∧ f7 6 = .int .i64 ((Cb.last s : Nat) : Int) ∧ f7 7 = .int .i64 ((i : Nat) : Int) ∧ Below w0.heap.size w0 wl) (s.length - (s.length - Cb.last s)) ?_ ?_
   · exact ⟨s.length - Cb.last s, rfl, _, rfl, iv, iv, (by intro k h3 h4; omega), rfl, rfl, (Eq.trans (b := .int .i64 (((gb s (s.length - 1)).toNat : Nat) : Int)) rfl (by rfl)), (Eq.trans (b := .int .i64 (((s.length : Nat) : Int) - ((Cb.last s : Nat) : Int))) rfl (by congr 1; omega)), hk⟩
   ·skip
    clear hk
    rintro _ _ w8 ⟨i, rfl, f7, rfl, i1_0, i1_1, i1_2, s1_0, s1_1, s1_6, s1_7, hk⟩
    refine wp_seq ?_
    refine sr ?_
    refine w_mv (ev (.int .i64 ((i : Nat) : Int)) s1_7 rfl) ?_
    refine w_mv (ev (.string (str s)) s1_0 rfl) ?_
    refine w_val (y_len (ev (.string (str s)) rfl rfl) Try.underlying9) ?_
    refine w_val (y_bin (ev (.int .i64 ((i : Nat) : Int)) rfl rfl) (ev (.int .i64 ((s.length : Nat) : Int)) rfl rfl) b_lss) ?_
    refine nt ?_
    refine c_if (p := ((i : Nat) : Int) < ((s.length : Nat) : Int)) (ev (.bool (decide (((i : Nat) : Int) < ((s.length : Nat) : Int)))) rfl rfl) (fun hc9 => ?_) (fun hc9 => ?_)
    ·skip
     refine wp_skip ?_
     refine then_n ?_
     refine wp_seq ?_
     refine wp_block ?_
     refine sr ?_
     refine w_mv (ev (.string (str s)) s1_0 rfl) ?_
     refine w_mv (ev (.int .i64 ((i : Nat) : Int)) s1_7 rfl) ?_
     refine w_val (v := U8 (gb s i)) (y_idx (ev (.string (str s)) rfl rfl) (ev (.int .i64 ((i : Nat) : Int)) rfl rfl) Try.underlying9 (by omega) (by omega)) ?_
     refine w_val (v := .int .i64 (((gb s i).toNat : Nat) : Int)) (y_u8_i64 (ev (U8 (gb s i)) rfl rfl) CbcAT.so5 Try.underlying3 (by have := (gb s i).isLt; omega)) ?_
     refine w_mv (ev (.int .i64 ((Cb.last s : Nat) : Int)) s1_6 rfl) ?_
     refine w_val (y_bin (ev (.int .i64 (((gb s i).toNat : Nat) : Int)) rfl rfl) (ev (.int .i64 ((Cb.last s : Nat) : Int)) rfl rfl) b_neq) ?_
     refine nt ?_
     refine c_if (p := (((gb s i).toNat : Nat) : Int) ≠ ((Cb.last s : Nat) : Int)) (ev (.bool (decide ((((gb s i).toNat : Nat) : Int) ≠ ((Cb.last s : Nat) : Int)))) rfl rfl) (fun hc10 => ?_) (fun hc10 => ?_)
     ·skip
      refine sr ?_
      refine w_as (evc (.string (str ([] : List (BitVec 8))))) ?_
      refine w_as (evc (.int .i64 7)) ?_
      refine nt ?_
      refine wp_ret ?_
      refine inb_r ?_
      refine then_r ?_
      refine then_r ?_
      refine inb_r ?_
      refine then_r ?_
      refine fin_ret2 rfl (ev (.string (str ([] : List (BitVec 8)))) rfl rfl) (ev (.int .i64 7) rfl rfl) ?_
      exact ⟨rfl, hk⟩
     ·skip
      refine wp_skip ?_
      refine inb_n ?_
      refine then_n ?_
      refine wp_region_lit ?_
      refine w_mv (ev (.int .i64 ((i : Nat) : Int)) s1_7 rfl) ?_
      refine w_val (y_bin (ev (.int .i64 ((i : Nat) : Int)) rfl rfl) (evc (.int .i64 1)) (b_add (by omega))) ?_
      refine w_as (ev (.int .i64 (((i : Nat) : Int) + 1)) rfl rfl) ?_
      refine wpList_nil ?_
      exact then_n ⟨_, (by omega), i + 1, rfl, _, rfl, iv, iv, (by intro k h3 h4; by_cases e : k = i; (subst e; omega); (exact i1_2 k h3 (by omega))), s1_0, s1_1, s1_6, (etv (b := .int .i64 (((i : Nat) : Int) + 1)) rfl), hk⟩
    ·skip
     refine wp_exit ?_
     refine then_x ?_
     refine then_x ?_
     refine inb_x ?_
     refine then_n ?_
     refine wp_seq ?_
     exact absurd (show Cb.Padded s q from ⟨by omega, by omega, fun k h3 h4 => i1_2 k h3 (by omega)⟩) hp

set_option maxRecDepth 100000 in
set_option maxHeartbeats 1000000 in
theorem refUnpad_y (s : List (BitVec 8)) (q : Nat) (h1 : 1 ≤ q) (h255 : q ≤ 255) (hs : s.length ≤ 1100000) (h0 : 0 < s.length) (hm : s.length % q = 0) (hp : Cb.Padded s q) (w0 : World) : Calls Try.prog 22 #[.string (str s), .int .i64 ((q : Nat) : Int)] w0 fun e w' => e = .returned (.tuple #[.string (str (s.take (s.length - Cb.last s))), .int .i64 0]) ∧ Below w0.heap.size w0 w' := by
 have hzl : q ≤ s.length := Nat.le_of_dvd h0 (Nat.dvd_of_mod_eq_zero hm)
 have hl8 : Cb.last s < 256 := (gb s (s.length - 1)).isLt
 have hp1 := hp.1
 have hp2 := hp.2.1
 refine enter (n := 50) Try.func22 rfl rfl rfl ?_
 have hk : Below w0.heap.size w0 w0 := Below.refl _ _
 refine sr ?_
 refine w_as (evc (.string (str ([] : List (BitVec 8))))) ?_
 refine w_as (evc (.int .i64 0)) ?_
 refine nt ?_
 refine wp_seq ?_
 refine sr ?_
 refine w_mv (ev (.int .i64 ((q : Nat) : Int)) rfl rfl) ?_
 refine w_val (y_bin (ev (.int .i64 ((q : Nat) : Int)) rfl rfl) (evc (.int .i64 1)) b_lss) ?_
 refine w_mv (ev (.bool (decide (((q : Nat) : Int) < 1))) rfl rfl) ?_
 have hc1 : ¬ (((q : Nat) : Int) < 1) := by omega
 refine w_val_g (v := .int .i64 ((q : Nat) : Int)) (want_yes (j := 2) rfl rfl (ev (.bool false) (Eq.trans (b := .bool (decide (((q : Nat) : Int) < 1))) rfl (by rw [decide_eq_false hc1])) rfl) rfl) (y_mv (ev (.int .i64 ((q : Nat) : Int)) rfl rfl)) ?_
 refine w_val_g (want_yes (j := 2) rfl rfl (ev (.bool false) (Eq.trans (b := .bool (decide (((q : Nat) : Int) < 1))) rfl (by rw [decide_eq_false hc1])) rfl) rfl) (y_bin (ev (.int .i64 ((q : Nat) : Int)) rfl rfl) (evc (.int .i64 255)) b_gtr) ?_
 refine w_val (y_pick_f (ev (.bool false) (Eq.trans (b := .bool (decide (((q : Nat) : Int) < 1))) rfl (by rw [decide_eq_false hc1])) rfl) (ev (.bool (decide (255 < ((q : Nat) : Int)))) rfl rfl)) ?_
 refine nt ?_
 have hc2 : ¬ (255 < ((q : Nat) : Int)) := by omega
 refine c_f (p := 255 < ((q : Nat) : Int)) (ev (.bool (decide (255 < ((q : Nat) : Int)))) rfl rfl) hc2 ?_
 refine wp_skip ?_
 refine then_n ?_
 refine wp_seq ?_
 refine sr ?_
 refine w_mv (ev (.string (str s)) rfl rfl) ?_
 refine w_val (y_len (ev (.string (str s)) rfl rfl) Try.underlying9) ?_
 refine w_val (y_bin (ev (.int .i64 ((s.length : Nat) : Int)) rfl rfl) (evc (.int .i64 0)) b_eql) ?_
 refine w_mv (ev (.bool (decide (((s.length : Nat) : Int) = 0))) rfl rfl) ?_
 have hc3 : ¬ (((s.length : Nat) : Int) = 0) := by omega
 refine w_val_g (v := .string (str s)) (want_yes (j := 3) rfl rfl (ev (.bool false) (Eq.trans (b := .bool (decide (((s.length : Nat) : Int) = 0))) rfl (by rw [decide_eq_false hc3])) rfl) rfl) (y_mv (ev (.string (str s)) rfl rfl)) ?_
 refine w_val_g (want_yes (j := 3) rfl rfl (ev (.bool false) (Eq.trans (b := .bool (decide (((s.length : Nat) : Int) = 0))) rfl (by rw [decide_eq_false hc3])) rfl) rfl) (y_len (ev (.string (str s)) rfl rfl) Try.underlying9) ?_
 refine w_val_g (v := .int .i64 ((q : Nat) : Int)) (want_yes (j := 3) rfl rfl (ev (.bool false) (Eq.trans (b := .bool (decide (((s.length : Nat) : Int) = 0))) rfl (by rw [decide_eq_false hc3])) rfl) rfl) (y_mv (ev (.int .i64 ((q : Nat) : Int)) rfl rfl)) ?_
 refine w_val_g (want_yes (j := 3) rfl rfl (ev (.bool false) (Eq.trans (b := .bool (decide (((s.length : Nat) : Int) = 0))) rfl (by rw [decide_eq_false hc3])) rfl) rfl) (y_bin (ev (.int .i64 ((s.length : Nat) : Int)) rfl rfl) (ev (.int .i64 ((q : Nat) : Int)) rfl rfl) (b_rem (by omega))) ?_
 refine w_val_g (want_yes (j := 3) rfl rfl (ev (.bool false) (Eq.trans (b := .bool (decide (((s.length : Nat) : Int) = 0))) rfl (by rw [decide_eq_false hc3])) rfl) rfl) (y_bin (ev (.int .i64 (((s.length : Nat) : Int) % ((q : Nat) : Int))) rfl rfl) (evc (.int .i64 0)) b_neq) ?_
 refine w_val (y_pick_f (ev (.bool false) (Eq.trans (b := .bool (decide (((s.length : Nat) : Int) = 0))) rfl (by rw [decide_eq_false hc3])) rfl) (ev (.bool (decide ((((s.length : Nat) : Int) % ((q : Nat) : Int)) ≠ 0))) rfl rfl)) ?_
 refine nt ?_
 have hc4 : ¬ ((((s.length : Nat) : Int) % ((q : Nat) : Int)) ≠ 0) := by omega
 refine c_f (p := (((s.length : Nat) : Int) % ((q : Nat) : Int)) ≠ 0) (ev (.bool (decide ((((s.length : Nat) : Int) % ((q : Nat) : Int)) ≠ 0))) rfl rfl) hc4 ?_
 refine wp_skip ?_
 refine then_n ?_
 refine wp_seq ?_
 refine sr ?_
 refine w_as (evc (.int .i64 1)) ?_
 refine nt ?_
 refine wp_block ?_
 refine c_loop (fun dN aN wl => ∃ (n : Nat), dN = (q + 1 - n) ∧ ∃ f5, aN = fr 50 f5 ∧ (1 ≤ n) ∧ (n ≤ Cb.last s) ∧ f5 0 = .string (str s) ∧ f5 1 = .int .i64 ((q : Nat) : Int) ∧ f5 6 = .int .i64 ((n : Nat) : Int) ∧ Below w0.heap.size w0 wl) (q + 1 - 1) ?_ ?_
 · exact ⟨1, rfl, _, rfl, iv, (by omega), rfl, rfl, (etv (b := .int .i64 1) rfl), hk⟩
 ·skip
  clear hk
  rintro _ _ w6 ⟨n, rfl, f5, rfl, i1_0, i1_1, s1_0, s1_1, s1_6, hk⟩
  refine wp_seq ?_
  refine sr ?_
  refine w_mv (ev (.int .i64 ((n : Nat) : Int)) s1_6 rfl) ?_
  refine w_mv (ev (.int .i64 ((q : Nat) : Int)) s1_1 rfl) ?_
  refine w_val (y_bin (ev (.int .i64 ((n : Nat) : Int)) rfl rfl) (ev (.int .i64 ((q : Nat) : Int)) rfl rfl) b_leq) ?_
  refine nt ?_
  refine c_if (p := ((n : Nat) : Int) ≤ ((q : Nat) : Int)) (ev (.bool (decide (((n : Nat) : Int) ≤ ((q : Nat) : Int)))) rfl rfl) (fun hc7 => ?_) (fun hc7 => ?_)
  ·skip
   refine wp_skip ?_
   refine then_n ?_
   refine wp_seq ?_
   refine wp_block ?_
   refine sr ?_
   refine w_mv (ev (.string (str s)) s1_0 rfl) ?_
   refine w_mv (ev (.string (str s)) s1_0 rfl) ?_
   refine w_val (y_len (ev (.string (str s)) rfl rfl) Try.underlying9) ?_
   refine w_mv (ev (.int .i64 ((n : Nat) : Int)) s1_6 rfl) ?_
   refine w_val (y_bin (ev (.int .i64 ((s.length : Nat) : Int)) rfl rfl) (ev (.int .i64 ((n : Nat) : Int)) rfl rfl) (b_sub (by omega))) ?_
   refine w_val (v := .string (str (s.take (s.length - n)))) (y_sls (ev (.string (str s)) rfl rfl) evo.no (evo.s (ev (.int .i64 (((s.length : Nat) : Int) - ((n : Nat) : Int))) rfl rfl)) Try.underlying9 (bnd_h (h := (s.length - n)) (by omega) (by omega))) ?_
   refine w_mv (ev (.int .i64 ((q : Nat) : Int)) s1_1 rfl) ?_
   refine w_call (Try.func20) (by kernel_rfl) rfl (m2 (ev (.string (str (s.take (s.length - n)))) rfl rfl) (ev (.int .i64 ((q : Nat) : Int)) rfl rfl)) (refPad_y (s.take (s.length - n)) q h1 h255 (by rw [List.length_take]; omega) w6) ?_
   rintro _ w8 ⟨rfl, hb9⟩
   refine ⟨_, rfl, ?_⟩
   replace hk := thenB hk hb9
   refine w_mv (ev (.tuple #[.string (str (Cb.pad (s.take (s.length - n)) q)), .int .i64 0]) rfl rfl) ?_
   refine w_val (y_ext (v := .string (str (Cb.pad (s.take (s.length - n)) q))) (ev (.tuple #[.string (str (Cb.pad (s.take (s.length - n)) q)), .int .i64 0]) rfl rfl) rfl) ?_
   refine w_val (y_ext (v := .int .i64 0) (ev (.tuple #[.string (str (Cb.pad (s.take (s.length - n)) q)), .int .i64 0]) rfl rfl) rfl) ?_
   refine w_as (ev (.string (str (Cb.pad (s.take (s.length - n)) q))) rfl rfl) ?_
   refine w_as (ev (.int .i64 0) rfl rfl) ?_
   refine nt ?_
   refine sr ?_
   refine w_mv (ev (.string (str (Cb.pad (s.take (s.length - n)) q))) rfl rfl) ?_
   refine w_mv (ev (.string (str s)) s1_0 rfl) ?_
   refine w_val (y_bin (ev (.string (str (Cb.pad (s.take (s.length - n)) q))) rfl rfl) (ev (.string (str s)) rfl rfl) b_eqs) ?_
   refine nt ?_
   refine c_if (p := (Cb.pad (s.take (s.length - n)) q) = s) (ev (.bool (decide ((Cb.pad (s.take (s.length - n)) q) = s))) rfl rfl) (fun hc10 => ?_) (fun hc10 => ?_)
   ·skip
    refine wp_seq ?_
    have hpl := Cb.pad_last s q n hm i1_0 (by omega) (by omega) h255 (by assumption)
    refine wp_region_lit ?_
    refine w_mv (ev (.string (str s)) s1_0 rfl) ?_
    refine w_mv (ev (.string (str s)) s1_0 rfl) ?_
    refine w_val (y_len (ev (.string (str s)) rfl rfl) Try.underlying9) ?_
    refine w_mv (ev (.int .i64 ((n : Nat) : Int)) s1_6 rfl) ?_
    refine w_val (y_bin (ev (.int .i64 ((s.length : Nat) : Int)) rfl rfl) (ev (.int .i64 ((n : Nat) : Int)) rfl rfl) (b_sub (by omega))) ?_
    refine w_val (v := .string (str (s.take (s.length - n)))) (y_sls (ev (.string (str s)) rfl rfl) evo.no (evo.s (ev (.int .i64 (((s.length : Nat) : Int) - ((n : Nat) : Int))) rfl rfl)) Try.underlying9 (bnd_h (h := (s.length - n)) (by omega) (by omega))) ?_
    refine w_as (ev (.string (str (s.take (s.length - n)))) rfl rfl) ?_
    refine w_as (evc (.int .i64 0)) ?_
    refine nt ?_
    refine wp_ret ?_
    refine inb_r ?_
    refine then_r ?_
    refine then_r ?_
    refine inb_r ?_
    refine then_r ?_
    refine fin_ret2 rfl (ev (.string (str (s.take (s.length - n)))) rfl rfl) (ev (.int .i64 0) rfl rfl) ?_
    refine ⟨congrArg Ending.returned ?_, hk⟩
    show (.tuple #[.string (str (s.take (s.length - n))), .int .i64 0] : Value) = .tuple #[.string (str (s.take (s.length - Cb.last s))), .int .i64 0]
    rw [hpl.2]
   ·skip
    refine wp_skip ?_
    refine inb_n ?_
    refine then_n ?_
    refine wp_region_lit ?_
    refine w_mv (ev (.int .i64 ((n : Nat) : Int)) s1_6 rfl) ?_
    refine w_val (y_bin (ev (.int .i64 ((n : Nat) : Int)) rfl rfl) (evc (.int .i64 1)) (b_add (by omega))) ?_
    refine w_as (ev (.int .i64 (((n : Nat) : Int) + 1)) rfl rfl) ?_
    refine wpList_nil ?_
    have hne : n ≠ Cb.last s := by
      intro e
      have h := Cb.padded_pad s q hm hzl hp
      rw [← e] at h
      contradiction
    exact then_n ⟨_, (by omega), n + 1, rfl, _, rfl, iv, iv, s1_0, s1_1, (etv (b := .int .i64 (((n : Nat) : Int) + 1)) rfl), hk⟩
  ·skip
   refine wp_exit ?_
   refine then_x ?_
   refine then_x ?_
   refine inb_x ?_
   refine then_n ?_
   refine wp_seq ?_
   exfalso; omega

set_option maxRecDepth 100000 in
set_option maxHeartbeats 1000000 in
theorem refUnpad_n (s : List (BitVec 8)) (q : Nat) (h1 : 1 ≤ q) (h255 : q ≤ 255) (hs : s.length ≤ 1100000) (h0 : 0 < s.length) (hm : s.length % q = 0) (hp : ¬ Cb.Padded s q) (w0 : World) : Calls Try.prog 22 #[.string (str s), .int .i64 ((q : Nat) : Int)] w0 fun e w' => e = .returned (.tuple #[.string (str ([] : List (BitVec 8))), .int .i64 7]) ∧ Below w0.heap.size w0 w' := by
 have hzl : q ≤ s.length := Nat.le_of_dvd h0 (Nat.dvd_of_mod_eq_zero hm)
 have hl8 : Cb.last s < 256 := (gb s (s.length - 1)).isLt
 refine enter (n := 50) Try.func22 rfl rfl rfl ?_
 have hk : Below w0.heap.size w0 w0 := Below.refl _ _
 refine sr ?_
 refine w_as (evc (.string (str ([] : List (BitVec 8))))) ?_
 refine w_as (evc (.int .i64 0)) ?_
 refine nt ?_
 refine wp_seq ?_
 refine sr ?_
 refine w_mv (ev (.int .i64 ((q : Nat) : Int)) rfl rfl) ?_
 refine w_val (y_bin (ev (.int .i64 ((q : Nat) : Int)) rfl rfl) (evc (.int .i64 1)) b_lss) ?_
 refine w_mv (ev (.bool (decide (((q : Nat) : Int) < 1))) rfl rfl) ?_
 have hc1 : ¬ (((q : Nat) : Int) < 1) := by omega
 refine w_val_g (v := .int .i64 ((q : Nat) : Int)) (want_yes (j := 2) rfl rfl (ev (.bool false) (Eq.trans (b := .bool (decide (((q : Nat) : Int) < 1))) rfl (by rw [decide_eq_false hc1])) rfl) rfl) (y_mv (ev (.int .i64 ((q : Nat) : Int)) rfl rfl)) ?_
 refine w_val_g (want_yes (j := 2) rfl rfl (ev (.bool false) (Eq.trans (b := .bool (decide (((q : Nat) : Int) < 1))) rfl (by rw [decide_eq_false hc1])) rfl) rfl) (y_bin (ev (.int .i64 ((q : Nat) : Int)) rfl rfl) (evc (.int .i64 255)) b_gtr) ?_
 refine w_val (y_pick_f (ev (.bool false) (Eq.trans (b := .bool (decide (((q : Nat) : Int) < 1))) rfl (by rw [decide_eq_false hc1])) rfl) (ev (.bool (decide (255 < ((q : Nat) : Int)))) rfl rfl)) ?_
 refine nt ?_
 have hc2 : ¬ (255 < ((q : Nat) : Int)) := by omega
 refine c_f (p := 255 < ((q : Nat) : Int)) (ev (.bool (decide (255 < ((q : Nat) : Int)))) rfl rfl) hc2 ?_
 refine wp_skip ?_
 refine then_n ?_
 refine wp_seq ?_
 refine sr ?_
 refine w_mv (ev (.string (str s)) rfl rfl) ?_
 refine w_val (y_len (ev (.string (str s)) rfl rfl) Try.underlying9) ?_
 refine w_val (y_bin (ev (.int .i64 ((s.length : Nat) : Int)) rfl rfl) (evc (.int .i64 0)) b_eql) ?_
 refine w_mv (ev (.bool (decide (((s.length : Nat) : Int) = 0))) rfl rfl) ?_
 have hc3 : ¬ (((s.length : Nat) : Int) = 0) := by omega
 refine w_val_g (v := .string (str s)) (want_yes (j := 3) rfl rfl (ev (.bool false) (Eq.trans (b := .bool (decide (((s.length : Nat) : Int) = 0))) rfl (by rw [decide_eq_false hc3])) rfl) rfl) (y_mv (ev (.string (str s)) rfl rfl)) ?_
 refine w_val_g (want_yes (j := 3) rfl rfl (ev (.bool false) (Eq.trans (b := .bool (decide (((s.length : Nat) : Int) = 0))) rfl (by rw [decide_eq_false hc3])) rfl) rfl) (y_len (ev (.string (str s)) rfl rfl) Try.underlying9) ?_
 refine w_val_g (v := .int .i64 ((q : Nat) : Int)) (want_yes (j := 3) rfl rfl (ev (.bool false) (Eq.trans (b := .bool (decide (((s.length : Nat) : Int) = 0))) rfl (by rw [decide_eq_false hc3])) rfl) rfl) (y_mv (ev (.int .i64 ((q : Nat) : Int)) rfl rfl)) ?_
 refine w_val_g (want_yes (j := 3) rfl rfl (ev (.bool false) (Eq.trans (b := .bool (decide (((s.length : Nat) : Int) = 0))) rfl (by rw [decide_eq_false hc3])) rfl) rfl) (y_bin (ev (.int .i64 ((s.length : Nat) : Int)) rfl rfl) (ev (.int .i64 ((q : Nat) : Int)) rfl rfl) (b_rem (by omega))) ?_
 refine w_val_g (want_yes (j := 3) rfl rfl (ev (.bool false) (Eq.trans (b := .bool (decide (((s.length : Nat) : Int) = 0))) rfl (by rw [decide_eq_false hc3])) rfl) rfl) (y_bin (ev (.int .i64 (((s.length : Nat) : Int) % ((q : Nat) : Int))) rfl rfl) (evc (.int .i64 0)) b_neq) ?_
 refine w_val (y_pick_f (ev (.bool false) (Eq.trans (b := .bool (decide (((s.length : Nat) : Int) = 0))) rfl (by rw [decide_eq_false hc3])) rfl) (ev (.bool (decide ((((s.length : Nat) : Int) % ((q : Nat) : Int)) ≠ 0))) rfl rfl)) ?_
 refine nt ?_
 have hc4 : ¬ ((((s.length : Nat) : Int) % ((q : Nat) : Int)) ≠ 0) := by omega
 refine c_f (p := (((s.length : Nat) : Int) % ((q : Nat) : Int)) ≠ 0) (ev (.bool (decide ((((s.length : Nat) : Int) % ((q : Nat) : Int)) ≠ 0))) rfl rfl) hc4 ?_
 refine wp_skip ?_
 refine then_n ?_
 refine wp_seq ?_
 refine sr ?_
 refine w_as (evc (.int .i64 1)) ?_
 refine nt ?_
 refine wp_block ?_
 refine c_loop (fun dN aN wl => ∃ (n : Nat), dN = (q + 1 - n) ∧ ∃ f5, aN = fr 50 f5 ∧ (1 ≤ n) ∧ (n ≤ q + 1) ∧ f5 0 = .string (str s) ∧ f5 1 = .int .i64 ((q : Nat) : Int) ∧ f5 6 = .int .i64 ((n : Nat) : Int) ∧ Below w0.heap.size w0 wl) (q + 1 - 1) ?_ ?_
 · exact ⟨1, rfl, _, rfl, iv, iv, rfl, rfl, (etv (b := .int .i64 1) rfl), hk⟩
 ·skip
  clear hk
  rintro _ _ w6 ⟨n, rfl, f5, rfl, i1_0, i1_1, s1_0, s1_1, s1_6, hk⟩
  refine wp_seq ?_
  refine sr ?_
  refine w_mv (ev (.int .i64 ((n : Nat) : Int)) s1_6 rfl) ?_
  refine w_mv (ev (.int .i64 ((q : Nat) : Int)) s1_1 rfl) ?_
  refine w_val (y_bin (ev (.int .i64 ((n : Nat) : Int)) rfl rfl) (ev (.int .i64 ((q : Nat) : Int)) rfl rfl) b_leq) ?_
  refine nt ?_
  refine c_if (p := ((n : Nat) : Int) ≤ ((q : Nat) : Int)) (ev (.bool (decide (((n : Nat) : Int) ≤ ((q : Nat) : Int)))) rfl rfl) (fun hc7 => ?_) (fun hc7 => ?_)
  ·skip
   refine wp_skip ?_
   refine then_n ?_
   refine wp_seq ?_
   refine wp_block ?_
   refine sr ?_
   refine w_mv (ev (.string (str s)) s1_0 rfl) ?_
   refine w_mv (ev (.string (str s)) s1_0 rfl) ?_
   refine w_val (y_len (ev (.string (str s)) rfl rfl) Try.underlying9) ?_
   refine w_mv (ev (.int .i64 ((n : Nat) : Int)) s1_6 rfl) ?_
   refine w_val (y_bin (ev (.int .i64 ((s.length : Nat) : Int)) rfl rfl) (ev (.int .i64 ((n : Nat) : Int)) rfl rfl) (b_sub (by omega))) ?_
   refine w_val (v := .string (str (s.take (s.length - n)))) (y_sls (ev (.string (str s)) rfl rfl) evo.no (evo.s (ev (.int .i64 (((s.length : Nat) : Int) - ((n : Nat) : Int))) rfl rfl)) Try.underlying9 (bnd_h (h := (s.length - n)) (by omega) (by omega))) ?_
   refine w_mv (ev (.int .i64 ((q : Nat) : Int)) s1_1 rfl) ?_
   refine w_call (Try.func20) (by kernel_rfl) rfl (m2 (ev (.string (str (s.take (s.length - n)))) rfl rfl) (ev (.int .i64 ((q : Nat) : Int)) rfl rfl)) (refPad_y (s.take (s.length - n)) q h1 h255 (by rw [List.length_take]; omega) w6) ?_
   rintro _ w8 ⟨rfl, hb9⟩
   refine ⟨_, rfl, ?_⟩
   replace hk := thenB hk hb9
   refine w_mv (ev (.tuple #[.string (str (Cb.pad (s.take (s.length - n)) q)), .int .i64 0]) rfl rfl) ?_
   refine w_val (y_ext (v := .string (str (Cb.pad (s.take (s.length - n)) q))) (ev (.tuple #[.string (str (Cb.pad (s.take (s.length - n)) q)), .int .i64 0]) rfl rfl) rfl) ?_
   refine w_val (y_ext (v := .int .i64 0) (ev (.tuple #[.string (str (Cb.pad (s.take (s.length - n)) q)), .int .i64 0]) rfl rfl) rfl) ?_
   refine w_as (ev (.string (str (Cb.pad (s.take (s.length - n)) q))) rfl rfl) ?_
   refine w_as (ev (.int .i64 0) rfl rfl) ?_
   refine nt ?_
   refine sr ?_
   refine w_mv (ev (.string (str (Cb.pad (s.take (s.length - n)) q))) rfl rfl) ?_
   refine w_mv (ev (.string (str s)) s1_0 rfl) ?_
   refine w_val (y_bin (ev (.string (str (Cb.pad (s.take (s.length - n)) q))) rfl rfl) (ev (.string (str s)) rfl rfl) b_eqs) ?_
   refine nt ?_
   refine c_if (p := (Cb.pad (s.take (s.length - n)) q) = s) (ev (.bool (decide ((Cb.pad (s.take (s.length - n)) q) = s))) rfl rfl) (fun hc10 => ?_) (fun hc10 => ?_)
   ·skip
    refine wp_seq ?_
    have hpl := Cb.pad_last s q n hm i1_0 (by omega) (by omega) h255 (by assumption)
    exact absurd hpl.1 hp
   ·skip
    refine wp_skip ?_
    refine inb_n ?_
    refine then_n ?_
    refine wp_region_lit ?_
    refine w_mv (ev (.int .i64 ((n : Nat) : Int)) s1_6 rfl) ?_
    refine w_val (y_bin (ev (.int .i64 ((n : Nat) : Int)) rfl rfl) (evc (.int .i64 1)) (b_add (by omega))) ?_
    refine w_as (ev (.int .i64 (((n : Nat) : Int) + 1)) rfl rfl) ?_
    refine wpList_nil ?_
    exact then_n ⟨_, (by omega), n + 1, rfl, _, rfl, iv, iv, s1_0, s1_1, (etv (b := .int .i64 (((n : Nat) : Int) + 1)) rfl), hk⟩
  ·skip
   refine wp_exit ?_
   refine then_x ?_
   refine then_x ?_
   refine inb_x ?_
   refine then_n ?_
   refine sr ?_
   refine w_as (evc (.string (str ([] : List (BitVec 8))))) ?_
   refine w_as (evc (.int .i64 7)) ?_
   refine nt ?_
   refine wp_ret ?_
   refine fin_ret2 rfl (ev (.string (str ([] : List (BitVec 8)))) rfl rfl) (ev (.int .i64 7) rfl rfl) ?_
   exact ⟨rfl, hk⟩
end Go.Proofs.Ytjdcpejcnmpiaaa
