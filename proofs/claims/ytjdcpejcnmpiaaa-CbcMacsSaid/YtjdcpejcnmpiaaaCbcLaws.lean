/-
  The laws of cbc answer true. No conditions.
-/
import Derived.Test.YtjdcpejcnmpiaaaRows
import Derived.Test.YtjdcpejcnmpiaaaCbcE
import Derived.Test.YtjdcpejcnmpiaaaCbcF
import Derived.ProofKit
namespace Go.Proofs.Ytjdcpejcnmpiaaa
open Go.RowKit
set_option linter.unusedSimpArgs false
set_option linter.unusedVariables false
namespace CbcLawsT
theorem mixed : Try.prog.follows .mixedOrders = true := by kernel_rfl
end CbcLawsT
theorem unchainBack (key vi : List (BitVec 8)) (hok : Aes.okKey key.length) (hiv : vi.length = 16) (text : List (BitVec 8)) (ht : text.length % 16 = 0) (hl : text.length ≤ 70016) (w0 : World) : Calls Try.prog 26 #[.string (str key), .string (str vi), .string (str (Cb.chain key vi text))] w0 fun e w' => e = .returned (.tuple #[.string (str text), .int .i64 0]) ∧ Below w0.heap.size w0 w' := by
  have h := unchain_y key vi hok hiv (Cb.chain key vi text) (by rw [Cb.chain_len]; exact ht) (by rw [Cb.chain_len]; exact hl) w0
  rwa [Cb.unchain_chain key vi text hok hiv ht] at h
theorem openBack (key vi : List (BitVec 8)) (hok : Aes.okKey key.length) (hiv : vi.length = 16) (text : List (BitVec 8)) (hz : text.length ≤ 70000) (w0 : World) : Calls Try.prog 30 #[.string (str key), .string (str vi), .string (str (Cb.chain key vi (Cb.pad text 16)))] w0 fun e w' => e = .returned (.tuple #[.string (str text), .int .i64 0]) ∧ Below w0.heap.size w0 w' := by
  have hm := Cb.pn_mod text.length 16 (by omega)
  have hp := Cb.pn_pos text.length 16 (by omega)
  have hq := Cb.pn_le text.length 16
  have hl := Cb.pad_len text 16
  obtain ⟨h1, h2⟩ := Cb.pad_padded text 16 (by omega) (by omega)
  have hu := Cb.unchain_chain key vi (Cb.pad text 16) hok hiv (by omega)
  have h := open_p key vi hok hiv (Cb.chain key vi (Cb.pad text 16)) (by rw [Cb.chain_len]; omega) (by rw [Cb.chain_len]; omega) (by rw [Cb.chain_len]; omega) (by rw [hu]; exact h1) w0
  rw [hu, h2, Cb.pad_take] at h
  exact h
theorem unpadBack (s : List (BitVec 8)) (q : Nat) (h1 : 1 ≤ q) (h255 : q ≤ 255) (hs : s.length ≤ 1048576) (w0 : World) : Calls Try.prog 21 #[.string (str (Cb.pad s q)), .int .i64 ((q : Nat) : Int)] w0 fun e w' => e = .returned (.tuple #[.string (str s), .int .i64 0]) ∧ Below w0.heap.size w0 w' := by
  have hm := Cb.pn_mod s.length q (by omega)
  have hp := Cb.pn_pos s.length q (by omega)
  have hq := Cb.pn_le s.length q
  have hl := Cb.pad_len s q
  obtain ⟨h3, h2⟩ := Cb.pad_padded s q h1 h255
  have h := unpad_y (Cb.pad s q) q h1 h255 (by omega) (by omega) (by rw [hl]; exact hm) h3 w0
  rw [h2, Cb.pad_take] at h
  exact h

set_option maxRecDepth 100000 in
set_option maxHeartbeats 1000000 in
theorem cbcWakes_c  (w0 : World) : Calls Try.prog 18 #[] w0 fun e w' => e = .returned (.bool true) ∧ Below w0.heap.size w0 w' := by
 refine enter (n := 29) Try.func18 rfl rfl rfl ?_
 have hk : Below w0.heap.size w0 w0 := Below.refl _ _
 refine sr ?_
 refine w_as (evc (.bool false)) ?_
 refine nt ?_
 refine sr ?_
 refine w_call (Try.func28) (by kernel_rfl) rfl (m3 (evc (.string (str Cb.wk))) (evc (.string (str Cb.wv))) (evc (.string (str Cb.wt)))) (seal_y Cb.wk Cb.wv (Or.inl rfl) rfl Cb.wt (by decide) w0) ?_
 rintro _ w1 ⟨rfl, hb2⟩
 refine ⟨_, rfl, ?_⟩
 replace hk := thenB hk hb2
 refine w_mv (ev (.tuple #[.string (str (Cb.chain Cb.wk Cb.wv (Cb.pad Cb.wt 16))), .int .i64 0]) rfl rfl) ?_
 refine w_val (y_ext (v := .string (str (Cb.chain Cb.wk Cb.wv (Cb.pad Cb.wt 16)))) (ev (.tuple #[.string (str (Cb.chain Cb.wk Cb.wv (Cb.pad Cb.wt 16))), .int .i64 0]) rfl rfl) rfl) ?_
 refine w_val (y_ext (v := .int .i64 0) (ev (.tuple #[.string (str (Cb.chain Cb.wk Cb.wv (Cb.pad Cb.wt 16))), .int .i64 0]) rfl rfl) rfl) ?_
 refine w_as (ev (.string (str (Cb.chain Cb.wk Cb.wv (Cb.pad Cb.wt 16)))) rfl rfl) ?_
 refine w_as (ev (.int .i64 0) rfl rfl) ?_
 refine nt ?_
 refine sr ?_
 refine w_mv (ev (.string (str (Cb.chain Cb.wk Cb.wv (Cb.pad Cb.wt 16)))) rfl rfl) ?_
 refine w_call (Try.func30) (by kernel_rfl) rfl (m3 (evc (.string (str Cb.wk))) (evc (.string (str Cb.wv))) (ev (.string (str (Cb.chain Cb.wk Cb.wv (Cb.pad Cb.wt 16)))) rfl rfl)) (openBack Cb.wk Cb.wv (Or.inl rfl) rfl Cb.wt (by decide) w1) ?_
 rintro _ w3 ⟨rfl, hb4⟩
 refine ⟨_, rfl, ?_⟩
 replace hk := thenB hk hb4
 refine w_mv (ev (.tuple #[.string (str Cb.wt), .int .i64 0]) rfl rfl) ?_
 refine w_val (y_ext (v := .string (str Cb.wt)) (ev (.tuple #[.string (str Cb.wt), .int .i64 0]) rfl rfl) rfl) ?_
 refine w_val (y_ext (v := .int .i64 0) (ev (.tuple #[.string (str Cb.wt), .int .i64 0]) rfl rfl) rfl) ?_
 refine w_as (ev (.string (str Cb.wt)) rfl rfl) ?_
 refine w_as (ev (.int .i64 0) rfl rfl) ?_
 refine nt ?_
 refine sr ?_
 refine w_mv (ev (.int .i64 0) rfl rfl) ?_
 refine w_val (y_bin (ev (.int .i64 0) rfl rfl) (evc (.int .i64 0)) b_eql) ?_
 refine w_mv (ev (.bool true) rfl rfl) ?_
 refine w_val_g (v := .int .i64 0) (want_yes (j := 2) rfl rfl (ev (.bool true) rfl rfl) rfl) (y_mv (ev (.int .i64 0) rfl rfl)) ?_
 refine w_val_g (want_yes (j := 2) rfl rfl (ev (.bool true) rfl rfl) rfl) (y_bin (ev (.int .i64 0) rfl rfl) (evc (.int .i64 0)) b_eql) ?_
 refine w_val (y_pick_t (ev (.bool true) rfl rfl) (ev (.bool true) rfl rfl)) ?_
 refine w_mv (ev (.bool true) rfl rfl) ?_
 refine w_val_g (v := .string (str (Cb.chain Cb.wk Cb.wv (Cb.pad Cb.wt 16)))) (want_yes (j := 6) rfl rfl (ev (.bool true) rfl rfl) rfl) (y_mv (ev (.string (str (Cb.chain Cb.wk Cb.wv (Cb.pad Cb.wt 16)))) rfl rfl)) ?_
 refine w_val_g (want_yes (j := 6) rfl rfl (ev (.bool true) rfl rfl) rfl) (y_len (ev (.string (str (Cb.chain Cb.wk Cb.wv (Cb.pad Cb.wt 16)))) rfl rfl) Try.underlying9) ?_
 refine w_val_g (want_yes (j := 6) rfl rfl (ev (.bool true) rfl rfl) rfl) (y_bin (ev (.int .i64 (((Cb.chain Cb.wk Cb.wv (Cb.pad Cb.wt 16)).length : Nat) : Int)) rfl rfl) (evc (.int .i64 16)) b_eql) ?_
 refine w_val (y_pick_t (ev (.bool true) rfl rfl) (ev (.bool (decide ((((Cb.chain Cb.wk Cb.wv (Cb.pad Cb.wt 16)).length : Nat) : Int) = 16))) rfl rfl)) ?_
 refine w_mv (ev (.bool (decide ((((Cb.chain Cb.wk Cb.wv (Cb.pad Cb.wt 16)).length : Nat) : Int) = 16))) rfl rfl) ?_
 have hc5 : (((Cb.chain Cb.wk Cb.wv (Cb.pad Cb.wt 16)).length : Nat) : Int) = 16 := by rw [Cb.chain_len]; rfl
 refine w_val_g (v := .string (str Cb.wt)) (want_yes (j := 11) rfl rfl (ev (.bool true) (Eq.trans (b := .bool (decide ((((Cb.chain Cb.wk Cb.wv (Cb.pad Cb.wt 16)).length : Nat) : Int) = 16))) rfl (by rw [decide_eq_true hc5])) rfl) rfl) (y_mv (ev (.string (str Cb.wt)) rfl rfl)) ?_
 refine w_val_g (want_yes (j := 11) rfl rfl (ev (.bool true) (Eq.trans (b := .bool (decide ((((Cb.chain Cb.wk Cb.wv (Cb.pad Cb.wt 16)).length : Nat) : Int) = 16))) rfl (by rw [decide_eq_true hc5])) rfl) rfl) (y_bin (ev (.string (str Cb.wt)) rfl rfl) (evc (.string (str Cb.wt))) b_eqs_same) ?_
 refine w_val (y_pick_t (ev (.bool true) (Eq.trans (b := .bool (decide ((((Cb.chain Cb.wk Cb.wv (Cb.pad Cb.wt 16)).length : Nat) : Int) = 16))) rfl (by rw [decide_eq_true hc5])) rfl) (ev (.bool true) rfl rfl)) ?_
 refine w_as (ev (.bool true) rfl rfl) ?_
 refine nt ?_
 refine wp_ret ?_
 refine fin_ret1 rfl (ev (.bool true) rfl rfl) ?_
 exact ⟨rfl, hk⟩

set_option maxRecDepth 100000 in
set_option maxHeartbeats 1000000 in
theorem long_t (s : List (BitVec 8)) (h : 3000 < s.length ∧ s.length ≤ 140000) (w0 : World) : Calls Try.prog 23 #[.string (str s)] w0 fun e w' => e = .returned (.bool true) ∧ Below w0.heap.size w0 w' := by
 refine enter (n := 11) Try.func23 rfl rfl rfl ?_
 have hk : Below w0.heap.size w0 w0 := Below.refl _ _
 refine sr ?_
 refine w_as (evc (.bool false)) ?_
 refine nt ?_
 refine sr ?_
 refine w_mv (ev (.string (str s)) rfl rfl) ?_
 refine w_val (y_len (ev (.string (str s)) rfl rfl) Try.underlying9) ?_
 refine w_val (y_bin (ev (.int .i64 ((s.length : Nat) : Int)) rfl rfl) (evc (.int .i64 3000)) b_gtr) ?_
 refine w_mv (ev (.bool (decide (3000 < ((s.length : Nat) : Int)))) rfl rfl) ?_
 have hc1 : 3000 < ((s.length : Nat) : Int) := by omega
 refine w_val_g (v := .string (str s)) (want_yes (j := 3) rfl rfl (ev (.bool true) (Eq.trans (b := .bool (decide (3000 < ((s.length : Nat) : Int)))) rfl (by rw [decide_eq_true hc1])) rfl) rfl) (y_mv (ev (.string (str s)) rfl rfl)) ?_
 refine w_val_g (want_yes (j := 3) rfl rfl (ev (.bool true) (Eq.trans (b := .bool (decide (3000 < ((s.length : Nat) : Int)))) rfl (by rw [decide_eq_true hc1])) rfl) rfl) (y_len (ev (.string (str s)) rfl rfl) Try.underlying9) ?_
 refine w_val_g (want_yes (j := 3) rfl rfl (ev (.bool true) (Eq.trans (b := .bool (decide (3000 < ((s.length : Nat) : Int)))) rfl (by rw [decide_eq_true hc1])) rfl) rfl) (y_bin (ev (.int .i64 ((s.length : Nat) : Int)) rfl rfl) (evc (.int .i64 140000)) b_leq) ?_
 refine w_val (y_pick_t (ev (.bool true) (Eq.trans (b := .bool (decide (3000 < ((s.length : Nat) : Int)))) rfl (by rw [decide_eq_true hc1])) rfl) (ev (.bool (decide (((s.length : Nat) : Int) ≤ 140000))) rfl rfl)) ?_
 refine w_as (ev (.bool (decide (((s.length : Nat) : Int) ≤ 140000))) rfl rfl) ?_
 refine nt ?_
 refine wp_ret ?_
 have hc2 : ((s.length : Nat) : Int) ≤ 140000 := by omega
 refine fin_ret1 rfl (ev (.bool true) (Eq.trans (b := .bool (decide (((s.length : Nat) : Int) ≤ 140000))) rfl (by rw [decide_eq_true hc2])) rfl) ?_
 exact ⟨rfl, hk⟩

set_option maxRecDepth 100000 in
set_option maxHeartbeats 1000000 in
theorem long_f (s : List (BitVec 8)) (h : ¬ (3000 < s.length ∧ s.length ≤ 140000)) (w0 : World) : Calls Try.prog 23 #[.string (str s)] w0 fun e w' => e = .returned (.bool false) ∧ Below w0.heap.size w0 w' := by
 refine enter (n := 11) Try.func23 rfl rfl rfl ?_
 have hk : Below w0.heap.size w0 w0 := Below.refl _ _
 refine sr ?_
 refine w_as (evc (.bool false)) ?_
 refine nt ?_
 refine sr ?_
 refine w_mv (ev (.string (str s)) rfl rfl) ?_
 refine w_val (y_len (ev (.string (str s)) rfl rfl) Try.underlying9) ?_
 refine w_val (y_bin (ev (.int .i64 ((s.length : Nat) : Int)) rfl rfl) (evc (.int .i64 3000)) b_gtr) ?_
 refine w_mv (ev (.bool (decide (3000 < ((s.length : Nat) : Int)))) rfl rfl) ?_
 by_cases hc1 : 3000 < ((s.length : Nat) : Int)
 ·skip
  refine w_val_g (v := .string (str s)) (want_yes (j := 3) rfl rfl (ev (.bool true) (Eq.trans (b := .bool (decide (3000 < ((s.length : Nat) : Int)))) rfl (by rw [decide_eq_true hc1])) rfl) rfl) (y_mv (ev (.string (str s)) rfl rfl)) ?_
  refine w_val_g (want_yes (j := 3) rfl rfl (ev (.bool true) (Eq.trans (b := .bool (decide (3000 < ((s.length : Nat) : Int)))) rfl (by rw [decide_eq_true hc1])) rfl) rfl) (y_len (ev (.string (str s)) rfl rfl) Try.underlying9) ?_
  refine w_val_g (want_yes (j := 3) rfl rfl (ev (.bool true) (Eq.trans (b := .bool (decide (3000 < ((s.length : Nat) : Int)))) rfl (by rw [decide_eq_true hc1])) rfl) rfl) (y_bin (ev (.int .i64 ((s.length : Nat) : Int)) rfl rfl) (evc (.int .i64 140000)) b_leq) ?_
  refine w_val (y_pick_t (ev (.bool true) (Eq.trans (b := .bool (decide (3000 < ((s.length : Nat) : Int)))) rfl (by rw [decide_eq_true hc1])) rfl) (ev (.bool (decide (((s.length : Nat) : Int) ≤ 140000))) rfl rfl)) ?_
  refine w_as (ev (.bool (decide (((s.length : Nat) : Int) ≤ 140000))) rfl rfl) ?_
  refine nt ?_
  refine wp_ret ?_
  have hc2 : ¬ (((s.length : Nat) : Int) ≤ 140000) := by omega
  refine fin_ret1 rfl (ev (.bool false) (Eq.trans (b := .bool (decide (((s.length : Nat) : Int) ≤ 140000))) rfl (by rw [decide_eq_false hc2])) rfl) ?_
  exact ⟨rfl, hk⟩
 ·skip
  first | with_reducible refine w_skip ?_ ?_ | refine w_skip ?_ ?_
  · exact want_no (j := 3) rfl rfl (ev (.bool false) (Eq.trans (b := .bool (decide (3000 < ((s.length : Nat) : Int)))) rfl (by rw [decide_eq_false hc1])) rfl) rfl
  first | with_reducible refine w_skip ?_ ?_ | refine w_skip ?_ ?_
  · exact want_no (j := 3) rfl rfl (ev (.bool false) (Eq.trans (b := .bool (decide (3000 < ((s.length : Nat) : Int)))) rfl (by rw [decide_eq_false hc1])) rfl) rfl
  first | with_reducible refine w_skip ?_ ?_ | refine w_skip ?_ ?_
  · exact want_no (j := 3) rfl rfl (ev (.bool false) (Eq.trans (b := .bool (decide (3000 < ((s.length : Nat) : Int)))) rfl (by rw [decide_eq_false hc1])) rfl) rfl
  refine w_val (y_pick_f (ev (.bool false) (Eq.trans (b := .bool (decide (3000 < ((s.length : Nat) : Int)))) rfl (by rw [decide_eq_false hc1])) rfl) (evc (.bool false))) ?_
  refine w_as (ev (.bool false) rfl rfl) ?_
  refine nt ?_
  refine wp_ret ?_
  refine fin_ret1 rfl (ev (.bool false) rfl rfl) ?_
  exact ⟨rfl, hk⟩

set_option maxRecDepth 100000 in
set_option maxHeartbeats 1000000 in
theorem cbcPads_a (s : List (BitVec 8)) (q : Int) (hq : ¬ (1 ≤ q ∧ q ≤ 255)) (hs : s.length ≤ 1048576) (w0 : World) : Calls Try.prog 3 #[.string (str s), .int .i64 q] w0 fun e w' => e = .returned (.bool true) ∧ Below w0.heap.size w0 w' := by
 refine enter (n := 79) Try.func3 rfl rfl rfl ?_
 have hk : Below w0.heap.size w0 w0 := Below.refl _ _
 refine sr ?_
 refine w_as (evc (.bool false)) ?_
 refine nt ?_
 refine wp_seq ?_
 refine sr ?_
 refine w_call (Try.func18) (by kernel_rfl) rfl m0 (cbcWakes_c  w0) ?_
 rintro _ w1 ⟨rfl, hb2⟩
 refine ⟨_, rfl, ?_⟩
 replace hk := thenB hk hb2
 refine w_val (y_not (ev (.bool true) rfl rfl)) ?_
 refine nt ?_
 refine c_ff (ev (.bool false) rfl rfl) ?_
 refine wp_skip ?_
 refine then_n ?_
 refine wp_seq ?_
 refine sr ?_
 refine w_mv (ev (.string (str s)) rfl rfl) ?_
 refine w_val (y_len (ev (.string (str s)) rfl rfl) Try.underlying9) ?_
 refine w_val (y_bin (ev (.int .i64 ((s.length : Nat) : Int)) rfl rfl) (evc (.int .i64 1048576)) b_gtr) ?_
 refine nt ?_
 have hc3 : ¬ (1048576 < ((s.length : Nat) : Int)) := by omega
 refine c_f (p := 1048576 < ((s.length : Nat) : Int)) (ev (.bool (decide (1048576 < ((s.length : Nat) : Int)))) rfl rfl) hc3 ?_
 refine wp_skip ?_
 refine then_n ?_
 refine sr ?_
 refine w_mv (ev (.string (str s)) rfl rfl) ?_
 refine w_mv (ev (.int .i64 q) rfl rfl) ?_
 refine w_call (Try.func19) (by kernel_rfl) rfl (m2 (ev (.string (str s)) rfl rfl) (ev (.int .i64 q) rfl rfl)) (pad_a s q hq w1) ?_
 rintro _ w4 ⟨rfl, hb5⟩
 refine ⟨_, rfl, ?_⟩
 replace hk := thenB hk hb5
 refine w_mv (ev (.tuple #[.string (str ([] : List (BitVec 8))), .int .i64 2]) rfl rfl) ?_
 refine w_val (y_ext (v := .string (str ([] : List (BitVec 8)))) (ev (.tuple #[.string (str ([] : List (BitVec 8))), .int .i64 2]) rfl rfl) rfl) ?_
 refine w_val (y_ext (v := .int .i64 2) (ev (.tuple #[.string (str ([] : List (BitVec 8))), .int .i64 2]) rfl rfl) rfl) ?_
 refine w_as (ev (.string (str ([] : List (BitVec 8)))) rfl rfl) ?_
 refine w_as (ev (.int .i64 2) rfl rfl) ?_
 refine nt ?_
 refine sr ?_
 refine w_mv (ev (.string (str s)) rfl rfl) ?_
 refine w_mv (ev (.int .i64 q) rfl rfl) ?_
 refine w_call (Try.func20) (by kernel_rfl) rfl (m2 (ev (.string (str s)) rfl rfl) (ev (.int .i64 q) rfl rfl)) (refPad_a s q hq w4) ?_
 rintro _ w6 ⟨rfl, hb7⟩
 refine ⟨_, rfl, ?_⟩
 replace hk := thenB hk hb7
 refine w_mv (ev (.tuple #[.string (str ([] : List (BitVec 8))), .int .i64 2]) rfl rfl) ?_
 refine w_val (y_ext (v := .string (str ([] : List (BitVec 8)))) (ev (.tuple #[.string (str ([] : List (BitVec 8))), .int .i64 2]) rfl rfl) rfl) ?_
 refine w_val (y_ext (v := .int .i64 2) (ev (.tuple #[.string (str ([] : List (BitVec 8))), .int .i64 2]) rfl rfl) rfl) ?_
 refine w_as (ev (.string (str ([] : List (BitVec 8)))) rfl rfl) ?_
 refine w_as (ev (.int .i64 2) rfl rfl) ?_
 refine nt ?_
 refine sr ?_
 refine w_mv (ev (.string (str s)) rfl rfl) ?_
 refine w_mv (ev (.int .i64 q) rfl rfl) ?_
 refine w_call (Try.func21) (by kernel_rfl) rfl (m2 (ev (.string (str s)) rfl rfl) (ev (.int .i64 q) rfl rfl)) (unpad_a s q hq w6) ?_
 rintro _ w8 ⟨rfl, hb9⟩
 refine ⟨_, rfl, ?_⟩
 replace hk := thenB hk hb9
 refine w_mv (ev (.tuple #[.string (str ([] : List (BitVec 8))), .int .i64 2]) rfl rfl) ?_
 refine w_val (y_ext (v := .string (str ([] : List (BitVec 8)))) (ev (.tuple #[.string (str ([] : List (BitVec 8))), .int .i64 2]) rfl rfl) rfl) ?_
 refine w_val (y_ext (v := .int .i64 2) (ev (.tuple #[.string (str ([] : List (BitVec 8))), .int .i64 2]) rfl rfl) rfl) ?_
 refine w_as (ev (.string (str ([] : List (BitVec 8)))) rfl rfl) ?_
 refine w_as (ev (.int .i64 2) rfl rfl) ?_
 refine nt ?_
 refine sr ?_
 refine w_mv (ev (.string (str s)) rfl rfl) ?_
 refine w_mv (ev (.int .i64 q) rfl rfl) ?_
 refine w_call (Try.func22) (by kernel_rfl) rfl (m2 (ev (.string (str s)) rfl rfl) (ev (.int .i64 q) rfl rfl)) (refUnpad_a s q hq w8) ?_
 rintro _ w10 ⟨rfl, hb11⟩
 refine ⟨_, rfl, ?_⟩
 replace hk := thenB hk hb11
 refine w_mv (ev (.tuple #[.string (str ([] : List (BitVec 8))), .int .i64 2]) rfl rfl) ?_
 refine w_val (y_ext (v := .string (str ([] : List (BitVec 8)))) (ev (.tuple #[.string (str ([] : List (BitVec 8))), .int .i64 2]) rfl rfl) rfl) ?_
 refine w_val (y_ext (v := .int .i64 2) (ev (.tuple #[.string (str ([] : List (BitVec 8))), .int .i64 2]) rfl rfl) rfl) ?_
 refine w_as (ev (.string (str ([] : List (BitVec 8)))) rfl rfl) ?_
 refine w_as (ev (.int .i64 2) rfl rfl) ?_
 refine nt ?_
 refine wp_seq ?_
 refine sr ?_
 refine w_mv (ev (.string (str ([] : List (BitVec 8)))) rfl rfl) ?_
 refine w_mv (ev (.string (str ([] : List (BitVec 8)))) rfl rfl) ?_
 refine w_val (y_bin (ev (.string (str ([] : List (BitVec 8)))) rfl rfl) (ev (.string (str ([] : List (BitVec 8)))) rfl rfl) b_nes_same) ?_
 refine w_mv (ev (.bool false) rfl rfl) ?_
 refine w_val_g (v := .int .i64 2) (want_yes (j := 3) rfl rfl (ev (.bool false) rfl rfl) rfl) (y_mv (ev (.int .i64 2) rfl rfl)) ?_
 refine w_val_g (v := .int .i64 2) (want_yes (j := 3) rfl rfl (ev (.bool false) rfl rfl) rfl) (y_mv (ev (.int .i64 2) rfl rfl)) ?_
 refine w_val_g (want_yes (j := 3) rfl rfl (ev (.bool false) rfl rfl) rfl) (y_bin (ev (.int .i64 2) rfl rfl) (ev (.int .i64 2) rfl rfl) b_neq) ?_
 refine w_val (y_pick_f (ev (.bool false) rfl rfl) (ev (.bool false) rfl rfl)) ?_
 refine w_mv (ev (.bool false) rfl rfl) ?_
 refine w_val_g (v := .string (str ([] : List (BitVec 8)))) (want_yes (j := 8) rfl rfl (ev (.bool false) rfl rfl) rfl) (y_mv (ev (.string (str ([] : List (BitVec 8)))) rfl rfl)) ?_
 refine w_val_g (v := .string (str ([] : List (BitVec 8)))) (want_yes (j := 8) rfl rfl (ev (.bool false) rfl rfl) rfl) (y_mv (ev (.string (str ([] : List (BitVec 8)))) rfl rfl)) ?_
 refine w_val_g (want_yes (j := 8) rfl rfl (ev (.bool false) rfl rfl) rfl) (y_bin (ev (.string (str ([] : List (BitVec 8)))) rfl rfl) (ev (.string (str ([] : List (BitVec 8)))) rfl rfl) b_nes_same) ?_
 refine w_val (y_pick_f (ev (.bool false) rfl rfl) (ev (.bool false) rfl rfl)) ?_
 refine w_mv (ev (.bool false) rfl rfl) ?_
 refine w_val_g (v := .int .i64 2) (want_yes (j := 13) rfl rfl (ev (.bool false) rfl rfl) rfl) (y_mv (ev (.int .i64 2) rfl rfl)) ?_
 refine w_val_g (v := .int .i64 2) (want_yes (j := 13) rfl rfl (ev (.bool false) rfl rfl) rfl) (y_mv (ev (.int .i64 2) rfl rfl)) ?_
 refine w_val_g (want_yes (j := 13) rfl rfl (ev (.bool false) rfl rfl) rfl) (y_bin (ev (.int .i64 2) rfl rfl) (ev (.int .i64 2) rfl rfl) b_neq) ?_
 refine w_val (y_pick_f (ev (.bool false) rfl rfl) (ev (.bool false) rfl rfl)) ?_
 refine nt ?_
 refine c_ff (ev (.bool false) rfl rfl) ?_
 refine wp_skip ?_
 refine then_n ?_
 refine sr ?_
 refine w_mv (ev (.string (str ([] : List (BitVec 8)))) rfl rfl) ?_
 refine w_mv (ev (.int .i64 q) rfl rfl) ?_
 refine w_call (Try.func21) (by kernel_rfl) rfl (m2 (ev (.string (str ([] : List (BitVec 8)))) rfl rfl) (ev (.int .i64 q) rfl rfl)) (unpad_a [] q hq w10) ?_
 rintro _ w12 ⟨rfl, hb13⟩
 refine ⟨_, rfl, ?_⟩
 replace hk := thenB hk hb13
 refine w_mv (ev (.tuple #[.string (str ([] : List (BitVec 8))), .int .i64 2]) rfl rfl) ?_
 refine w_val (y_ext (v := .string (str ([] : List (BitVec 8)))) (ev (.tuple #[.string (str ([] : List (BitVec 8))), .int .i64 2]) rfl rfl) rfl) ?_
 refine w_val (y_ext (v := .int .i64 2) (ev (.tuple #[.string (str ([] : List (BitVec 8))), .int .i64 2]) rfl rfl) rfl) ?_
 refine w_as (ev (.string (str ([] : List (BitVec 8)))) rfl rfl) ?_
 refine w_as (ev (.int .i64 2) rfl rfl) ?_
 refine nt ?_
 refine sr ?_
 refine w_mv (ev (.int .i64 2) rfl rfl) ?_
 refine w_val (y_bin (ev (.int .i64 2) rfl rfl) (evc (.int .i64 0)) b_neq) ?_
 refine w_mv (ev (.bool true) rfl rfl) ?_
 first | with_reducible refine w_skip ?_ ?_ | refine w_skip ?_ ?_
 · exact want_no (j := 2) rfl rfl (ev (.bool true) rfl rfl) rfl
 first | with_reducible refine w_skip ?_ ?_ | refine w_skip ?_ ?_
 · exact want_no (j := 2) rfl rfl (ev (.bool true) rfl rfl) rfl
 first | with_reducible refine w_skip ?_ ?_ | refine w_skip ?_ ?_
 · exact want_no (j := 2) rfl rfl (ev (.bool true) rfl rfl) rfl
 first | with_reducible refine w_skip ?_ ?_ | refine w_skip ?_ ?_
 · exact want_un (j := 5) rfl rfl (ev undef rfl rfl) rfl
 first | with_reducible refine w_skip ?_ ?_ | refine w_skip ?_ ?_
 · exact want_un (j := 5) rfl rfl (ev undef rfl rfl) rfl
 first | with_reducible refine w_skip ?_ ?_ | refine w_skip ?_ ?_
 · exact want_un (j := 5) rfl rfl (ev undef rfl rfl) rfl
 first | with_reducible refine w_skip ?_ ?_ | refine w_skip ?_ ?_
 · exact want_no (j := 2) rfl rfl (ev (.bool true) rfl rfl) rfl
 refine w_val (y_pick_t (ev (.bool true) rfl rfl) (evc (.bool true))) ?_
 refine w_as (ev (.bool true) rfl rfl) ?_
 refine nt ?_
 refine wp_ret ?_
 refine fin_ret1 rfl (ev (.bool true) rfl rfl) ?_
 exact ⟨rfl, hk⟩

set_option maxRecDepth 100000 in
set_option maxHeartbeats 1000000 in
theorem cbcPads_l (s : List (BitVec 8)) (q : Int) (hs : 1048576 < s.length) (w0 : World) : Calls Try.prog 3 #[.string (str s), .int .i64 q] w0 fun e w' => e = .returned (.bool true) ∧ Below w0.heap.size w0 w' := by
 refine enter (n := 79) Try.func3 rfl rfl rfl ?_
 have hk : Below w0.heap.size w0 w0 := Below.refl _ _
 refine sr ?_
 refine w_as (evc (.bool false)) ?_
 refine nt ?_
 refine wp_seq ?_
 refine sr ?_
 refine w_call (Try.func18) (by kernel_rfl) rfl m0 (cbcWakes_c  w0) ?_
 rintro _ w1 ⟨rfl, hb2⟩
 refine ⟨_, rfl, ?_⟩
 replace hk := thenB hk hb2
 refine w_val (y_not (ev (.bool true) rfl rfl)) ?_
 refine nt ?_
 refine c_ff (ev (.bool false) rfl rfl) ?_
 refine wp_skip ?_
 refine then_n ?_
 refine wp_seq ?_
 refine sr ?_
 refine w_mv (ev (.string (str s)) rfl rfl) ?_
 refine w_val (y_len (ev (.string (str s)) rfl rfl) Try.underlying9) ?_
 refine w_val (y_bin (ev (.int .i64 ((s.length : Nat) : Int)) rfl rfl) (evc (.int .i64 1048576)) b_gtr) ?_
 refine nt ?_
 have hc3 : 1048576 < ((s.length : Nat) : Int) := by omega
 refine c_t (p := 1048576 < ((s.length : Nat) : Int)) (ev (.bool (decide (1048576 < ((s.length : Nat) : Int)))) rfl rfl) hc3 ?_
 refine sr ?_
 refine w_as (evc (.bool true)) ?_
 refine nt ?_
 refine wp_ret ?_
 refine then_r ?_
 refine fin_ret1 rfl (ev (.bool true) rfl rfl) ?_
 exact ⟨rfl, hk⟩

set_option maxRecDepth 100000 in
set_option maxHeartbeats 1000000 in
theorem cbcPads_s (s : List (BitVec 8)) (q : Nat) (h1 : 1 ≤ q) (h255 : q ≤ 255) (hs : s.length ≤ 1048576) (hm : s.length = 0 ∨ s.length % q ≠ 0) (w0 : World) : Calls Try.prog 3 #[.string (str s), .int .i64 ((q : Nat) : Int)] w0 fun e w' => e = .returned (.bool true) ∧ Below w0.heap.size w0 w' := by
 refine enter (n := 79) Try.func3 rfl rfl rfl ?_
 have hk : Below w0.heap.size w0 w0 := Below.refl _ _
 refine sr ?_
 refine w_as (evc (.bool false)) ?_
 refine nt ?_
 refine wp_seq ?_
 refine sr ?_
 refine w_call (Try.func18) (by kernel_rfl) rfl m0 (cbcWakes_c  w0) ?_
 rintro _ w1 ⟨rfl, hb2⟩
 refine ⟨_, rfl, ?_⟩
 replace hk := thenB hk hb2
 refine w_val (y_not (ev (.bool true) rfl rfl)) ?_
 refine nt ?_
 refine c_ff (ev (.bool false) rfl rfl) ?_
 refine wp_skip ?_
 refine then_n ?_
 refine wp_seq ?_
 refine sr ?_
 refine w_mv (ev (.string (str s)) rfl rfl) ?_
 refine w_val (y_len (ev (.string (str s)) rfl rfl) Try.underlying9) ?_
 refine w_val (y_bin (ev (.int .i64 ((s.length : Nat) : Int)) rfl rfl) (evc (.int .i64 1048576)) b_gtr) ?_
 refine nt ?_
 have hc3 : ¬ (1048576 < ((s.length : Nat) : Int)) := by omega
 refine c_f (p := 1048576 < ((s.length : Nat) : Int)) (ev (.bool (decide (1048576 < ((s.length : Nat) : Int)))) rfl rfl) hc3 ?_
 refine wp_skip ?_
 refine then_n ?_
 refine sr ?_
 refine w_mv (ev (.string (str s)) rfl rfl) ?_
 refine w_mv (ev (.int .i64 ((q : Nat) : Int)) rfl rfl) ?_
 refine w_call (Try.func19) (by kernel_rfl) rfl (m2 (ev (.string (str s)) rfl rfl) (ev (.int .i64 ((q : Nat) : Int)) rfl rfl)) (pad_y s q h1 h255 (by omega) w1) ?_
 rintro _ w4 ⟨rfl, hb5⟩
 refine ⟨_, rfl, ?_⟩
 replace hk := thenB hk hb5
 refine w_mv (ev (.tuple #[.string (str (Cb.pad s q)), .int .i64 0]) rfl rfl) ?_
 refine w_val (y_ext (v := .string (str (Cb.pad s q))) (ev (.tuple #[.string (str (Cb.pad s q)), .int .i64 0]) rfl rfl) rfl) ?_
 refine w_val (y_ext (v := .int .i64 0) (ev (.tuple #[.string (str (Cb.pad s q)), .int .i64 0]) rfl rfl) rfl) ?_
 refine w_as (ev (.string (str (Cb.pad s q))) rfl rfl) ?_
 refine w_as (ev (.int .i64 0) rfl rfl) ?_
 refine nt ?_
 refine sr ?_
 refine w_mv (ev (.string (str s)) rfl rfl) ?_
 refine w_mv (ev (.int .i64 ((q : Nat) : Int)) rfl rfl) ?_
 refine w_call (Try.func20) (by kernel_rfl) rfl (m2 (ev (.string (str s)) rfl rfl) (ev (.int .i64 ((q : Nat) : Int)) rfl rfl)) (refPad_y s q h1 h255 (by omega) w4) ?_
 rintro _ w6 ⟨rfl, hb7⟩
 refine ⟨_, rfl, ?_⟩
 replace hk := thenB hk hb7
 refine w_mv (ev (.tuple #[.string (str (Cb.pad s q)), .int .i64 0]) rfl rfl) ?_
 refine w_val (y_ext (v := .string (str (Cb.pad s q))) (ev (.tuple #[.string (str (Cb.pad s q)), .int .i64 0]) rfl rfl) rfl) ?_
 refine w_val (y_ext (v := .int .i64 0) (ev (.tuple #[.string (str (Cb.pad s q)), .int .i64 0]) rfl rfl) rfl) ?_
 refine w_as (ev (.string (str (Cb.pad s q))) rfl rfl) ?_
 refine w_as (ev (.int .i64 0) rfl rfl) ?_
 refine nt ?_
 refine sr ?_
 refine w_mv (ev (.string (str s)) rfl rfl) ?_
 refine w_mv (ev (.int .i64 ((q : Nat) : Int)) rfl rfl) ?_
 refine w_call (Try.func21) (by kernel_rfl) rfl (m2 (ev (.string (str s)) rfl rfl) (ev (.int .i64 ((q : Nat) : Int)) rfl rfl)) (unpad_s s q h1 h255 hm w6) ?_
 rintro _ w8 ⟨rfl, hb9⟩
 refine ⟨_, rfl, ?_⟩
 replace hk := thenB hk hb9
 refine w_mv (ev (.tuple #[.string (str ([] : List (BitVec 8))), .int .i64 6]) rfl rfl) ?_
 refine w_val (y_ext (v := .string (str ([] : List (BitVec 8)))) (ev (.tuple #[.string (str ([] : List (BitVec 8))), .int .i64 6]) rfl rfl) rfl) ?_
 refine w_val (y_ext (v := .int .i64 6) (ev (.tuple #[.string (str ([] : List (BitVec 8))), .int .i64 6]) rfl rfl) rfl) ?_
 refine w_as (ev (.string (str ([] : List (BitVec 8)))) rfl rfl) ?_
 refine w_as (ev (.int .i64 6) rfl rfl) ?_
 refine nt ?_
 refine sr ?_
 refine w_mv (ev (.string (str s)) rfl rfl) ?_
 refine w_mv (ev (.int .i64 ((q : Nat) : Int)) rfl rfl) ?_
 refine w_call (Try.func22) (by kernel_rfl) rfl (m2 (ev (.string (str s)) rfl rfl) (ev (.int .i64 ((q : Nat) : Int)) rfl rfl)) (refUnpad_s s q h1 h255 hm w8) ?_
 rintro _ w10 ⟨rfl, hb11⟩
 refine ⟨_, rfl, ?_⟩
 replace hk := thenB hk hb11
 refine w_mv (ev (.tuple #[.string (str ([] : List (BitVec 8))), .int .i64 6]) rfl rfl) ?_
 refine w_val (y_ext (v := .string (str ([] : List (BitVec 8)))) (ev (.tuple #[.string (str ([] : List (BitVec 8))), .int .i64 6]) rfl rfl) rfl) ?_
 refine w_val (y_ext (v := .int .i64 6) (ev (.tuple #[.string (str ([] : List (BitVec 8))), .int .i64 6]) rfl rfl) rfl) ?_
 refine w_as (ev (.string (str ([] : List (BitVec 8)))) rfl rfl) ?_
 refine w_as (ev (.int .i64 6) rfl rfl) ?_
 refine nt ?_
 refine wp_seq ?_
 refine sr ?_
 refine w_mv (ev (.string (str (Cb.pad s q))) rfl rfl) ?_
 refine w_mv (ev (.string (str (Cb.pad s q))) rfl rfl) ?_
 refine w_val (y_bin (ev (.string (str (Cb.pad s q))) rfl rfl) (ev (.string (str (Cb.pad s q))) rfl rfl) b_nes_same) ?_
 refine w_mv (ev (.bool false) rfl rfl) ?_
 refine w_val_g (v := .int .i64 0) (want_yes (j := 3) rfl rfl (ev (.bool false) rfl rfl) rfl) (y_mv (ev (.int .i64 0) rfl rfl)) ?_
 refine w_val_g (v := .int .i64 0) (want_yes (j := 3) rfl rfl (ev (.bool false) rfl rfl) rfl) (y_mv (ev (.int .i64 0) rfl rfl)) ?_
 refine w_val_g (want_yes (j := 3) rfl rfl (ev (.bool false) rfl rfl) rfl) (y_bin (ev (.int .i64 0) rfl rfl) (ev (.int .i64 0) rfl rfl) b_neq) ?_
 refine w_val (y_pick_f (ev (.bool false) rfl rfl) (ev (.bool false) rfl rfl)) ?_
 refine w_mv (ev (.bool false) rfl rfl) ?_
 refine w_val_g (v := .string (str ([] : List (BitVec 8)))) (want_yes (j := 8) rfl rfl (ev (.bool false) rfl rfl) rfl) (y_mv (ev (.string (str ([] : List (BitVec 8)))) rfl rfl)) ?_
 refine w_val_g (v := .string (str ([] : List (BitVec 8)))) (want_yes (j := 8) rfl rfl (ev (.bool false) rfl rfl) rfl) (y_mv (ev (.string (str ([] : List (BitVec 8)))) rfl rfl)) ?_
 refine w_val_g (want_yes (j := 8) rfl rfl (ev (.bool false) rfl rfl) rfl) (y_bin (ev (.string (str ([] : List (BitVec 8)))) rfl rfl) (ev (.string (str ([] : List (BitVec 8)))) rfl rfl) b_nes_same) ?_
 refine w_val (y_pick_f (ev (.bool false) rfl rfl) (ev (.bool false) rfl rfl)) ?_
 refine w_mv (ev (.bool false) rfl rfl) ?_
 refine w_val_g (v := .int .i64 6) (want_yes (j := 13) rfl rfl (ev (.bool false) rfl rfl) rfl) (y_mv (ev (.int .i64 6) rfl rfl)) ?_
 refine w_val_g (v := .int .i64 6) (want_yes (j := 13) rfl rfl (ev (.bool false) rfl rfl) rfl) (y_mv (ev (.int .i64 6) rfl rfl)) ?_
 refine w_val_g (want_yes (j := 13) rfl rfl (ev (.bool false) rfl rfl) rfl) (y_bin (ev (.int .i64 6) rfl rfl) (ev (.int .i64 6) rfl rfl) b_neq) ?_
 refine w_val (y_pick_f (ev (.bool false) rfl rfl) (ev (.bool false) rfl rfl)) ?_
 refine nt ?_
 refine c_ff (ev (.bool false) rfl rfl) ?_
 refine wp_skip ?_
 refine then_n ?_
 refine sr ?_
 refine w_mv (ev (.string (str (Cb.pad s q))) rfl rfl) ?_
 refine w_mv (ev (.int .i64 ((q : Nat) : Int)) rfl rfl) ?_
 refine w_call (Try.func21) (by kernel_rfl) rfl (m2 (ev (.string (str (Cb.pad s q))) rfl rfl) (ev (.int .i64 ((q : Nat) : Int)) rfl rfl)) (unpadBack s q h1 h255 hs w10) ?_
 rintro _ w12 ⟨rfl, hb13⟩
 refine ⟨_, rfl, ?_⟩
 replace hk := thenB hk hb13
 refine w_mv (ev (.tuple #[.string (str s), .int .i64 0]) rfl rfl) ?_
 refine w_val (y_ext (v := .string (str s)) (ev (.tuple #[.string (str s), .int .i64 0]) rfl rfl) rfl) ?_
 refine w_val (y_ext (v := .int .i64 0) (ev (.tuple #[.string (str s), .int .i64 0]) rfl rfl) rfl) ?_
 refine w_as (ev (.string (str s)) rfl rfl) ?_
 refine w_as (ev (.int .i64 0) rfl rfl) ?_
 refine nt ?_
 refine sr ?_
 refine w_mv (ev (.int .i64 0) rfl rfl) ?_
 refine w_val (y_bin (ev (.int .i64 0) rfl rfl) (evc (.int .i64 0)) b_neq) ?_
 refine w_mv (ev (.bool false) rfl rfl) ?_
 refine w_val_g (v := .int .i64 0) (want_yes (j := 2) rfl rfl (ev (.bool false) rfl rfl) rfl) (y_mv (ev (.int .i64 0) rfl rfl)) ?_
 refine w_val_g (want_yes (j := 2) rfl rfl (ev (.bool false) rfl rfl) rfl) (y_bin (ev (.int .i64 0) rfl rfl) (evc (.int .i64 0)) b_eql) ?_
 refine w_val_g (v := .bool true) (want_yes (j := 2) rfl rfl (ev (.bool false) rfl rfl) rfl) (y_mv (ev (.bool true) rfl rfl)) ?_
 refine w_val_g (v := .string (str s)) (want_yes (j := 5) rfl rfl (ev (.bool true) rfl rfl) rfl) (y_mv (ev (.string (str s)) rfl rfl)) ?_
 refine w_val_g (v := .string (str s)) (want_yes (j := 5) rfl rfl (ev (.bool true) rfl rfl) rfl) (y_mv (ev (.string (str s)) rfl rfl)) ?_
 refine w_val_g (want_yes (j := 5) rfl rfl (ev (.bool true) rfl rfl) rfl) (y_bin (ev (.string (str s)) rfl rfl) (ev (.string (str s)) rfl rfl) b_eqs_same) ?_
 refine w_val_g (want_yes (j := 2) rfl rfl (ev (.bool false) rfl rfl) rfl) (y_pick_t (ev (.bool true) rfl rfl) (ev (.bool true) rfl rfl)) ?_
 refine w_val (y_pick_f (ev (.bool false) rfl rfl) (ev (.bool true) rfl rfl)) ?_
 refine w_as (ev (.bool true) rfl rfl) ?_
 refine nt ?_
 refine wp_ret ?_
 refine fin_ret1 rfl (ev (.bool true) rfl rfl) ?_
 exact ⟨rfl, hk⟩

set_option maxRecDepth 100000 in
set_option maxHeartbeats 1000000 in
theorem cbcPads_y (s : List (BitVec 8)) (q : Nat) (h1 : 1 ≤ q) (h255 : q ≤ 255) (hs : s.length ≤ 1048576) (h0 : 0 < s.length) (hm : s.length % q = 0) (hp : Cb.Padded s q) (w0 : World) : Calls Try.prog 3 #[.string (str s), .int .i64 ((q : Nat) : Int)] w0 fun e w' => e = .returned (.bool true) ∧ Below w0.heap.size w0 w' := by
 refine enter (n := 79) Try.func3 rfl rfl rfl ?_
 have hk : Below w0.heap.size w0 w0 := Below.refl _ _
 refine sr ?_
 refine w_as (evc (.bool false)) ?_
 refine nt ?_
 refine wp_seq ?_
 refine sr ?_
 refine w_call (Try.func18) (by kernel_rfl) rfl m0 (cbcWakes_c  w0) ?_
 rintro _ w1 ⟨rfl, hb2⟩
 refine ⟨_, rfl, ?_⟩
 replace hk := thenB hk hb2
 refine w_val (y_not (ev (.bool true) rfl rfl)) ?_
 refine nt ?_
 refine c_ff (ev (.bool false) rfl rfl) ?_
 refine wp_skip ?_
 refine then_n ?_
 refine wp_seq ?_
 refine sr ?_
 refine w_mv (ev (.string (str s)) rfl rfl) ?_
 refine w_val (y_len (ev (.string (str s)) rfl rfl) Try.underlying9) ?_
 refine w_val (y_bin (ev (.int .i64 ((s.length : Nat) : Int)) rfl rfl) (evc (.int .i64 1048576)) b_gtr) ?_
 refine nt ?_
 have hc3 : ¬ (1048576 < ((s.length : Nat) : Int)) := by omega
 refine c_f (p := 1048576 < ((s.length : Nat) : Int)) (ev (.bool (decide (1048576 < ((s.length : Nat) : Int)))) rfl rfl) hc3 ?_
 refine wp_skip ?_
 refine then_n ?_
 refine sr ?_
 refine w_mv (ev (.string (str s)) rfl rfl) ?_
 refine w_mv (ev (.int .i64 ((q : Nat) : Int)) rfl rfl) ?_
 refine w_call (Try.func19) (by kernel_rfl) rfl (m2 (ev (.string (str s)) rfl rfl) (ev (.int .i64 ((q : Nat) : Int)) rfl rfl)) (pad_y s q h1 h255 (by omega) w1) ?_
 rintro _ w4 ⟨rfl, hb5⟩
 refine ⟨_, rfl, ?_⟩
 replace hk := thenB hk hb5
 refine w_mv (ev (.tuple #[.string (str (Cb.pad s q)), .int .i64 0]) rfl rfl) ?_
 refine w_val (y_ext (v := .string (str (Cb.pad s q))) (ev (.tuple #[.string (str (Cb.pad s q)), .int .i64 0]) rfl rfl) rfl) ?_
 refine w_val (y_ext (v := .int .i64 0) (ev (.tuple #[.string (str (Cb.pad s q)), .int .i64 0]) rfl rfl) rfl) ?_
 refine w_as (ev (.string (str (Cb.pad s q))) rfl rfl) ?_
 refine w_as (ev (.int .i64 0) rfl rfl) ?_
 refine nt ?_
 refine sr ?_
 refine w_mv (ev (.string (str s)) rfl rfl) ?_
 refine w_mv (ev (.int .i64 ((q : Nat) : Int)) rfl rfl) ?_
 refine w_call (Try.func20) (by kernel_rfl) rfl (m2 (ev (.string (str s)) rfl rfl) (ev (.int .i64 ((q : Nat) : Int)) rfl rfl)) (refPad_y s q h1 h255 (by omega) w4) ?_
 rintro _ w6 ⟨rfl, hb7⟩
 refine ⟨_, rfl, ?_⟩
 replace hk := thenB hk hb7
 refine w_mv (ev (.tuple #[.string (str (Cb.pad s q)), .int .i64 0]) rfl rfl) ?_
 refine w_val (y_ext (v := .string (str (Cb.pad s q))) (ev (.tuple #[.string (str (Cb.pad s q)), .int .i64 0]) rfl rfl) rfl) ?_
 refine w_val (y_ext (v := .int .i64 0) (ev (.tuple #[.string (str (Cb.pad s q)), .int .i64 0]) rfl rfl) rfl) ?_
 refine w_as (ev (.string (str (Cb.pad s q))) rfl rfl) ?_
 refine w_as (ev (.int .i64 0) rfl rfl) ?_
 refine nt ?_
 refine sr ?_
 refine w_mv (ev (.string (str s)) rfl rfl) ?_
 refine w_mv (ev (.int .i64 ((q : Nat) : Int)) rfl rfl) ?_
 refine w_call (Try.func21) (by kernel_rfl) rfl (m2 (ev (.string (str s)) rfl rfl) (ev (.int .i64 ((q : Nat) : Int)) rfl rfl)) (unpad_y s q h1 h255 (by omega) h0 hm hp w6) ?_
 rintro _ w8 ⟨rfl, hb9⟩
 refine ⟨_, rfl, ?_⟩
 replace hk := thenB hk hb9
 refine w_mv (ev (.tuple #[.string (str (s.take (s.length - Cb.last s))), .int .i64 0]) rfl rfl) ?_
 refine w_val (y_ext (v := .string (str (s.take (s.length - Cb.last s)))) (ev (.tuple #[.string (str (s.take (s.length - Cb.last s))), .int .i64 0]) rfl rfl) rfl) ?_
 refine w_val (y_ext (v := .int .i64 0) (ev (.tuple #[.string (str (s.take (s.length - Cb.last s))), .int .i64 0]) rfl rfl) rfl) ?_
 refine w_as (ev (.string (str (s.take (s.length - Cb.last s)))) rfl rfl) ?_
 refine w_as (ev (.int .i64 0) rfl rfl) ?_
 refine nt ?_
 refine sr ?_
 refine w_mv (ev (.string (str s)) rfl rfl) ?_
 refine w_mv (ev (.int .i64 ((q : Nat) : Int)) rfl rfl) ?_
 refine w_call (Try.func22) (by kernel_rfl) rfl (m2 (ev (.string (str s)) rfl rfl) (ev (.int .i64 ((q : Nat) : Int)) rfl rfl)) (refUnpad_y s q h1 h255 (by omega) h0 hm hp w8) ?_
 rintro _ w10 ⟨rfl, hb11⟩
 refine ⟨_, rfl, ?_⟩
 replace hk := thenB hk hb11
 refine w_mv (ev (.tuple #[.string (str (s.take (s.length - Cb.last s))), .int .i64 0]) rfl rfl) ?_
 refine w_val (y_ext (v := .string (str (s.take (s.length - Cb.last s)))) (ev (.tuple #[.string (str (s.take (s.length - Cb.last s))), .int .i64 0]) rfl rfl) rfl) ?_
 refine w_val (y_ext (v := .int .i64 0) (ev (.tuple #[.string (str (s.take (s.length - Cb.last s))), .int .i64 0]) rfl rfl) rfl) ?_
 refine w_as (ev (.string (str (s.take (s.length - Cb.last s)))) rfl rfl) ?_
 refine w_as (ev (.int .i64 0) rfl rfl) ?_
 refine nt ?_
 refine wp_seq ?_
 refine sr ?_
 refine w_mv (ev (.string (str (Cb.pad s q))) rfl rfl) ?_
 refine w_mv (ev (.string (str (Cb.pad s q))) rfl rfl) ?_
 refine w_val (y_bin (ev (.string (str (Cb.pad s q))) rfl rfl) (ev (.string (str (Cb.pad s q))) rfl rfl) b_nes_same) ?_
 refine w_mv (ev (.bool false) rfl rfl) ?_
 refine w_val_g (v := .int .i64 0) (want_yes (j := 3) rfl rfl (ev (.bool false) rfl rfl) rfl) (y_mv (ev (.int .i64 0) rfl rfl)) ?_
 refine w_val_g (v := .int .i64 0) (want_yes (j := 3) rfl rfl (ev (.bool false) rfl rfl) rfl) (y_mv (ev (.int .i64 0) rfl rfl)) ?_
 refine w_val_g (want_yes (j := 3) rfl rfl (ev (.bool false) rfl rfl) rfl) (y_bin (ev (.int .i64 0) rfl rfl) (ev (.int .i64 0) rfl rfl) b_neq) ?_
 refine w_val (y_pick_f (ev (.bool false) rfl rfl) (ev (.bool false) rfl rfl)) ?_
 refine w_mv (ev (.bool false) rfl rfl) ?_
 refine w_val_g (v := .string (str (s.take (s.length - Cb.last s)))) (want_yes (j := 8) rfl rfl (ev (.bool false) rfl rfl) rfl) (y_mv (ev (.string (str (s.take (s.length - Cb.last s)))) rfl rfl)) ?_
 refine w_val_g (v := .string (str (s.take (s.length - Cb.last s)))) (want_yes (j := 8) rfl rfl (ev (.bool false) rfl rfl) rfl) (y_mv (ev (.string (str (s.take (s.length - Cb.last s)))) rfl rfl)) ?_
 refine w_val_g (want_yes (j := 8) rfl rfl (ev (.bool false) rfl rfl) rfl) (y_bin (ev (.string (str (s.take (s.length - Cb.last s)))) rfl rfl) (ev (.string (str (s.take (s.length - Cb.last s)))) rfl rfl) b_nes_same) ?_
 refine w_val (y_pick_f (ev (.bool false) rfl rfl) (ev (.bool false) rfl rfl)) ?_
 refine w_mv (ev (.bool false) rfl rfl) ?_
 refine w_val_g (v := .int .i64 0) (want_yes (j := 13) rfl rfl (ev (.bool false) rfl rfl) rfl) (y_mv (ev (.int .i64 0) rfl rfl)) ?_
 refine w_val_g (v := .int .i64 0) (want_yes (j := 13) rfl rfl (ev (.bool false) rfl rfl) rfl) (y_mv (ev (.int .i64 0) rfl rfl)) ?_
 refine w_val_g (want_yes (j := 13) rfl rfl (ev (.bool false) rfl rfl) rfl) (y_bin (ev (.int .i64 0) rfl rfl) (ev (.int .i64 0) rfl rfl) b_neq) ?_
 refine w_val (y_pick_f (ev (.bool false) rfl rfl) (ev (.bool false) rfl rfl)) ?_
 refine nt ?_
 refine c_ff (ev (.bool false) rfl rfl) ?_
 refine wp_skip ?_
 refine then_n ?_
 refine sr ?_
 refine w_mv (ev (.string (str (Cb.pad s q))) rfl rfl) ?_
 refine w_mv (ev (.int .i64 ((q : Nat) : Int)) rfl rfl) ?_
 refine w_call (Try.func21) (by kernel_rfl) rfl (m2 (ev (.string (str (Cb.pad s q))) rfl rfl) (ev (.int .i64 ((q : Nat) : Int)) rfl rfl)) (unpadBack s q h1 h255 hs w10) ?_
 rintro _ w12 ⟨rfl, hb13⟩
 refine ⟨_, rfl, ?_⟩
 replace hk := thenB hk hb13
 refine w_mv (ev (.tuple #[.string (str s), .int .i64 0]) rfl rfl) ?_
 refine w_val (y_ext (v := .string (str s)) (ev (.tuple #[.string (str s), .int .i64 0]) rfl rfl) rfl) ?_
 refine w_val (y_ext (v := .int .i64 0) (ev (.tuple #[.string (str s), .int .i64 0]) rfl rfl) rfl) ?_
 refine w_as (ev (.string (str s)) rfl rfl) ?_
 refine w_as (ev (.int .i64 0) rfl rfl) ?_
 refine nt ?_
 refine sr ?_
 refine w_mv (ev (.int .i64 0) rfl rfl) ?_
 refine w_val (y_bin (ev (.int .i64 0) rfl rfl) (evc (.int .i64 0)) b_neq) ?_
 refine w_mv (ev (.bool false) rfl rfl) ?_
 refine w_val_g (v := .int .i64 0) (want_yes (j := 2) rfl rfl (ev (.bool false) rfl rfl) rfl) (y_mv (ev (.int .i64 0) rfl rfl)) ?_
 refine w_val_g (want_yes (j := 2) rfl rfl (ev (.bool false) rfl rfl) rfl) (y_bin (ev (.int .i64 0) rfl rfl) (evc (.int .i64 0)) b_eql) ?_
 refine w_val_g (v := .bool true) (want_yes (j := 2) rfl rfl (ev (.bool false) rfl rfl) rfl) (y_mv (ev (.bool true) rfl rfl)) ?_
 refine w_val_g (v := .string (str s)) (want_yes (j := 5) rfl rfl (ev (.bool true) rfl rfl) rfl) (y_mv (ev (.string (str s)) rfl rfl)) ?_
 refine w_val_g (v := .string (str s)) (want_yes (j := 5) rfl rfl (ev (.bool true) rfl rfl) rfl) (y_mv (ev (.string (str s)) rfl rfl)) ?_
 refine w_val_g (want_yes (j := 5) rfl rfl (ev (.bool true) rfl rfl) rfl) (y_bin (ev (.string (str s)) rfl rfl) (ev (.string (str s)) rfl rfl) b_eqs_same) ?_
 refine w_val_g (want_yes (j := 2) rfl rfl (ev (.bool false) rfl rfl) rfl) (y_pick_t (ev (.bool true) rfl rfl) (ev (.bool true) rfl rfl)) ?_
 refine w_val (y_pick_f (ev (.bool false) rfl rfl) (ev (.bool true) rfl rfl)) ?_
 refine w_as (ev (.bool true) rfl rfl) ?_
 refine nt ?_
 refine wp_ret ?_
 refine fin_ret1 rfl (ev (.bool true) rfl rfl) ?_
 exact ⟨rfl, hk⟩

set_option maxRecDepth 100000 in
set_option maxHeartbeats 1000000 in
theorem cbcPads_n (s : List (BitVec 8)) (q : Nat) (h1 : 1 ≤ q) (h255 : q ≤ 255) (hs : s.length ≤ 1048576) (h0 : 0 < s.length) (hm : s.length % q = 0) (hp : ¬ Cb.Padded s q) (w0 : World) : Calls Try.prog 3 #[.string (str s), .int .i64 ((q : Nat) : Int)] w0 fun e w' => e = .returned (.bool true) ∧ Below w0.heap.size w0 w' := by
 refine enter (n := 79) Try.func3 rfl rfl rfl ?_
 have hk : Below w0.heap.size w0 w0 := Below.refl _ _
 refine sr ?_
 refine w_as (evc (.bool false)) ?_
 refine nt ?_
 refine wp_seq ?_
 refine sr ?_
 refine w_call (Try.func18) (by kernel_rfl) rfl m0 (cbcWakes_c  w0) ?_
 rintro _ w1 ⟨rfl, hb2⟩
 refine ⟨_, rfl, ?_⟩
 replace hk := thenB hk hb2
 refine w_val (y_not (ev (.bool true) rfl rfl)) ?_
 refine nt ?_
 refine c_ff (ev (.bool false) rfl rfl) ?_
 refine wp_skip ?_
 refine then_n ?_
 refine wp_seq ?_
 refine sr ?_
 refine w_mv (ev (.string (str s)) rfl rfl) ?_
 refine w_val (y_len (ev (.string (str s)) rfl rfl) Try.underlying9) ?_
 refine w_val (y_bin (ev (.int .i64 ((s.length : Nat) : Int)) rfl rfl) (evc (.int .i64 1048576)) b_gtr) ?_
 refine nt ?_
 have hc3 : ¬ (1048576 < ((s.length : Nat) : Int)) := by omega
 refine c_f (p := 1048576 < ((s.length : Nat) : Int)) (ev (.bool (decide (1048576 < ((s.length : Nat) : Int)))) rfl rfl) hc3 ?_
 refine wp_skip ?_
 refine then_n ?_
 refine sr ?_
 refine w_mv (ev (.string (str s)) rfl rfl) ?_
 refine w_mv (ev (.int .i64 ((q : Nat) : Int)) rfl rfl) ?_
 refine w_call (Try.func19) (by kernel_rfl) rfl (m2 (ev (.string (str s)) rfl rfl) (ev (.int .i64 ((q : Nat) : Int)) rfl rfl)) (pad_y s q h1 h255 (by omega) w1) ?_
 rintro _ w4 ⟨rfl, hb5⟩
 refine ⟨_, rfl, ?_⟩
 replace hk := thenB hk hb5
 refine w_mv (ev (.tuple #[.string (str (Cb.pad s q)), .int .i64 0]) rfl rfl) ?_
 refine w_val (y_ext (v := .string (str (Cb.pad s q))) (ev (.tuple #[.string (str (Cb.pad s q)), .int .i64 0]) rfl rfl) rfl) ?_
 refine w_val (y_ext (v := .int .i64 0) (ev (.tuple #[.string (str (Cb.pad s q)), .int .i64 0]) rfl rfl) rfl) ?_
 refine w_as (ev (.string (str (Cb.pad s q))) rfl rfl) ?_
 refine w_as (ev (.int .i64 0) rfl rfl) ?_
 refine nt ?_
 refine sr ?_
 refine w_mv (ev (.string (str s)) rfl rfl) ?_
 refine w_mv (ev (.int .i64 ((q : Nat) : Int)) rfl rfl) ?_
 refine w_call (Try.func20) (by kernel_rfl) rfl (m2 (ev (.string (str s)) rfl rfl) (ev (.int .i64 ((q : Nat) : Int)) rfl rfl)) (refPad_y s q h1 h255 (by omega) w4) ?_
 rintro _ w6 ⟨rfl, hb7⟩
 refine ⟨_, rfl, ?_⟩
 replace hk := thenB hk hb7
 refine w_mv (ev (.tuple #[.string (str (Cb.pad s q)), .int .i64 0]) rfl rfl) ?_
 refine w_val (y_ext (v := .string (str (Cb.pad s q))) (ev (.tuple #[.string (str (Cb.pad s q)), .int .i64 0]) rfl rfl) rfl) ?_
 refine w_val (y_ext (v := .int .i64 0) (ev (.tuple #[.string (str (Cb.pad s q)), .int .i64 0]) rfl rfl) rfl) ?_
 refine w_as (ev (.string (str (Cb.pad s q))) rfl rfl) ?_
 refine w_as (ev (.int .i64 0) rfl rfl) ?_
 refine nt ?_
 refine sr ?_
 refine w_mv (ev (.string (str s)) rfl rfl) ?_
 refine w_mv (ev (.int .i64 ((q : Nat) : Int)) rfl rfl) ?_
 refine w_call (Try.func21) (by kernel_rfl) rfl (m2 (ev (.string (str s)) rfl rfl) (ev (.int .i64 ((q : Nat) : Int)) rfl rfl)) (unpad_n s q h1 h255 (by omega) h0 hm hp w6) ?_
 rintro _ w8 ⟨rfl, hb9⟩
 refine ⟨_, rfl, ?_⟩
 replace hk := thenB hk hb9
 refine w_mv (ev (.tuple #[.string (str ([] : List (BitVec 8))), .int .i64 7]) rfl rfl) ?_
 refine w_val (y_ext (v := .string (str ([] : List (BitVec 8)))) (ev (.tuple #[.string (str ([] : List (BitVec 8))), .int .i64 7]) rfl rfl) rfl) ?_
 refine w_val (y_ext (v := .int .i64 7) (ev (.tuple #[.string (str ([] : List (BitVec 8))), .int .i64 7]) rfl rfl) rfl) ?_
 refine w_as (ev (.string (str ([] : List (BitVec 8)))) rfl rfl) ?_
 refine w_as (ev (.int .i64 7) rfl rfl) ?_
 refine nt ?_
 refine sr ?_
 refine w_mv (ev (.string (str s)) rfl rfl) ?_
 refine w_mv (ev (.int .i64 ((q : Nat) : Int)) rfl rfl) ?_
 refine w_call (Try.func22) (by kernel_rfl) rfl (m2 (ev (.string (str s)) rfl rfl) (ev (.int .i64 ((q : Nat) : Int)) rfl rfl)) (refUnpad_n s q h1 h255 (by omega) h0 hm hp w8) ?_
 rintro _ w10 ⟨rfl, hb11⟩
 refine ⟨_, rfl, ?_⟩
 replace hk := thenB hk hb11
 refine w_mv (ev (.tuple #[.string (str ([] : List (BitVec 8))), .int .i64 7]) rfl rfl) ?_
 refine w_val (y_ext (v := .string (str ([] : List (BitVec 8)))) (ev (.tuple #[.string (str ([] : List (BitVec 8))), .int .i64 7]) rfl rfl) rfl) ?_
 refine w_val (y_ext (v := .int .i64 7) (ev (.tuple #[.string (str ([] : List (BitVec 8))), .int .i64 7]) rfl rfl) rfl) ?_
 refine w_as (ev (.string (str ([] : List (BitVec 8)))) rfl rfl) ?_
 refine w_as (ev (.int .i64 7) rfl rfl) ?_
 refine nt ?_
 refine wp_seq ?_
 refine sr ?_
 refine w_mv (ev (.string (str (Cb.pad s q))) rfl rfl) ?_
 refine w_mv (ev (.string (str (Cb.pad s q))) rfl rfl) ?_
 refine w_val (y_bin (ev (.string (str (Cb.pad s q))) rfl rfl) (ev (.string (str (Cb.pad s q))) rfl rfl) b_nes_same) ?_
 refine w_mv (ev (.bool false) rfl rfl) ?_
 refine w_val_g (v := .int .i64 0) (want_yes (j := 3) rfl rfl (ev (.bool false) rfl rfl) rfl) (y_mv (ev (.int .i64 0) rfl rfl)) ?_
 refine w_val_g (v := .int .i64 0) (want_yes (j := 3) rfl rfl (ev (.bool false) rfl rfl) rfl) (y_mv (ev (.int .i64 0) rfl rfl)) ?_
 refine w_val_g (want_yes (j := 3) rfl rfl (ev (.bool false) rfl rfl) rfl) (y_bin (ev (.int .i64 0) rfl rfl) (ev (.int .i64 0) rfl rfl) b_neq) ?_
 refine w_val (y_pick_f (ev (.bool false) rfl rfl) (ev (.bool false) rfl rfl)) ?_
 refine w_mv (ev (.bool false) rfl rfl) ?_
 refine w_val_g (v := .string (str ([] : List (BitVec 8)))) (want_yes (j := 8) rfl rfl (ev (.bool false) rfl rfl) rfl) (y_mv (ev (.string (str ([] : List (BitVec 8)))) rfl rfl)) ?_
 refine w_val_g (v := .string (str ([] : List (BitVec 8)))) (want_yes (j := 8) rfl rfl (ev (.bool false) rfl rfl) rfl) (y_mv (ev (.string (str ([] : List (BitVec 8)))) rfl rfl)) ?_
 refine w_val_g (want_yes (j := 8) rfl rfl (ev (.bool false) rfl rfl) rfl) (y_bin (ev (.string (str ([] : List (BitVec 8)))) rfl rfl) (ev (.string (str ([] : List (BitVec 8)))) rfl rfl) b_nes_same) ?_
 refine w_val (y_pick_f (ev (.bool false) rfl rfl) (ev (.bool false) rfl rfl)) ?_
 refine w_mv (ev (.bool false) rfl rfl) ?_
 refine w_val_g (v := .int .i64 7) (want_yes (j := 13) rfl rfl (ev (.bool false) rfl rfl) rfl) (y_mv (ev (.int .i64 7) rfl rfl)) ?_
 refine w_val_g (v := .int .i64 7) (want_yes (j := 13) rfl rfl (ev (.bool false) rfl rfl) rfl) (y_mv (ev (.int .i64 7) rfl rfl)) ?_
 refine w_val_g (want_yes (j := 13) rfl rfl (ev (.bool false) rfl rfl) rfl) (y_bin (ev (.int .i64 7) rfl rfl) (ev (.int .i64 7) rfl rfl) b_neq) ?_
 refine w_val (y_pick_f (ev (.bool false) rfl rfl) (ev (.bool false) rfl rfl)) ?_
 refine nt ?_
 refine c_ff (ev (.bool false) rfl rfl) ?_
 refine wp_skip ?_
 refine then_n ?_
 refine sr ?_
 refine w_mv (ev (.string (str (Cb.pad s q))) rfl rfl) ?_
 refine w_mv (ev (.int .i64 ((q : Nat) : Int)) rfl rfl) ?_
 refine w_call (Try.func21) (by kernel_rfl) rfl (m2 (ev (.string (str (Cb.pad s q))) rfl rfl) (ev (.int .i64 ((q : Nat) : Int)) rfl rfl)) (unpadBack s q h1 h255 hs w10) ?_
 rintro _ w12 ⟨rfl, hb13⟩
 refine ⟨_, rfl, ?_⟩
 replace hk := thenB hk hb13
 refine w_mv (ev (.tuple #[.string (str s), .int .i64 0]) rfl rfl) ?_
 refine w_val (y_ext (v := .string (str s)) (ev (.tuple #[.string (str s), .int .i64 0]) rfl rfl) rfl) ?_
 refine w_val (y_ext (v := .int .i64 0) (ev (.tuple #[.string (str s), .int .i64 0]) rfl rfl) rfl) ?_
 refine w_as (ev (.string (str s)) rfl rfl) ?_
 refine w_as (ev (.int .i64 0) rfl rfl) ?_
 refine nt ?_
 refine sr ?_
 refine w_mv (ev (.int .i64 0) rfl rfl) ?_
 refine w_val (y_bin (ev (.int .i64 0) rfl rfl) (evc (.int .i64 0)) b_neq) ?_
 refine w_mv (ev (.bool false) rfl rfl) ?_
 refine w_val_g (v := .int .i64 0) (want_yes (j := 2) rfl rfl (ev (.bool false) rfl rfl) rfl) (y_mv (ev (.int .i64 0) rfl rfl)) ?_
 refine w_val_g (want_yes (j := 2) rfl rfl (ev (.bool false) rfl rfl) rfl) (y_bin (ev (.int .i64 0) rfl rfl) (evc (.int .i64 0)) b_eql) ?_
 refine w_val_g (v := .bool true) (want_yes (j := 2) rfl rfl (ev (.bool false) rfl rfl) rfl) (y_mv (ev (.bool true) rfl rfl)) ?_
 refine w_val_g (v := .string (str s)) (want_yes (j := 5) rfl rfl (ev (.bool true) rfl rfl) rfl) (y_mv (ev (.string (str s)) rfl rfl)) ?_
 refine w_val_g (v := .string (str s)) (want_yes (j := 5) rfl rfl (ev (.bool true) rfl rfl) rfl) (y_mv (ev (.string (str s)) rfl rfl)) ?_
 refine w_val_g (want_yes (j := 5) rfl rfl (ev (.bool true) rfl rfl) rfl) (y_bin (ev (.string (str s)) rfl rfl) (ev (.string (str s)) rfl rfl) b_eqs_same) ?_
 refine w_val_g (want_yes (j := 2) rfl rfl (ev (.bool false) rfl rfl) rfl) (y_pick_t (ev (.bool true) rfl rfl) (ev (.bool true) rfl rfl)) ?_
 refine w_val (y_pick_f (ev (.bool false) rfl rfl) (ev (.bool true) rfl rfl)) ?_
 refine w_as (ev (.bool true) rfl rfl) ?_
 refine nt ?_
 refine wp_ret ?_
 refine fin_ret1 rfl (ev (.bool true) rfl rfl) ?_
 exact ⟨rfl, hk⟩

theorem walk_CbcPads (s : List (BitVec 8)) (hs : s.length ≤ 140737488351232) (q : Int) (hw : (Lit.int .i64 q).wf = true) (w : World) : Calls Try.prog 3 #[.string (str s), .int .i64 q] w fun e w' => e = .returned (.bool true) ∧ Below w.heap.size w w' := by
  by_cases hl : 1048576 < s.length
  · exact cbcPads_l s q hl w
  · by_cases hq : 1 ≤ q ∧ q ≤ 255
    · obtain ⟨k, rfl⟩ : ∃ k : Nat, q = k := ⟨q.toNat, by omega⟩
      by_cases hm : s.length = 0 ∨ s.length % k ≠ 0
      · exact cbcPads_s s k (by omega) (by omega) (by omega) hm w
      · by_cases hp : Cb.Padded s k
        · exact cbcPads_y s k (by omega) (by omega) (by omega) (by omega) (by omega) hp w
        · exact cbcPads_n s k (by omega) (by omega) (by omega) (by omega) (by omega) hp w
    · exact cbcPads_a s q hq (by omega) w

set_option maxRecDepth 100000 in
set_option maxHeartbeats 1000000 in
theorem cbcChains_l (key vi : List (BitVec 8)) (text : List (BitVec 8)) (h : 3000 < text.length ∧ text.length ≤ 140000) (w0 : World) : Calls Try.prog 4 #[.string (str key), .string (str vi), .string (str text)] w0 fun e w' => e = .returned (.bool true) ∧ Below w0.heap.size w0 w' := by
 refine enter (n := 85) Try.func4 rfl rfl rfl ?_
 have hk : Below w0.heap.size w0 w0 := Below.refl _ _
 refine sr ?_
 refine w_as (evc (.bool false)) ?_
 refine nt ?_
 refine wp_seq ?_
 refine sr ?_
 refine w_call (Try.func18) (by kernel_rfl) rfl m0 (cbcWakes_c  w0) ?_
 rintro _ w1 ⟨rfl, hb2⟩
 refine ⟨_, rfl, ?_⟩
 replace hk := thenB hk hb2
 refine w_val (y_not (ev (.bool true) rfl rfl)) ?_
 refine nt ?_
 refine c_ff (ev (.bool false) rfl rfl) ?_
 refine wp_skip ?_
 refine then_n ?_
 refine wp_seq ?_
 refine sr ?_
 refine w_mv (ev (.string (str text)) rfl rfl) ?_
 refine w_call (Try.func23) (by kernel_rfl) rfl (m1 (ev (.string (str text)) rfl rfl)) (long_t text h w1) ?_
 rintro _ w3 ⟨rfl, hb4⟩
 refine ⟨_, rfl, ?_⟩
 replace hk := thenB hk hb4
 refine nt ?_
 refine c_tt (ev (.bool true) rfl rfl) ?_
 refine sr ?_
 refine w_as (evc (.bool true)) ?_
 refine nt ?_
 refine wp_ret ?_
 refine then_r ?_
 refine fin_ret1 rfl (ev (.bool true) rfl rfl) ?_
 exact ⟨rfl, hk⟩

set_option maxRecDepth 100000 in
set_option maxHeartbeats 1000000 in
theorem cbcChains_k (key vi : List (BitVec 8)) (hok : ¬ Aes.okKey key.length) (text : List (BitVec 8)) (h : ¬ (3000 < text.length ∧ text.length ≤ 140000)) (w0 : World) : Calls Try.prog 4 #[.string (str key), .string (str vi), .string (str text)] w0 fun e w' => e = .returned (.bool true) ∧ Below w0.heap.size w0 w' := by
 refine enter (n := 85) Try.func4 rfl rfl rfl ?_
 have hk : Below w0.heap.size w0 w0 := Below.refl _ _
 refine sr ?_
 refine w_as (evc (.bool false)) ?_
 refine nt ?_
 refine wp_seq ?_
 refine sr ?_
 refine w_call (Try.func18) (by kernel_rfl) rfl m0 (cbcWakes_c  w0) ?_
 rintro _ w1 ⟨rfl, hb2⟩
 refine ⟨_, rfl, ?_⟩
 replace hk := thenB hk hb2
 refine w_val (y_not (ev (.bool true) rfl rfl)) ?_
 refine nt ?_
 refine c_ff (ev (.bool false) rfl rfl) ?_
 refine wp_skip ?_
 refine then_n ?_
 refine wp_seq ?_
 refine sr ?_
 refine w_mv (ev (.string (str text)) rfl rfl) ?_
 refine w_call (Try.func23) (by kernel_rfl) rfl (m1 (ev (.string (str text)) rfl rfl)) (long_f text h w1) ?_
 rintro _ w3 ⟨rfl, hb4⟩
 refine ⟨_, rfl, ?_⟩
 replace hk := thenB hk hb4
 refine nt ?_
 refine c_ff (ev (.bool false) rfl rfl) ?_
 refine wp_skip ?_
 refine then_n ?_
 refine sr ?_
 refine w_mv (ev (.string (str key)) rfl rfl) ?_
 refine w_mv (ev (.string (str vi)) rfl rfl) ?_
 refine w_mv (ev (.string (str text)) rfl rfl) ?_
 refine w_call (Try.func24) (by kernel_rfl) rfl (m3 (ev (.string (str key)) rfl rfl) (ev (.string (str vi)) rfl rfl) (ev (.string (str text)) rfl rfl)) (chain_k key vi hok text w3) ?_
 rintro _ w5 ⟨rfl, hb6⟩
 refine ⟨_, rfl, ?_⟩
 replace hk := thenB hk hb6
 refine w_mv (ev (.tuple #[.string (str ([] : List (BitVec 8))), .int .i64 3]) rfl rfl) ?_
 refine w_val (y_ext (v := .string (str ([] : List (BitVec 8)))) (ev (.tuple #[.string (str ([] : List (BitVec 8))), .int .i64 3]) rfl rfl) rfl) ?_
 refine w_val (y_ext (v := .int .i64 3) (ev (.tuple #[.string (str ([] : List (BitVec 8))), .int .i64 3]) rfl rfl) rfl) ?_
 refine w_as (ev (.string (str ([] : List (BitVec 8)))) rfl rfl) ?_
 refine w_as (ev (.int .i64 3) rfl rfl) ?_
 refine nt ?_
 refine sr ?_
 refine w_mv (ev (.string (str key)) rfl rfl) ?_
 refine w_mv (ev (.string (str vi)) rfl rfl) ?_
 refine w_mv (ev (.string (str text)) rfl rfl) ?_
 refine w_call (Try.func25) (by kernel_rfl) rfl (m3 (ev (.string (str key)) rfl rfl) (ev (.string (str vi)) rfl rfl) (ev (.string (str text)) rfl rfl)) (refChain_k key vi hok text w5) ?_
 rintro _ w7 ⟨rfl, hb8⟩
 refine ⟨_, rfl, ?_⟩
 replace hk := thenB hk hb8
 refine w_mv (ev (.tuple #[.string (str ([] : List (BitVec 8))), .int .i64 3]) rfl rfl) ?_
 refine w_val (y_ext (v := .string (str ([] : List (BitVec 8)))) (ev (.tuple #[.string (str ([] : List (BitVec 8))), .int .i64 3]) rfl rfl) rfl) ?_
 refine w_val (y_ext (v := .int .i64 3) (ev (.tuple #[.string (str ([] : List (BitVec 8))), .int .i64 3]) rfl rfl) rfl) ?_
 refine w_as (ev (.string (str ([] : List (BitVec 8)))) rfl rfl) ?_
 refine w_as (ev (.int .i64 3) rfl rfl) ?_
 refine nt ?_
 refine sr ?_
 refine w_mv (ev (.string (str key)) rfl rfl) ?_
 refine w_mv (ev (.string (str vi)) rfl rfl) ?_
 refine w_mv (ev (.string (str text)) rfl rfl) ?_
 refine w_call (Try.func26) (by kernel_rfl) rfl (m3 (ev (.string (str key)) rfl rfl) (ev (.string (str vi)) rfl rfl) (ev (.string (str text)) rfl rfl)) (unchain_k key vi hok text w7) ?_
 rintro _ w9 ⟨rfl, hb10⟩
 refine ⟨_, rfl, ?_⟩
 replace hk := thenB hk hb10
 refine w_mv (ev (.tuple #[.string (str ([] : List (BitVec 8))), .int .i64 3]) rfl rfl) ?_
 refine w_val (y_ext (v := .string (str ([] : List (BitVec 8)))) (ev (.tuple #[.string (str ([] : List (BitVec 8))), .int .i64 3]) rfl rfl) rfl) ?_
 refine w_val (y_ext (v := .int .i64 3) (ev (.tuple #[.string (str ([] : List (BitVec 8))), .int .i64 3]) rfl rfl) rfl) ?_
 refine w_as (ev (.string (str ([] : List (BitVec 8)))) rfl rfl) ?_
 refine w_as (ev (.int .i64 3) rfl rfl) ?_
 refine nt ?_
 refine sr ?_
 refine w_mv (ev (.string (str key)) rfl rfl) ?_
 refine w_mv (ev (.string (str vi)) rfl rfl) ?_
 refine w_mv (ev (.string (str text)) rfl rfl) ?_
 refine w_call (Try.func27) (by kernel_rfl) rfl (m3 (ev (.string (str key)) rfl rfl) (ev (.string (str vi)) rfl rfl) (ev (.string (str text)) rfl rfl)) (refUnchain_k key vi hok text w9) ?_
 rintro _ w11 ⟨rfl, hb12⟩
 refine ⟨_, rfl, ?_⟩
 replace hk := thenB hk hb12
 refine w_mv (ev (.tuple #[.string (str ([] : List (BitVec 8))), .int .i64 3]) rfl rfl) ?_
 refine w_val (y_ext (v := .string (str ([] : List (BitVec 8)))) (ev (.tuple #[.string (str ([] : List (BitVec 8))), .int .i64 3]) rfl rfl) rfl) ?_
 refine w_val (y_ext (v := .int .i64 3) (ev (.tuple #[.string (str ([] : List (BitVec 8))), .int .i64 3]) rfl rfl) rfl) ?_
 refine w_as (ev (.string (str ([] : List (BitVec 8)))) rfl rfl) ?_
 refine w_as (ev (.int .i64 3) rfl rfl) ?_
 refine nt ?_
 refine wp_seq ?_
 refine sr ?_
 refine w_mv (ev (.string (str ([] : List (BitVec 8)))) rfl rfl) ?_
 refine w_mv (ev (.string (str ([] : List (BitVec 8)))) rfl rfl) ?_
 refine w_val (y_bin (ev (.string (str ([] : List (BitVec 8)))) rfl rfl) (ev (.string (str ([] : List (BitVec 8)))) rfl rfl) b_nes_same) ?_
 refine w_mv (ev (.bool false) rfl rfl) ?_
 refine w_val_g (v := .int .i64 3) (want_yes (j := 3) rfl rfl (ev (.bool false) rfl rfl) rfl) (y_mv (ev (.int .i64 3) rfl rfl)) ?_
 refine w_val_g (v := .int .i64 3) (want_yes (j := 3) rfl rfl (ev (.bool false) rfl rfl) rfl) (y_mv (ev (.int .i64 3) rfl rfl)) ?_
 refine w_val_g (want_yes (j := 3) rfl rfl (ev (.bool false) rfl rfl) rfl) (y_bin (ev (.int .i64 3) rfl rfl) (ev (.int .i64 3) rfl rfl) b_neq) ?_
 refine w_val (y_pick_f (ev (.bool false) rfl rfl) (ev (.bool false) rfl rfl)) ?_
 refine w_mv (ev (.bool false) rfl rfl) ?_
 refine w_val_g (v := .string (str ([] : List (BitVec 8)))) (want_yes (j := 8) rfl rfl (ev (.bool false) rfl rfl) rfl) (y_mv (ev (.string (str ([] : List (BitVec 8)))) rfl rfl)) ?_
 refine w_val_g (v := .string (str ([] : List (BitVec 8)))) (want_yes (j := 8) rfl rfl (ev (.bool false) rfl rfl) rfl) (y_mv (ev (.string (str ([] : List (BitVec 8)))) rfl rfl)) ?_
 refine w_val_g (want_yes (j := 8) rfl rfl (ev (.bool false) rfl rfl) rfl) (y_bin (ev (.string (str ([] : List (BitVec 8)))) rfl rfl) (ev (.string (str ([] : List (BitVec 8)))) rfl rfl) b_nes_same) ?_
 refine w_val (y_pick_f (ev (.bool false) rfl rfl) (ev (.bool false) rfl rfl)) ?_
 refine w_mv (ev (.bool false) rfl rfl) ?_
 refine w_val_g (v := .int .i64 3) (want_yes (j := 13) rfl rfl (ev (.bool false) rfl rfl) rfl) (y_mv (ev (.int .i64 3) rfl rfl)) ?_
 refine w_val_g (v := .int .i64 3) (want_yes (j := 13) rfl rfl (ev (.bool false) rfl rfl) rfl) (y_mv (ev (.int .i64 3) rfl rfl)) ?_
 refine w_val_g (want_yes (j := 13) rfl rfl (ev (.bool false) rfl rfl) rfl) (y_bin (ev (.int .i64 3) rfl rfl) (ev (.int .i64 3) rfl rfl) b_neq) ?_
 refine w_val (y_pick_f (ev (.bool false) rfl rfl) (ev (.bool false) rfl rfl)) ?_
 refine nt ?_
 refine c_ff (ev (.bool false) rfl rfl) ?_
 refine wp_skip ?_
 refine then_n ?_
 refine sr ?_
 refine w_mv (ev (.string (str key)) rfl rfl) ?_
 refine w_mv (ev (.string (str vi)) rfl rfl) ?_
 refine w_mv (ev (.string (str ([] : List (BitVec 8)))) rfl rfl) ?_
 refine w_call (Try.func26) (by kernel_rfl) rfl (m3 (ev (.string (str key)) rfl rfl) (ev (.string (str vi)) rfl rfl) (ev (.string (str ([] : List (BitVec 8)))) rfl rfl)) (unchain_k key vi hok [] w11) ?_
 rintro _ w13 ⟨rfl, hb14⟩
 refine ⟨_, rfl, ?_⟩
 replace hk := thenB hk hb14
 refine w_mv (ev (.tuple #[.string (str ([] : List (BitVec 8))), .int .i64 3]) rfl rfl) ?_
 refine w_val (y_ext (v := .string (str ([] : List (BitVec 8)))) (ev (.tuple #[.string (str ([] : List (BitVec 8))), .int .i64 3]) rfl rfl) rfl) ?_
 refine w_val (y_ext (v := .int .i64 3) (ev (.tuple #[.string (str ([] : List (BitVec 8))), .int .i64 3]) rfl rfl) rfl) ?_
 refine w_as (ev (.string (str ([] : List (BitVec 8)))) rfl rfl) ?_
 refine w_as (ev (.int .i64 3) rfl rfl) ?_
 refine nt ?_
 refine sr ?_
 refine w_mv (ev (.int .i64 3) rfl rfl) ?_
 refine w_val (y_bin (ev (.int .i64 3) rfl rfl) (evc (.int .i64 0)) b_neq) ?_
 refine w_mv (ev (.bool true) rfl rfl) ?_
 first | with_reducible refine w_skip ?_ ?_ | refine w_skip ?_ ?_
 · exact want_no (j := 2) rfl rfl (ev (.bool true) rfl rfl) rfl
 first | with_reducible refine w_skip ?_ ?_ | refine w_skip ?_ ?_
 · exact want_no (j := 2) rfl rfl (ev (.bool true) rfl rfl) rfl
 first | with_reducible refine w_skip ?_ ?_ | refine w_skip ?_ ?_
 · exact want_no (j := 2) rfl rfl (ev (.bool true) rfl rfl) rfl
 first | with_reducible refine w_skip ?_ ?_ | refine w_skip ?_ ?_
 · exact want_un (j := 5) rfl rfl (ev undef rfl rfl) rfl
 first | with_reducible refine w_skip ?_ ?_ | refine w_skip ?_ ?_
 · exact want_un (j := 5) rfl rfl (ev undef rfl rfl) rfl
 first | with_reducible refine w_skip ?_ ?_ | refine w_skip ?_ ?_
 · exact want_un (j := 5) rfl rfl (ev undef rfl rfl) rfl
 first | with_reducible refine w_skip ?_ ?_ | refine w_skip ?_ ?_
 · exact want_no (j := 2) rfl rfl (ev (.bool true) rfl rfl) rfl
 refine w_val (y_pick_t (ev (.bool true) rfl rfl) (evc (.bool true))) ?_
 refine w_as (ev (.bool true) rfl rfl) ?_
 refine nt ?_
 refine wp_ret ?_
 refine fin_ret1 rfl (ev (.bool true) rfl rfl) ?_
 exact ⟨rfl, hk⟩

set_option maxRecDepth 100000 in
set_option maxHeartbeats 1000000 in
theorem cbcChains_i (key vi : List (BitVec 8)) (hok : Aes.okKey key.length) (hiv : vi.length ≠ 16) (text : List (BitVec 8)) (h : ¬ (3000 < text.length ∧ text.length ≤ 140000)) (w0 : World) : Calls Try.prog 4 #[.string (str key), .string (str vi), .string (str text)] w0 fun e w' => e = .returned (.bool true) ∧ Below w0.heap.size w0 w' := by
 refine enter (n := 85) Try.func4 rfl rfl rfl ?_
 have hk : Below w0.heap.size w0 w0 := Below.refl _ _
 refine sr ?_
 refine w_as (evc (.bool false)) ?_
 refine nt ?_
 refine wp_seq ?_
 refine sr ?_
 refine w_call (Try.func18) (by kernel_rfl) rfl m0 (cbcWakes_c  w0) ?_
 rintro _ w1 ⟨rfl, hb2⟩
 refine ⟨_, rfl, ?_⟩
 replace hk := thenB hk hb2
 refine w_val (y_not (ev (.bool true) rfl rfl)) ?_
 refine nt ?_
 refine c_ff (ev (.bool false) rfl rfl) ?_
 refine wp_skip ?_
 refine then_n ?_
 refine wp_seq ?_
 refine sr ?_
 refine w_mv (ev (.string (str text)) rfl rfl) ?_
 refine w_call (Try.func23) (by kernel_rfl) rfl (m1 (ev (.string (str text)) rfl rfl)) (long_f text h w1) ?_
 rintro _ w3 ⟨rfl, hb4⟩
 refine ⟨_, rfl, ?_⟩
 replace hk := thenB hk hb4
 refine nt ?_
 refine c_ff (ev (.bool false) rfl rfl) ?_
 refine wp_skip ?_
 refine then_n ?_
 refine sr ?_
 refine w_mv (ev (.string (str key)) rfl rfl) ?_
 refine w_mv (ev (.string (str vi)) rfl rfl) ?_
 refine w_mv (ev (.string (str text)) rfl rfl) ?_
 refine w_call (Try.func24) (by kernel_rfl) rfl (m3 (ev (.string (str key)) rfl rfl) (ev (.string (str vi)) rfl rfl) (ev (.string (str text)) rfl rfl)) (chain_i key vi hok hiv text w3) ?_
 rintro _ w5 ⟨rfl, hb6⟩
 refine ⟨_, rfl, ?_⟩
 replace hk := thenB hk hb6
 refine w_mv (ev (.tuple #[.string (str ([] : List (BitVec 8))), .int .i64 4]) rfl rfl) ?_
 refine w_val (y_ext (v := .string (str ([] : List (BitVec 8)))) (ev (.tuple #[.string (str ([] : List (BitVec 8))), .int .i64 4]) rfl rfl) rfl) ?_
 refine w_val (y_ext (v := .int .i64 4) (ev (.tuple #[.string (str ([] : List (BitVec 8))), .int .i64 4]) rfl rfl) rfl) ?_
 refine w_as (ev (.string (str ([] : List (BitVec 8)))) rfl rfl) ?_
 refine w_as (ev (.int .i64 4) rfl rfl) ?_
 refine nt ?_
 refine sr ?_
 refine w_mv (ev (.string (str key)) rfl rfl) ?_
 refine w_mv (ev (.string (str vi)) rfl rfl) ?_
 refine w_mv (ev (.string (str text)) rfl rfl) ?_
 refine w_call (Try.func25) (by kernel_rfl) rfl (m3 (ev (.string (str key)) rfl rfl) (ev (.string (str vi)) rfl rfl) (ev (.string (str text)) rfl rfl)) (refChain_i key vi hok hiv text w5) ?_
 rintro _ w7 ⟨rfl, hb8⟩
 refine ⟨_, rfl, ?_⟩
 replace hk := thenB hk hb8
 refine w_mv (ev (.tuple #[.string (str ([] : List (BitVec 8))), .int .i64 4]) rfl rfl) ?_
 refine w_val (y_ext (v := .string (str ([] : List (BitVec 8)))) (ev (.tuple #[.string (str ([] : List (BitVec 8))), .int .i64 4]) rfl rfl) rfl) ?_
 refine w_val (y_ext (v := .int .i64 4) (ev (.tuple #[.string (str ([] : List (BitVec 8))), .int .i64 4]) rfl rfl) rfl) ?_
 refine w_as (ev (.string (str ([] : List (BitVec 8)))) rfl rfl) ?_
 refine w_as (ev (.int .i64 4) rfl rfl) ?_
 refine nt ?_
 refine sr ?_
 refine w_mv (ev (.string (str key)) rfl rfl) ?_
 refine w_mv (ev (.string (str vi)) rfl rfl) ?_
 refine w_mv (ev (.string (str text)) rfl rfl) ?_
 refine w_call (Try.func26) (by kernel_rfl) rfl (m3 (ev (.string (str key)) rfl rfl) (ev (.string (str vi)) rfl rfl) (ev (.string (str text)) rfl rfl)) (unchain_i key vi hok hiv text w7) ?_
 rintro _ w9 ⟨rfl, hb10⟩
 refine ⟨_, rfl, ?_⟩
 replace hk := thenB hk hb10
 refine w_mv (ev (.tuple #[.string (str ([] : List (BitVec 8))), .int .i64 4]) rfl rfl) ?_
 refine w_val (y_ext (v := .string (str ([] : List (BitVec 8)))) (ev (.tuple #[.string (str ([] : List (BitVec 8))), .int .i64 4]) rfl rfl) rfl) ?_
 refine w_val (y_ext (v := .int .i64 4) (ev (.tuple #[.string (str ([] : List (BitVec 8))), .int .i64 4]) rfl rfl) rfl) ?_
 refine w_as (ev (.string (str ([] : List (BitVec 8)))) rfl rfl) ?_
 refine w_as (ev (.int .i64 4) rfl rfl) ?_
 refine nt ?_
 refine sr ?_
 refine w_mv (ev (.string (str key)) rfl rfl) ?_
 refine w_mv (ev (.string (str vi)) rfl rfl) ?_
 refine w_mv (ev (.string (str text)) rfl rfl) ?_
 refine w_call (Try.func27) (by kernel_rfl) rfl (m3 (ev (.string (str key)) rfl rfl) (ev (.string (str vi)) rfl rfl) (ev (.string (str text)) rfl rfl)) (refUnchain_i key vi hok hiv text w9) ?_
 rintro _ w11 ⟨rfl, hb12⟩
 refine ⟨_, rfl, ?_⟩
 replace hk := thenB hk hb12
 refine w_mv (ev (.tuple #[.string (str ([] : List (BitVec 8))), .int .i64 4]) rfl rfl) ?_
 refine w_val (y_ext (v := .string (str ([] : List (BitVec 8)))) (ev (.tuple #[.string (str ([] : List (BitVec 8))), .int .i64 4]) rfl rfl) rfl) ?_
 refine w_val (y_ext (v := .int .i64 4) (ev (.tuple #[.string (str ([] : List (BitVec 8))), .int .i64 4]) rfl rfl) rfl) ?_
 refine w_as (ev (.string (str ([] : List (BitVec 8)))) rfl rfl) ?_
 refine w_as (ev (.int .i64 4) rfl rfl) ?_
 refine nt ?_
 refine wp_seq ?_
 refine sr ?_
 refine w_mv (ev (.string (str ([] : List (BitVec 8)))) rfl rfl) ?_
 refine w_mv (ev (.string (str ([] : List (BitVec 8)))) rfl rfl) ?_
 refine w_val (y_bin (ev (.string (str ([] : List (BitVec 8)))) rfl rfl) (ev (.string (str ([] : List (BitVec 8)))) rfl rfl) b_nes_same) ?_
 refine w_mv (ev (.bool false) rfl rfl) ?_
 refine w_val_g (v := .int .i64 4) (want_yes (j := 3) rfl rfl (ev (.bool false) rfl rfl) rfl) (y_mv (ev (.int .i64 4) rfl rfl)) ?_
 refine w_val_g (v := .int .i64 4) (want_yes (j := 3) rfl rfl (ev (.bool false) rfl rfl) rfl) (y_mv (ev (.int .i64 4) rfl rfl)) ?_
 refine w_val_g (want_yes (j := 3) rfl rfl (ev (.bool false) rfl rfl) rfl) (y_bin (ev (.int .i64 4) rfl rfl) (ev (.int .i64 4) rfl rfl) b_neq) ?_
 refine w_val (y_pick_f (ev (.bool false) rfl rfl) (ev (.bool false) rfl rfl)) ?_
 refine w_mv (ev (.bool false) rfl rfl) ?_
 refine w_val_g (v := .string (str ([] : List (BitVec 8)))) (want_yes (j := 8) rfl rfl (ev (.bool false) rfl rfl) rfl) (y_mv (ev (.string (str ([] : List (BitVec 8)))) rfl rfl)) ?_
 refine w_val_g (v := .string (str ([] : List (BitVec 8)))) (want_yes (j := 8) rfl rfl (ev (.bool false) rfl rfl) rfl) (y_mv (ev (.string (str ([] : List (BitVec 8)))) rfl rfl)) ?_
 refine w_val_g (want_yes (j := 8) rfl rfl (ev (.bool false) rfl rfl) rfl) (y_bin (ev (.string (str ([] : List (BitVec 8)))) rfl rfl) (ev (.string (str ([] : List (BitVec 8)))) rfl rfl) b_nes_same) ?_
 refine w_val (y_pick_f (ev (.bool false) rfl rfl) (ev (.bool false) rfl rfl)) ?_
 refine w_mv (ev (.bool false) rfl rfl) ?_
 refine w_val_g (v := .int .i64 4) (want_yes (j := 13) rfl rfl (ev (.bool false) rfl rfl) rfl) (y_mv (ev (.int .i64 4) rfl rfl)) ?_
 refine w_val_g (v := .int .i64 4) (want_yes (j := 13) rfl rfl (ev (.bool false) rfl rfl) rfl) (y_mv (ev (.int .i64 4) rfl rfl)) ?_
 refine w_val_g (want_yes (j := 13) rfl rfl (ev (.bool false) rfl rfl) rfl) (y_bin (ev (.int .i64 4) rfl rfl) (ev (.int .i64 4) rfl rfl) b_neq) ?_
 refine w_val (y_pick_f (ev (.bool false) rfl rfl) (ev (.bool false) rfl rfl)) ?_
 refine nt ?_
 refine c_ff (ev (.bool false) rfl rfl) ?_
 refine wp_skip ?_
 refine then_n ?_
 refine sr ?_
 refine w_mv (ev (.string (str key)) rfl rfl) ?_
 refine w_mv (ev (.string (str vi)) rfl rfl) ?_
 refine w_mv (ev (.string (str ([] : List (BitVec 8)))) rfl rfl) ?_
 refine w_call (Try.func26) (by kernel_rfl) rfl (m3 (ev (.string (str key)) rfl rfl) (ev (.string (str vi)) rfl rfl) (ev (.string (str ([] : List (BitVec 8)))) rfl rfl)) (unchain_i key vi hok hiv [] w11) ?_
 rintro _ w13 ⟨rfl, hb14⟩
 refine ⟨_, rfl, ?_⟩
 replace hk := thenB hk hb14
 refine w_mv (ev (.tuple #[.string (str ([] : List (BitVec 8))), .int .i64 4]) rfl rfl) ?_
 refine w_val (y_ext (v := .string (str ([] : List (BitVec 8)))) (ev (.tuple #[.string (str ([] : List (BitVec 8))), .int .i64 4]) rfl rfl) rfl) ?_
 refine w_val (y_ext (v := .int .i64 4) (ev (.tuple #[.string (str ([] : List (BitVec 8))), .int .i64 4]) rfl rfl) rfl) ?_
 refine w_as (ev (.string (str ([] : List (BitVec 8)))) rfl rfl) ?_
 refine w_as (ev (.int .i64 4) rfl rfl) ?_
 refine nt ?_
 refine sr ?_
 refine w_mv (ev (.int .i64 4) rfl rfl) ?_
 refine w_val (y_bin (ev (.int .i64 4) rfl rfl) (evc (.int .i64 0)) b_neq) ?_
 refine w_mv (ev (.bool true) rfl rfl) ?_
 first | with_reducible refine w_skip ?_ ?_ | refine w_skip ?_ ?_
 · exact want_no (j := 2) rfl rfl (ev (.bool true) rfl rfl) rfl
 first | with_reducible refine w_skip ?_ ?_ | refine w_skip ?_ ?_
 · exact want_no (j := 2) rfl rfl (ev (.bool true) rfl rfl) rfl
 first | with_reducible refine w_skip ?_ ?_ | refine w_skip ?_ ?_
 · exact want_no (j := 2) rfl rfl (ev (.bool true) rfl rfl) rfl
 first | with_reducible refine w_skip ?_ ?_ | refine w_skip ?_ ?_
 · exact want_un (j := 5) rfl rfl (ev undef rfl rfl) rfl
 first | with_reducible refine w_skip ?_ ?_ | refine w_skip ?_ ?_
 · exact want_un (j := 5) rfl rfl (ev undef rfl rfl) rfl
 first | with_reducible refine w_skip ?_ ?_ | refine w_skip ?_ ?_
 · exact want_un (j := 5) rfl rfl (ev undef rfl rfl) rfl
 first | with_reducible refine w_skip ?_ ?_ | refine w_skip ?_ ?_
 · exact want_no (j := 2) rfl rfl (ev (.bool true) rfl rfl) rfl
 refine w_val (y_pick_t (ev (.bool true) rfl rfl) (evc (.bool true))) ?_
 refine w_as (ev (.bool true) rfl rfl) ?_
 refine nt ?_
 refine wp_ret ?_
 refine fin_ret1 rfl (ev (.bool true) rfl rfl) ?_
 exact ⟨rfl, hk⟩

set_option maxRecDepth 100000 in
set_option maxHeartbeats 1000000 in
theorem cbcChains_s (key vi : List (BitVec 8)) (hok : Aes.okKey key.length) (hiv : vi.length = 16) (text : List (BitVec 8)) (h : ¬ (3000 < text.length ∧ text.length ≤ 140000)) (hs : ¬ (text.length % 16 = 0 ∧ text.length ≤ 70016)) (w0 : World) : Calls Try.prog 4 #[.string (str key), .string (str vi), .string (str text)] w0 fun e w' => e = .returned (.bool true) ∧ Below w0.heap.size w0 w' := by
 refine enter (n := 85) Try.func4 rfl rfl rfl ?_
 have hk : Below w0.heap.size w0 w0 := Below.refl _ _
 refine sr ?_
 refine w_as (evc (.bool false)) ?_
 refine nt ?_
 refine wp_seq ?_
 refine sr ?_
 refine w_call (Try.func18) (by kernel_rfl) rfl m0 (cbcWakes_c  w0) ?_
 rintro _ w1 ⟨rfl, hb2⟩
 refine ⟨_, rfl, ?_⟩
 replace hk := thenB hk hb2
 refine w_val (y_not (ev (.bool true) rfl rfl)) ?_
 refine nt ?_
 refine c_ff (ev (.bool false) rfl rfl) ?_
 refine wp_skip ?_
 refine then_n ?_
 refine wp_seq ?_
 refine sr ?_
 refine w_mv (ev (.string (str text)) rfl rfl) ?_
 refine w_call (Try.func23) (by kernel_rfl) rfl (m1 (ev (.string (str text)) rfl rfl)) (long_f text h w1) ?_
 rintro _ w3 ⟨rfl, hb4⟩
 refine ⟨_, rfl, ?_⟩
 replace hk := thenB hk hb4
 refine nt ?_
 refine c_ff (ev (.bool false) rfl rfl) ?_
 refine wp_skip ?_
 refine then_n ?_
 refine sr ?_
 refine w_mv (ev (.string (str key)) rfl rfl) ?_
 refine w_mv (ev (.string (str vi)) rfl rfl) ?_
 refine w_mv (ev (.string (str text)) rfl rfl) ?_
 refine w_call (Try.func24) (by kernel_rfl) rfl (m3 (ev (.string (str key)) rfl rfl) (ev (.string (str vi)) rfl rfl) (ev (.string (str text)) rfl rfl)) (chain_s key vi hok hiv text hs w3) ?_
 rintro _ w5 ⟨rfl, hb6⟩
 refine ⟨_, rfl, ?_⟩
 replace hk := thenB hk hb6
 refine w_mv (ev (.tuple #[.string (str ([] : List (BitVec 8))), .int .i64 6]) rfl rfl) ?_
 refine w_val (y_ext (v := .string (str ([] : List (BitVec 8)))) (ev (.tuple #[.string (str ([] : List (BitVec 8))), .int .i64 6]) rfl rfl) rfl) ?_
 refine w_val (y_ext (v := .int .i64 6) (ev (.tuple #[.string (str ([] : List (BitVec 8))), .int .i64 6]) rfl rfl) rfl) ?_
 refine w_as (ev (.string (str ([] : List (BitVec 8)))) rfl rfl) ?_
 refine w_as (ev (.int .i64 6) rfl rfl) ?_
 refine nt ?_
 refine sr ?_
 refine w_mv (ev (.string (str key)) rfl rfl) ?_
 refine w_mv (ev (.string (str vi)) rfl rfl) ?_
 refine w_mv (ev (.string (str text)) rfl rfl) ?_
 refine w_call (Try.func25) (by kernel_rfl) rfl (m3 (ev (.string (str key)) rfl rfl) (ev (.string (str vi)) rfl rfl) (ev (.string (str text)) rfl rfl)) (refChain_s key vi hok hiv text hs w5) ?_
 rintro _ w7 ⟨rfl, hb8⟩
 refine ⟨_, rfl, ?_⟩
 replace hk := thenB hk hb8
 refine w_mv (ev (.tuple #[.string (str ([] : List (BitVec 8))), .int .i64 6]) rfl rfl) ?_
 refine w_val (y_ext (v := .string (str ([] : List (BitVec 8)))) (ev (.tuple #[.string (str ([] : List (BitVec 8))), .int .i64 6]) rfl rfl) rfl) ?_
 refine w_val (y_ext (v := .int .i64 6) (ev (.tuple #[.string (str ([] : List (BitVec 8))), .int .i64 6]) rfl rfl) rfl) ?_
 refine w_as (ev (.string (str ([] : List (BitVec 8)))) rfl rfl) ?_
 refine w_as (ev (.int .i64 6) rfl rfl) ?_
 refine nt ?_
 refine sr ?_
 refine w_mv (ev (.string (str key)) rfl rfl) ?_
 refine w_mv (ev (.string (str vi)) rfl rfl) ?_
 refine w_mv (ev (.string (str text)) rfl rfl) ?_
 refine w_call (Try.func26) (by kernel_rfl) rfl (m3 (ev (.string (str key)) rfl rfl) (ev (.string (str vi)) rfl rfl) (ev (.string (str text)) rfl rfl)) (unchain_s key vi hok hiv text hs w7) ?_
 rintro _ w9 ⟨rfl, hb10⟩
 refine ⟨_, rfl, ?_⟩
 replace hk := thenB hk hb10
 refine w_mv (ev (.tuple #[.string (str ([] : List (BitVec 8))), .int .i64 6]) rfl rfl) ?_
 refine w_val (y_ext (v := .string (str ([] : List (BitVec 8)))) (ev (.tuple #[.string (str ([] : List (BitVec 8))), .int .i64 6]) rfl rfl) rfl) ?_
 refine w_val (y_ext (v := .int .i64 6) (ev (.tuple #[.string (str ([] : List (BitVec 8))), .int .i64 6]) rfl rfl) rfl) ?_
 refine w_as (ev (.string (str ([] : List (BitVec 8)))) rfl rfl) ?_
 refine w_as (ev (.int .i64 6) rfl rfl) ?_
 refine nt ?_
 refine sr ?_
 refine w_mv (ev (.string (str key)) rfl rfl) ?_
 refine w_mv (ev (.string (str vi)) rfl rfl) ?_
 refine w_mv (ev (.string (str text)) rfl rfl) ?_
 refine w_call (Try.func27) (by kernel_rfl) rfl (m3 (ev (.string (str key)) rfl rfl) (ev (.string (str vi)) rfl rfl) (ev (.string (str text)) rfl rfl)) (refUnchain_s key vi hok hiv text hs w9) ?_
 rintro _ w11 ⟨rfl, hb12⟩
 refine ⟨_, rfl, ?_⟩
 replace hk := thenB hk hb12
 refine w_mv (ev (.tuple #[.string (str ([] : List (BitVec 8))), .int .i64 6]) rfl rfl) ?_
 refine w_val (y_ext (v := .string (str ([] : List (BitVec 8)))) (ev (.tuple #[.string (str ([] : List (BitVec 8))), .int .i64 6]) rfl rfl) rfl) ?_
 refine w_val (y_ext (v := .int .i64 6) (ev (.tuple #[.string (str ([] : List (BitVec 8))), .int .i64 6]) rfl rfl) rfl) ?_
 refine w_as (ev (.string (str ([] : List (BitVec 8)))) rfl rfl) ?_
 refine w_as (ev (.int .i64 6) rfl rfl) ?_
 refine nt ?_
 refine wp_seq ?_
 refine sr ?_
 refine w_mv (ev (.string (str ([] : List (BitVec 8)))) rfl rfl) ?_
 refine w_mv (ev (.string (str ([] : List (BitVec 8)))) rfl rfl) ?_
 refine w_val (y_bin (ev (.string (str ([] : List (BitVec 8)))) rfl rfl) (ev (.string (str ([] : List (BitVec 8)))) rfl rfl) b_nes_same) ?_
 refine w_mv (ev (.bool false) rfl rfl) ?_
 refine w_val_g (v := .int .i64 6) (want_yes (j := 3) rfl rfl (ev (.bool false) rfl rfl) rfl) (y_mv (ev (.int .i64 6) rfl rfl)) ?_
 refine w_val_g (v := .int .i64 6) (want_yes (j := 3) rfl rfl (ev (.bool false) rfl rfl) rfl) (y_mv (ev (.int .i64 6) rfl rfl)) ?_
 refine w_val_g (want_yes (j := 3) rfl rfl (ev (.bool false) rfl rfl) rfl) (y_bin (ev (.int .i64 6) rfl rfl) (ev (.int .i64 6) rfl rfl) b_neq) ?_
 refine w_val (y_pick_f (ev (.bool false) rfl rfl) (ev (.bool false) rfl rfl)) ?_
 refine w_mv (ev (.bool false) rfl rfl) ?_
 refine w_val_g (v := .string (str ([] : List (BitVec 8)))) (want_yes (j := 8) rfl rfl (ev (.bool false) rfl rfl) rfl) (y_mv (ev (.string (str ([] : List (BitVec 8)))) rfl rfl)) ?_
 refine w_val_g (v := .string (str ([] : List (BitVec 8)))) (want_yes (j := 8) rfl rfl (ev (.bool false) rfl rfl) rfl) (y_mv (ev (.string (str ([] : List (BitVec 8)))) rfl rfl)) ?_
 refine w_val_g (want_yes (j := 8) rfl rfl (ev (.bool false) rfl rfl) rfl) (y_bin (ev (.string (str ([] : List (BitVec 8)))) rfl rfl) (ev (.string (str ([] : List (BitVec 8)))) rfl rfl) b_nes_same) ?_
 refine w_val (y_pick_f (ev (.bool false) rfl rfl) (ev (.bool false) rfl rfl)) ?_
 refine w_mv (ev (.bool false) rfl rfl) ?_
 refine w_val_g (v := .int .i64 6) (want_yes (j := 13) rfl rfl (ev (.bool false) rfl rfl) rfl) (y_mv (ev (.int .i64 6) rfl rfl)) ?_
 refine w_val_g (v := .int .i64 6) (want_yes (j := 13) rfl rfl (ev (.bool false) rfl rfl) rfl) (y_mv (ev (.int .i64 6) rfl rfl)) ?_
 refine w_val_g (want_yes (j := 13) rfl rfl (ev (.bool false) rfl rfl) rfl) (y_bin (ev (.int .i64 6) rfl rfl) (ev (.int .i64 6) rfl rfl) b_neq) ?_
 refine w_val (y_pick_f (ev (.bool false) rfl rfl) (ev (.bool false) rfl rfl)) ?_
 refine nt ?_
 refine c_ff (ev (.bool false) rfl rfl) ?_
 refine wp_skip ?_
 refine then_n ?_
 refine sr ?_
 refine w_mv (ev (.string (str key)) rfl rfl) ?_
 refine w_mv (ev (.string (str vi)) rfl rfl) ?_
 refine w_mv (ev (.string (str ([] : List (BitVec 8)))) rfl rfl) ?_
 refine w_call (Try.func26) (by kernel_rfl) rfl (m3 (ev (.string (str key)) rfl rfl) (ev (.string (str vi)) rfl rfl) (ev (.string (str ([] : List (BitVec 8)))) rfl rfl)) (unchain_y key vi hok hiv [] (by decide) (by decide) w11) ?_
 rintro _ w13 ⟨rfl, hb14⟩
 refine ⟨_, rfl, ?_⟩
 replace hk := thenB hk hb14
 refine w_mv (ev (.tuple #[.string (str (Cb.unchain key vi [])), .int .i64 0]) rfl rfl) ?_
 refine w_val (y_ext (v := .string (str (Cb.unchain key vi []))) (ev (.tuple #[.string (str (Cb.unchain key vi [])), .int .i64 0]) rfl rfl) rfl) ?_
 refine w_val (y_ext (v := .int .i64 0) (ev (.tuple #[.string (str (Cb.unchain key vi [])), .int .i64 0]) rfl rfl) rfl) ?_
 refine w_as (ev (.string (str (Cb.unchain key vi []))) rfl rfl) ?_
 refine w_as (ev (.int .i64 0) rfl rfl) ?_
 refine nt ?_
 refine sr ?_
 refine w_mv (ev (.int .i64 6) rfl rfl) ?_
 refine w_val (y_bin (ev (.int .i64 6) rfl rfl) (evc (.int .i64 0)) b_neq) ?_
 refine w_mv (ev (.bool true) rfl rfl) ?_
 first | with_reducible refine w_skip ?_ ?_ | refine w_skip ?_ ?_
 · exact want_no (j := 2) rfl rfl (ev (.bool true) rfl rfl) rfl
 first | with_reducible refine w_skip ?_ ?_ | refine w_skip ?_ ?_
 · exact want_no (j := 2) rfl rfl (ev (.bool true) rfl rfl) rfl
 first | with_reducible refine w_skip ?_ ?_ | refine w_skip ?_ ?_
 · exact want_no (j := 2) rfl rfl (ev (.bool true) rfl rfl) rfl
 first | with_reducible refine w_skip ?_ ?_ | refine w_skip ?_ ?_
 · exact want_un (j := 5) rfl rfl (ev undef rfl rfl) rfl
 first | with_reducible refine w_skip ?_ ?_ | refine w_skip ?_ ?_
 · exact want_un (j := 5) rfl rfl (ev undef rfl rfl) rfl
 first | with_reducible refine w_skip ?_ ?_ | refine w_skip ?_ ?_
 · exact want_un (j := 5) rfl rfl (ev undef rfl rfl) rfl
 first | with_reducible refine w_skip ?_ ?_ | refine w_skip ?_ ?_
 · exact want_no (j := 2) rfl rfl (ev (.bool true) rfl rfl) rfl
 refine w_val (y_pick_t (ev (.bool true) rfl rfl) (evc (.bool true))) ?_
 refine w_as (ev (.bool true) rfl rfl) ?_
 refine nt ?_
 refine wp_ret ?_
 refine fin_ret1 rfl (ev (.bool true) rfl rfl) ?_
 exact ⟨rfl, hk⟩

set_option maxRecDepth 100000 in
set_option maxHeartbeats 1000000 in
theorem cbcChains_0 (key vi : List (BitVec 8)) (hok : Aes.okKey key.length) (hiv : vi.length = 16) (text : List (BitVec 8)) (h : ¬ (3000 < text.length ∧ text.length ≤ 140000)) (ht : text.length % 16 = 0) (hs : text.length ≤ 70016) (h0 : text.length = 0) (w0 : World) : Calls Try.prog 4 #[.string (str key), .string (str vi), .string (str text)] w0 fun e w' => e = .returned (.bool true) ∧ Below w0.heap.size w0 w' := by
 refine enter (n := 85) Try.func4 rfl rfl rfl ?_
 have hk : Below w0.heap.size w0 w0 := Below.refl _ _
 refine sr ?_
 refine w_as (evc (.bool false)) ?_
 refine nt ?_
 refine wp_seq ?_
 refine sr ?_
 refine w_call (Try.func18) (by kernel_rfl) rfl m0 (cbcWakes_c  w0) ?_
 rintro _ w1 ⟨rfl, hb2⟩
 refine ⟨_, rfl, ?_⟩
 replace hk := thenB hk hb2
 refine w_val (y_not (ev (.bool true) rfl rfl)) ?_
 refine nt ?_
 refine c_ff (ev (.bool false) rfl rfl) ?_
 refine wp_skip ?_
 refine then_n ?_
 refine wp_seq ?_
 refine sr ?_
 refine w_mv (ev (.string (str text)) rfl rfl) ?_
 refine w_call (Try.func23) (by kernel_rfl) rfl (m1 (ev (.string (str text)) rfl rfl)) (long_f text h w1) ?_
 rintro _ w3 ⟨rfl, hb4⟩
 refine ⟨_, rfl, ?_⟩
 replace hk := thenB hk hb4
 refine nt ?_
 refine c_ff (ev (.bool false) rfl rfl) ?_
 refine wp_skip ?_
 refine then_n ?_
 refine sr ?_
 refine w_mv (ev (.string (str key)) rfl rfl) ?_
 refine w_mv (ev (.string (str vi)) rfl rfl) ?_
 refine w_mv (ev (.string (str text)) rfl rfl) ?_
 refine w_call (Try.func24) (by kernel_rfl) rfl (m3 (ev (.string (str key)) rfl rfl) (ev (.string (str vi)) rfl rfl) (ev (.string (str text)) rfl rfl)) (chain_y key vi hok hiv text ht (by omega) w3) ?_
 rintro _ w5 ⟨rfl, hb6⟩
 refine ⟨_, rfl, ?_⟩
 replace hk := thenB hk hb6
 refine w_mv (ev (.tuple #[.string (str (Cb.chain key vi text)), .int .i64 0]) rfl rfl) ?_
 refine w_val (y_ext (v := .string (str (Cb.chain key vi text))) (ev (.tuple #[.string (str (Cb.chain key vi text)), .int .i64 0]) rfl rfl) rfl) ?_
 refine w_val (y_ext (v := .int .i64 0) (ev (.tuple #[.string (str (Cb.chain key vi text)), .int .i64 0]) rfl rfl) rfl) ?_
 refine w_as (ev (.string (str (Cb.chain key vi text))) rfl rfl) ?_
 refine w_as (ev (.int .i64 0) rfl rfl) ?_
 refine nt ?_
 refine sr ?_
 refine w_mv (ev (.string (str key)) rfl rfl) ?_
 refine w_mv (ev (.string (str vi)) rfl rfl) ?_
 refine w_mv (ev (.string (str text)) rfl rfl) ?_
 refine w_call (Try.func25) (by kernel_rfl) rfl (m3 (ev (.string (str key)) rfl rfl) (ev (.string (str vi)) rfl rfl) (ev (.string (str text)) rfl rfl)) (refChain_0 key vi hok hiv text h0 w5) ?_
 rintro _ w7 ⟨rfl, hb8⟩
 refine ⟨_, rfl, ?_⟩
 replace hk := thenB hk hb8
 refine w_mv (ev (.tuple #[.string (str (Cb.chain key vi text)), .int .i64 0]) rfl rfl) ?_
 refine w_val (y_ext (v := .string (str (Cb.chain key vi text))) (ev (.tuple #[.string (str (Cb.chain key vi text)), .int .i64 0]) rfl rfl) rfl) ?_
 refine w_val (y_ext (v := .int .i64 0) (ev (.tuple #[.string (str (Cb.chain key vi text)), .int .i64 0]) rfl rfl) rfl) ?_
 refine w_as (ev (.string (str (Cb.chain key vi text))) rfl rfl) ?_
 refine w_as (ev (.int .i64 0) rfl rfl) ?_
 refine nt ?_
 refine sr ?_
 refine w_mv (ev (.string (str key)) rfl rfl) ?_
 refine w_mv (ev (.string (str vi)) rfl rfl) ?_
 refine w_mv (ev (.string (str text)) rfl rfl) ?_
 refine w_call (Try.func26) (by kernel_rfl) rfl (m3 (ev (.string (str key)) rfl rfl) (ev (.string (str vi)) rfl rfl) (ev (.string (str text)) rfl rfl)) (unchain_y key vi hok hiv text ht (by omega) w7) ?_
 rintro _ w9 ⟨rfl, hb10⟩
 refine ⟨_, rfl, ?_⟩
 replace hk := thenB hk hb10
 refine w_mv (ev (.tuple #[.string (str (Cb.unchain key vi text)), .int .i64 0]) rfl rfl) ?_
 refine w_val (y_ext (v := .string (str (Cb.unchain key vi text))) (ev (.tuple #[.string (str (Cb.unchain key vi text)), .int .i64 0]) rfl rfl) rfl) ?_
 refine w_val (y_ext (v := .int .i64 0) (ev (.tuple #[.string (str (Cb.unchain key vi text)), .int .i64 0]) rfl rfl) rfl) ?_
 refine w_as (ev (.string (str (Cb.unchain key vi text))) rfl rfl) ?_
 refine w_as (ev (.int .i64 0) rfl rfl) ?_
 refine nt ?_
 refine sr ?_
 refine w_mv (ev (.string (str key)) rfl rfl) ?_
 refine w_mv (ev (.string (str vi)) rfl rfl) ?_
 refine w_mv (ev (.string (str text)) rfl rfl) ?_
 refine w_call (Try.func27) (by kernel_rfl) rfl (m3 (ev (.string (str key)) rfl rfl) (ev (.string (str vi)) rfl rfl) (ev (.string (str text)) rfl rfl)) (refUnchain_y key vi hok hiv text ht (by omega) w9) ?_
 rintro _ w11 ⟨rfl, hb12⟩
 refine ⟨_, rfl, ?_⟩
 replace hk := thenB hk hb12
 refine w_mv (ev (.tuple #[.string (str (Cb.unchain key vi text)), .int .i64 0]) rfl rfl) ?_
 refine w_val (y_ext (v := .string (str (Cb.unchain key vi text))) (ev (.tuple #[.string (str (Cb.unchain key vi text)), .int .i64 0]) rfl rfl) rfl) ?_
 refine w_val (y_ext (v := .int .i64 0) (ev (.tuple #[.string (str (Cb.unchain key vi text)), .int .i64 0]) rfl rfl) rfl) ?_
 refine w_as (ev (.string (str (Cb.unchain key vi text))) rfl rfl) ?_
 refine w_as (ev (.int .i64 0) rfl rfl) ?_
 refine nt ?_
 refine wp_seq ?_
 refine sr ?_
 refine w_mv (ev (.string (str (Cb.chain key vi text))) rfl rfl) ?_
 refine w_mv (ev (.string (str (Cb.chain key vi text))) rfl rfl) ?_
 refine w_val (y_bin (ev (.string (str (Cb.chain key vi text))) rfl rfl) (ev (.string (str (Cb.chain key vi text))) rfl rfl) b_nes_same) ?_
 refine w_mv (ev (.bool false) rfl rfl) ?_
 refine w_val_g (v := .int .i64 0) (want_yes (j := 3) rfl rfl (ev (.bool false) rfl rfl) rfl) (y_mv (ev (.int .i64 0) rfl rfl)) ?_
 refine w_val_g (v := .int .i64 0) (want_yes (j := 3) rfl rfl (ev (.bool false) rfl rfl) rfl) (y_mv (ev (.int .i64 0) rfl rfl)) ?_
 refine w_val_g (want_yes (j := 3) rfl rfl (ev (.bool false) rfl rfl) rfl) (y_bin (ev (.int .i64 0) rfl rfl) (ev (.int .i64 0) rfl rfl) b_neq) ?_
 refine w_val (y_pick_f (ev (.bool false) rfl rfl) (ev (.bool false) rfl rfl)) ?_
 refine w_mv (ev (.bool false) rfl rfl) ?_
 refine w_val_g (v := .string (str (Cb.unchain key vi text))) (want_yes (j := 8) rfl rfl (ev (.bool false) rfl rfl) rfl) (y_mv (ev (.string (str (Cb.unchain key vi text))) rfl rfl)) ?_
 refine w_val_g (v := .string (str (Cb.unchain key vi text))) (want_yes (j := 8) rfl rfl (ev (.bool false) rfl rfl) rfl) (y_mv (ev (.string (str (Cb.unchain key vi text))) rfl rfl)) ?_
 refine w_val_g (want_yes (j := 8) rfl rfl (ev (.bool false) rfl rfl) rfl) (y_bin (ev (.string (str (Cb.unchain key vi text))) rfl rfl) (ev (.string (str (Cb.unchain key vi text))) rfl rfl) b_nes_same) ?_
 refine w_val (y_pick_f (ev (.bool false) rfl rfl) (ev (.bool false) rfl rfl)) ?_
 refine w_mv (ev (.bool false) rfl rfl) ?_
 refine w_val_g (v := .int .i64 0) (want_yes (j := 13) rfl rfl (ev (.bool false) rfl rfl) rfl) (y_mv (ev (.int .i64 0) rfl rfl)) ?_
 refine w_val_g (v := .int .i64 0) (want_yes (j := 13) rfl rfl (ev (.bool false) rfl rfl) rfl) (y_mv (ev (.int .i64 0) rfl rfl)) ?_
 refine w_val_g (want_yes (j := 13) rfl rfl (ev (.bool false) rfl rfl) rfl) (y_bin (ev (.int .i64 0) rfl rfl) (ev (.int .i64 0) rfl rfl) b_neq) ?_
 refine w_val (y_pick_f (ev (.bool false) rfl rfl) (ev (.bool false) rfl rfl)) ?_
 refine nt ?_
 refine c_ff (ev (.bool false) rfl rfl) ?_
 refine wp_skip ?_
 refine then_n ?_
 refine sr ?_
 refine w_mv (ev (.string (str key)) rfl rfl) ?_
 refine w_mv (ev (.string (str vi)) rfl rfl) ?_
 refine w_mv (ev (.string (str (Cb.chain key vi text))) rfl rfl) ?_
 refine w_call (Try.func26) (by kernel_rfl) rfl (m3 (ev (.string (str key)) rfl rfl) (ev (.string (str vi)) rfl rfl) (ev (.string (str (Cb.chain key vi text))) rfl rfl)) (unchainBack key vi hok hiv text ht (by omega) w11) ?_
 rintro _ w13 ⟨rfl, hb14⟩
 refine ⟨_, rfl, ?_⟩
 replace hk := thenB hk hb14
 refine w_mv (ev (.tuple #[.string (str text), .int .i64 0]) rfl rfl) ?_
 refine w_val (y_ext (v := .string (str text)) (ev (.tuple #[.string (str text), .int .i64 0]) rfl rfl) rfl) ?_
 refine w_val (y_ext (v := .int .i64 0) (ev (.tuple #[.string (str text), .int .i64 0]) rfl rfl) rfl) ?_
 refine w_as (ev (.string (str text)) rfl rfl) ?_
 refine w_as (ev (.int .i64 0) rfl rfl) ?_
 refine nt ?_
 refine sr ?_
 refine w_mv (ev (.int .i64 0) rfl rfl) ?_
 refine w_val (y_bin (ev (.int .i64 0) rfl rfl) (evc (.int .i64 0)) b_neq) ?_
 refine w_mv (ev (.bool false) rfl rfl) ?_
 refine w_val_g (v := .int .i64 0) (want_yes (j := 2) rfl rfl (ev (.bool false) rfl rfl) rfl) (y_mv (ev (.int .i64 0) rfl rfl)) ?_
 refine w_val_g (want_yes (j := 2) rfl rfl (ev (.bool false) rfl rfl) rfl) (y_bin (ev (.int .i64 0) rfl rfl) (evc (.int .i64 0)) b_eql) ?_
 refine w_val_g (v := .bool true) (want_yes (j := 2) rfl rfl (ev (.bool false) rfl rfl) rfl) (y_mv (ev (.bool true) rfl rfl)) ?_
 refine w_val_g (v := .string (str text)) (want_yes (j := 5) rfl rfl (ev (.bool true) rfl rfl) rfl) (y_mv (ev (.string (str text)) rfl rfl)) ?_
 refine w_val_g (v := .string (str text)) (want_yes (j := 5) rfl rfl (ev (.bool true) rfl rfl) rfl) (y_mv (ev (.string (str text)) rfl rfl)) ?_
 refine w_val_g (want_yes (j := 5) rfl rfl (ev (.bool true) rfl rfl) rfl) (y_bin (ev (.string (str text)) rfl rfl) (ev (.string (str text)) rfl rfl) b_eqs_same) ?_
 refine w_val_g (want_yes (j := 2) rfl rfl (ev (.bool false) rfl rfl) rfl) (y_pick_t (ev (.bool true) rfl rfl) (ev (.bool true) rfl rfl)) ?_
 refine w_val (y_pick_f (ev (.bool false) rfl rfl) (ev (.bool true) rfl rfl)) ?_
 refine w_as (ev (.bool true) rfl rfl) ?_
 refine nt ?_
 refine wp_ret ?_
 refine fin_ret1 rfl (ev (.bool true) rfl rfl) ?_
 exact ⟨rfl, hk⟩

set_option maxRecDepth 100000 in
set_option maxHeartbeats 1000000 in
theorem cbcChains_y (key vi : List (BitVec 8)) (hok : Aes.okKey key.length) (hiv : vi.length = 16) (text : List (BitVec 8)) (h : ¬ (3000 < text.length ∧ text.length ≤ 140000)) (ht : text.length % 16 = 0) (hs : text.length ≤ 70016) (h0 : 16 ≤ text.length) (w0 : World) : Calls Try.prog 4 #[.string (str key), .string (str vi), .string (str text)] w0 fun e w' => e = .returned (.bool true) ∧ Below w0.heap.size w0 w' := by
 refine enter (n := 85) Try.func4 rfl rfl rfl ?_
 have hk : Below w0.heap.size w0 w0 := Below.refl _ _
 refine sr ?_
 refine w_as (evc (.bool false)) ?_
 refine nt ?_
 refine wp_seq ?_
 refine sr ?_
 refine w_call (Try.func18) (by kernel_rfl) rfl m0 (cbcWakes_c  w0) ?_
 rintro _ w1 ⟨rfl, hb2⟩
 refine ⟨_, rfl, ?_⟩
 replace hk := thenB hk hb2
 refine w_val (y_not (ev (.bool true) rfl rfl)) ?_
 refine nt ?_
 refine c_ff (ev (.bool false) rfl rfl) ?_
 refine wp_skip ?_
 refine then_n ?_
 refine wp_seq ?_
 refine sr ?_
 refine w_mv (ev (.string (str text)) rfl rfl) ?_
 refine w_call (Try.func23) (by kernel_rfl) rfl (m1 (ev (.string (str text)) rfl rfl)) (long_f text h w1) ?_
 rintro _ w3 ⟨rfl, hb4⟩
 refine ⟨_, rfl, ?_⟩
 replace hk := thenB hk hb4
 refine nt ?_
 refine c_ff (ev (.bool false) rfl rfl) ?_
 refine wp_skip ?_
 refine then_n ?_
 refine sr ?_
 refine w_mv (ev (.string (str key)) rfl rfl) ?_
 refine w_mv (ev (.string (str vi)) rfl rfl) ?_
 refine w_mv (ev (.string (str text)) rfl rfl) ?_
 refine w_call (Try.func24) (by kernel_rfl) rfl (m3 (ev (.string (str key)) rfl rfl) (ev (.string (str vi)) rfl rfl) (ev (.string (str text)) rfl rfl)) (chain_y key vi hok hiv text ht (by omega) w3) ?_
 rintro _ w5 ⟨rfl, hb6⟩
 refine ⟨_, rfl, ?_⟩
 replace hk := thenB hk hb6
 refine w_mv (ev (.tuple #[.string (str (Cb.chain key vi text)), .int .i64 0]) rfl rfl) ?_
 refine w_val (y_ext (v := .string (str (Cb.chain key vi text))) (ev (.tuple #[.string (str (Cb.chain key vi text)), .int .i64 0]) rfl rfl) rfl) ?_
 refine w_val (y_ext (v := .int .i64 0) (ev (.tuple #[.string (str (Cb.chain key vi text)), .int .i64 0]) rfl rfl) rfl) ?_
 refine w_as (ev (.string (str (Cb.chain key vi text))) rfl rfl) ?_
 refine w_as (ev (.int .i64 0) rfl rfl) ?_
 refine nt ?_
 refine sr ?_
 refine w_mv (ev (.string (str key)) rfl rfl) ?_
 refine w_mv (ev (.string (str vi)) rfl rfl) ?_
 refine w_mv (ev (.string (str text)) rfl rfl) ?_
 refine w_call (Try.func25) (by kernel_rfl) rfl (m3 (ev (.string (str key)) rfl rfl) (ev (.string (str vi)) rfl rfl) (ev (.string (str text)) rfl rfl)) (refChain_y key vi hok hiv text ht (by omega) (by omega) w5) ?_
 rintro _ w7 ⟨rfl, hb8⟩
 refine ⟨_, rfl, ?_⟩
 replace hk := thenB hk hb8
 refine w_mv (ev (.tuple #[.string (str (Cb.chain key vi text)), .int .i64 0]) rfl rfl) ?_
 refine w_val (y_ext (v := .string (str (Cb.chain key vi text))) (ev (.tuple #[.string (str (Cb.chain key vi text)), .int .i64 0]) rfl rfl) rfl) ?_
 refine w_val (y_ext (v := .int .i64 0) (ev (.tuple #[.string (str (Cb.chain key vi text)), .int .i64 0]) rfl rfl) rfl) ?_
 refine w_as (ev (.string (str (Cb.chain key vi text))) rfl rfl) ?_
 refine w_as (ev (.int .i64 0) rfl rfl) ?_
 refine nt ?_
 refine sr ?_
 refine w_mv (ev (.string (str key)) rfl rfl) ?_
 refine w_mv (ev (.string (str vi)) rfl rfl) ?_
 refine w_mv (ev (.string (str text)) rfl rfl) ?_
 refine w_call (Try.func26) (by kernel_rfl) rfl (m3 (ev (.string (str key)) rfl rfl) (ev (.string (str vi)) rfl rfl) (ev (.string (str text)) rfl rfl)) (unchain_y key vi hok hiv text ht (by omega) w7) ?_
 rintro _ w9 ⟨rfl, hb10⟩
 refine ⟨_, rfl, ?_⟩
 replace hk := thenB hk hb10
 refine w_mv (ev (.tuple #[.string (str (Cb.unchain key vi text)), .int .i64 0]) rfl rfl) ?_
 refine w_val (y_ext (v := .string (str (Cb.unchain key vi text))) (ev (.tuple #[.string (str (Cb.unchain key vi text)), .int .i64 0]) rfl rfl) rfl) ?_
 refine w_val (y_ext (v := .int .i64 0) (ev (.tuple #[.string (str (Cb.unchain key vi text)), .int .i64 0]) rfl rfl) rfl) ?_
 refine w_as (ev (.string (str (Cb.unchain key vi text))) rfl rfl) ?_
 refine w_as (ev (.int .i64 0) rfl rfl) ?_
 refine nt ?_
 refine sr ?_
 refine w_mv (ev (.string (str key)) rfl rfl) ?_
 refine w_mv (ev (.string (str vi)) rfl rfl) ?_
 refine w_mv (ev (.string (str text)) rfl rfl) ?_
 refine w_call (Try.func27) (by kernel_rfl) rfl (m3 (ev (.string (str key)) rfl rfl) (ev (.string (str vi)) rfl rfl) (ev (.string (str text)) rfl rfl)) (refUnchain_y key vi hok hiv text ht (by omega) w9) ?_
 rintro _ w11 ⟨rfl, hb12⟩
 refine ⟨_, rfl, ?_⟩
 replace hk := thenB hk hb12
 refine w_mv (ev (.tuple #[.string (str (Cb.unchain key vi text)), .int .i64 0]) rfl rfl) ?_
 refine w_val (y_ext (v := .string (str (Cb.unchain key vi text))) (ev (.tuple #[.string (str (Cb.unchain key vi text)), .int .i64 0]) rfl rfl) rfl) ?_
 refine w_val (y_ext (v := .int .i64 0) (ev (.tuple #[.string (str (Cb.unchain key vi text)), .int .i64 0]) rfl rfl) rfl) ?_
 refine w_as (ev (.string (str (Cb.unchain key vi text))) rfl rfl) ?_
 refine w_as (ev (.int .i64 0) rfl rfl) ?_
 refine nt ?_
 refine wp_seq ?_
 refine sr ?_
 refine w_mv (ev (.string (str (Cb.chain key vi text))) rfl rfl) ?_
 refine w_mv (ev (.string (str (Cb.chain key vi text))) rfl rfl) ?_
 refine w_val (y_bin (ev (.string (str (Cb.chain key vi text))) rfl rfl) (ev (.string (str (Cb.chain key vi text))) rfl rfl) b_nes_same) ?_
 refine w_mv (ev (.bool false) rfl rfl) ?_
 refine w_val_g (v := .int .i64 0) (want_yes (j := 3) rfl rfl (ev (.bool false) rfl rfl) rfl) (y_mv (ev (.int .i64 0) rfl rfl)) ?_
 refine w_val_g (v := .int .i64 0) (want_yes (j := 3) rfl rfl (ev (.bool false) rfl rfl) rfl) (y_mv (ev (.int .i64 0) rfl rfl)) ?_
 refine w_val_g (want_yes (j := 3) rfl rfl (ev (.bool false) rfl rfl) rfl) (y_bin (ev (.int .i64 0) rfl rfl) (ev (.int .i64 0) rfl rfl) b_neq) ?_
 refine w_val (y_pick_f (ev (.bool false) rfl rfl) (ev (.bool false) rfl rfl)) ?_
 refine w_mv (ev (.bool false) rfl rfl) ?_
 refine w_val_g (v := .string (str (Cb.unchain key vi text))) (want_yes (j := 8) rfl rfl (ev (.bool false) rfl rfl) rfl) (y_mv (ev (.string (str (Cb.unchain key vi text))) rfl rfl)) ?_
 refine w_val_g (v := .string (str (Cb.unchain key vi text))) (want_yes (j := 8) rfl rfl (ev (.bool false) rfl rfl) rfl) (y_mv (ev (.string (str (Cb.unchain key vi text))) rfl rfl)) ?_
 refine w_val_g (want_yes (j := 8) rfl rfl (ev (.bool false) rfl rfl) rfl) (y_bin (ev (.string (str (Cb.unchain key vi text))) rfl rfl) (ev (.string (str (Cb.unchain key vi text))) rfl rfl) b_nes_same) ?_
 refine w_val (y_pick_f (ev (.bool false) rfl rfl) (ev (.bool false) rfl rfl)) ?_
 refine w_mv (ev (.bool false) rfl rfl) ?_
 refine w_val_g (v := .int .i64 0) (want_yes (j := 13) rfl rfl (ev (.bool false) rfl rfl) rfl) (y_mv (ev (.int .i64 0) rfl rfl)) ?_
 refine w_val_g (v := .int .i64 0) (want_yes (j := 13) rfl rfl (ev (.bool false) rfl rfl) rfl) (y_mv (ev (.int .i64 0) rfl rfl)) ?_
 refine w_val_g (want_yes (j := 13) rfl rfl (ev (.bool false) rfl rfl) rfl) (y_bin (ev (.int .i64 0) rfl rfl) (ev (.int .i64 0) rfl rfl) b_neq) ?_
 refine w_val (y_pick_f (ev (.bool false) rfl rfl) (ev (.bool false) rfl rfl)) ?_
 refine nt ?_
 refine c_ff (ev (.bool false) rfl rfl) ?_
 refine wp_skip ?_
 refine then_n ?_
 refine sr ?_
 refine w_mv (ev (.string (str key)) rfl rfl) ?_
 refine w_mv (ev (.string (str vi)) rfl rfl) ?_
 refine w_mv (ev (.string (str (Cb.chain key vi text))) rfl rfl) ?_
 refine w_call (Try.func26) (by kernel_rfl) rfl (m3 (ev (.string (str key)) rfl rfl) (ev (.string (str vi)) rfl rfl) (ev (.string (str (Cb.chain key vi text))) rfl rfl)) (unchainBack key vi hok hiv text ht (by omega) w11) ?_
 rintro _ w13 ⟨rfl, hb14⟩
 refine ⟨_, rfl, ?_⟩
 replace hk := thenB hk hb14
 refine w_mv (ev (.tuple #[.string (str text), .int .i64 0]) rfl rfl) ?_
 refine w_val (y_ext (v := .string (str text)) (ev (.tuple #[.string (str text), .int .i64 0]) rfl rfl) rfl) ?_
 refine w_val (y_ext (v := .int .i64 0) (ev (.tuple #[.string (str text), .int .i64 0]) rfl rfl) rfl) ?_
 refine w_as (ev (.string (str text)) rfl rfl) ?_
 refine w_as (ev (.int .i64 0) rfl rfl) ?_
 refine nt ?_
 refine sr ?_
 refine w_mv (ev (.int .i64 0) rfl rfl) ?_
 refine w_val (y_bin (ev (.int .i64 0) rfl rfl) (evc (.int .i64 0)) b_neq) ?_
 refine w_mv (ev (.bool false) rfl rfl) ?_
 refine w_val_g (v := .int .i64 0) (want_yes (j := 2) rfl rfl (ev (.bool false) rfl rfl) rfl) (y_mv (ev (.int .i64 0) rfl rfl)) ?_
 refine w_val_g (want_yes (j := 2) rfl rfl (ev (.bool false) rfl rfl) rfl) (y_bin (ev (.int .i64 0) rfl rfl) (evc (.int .i64 0)) b_eql) ?_
 refine w_val_g (v := .bool true) (want_yes (j := 2) rfl rfl (ev (.bool false) rfl rfl) rfl) (y_mv (ev (.bool true) rfl rfl)) ?_
 refine w_val_g (v := .string (str text)) (want_yes (j := 5) rfl rfl (ev (.bool true) rfl rfl) rfl) (y_mv (ev (.string (str text)) rfl rfl)) ?_
 refine w_val_g (v := .string (str text)) (want_yes (j := 5) rfl rfl (ev (.bool true) rfl rfl) rfl) (y_mv (ev (.string (str text)) rfl rfl)) ?_
 refine w_val_g (want_yes (j := 5) rfl rfl (ev (.bool true) rfl rfl) rfl) (y_bin (ev (.string (str text)) rfl rfl) (ev (.string (str text)) rfl rfl) b_eqs_same) ?_
 refine w_val_g (want_yes (j := 2) rfl rfl (ev (.bool false) rfl rfl) rfl) (y_pick_t (ev (.bool true) rfl rfl) (ev (.bool true) rfl rfl)) ?_
 refine w_val (y_pick_f (ev (.bool false) rfl rfl) (ev (.bool true) rfl rfl)) ?_
 refine w_as (ev (.bool true) rfl rfl) ?_
 refine nt ?_
 refine wp_ret ?_
 refine fin_ret1 rfl (ev (.bool true) rfl rfl) ?_
 exact ⟨rfl, hk⟩

theorem walk_CbcChains (key : List (BitVec 8)) (hkey : key.length ≤ 140737488351232) (vi : List (BitVec 8)) (hvi : vi.length ≤ 140737488351232) (text : List (BitVec 8)) (ht : text.length ≤ 140737488351232) (w : World) : Calls Try.prog 4 #[.string (str key), .string (str vi), .string (str text)] w fun e w' => e = .returned (.bool true) ∧ Below w.heap.size w w' := by
  by_cases h : 3000 < text.length ∧ text.length ≤ 140000
  · exact cbcChains_l key vi text h w
  · by_cases hok : Aes.okKey key.length
    · by_cases hiv : vi.length = 16
      · by_cases hs : text.length % 16 = 0 ∧ text.length ≤ 70016
        · by_cases h0 : text.length = 0
          · exact cbcChains_0 key vi hok hiv text h hs.1 hs.2 h0 w
          · exact cbcChains_y key vi hok hiv text h hs.1 hs.2 (by omega) w
        · exact cbcChains_s key vi hok hiv text h hs w
      · exact cbcChains_i key vi hok hiv text h w
    · exact cbcChains_k key vi hok text h w

set_option maxRecDepth 100000 in
set_option maxHeartbeats 1000000 in
theorem cbcSeals_l (key vi : List (BitVec 8)) (text : List (BitVec 8)) (h : 3000 < text.length ∧ text.length ≤ 140000) (w0 : World) : Calls Try.prog 5 #[.string (str key), .string (str vi), .string (str text)] w0 fun e w' => e = .returned (.bool true) ∧ Below w0.heap.size w0 w' := by
 refine enter (n := 57) Try.func5 rfl rfl rfl ?_
 have hk : Below w0.heap.size w0 w0 := Below.refl _ _
 refine sr ?_
 refine w_as (evc (.bool false)) ?_
 refine nt ?_
 refine wp_seq ?_
 refine sr ?_
 refine w_call (Try.func18) (by kernel_rfl) rfl m0 (cbcWakes_c  w0) ?_
 rintro _ w1 ⟨rfl, hb2⟩
 refine ⟨_, rfl, ?_⟩
 replace hk := thenB hk hb2
 refine w_val (y_not (ev (.bool true) rfl rfl)) ?_
 refine nt ?_
 refine c_ff (ev (.bool false) rfl rfl) ?_
 refine wp_skip ?_
 refine then_n ?_
 refine wp_seq ?_
 refine sr ?_
 refine w_mv (ev (.string (str text)) rfl rfl) ?_
 refine w_call (Try.func23) (by kernel_rfl) rfl (m1 (ev (.string (str text)) rfl rfl)) (long_t text h w1) ?_
 rintro _ w3 ⟨rfl, hb4⟩
 refine ⟨_, rfl, ?_⟩
 replace hk := thenB hk hb4
 refine nt ?_
 refine c_tt (ev (.bool true) rfl rfl) ?_
 refine sr ?_
 refine w_as (evc (.bool true)) ?_
 refine nt ?_
 refine wp_ret ?_
 refine then_r ?_
 refine fin_ret1 rfl (ev (.bool true) rfl rfl) ?_
 exact ⟨rfl, hk⟩

set_option maxRecDepth 100000 in
set_option maxHeartbeats 1000000 in
theorem cbcSeals_k (key vi : List (BitVec 8)) (hok : ¬ Aes.okKey key.length) (text : List (BitVec 8)) (h : ¬ (3000 < text.length ∧ text.length ≤ 140000)) (w0 : World) : Calls Try.prog 5 #[.string (str key), .string (str vi), .string (str text)] w0 fun e w' => e = .returned (.bool true) ∧ Below w0.heap.size w0 w' := by
 refine enter (n := 57) Try.func5 rfl rfl rfl ?_
 have hk : Below w0.heap.size w0 w0 := Below.refl _ _
 refine sr ?_
 refine w_as (evc (.bool false)) ?_
 refine nt ?_
 refine wp_seq ?_
 refine sr ?_
 refine w_call (Try.func18) (by kernel_rfl) rfl m0 (cbcWakes_c  w0) ?_
 rintro _ w1 ⟨rfl, hb2⟩
 refine ⟨_, rfl, ?_⟩
 replace hk := thenB hk hb2
 refine w_val (y_not (ev (.bool true) rfl rfl)) ?_
 refine nt ?_
 refine c_ff (ev (.bool false) rfl rfl) ?_
 refine wp_skip ?_
 refine then_n ?_
 refine wp_seq ?_
 refine sr ?_
 refine w_mv (ev (.string (str text)) rfl rfl) ?_
 refine w_call (Try.func23) (by kernel_rfl) rfl (m1 (ev (.string (str text)) rfl rfl)) (long_f text h w1) ?_
 rintro _ w3 ⟨rfl, hb4⟩
 refine ⟨_, rfl, ?_⟩
 replace hk := thenB hk hb4
 refine nt ?_
 refine c_ff (ev (.bool false) rfl rfl) ?_
 refine wp_skip ?_
 refine then_n ?_
 refine sr ?_
 refine w_mv (ev (.string (str key)) rfl rfl) ?_
 refine w_mv (ev (.string (str vi)) rfl rfl) ?_
 refine w_mv (ev (.string (str text)) rfl rfl) ?_
 refine w_call (Try.func28) (by kernel_rfl) rfl (m3 (ev (.string (str key)) rfl rfl) (ev (.string (str vi)) rfl rfl) (ev (.string (str text)) rfl rfl)) (seal_k key vi hok text w3) ?_
 rintro _ w5 ⟨rfl, hb6⟩
 refine ⟨_, rfl, ?_⟩
 replace hk := thenB hk hb6
 refine w_mv (ev (.tuple #[.string (str ([] : List (BitVec 8))), .int .i64 3]) rfl rfl) ?_
 refine w_val (y_ext (v := .string (str ([] : List (BitVec 8)))) (ev (.tuple #[.string (str ([] : List (BitVec 8))), .int .i64 3]) rfl rfl) rfl) ?_
 refine w_val (y_ext (v := .int .i64 3) (ev (.tuple #[.string (str ([] : List (BitVec 8))), .int .i64 3]) rfl rfl) rfl) ?_
 refine w_as (ev (.string (str ([] : List (BitVec 8)))) rfl rfl) ?_
 refine w_as (ev (.int .i64 3) rfl rfl) ?_
 refine nt ?_
 refine sr ?_
 refine w_mv (ev (.string (str key)) rfl rfl) ?_
 refine w_mv (ev (.string (str vi)) rfl rfl) ?_
 refine w_mv (ev (.string (str text)) rfl rfl) ?_
 refine w_call (Try.func29) (by kernel_rfl) rfl (m3 (ev (.string (str key)) rfl rfl) (ev (.string (str vi)) rfl rfl) (ev (.string (str text)) rfl rfl)) (refSeal_k key vi hok text w5) ?_
 rintro _ w7 ⟨rfl, hb8⟩
 refine ⟨_, rfl, ?_⟩
 replace hk := thenB hk hb8
 refine w_mv (ev (.tuple #[.string (str ([] : List (BitVec 8))), .int .i64 3]) rfl rfl) ?_
 refine w_val (y_ext (v := .string (str ([] : List (BitVec 8)))) (ev (.tuple #[.string (str ([] : List (BitVec 8))), .int .i64 3]) rfl rfl) rfl) ?_
 refine w_val (y_ext (v := .int .i64 3) (ev (.tuple #[.string (str ([] : List (BitVec 8))), .int .i64 3]) rfl rfl) rfl) ?_
 refine w_as (ev (.string (str ([] : List (BitVec 8)))) rfl rfl) ?_
 refine w_as (ev (.int .i64 3) rfl rfl) ?_
 refine nt ?_
 refine wp_seq ?_
 refine sr ?_
 refine w_mv (ev (.string (str ([] : List (BitVec 8)))) rfl rfl) ?_
 refine w_mv (ev (.string (str ([] : List (BitVec 8)))) rfl rfl) ?_
 refine w_val (y_bin (ev (.string (str ([] : List (BitVec 8)))) rfl rfl) (ev (.string (str ([] : List (BitVec 8)))) rfl rfl) b_nes_same) ?_
 refine w_mv (ev (.bool false) rfl rfl) ?_
 refine w_val_g (v := .int .i64 3) (want_yes (j := 3) rfl rfl (ev (.bool false) rfl rfl) rfl) (y_mv (ev (.int .i64 3) rfl rfl)) ?_
 refine w_val_g (v := .int .i64 3) (want_yes (j := 3) rfl rfl (ev (.bool false) rfl rfl) rfl) (y_mv (ev (.int .i64 3) rfl rfl)) ?_
 refine w_val_g (want_yes (j := 3) rfl rfl (ev (.bool false) rfl rfl) rfl) (y_bin (ev (.int .i64 3) rfl rfl) (ev (.int .i64 3) rfl rfl) b_neq) ?_
 refine w_val (y_pick_f (ev (.bool false) rfl rfl) (ev (.bool false) rfl rfl)) ?_
 refine nt ?_
 refine c_ff (ev (.bool false) rfl rfl) ?_
 refine wp_skip ?_
 refine then_n ?_
 refine sr ?_
 refine w_mv (ev (.string (str key)) rfl rfl) ?_
 refine w_mv (ev (.string (str vi)) rfl rfl) ?_
 refine w_mv (ev (.string (str ([] : List (BitVec 8)))) rfl rfl) ?_
 refine w_call (Try.func30) (by kernel_rfl) rfl (m3 (ev (.string (str key)) rfl rfl) (ev (.string (str vi)) rfl rfl) (ev (.string (str ([] : List (BitVec 8)))) rfl rfl)) (open_k key vi hok [] w7) ?_
 rintro _ w9 ⟨rfl, hb10⟩
 refine ⟨_, rfl, ?_⟩
 replace hk := thenB hk hb10
 refine w_mv (ev (.tuple #[.string (str ([] : List (BitVec 8))), .int .i64 3]) rfl rfl) ?_
 refine w_val (y_ext (v := .string (str ([] : List (BitVec 8)))) (ev (.tuple #[.string (str ([] : List (BitVec 8))), .int .i64 3]) rfl rfl) rfl) ?_
 refine w_val (y_ext (v := .int .i64 3) (ev (.tuple #[.string (str ([] : List (BitVec 8))), .int .i64 3]) rfl rfl) rfl) ?_
 refine w_as (ev (.string (str ([] : List (BitVec 8)))) rfl rfl) ?_
 refine w_as (ev (.int .i64 3) rfl rfl) ?_
 refine nt ?_
 refine sr ?_
 refine w_mv (ev (.int .i64 3) rfl rfl) ?_
 refine w_val (y_bin (ev (.int .i64 3) rfl rfl) (evc (.int .i64 0)) b_neq) ?_
 refine w_mv (ev (.bool true) rfl rfl) ?_
 first | with_reducible refine w_skip ?_ ?_ | refine w_skip ?_ ?_
 · exact want_no (j := 2) rfl rfl (ev (.bool true) rfl rfl) rfl
 first | with_reducible refine w_skip ?_ ?_ | refine w_skip ?_ ?_
 · exact want_no (j := 2) rfl rfl (ev (.bool true) rfl rfl) rfl
 first | with_reducible refine w_skip ?_ ?_ | refine w_skip ?_ ?_
 · exact want_no (j := 2) rfl rfl (ev (.bool true) rfl rfl) rfl
 first | with_reducible refine w_skip ?_ ?_ | refine w_skip ?_ ?_
 · exact want_un (j := 5) rfl rfl (ev undef rfl rfl) rfl
 first | with_reducible refine w_skip ?_ ?_ | refine w_skip ?_ ?_
 · exact want_un (j := 5) rfl rfl (ev undef rfl rfl) rfl
 first | with_reducible refine w_skip ?_ ?_ | refine w_skip ?_ ?_
 · exact want_un (j := 5) rfl rfl (ev undef rfl rfl) rfl
 first | with_reducible refine w_skip ?_ ?_ | refine w_skip ?_ ?_
 · exact want_no (j := 2) rfl rfl (ev (.bool true) rfl rfl) rfl
 refine w_val (y_pick_t (ev (.bool true) rfl rfl) (evc (.bool true))) ?_
 refine w_as (ev (.bool true) rfl rfl) ?_
 refine nt ?_
 refine wp_ret ?_
 refine fin_ret1 rfl (ev (.bool true) rfl rfl) ?_
 exact ⟨rfl, hk⟩

set_option maxRecDepth 100000 in
set_option maxHeartbeats 1000000 in
theorem cbcSeals_i (key vi : List (BitVec 8)) (hok : Aes.okKey key.length) (hiv : vi.length ≠ 16) (text : List (BitVec 8)) (h : ¬ (3000 < text.length ∧ text.length ≤ 140000)) (w0 : World) : Calls Try.prog 5 #[.string (str key), .string (str vi), .string (str text)] w0 fun e w' => e = .returned (.bool true) ∧ Below w0.heap.size w0 w' := by
 refine enter (n := 57) Try.func5 rfl rfl rfl ?_
 have hk : Below w0.heap.size w0 w0 := Below.refl _ _
 refine sr ?_
 refine w_as (evc (.bool false)) ?_
 refine nt ?_
 refine wp_seq ?_
 refine sr ?_
 refine w_call (Try.func18) (by kernel_rfl) rfl m0 (cbcWakes_c  w0) ?_
 rintro _ w1 ⟨rfl, hb2⟩
 refine ⟨_, rfl, ?_⟩
 replace hk := thenB hk hb2
 refine w_val (y_not (ev (.bool true) rfl rfl)) ?_
 refine nt ?_
 refine c_ff (ev (.bool false) rfl rfl) ?_
 refine wp_skip ?_
 refine then_n ?_
 refine wp_seq ?_
 refine sr ?_
 refine w_mv (ev (.string (str text)) rfl rfl) ?_
 refine w_call (Try.func23) (by kernel_rfl) rfl (m1 (ev (.string (str text)) rfl rfl)) (long_f text h w1) ?_
 rintro _ w3 ⟨rfl, hb4⟩
 refine ⟨_, rfl, ?_⟩
 replace hk := thenB hk hb4
 refine nt ?_
 refine c_ff (ev (.bool false) rfl rfl) ?_
 refine wp_skip ?_
 refine then_n ?_
 refine sr ?_
 refine w_mv (ev (.string (str key)) rfl rfl) ?_
 refine w_mv (ev (.string (str vi)) rfl rfl) ?_
 refine w_mv (ev (.string (str text)) rfl rfl) ?_
 refine w_call (Try.func28) (by kernel_rfl) rfl (m3 (ev (.string (str key)) rfl rfl) (ev (.string (str vi)) rfl rfl) (ev (.string (str text)) rfl rfl)) (seal_i key vi hok hiv text w3) ?_
 rintro _ w5 ⟨rfl, hb6⟩
 refine ⟨_, rfl, ?_⟩
 replace hk := thenB hk hb6
 refine w_mv (ev (.tuple #[.string (str ([] : List (BitVec 8))), .int .i64 4]) rfl rfl) ?_
 refine w_val (y_ext (v := .string (str ([] : List (BitVec 8)))) (ev (.tuple #[.string (str ([] : List (BitVec 8))), .int .i64 4]) rfl rfl) rfl) ?_
 refine w_val (y_ext (v := .int .i64 4) (ev (.tuple #[.string (str ([] : List (BitVec 8))), .int .i64 4]) rfl rfl) rfl) ?_
 refine w_as (ev (.string (str ([] : List (BitVec 8)))) rfl rfl) ?_
 refine w_as (ev (.int .i64 4) rfl rfl) ?_
 refine nt ?_
 refine sr ?_
 refine w_mv (ev (.string (str key)) rfl rfl) ?_
 refine w_mv (ev (.string (str vi)) rfl rfl) ?_
 refine w_mv (ev (.string (str text)) rfl rfl) ?_
 refine w_call (Try.func29) (by kernel_rfl) rfl (m3 (ev (.string (str key)) rfl rfl) (ev (.string (str vi)) rfl rfl) (ev (.string (str text)) rfl rfl)) (refSeal_i key vi hok hiv text w5) ?_
 rintro _ w7 ⟨rfl, hb8⟩
 refine ⟨_, rfl, ?_⟩
 replace hk := thenB hk hb8
 refine w_mv (ev (.tuple #[.string (str ([] : List (BitVec 8))), .int .i64 4]) rfl rfl) ?_
 refine w_val (y_ext (v := .string (str ([] : List (BitVec 8)))) (ev (.tuple #[.string (str ([] : List (BitVec 8))), .int .i64 4]) rfl rfl) rfl) ?_
 refine w_val (y_ext (v := .int .i64 4) (ev (.tuple #[.string (str ([] : List (BitVec 8))), .int .i64 4]) rfl rfl) rfl) ?_
 refine w_as (ev (.string (str ([] : List (BitVec 8)))) rfl rfl) ?_
 refine w_as (ev (.int .i64 4) rfl rfl) ?_
 refine nt ?_
 refine wp_seq ?_
 refine sr ?_
 refine w_mv (ev (.string (str ([] : List (BitVec 8)))) rfl rfl) ?_
 refine w_mv (ev (.string (str ([] : List (BitVec 8)))) rfl rfl) ?_
 refine w_val (y_bin (ev (.string (str ([] : List (BitVec 8)))) rfl rfl) (ev (.string (str ([] : List (BitVec 8)))) rfl rfl) b_nes_same) ?_
 refine w_mv (ev (.bool false) rfl rfl) ?_
 refine w_val_g (v := .int .i64 4) (want_yes (j := 3) rfl rfl (ev (.bool false) rfl rfl) rfl) (y_mv (ev (.int .i64 4) rfl rfl)) ?_
 refine w_val_g (v := .int .i64 4) (want_yes (j := 3) rfl rfl (ev (.bool false) rfl rfl) rfl) (y_mv (ev (.int .i64 4) rfl rfl)) ?_
 refine w_val_g (want_yes (j := 3) rfl rfl (ev (.bool false) rfl rfl) rfl) (y_bin (ev (.int .i64 4) rfl rfl) (ev (.int .i64 4) rfl rfl) b_neq) ?_
 refine w_val (y_pick_f (ev (.bool false) rfl rfl) (ev (.bool false) rfl rfl)) ?_
 refine nt ?_
 refine c_ff (ev (.bool false) rfl rfl) ?_
 refine wp_skip ?_
 refine then_n ?_
 refine sr ?_
 refine w_mv (ev (.string (str key)) rfl rfl) ?_
 refine w_mv (ev (.string (str vi)) rfl rfl) ?_
 refine w_mv (ev (.string (str ([] : List (BitVec 8)))) rfl rfl) ?_
 refine w_call (Try.func30) (by kernel_rfl) rfl (m3 (ev (.string (str key)) rfl rfl) (ev (.string (str vi)) rfl rfl) (ev (.string (str ([] : List (BitVec 8)))) rfl rfl)) (open_i key vi hok hiv [] w7) ?_
 rintro _ w9 ⟨rfl, hb10⟩
 refine ⟨_, rfl, ?_⟩
 replace hk := thenB hk hb10
 refine w_mv (ev (.tuple #[.string (str ([] : List (BitVec 8))), .int .i64 4]) rfl rfl) ?_
 refine w_val (y_ext (v := .string (str ([] : List (BitVec 8)))) (ev (.tuple #[.string (str ([] : List (BitVec 8))), .int .i64 4]) rfl rfl) rfl) ?_
 refine w_val (y_ext (v := .int .i64 4) (ev (.tuple #[.string (str ([] : List (BitVec 8))), .int .i64 4]) rfl rfl) rfl) ?_
 refine w_as (ev (.string (str ([] : List (BitVec 8)))) rfl rfl) ?_
 refine w_as (ev (.int .i64 4) rfl rfl) ?_
 refine nt ?_
 refine sr ?_
 refine w_mv (ev (.int .i64 4) rfl rfl) ?_
 refine w_val (y_bin (ev (.int .i64 4) rfl rfl) (evc (.int .i64 0)) b_neq) ?_
 refine w_mv (ev (.bool true) rfl rfl) ?_
 first | with_reducible refine w_skip ?_ ?_ | refine w_skip ?_ ?_
 · exact want_no (j := 2) rfl rfl (ev (.bool true) rfl rfl) rfl
 first | with_reducible refine w_skip ?_ ?_ | refine w_skip ?_ ?_
 · exact want_no (j := 2) rfl rfl (ev (.bool true) rfl rfl) rfl
 first | with_reducible refine w_skip ?_ ?_ | refine w_skip ?_ ?_
 · exact want_no (j := 2) rfl rfl (ev (.bool true) rfl rfl) rfl
 first | with_reducible refine w_skip ?_ ?_ | refine w_skip ?_ ?_
 · exact want_un (j := 5) rfl rfl (ev undef rfl rfl) rfl
 first | with_reducible refine w_skip ?_ ?_ | refine w_skip ?_ ?_
 · exact want_un (j := 5) rfl rfl (ev undef rfl rfl) rfl
 first | with_reducible refine w_skip ?_ ?_ | refine w_skip ?_ ?_
 · exact want_un (j := 5) rfl rfl (ev undef rfl rfl) rfl
 first | with_reducible refine w_skip ?_ ?_ | refine w_skip ?_ ?_
 · exact want_no (j := 2) rfl rfl (ev (.bool true) rfl rfl) rfl
 refine w_val (y_pick_t (ev (.bool true) rfl rfl) (evc (.bool true))) ?_
 refine w_as (ev (.bool true) rfl rfl) ?_
 refine nt ?_
 refine wp_ret ?_
 refine fin_ret1 rfl (ev (.bool true) rfl rfl) ?_
 exact ⟨rfl, hk⟩

set_option maxRecDepth 100000 in
set_option maxHeartbeats 1000000 in
theorem cbcSeals_z (key vi : List (BitVec 8)) (hok : Aes.okKey key.length) (hiv : vi.length = 16) (text : List (BitVec 8)) (h : ¬ (3000 < text.length ∧ text.length ≤ 140000)) (hz : 140000 < text.length) (w0 : World) : Calls Try.prog 5 #[.string (str key), .string (str vi), .string (str text)] w0 fun e w' => e = .returned (.bool true) ∧ Below w0.heap.size w0 w' := by
 refine enter (n := 57) Try.func5 rfl rfl rfl ?_
 have hk : Below w0.heap.size w0 w0 := Below.refl _ _
 refine sr ?_
 refine w_as (evc (.bool false)) ?_
 refine nt ?_
 refine wp_seq ?_
 refine sr ?_
 refine w_call (Try.func18) (by kernel_rfl) rfl m0 (cbcWakes_c  w0) ?_
 rintro _ w1 ⟨rfl, hb2⟩
 refine ⟨_, rfl, ?_⟩
 replace hk := thenB hk hb2
 refine w_val (y_not (ev (.bool true) rfl rfl)) ?_
 refine nt ?_
 refine c_ff (ev (.bool false) rfl rfl) ?_
 refine wp_skip ?_
 refine then_n ?_
 refine wp_seq ?_
 refine sr ?_
 refine w_mv (ev (.string (str text)) rfl rfl) ?_
 refine w_call (Try.func23) (by kernel_rfl) rfl (m1 (ev (.string (str text)) rfl rfl)) (long_f text h w1) ?_
 rintro _ w3 ⟨rfl, hb4⟩
 refine ⟨_, rfl, ?_⟩
 replace hk := thenB hk hb4
 refine nt ?_
 refine c_ff (ev (.bool false) rfl rfl) ?_
 refine wp_skip ?_
 refine then_n ?_
 refine sr ?_
 refine w_mv (ev (.string (str key)) rfl rfl) ?_
 refine w_mv (ev (.string (str vi)) rfl rfl) ?_
 refine w_mv (ev (.string (str text)) rfl rfl) ?_
 refine w_call (Try.func28) (by kernel_rfl) rfl (m3 (ev (.string (str key)) rfl rfl) (ev (.string (str vi)) rfl rfl) (ev (.string (str text)) rfl rfl)) (seal_z key vi hok hiv text (by omega) w3) ?_
 rintro _ w5 ⟨rfl, hb6⟩
 refine ⟨_, rfl, ?_⟩
 replace hk := thenB hk hb6
 refine w_mv (ev (.tuple #[.string (str ([] : List (BitVec 8))), .int .i64 6]) rfl rfl) ?_
 refine w_val (y_ext (v := .string (str ([] : List (BitVec 8)))) (ev (.tuple #[.string (str ([] : List (BitVec 8))), .int .i64 6]) rfl rfl) rfl) ?_
 refine w_val (y_ext (v := .int .i64 6) (ev (.tuple #[.string (str ([] : List (BitVec 8))), .int .i64 6]) rfl rfl) rfl) ?_
 refine w_as (ev (.string (str ([] : List (BitVec 8)))) rfl rfl) ?_
 refine w_as (ev (.int .i64 6) rfl rfl) ?_
 refine nt ?_
 refine sr ?_
 refine w_mv (ev (.string (str key)) rfl rfl) ?_
 refine w_mv (ev (.string (str vi)) rfl rfl) ?_
 refine w_mv (ev (.string (str text)) rfl rfl) ?_
 refine w_call (Try.func29) (by kernel_rfl) rfl (m3 (ev (.string (str key)) rfl rfl) (ev (.string (str vi)) rfl rfl) (ev (.string (str text)) rfl rfl)) (refSeal_z key vi hok hiv text (by omega) w5) ?_
 rintro _ w7 ⟨rfl, hb8⟩
 refine ⟨_, rfl, ?_⟩
 replace hk := thenB hk hb8
 refine w_mv (ev (.tuple #[.string (str ([] : List (BitVec 8))), .int .i64 6]) rfl rfl) ?_
 refine w_val (y_ext (v := .string (str ([] : List (BitVec 8)))) (ev (.tuple #[.string (str ([] : List (BitVec 8))), .int .i64 6]) rfl rfl) rfl) ?_
 refine w_val (y_ext (v := .int .i64 6) (ev (.tuple #[.string (str ([] : List (BitVec 8))), .int .i64 6]) rfl rfl) rfl) ?_
 refine w_as (ev (.string (str ([] : List (BitVec 8)))) rfl rfl) ?_
 refine w_as (ev (.int .i64 6) rfl rfl) ?_
 refine nt ?_
 refine wp_seq ?_
 refine sr ?_
 refine w_mv (ev (.string (str ([] : List (BitVec 8)))) rfl rfl) ?_
 refine w_mv (ev (.string (str ([] : List (BitVec 8)))) rfl rfl) ?_
 refine w_val (y_bin (ev (.string (str ([] : List (BitVec 8)))) rfl rfl) (ev (.string (str ([] : List (BitVec 8)))) rfl rfl) b_nes_same) ?_
 refine w_mv (ev (.bool false) rfl rfl) ?_
 refine w_val_g (v := .int .i64 6) (want_yes (j := 3) rfl rfl (ev (.bool false) rfl rfl) rfl) (y_mv (ev (.int .i64 6) rfl rfl)) ?_
 refine w_val_g (v := .int .i64 6) (want_yes (j := 3) rfl rfl (ev (.bool false) rfl rfl) rfl) (y_mv (ev (.int .i64 6) rfl rfl)) ?_
 refine w_val_g (want_yes (j := 3) rfl rfl (ev (.bool false) rfl rfl) rfl) (y_bin (ev (.int .i64 6) rfl rfl) (ev (.int .i64 6) rfl rfl) b_neq) ?_
 refine w_val (y_pick_f (ev (.bool false) rfl rfl) (ev (.bool false) rfl rfl)) ?_
 refine nt ?_
 refine c_ff (ev (.bool false) rfl rfl) ?_
 refine wp_skip ?_
 refine then_n ?_
 refine sr ?_
 refine w_mv (ev (.string (str key)) rfl rfl) ?_
 refine w_mv (ev (.string (str vi)) rfl rfl) ?_
 refine w_mv (ev (.string (str ([] : List (BitVec 8)))) rfl rfl) ?_
 refine w_call (Try.func30) (by kernel_rfl) rfl (m3 (ev (.string (str key)) rfl rfl) (ev (.string (str vi)) rfl rfl) (ev (.string (str ([] : List (BitVec 8)))) rfl rfl)) (open_s key vi hok hiv [] (by decide) w7) ?_
 rintro _ w9 ⟨rfl, hb10⟩
 refine ⟨_, rfl, ?_⟩
 replace hk := thenB hk hb10
 refine w_mv (ev (.tuple #[.string (str ([] : List (BitVec 8))), .int .i64 6]) rfl rfl) ?_
 refine w_val (y_ext (v := .string (str ([] : List (BitVec 8)))) (ev (.tuple #[.string (str ([] : List (BitVec 8))), .int .i64 6]) rfl rfl) rfl) ?_
 refine w_val (y_ext (v := .int .i64 6) (ev (.tuple #[.string (str ([] : List (BitVec 8))), .int .i64 6]) rfl rfl) rfl) ?_
 refine w_as (ev (.string (str ([] : List (BitVec 8)))) rfl rfl) ?_
 refine w_as (ev (.int .i64 6) rfl rfl) ?_
 refine nt ?_
 refine sr ?_
 refine w_mv (ev (.int .i64 6) rfl rfl) ?_
 refine w_val (y_bin (ev (.int .i64 6) rfl rfl) (evc (.int .i64 0)) b_neq) ?_
 refine w_mv (ev (.bool true) rfl rfl) ?_
 first | with_reducible refine w_skip ?_ ?_ | refine w_skip ?_ ?_
 · exact want_no (j := 2) rfl rfl (ev (.bool true) rfl rfl) rfl
 first | with_reducible refine w_skip ?_ ?_ | refine w_skip ?_ ?_
 · exact want_no (j := 2) rfl rfl (ev (.bool true) rfl rfl) rfl
 first | with_reducible refine w_skip ?_ ?_ | refine w_skip ?_ ?_
 · exact want_no (j := 2) rfl rfl (ev (.bool true) rfl rfl) rfl
 first | with_reducible refine w_skip ?_ ?_ | refine w_skip ?_ ?_
 · exact want_un (j := 5) rfl rfl (ev undef rfl rfl) rfl
 first | with_reducible refine w_skip ?_ ?_ | refine w_skip ?_ ?_
 · exact want_un (j := 5) rfl rfl (ev undef rfl rfl) rfl
 first | with_reducible refine w_skip ?_ ?_ | refine w_skip ?_ ?_
 · exact want_un (j := 5) rfl rfl (ev undef rfl rfl) rfl
 first | with_reducible refine w_skip ?_ ?_ | refine w_skip ?_ ?_
 · exact want_no (j := 2) rfl rfl (ev (.bool true) rfl rfl) rfl
 refine w_val (y_pick_t (ev (.bool true) rfl rfl) (evc (.bool true))) ?_
 refine w_as (ev (.bool true) rfl rfl) ?_
 refine nt ?_
 refine wp_ret ?_
 refine fin_ret1 rfl (ev (.bool true) rfl rfl) ?_
 exact ⟨rfl, hk⟩

set_option maxRecDepth 100000 in
set_option maxHeartbeats 1000000 in
theorem cbcSeals_y (key vi : List (BitVec 8)) (hok : Aes.okKey key.length) (hiv : vi.length = 16) (text : List (BitVec 8)) (h : ¬ (3000 < text.length ∧ text.length ≤ 140000)) (hz : text.length ≤ 3000) (w0 : World) : Calls Try.prog 5 #[.string (str key), .string (str vi), .string (str text)] w0 fun e w' => e = .returned (.bool true) ∧ Below w0.heap.size w0 w' := by
 refine enter (n := 57) Try.func5 rfl rfl rfl ?_
 have hk : Below w0.heap.size w0 w0 := Below.refl _ _
 refine sr ?_
 refine w_as (evc (.bool false)) ?_
 refine nt ?_
 refine wp_seq ?_
 refine sr ?_
 refine w_call (Try.func18) (by kernel_rfl) rfl m0 (cbcWakes_c  w0) ?_
 rintro _ w1 ⟨rfl, hb2⟩
 refine ⟨_, rfl, ?_⟩
 replace hk := thenB hk hb2
 refine w_val (y_not (ev (.bool true) rfl rfl)) ?_
 refine nt ?_
 refine c_ff (ev (.bool false) rfl rfl) ?_
 refine wp_skip ?_
 refine then_n ?_
 refine wp_seq ?_
 refine sr ?_
 refine w_mv (ev (.string (str text)) rfl rfl) ?_
 refine w_call (Try.func23) (by kernel_rfl) rfl (m1 (ev (.string (str text)) rfl rfl)) (long_f text h w1) ?_
 rintro _ w3 ⟨rfl, hb4⟩
 refine ⟨_, rfl, ?_⟩
 replace hk := thenB hk hb4
 refine nt ?_
 refine c_ff (ev (.bool false) rfl rfl) ?_
 refine wp_skip ?_
 refine then_n ?_
 refine sr ?_
 refine w_mv (ev (.string (str key)) rfl rfl) ?_
 refine w_mv (ev (.string (str vi)) rfl rfl) ?_
 refine w_mv (ev (.string (str text)) rfl rfl) ?_
 refine w_call (Try.func28) (by kernel_rfl) rfl (m3 (ev (.string (str key)) rfl rfl) (ev (.string (str vi)) rfl rfl) (ev (.string (str text)) rfl rfl)) (seal_y key vi hok hiv text (by omega) w3) ?_
 rintro _ w5 ⟨rfl, hb6⟩
 refine ⟨_, rfl, ?_⟩
 replace hk := thenB hk hb6
 refine w_mv (ev (.tuple #[.string (str (Cb.chain key vi (Cb.pad text 16))), .int .i64 0]) rfl rfl) ?_
 refine w_val (y_ext (v := .string (str (Cb.chain key vi (Cb.pad text 16)))) (ev (.tuple #[.string (str (Cb.chain key vi (Cb.pad text 16))), .int .i64 0]) rfl rfl) rfl) ?_
 refine w_val (y_ext (v := .int .i64 0) (ev (.tuple #[.string (str (Cb.chain key vi (Cb.pad text 16))), .int .i64 0]) rfl rfl) rfl) ?_
 refine w_as (ev (.string (str (Cb.chain key vi (Cb.pad text 16)))) rfl rfl) ?_
 refine w_as (ev (.int .i64 0) rfl rfl) ?_
 refine nt ?_
 refine sr ?_
 refine w_mv (ev (.string (str key)) rfl rfl) ?_
 refine w_mv (ev (.string (str vi)) rfl rfl) ?_
 refine w_mv (ev (.string (str text)) rfl rfl) ?_
 refine w_call (Try.func29) (by kernel_rfl) rfl (m3 (ev (.string (str key)) rfl rfl) (ev (.string (str vi)) rfl rfl) (ev (.string (str text)) rfl rfl)) (refSeal_y key vi hok hiv text (by omega) w5) ?_
 rintro _ w7 ⟨rfl, hb8⟩
 refine ⟨_, rfl, ?_⟩
 replace hk := thenB hk hb8
 refine w_mv (ev (.tuple #[.string (str (Cb.chain key vi (Cb.pad text 16))), .int .i64 0]) rfl rfl) ?_
 refine w_val (y_ext (v := .string (str (Cb.chain key vi (Cb.pad text 16)))) (ev (.tuple #[.string (str (Cb.chain key vi (Cb.pad text 16))), .int .i64 0]) rfl rfl) rfl) ?_
 refine w_val (y_ext (v := .int .i64 0) (ev (.tuple #[.string (str (Cb.chain key vi (Cb.pad text 16))), .int .i64 0]) rfl rfl) rfl) ?_
 refine w_as (ev (.string (str (Cb.chain key vi (Cb.pad text 16)))) rfl rfl) ?_
 refine w_as (ev (.int .i64 0) rfl rfl) ?_
 refine nt ?_
 refine wp_seq ?_
 refine sr ?_
 refine w_mv (ev (.string (str (Cb.chain key vi (Cb.pad text 16)))) rfl rfl) ?_
 refine w_mv (ev (.string (str (Cb.chain key vi (Cb.pad text 16)))) rfl rfl) ?_
 refine w_val (y_bin (ev (.string (str (Cb.chain key vi (Cb.pad text 16)))) rfl rfl) (ev (.string (str (Cb.chain key vi (Cb.pad text 16)))) rfl rfl) b_nes_same) ?_
 refine w_mv (ev (.bool false) rfl rfl) ?_
 refine w_val_g (v := .int .i64 0) (want_yes (j := 3) rfl rfl (ev (.bool false) rfl rfl) rfl) (y_mv (ev (.int .i64 0) rfl rfl)) ?_
 refine w_val_g (v := .int .i64 0) (want_yes (j := 3) rfl rfl (ev (.bool false) rfl rfl) rfl) (y_mv (ev (.int .i64 0) rfl rfl)) ?_
 refine w_val_g (want_yes (j := 3) rfl rfl (ev (.bool false) rfl rfl) rfl) (y_bin (ev (.int .i64 0) rfl rfl) (ev (.int .i64 0) rfl rfl) b_neq) ?_
 refine w_val (y_pick_f (ev (.bool false) rfl rfl) (ev (.bool false) rfl rfl)) ?_
 refine nt ?_
 refine c_ff (ev (.bool false) rfl rfl) ?_
 refine wp_skip ?_
 refine then_n ?_
 refine sr ?_
 refine w_mv (ev (.string (str key)) rfl rfl) ?_
 refine w_mv (ev (.string (str vi)) rfl rfl) ?_
 refine w_mv (ev (.string (str (Cb.chain key vi (Cb.pad text 16)))) rfl rfl) ?_
 refine w_call (Try.func30) (by kernel_rfl) rfl (m3 (ev (.string (str key)) rfl rfl) (ev (.string (str vi)) rfl rfl) (ev (.string (str (Cb.chain key vi (Cb.pad text 16)))) rfl rfl)) (openBack key vi hok hiv text (by omega) w7) ?_
 rintro _ w9 ⟨rfl, hb10⟩
 refine ⟨_, rfl, ?_⟩
 replace hk := thenB hk hb10
 refine w_mv (ev (.tuple #[.string (str text), .int .i64 0]) rfl rfl) ?_
 refine w_val (y_ext (v := .string (str text)) (ev (.tuple #[.string (str text), .int .i64 0]) rfl rfl) rfl) ?_
 refine w_val (y_ext (v := .int .i64 0) (ev (.tuple #[.string (str text), .int .i64 0]) rfl rfl) rfl) ?_
 refine w_as (ev (.string (str text)) rfl rfl) ?_
 refine w_as (ev (.int .i64 0) rfl rfl) ?_
 refine nt ?_
 refine sr ?_
 refine w_mv (ev (.int .i64 0) rfl rfl) ?_
 refine w_val (y_bin (ev (.int .i64 0) rfl rfl) (evc (.int .i64 0)) b_neq) ?_
 refine w_mv (ev (.bool false) rfl rfl) ?_
 refine w_val_g (v := .int .i64 0) (want_yes (j := 2) rfl rfl (ev (.bool false) rfl rfl) rfl) (y_mv (ev (.int .i64 0) rfl rfl)) ?_
 refine w_val_g (want_yes (j := 2) rfl rfl (ev (.bool false) rfl rfl) rfl) (y_bin (ev (.int .i64 0) rfl rfl) (evc (.int .i64 0)) b_eql) ?_
 refine w_val_g (v := .bool true) (want_yes (j := 2) rfl rfl (ev (.bool false) rfl rfl) rfl) (y_mv (ev (.bool true) rfl rfl)) ?_
 refine w_val_g (v := .string (str text)) (want_yes (j := 5) rfl rfl (ev (.bool true) rfl rfl) rfl) (y_mv (ev (.string (str text)) rfl rfl)) ?_
 refine w_val_g (v := .string (str text)) (want_yes (j := 5) rfl rfl (ev (.bool true) rfl rfl) rfl) (y_mv (ev (.string (str text)) rfl rfl)) ?_
 refine w_val_g (want_yes (j := 5) rfl rfl (ev (.bool true) rfl rfl) rfl) (y_bin (ev (.string (str text)) rfl rfl) (ev (.string (str text)) rfl rfl) b_eqs_same) ?_
 refine w_val_g (want_yes (j := 2) rfl rfl (ev (.bool false) rfl rfl) rfl) (y_pick_t (ev (.bool true) rfl rfl) (ev (.bool true) rfl rfl)) ?_
 refine w_val (y_pick_f (ev (.bool false) rfl rfl) (ev (.bool true) rfl rfl)) ?_
 refine w_as (ev (.bool true) rfl rfl) ?_
 refine nt ?_
 refine wp_ret ?_
 refine fin_ret1 rfl (ev (.bool true) rfl rfl) ?_
 exact ⟨rfl, hk⟩

theorem walk_CbcSeals (key : List (BitVec 8)) (hkey : key.length ≤ 140737488351232) (vi : List (BitVec 8)) (hvi : vi.length ≤ 140737488351232) (text : List (BitVec 8)) (ht : text.length ≤ 140737488351232) (w : World) : Calls Try.prog 5 #[.string (str key), .string (str vi), .string (str text)] w fun e w' => e = .returned (.bool true) ∧ Below w.heap.size w w' := by
  by_cases h : 3000 < text.length ∧ text.length ≤ 140000
  · exact cbcSeals_l key vi text h w
  · by_cases hok : Aes.okKey key.length
    · by_cases hiv : vi.length = 16
      · by_cases hz : text.length ≤ 3000
        · exact cbcSeals_y key vi hok hiv text h hz w
        · exact cbcSeals_z key vi hok hiv text h (by omega) w
      · exact cbcSeals_i key vi hok hiv text h w
    · exact cbcSeals_k key vi hok text h w

set_option maxRecDepth 100000 in
set_option maxHeartbeats 1000000 in
theorem cbcOpens_l (key vi : List (BitVec 8)) (text : List (BitVec 8)) (h : 3000 < text.length ∧ text.length ≤ 140000) (w0 : World) : Calls Try.prog 6 #[.string (str key), .string (str vi), .string (str text)] w0 fun e w' => e = .returned (.bool true) ∧ Below w0.heap.size w0 w' := by
 refine enter (n := 37) Try.func6 rfl rfl rfl ?_
 have hk : Below w0.heap.size w0 w0 := Below.refl _ _
 refine sr ?_
 refine w_as (evc (.bool false)) ?_
 refine nt ?_
 refine wp_seq ?_
 refine sr ?_
 refine w_call (Try.func18) (by kernel_rfl) rfl m0 (cbcWakes_c  w0) ?_
 rintro _ w1 ⟨rfl, hb2⟩
 refine ⟨_, rfl, ?_⟩
 replace hk := thenB hk hb2
 refine w_val (y_not (ev (.bool true) rfl rfl)) ?_
 refine nt ?_
 refine c_ff (ev (.bool false) rfl rfl) ?_
 refine wp_skip ?_
 refine then_n ?_
 refine wp_seq ?_
 refine sr ?_
 refine w_mv (ev (.string (str text)) rfl rfl) ?_
 refine w_call (Try.func23) (by kernel_rfl) rfl (m1 (ev (.string (str text)) rfl rfl)) (long_t text h w1) ?_
 rintro _ w3 ⟨rfl, hb4⟩
 refine ⟨_, rfl, ?_⟩
 replace hk := thenB hk hb4
 refine nt ?_
 refine c_tt (ev (.bool true) rfl rfl) ?_
 refine sr ?_
 refine w_as (evc (.bool true)) ?_
 refine nt ?_
 refine wp_ret ?_
 refine then_r ?_
 refine fin_ret1 rfl (ev (.bool true) rfl rfl) ?_
 exact ⟨rfl, hk⟩

set_option maxRecDepth 100000 in
set_option maxHeartbeats 1000000 in
theorem cbcOpens_k (key vi : List (BitVec 8)) (hok : ¬ Aes.okKey key.length) (text : List (BitVec 8)) (h : ¬ (3000 < text.length ∧ text.length ≤ 140000)) (w0 : World) : Calls Try.prog 6 #[.string (str key), .string (str vi), .string (str text)] w0 fun e w' => e = .returned (.bool true) ∧ Below w0.heap.size w0 w' := by
 refine enter (n := 37) Try.func6 rfl rfl rfl ?_
 have hk : Below w0.heap.size w0 w0 := Below.refl _ _
 refine sr ?_
 refine w_as (evc (.bool false)) ?_
 refine nt ?_
 refine wp_seq ?_
 refine sr ?_
 refine w_call (Try.func18) (by kernel_rfl) rfl m0 (cbcWakes_c  w0) ?_
 rintro _ w1 ⟨rfl, hb2⟩
 refine ⟨_, rfl, ?_⟩
 replace hk := thenB hk hb2
 refine w_val (y_not (ev (.bool true) rfl rfl)) ?_
 refine nt ?_
 refine c_ff (ev (.bool false) rfl rfl) ?_
 refine wp_skip ?_
 refine then_n ?_
 refine wp_seq ?_
 refine sr ?_
 refine w_mv (ev (.string (str text)) rfl rfl) ?_
 refine w_call (Try.func23) (by kernel_rfl) rfl (m1 (ev (.string (str text)) rfl rfl)) (long_f text h w1) ?_
 rintro _ w3 ⟨rfl, hb4⟩
 refine ⟨_, rfl, ?_⟩
 replace hk := thenB hk hb4
 refine nt ?_
 refine c_ff (ev (.bool false) rfl rfl) ?_
 refine wp_skip ?_
 refine then_n ?_
 refine sr ?_
 refine w_mv (ev (.string (str key)) rfl rfl) ?_
 refine w_mv (ev (.string (str vi)) rfl rfl) ?_
 refine w_mv (ev (.string (str text)) rfl rfl) ?_
 refine w_call (Try.func30) (by kernel_rfl) rfl (m3 (ev (.string (str key)) rfl rfl) (ev (.string (str vi)) rfl rfl) (ev (.string (str text)) rfl rfl)) (open_k key vi hok text w3) ?_
 rintro _ w5 ⟨rfl, hb6⟩
 refine ⟨_, rfl, ?_⟩
 replace hk := thenB hk hb6
 refine w_mv (ev (.tuple #[.string (str ([] : List (BitVec 8))), .int .i64 3]) rfl rfl) ?_
 refine w_val (y_ext (v := .string (str ([] : List (BitVec 8)))) (ev (.tuple #[.string (str ([] : List (BitVec 8))), .int .i64 3]) rfl rfl) rfl) ?_
 refine w_val (y_ext (v := .int .i64 3) (ev (.tuple #[.string (str ([] : List (BitVec 8))), .int .i64 3]) rfl rfl) rfl) ?_
 refine w_as (ev (.string (str ([] : List (BitVec 8)))) rfl rfl) ?_
 refine w_as (ev (.int .i64 3) rfl rfl) ?_
 refine nt ?_
 refine sr ?_
 refine w_mv (ev (.string (str key)) rfl rfl) ?_
 refine w_mv (ev (.string (str vi)) rfl rfl) ?_
 refine w_mv (ev (.string (str text)) rfl rfl) ?_
 refine w_call (Try.func31) (by kernel_rfl) rfl (m3 (ev (.string (str key)) rfl rfl) (ev (.string (str vi)) rfl rfl) (ev (.string (str text)) rfl rfl)) (refOpen_k key vi hok text w5) ?_
 rintro _ w7 ⟨rfl, hb8⟩
 refine ⟨_, rfl, ?_⟩
 replace hk := thenB hk hb8
 refine w_mv (ev (.tuple #[.string (str ([] : List (BitVec 8))), .int .i64 3]) rfl rfl) ?_
 refine w_val (y_ext (v := .string (str ([] : List (BitVec 8)))) (ev (.tuple #[.string (str ([] : List (BitVec 8))), .int .i64 3]) rfl rfl) rfl) ?_
 refine w_val (y_ext (v := .int .i64 3) (ev (.tuple #[.string (str ([] : List (BitVec 8))), .int .i64 3]) rfl rfl) rfl) ?_
 refine w_as (ev (.string (str ([] : List (BitVec 8)))) rfl rfl) ?_
 refine w_as (ev (.int .i64 3) rfl rfl) ?_
 refine nt ?_
 refine sr ?_
 refine w_mv (ev (.string (str ([] : List (BitVec 8)))) rfl rfl) ?_
 refine w_mv (ev (.string (str ([] : List (BitVec 8)))) rfl rfl) ?_
 refine w_val (y_bin (ev (.string (str ([] : List (BitVec 8)))) rfl rfl) (ev (.string (str ([] : List (BitVec 8)))) rfl rfl) b_eqs_same) ?_
 refine w_mv (ev (.bool true) rfl rfl) ?_
 refine w_val_g (v := .int .i64 3) (want_yes (j := 3) rfl rfl (ev (.bool true) rfl rfl) rfl) (y_mv (ev (.int .i64 3) rfl rfl)) ?_
 refine w_val_g (v := .int .i64 3) (want_yes (j := 3) rfl rfl (ev (.bool true) rfl rfl) rfl) (y_mv (ev (.int .i64 3) rfl rfl)) ?_
 refine w_val_g (want_yes (j := 3) rfl rfl (ev (.bool true) rfl rfl) rfl) (y_bin (ev (.int .i64 3) rfl rfl) (ev (.int .i64 3) rfl rfl) b_eql) ?_
 refine w_val (y_pick_t (ev (.bool true) rfl rfl) (ev (.bool true) rfl rfl)) ?_
 refine w_as (ev (.bool true) rfl rfl) ?_
 refine nt ?_
 refine wp_ret ?_
 refine fin_ret1 rfl (ev (.bool true) rfl rfl) ?_
 exact ⟨rfl, hk⟩

set_option maxRecDepth 100000 in
set_option maxHeartbeats 1000000 in
theorem cbcOpens_i (key vi : List (BitVec 8)) (hok : Aes.okKey key.length) (hiv : vi.length ≠ 16) (text : List (BitVec 8)) (h : ¬ (3000 < text.length ∧ text.length ≤ 140000)) (w0 : World) : Calls Try.prog 6 #[.string (str key), .string (str vi), .string (str text)] w0 fun e w' => e = .returned (.bool true) ∧ Below w0.heap.size w0 w' := by
 refine enter (n := 37) Try.func6 rfl rfl rfl ?_
 have hk : Below w0.heap.size w0 w0 := Below.refl _ _
 refine sr ?_
 refine w_as (evc (.bool false)) ?_
 refine nt ?_
 refine wp_seq ?_
 refine sr ?_
 refine w_call (Try.func18) (by kernel_rfl) rfl m0 (cbcWakes_c  w0) ?_
 rintro _ w1 ⟨rfl, hb2⟩
 refine ⟨_, rfl, ?_⟩
 replace hk := thenB hk hb2
 refine w_val (y_not (ev (.bool true) rfl rfl)) ?_
 refine nt ?_
 refine c_ff (ev (.bool false) rfl rfl) ?_
 refine wp_skip ?_
 refine then_n ?_
 refine wp_seq ?_
 refine sr ?_
 refine w_mv (ev (.string (str text)) rfl rfl) ?_
 refine w_call (Try.func23) (by kernel_rfl) rfl (m1 (ev (.string (str text)) rfl rfl)) (long_f text h w1) ?_
 rintro _ w3 ⟨rfl, hb4⟩
 refine ⟨_, rfl, ?_⟩
 replace hk := thenB hk hb4
 refine nt ?_
 refine c_ff (ev (.bool false) rfl rfl) ?_
 refine wp_skip ?_
 refine then_n ?_
 refine sr ?_
 refine w_mv (ev (.string (str key)) rfl rfl) ?_
 refine w_mv (ev (.string (str vi)) rfl rfl) ?_
 refine w_mv (ev (.string (str text)) rfl rfl) ?_
 refine w_call (Try.func30) (by kernel_rfl) rfl (m3 (ev (.string (str key)) rfl rfl) (ev (.string (str vi)) rfl rfl) (ev (.string (str text)) rfl rfl)) (open_i key vi hok hiv text w3) ?_
 rintro _ w5 ⟨rfl, hb6⟩
 refine ⟨_, rfl, ?_⟩
 replace hk := thenB hk hb6
 refine w_mv (ev (.tuple #[.string (str ([] : List (BitVec 8))), .int .i64 4]) rfl rfl) ?_
 refine w_val (y_ext (v := .string (str ([] : List (BitVec 8)))) (ev (.tuple #[.string (str ([] : List (BitVec 8))), .int .i64 4]) rfl rfl) rfl) ?_
 refine w_val (y_ext (v := .int .i64 4) (ev (.tuple #[.string (str ([] : List (BitVec 8))), .int .i64 4]) rfl rfl) rfl) ?_
 refine w_as (ev (.string (str ([] : List (BitVec 8)))) rfl rfl) ?_
 refine w_as (ev (.int .i64 4) rfl rfl) ?_
 refine nt ?_
 refine sr ?_
 refine w_mv (ev (.string (str key)) rfl rfl) ?_
 refine w_mv (ev (.string (str vi)) rfl rfl) ?_
 refine w_mv (ev (.string (str text)) rfl rfl) ?_
 refine w_call (Try.func31) (by kernel_rfl) rfl (m3 (ev (.string (str key)) rfl rfl) (ev (.string (str vi)) rfl rfl) (ev (.string (str text)) rfl rfl)) (refOpen_i key vi hok hiv text w5) ?_
 rintro _ w7 ⟨rfl, hb8⟩
 refine ⟨_, rfl, ?_⟩
 replace hk := thenB hk hb8
 refine w_mv (ev (.tuple #[.string (str ([] : List (BitVec 8))), .int .i64 4]) rfl rfl) ?_
 refine w_val (y_ext (v := .string (str ([] : List (BitVec 8)))) (ev (.tuple #[.string (str ([] : List (BitVec 8))), .int .i64 4]) rfl rfl) rfl) ?_
 refine w_val (y_ext (v := .int .i64 4) (ev (.tuple #[.string (str ([] : List (BitVec 8))), .int .i64 4]) rfl rfl) rfl) ?_
 refine w_as (ev (.string (str ([] : List (BitVec 8)))) rfl rfl) ?_
 refine w_as (ev (.int .i64 4) rfl rfl) ?_
 refine nt ?_
 refine sr ?_
 refine w_mv (ev (.string (str ([] : List (BitVec 8)))) rfl rfl) ?_
 refine w_mv (ev (.string (str ([] : List (BitVec 8)))) rfl rfl) ?_
 refine w_val (y_bin (ev (.string (str ([] : List (BitVec 8)))) rfl rfl) (ev (.string (str ([] : List (BitVec 8)))) rfl rfl) b_eqs_same) ?_
 refine w_mv (ev (.bool true) rfl rfl) ?_
 refine w_val_g (v := .int .i64 4) (want_yes (j := 3) rfl rfl (ev (.bool true) rfl rfl) rfl) (y_mv (ev (.int .i64 4) rfl rfl)) ?_
 refine w_val_g (v := .int .i64 4) (want_yes (j := 3) rfl rfl (ev (.bool true) rfl rfl) rfl) (y_mv (ev (.int .i64 4) rfl rfl)) ?_
 refine w_val_g (want_yes (j := 3) rfl rfl (ev (.bool true) rfl rfl) rfl) (y_bin (ev (.int .i64 4) rfl rfl) (ev (.int .i64 4) rfl rfl) b_eql) ?_
 refine w_val (y_pick_t (ev (.bool true) rfl rfl) (ev (.bool true) rfl rfl)) ?_
 refine w_as (ev (.bool true) rfl rfl) ?_
 refine nt ?_
 refine wp_ret ?_
 refine fin_ret1 rfl (ev (.bool true) rfl rfl) ?_
 exact ⟨rfl, hk⟩

set_option maxRecDepth 100000 in
set_option maxHeartbeats 1000000 in
theorem cbcOpens_0 (key vi : List (BitVec 8)) (hok : Aes.okKey key.length) (hiv : vi.length = 16) (text : List (BitVec 8)) (h : ¬ (3000 < text.length ∧ text.length ≤ 140000)) (h0 : text.length = 0) (w0 : World) : Calls Try.prog 6 #[.string (str key), .string (str vi), .string (str text)] w0 fun e w' => e = .returned (.bool true) ∧ Below w0.heap.size w0 w' := by
 refine enter (n := 37) Try.func6 rfl rfl rfl ?_
 have hk : Below w0.heap.size w0 w0 := Below.refl _ _
 refine sr ?_
 refine w_as (evc (.bool false)) ?_
 refine nt ?_
 refine wp_seq ?_
 refine sr ?_
 refine w_call (Try.func18) (by kernel_rfl) rfl m0 (cbcWakes_c  w0) ?_
 rintro _ w1 ⟨rfl, hb2⟩
 refine ⟨_, rfl, ?_⟩
 replace hk := thenB hk hb2
 refine w_val (y_not (ev (.bool true) rfl rfl)) ?_
 refine nt ?_
 refine c_ff (ev (.bool false) rfl rfl) ?_
 refine wp_skip ?_
 refine then_n ?_
 refine wp_seq ?_
 refine sr ?_
 refine w_mv (ev (.string (str text)) rfl rfl) ?_
 refine w_call (Try.func23) (by kernel_rfl) rfl (m1 (ev (.string (str text)) rfl rfl)) (long_f text h w1) ?_
 rintro _ w3 ⟨rfl, hb4⟩
 refine ⟨_, rfl, ?_⟩
 replace hk := thenB hk hb4
 refine nt ?_
 refine c_ff (ev (.bool false) rfl rfl) ?_
 refine wp_skip ?_
 refine then_n ?_
 refine sr ?_
 refine w_mv (ev (.string (str key)) rfl rfl) ?_
 refine w_mv (ev (.string (str vi)) rfl rfl) ?_
 refine w_mv (ev (.string (str text)) rfl rfl) ?_
 refine w_call (Try.func30) (by kernel_rfl) rfl (m3 (ev (.string (str key)) rfl rfl) (ev (.string (str vi)) rfl rfl) (ev (.string (str text)) rfl rfl)) (open_s key vi hok hiv text (by omega) w3) ?_
 rintro _ w5 ⟨rfl, hb6⟩
 refine ⟨_, rfl, ?_⟩
 replace hk := thenB hk hb6
 refine w_mv (ev (.tuple #[.string (str ([] : List (BitVec 8))), .int .i64 6]) rfl rfl) ?_
 refine w_val (y_ext (v := .string (str ([] : List (BitVec 8)))) (ev (.tuple #[.string (str ([] : List (BitVec 8))), .int .i64 6]) rfl rfl) rfl) ?_
 refine w_val (y_ext (v := .int .i64 6) (ev (.tuple #[.string (str ([] : List (BitVec 8))), .int .i64 6]) rfl rfl) rfl) ?_
 refine w_as (ev (.string (str ([] : List (BitVec 8)))) rfl rfl) ?_
 refine w_as (ev (.int .i64 6) rfl rfl) ?_
 refine nt ?_
 refine sr ?_
 refine w_mv (ev (.string (str key)) rfl rfl) ?_
 refine w_mv (ev (.string (str vi)) rfl rfl) ?_
 refine w_mv (ev (.string (str text)) rfl rfl) ?_
 refine w_call (Try.func31) (by kernel_rfl) rfl (m3 (ev (.string (str key)) rfl rfl) (ev (.string (str vi)) rfl rfl) (ev (.string (str text)) rfl rfl)) (refOpen_0 key vi hok hiv text h0 w5) ?_
 rintro _ w7 ⟨rfl, hb8⟩
 refine ⟨_, rfl, ?_⟩
 replace hk := thenB hk hb8
 refine w_mv (ev (.tuple #[.string (str ([] : List (BitVec 8))), .int .i64 6]) rfl rfl) ?_
 refine w_val (y_ext (v := .string (str ([] : List (BitVec 8)))) (ev (.tuple #[.string (str ([] : List (BitVec 8))), .int .i64 6]) rfl rfl) rfl) ?_
 refine w_val (y_ext (v := .int .i64 6) (ev (.tuple #[.string (str ([] : List (BitVec 8))), .int .i64 6]) rfl rfl) rfl) ?_
 refine w_as (ev (.string (str ([] : List (BitVec 8)))) rfl rfl) ?_
 refine w_as (ev (.int .i64 6) rfl rfl) ?_
 refine nt ?_
 refine sr ?_
 refine w_mv (ev (.string (str ([] : List (BitVec 8)))) rfl rfl) ?_
 refine w_mv (ev (.string (str ([] : List (BitVec 8)))) rfl rfl) ?_
 refine w_val (y_bin (ev (.string (str ([] : List (BitVec 8)))) rfl rfl) (ev (.string (str ([] : List (BitVec 8)))) rfl rfl) b_eqs_same) ?_
 refine w_mv (ev (.bool true) rfl rfl) ?_
 refine w_val_g (v := .int .i64 6) (want_yes (j := 3) rfl rfl (ev (.bool true) rfl rfl) rfl) (y_mv (ev (.int .i64 6) rfl rfl)) ?_
 refine w_val_g (v := .int .i64 6) (want_yes (j := 3) rfl rfl (ev (.bool true) rfl rfl) rfl) (y_mv (ev (.int .i64 6) rfl rfl)) ?_
 refine w_val_g (want_yes (j := 3) rfl rfl (ev (.bool true) rfl rfl) rfl) (y_bin (ev (.int .i64 6) rfl rfl) (ev (.int .i64 6) rfl rfl) b_eql) ?_
 refine w_val (y_pick_t (ev (.bool true) rfl rfl) (ev (.bool true) rfl rfl)) ?_
 refine w_as (ev (.bool true) rfl rfl) ?_
 refine nt ?_
 refine wp_ret ?_
 refine fin_ret1 rfl (ev (.bool true) rfl rfl) ?_
 exact ⟨rfl, hk⟩

set_option maxRecDepth 100000 in
set_option maxHeartbeats 1000000 in
theorem cbcOpens_s (key vi : List (BitVec 8)) (hok : Aes.okKey key.length) (hiv : vi.length = 16) (text : List (BitVec 8)) (h : ¬ (3000 < text.length ∧ text.length ≤ 140000)) (h0 : 0 < text.length) (hs : ¬ (text.length % 16 = 0 ∧ text.length ≤ 70016)) (w0 : World) : Calls Try.prog 6 #[.string (str key), .string (str vi), .string (str text)] w0 fun e w' => e = .returned (.bool true) ∧ Below w0.heap.size w0 w' := by
 refine enter (n := 37) Try.func6 rfl rfl rfl ?_
 have hk : Below w0.heap.size w0 w0 := Below.refl _ _
 refine sr ?_
 refine w_as (evc (.bool false)) ?_
 refine nt ?_
 refine wp_seq ?_
 refine sr ?_
 refine w_call (Try.func18) (by kernel_rfl) rfl m0 (cbcWakes_c  w0) ?_
 rintro _ w1 ⟨rfl, hb2⟩
 refine ⟨_, rfl, ?_⟩
 replace hk := thenB hk hb2
 refine w_val (y_not (ev (.bool true) rfl rfl)) ?_
 refine nt ?_
 refine c_ff (ev (.bool false) rfl rfl) ?_
 refine wp_skip ?_
 refine then_n ?_
 refine wp_seq ?_
 refine sr ?_
 refine w_mv (ev (.string (str text)) rfl rfl) ?_
 refine w_call (Try.func23) (by kernel_rfl) rfl (m1 (ev (.string (str text)) rfl rfl)) (long_f text h w1) ?_
 rintro _ w3 ⟨rfl, hb4⟩
 refine ⟨_, rfl, ?_⟩
 replace hk := thenB hk hb4
 refine nt ?_
 refine c_ff (ev (.bool false) rfl rfl) ?_
 refine wp_skip ?_
 refine then_n ?_
 refine sr ?_
 refine w_mv (ev (.string (str key)) rfl rfl) ?_
 refine w_mv (ev (.string (str vi)) rfl rfl) ?_
 refine w_mv (ev (.string (str text)) rfl rfl) ?_
 refine w_call (Try.func30) (by kernel_rfl) rfl (m3 (ev (.string (str key)) rfl rfl) (ev (.string (str vi)) rfl rfl) (ev (.string (str text)) rfl rfl)) (open_s key vi hok hiv text (by omega) w3) ?_
 rintro _ w5 ⟨rfl, hb6⟩
 refine ⟨_, rfl, ?_⟩
 replace hk := thenB hk hb6
 refine w_mv (ev (.tuple #[.string (str ([] : List (BitVec 8))), .int .i64 6]) rfl rfl) ?_
 refine w_val (y_ext (v := .string (str ([] : List (BitVec 8)))) (ev (.tuple #[.string (str ([] : List (BitVec 8))), .int .i64 6]) rfl rfl) rfl) ?_
 refine w_val (y_ext (v := .int .i64 6) (ev (.tuple #[.string (str ([] : List (BitVec 8))), .int .i64 6]) rfl rfl) rfl) ?_
 refine w_as (ev (.string (str ([] : List (BitVec 8)))) rfl rfl) ?_
 refine w_as (ev (.int .i64 6) rfl rfl) ?_
 refine nt ?_
 refine sr ?_
 refine w_mv (ev (.string (str key)) rfl rfl) ?_
 refine w_mv (ev (.string (str vi)) rfl rfl) ?_
 refine w_mv (ev (.string (str text)) rfl rfl) ?_
 refine w_call (Try.func31) (by kernel_rfl) rfl (m3 (ev (.string (str key)) rfl rfl) (ev (.string (str vi)) rfl rfl) (ev (.string (str text)) rfl rfl)) (refOpen_s key vi hok hiv text h0 hs w5) ?_
 rintro _ w7 ⟨rfl, hb8⟩
 refine ⟨_, rfl, ?_⟩
 replace hk := thenB hk hb8
 refine w_mv (ev (.tuple #[.string (str ([] : List (BitVec 8))), .int .i64 6]) rfl rfl) ?_
 refine w_val (y_ext (v := .string (str ([] : List (BitVec 8)))) (ev (.tuple #[.string (str ([] : List (BitVec 8))), .int .i64 6]) rfl rfl) rfl) ?_
 refine w_val (y_ext (v := .int .i64 6) (ev (.tuple #[.string (str ([] : List (BitVec 8))), .int .i64 6]) rfl rfl) rfl) ?_
 refine w_as (ev (.string (str ([] : List (BitVec 8)))) rfl rfl) ?_
 refine w_as (ev (.int .i64 6) rfl rfl) ?_
 refine nt ?_
 refine sr ?_
 refine w_mv (ev (.string (str ([] : List (BitVec 8)))) rfl rfl) ?_
 refine w_mv (ev (.string (str ([] : List (BitVec 8)))) rfl rfl) ?_
 refine w_val (y_bin (ev (.string (str ([] : List (BitVec 8)))) rfl rfl) (ev (.string (str ([] : List (BitVec 8)))) rfl rfl) b_eqs_same) ?_
 refine w_mv (ev (.bool true) rfl rfl) ?_
 refine w_val_g (v := .int .i64 6) (want_yes (j := 3) rfl rfl (ev (.bool true) rfl rfl) rfl) (y_mv (ev (.int .i64 6) rfl rfl)) ?_
 refine w_val_g (v := .int .i64 6) (want_yes (j := 3) rfl rfl (ev (.bool true) rfl rfl) rfl) (y_mv (ev (.int .i64 6) rfl rfl)) ?_
 refine w_val_g (want_yes (j := 3) rfl rfl (ev (.bool true) rfl rfl) rfl) (y_bin (ev (.int .i64 6) rfl rfl) (ev (.int .i64 6) rfl rfl) b_eql) ?_
 refine w_val (y_pick_t (ev (.bool true) rfl rfl) (ev (.bool true) rfl rfl)) ?_
 refine w_as (ev (.bool true) rfl rfl) ?_
 refine nt ?_
 refine wp_ret ?_
 refine fin_ret1 rfl (ev (.bool true) rfl rfl) ?_
 exact ⟨rfl, hk⟩

set_option maxRecDepth 100000 in
set_option maxHeartbeats 1000000 in
theorem cbcOpens_p (key vi : List (BitVec 8)) (hok : Aes.okKey key.length) (hiv : vi.length = 16) (text : List (BitVec 8)) (h : ¬ (3000 < text.length ∧ text.length ≤ 140000)) (ht : text.length % 16 = 0) (hl : text.length ≤ 70016) (h0 : 0 < text.length) (hp : Cb.Padded (Cb.unchain key vi text) 16) (w0 : World) : Calls Try.prog 6 #[.string (str key), .string (str vi), .string (str text)] w0 fun e w' => e = .returned (.bool true) ∧ Below w0.heap.size w0 w' := by
 refine enter (n := 37) Try.func6 rfl rfl rfl ?_
 have hk : Below w0.heap.size w0 w0 := Below.refl _ _
 refine sr ?_
 refine w_as (evc (.bool false)) ?_
 refine nt ?_
 refine wp_seq ?_
 refine sr ?_
 refine w_call (Try.func18) (by kernel_rfl) rfl m0 (cbcWakes_c  w0) ?_
 rintro _ w1 ⟨rfl, hb2⟩
 refine ⟨_, rfl, ?_⟩
 replace hk := thenB hk hb2
 refine w_val (y_not (ev (.bool true) rfl rfl)) ?_
 refine nt ?_
 refine c_ff (ev (.bool false) rfl rfl) ?_
 refine wp_skip ?_
 refine then_n ?_
 refine wp_seq ?_
 refine sr ?_
 refine w_mv (ev (.string (str text)) rfl rfl) ?_
 refine w_call (Try.func23) (by kernel_rfl) rfl (m1 (ev (.string (str text)) rfl rfl)) (long_f text h w1) ?_
 rintro _ w3 ⟨rfl, hb4⟩
 refine ⟨_, rfl, ?_⟩
 replace hk := thenB hk hb4
 refine nt ?_
 refine c_ff (ev (.bool false) rfl rfl) ?_
 refine wp_skip ?_
 refine then_n ?_
 refine sr ?_
 refine w_mv (ev (.string (str key)) rfl rfl) ?_
 refine w_mv (ev (.string (str vi)) rfl rfl) ?_
 refine w_mv (ev (.string (str text)) rfl rfl) ?_
 refine w_call (Try.func30) (by kernel_rfl) rfl (m3 (ev (.string (str key)) rfl rfl) (ev (.string (str vi)) rfl rfl) (ev (.string (str text)) rfl rfl)) (open_p key vi hok hiv text ht hl h0 hp w3) ?_
 rintro _ w5 ⟨rfl, hb6⟩
 refine ⟨_, rfl, ?_⟩
 replace hk := thenB hk hb6
 refine w_mv (ev (.tuple #[.string (str ((Cb.unchain key vi text).take ((Cb.unchain key vi text).length - Cb.last (Cb.unchain key vi text)))), .int .i64 0]) rfl rfl) ?_
 refine w_val (y_ext (v := .string (str ((Cb.unchain key vi text).take ((Cb.unchain key vi text).length - Cb.last (Cb.unchain key vi text))))) (ev (.tuple #[.string (str ((Cb.unchain key vi text).take ((Cb.unchain key vi text).length - Cb.last (Cb.unchain key vi text)))), .int .i64 0]) rfl rfl) rfl) ?_
 refine w_val (y_ext (v := .int .i64 0) (ev (.tuple #[.string (str ((Cb.unchain key vi text).take ((Cb.unchain key vi text).length - Cb.last (Cb.unchain key vi text)))), .int .i64 0]) rfl rfl) rfl) ?_
 refine w_as (ev (.string (str ((Cb.unchain key vi text).take ((Cb.unchain key vi text).length - Cb.last (Cb.unchain key vi text))))) rfl rfl) ?_
 refine w_as (ev (.int .i64 0) rfl rfl) ?_
 refine nt ?_
 refine sr ?_
 refine w_mv (ev (.string (str key)) rfl rfl) ?_
 refine w_mv (ev (.string (str vi)) rfl rfl) ?_
 refine w_mv (ev (.string (str text)) rfl rfl) ?_
 refine w_call (Try.func31) (by kernel_rfl) rfl (m3 (ev (.string (str key)) rfl rfl) (ev (.string (str vi)) rfl rfl) (ev (.string (str text)) rfl rfl)) (refOpen_p key vi hok hiv text ht hl h0 hp w5) ?_
 rintro _ w7 ⟨rfl, hb8⟩
 refine ⟨_, rfl, ?_⟩
 replace hk := thenB hk hb8
 refine w_mv (ev (.tuple #[.string (str ((Cb.unchain key vi text).take ((Cb.unchain key vi text).length - Cb.last (Cb.unchain key vi text)))), .int .i64 0]) rfl rfl) ?_
 refine w_val (y_ext (v := .string (str ((Cb.unchain key vi text).take ((Cb.unchain key vi text).length - Cb.last (Cb.unchain key vi text))))) (ev (.tuple #[.string (str ((Cb.unchain key vi text).take ((Cb.unchain key vi text).length - Cb.last (Cb.unchain key vi text)))), .int .i64 0]) rfl rfl) rfl) ?_
 refine w_val (y_ext (v := .int .i64 0) (ev (.tuple #[.string (str ((Cb.unchain key vi text).take ((Cb.unchain key vi text).length - Cb.last (Cb.unchain key vi text)))), .int .i64 0]) rfl rfl) rfl) ?_
 refine w_as (ev (.string (str ((Cb.unchain key vi text).take ((Cb.unchain key vi text).length - Cb.last (Cb.unchain key vi text))))) rfl rfl) ?_
 refine w_as (ev (.int .i64 0) rfl rfl) ?_
 refine nt ?_
 refine sr ?_
 refine w_mv (ev (.string (str ((Cb.unchain key vi text).take ((Cb.unchain key vi text).length - Cb.last (Cb.unchain key vi text))))) rfl rfl) ?_
 refine w_mv (ev (.string (str ((Cb.unchain key vi text).take ((Cb.unchain key vi text).length - Cb.last (Cb.unchain key vi text))))) rfl rfl) ?_
 refine w_val (y_bin (ev (.string (str ((Cb.unchain key vi text).take ((Cb.unchain key vi text).length - Cb.last (Cb.unchain key vi text))))) rfl rfl) (ev (.string (str ((Cb.unchain key vi text).take ((Cb.unchain key vi text).length - Cb.last (Cb.unchain key vi text))))) rfl rfl) b_eqs_same) ?_
 refine w_mv (ev (.bool true) rfl rfl) ?_
 refine w_val_g (v := .int .i64 0) (want_yes (j := 3) rfl rfl (ev (.bool true) rfl rfl) rfl) (y_mv (ev (.int .i64 0) rfl rfl)) ?_
 refine w_val_g (v := .int .i64 0) (want_yes (j := 3) rfl rfl (ev (.bool true) rfl rfl) rfl) (y_mv (ev (.int .i64 0) rfl rfl)) ?_
 refine w_val_g (want_yes (j := 3) rfl rfl (ev (.bool true) rfl rfl) rfl) (y_bin (ev (.int .i64 0) rfl rfl) (ev (.int .i64 0) rfl rfl) b_eql) ?_
 refine w_val (y_pick_t (ev (.bool true) rfl rfl) (ev (.bool true) rfl rfl)) ?_
 refine w_as (ev (.bool true) rfl rfl) ?_
 refine nt ?_
 refine wp_ret ?_
 refine fin_ret1 rfl (ev (.bool true) rfl rfl) ?_
 exact ⟨rfl, hk⟩

set_option maxRecDepth 100000 in
set_option maxHeartbeats 1000000 in
theorem cbcOpens_n (key vi : List (BitVec 8)) (hok : Aes.okKey key.length) (hiv : vi.length = 16) (text : List (BitVec 8)) (h : ¬ (3000 < text.length ∧ text.length ≤ 140000)) (ht : text.length % 16 = 0) (hl : text.length ≤ 70016) (h0 : 0 < text.length) (hp : ¬ Cb.Padded (Cb.unchain key vi text) 16) (w0 : World) : Calls Try.prog 6 #[.string (str key), .string (str vi), .string (str text)] w0 fun e w' => e = .returned (.bool true) ∧ Below w0.heap.size w0 w' := by
 refine enter (n := 37) Try.func6 rfl rfl rfl ?_
 have hk : Below w0.heap.size w0 w0 := Below.refl _ _
 refine sr ?_
 refine w_as (evc (.bool false)) ?_
 refine nt ?_
 refine wp_seq ?_
 refine sr ?_
 refine w_call (Try.func18) (by kernel_rfl) rfl m0 (cbcWakes_c  w0) ?_
 rintro _ w1 ⟨rfl, hb2⟩
 refine ⟨_, rfl, ?_⟩
 replace hk := thenB hk hb2
 refine w_val (y_not (ev (.bool true) rfl rfl)) ?_
 refine nt ?_
 refine c_ff (ev (.bool false) rfl rfl) ?_
 refine wp_skip ?_
 refine then_n ?_
 refine wp_seq ?_
 refine sr ?_
 refine w_mv (ev (.string (str text)) rfl rfl) ?_
 refine w_call (Try.func23) (by kernel_rfl) rfl (m1 (ev (.string (str text)) rfl rfl)) (long_f text h w1) ?_
 rintro _ w3 ⟨rfl, hb4⟩
 refine ⟨_, rfl, ?_⟩
 replace hk := thenB hk hb4
 refine nt ?_
 refine c_ff (ev (.bool false) rfl rfl) ?_
 refine wp_skip ?_
 refine then_n ?_
 refine sr ?_
 refine w_mv (ev (.string (str key)) rfl rfl) ?_
 refine w_mv (ev (.string (str vi)) rfl rfl) ?_
 refine w_mv (ev (.string (str text)) rfl rfl) ?_
 refine w_call (Try.func30) (by kernel_rfl) rfl (m3 (ev (.string (str key)) rfl rfl) (ev (.string (str vi)) rfl rfl) (ev (.string (str text)) rfl rfl)) (open_n key vi hok hiv text ht hl h0 hp w3) ?_
 rintro _ w5 ⟨rfl, hb6⟩
 refine ⟨_, rfl, ?_⟩
 replace hk := thenB hk hb6
 refine w_mv (ev (.tuple #[.string (str ([] : List (BitVec 8))), .int .i64 7]) rfl rfl) ?_
 refine w_val (y_ext (v := .string (str ([] : List (BitVec 8)))) (ev (.tuple #[.string (str ([] : List (BitVec 8))), .int .i64 7]) rfl rfl) rfl) ?_
 refine w_val (y_ext (v := .int .i64 7) (ev (.tuple #[.string (str ([] : List (BitVec 8))), .int .i64 7]) rfl rfl) rfl) ?_
 refine w_as (ev (.string (str ([] : List (BitVec 8)))) rfl rfl) ?_
 refine w_as (ev (.int .i64 7) rfl rfl) ?_
 refine nt ?_
 refine sr ?_
 refine w_mv (ev (.string (str key)) rfl rfl) ?_
 refine w_mv (ev (.string (str vi)) rfl rfl) ?_
 refine w_mv (ev (.string (str text)) rfl rfl) ?_
 refine w_call (Try.func31) (by kernel_rfl) rfl (m3 (ev (.string (str key)) rfl rfl) (ev (.string (str vi)) rfl rfl) (ev (.string (str text)) rfl rfl)) (refOpen_n key vi hok hiv text ht hl h0 hp w5) ?_
 rintro _ w7 ⟨rfl, hb8⟩
 refine ⟨_, rfl, ?_⟩
 replace hk := thenB hk hb8
 refine w_mv (ev (.tuple #[.string (str ([] : List (BitVec 8))), .int .i64 7]) rfl rfl) ?_
 refine w_val (y_ext (v := .string (str ([] : List (BitVec 8)))) (ev (.tuple #[.string (str ([] : List (BitVec 8))), .int .i64 7]) rfl rfl) rfl) ?_
 refine w_val (y_ext (v := .int .i64 7) (ev (.tuple #[.string (str ([] : List (BitVec 8))), .int .i64 7]) rfl rfl) rfl) ?_
 refine w_as (ev (.string (str ([] : List (BitVec 8)))) rfl rfl) ?_
 refine w_as (ev (.int .i64 7) rfl rfl) ?_
 refine nt ?_
 refine sr ?_
 refine w_mv (ev (.string (str ([] : List (BitVec 8)))) rfl rfl) ?_
 refine w_mv (ev (.string (str ([] : List (BitVec 8)))) rfl rfl) ?_
 refine w_val (y_bin (ev (.string (str ([] : List (BitVec 8)))) rfl rfl) (ev (.string (str ([] : List (BitVec 8)))) rfl rfl) b_eqs_same) ?_
 refine w_mv (ev (.bool true) rfl rfl) ?_
 refine w_val_g (v := .int .i64 7) (want_yes (j := 3) rfl rfl (ev (.bool true) rfl rfl) rfl) (y_mv (ev (.int .i64 7) rfl rfl)) ?_
 refine w_val_g (v := .int .i64 7) (want_yes (j := 3) rfl rfl (ev (.bool true) rfl rfl) rfl) (y_mv (ev (.int .i64 7) rfl rfl)) ?_
 refine w_val_g (want_yes (j := 3) rfl rfl (ev (.bool true) rfl rfl) rfl) (y_bin (ev (.int .i64 7) rfl rfl) (ev (.int .i64 7) rfl rfl) b_eql) ?_
 refine w_val (y_pick_t (ev (.bool true) rfl rfl) (ev (.bool true) rfl rfl)) ?_
 refine w_as (ev (.bool true) rfl rfl) ?_
 refine nt ?_
 refine wp_ret ?_
 refine fin_ret1 rfl (ev (.bool true) rfl rfl) ?_
 exact ⟨rfl, hk⟩

theorem walk_CbcOpens (key : List (BitVec 8)) (hkey : key.length ≤ 140737488351232) (vi : List (BitVec 8)) (hvi : vi.length ≤ 140737488351232) (text : List (BitVec 8)) (ht : text.length ≤ 140737488351232) (w : World) : Calls Try.prog 6 #[.string (str key), .string (str vi), .string (str text)] w fun e w' => e = .returned (.bool true) ∧ Below w.heap.size w w' := by
  by_cases h : 3000 < text.length ∧ text.length ≤ 140000
  · exact cbcOpens_l key vi text h w
  · by_cases hok : Aes.okKey key.length
    · by_cases hiv : vi.length = 16
      · by_cases h0 : text.length = 0
        · exact cbcOpens_0 key vi hok hiv text h h0 w
        · by_cases hs : text.length % 16 = 0 ∧ text.length ≤ 70016
          · by_cases hp : Cb.Padded (Cb.unchain key vi text) 16
            · exact cbcOpens_p key vi hok hiv text h hs.1 hs.2 (by omega) hp w
            · exact cbcOpens_n key vi hok hiv text h hs.1 hs.2 (by omega) hp w
          · exact cbcOpens_s key vi hok hiv text h (by omega) hs w
      · exact cbcOpens_i key vi hok hiv text h w
    · exact cbcOpens_k key vi hok text h w

set_option maxRecDepth 100000 in
set_option maxHeartbeats 1000000 in
theorem cbcMacs_l (key : List (BitVec 8)) (text : List (BitVec 8)) (h : 3000 < text.length ∧ text.length ≤ 140000) (w0 : World) : Calls Try.prog 7 #[.string (str key), .string (str text)] w0 fun e w' => e = .returned (.bool true) ∧ Below w0.heap.size w0 w' := by
 refine enter (n := 64) Try.func7 rfl rfl rfl ?_
 have hk : Below w0.heap.size w0 w0 := Below.refl _ _
 refine sr ?_
 refine w_as (evc (.bool false)) ?_
 refine nt ?_
 refine wp_seq ?_
 refine sr ?_
 refine w_call (Try.func18) (by kernel_rfl) rfl m0 (cbcWakes_c  w0) ?_
 rintro _ w1 ⟨rfl, hb2⟩
 refine ⟨_, rfl, ?_⟩
 replace hk := thenB hk hb2
 refine w_val (y_not (ev (.bool true) rfl rfl)) ?_
 refine nt ?_
 refine c_ff (ev (.bool false) rfl rfl) ?_
 refine wp_skip ?_
 refine then_n ?_
 refine wp_seq ?_
 refine sr ?_
 refine w_mv (ev (.string (str text)) rfl rfl) ?_
 refine w_call (Try.func23) (by kernel_rfl) rfl (m1 (ev (.string (str text)) rfl rfl)) (long_t text h w1) ?_
 rintro _ w3 ⟨rfl, hb4⟩
 refine ⟨_, rfl, ?_⟩
 replace hk := thenB hk hb4
 refine nt ?_
 refine c_tt (ev (.bool true) rfl rfl) ?_
 refine sr ?_
 refine w_as (evc (.bool true)) ?_
 refine nt ?_
 refine wp_ret ?_
 refine then_r ?_
 refine fin_ret1 rfl (ev (.bool true) rfl rfl) ?_
 exact ⟨rfl, hk⟩

set_option maxRecDepth 100000 in
set_option maxHeartbeats 1000000 in
theorem cbcMacs_k (key : List (BitVec 8)) (hok : ¬ Aes.okKey key.length) (text : List (BitVec 8)) (ht : text.length ≤ 140737488351232) (h : ¬ (3000 < text.length ∧ text.length ≤ 140000)) (w0 : World) : Calls Try.prog 7 #[.string (str key), .string (str text)] w0 fun e w' => e = .returned (.bool true) ∧ Below w0.heap.size w0 w' := by
 refine enter (n := 64) Try.func7 rfl rfl rfl ?_
 have hk : Below w0.heap.size w0 w0 := Below.refl _ _
 refine sr ?_
 refine w_as (evc (.bool false)) ?_
 refine nt ?_
 refine wp_seq ?_
 refine sr ?_
 refine w_call (Try.func18) (by kernel_rfl) rfl m0 (cbcWakes_c  w0) ?_
 rintro _ w1 ⟨rfl, hb2⟩
 refine ⟨_, rfl, ?_⟩
 replace hk := thenB hk hb2
 refine w_val (y_not (ev (.bool true) rfl rfl)) ?_
 refine nt ?_
 refine c_ff (ev (.bool false) rfl rfl) ?_
 refine wp_skip ?_
 refine then_n ?_
 refine wp_seq ?_
 refine sr ?_
 refine w_mv (ev (.string (str text)) rfl rfl) ?_
 refine w_call (Try.func23) (by kernel_rfl) rfl (m1 (ev (.string (str text)) rfl rfl)) (long_f text h w1) ?_
 rintro _ w3 ⟨rfl, hb4⟩
 refine ⟨_, rfl, ?_⟩
 replace hk := thenB hk hb4
 refine nt ?_
 refine c_ff (ev (.bool false) rfl rfl) ?_
 refine wp_skip ?_
 refine then_n ?_
 refine sr ?_
 refine w_mv (ev (.string (str key)) rfl rfl) ?_
 refine w_mv (ev (.string (str text)) rfl rfl) ?_
 refine w_call (Try.func32) (by kernel_rfl) rfl (m2 (ev (.string (str key)) rfl rfl) (ev (.string (str text)) rfl rfl)) (mac_k key hok text w3) ?_
 rintro _ w5 ⟨rfl, hb6⟩
 refine ⟨_, rfl, ?_⟩
 replace hk := thenB hk hb6
 refine w_mv (ev (.tuple #[.string (str ([] : List (BitVec 8))), .int .i64 3]) rfl rfl) ?_
 refine w_val (y_ext (v := .string (str ([] : List (BitVec 8)))) (ev (.tuple #[.string (str ([] : List (BitVec 8))), .int .i64 3]) rfl rfl) rfl) ?_
 refine w_val (y_ext (v := .int .i64 3) (ev (.tuple #[.string (str ([] : List (BitVec 8))), .int .i64 3]) rfl rfl) rfl) ?_
 refine w_as (ev (.string (str ([] : List (BitVec 8)))) rfl rfl) ?_
 refine w_as (ev (.int .i64 3) rfl rfl) ?_
 refine nt ?_
 refine sr ?_
 refine w_mv (ev (.string (str key)) rfl rfl) ?_
 refine w_mv (ev (.string (str text)) rfl rfl) ?_
 refine w_call (Try.func33) (by kernel_rfl) rfl (m2 (ev (.string (str key)) rfl rfl) (ev (.string (str text)) rfl rfl)) (refMac_k key hok text w5) ?_
 rintro _ w7 ⟨rfl, hb8⟩
 refine ⟨_, rfl, ?_⟩
 replace hk := thenB hk hb8
 refine w_mv (ev (.tuple #[.string (str ([] : List (BitVec 8))), .int .i64 3]) rfl rfl) ?_
 refine w_val (y_ext (v := .string (str ([] : List (BitVec 8)))) (ev (.tuple #[.string (str ([] : List (BitVec 8))), .int .i64 3]) rfl rfl) rfl) ?_
 refine w_val (y_ext (v := .int .i64 3) (ev (.tuple #[.string (str ([] : List (BitVec 8))), .int .i64 3]) rfl rfl) rfl) ?_
 refine w_as (ev (.string (str ([] : List (BitVec 8)))) rfl rfl) ?_
 refine w_as (ev (.int .i64 3) rfl rfl) ?_
 refine nt ?_
 refine wp_seq ?_
 refine sr ?_
 refine w_mv (ev (.string (str ([] : List (BitVec 8)))) rfl rfl) ?_
 refine w_mv (ev (.string (str ([] : List (BitVec 8)))) rfl rfl) ?_
 refine w_val (y_bin (ev (.string (str ([] : List (BitVec 8)))) rfl rfl) (ev (.string (str ([] : List (BitVec 8)))) rfl rfl) b_nes_same) ?_
 refine w_mv (ev (.bool false) rfl rfl) ?_
 refine w_val_g (v := .int .i64 3) (want_yes (j := 3) rfl rfl (ev (.bool false) rfl rfl) rfl) (y_mv (ev (.int .i64 3) rfl rfl)) ?_
 refine w_val_g (v := .int .i64 3) (want_yes (j := 3) rfl rfl (ev (.bool false) rfl rfl) rfl) (y_mv (ev (.int .i64 3) rfl rfl)) ?_
 refine w_val_g (want_yes (j := 3) rfl rfl (ev (.bool false) rfl rfl) rfl) (y_bin (ev (.int .i64 3) rfl rfl) (ev (.int .i64 3) rfl rfl) b_neq) ?_
 refine w_val (y_pick_f (ev (.bool false) rfl rfl) (ev (.bool false) rfl rfl)) ?_
 refine nt ?_
 refine c_ff (ev (.bool false) rfl rfl) ?_
 refine wp_skip ?_
 refine then_n ?_
 refine sr ?_
 refine w_mv (ev (.string (str key)) rfl rfl) ?_
 refine w_mv (ev (.string (str text)) rfl rfl) ?_
 refine w_val (y_bin (ev (.string (str text)) rfl rfl) (evc (.string (str ([0#8])))) (b_cat (by simp only [List.length_cons, List.length_nil]; omega))) ?_
 refine w_call (Try.func32) (by kernel_rfl) rfl (m2 (ev (.string (str key)) rfl rfl) (ev (.string (str (text ++ ([0#8])))) rfl rfl)) (mac_k key hok (text ++ [0#8]) w7) ?_
 rintro _ w9 ⟨rfl, hb10⟩
 refine ⟨_, rfl, ?_⟩
 replace hk := thenB hk hb10
 refine w_mv (ev (.tuple #[.string (str ([] : List (BitVec 8))), .int .i64 3]) rfl rfl) ?_
 refine w_val (y_ext (v := .string (str ([] : List (BitVec 8)))) (ev (.tuple #[.string (str ([] : List (BitVec 8))), .int .i64 3]) rfl rfl) rfl) ?_
 refine w_val (y_ext (v := .int .i64 3) (ev (.tuple #[.string (str ([] : List (BitVec 8))), .int .i64 3]) rfl rfl) rfl) ?_
 refine w_as (ev (.string (str ([] : List (BitVec 8)))) rfl rfl) ?_
 refine w_as (ev (.int .i64 3) rfl rfl) ?_
 refine nt ?_
 refine sr ?_
 refine w_mv (ev (.int .i64 3) rfl rfl) ?_
 refine w_val (y_bin (ev (.int .i64 3) rfl rfl) (evc (.int .i64 0)) b_neq) ?_
 refine w_mv (ev (.bool true) rfl rfl) ?_
 first | with_reducible refine w_skip ?_ ?_ | refine w_skip ?_ ?_
 · exact want_no (j := 2) rfl rfl (ev (.bool true) rfl rfl) rfl
 first | with_reducible refine w_skip ?_ ?_ | refine w_skip ?_ ?_
 · exact want_no (j := 2) rfl rfl (ev (.bool true) rfl rfl) rfl
 first | with_reducible refine w_skip ?_ ?_ | refine w_skip ?_ ?_
 · exact want_no (j := 2) rfl rfl (ev (.bool true) rfl rfl) rfl
 first | with_reducible refine w_skip ?_ ?_ | refine w_skip ?_ ?_
 · exact want_no (j := 2) rfl rfl (ev (.bool true) rfl rfl) rfl
 refine w_val (y_pick_t (ev (.bool true) rfl rfl) (evc (.bool true))) ?_
 refine w_mv (ev (.bool true) rfl rfl) ?_
 first | with_reducible refine w_skip ?_ ?_ | refine w_skip ?_ ?_
 · exact want_no (j := 8) rfl rfl (ev (.bool true) rfl rfl) rfl
 first | with_reducible refine w_skip ?_ ?_ | refine w_skip ?_ ?_
 · exact want_no (j := 8) rfl rfl (ev (.bool true) rfl rfl) rfl
 first | with_reducible refine w_skip ?_ ?_ | refine w_skip ?_ ?_
 · exact want_no (j := 8) rfl rfl (ev (.bool true) rfl rfl) rfl
 refine w_val (y_pick_t (ev (.bool true) rfl rfl) (evc (.bool true))) ?_
 refine w_mv (ev (.bool true) rfl rfl) ?_
 first | with_reducible refine w_skip ?_ ?_ | refine w_skip ?_ ?_
 · exact want_no (j := 13) rfl rfl (ev (.bool true) rfl rfl) rfl
 first | with_reducible refine w_skip ?_ ?_ | refine w_skip ?_ ?_
 · exact want_no (j := 13) rfl rfl (ev (.bool true) rfl rfl) rfl
 first | with_reducible refine w_skip ?_ ?_ | refine w_skip ?_ ?_
 · exact want_no (j := 13) rfl rfl (ev (.bool true) rfl rfl) rfl
 first | with_reducible refine w_skip ?_ ?_ | refine w_skip ?_ ?_
 · exact want_un (j := 16) rfl rfl (ev undef rfl rfl) rfl
 first | with_reducible refine w_skip ?_ ?_ | refine w_skip ?_ ?_
 · exact want_un (j := 16) rfl rfl (ev undef rfl rfl) rfl
 first | with_reducible refine w_skip ?_ ?_ | refine w_skip ?_ ?_
 · exact want_un (j := 16) rfl rfl (ev undef rfl rfl) rfl
 first | with_reducible refine w_skip ?_ ?_ | refine w_skip ?_ ?_
 · exact want_no (j := 13) rfl rfl (ev (.bool true) rfl rfl) rfl
 refine w_val (y_pick_t (ev (.bool true) rfl rfl) (evc (.bool true))) ?_
 refine w_as (ev (.bool true) rfl rfl) ?_
 refine nt ?_
 refine wp_ret ?_
 refine fin_ret1 rfl (ev (.bool true) rfl rfl) ?_
 exact ⟨rfl, hk⟩

set_option maxRecDepth 100000 in
set_option maxHeartbeats 1000000 in
theorem cbcMacs_z (key : List (BitVec 8)) (hok : Aes.okKey key.length) (text : List (BitVec 8)) (ht : text.length ≤ 140737488351232) (h : ¬ (3000 < text.length ∧ text.length ≤ 140000)) (hz : 140000 < text.length) (w0 : World) : Calls Try.prog 7 #[.string (str key), .string (str text)] w0 fun e w' => e = .returned (.bool true) ∧ Below w0.heap.size w0 w' := by
 refine enter (n := 64) Try.func7 rfl rfl rfl ?_
 have hk : Below w0.heap.size w0 w0 := Below.refl _ _
 refine sr ?_
 refine w_as (evc (.bool false)) ?_
 refine nt ?_
 refine wp_seq ?_
 refine sr ?_
 refine w_call (Try.func18) (by kernel_rfl) rfl m0 (cbcWakes_c  w0) ?_
 rintro _ w1 ⟨rfl, hb2⟩
 refine ⟨_, rfl, ?_⟩
 replace hk := thenB hk hb2
 refine w_val (y_not (ev (.bool true) rfl rfl)) ?_
 refine nt ?_
 refine c_ff (ev (.bool false) rfl rfl) ?_
 refine wp_skip ?_
 refine then_n ?_
 refine wp_seq ?_
 refine sr ?_
 refine w_mv (ev (.string (str text)) rfl rfl) ?_
 refine w_call (Try.func23) (by kernel_rfl) rfl (m1 (ev (.string (str text)) rfl rfl)) (long_f text h w1) ?_
 rintro _ w3 ⟨rfl, hb4⟩
 refine ⟨_, rfl, ?_⟩
 replace hk := thenB hk hb4
 refine nt ?_
 refine c_ff (ev (.bool false) rfl rfl) ?_
 refine wp_skip ?_
 refine then_n ?_
 refine sr ?_
 refine w_mv (ev (.string (str key)) rfl rfl) ?_
 refine w_mv (ev (.string (str text)) rfl rfl) ?_
 refine w_call (Try.func32) (by kernel_rfl) rfl (m2 (ev (.string (str key)) rfl rfl) (ev (.string (str text)) rfl rfl)) (mac_z key hok text hz w3) ?_
 rintro _ w5 ⟨rfl, hb6⟩
 refine ⟨_, rfl, ?_⟩
 replace hk := thenB hk hb6
 refine w_mv (ev (.tuple #[.string (str ([] : List (BitVec 8))), .int .i64 6]) rfl rfl) ?_
 refine w_val (y_ext (v := .string (str ([] : List (BitVec 8)))) (ev (.tuple #[.string (str ([] : List (BitVec 8))), .int .i64 6]) rfl rfl) rfl) ?_
 refine w_val (y_ext (v := .int .i64 6) (ev (.tuple #[.string (str ([] : List (BitVec 8))), .int .i64 6]) rfl rfl) rfl) ?_
 refine w_as (ev (.string (str ([] : List (BitVec 8)))) rfl rfl) ?_
 refine w_as (ev (.int .i64 6) rfl rfl) ?_
 refine nt ?_
 refine sr ?_
 refine w_mv (ev (.string (str key)) rfl rfl) ?_
 refine w_mv (ev (.string (str text)) rfl rfl) ?_
 refine w_call (Try.func33) (by kernel_rfl) rfl (m2 (ev (.string (str key)) rfl rfl) (ev (.string (str text)) rfl rfl)) (refMac_z key hok text hz w5) ?_
 rintro _ w7 ⟨rfl, hb8⟩
 refine ⟨_, rfl, ?_⟩
 replace hk := thenB hk hb8
 refine w_mv (ev (.tuple #[.string (str ([] : List (BitVec 8))), .int .i64 6]) rfl rfl) ?_
 refine w_val (y_ext (v := .string (str ([] : List (BitVec 8)))) (ev (.tuple #[.string (str ([] : List (BitVec 8))), .int .i64 6]) rfl rfl) rfl) ?_
 refine w_val (y_ext (v := .int .i64 6) (ev (.tuple #[.string (str ([] : List (BitVec 8))), .int .i64 6]) rfl rfl) rfl) ?_
 refine w_as (ev (.string (str ([] : List (BitVec 8)))) rfl rfl) ?_
 refine w_as (ev (.int .i64 6) rfl rfl) ?_
 refine nt ?_
 refine wp_seq ?_
 refine sr ?_
 refine w_mv (ev (.string (str ([] : List (BitVec 8)))) rfl rfl) ?_
 refine w_mv (ev (.string (str ([] : List (BitVec 8)))) rfl rfl) ?_
 refine w_val (y_bin (ev (.string (str ([] : List (BitVec 8)))) rfl rfl) (ev (.string (str ([] : List (BitVec 8)))) rfl rfl) b_nes_same) ?_
 refine w_mv (ev (.bool false) rfl rfl) ?_
 refine w_val_g (v := .int .i64 6) (want_yes (j := 3) rfl rfl (ev (.bool false) rfl rfl) rfl) (y_mv (ev (.int .i64 6) rfl rfl)) ?_
 refine w_val_g (v := .int .i64 6) (want_yes (j := 3) rfl rfl (ev (.bool false) rfl rfl) rfl) (y_mv (ev (.int .i64 6) rfl rfl)) ?_
 refine w_val_g (want_yes (j := 3) rfl rfl (ev (.bool false) rfl rfl) rfl) (y_bin (ev (.int .i64 6) rfl rfl) (ev (.int .i64 6) rfl rfl) b_neq) ?_
 refine w_val (y_pick_f (ev (.bool false) rfl rfl) (ev (.bool false) rfl rfl)) ?_
 refine nt ?_
 refine c_ff (ev (.bool false) rfl rfl) ?_
 refine wp_skip ?_
 refine then_n ?_
 refine sr ?_
 refine w_mv (ev (.string (str key)) rfl rfl) ?_
 refine w_mv (ev (.string (str text)) rfl rfl) ?_
 refine w_val (y_bin (ev (.string (str text)) rfl rfl) (evc (.string (str ([0#8])))) (b_cat (by simp only [List.length_cons, List.length_nil]; omega))) ?_
 refine w_call (Try.func32) (by kernel_rfl) rfl (m2 (ev (.string (str key)) rfl rfl) (ev (.string (str (text ++ ([0#8])))) rfl rfl)) (mac_z key hok (text ++ [0#8]) (by simp only [List.length_append, List.length_cons, List.length_nil]; omega) w7) ?_
 rintro _ w9 ⟨rfl, hb10⟩
 refine ⟨_, rfl, ?_⟩
 replace hk := thenB hk hb10
 refine w_mv (ev (.tuple #[.string (str ([] : List (BitVec 8))), .int .i64 6]) rfl rfl) ?_
 refine w_val (y_ext (v := .string (str ([] : List (BitVec 8)))) (ev (.tuple #[.string (str ([] : List (BitVec 8))), .int .i64 6]) rfl rfl) rfl) ?_
 refine w_val (y_ext (v := .int .i64 6) (ev (.tuple #[.string (str ([] : List (BitVec 8))), .int .i64 6]) rfl rfl) rfl) ?_
 refine w_as (ev (.string (str ([] : List (BitVec 8)))) rfl rfl) ?_
 refine w_as (ev (.int .i64 6) rfl rfl) ?_
 refine nt ?_
 refine sr ?_
 refine w_mv (ev (.int .i64 6) rfl rfl) ?_
 refine w_val (y_bin (ev (.int .i64 6) rfl rfl) (evc (.int .i64 0)) b_neq) ?_
 refine w_mv (ev (.bool true) rfl rfl) ?_
 first | with_reducible refine w_skip ?_ ?_ | refine w_skip ?_ ?_
 · exact want_no (j := 2) rfl rfl (ev (.bool true) rfl rfl) rfl
 first | with_reducible refine w_skip ?_ ?_ | refine w_skip ?_ ?_
 · exact want_no (j := 2) rfl rfl (ev (.bool true) rfl rfl) rfl
 first | with_reducible refine w_skip ?_ ?_ | refine w_skip ?_ ?_
 · exact want_no (j := 2) rfl rfl (ev (.bool true) rfl rfl) rfl
 first | with_reducible refine w_skip ?_ ?_ | refine w_skip ?_ ?_
 · exact want_no (j := 2) rfl rfl (ev (.bool true) rfl rfl) rfl
 refine w_val (y_pick_t (ev (.bool true) rfl rfl) (evc (.bool true))) ?_
 refine w_mv (ev (.bool true) rfl rfl) ?_
 first | with_reducible refine w_skip ?_ ?_ | refine w_skip ?_ ?_
 · exact want_no (j := 8) rfl rfl (ev (.bool true) rfl rfl) rfl
 first | with_reducible refine w_skip ?_ ?_ | refine w_skip ?_ ?_
 · exact want_no (j := 8) rfl rfl (ev (.bool true) rfl rfl) rfl
 first | with_reducible refine w_skip ?_ ?_ | refine w_skip ?_ ?_
 · exact want_no (j := 8) rfl rfl (ev (.bool true) rfl rfl) rfl
 refine w_val (y_pick_t (ev (.bool true) rfl rfl) (evc (.bool true))) ?_
 refine w_mv (ev (.bool true) rfl rfl) ?_
 first | with_reducible refine w_skip ?_ ?_ | refine w_skip ?_ ?_
 · exact want_no (j := 13) rfl rfl (ev (.bool true) rfl rfl) rfl
 first | with_reducible refine w_skip ?_ ?_ | refine w_skip ?_ ?_
 · exact want_no (j := 13) rfl rfl (ev (.bool true) rfl rfl) rfl
 first | with_reducible refine w_skip ?_ ?_ | refine w_skip ?_ ?_
 · exact want_no (j := 13) rfl rfl (ev (.bool true) rfl rfl) rfl
 first | with_reducible refine w_skip ?_ ?_ | refine w_skip ?_ ?_
 · exact want_un (j := 16) rfl rfl (ev undef rfl rfl) rfl
 first | with_reducible refine w_skip ?_ ?_ | refine w_skip ?_ ?_
 · exact want_un (j := 16) rfl rfl (ev undef rfl rfl) rfl
 first | with_reducible refine w_skip ?_ ?_ | refine w_skip ?_ ?_
 · exact want_un (j := 16) rfl rfl (ev undef rfl rfl) rfl
 first | with_reducible refine w_skip ?_ ?_ | refine w_skip ?_ ?_
 · exact want_no (j := 13) rfl rfl (ev (.bool true) rfl rfl) rfl
 refine w_val (y_pick_t (ev (.bool true) rfl rfl) (evc (.bool true))) ?_
 refine w_as (ev (.bool true) rfl rfl) ?_
 refine nt ?_
 refine wp_ret ?_
 refine fin_ret1 rfl (ev (.bool true) rfl rfl) ?_
 exact ⟨rfl, hk⟩

set_option maxRecDepth 100000 in
set_option maxHeartbeats 1000000 in
theorem cbcMacs_0 (key : List (BitVec 8)) (hok : Aes.okKey key.length) (text : List (BitVec 8)) (ht : text.length ≤ 140737488351232) (h : ¬ (3000 < text.length ∧ text.length ≤ 140000)) (hz : text.length = 0) (w0 : World) : Calls Try.prog 7 #[.string (str key), .string (str text)] w0 fun e w' => e = .returned (.bool true) ∧ Below w0.heap.size w0 w' := by
 refine enter (n := 64) Try.func7 rfl rfl rfl ?_
 have hk : Below w0.heap.size w0 w0 := Below.refl _ _
 refine sr ?_
 refine w_as (evc (.bool false)) ?_
 refine nt ?_
 refine wp_seq ?_
 refine sr ?_
 refine w_call (Try.func18) (by kernel_rfl) rfl m0 (cbcWakes_c  w0) ?_
 rintro _ w1 ⟨rfl, hb2⟩
 refine ⟨_, rfl, ?_⟩
 replace hk := thenB hk hb2
 refine w_val (y_not (ev (.bool true) rfl rfl)) ?_
 refine nt ?_
 refine c_ff (ev (.bool false) rfl rfl) ?_
 refine wp_skip ?_
 refine then_n ?_
 refine wp_seq ?_
 refine sr ?_
 refine w_mv (ev (.string (str text)) rfl rfl) ?_
 refine w_call (Try.func23) (by kernel_rfl) rfl (m1 (ev (.string (str text)) rfl rfl)) (long_f text h w1) ?_
 rintro _ w3 ⟨rfl, hb4⟩
 refine ⟨_, rfl, ?_⟩
 replace hk := thenB hk hb4
 refine nt ?_
 refine c_ff (ev (.bool false) rfl rfl) ?_
 refine wp_skip ?_
 refine then_n ?_
 refine sr ?_
 refine w_mv (ev (.string (str key)) rfl rfl) ?_
 refine w_mv (ev (.string (str text)) rfl rfl) ?_
 refine w_call (Try.func32) (by kernel_rfl) rfl (m2 (ev (.string (str key)) rfl rfl) (ev (.string (str text)) rfl rfl)) (mac_y key hok text (by omega) w3) ?_
 rintro _ w5 ⟨rfl, hb6⟩
 refine ⟨_, rfl, ?_⟩
 replace hk := thenB hk hb6
 refine w_mv (ev (.tuple #[.string (str (Cb.mac key text)), .int .i64 0]) rfl rfl) ?_
 refine w_val (y_ext (v := .string (str (Cb.mac key text))) (ev (.tuple #[.string (str (Cb.mac key text)), .int .i64 0]) rfl rfl) rfl) ?_
 refine w_val (y_ext (v := .int .i64 0) (ev (.tuple #[.string (str (Cb.mac key text)), .int .i64 0]) rfl rfl) rfl) ?_
 refine w_as (ev (.string (str (Cb.mac key text))) rfl rfl) ?_
 refine w_as (ev (.int .i64 0) rfl rfl) ?_
 refine nt ?_
 refine sr ?_
 refine w_mv (ev (.string (str key)) rfl rfl) ?_
 refine w_mv (ev (.string (str text)) rfl rfl) ?_
 refine w_call (Try.func33) (by kernel_rfl) rfl (m2 (ev (.string (str key)) rfl rfl) (ev (.string (str text)) rfl rfl)) (refMac_0 key hok text hz w5) ?_
 rintro _ w7 ⟨rfl, hb8⟩
 refine ⟨_, rfl, ?_⟩
 replace hk := thenB hk hb8
 refine w_mv (ev (.tuple #[.string (str (Cb.mac key text)), .int .i64 0]) rfl rfl) ?_
 refine w_val (y_ext (v := .string (str (Cb.mac key text))) (ev (.tuple #[.string (str (Cb.mac key text)), .int .i64 0]) rfl rfl) rfl) ?_
 refine w_val (y_ext (v := .int .i64 0) (ev (.tuple #[.string (str (Cb.mac key text)), .int .i64 0]) rfl rfl) rfl) ?_
 refine w_as (ev (.string (str (Cb.mac key text))) rfl rfl) ?_
 refine w_as (ev (.int .i64 0) rfl rfl) ?_
 refine nt ?_
 refine wp_seq ?_
 refine sr ?_
 refine w_mv (ev (.string (str (Cb.mac key text))) rfl rfl) ?_
 refine w_mv (ev (.string (str (Cb.mac key text))) rfl rfl) ?_
 refine w_val (y_bin (ev (.string (str (Cb.mac key text))) rfl rfl) (ev (.string (str (Cb.mac key text))) rfl rfl) b_nes_same) ?_
 refine w_mv (ev (.bool false) rfl rfl) ?_
 refine w_val_g (v := .int .i64 0) (want_yes (j := 3) rfl rfl (ev (.bool false) rfl rfl) rfl) (y_mv (ev (.int .i64 0) rfl rfl)) ?_
 refine w_val_g (v := .int .i64 0) (want_yes (j := 3) rfl rfl (ev (.bool false) rfl rfl) rfl) (y_mv (ev (.int .i64 0) rfl rfl)) ?_
 refine w_val_g (want_yes (j := 3) rfl rfl (ev (.bool false) rfl rfl) rfl) (y_bin (ev (.int .i64 0) rfl rfl) (ev (.int .i64 0) rfl rfl) b_neq) ?_
 refine w_val (y_pick_f (ev (.bool false) rfl rfl) (ev (.bool false) rfl rfl)) ?_
 refine nt ?_
 refine c_ff (ev (.bool false) rfl rfl) ?_
 refine wp_skip ?_
 refine then_n ?_
 refine sr ?_
 refine w_mv (ev (.string (str key)) rfl rfl) ?_
 refine w_mv (ev (.string (str text)) rfl rfl) ?_
 refine w_val (y_bin (ev (.string (str text)) rfl rfl) (evc (.string (str ([0#8])))) (b_cat (by simp only [List.length_cons, List.length_nil]; omega))) ?_
 refine w_call (Try.func32) (by kernel_rfl) rfl (m2 (ev (.string (str key)) rfl rfl) (ev (.string (str (text ++ ([0#8])))) rfl rfl)) (mac_y key hok (text ++ [0#8]) (by simp only [List.length_append, List.length_cons, List.length_nil]; omega) w7) ?_
 rintro _ w9 ⟨rfl, hb10⟩
 refine ⟨_, rfl, ?_⟩
 replace hk := thenB hk hb10
 refine w_mv (ev (.tuple #[.string (str (Cb.mac key (text ++ [0#8]))), .int .i64 0]) rfl rfl) ?_
 refine w_val (y_ext (v := .string (str (Cb.mac key (text ++ [0#8])))) (ev (.tuple #[.string (str (Cb.mac key (text ++ [0#8]))), .int .i64 0]) rfl rfl) rfl) ?_
 refine w_val (y_ext (v := .int .i64 0) (ev (.tuple #[.string (str (Cb.mac key (text ++ [0#8]))), .int .i64 0]) rfl rfl) rfl) ?_
 refine w_as (ev (.string (str (Cb.mac key (text ++ [0#8])))) rfl rfl) ?_
 refine w_as (ev (.int .i64 0) rfl rfl) ?_
 refine nt ?_
 refine sr ?_
 refine w_mv (ev (.int .i64 0) rfl rfl) ?_
 refine w_val (y_bin (ev (.int .i64 0) rfl rfl) (evc (.int .i64 0)) b_neq) ?_
 refine w_mv (ev (.bool false) rfl rfl) ?_
 refine w_val_g (v := .string (str text)) (want_yes (j := 2) rfl rfl (ev (.bool false) rfl rfl) rfl) (y_mv (ev (.string (str text)) rfl rfl)) ?_
 refine w_val_g (want_yes (j := 2) rfl rfl (ev (.bool false) rfl rfl) rfl) (y_len (ev (.string (str text)) rfl rfl) Try.underlying9) ?_
 refine w_val_g (want_yes (j := 2) rfl rfl (ev (.bool false) rfl rfl) rfl) (y_bin (ev (.int .i64 ((text.length : Nat) : Int)) rfl rfl) (evc (.int .i64 16)) (b_rem (by omega))) ?_
 refine w_val_g (want_yes (j := 2) rfl rfl (ev (.bool false) rfl rfl) rfl) (y_bin (ev (.int .i64 (((text.length : Nat) : Int) % 16)) rfl rfl) (evc (.int .i64 0)) b_eql) ?_
 refine w_val (y_pick_f (ev (.bool false) rfl rfl) (ev (.bool (decide ((((text.length : Nat) : Int) % 16) = 0))) rfl rfl)) ?_
 refine w_mv (ev (.bool (decide ((((text.length : Nat) : Int) % 16) = 0))) rfl rfl) ?_
 by_cases hc11 : (((text.length : Nat) : Int) % 16) = 0
 ·skip
  first | with_reducible refine w_skip ?_ ?_ | refine w_skip ?_ ?_
  · exact want_no (j := 8) rfl rfl (ev (.bool true) (Eq.trans (b := .bool (decide ((((text.length : Nat) : Int) % 16) = 0))) rfl (by rw [decide_eq_true hc11])) rfl) rfl
  first | with_reducible refine w_skip ?_ ?_ | refine w_skip ?_ ?_
  · exact want_no (j := 8) rfl rfl (ev (.bool true) (Eq.trans (b := .bool (decide ((((text.length : Nat) : Int) % 16) = 0))) rfl (by rw [decide_eq_true hc11])) rfl) rfl
  first | with_reducible refine w_skip ?_ ?_ | refine w_skip ?_ ?_
  · exact want_no (j := 8) rfl rfl (ev (.bool true) (Eq.trans (b := .bool (decide ((((text.length : Nat) : Int) % 16) = 0))) rfl (by rw [decide_eq_true hc11])) rfl) rfl
  refine w_val (y_pick_t (ev (.bool true) (Eq.trans (b := .bool (decide ((((text.length : Nat) : Int) % 16) = 0))) rfl (by rw [decide_eq_true hc11])) rfl) (evc (.bool true))) ?_
  refine w_mv (ev (.bool true) rfl rfl) ?_
  first | with_reducible refine w_skip ?_ ?_ | refine w_skip ?_ ?_
  · exact want_no (j := 13) rfl rfl (ev (.bool true) rfl rfl) rfl
  first | with_reducible refine w_skip ?_ ?_ | refine w_skip ?_ ?_
  · exact want_no (j := 13) rfl rfl (ev (.bool true) rfl rfl) rfl
  first | with_reducible refine w_skip ?_ ?_ | refine w_skip ?_ ?_
  · exact want_no (j := 13) rfl rfl (ev (.bool true) rfl rfl) rfl
  first | with_reducible refine w_skip ?_ ?_ | refine w_skip ?_ ?_
  · exact want_un (j := 16) rfl rfl (ev undef rfl rfl) rfl
  first | with_reducible refine w_skip ?_ ?_ | refine w_skip ?_ ?_
  · exact want_un (j := 16) rfl rfl (ev undef rfl rfl) rfl
  first | with_reducible refine w_skip ?_ ?_ | refine w_skip ?_ ?_
  · exact want_un (j := 16) rfl rfl (ev undef rfl rfl) rfl
  first | with_reducible refine w_skip ?_ ?_ | refine w_skip ?_ ?_
  · exact want_no (j := 13) rfl rfl (ev (.bool true) rfl rfl) rfl
  refine w_val (y_pick_t (ev (.bool true) rfl rfl) (evc (.bool true))) ?_
  refine w_as (ev (.bool true) rfl rfl) ?_
  refine nt ?_
  refine wp_ret ?_
  refine fin_ret1 rfl (ev (.bool true) rfl rfl) ?_
  exact ⟨rfl, hk⟩
 ·skip
  refine w_val_g (v := .string (str text)) (want_yes (j := 8) rfl rfl (ev (.bool false) (Eq.trans (b := .bool (decide ((((text.length : Nat) : Int) % 16) = 0))) rfl (by rw [decide_eq_false hc11])) rfl) rfl) (y_mv (ev (.string (str text)) rfl rfl)) ?_
  refine w_val_g (want_yes (j := 8) rfl rfl (ev (.bool false) (Eq.trans (b := .bool (decide ((((text.length : Nat) : Int) % 16) = 0))) rfl (by rw [decide_eq_false hc11])) rfl) rfl) (y_len (ev (.string (str text)) rfl rfl) Try.underlying9) ?_
  refine w_val_g (want_yes (j := 8) rfl rfl (ev (.bool false) (Eq.trans (b := .bool (decide ((((text.length : Nat) : Int) % 16) = 0))) rfl (by rw [decide_eq_false hc11])) rfl) rfl) (y_bin (ev (.int .i64 ((text.length : Nat) : Int)) rfl rfl) (evc (.int .i64 3000)) b_gtr) ?_
  refine w_val (y_pick_f (ev (.bool false) (Eq.trans (b := .bool (decide ((((text.length : Nat) : Int) % 16) = 0))) rfl (by rw [decide_eq_false hc11])) rfl) (ev (.bool (decide (3000 < ((text.length : Nat) : Int)))) rfl rfl)) ?_
  refine w_mv (ev (.bool (decide (3000 < ((text.length : Nat) : Int)))) rfl rfl) ?_
  by_cases hc12 : 3000 < ((text.length : Nat) : Int)
  ·skip
   first | with_reducible refine w_skip ?_ ?_ | refine w_skip ?_ ?_
   · exact want_no (j := 13) rfl rfl (ev (.bool true) (Eq.trans (b := .bool (decide (3000 < ((text.length : Nat) : Int)))) rfl (by rw [decide_eq_true hc12])) rfl) rfl
   first | with_reducible refine w_skip ?_ ?_ | refine w_skip ?_ ?_
   · exact want_no (j := 13) rfl rfl (ev (.bool true) (Eq.trans (b := .bool (decide (3000 < ((text.length : Nat) : Int)))) rfl (by rw [decide_eq_true hc12])) rfl) rfl
   first | with_reducible refine w_skip ?_ ?_ | refine w_skip ?_ ?_
   · exact want_no (j := 13) rfl rfl (ev (.bool true) (Eq.trans (b := .bool (decide (3000 < ((text.length : Nat) : Int)))) rfl (by rw [decide_eq_true hc12])) rfl) rfl
   first | with_reducible refine w_skip ?_ ?_ | refine w_skip ?_ ?_
   · exact want_un (j := 16) rfl rfl (ev undef rfl rfl) rfl
   first | with_reducible refine w_skip ?_ ?_ | refine w_skip ?_ ?_
   · exact want_un (j := 16) rfl rfl (ev undef rfl rfl) rfl
   first | with_reducible refine w_skip ?_ ?_ | refine w_skip ?_ ?_
   · exact want_un (j := 16) rfl rfl (ev undef rfl rfl) rfl
   first | with_reducible refine w_skip ?_ ?_ | refine w_skip ?_ ?_
   · exact want_no (j := 13) rfl rfl (ev (.bool true) (Eq.trans (b := .bool (decide (3000 < ((text.length : Nat) : Int)))) rfl (by rw [decide_eq_true hc12])) rfl) rfl
   refine w_val (y_pick_t (ev (.bool true) (Eq.trans (b := .bool (decide (3000 < ((text.length : Nat) : Int)))) rfl (by rw [decide_eq_true hc12])) rfl) (evc (.bool true))) ?_
   refine w_as (ev (.bool true) rfl rfl) ?_
   refine nt ?_
   refine wp_ret ?_
   refine fin_ret1 rfl (ev (.bool true) rfl rfl) ?_
   exact ⟨rfl, hk⟩
  ·skip
   refine w_val_g (v := .int .i64 0) (want_yes (j := 13) rfl rfl (ev (.bool false) (Eq.trans (b := .bool (decide (3000 < ((text.length : Nat) : Int)))) rfl (by rw [decide_eq_false hc12])) rfl) rfl) (y_mv (ev (.int .i64 0) rfl rfl)) ?_
   refine w_val_g (want_yes (j := 13) rfl rfl (ev (.bool false) (Eq.trans (b := .bool (decide (3000 < ((text.length : Nat) : Int)))) rfl (by rw [decide_eq_false hc12])) rfl) rfl) (y_bin (ev (.int .i64 0) rfl rfl) (evc (.int .i64 0)) b_eql) ?_
   refine w_val_g (v := .bool true) (want_yes (j := 13) rfl rfl (ev (.bool false) (Eq.trans (b := .bool (decide (3000 < ((text.length : Nat) : Int)))) rfl (by rw [decide_eq_false hc12])) rfl) rfl) (y_mv (ev (.bool true) rfl rfl)) ?_
   refine w_val_g (v := .string (str (Cb.mac key (text ++ [0#8])))) (want_yes (j := 16) rfl rfl (ev (.bool true) rfl rfl) rfl) (y_mv (ev (.string (str (Cb.mac key (text ++ [0#8])))) rfl rfl)) ?_
   refine w_val_g (v := .string (str (Cb.mac key text))) (want_yes (j := 16) rfl rfl (ev (.bool true) rfl rfl) rfl) (y_mv (ev (.string (str (Cb.mac key text))) rfl rfl)) ?_
   refine w_val_g (want_yes (j := 16) rfl rfl (ev (.bool true) rfl rfl) rfl) (y_bin (ev (.string (str (Cb.mac key (text ++ [0#8])))) rfl rfl) (ev (.string (str (Cb.mac key text))) rfl rfl) b_eqs) ?_
   refine w_val_g (want_yes (j := 13) rfl rfl (ev (.bool false) (Eq.trans (b := .bool (decide (3000 < ((text.length : Nat) : Int)))) rfl (by rw [decide_eq_false hc12])) rfl) rfl) (y_pick_t (ev (.bool true) rfl rfl) (ev (.bool (decide ((Cb.mac key (text ++ [0#8])) = (Cb.mac key text)))) rfl rfl)) ?_
   refine w_val (y_pick_f (ev (.bool false) (Eq.trans (b := .bool (decide (3000 < ((text.length : Nat) : Int)))) rfl (by rw [decide_eq_false hc12])) rfl) (ev (.bool (decide ((Cb.mac key (text ++ [0#8])) = (Cb.mac key text)))) rfl rfl)) ?_
   refine w_as (ev (.bool (decide ((Cb.mac key (text ++ [0#8])) = (Cb.mac key text)))) rfl rfl) ?_
   refine nt ?_
   refine wp_ret ?_
   have hc13 : (Cb.mac key (text ++ [0#8])) = (Cb.mac key text) := by exact Cb.mac_zero key text (by omega)
   refine fin_ret1 rfl (ev (.bool true) (Eq.trans (b := .bool (decide ((Cb.mac key (text ++ [0#8])) = (Cb.mac key text)))) rfl (by rw [decide_eq_true hc13])) rfl) ?_
   exact ⟨rfl, hk⟩

set_option maxRecDepth 100000 in
set_option maxHeartbeats 1000000 in
theorem cbcMacs_y (key : List (BitVec 8)) (hok : Aes.okKey key.length) (text : List (BitVec 8)) (ht : text.length ≤ 140737488351232) (h : ¬ (3000 < text.length ∧ text.length ≤ 140000)) (h0 : 0 < text.length) (hz : text.length ≤ 3000) (w0 : World) : Calls Try.prog 7 #[.string (str key), .string (str text)] w0 fun e w' => e = .returned (.bool true) ∧ Below w0.heap.size w0 w' := by
 refine enter (n := 64) Try.func7 rfl rfl rfl ?_
 have hk : Below w0.heap.size w0 w0 := Below.refl _ _
 refine sr ?_
 refine w_as (evc (.bool false)) ?_
 refine nt ?_
 refine wp_seq ?_
 refine sr ?_
 refine w_call (Try.func18) (by kernel_rfl) rfl m0 (cbcWakes_c  w0) ?_
 rintro _ w1 ⟨rfl, hb2⟩
 refine ⟨_, rfl, ?_⟩
 replace hk := thenB hk hb2
 refine w_val (y_not (ev (.bool true) rfl rfl)) ?_
 refine nt ?_
 refine c_ff (ev (.bool false) rfl rfl) ?_
 refine wp_skip ?_
 refine then_n ?_
 refine wp_seq ?_
 refine sr ?_
 refine w_mv (ev (.string (str text)) rfl rfl) ?_
 refine w_call (Try.func23) (by kernel_rfl) rfl (m1 (ev (.string (str text)) rfl rfl)) (long_f text h w1) ?_
 rintro _ w3 ⟨rfl, hb4⟩
 refine ⟨_, rfl, ?_⟩
 replace hk := thenB hk hb4
 refine nt ?_
 refine c_ff (ev (.bool false) rfl rfl) ?_
 refine wp_skip ?_
 refine then_n ?_
 refine sr ?_
 refine w_mv (ev (.string (str key)) rfl rfl) ?_
 refine w_mv (ev (.string (str text)) rfl rfl) ?_
 refine w_call (Try.func32) (by kernel_rfl) rfl (m2 (ev (.string (str key)) rfl rfl) (ev (.string (str text)) rfl rfl)) (mac_y key hok text (by omega) w3) ?_
 rintro _ w5 ⟨rfl, hb6⟩
 refine ⟨_, rfl, ?_⟩
 replace hk := thenB hk hb6
 refine w_mv (ev (.tuple #[.string (str (Cb.mac key text)), .int .i64 0]) rfl rfl) ?_
 refine w_val (y_ext (v := .string (str (Cb.mac key text))) (ev (.tuple #[.string (str (Cb.mac key text)), .int .i64 0]) rfl rfl) rfl) ?_
 refine w_val (y_ext (v := .int .i64 0) (ev (.tuple #[.string (str (Cb.mac key text)), .int .i64 0]) rfl rfl) rfl) ?_
 refine w_as (ev (.string (str (Cb.mac key text))) rfl rfl) ?_
 refine w_as (ev (.int .i64 0) rfl rfl) ?_
 refine nt ?_
 refine sr ?_
 refine w_mv (ev (.string (str key)) rfl rfl) ?_
 refine w_mv (ev (.string (str text)) rfl rfl) ?_
 refine w_call (Try.func33) (by kernel_rfl) rfl (m2 (ev (.string (str key)) rfl rfl) (ev (.string (str text)) rfl rfl)) (refMac_y key hok text h0 (by omega) w5) ?_
 rintro _ w7 ⟨rfl, hb8⟩
 refine ⟨_, rfl, ?_⟩
 replace hk := thenB hk hb8
 refine w_mv (ev (.tuple #[.string (str (Cb.mac key text)), .int .i64 0]) rfl rfl) ?_
 refine w_val (y_ext (v := .string (str (Cb.mac key text))) (ev (.tuple #[.string (str (Cb.mac key text)), .int .i64 0]) rfl rfl) rfl) ?_
 refine w_val (y_ext (v := .int .i64 0) (ev (.tuple #[.string (str (Cb.mac key text)), .int .i64 0]) rfl rfl) rfl) ?_
 refine w_as (ev (.string (str (Cb.mac key text))) rfl rfl) ?_
 refine w_as (ev (.int .i64 0) rfl rfl) ?_
 refine nt ?_
 refine wp_seq ?_
 refine sr ?_
 refine w_mv (ev (.string (str (Cb.mac key text))) rfl rfl) ?_
 refine w_mv (ev (.string (str (Cb.mac key text))) rfl rfl) ?_
 refine w_val (y_bin (ev (.string (str (Cb.mac key text))) rfl rfl) (ev (.string (str (Cb.mac key text))) rfl rfl) b_nes_same) ?_
 refine w_mv (ev (.bool false) rfl rfl) ?_
 refine w_val_g (v := .int .i64 0) (want_yes (j := 3) rfl rfl (ev (.bool false) rfl rfl) rfl) (y_mv (ev (.int .i64 0) rfl rfl)) ?_
 refine w_val_g (v := .int .i64 0) (want_yes (j := 3) rfl rfl (ev (.bool false) rfl rfl) rfl) (y_mv (ev (.int .i64 0) rfl rfl)) ?_
 refine w_val_g (want_yes (j := 3) rfl rfl (ev (.bool false) rfl rfl) rfl) (y_bin (ev (.int .i64 0) rfl rfl) (ev (.int .i64 0) rfl rfl) b_neq) ?_
 refine w_val (y_pick_f (ev (.bool false) rfl rfl) (ev (.bool false) rfl rfl)) ?_
 refine nt ?_
 refine c_ff (ev (.bool false) rfl rfl) ?_
 refine wp_skip ?_
 refine then_n ?_
 refine sr ?_
 refine w_mv (ev (.string (str key)) rfl rfl) ?_
 refine w_mv (ev (.string (str text)) rfl rfl) ?_
 refine w_val (y_bin (ev (.string (str text)) rfl rfl) (evc (.string (str ([0#8])))) (b_cat (by simp only [List.length_cons, List.length_nil]; omega))) ?_
 refine w_call (Try.func32) (by kernel_rfl) rfl (m2 (ev (.string (str key)) rfl rfl) (ev (.string (str (text ++ ([0#8])))) rfl rfl)) (mac_y key hok (text ++ [0#8]) (by simp only [List.length_append, List.length_cons, List.length_nil]; omega) w7) ?_
 rintro _ w9 ⟨rfl, hb10⟩
 refine ⟨_, rfl, ?_⟩
 replace hk := thenB hk hb10
 refine w_mv (ev (.tuple #[.string (str (Cb.mac key (text ++ [0#8]))), .int .i64 0]) rfl rfl) ?_
 refine w_val (y_ext (v := .string (str (Cb.mac key (text ++ [0#8])))) (ev (.tuple #[.string (str (Cb.mac key (text ++ [0#8]))), .int .i64 0]) rfl rfl) rfl) ?_
 refine w_val (y_ext (v := .int .i64 0) (ev (.tuple #[.string (str (Cb.mac key (text ++ [0#8]))), .int .i64 0]) rfl rfl) rfl) ?_
 refine w_as (ev (.string (str (Cb.mac key (text ++ [0#8])))) rfl rfl) ?_
 refine w_as (ev (.int .i64 0) rfl rfl) ?_
 refine nt ?_
 refine sr ?_
 refine w_mv (ev (.int .i64 0) rfl rfl) ?_
 refine w_val (y_bin (ev (.int .i64 0) rfl rfl) (evc (.int .i64 0)) b_neq) ?_
 refine w_mv (ev (.bool false) rfl rfl) ?_
 refine w_val_g (v := .string (str text)) (want_yes (j := 2) rfl rfl (ev (.bool false) rfl rfl) rfl) (y_mv (ev (.string (str text)) rfl rfl)) ?_
 refine w_val_g (want_yes (j := 2) rfl rfl (ev (.bool false) rfl rfl) rfl) (y_len (ev (.string (str text)) rfl rfl) Try.underlying9) ?_
 refine w_val_g (want_yes (j := 2) rfl rfl (ev (.bool false) rfl rfl) rfl) (y_bin (ev (.int .i64 ((text.length : Nat) : Int)) rfl rfl) (evc (.int .i64 16)) (b_rem (by omega))) ?_
 refine w_val_g (want_yes (j := 2) rfl rfl (ev (.bool false) rfl rfl) rfl) (y_bin (ev (.int .i64 (((text.length : Nat) : Int) % 16)) rfl rfl) (evc (.int .i64 0)) b_eql) ?_
 refine w_val (y_pick_f (ev (.bool false) rfl rfl) (ev (.bool (decide ((((text.length : Nat) : Int) % 16) = 0))) rfl rfl)) ?_
 refine w_mv (ev (.bool (decide ((((text.length : Nat) : Int) % 16) = 0))) rfl rfl) ?_
 by_cases hc11 : (((text.length : Nat) : Int) % 16) = 0
 ·skip
  first | with_reducible refine w_skip ?_ ?_ | refine w_skip ?_ ?_
  · exact want_no (j := 8) rfl rfl (ev (.bool true) (Eq.trans (b := .bool (decide ((((text.length : Nat) : Int) % 16) = 0))) rfl (by rw [decide_eq_true hc11])) rfl) rfl
  first | with_reducible refine w_skip ?_ ?_ | refine w_skip ?_ ?_
  · exact want_no (j := 8) rfl rfl (ev (.bool true) (Eq.trans (b := .bool (decide ((((text.length : Nat) : Int) % 16) = 0))) rfl (by rw [decide_eq_true hc11])) rfl) rfl
  first | with_reducible refine w_skip ?_ ?_ | refine w_skip ?_ ?_
  · exact want_no (j := 8) rfl rfl (ev (.bool true) (Eq.trans (b := .bool (decide ((((text.length : Nat) : Int) % 16) = 0))) rfl (by rw [decide_eq_true hc11])) rfl) rfl
  refine w_val (y_pick_t (ev (.bool true) (Eq.trans (b := .bool (decide ((((text.length : Nat) : Int) % 16) = 0))) rfl (by rw [decide_eq_true hc11])) rfl) (evc (.bool true))) ?_
  refine w_mv (ev (.bool true) rfl rfl) ?_
  first | with_reducible refine w_skip ?_ ?_ | refine w_skip ?_ ?_
  · exact want_no (j := 13) rfl rfl (ev (.bool true) rfl rfl) rfl
  first | with_reducible refine w_skip ?_ ?_ | refine w_skip ?_ ?_
  · exact want_no (j := 13) rfl rfl (ev (.bool true) rfl rfl) rfl
  first | with_reducible refine w_skip ?_ ?_ | refine w_skip ?_ ?_
  · exact want_no (j := 13) rfl rfl (ev (.bool true) rfl rfl) rfl
  first | with_reducible refine w_skip ?_ ?_ | refine w_skip ?_ ?_
  · exact want_un (j := 16) rfl rfl (ev undef rfl rfl) rfl
  first | with_reducible refine w_skip ?_ ?_ | refine w_skip ?_ ?_
  · exact want_un (j := 16) rfl rfl (ev undef rfl rfl) rfl
  first | with_reducible refine w_skip ?_ ?_ | refine w_skip ?_ ?_
  · exact want_un (j := 16) rfl rfl (ev undef rfl rfl) rfl
  first | with_reducible refine w_skip ?_ ?_ | refine w_skip ?_ ?_
  · exact want_no (j := 13) rfl rfl (ev (.bool true) rfl rfl) rfl
  refine w_val (y_pick_t (ev (.bool true) rfl rfl) (evc (.bool true))) ?_
  refine w_as (ev (.bool true) rfl rfl) ?_
  refine nt ?_
  refine wp_ret ?_
  refine fin_ret1 rfl (ev (.bool true) rfl rfl) ?_
  exact ⟨rfl, hk⟩
 ·skip
  refine w_val_g (v := .string (str text)) (want_yes (j := 8) rfl rfl (ev (.bool false) (Eq.trans (b := .bool (decide ((((text.length : Nat) : Int) % 16) = 0))) rfl (by rw [decide_eq_false hc11])) rfl) rfl) (y_mv (ev (.string (str text)) rfl rfl)) ?_
  refine w_val_g (want_yes (j := 8) rfl rfl (ev (.bool false) (Eq.trans (b := .bool (decide ((((text.length : Nat) : Int) % 16) = 0))) rfl (by rw [decide_eq_false hc11])) rfl) rfl) (y_len (ev (.string (str text)) rfl rfl) Try.underlying9) ?_
  refine w_val_g (want_yes (j := 8) rfl rfl (ev (.bool false) (Eq.trans (b := .bool (decide ((((text.length : Nat) : Int) % 16) = 0))) rfl (by rw [decide_eq_false hc11])) rfl) rfl) (y_bin (ev (.int .i64 ((text.length : Nat) : Int)) rfl rfl) (evc (.int .i64 3000)) b_gtr) ?_
  refine w_val (y_pick_f (ev (.bool false) (Eq.trans (b := .bool (decide ((((text.length : Nat) : Int) % 16) = 0))) rfl (by rw [decide_eq_false hc11])) rfl) (ev (.bool (decide (3000 < ((text.length : Nat) : Int)))) rfl rfl)) ?_
  refine w_mv (ev (.bool (decide (3000 < ((text.length : Nat) : Int)))) rfl rfl) ?_
  by_cases hc12 : 3000 < ((text.length : Nat) : Int)
  ·skip
   first | with_reducible refine w_skip ?_ ?_ | refine w_skip ?_ ?_
   · exact want_no (j := 13) rfl rfl (ev (.bool true) (Eq.trans (b := .bool (decide (3000 < ((text.length : Nat) : Int)))) rfl (by rw [decide_eq_true hc12])) rfl) rfl
   first | with_reducible refine w_skip ?_ ?_ | refine w_skip ?_ ?_
   · exact want_no (j := 13) rfl rfl (ev (.bool true) (Eq.trans (b := .bool (decide (3000 < ((text.length : Nat) : Int)))) rfl (by rw [decide_eq_true hc12])) rfl) rfl
   first | with_reducible refine w_skip ?_ ?_ | refine w_skip ?_ ?_
   · exact want_no (j := 13) rfl rfl (ev (.bool true) (Eq.trans (b := .bool (decide (3000 < ((text.length : Nat) : Int)))) rfl (by rw [decide_eq_true hc12])) rfl) rfl
   first | with_reducible refine w_skip ?_ ?_ | refine w_skip ?_ ?_
   · exact want_un (j := 16) rfl rfl (ev undef rfl rfl) rfl
   first | with_reducible refine w_skip ?_ ?_ | refine w_skip ?_ ?_
   · exact want_un (j := 16) rfl rfl (ev undef rfl rfl) rfl
   first | with_reducible refine w_skip ?_ ?_ | refine w_skip ?_ ?_
   · exact want_un (j := 16) rfl rfl (ev undef rfl rfl) rfl
   first | with_reducible refine w_skip ?_ ?_ | refine w_skip ?_ ?_
   · exact want_no (j := 13) rfl rfl (ev (.bool true) (Eq.trans (b := .bool (decide (3000 < ((text.length : Nat) : Int)))) rfl (by rw [decide_eq_true hc12])) rfl) rfl
   refine w_val (y_pick_t (ev (.bool true) (Eq.trans (b := .bool (decide (3000 < ((text.length : Nat) : Int)))) rfl (by rw [decide_eq_true hc12])) rfl) (evc (.bool true))) ?_
   refine w_as (ev (.bool true) rfl rfl) ?_
   refine nt ?_
   refine wp_ret ?_
   refine fin_ret1 rfl (ev (.bool true) rfl rfl) ?_
   exact ⟨rfl, hk⟩
  ·skip
   refine w_val_g (v := .int .i64 0) (want_yes (j := 13) rfl rfl (ev (.bool false) (Eq.trans (b := .bool (decide (3000 < ((text.length : Nat) : Int)))) rfl (by rw [decide_eq_false hc12])) rfl) rfl) (y_mv (ev (.int .i64 0) rfl rfl)) ?_
   refine w_val_g (want_yes (j := 13) rfl rfl (ev (.bool false) (Eq.trans (b := .bool (decide (3000 < ((text.length : Nat) : Int)))) rfl (by rw [decide_eq_false hc12])) rfl) rfl) (y_bin (ev (.int .i64 0) rfl rfl) (evc (.int .i64 0)) b_eql) ?_
   refine w_val_g (v := .bool true) (want_yes (j := 13) rfl rfl (ev (.bool false) (Eq.trans (b := .bool (decide (3000 < ((text.length : Nat) : Int)))) rfl (by rw [decide_eq_false hc12])) rfl) rfl) (y_mv (ev (.bool true) rfl rfl)) ?_
   refine w_val_g (v := .string (str (Cb.mac key (text ++ [0#8])))) (want_yes (j := 16) rfl rfl (ev (.bool true) rfl rfl) rfl) (y_mv (ev (.string (str (Cb.mac key (text ++ [0#8])))) rfl rfl)) ?_
   refine w_val_g (v := .string (str (Cb.mac key text))) (want_yes (j := 16) rfl rfl (ev (.bool true) rfl rfl) rfl) (y_mv (ev (.string (str (Cb.mac key text))) rfl rfl)) ?_
   refine w_val_g (want_yes (j := 16) rfl rfl (ev (.bool true) rfl rfl) rfl) (y_bin (ev (.string (str (Cb.mac key (text ++ [0#8])))) rfl rfl) (ev (.string (str (Cb.mac key text))) rfl rfl) b_eqs) ?_
   refine w_val_g (want_yes (j := 13) rfl rfl (ev (.bool false) (Eq.trans (b := .bool (decide (3000 < ((text.length : Nat) : Int)))) rfl (by rw [decide_eq_false hc12])) rfl) rfl) (y_pick_t (ev (.bool true) rfl rfl) (ev (.bool (decide ((Cb.mac key (text ++ [0#8])) = (Cb.mac key text)))) rfl rfl)) ?_
   refine w_val (y_pick_f (ev (.bool false) (Eq.trans (b := .bool (decide (3000 < ((text.length : Nat) : Int)))) rfl (by rw [decide_eq_false hc12])) rfl) (ev (.bool (decide ((Cb.mac key (text ++ [0#8])) = (Cb.mac key text)))) rfl rfl)) ?_
   refine w_as (ev (.bool (decide ((Cb.mac key (text ++ [0#8])) = (Cb.mac key text)))) rfl rfl) ?_
   refine nt ?_
   refine wp_ret ?_
   have hc13 : (Cb.mac key (text ++ [0#8])) = (Cb.mac key text) := by exact Cb.mac_zero key text (by omega)
   refine fin_ret1 rfl (ev (.bool true) (Eq.trans (b := .bool (decide ((Cb.mac key (text ++ [0#8])) = (Cb.mac key text)))) rfl (by rw [decide_eq_true hc13])) rfl) ?_
   exact ⟨rfl, hk⟩

theorem walk_CbcMacs (key : List (BitVec 8)) (hkey : key.length ≤ 140737488351232) (text : List (BitVec 8)) (ht : text.length ≤ 140737488351232) (w : World) : Calls Try.prog 7 #[.string (str key), .string (str text)] w fun e w' => e = .returned (.bool true) ∧ Below w.heap.size w w' := by
  by_cases h : 3000 < text.length ∧ text.length ≤ 140000
  · exact cbcMacs_l key text h w
  · by_cases hok : Aes.okKey key.length
    · by_cases h0 : text.length = 0
      · exact cbcMacs_0 key hok text ht h h0 w
      · by_cases hz : text.length ≤ 3000
        · exact cbcMacs_y key hok text ht h (by omega) hz w
        · exact cbcMacs_z key hok text ht h (by omega) w
    · exact cbcMacs_k key hok text ht h w
end Go.Proofs.Ytjdcpejcnmpiaaa
