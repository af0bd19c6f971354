/-
  The laws of wrap answer true. No conditions.
-/
import Derived.Test.YthmcoaadigaddaaRows
import Derived.Test.YthmcoaadigaddaaWrapW
import Derived.ProofKit
namespace Go.Proofs.Ythmcoaadigaddaa
open Go.RowKit
set_option linter.unusedSimpArgs false
set_option linter.unusedVariables false
namespace WrapLawsT
theorem mixed : Try.prog.follows .mixedOrders = true := by kernel_rfl
end WrapLawsT
set_option maxRecDepth 100000 in
set_option maxHeartbeats 1000000 in
theorem wakes_c  (w0 : World) : Calls Try.prog 13 #[] w0 fun e w' => e = .returned (.bool true) ∧ Below w0.heap.size w0 w' := by
  refine enter (n := 19) Try.func13 rfl rfl rfl ?_
  have hk : Below w0.heap.size w0 w0 := Below.refl _ _
  refine wp_seq ?_
  refine wp_region_lit ?_
  refine w_val (v := .bool false) (y_as (Ev.c (v := .bool false))) ?_
  refine wpList_nil ?_
  refine then_n ?_
  refine wp_seq ?_
  refine wp_region_lit ?_
  refine w_call (Try.func11) (by kernel_rfl) rfl (m2 (Ev.c (v := .string (str Wr.wk))) (Ev.c (v := .string (str Wr.wt)))) (wrap_y Wr.wk Wr.wt 2 (Or.inl rfl) rfl (by omega) (by omega) w0) ?_
  rintro _ w1 ⟨rfl, hb2⟩
  refine ⟨_, rfl, ?_⟩
  replace hk := thenB hk hb2
  refine w_val (v := .tuple #[.string (str Wr.wv), .int .i64 0]) (y_mv (Ev.t (v := .tuple #[.string (str Wr.wv), .int .i64 0]) rfl rfl)) ?_
  refine w_val (v := .string (str Wr.wv)) (y_ext (v := .string (str Wr.wv)) (Ev.t (v := .tuple #[.string (str Wr.wv), .int .i64 0]) rfl rfl) rfl) ?_
  refine w_val (v := .int .i64 0) (y_ext (v := .int .i64 0) (Ev.t (v := .tuple #[.string (str Wr.wv), .int .i64 0]) rfl rfl) rfl) ?_
  refine w_val (v := .string (str Wr.wv)) (y_as (Ev.t (v := .string (str Wr.wv)) rfl rfl)) ?_
  refine w_val (v := .int .i64 0) (y_as (Ev.t (v := .int .i64 0) rfl rfl)) ?_
  refine wpList_nil ?_
  refine then_n ?_
  refine wp_seq ?_
  refine wp_region_lit ?_
  refine w_val (v := .int .i64 0) (y_mv (Ev.t (v := .int .i64 0) rfl rfl)) ?_
  refine w_val (v := .bool true) (y_bin (Ev.t (v := .int .i64 0) rfl rfl) (Ev.c (v := .int .i64 0)) b_eql) ?_
  refine w_val (v := .bool true) (y_mv (Ev.t (v := .bool true) rfl rfl)) ?_
  refine w_val_g (v := .string (str Wr.wv)) (want_yes (j := 2) rfl rfl (Ev.t (v := .bool true) rfl rfl) rfl) (y_mv (Ev.t (v := .string (str Wr.wv)) rfl rfl)) ?_
  refine w_val_g (v := .int .i64 ((Wr.wv.length : Nat) : Int)) (want_yes (j := 2) rfl rfl (Ev.t (v := .bool true) rfl rfl) rfl) (y_len (Ev.t (v := .string (str Wr.wv)) rfl rfl) Try.underlying9) ?_
  refine w_val_g (v := .bool (decide (((Wr.wv.length : Nat) : Int) = 24))) (want_yes (j := 2) rfl rfl (Ev.t (v := .bool true) rfl rfl) rfl) (y_bin (Ev.t (v := .int .i64 ((Wr.wv.length : Nat) : Int)) rfl rfl) (Ev.c (v := .int .i64 24)) b_eql) ?_
  refine w_val (v := .bool (decide (((Wr.wv.length : Nat) : Int) = 24))) (y_pick_t (Ev.t (v := .bool true) rfl rfl) (Ev.t (v := .bool (decide (((Wr.wv.length : Nat) : Int) = 24))) rfl rfl)) ?_
  refine w_val (v := .bool (decide (((Wr.wv.length : Nat) : Int) = 24))) (y_mv (Ev.t (v := .bool (decide (((Wr.wv.length : Nat) : Int) = 24))) rfl rfl)) ?_
  have hc3 : ((Wr.wv.length : Nat) : Int) = 24 := by have := Wr.wakes.1; omega
  refine w_val_g (v := .string (str Wr.wv)) (want_yes (j := 7) rfl rfl (Ev.t (v := .bool true) (Eq.trans (b := .bool (decide (((Wr.wv.length : Nat) : Int) = 24))) rfl (by rw [decide_eq_true hc3])) rfl) rfl) (y_mv (Ev.t (v := .string (str Wr.wv)) rfl rfl)) ?_
  refine w_val_g (v := .string (str (Wr.wv.take 8))) (want_yes (j := 7) rfl rfl (Ev.t (v := .bool true) (Eq.trans (b := .bool (decide (((Wr.wv.length : Nat) : Int) = 24))) rfl (by rw [decide_eq_true hc3])) rfl) rfl) (y_sls (Ev.t (v := .string (str Wr.wv)) rfl rfl) evo.no (evo.s (Ev.c (v := .int .i64 8))) Try.underlying9 (bnd_h (h := 8) (by omega) (by have := Wr.wakes.1; omega))) ?_
  refine w_val_g (v := .bool (decide ((Wr.wv.take 8) = Wr.wo))) (want_yes (j := 7) rfl rfl (Ev.t (v := .bool true) (Eq.trans (b := .bool (decide (((Wr.wv.length : Nat) : Int) = 24))) rfl (by rw [decide_eq_true hc3])) rfl) rfl) (y_bin (Ev.t (v := .string (str (Wr.wv.take 8))) rfl rfl) (Ev.c (v := .string (str Wr.wo))) b_eqs) ?_
  refine w_val (v := .bool (decide ((Wr.wv.take 8) = Wr.wo))) (y_pick_t (Ev.t (v := .bool true) (Eq.trans (b := .bool (decide (((Wr.wv.length : Nat) : Int) = 24))) rfl (by rw [decide_eq_true hc3])) rfl) (Ev.t (v := .bool (decide ((Wr.wv.take 8) = Wr.wo))) rfl rfl)) ?_
  refine w_val (v := .bool (decide ((Wr.wv.take 8) = Wr.wo))) (y_as (Ev.t (v := .bool (decide ((Wr.wv.take 8) = Wr.wo))) rfl rfl)) ?_
  refine wpList_nil ?_
  refine then_n ?_
  refine wp_ret ?_
  have hc4 : (Wr.wv.take 8) = Wr.wo := by exact Wr.wakes.2
  refine fin_ret1 rfl (Ev.t (v := .bool true) (Eq.trans (b := .bool (decide ((Wr.wv.take 8) = Wr.wo))) rfl (by rw [decide_eq_true hc4])) rfl) ?_
  exact ⟨rfl, hk⟩

set_option maxRecDepth 100000 in
set_option maxHeartbeats 1000000 in
theorem wrapWraps_k (key text : List (BitVec 8)) (hok : ¬ Aes.okKey key.length) (w0 : World) : Calls Try.prog 3 #[.string (str key), .string (str text)] w0 fun e w' => e = .returned (.bool true) ∧ Below w0.heap.size w0 w' := by
  refine enter (n := 32) Try.func3 rfl rfl rfl ?_
  have hk : Below w0.heap.size w0 w0 := Below.refl _ _
  refine wp_seq ?_
  refine wp_region_lit ?_
  refine w_val (v := .bool false) (y_as (Ev.c (v := .bool false))) ?_
  refine wpList_nil ?_
  refine then_n ?_
  refine wp_seq ?_
  refine wp_region_lit ?_
  refine w_val (v := .string (str key)) (y_mv (Ev.t (v := .string (str key)) rfl rfl)) ?_
  refine w_val (v := .string (str text)) (y_mv (Ev.t (v := .string (str text)) rfl rfl)) ?_
  refine w_call (Try.func11) (by kernel_rfl) rfl (m2 (Ev.t (v := .string (str key)) rfl rfl) (Ev.t (v := .string (str text)) rfl rfl)) (wrap_k key text hok w0) ?_
  rintro _ w1 ⟨rfl, hb2⟩
  refine ⟨_, rfl, ?_⟩
  replace hk := thenB hk hb2
  refine w_val (v := .tuple #[.string (str ([] : List (BitVec 8))), .int .i64 3]) (y_mv (Ev.t (v := .tuple #[.string (str ([] : List (BitVec 8))), .int .i64 3]) rfl rfl)) ?_
  refine w_val (v := .string (str ([] : List (BitVec 8)))) (y_ext (v := .string (str ([] : List (BitVec 8)))) (Ev.t (v := .tuple #[.string (str ([] : List (BitVec 8))), .int .i64 3]) rfl rfl) rfl) ?_
  refine w_val (v := .int .i64 3) (y_ext (v := .int .i64 3) (Ev.t (v := .tuple #[.string (str ([] : List (BitVec 8))), .int .i64 3]) rfl rfl) rfl) ?_
  refine w_val (v := .string (str ([] : List (BitVec 8)))) (y_as (Ev.t (v := .string (str ([] : List (BitVec 8)))) rfl rfl)) ?_
  refine w_val (v := .int .i64 3) (y_as (Ev.t (v := .int .i64 3) rfl rfl)) ?_
  refine wpList_nil ?_
  refine then_n ?_
  refine wp_seq ?_
  refine wp_region_lit ?_
  refine w_val (v := .string (str key)) (y_mv (Ev.t (v := .string (str key)) rfl rfl)) ?_
  refine w_val (v := .string (str text)) (y_mv (Ev.t (v := .string (str text)) rfl rfl)) ?_
  refine w_call (Try.func12) (by kernel_rfl) rfl (m2 (Ev.t (v := .string (str key)) rfl rfl) (Ev.t (v := .string (str text)) rfl rfl)) (refWrap_k key text hok w1) ?_
  rintro _ w3 ⟨rfl, hb4⟩
  refine ⟨_, rfl, ?_⟩
  replace hk := thenB hk hb4
  refine w_val (v := .tuple #[.string (str ([] : List (BitVec 8))), .int .i64 3]) (y_mv (Ev.t (v := .tuple #[.string (str ([] : List (BitVec 8))), .int .i64 3]) rfl rfl)) ?_
  refine w_val (v := .string (str ([] : List (BitVec 8)))) (y_ext (v := .string (str ([] : List (BitVec 8)))) (Ev.t (v := .tuple #[.string (str ([] : List (BitVec 8))), .int .i64 3]) rfl rfl) rfl) ?_
  refine w_val (v := .int .i64 3) (y_ext (v := .int .i64 3) (Ev.t (v := .tuple #[.string (str ([] : List (BitVec 8))), .int .i64 3]) rfl rfl) rfl) ?_
  refine w_val (v := .string (str ([] : List (BitVec 8)))) (y_as (Ev.t (v := .string (str ([] : List (BitVec 8)))) rfl rfl)) ?_
  refine w_val (v := .int .i64 3) (y_as (Ev.t (v := .int .i64 3) rfl rfl)) ?_
  refine wpList_nil ?_
  refine then_n ?_
  refine wp_seq ?_
  refine wp_region_lit ?_
  refine w_call (Try.func13) (by kernel_rfl) rfl m0 (wakes_c  w3) ?_
  rintro _ w5 ⟨rfl, hb6⟩
  refine ⟨_, rfl, ?_⟩
  replace hk := thenB hk hb6
  refine w_val (v := .bool true) (y_mv (Ev.t (v := .bool true) rfl rfl)) ?_
  refine w_val_g (v := .string (str ([] : List (BitVec 8)))) (want_yes (j := 1) rfl rfl (Ev.t (v := .bool true) rfl rfl) rfl) (y_mv (Ev.t (v := .string (str ([] : List (BitVec 8)))) rfl rfl)) ?_
  refine w_val_g (v := .string (str ([] : List (BitVec 8)))) (want_yes (j := 1) rfl rfl (Ev.t (v := .bool true) rfl rfl) rfl) (y_mv (Ev.t (v := .string (str ([] : List (BitVec 8)))) rfl rfl)) ?_
  refine w_val_g (v := .bool true) (want_yes (j := 1) rfl rfl (Ev.t (v := .bool true) rfl rfl) rfl) (y_bin (Ev.t (v := .string (str ([] : List (BitVec 8)))) rfl rfl) (Ev.t (v := .string (str ([] : List (BitVec 8)))) rfl rfl) b_eqs_same) ?_
  refine w_val (v := .bool true) (y_pick_t (Ev.t (v := .bool true) rfl rfl) (Ev.t (v := .bool true) rfl rfl)) ?_
  refine w_val (v := .bool true) (y_mv (Ev.t (v := .bool true) rfl rfl)) ?_
  refine w_val_g (v := .int .i64 3) (want_yes (j := 6) rfl rfl (Ev.t (v := .bool true) rfl rfl) rfl) (y_mv (Ev.t (v := .int .i64 3) rfl rfl)) ?_
  refine w_val_g (v := .int .i64 3) (want_yes (j := 6) rfl rfl (Ev.t (v := .bool true) rfl rfl) rfl) (y_mv (Ev.t (v := .int .i64 3) rfl rfl)) ?_
  refine w_val_g (v := .bool true) (want_yes (j := 6) rfl rfl (Ev.t (v := .bool true) rfl rfl) rfl) (y_bin (Ev.t (v := .int .i64 3) rfl rfl) (Ev.t (v := .int .i64 3) rfl rfl) b_eql) ?_
  refine w_val (v := .bool true) (y_pick_t (Ev.t (v := .bool true) rfl rfl) (Ev.t (v := .bool true) rfl rfl)) ?_
  refine w_val (v := .bool true) (y_as (Ev.t (v := .bool true) rfl rfl)) ?_
  refine wpList_nil ?_
  refine then_n ?_
  refine wp_ret ?_
  refine fin_ret1 rfl (Ev.t (v := .bool true) rfl rfl) ?_
  exact ⟨rfl, hk⟩

set_option maxRecDepth 100000 in
set_option maxHeartbeats 1000000 in
theorem wrapWraps_s (key text : List (BitVec 8)) (hok : Aes.okKey key.length) (hs : ¬ (text.length % 8 = 0 ∧ 16 ≤ text.length ∧ text.length ≤ 1024)) (w0 : World) : Calls Try.prog 3 #[.string (str key), .string (str text)] w0 fun e w' => e = .returned (.bool true) ∧ Below w0.heap.size w0 w' := by
  refine enter (n := 32) Try.func3 rfl rfl rfl ?_
  have hk : Below w0.heap.size w0 w0 := Below.refl _ _
  refine wp_seq ?_
  refine wp_region_lit ?_
  refine w_val (v := .bool false) (y_as (Ev.c (v := .bool false))) ?_
  refine wpList_nil ?_
  refine then_n ?_
  refine wp_seq ?_
  refine wp_region_lit ?_
  refine w_val (v := .string (str key)) (y_mv (Ev.t (v := .string (str key)) rfl rfl)) ?_
  refine w_val (v := .string (str text)) (y_mv (Ev.t (v := .string (str text)) rfl rfl)) ?_
  refine w_call (Try.func11) (by kernel_rfl) rfl (m2 (Ev.t (v := .string (str key)) rfl rfl) (Ev.t (v := .string (str text)) rfl rfl)) (wrap_s key text hok hs w0) ?_
  rintro _ w1 ⟨rfl, hb2⟩
  refine ⟨_, rfl, ?_⟩
  replace hk := thenB hk hb2
  refine w_val (v := .tuple #[.string (str ([] : List (BitVec 8))), .int .i64 6]) (y_mv (Ev.t (v := .tuple #[.string (str ([] : List (BitVec 8))), .int .i64 6]) rfl rfl)) ?_
  refine w_val (v := .string (str ([] : List (BitVec 8)))) (y_ext (v := .string (str ([] : List (BitVec 8)))) (Ev.t (v := .tuple #[.string (str ([] : List (BitVec 8))), .int .i64 6]) rfl rfl) rfl) ?_
  refine w_val (v := .int .i64 6) (y_ext (v := .int .i64 6) (Ev.t (v := .tuple #[.string (str ([] : List (BitVec 8))), .int .i64 6]) rfl rfl) rfl) ?_
  refine w_val (v := .string (str ([] : List (BitVec 8)))) (y_as (Ev.t (v := .string (str ([] : List (BitVec 8)))) rfl rfl)) ?_
  refine w_val (v := .int .i64 6) (y_as (Ev.t (v := .int .i64 6) rfl rfl)) ?_
  refine wpList_nil ?_
  refine then_n ?_
  refine wp_seq ?_
  refine wp_region_lit ?_
  refine w_val (v := .string (str key)) (y_mv (Ev.t (v := .string (str key)) rfl rfl)) ?_
  refine w_val (v := .string (str text)) (y_mv (Ev.t (v := .string (str text)) rfl rfl)) ?_
  refine w_call (Try.func12) (by kernel_rfl) rfl (m2 (Ev.t (v := .string (str key)) rfl rfl) (Ev.t (v := .string (str text)) rfl rfl)) (refWrap_s key text hok hs w1) ?_
  rintro _ w3 ⟨rfl, hb4⟩
  refine ⟨_, rfl, ?_⟩
  replace hk := thenB hk hb4
  refine w_val (v := .tuple #[.string (str ([] : List (BitVec 8))), .int .i64 6]) (y_mv (Ev.t (v := .tuple #[.string (str ([] : List (BitVec 8))), .int .i64 6]) rfl rfl)) ?_
  refine w_val (v := .string (str ([] : List (BitVec 8)))) (y_ext (v := .string (str ([] : List (BitVec 8)))) (Ev.t (v := .tuple #[.string (str ([] : List (BitVec 8))), .int .i64 6]) rfl rfl) rfl) ?_
  refine w_val (v := .int .i64 6) (y_ext (v := .int .i64 6) (Ev.t (v := .tuple #[.string (str ([] : List (BitVec 8))), .int .i64 6]) rfl rfl) rfl) ?_
  refine w_val (v := .string (str ([] : List (BitVec 8)))) (y_as (Ev.t (v := .string (str ([] : List (BitVec 8)))) rfl rfl)) ?_
  refine w_val (v := .int .i64 6) (y_as (Ev.t (v := .int .i64 6) rfl rfl)) ?_
  refine wpList_nil ?_
  refine then_n ?_
  refine wp_seq ?_
  refine wp_region_lit ?_
  refine w_call (Try.func13) (by kernel_rfl) rfl m0 (wakes_c  w3) ?_
  rintro _ w5 ⟨rfl, hb6⟩
  refine ⟨_, rfl, ?_⟩
  replace hk := thenB hk hb6
  refine w_val (v := .bool true) (y_mv (Ev.t (v := .bool true) rfl rfl)) ?_
  refine w_val_g (v := .string (str ([] : List (BitVec 8)))) (want_yes (j := 1) rfl rfl (Ev.t (v := .bool true) rfl rfl) rfl) (y_mv (Ev.t (v := .string (str ([] : List (BitVec 8)))) rfl rfl)) ?_
  refine w_val_g (v := .string (str ([] : List (BitVec 8)))) (want_yes (j := 1) rfl rfl (Ev.t (v := .bool true) rfl rfl) rfl) (y_mv (Ev.t (v := .string (str ([] : List (BitVec 8)))) rfl rfl)) ?_
  refine w_val_g (v := .bool true) (want_yes (j := 1) rfl rfl (Ev.t (v := .bool true) rfl rfl) rfl) (y_bin (Ev.t (v := .string (str ([] : List (BitVec 8)))) rfl rfl) (Ev.t (v := .string (str ([] : List (BitVec 8)))) rfl rfl) b_eqs_same) ?_
  refine w_val (v := .bool true) (y_pick_t (Ev.t (v := .bool true) rfl rfl) (Ev.t (v := .bool true) rfl rfl)) ?_
  refine w_val (v := .bool true) (y_mv (Ev.t (v := .bool true) rfl rfl)) ?_
  refine w_val_g (v := .int .i64 6) (want_yes (j := 6) rfl rfl (Ev.t (v := .bool true) rfl rfl) rfl) (y_mv (Ev.t (v := .int .i64 6) rfl rfl)) ?_
  refine w_val_g (v := .int .i64 6) (want_yes (j := 6) rfl rfl (Ev.t (v := .bool true) rfl rfl) rfl) (y_mv (Ev.t (v := .int .i64 6) rfl rfl)) ?_
  refine w_val_g (v := .bool true) (want_yes (j := 6) rfl rfl (Ev.t (v := .bool true) rfl rfl) rfl) (y_bin (Ev.t (v := .int .i64 6) rfl rfl) (Ev.t (v := .int .i64 6) rfl rfl) b_eql) ?_
  refine w_val (v := .bool true) (y_pick_t (Ev.t (v := .bool true) rfl rfl) (Ev.t (v := .bool true) rfl rfl)) ?_
  refine w_val (v := .bool true) (y_as (Ev.t (v := .bool true) rfl rfl)) ?_
  refine wpList_nil ?_
  refine then_n ?_
  refine wp_ret ?_
  refine fin_ret1 rfl (Ev.t (v := .bool true) rfl rfl) ?_
  exact ⟨rfl, hk⟩

set_option maxRecDepth 100000 in
set_option maxHeartbeats 1000000 in
theorem wrapWraps_y (key text : List (BitVec 8)) (n : Nat) (hok : Aes.okKey key.length) (hn : text.length = 8 * n) (h2 : 2 ≤ n) (h128 : n ≤ 128) (w0 : World) : Calls Try.prog 3 #[.string (str key), .string (str text)] w0 fun e w' => e = .returned (.bool true) ∧ Below w0.heap.size w0 w' := by
  refine enter (n := 32) Try.func3 rfl rfl rfl ?_
  have hk : Below w0.heap.size w0 w0 := Below.refl _ _
  refine wp_seq ?_
  refine wp_region_lit ?_
  refine w_val (v := .bool false) (y_as (Ev.c (v := .bool false))) ?_
  refine wpList_nil ?_
  refine then_n ?_
  refine wp_seq ?_
  refine wp_region_lit ?_
  refine w_val (v := .string (str key)) (y_mv (Ev.t (v := .string (str key)) rfl rfl)) ?_
  refine w_val (v := .string (str text)) (y_mv (Ev.t (v := .string (str text)) rfl rfl)) ?_
  refine w_call (Try.func11) (by kernel_rfl) rfl (m2 (Ev.t (v := .string (str key)) rfl rfl) (Ev.t (v := .string (str text)) rfl rfl)) (wrap_y key text n hok hn h2 h128 w0) ?_
  rintro _ w1 ⟨rfl, hb2⟩
  refine ⟨_, rfl, ?_⟩
  replace hk := thenB hk hb2
  refine w_val (v := .tuple #[.string (str (Wr.a key text (6 * n) ++ Wr.q key text (6 * n))), .int .i64 0]) (y_mv (Ev.t (v := .tuple #[.string (str (Wr.a key text (6 * n) ++ Wr.q key text (6 * n))), .int .i64 0]) rfl rfl)) ?_
  refine w_val (v := .string (str (Wr.a key text (6 * n) ++ Wr.q key text (6 * n)))) (y_ext (v := .string (str (Wr.a key text (6 * n) ++ Wr.q key text (6 * n)))) (Ev.t (v := .tuple #[.string (str (Wr.a key text (6 * n) ++ Wr.q key text (6 * n))), .int .i64 0]) rfl rfl) rfl) ?_
  refine w_val (v := .int .i64 0) (y_ext (v := .int .i64 0) (Ev.t (v := .tuple #[.string (str (Wr.a key text (6 * n) ++ Wr.q key text (6 * n))), .int .i64 0]) rfl rfl) rfl) ?_
  refine w_val (v := .string (str (Wr.a key text (6 * n) ++ Wr.q key text (6 * n)))) (y_as (Ev.t (v := .string (str (Wr.a key text (6 * n) ++ Wr.q key text (6 * n)))) rfl rfl)) ?_
  refine w_val (v := .int .i64 0) (y_as (Ev.t (v := .int .i64 0) rfl rfl)) ?_
  refine wpList_nil ?_
  refine then_n ?_
  refine wp_seq ?_
  refine wp_region_lit ?_
  refine w_val (v := .string (str key)) (y_mv (Ev.t (v := .string (str key)) rfl rfl)) ?_
  refine w_val (v := .string (str text)) (y_mv (Ev.t (v := .string (str text)) rfl rfl)) ?_
  refine w_call (Try.func12) (by kernel_rfl) rfl (m2 (Ev.t (v := .string (str key)) rfl rfl) (Ev.t (v := .string (str text)) rfl rfl)) (refWrap_y key text n hok hn h2 h128 w1) ?_
  rintro _ w3 ⟨rfl, hb4⟩
  refine ⟨_, rfl, ?_⟩
  replace hk := thenB hk hb4
  refine w_val (v := .tuple #[.string (str (Wr.a key text (6 * n) ++ Wr.q key text (6 * n))), .int .i64 0]) (y_mv (Ev.t (v := .tuple #[.string (str (Wr.a key text (6 * n) ++ Wr.q key text (6 * n))), .int .i64 0]) rfl rfl)) ?_
  refine w_val (v := .string (str (Wr.a key text (6 * n) ++ Wr.q key text (6 * n)))) (y_ext (v := .string (str (Wr.a key text (6 * n) ++ Wr.q key text (6 * n)))) (Ev.t (v := .tuple #[.string (str (Wr.a key text (6 * n) ++ Wr.q key text (6 * n))), .int .i64 0]) rfl rfl) rfl) ?_
  refine w_val (v := .int .i64 0) (y_ext (v := .int .i64 0) (Ev.t (v := .tuple #[.string (str (Wr.a key text (6 * n) ++ Wr.q key text (6 * n))), .int .i64 0]) rfl rfl) rfl) ?_
  refine w_val (v := .string (str (Wr.a key text (6 * n) ++ Wr.q key text (6 * n)))) (y_as (Ev.t (v := .string (str (Wr.a key text (6 * n) ++ Wr.q key text (6 * n)))) rfl rfl)) ?_
  refine w_val (v := .int .i64 0) (y_as (Ev.t (v := .int .i64 0) rfl rfl)) ?_
  refine wpList_nil ?_
  refine then_n ?_
  refine wp_seq ?_
  refine wp_region_lit ?_
  refine w_call (Try.func13) (by kernel_rfl) rfl m0 (wakes_c  w3) ?_
  rintro _ w5 ⟨rfl, hb6⟩
  refine ⟨_, rfl, ?_⟩
  replace hk := thenB hk hb6
  refine w_val (v := .bool true) (y_mv (Ev.t (v := .bool true) rfl rfl)) ?_
  refine w_val_g (v := .string (str (Wr.a key text (6 * n) ++ Wr.q key text (6 * n)))) (want_yes (j := 1) rfl rfl (Ev.t (v := .bool true) rfl rfl) rfl) (y_mv (Ev.t (v := .string (str (Wr.a key text (6 * n) ++ Wr.q key text (6 * n)))) rfl rfl)) ?_
  refine w_val_g (v := .string (str (Wr.a key text (6 * n) ++ Wr.q key text (6 * n)))) (want_yes (j := 1) rfl rfl (Ev.t (v := .bool true) rfl rfl) rfl) (y_mv (Ev.t (v := .string (str (Wr.a key text (6 * n) ++ Wr.q key text (6 * n)))) rfl rfl)) ?_
  refine w_val_g (v := .bool true) (want_yes (j := 1) rfl rfl (Ev.t (v := .bool true) rfl rfl) rfl) (y_bin (Ev.t (v := .string (str (Wr.a key text (6 * n) ++ Wr.q key text (6 * n)))) rfl rfl) (Ev.t (v := .string (str (Wr.a key text (6 * n) ++ Wr.q key text (6 * n)))) rfl rfl) b_eqs_same) ?_
  refine w_val (v := .bool true) (y_pick_t (Ev.t (v := .bool true) rfl rfl) (Ev.t (v := .bool true) rfl rfl)) ?_
  refine w_val (v := .bool true) (y_mv (Ev.t (v := .bool true) rfl rfl)) ?_
  refine w_val_g (v := .int .i64 0) (want_yes (j := 6) rfl rfl (Ev.t (v := .bool true) rfl rfl) rfl) (y_mv (Ev.t (v := .int .i64 0) rfl rfl)) ?_
  refine w_val_g (v := .int .i64 0) (want_yes (j := 6) rfl rfl (Ev.t (v := .bool true) rfl rfl) rfl) (y_mv (Ev.t (v := .int .i64 0) rfl rfl)) ?_
  refine w_val_g (v := .bool true) (want_yes (j := 6) rfl rfl (Ev.t (v := .bool true) rfl rfl) rfl) (y_bin (Ev.t (v := .int .i64 0) rfl rfl) (Ev.t (v := .int .i64 0) rfl rfl) b_eql) ?_
  refine w_val (v := .bool true) (y_pick_t (Ev.t (v := .bool true) rfl rfl) (Ev.t (v := .bool true) rfl rfl)) ?_
  refine w_val (v := .bool true) (y_as (Ev.t (v := .bool true) rfl rfl)) ?_
  refine wpList_nil ?_
  refine then_n ?_
  refine wp_ret ?_
  refine fin_ret1 rfl (Ev.t (v := .bool true) rfl rfl) ?_
  exact ⟨rfl, hk⟩

set_option maxRecDepth 100000 in
set_option maxHeartbeats 1000000 in
theorem wrapUnwraps_k (key text : List (BitVec 8)) (hok : ¬ Aes.okKey key.length) (w0 : World) : Calls Try.prog 4 #[.string (str key), .string (str text)] w0 fun e w' => e = .returned (.bool true) ∧ Below w0.heap.size w0 w' := by
  refine enter (n := 32) Try.func4 rfl rfl rfl ?_
  have hk : Below w0.heap.size w0 w0 := Below.refl _ _
  refine wp_seq ?_
  refine wp_region_lit ?_
  refine w_val (v := .bool false) (y_as (Ev.c (v := .bool false))) ?_
  refine wpList_nil ?_
  refine then_n ?_
  refine wp_seq ?_
  refine wp_region_lit ?_
  refine w_val (v := .string (str key)) (y_mv (Ev.t (v := .string (str key)) rfl rfl)) ?_
  refine w_val (v := .string (str text)) (y_mv (Ev.t (v := .string (str text)) rfl rfl)) ?_
  refine w_call (Try.func14) (by kernel_rfl) rfl (m2 (Ev.t (v := .string (str key)) rfl rfl) (Ev.t (v := .string (str text)) rfl rfl)) (unwrap_k key text hok w0) ?_
  rintro _ w1 ⟨rfl, hb2⟩
  refine ⟨_, rfl, ?_⟩
  replace hk := thenB hk hb2
  refine w_val (v := .tuple #[.string (str ([] : List (BitVec 8))), .int .i64 3]) (y_mv (Ev.t (v := .tuple #[.string (str ([] : List (BitVec 8))), .int .i64 3]) rfl rfl)) ?_
  refine w_val (v := .string (str ([] : List (BitVec 8)))) (y_ext (v := .string (str ([] : List (BitVec 8)))) (Ev.t (v := .tuple #[.string (str ([] : List (BitVec 8))), .int .i64 3]) rfl rfl) rfl) ?_
  refine w_val (v := .int .i64 3) (y_ext (v := .int .i64 3) (Ev.t (v := .tuple #[.string (str ([] : List (BitVec 8))), .int .i64 3]) rfl rfl) rfl) ?_
  refine w_val (v := .string (str ([] : List (BitVec 8)))) (y_as (Ev.t (v := .string (str ([] : List (BitVec 8)))) rfl rfl)) ?_
  refine w_val (v := .int .i64 3) (y_as (Ev.t (v := .int .i64 3) rfl rfl)) ?_
  refine wpList_nil ?_
  refine then_n ?_
  refine wp_seq ?_
  refine wp_region_lit ?_
  refine w_val (v := .string (str key)) (y_mv (Ev.t (v := .string (str key)) rfl rfl)) ?_
  refine w_val (v := .string (str text)) (y_mv (Ev.t (v := .string (str text)) rfl rfl)) ?_
  refine w_call (Try.func15) (by kernel_rfl) rfl (m2 (Ev.t (v := .string (str key)) rfl rfl) (Ev.t (v := .string (str text)) rfl rfl)) (refUnwrap_k key text hok w1) ?_
  rintro _ w3 ⟨rfl, hb4⟩
  refine ⟨_, rfl, ?_⟩
  replace hk := thenB hk hb4
  refine w_val (v := .tuple #[.string (str ([] : List (BitVec 8))), .int .i64 3]) (y_mv (Ev.t (v := .tuple #[.string (str ([] : List (BitVec 8))), .int .i64 3]) rfl rfl)) ?_
  refine w_val (v := .string (str ([] : List (BitVec 8)))) (y_ext (v := .string (str ([] : List (BitVec 8)))) (Ev.t (v := .tuple #[.string (str ([] : List (BitVec 8))), .int .i64 3]) rfl rfl) rfl) ?_
  refine w_val (v := .int .i64 3) (y_ext (v := .int .i64 3) (Ev.t (v := .tuple #[.string (str ([] : List (BitVec 8))), .int .i64 3]) rfl rfl) rfl) ?_
  refine w_val (v := .string (str ([] : List (BitVec 8)))) (y_as (Ev.t (v := .string (str ([] : List (BitVec 8)))) rfl rfl)) ?_
  refine w_val (v := .int .i64 3) (y_as (Ev.t (v := .int .i64 3) rfl rfl)) ?_
  refine wpList_nil ?_
  refine then_n ?_
  refine wp_seq ?_
  refine wp_region_lit ?_
  refine w_call (Try.func13) (by kernel_rfl) rfl m0 (wakes_c  w3) ?_
  rintro _ w5 ⟨rfl, hb6⟩
  refine ⟨_, rfl, ?_⟩
  replace hk := thenB hk hb6
  refine w_val (v := .bool true) (y_mv (Ev.t (v := .bool true) rfl rfl)) ?_
  refine w_val_g (v := .string (str ([] : List (BitVec 8)))) (want_yes (j := 1) rfl rfl (Ev.t (v := .bool true) rfl rfl) rfl) (y_mv (Ev.t (v := .string (str ([] : List (BitVec 8)))) rfl rfl)) ?_
  refine w_val_g (v := .string (str ([] : List (BitVec 8)))) (want_yes (j := 1) rfl rfl (Ev.t (v := .bool true) rfl rfl) rfl) (y_mv (Ev.t (v := .string (str ([] : List (BitVec 8)))) rfl rfl)) ?_
  refine w_val_g (v := .bool true) (want_yes (j := 1) rfl rfl (Ev.t (v := .bool true) rfl rfl) rfl) (y_bin (Ev.t (v := .string (str ([] : List (BitVec 8)))) rfl rfl) (Ev.t (v := .string (str ([] : List (BitVec 8)))) rfl rfl) b_eqs_same) ?_
  refine w_val (v := .bool true) (y_pick_t (Ev.t (v := .bool true) rfl rfl) (Ev.t (v := .bool true) rfl rfl)) ?_
  refine w_val (v := .bool true) (y_mv (Ev.t (v := .bool true) rfl rfl)) ?_
  refine w_val_g (v := .int .i64 3) (want_yes (j := 6) rfl rfl (Ev.t (v := .bool true) rfl rfl) rfl) (y_mv (Ev.t (v := .int .i64 3) rfl rfl)) ?_
  refine w_val_g (v := .int .i64 3) (want_yes (j := 6) rfl rfl (Ev.t (v := .bool true) rfl rfl) rfl) (y_mv (Ev.t (v := .int .i64 3) rfl rfl)) ?_
  refine w_val_g (v := .bool true) (want_yes (j := 6) rfl rfl (Ev.t (v := .bool true) rfl rfl) rfl) (y_bin (Ev.t (v := .int .i64 3) rfl rfl) (Ev.t (v := .int .i64 3) rfl rfl) b_eql) ?_
  refine w_val (v := .bool true) (y_pick_t (Ev.t (v := .bool true) rfl rfl) (Ev.t (v := .bool true) rfl rfl)) ?_
  refine w_val (v := .bool true) (y_as (Ev.t (v := .bool true) rfl rfl)) ?_
  refine wpList_nil ?_
  refine then_n ?_
  refine wp_ret ?_
  refine fin_ret1 rfl (Ev.t (v := .bool true) rfl rfl) ?_
  exact ⟨rfl, hk⟩

set_option maxRecDepth 100000 in
set_option maxHeartbeats 1000000 in
theorem wrapValues_k (key text : List (BitVec 8)) (hok : ¬ Aes.okKey key.length) (w0 : World) : Calls Try.prog 5 #[.string (str key), .string (str text)] w0 fun e w' => e = .returned (.bool true) ∧ Below w0.heap.size w0 w' := by
  refine enter (n := 74) Try.func5 rfl rfl rfl ?_
  have hk : Below w0.heap.size w0 w0 := Below.refl _ _
  refine wp_seq ?_
  refine wp_region_lit ?_
  refine w_val (v := .bool false) (y_as (Ev.c (v := .bool false))) ?_
  refine wpList_nil ?_
  refine then_n ?_
  refine wp_seq ?_
  refine wp_region_lit ?_
  refine w_val (v := .string (str key)) (y_mv (Ev.t (v := .string (str key)) rfl rfl)) ?_
  refine w_val (v := .string (str text)) (y_mv (Ev.t (v := .string (str text)) rfl rfl)) ?_
  refine w_call (Try.func16) (by kernel_rfl) rfl (m2 (Ev.t (v := .string (str key)) rfl rfl) (Ev.t (v := .string (str text)) rfl rfl)) (value_k key text hok w0) ?_
  rintro _ w1 ⟨rfl, hb2⟩
  refine ⟨_, rfl, ?_⟩
  replace hk := thenB hk hb2
  refine w_val (v := .tuple #[.string (str ([] : List (BitVec 8))), .string (str ([] : List (BitVec 8))), .int .i64 3]) (y_mv (Ev.t (v := .tuple #[.string (str ([] : List (BitVec 8))), .string (str ([] : List (BitVec 8))), .int .i64 3]) rfl rfl)) ?_
  refine w_val (v := .string (str ([] : List (BitVec 8)))) (y_ext (v := .string (str ([] : List (BitVec 8)))) (Ev.t (v := .tuple #[.string (str ([] : List (BitVec 8))), .string (str ([] : List (BitVec 8))), .int .i64 3]) rfl rfl) rfl) ?_
  refine w_val (v := .string (str ([] : List (BitVec 8)))) (y_ext (v := .string (str ([] : List (BitVec 8)))) (Ev.t (v := .tuple #[.string (str ([] : List (BitVec 8))), .string (str ([] : List (BitVec 8))), .int .i64 3]) rfl rfl) rfl) ?_
  refine w_val (v := .int .i64 3) (y_ext (v := .int .i64 3) (Ev.t (v := .tuple #[.string (str ([] : List (BitVec 8))), .string (str ([] : List (BitVec 8))), .int .i64 3]) rfl rfl) rfl) ?_
  refine w_val (v := .string (str ([] : List (BitVec 8)))) (y_as (Ev.t (v := .string (str ([] : List (BitVec 8)))) rfl rfl)) ?_
  refine w_val (v := .string (str ([] : List (BitVec 8)))) (y_as (Ev.t (v := .string (str ([] : List (BitVec 8)))) rfl rfl)) ?_
  refine w_val (v := .int .i64 3) (y_as (Ev.t (v := .int .i64 3) rfl rfl)) ?_
  refine wpList_nil ?_
  refine then_n ?_
  refine wp_seq ?_
  refine wp_region_lit ?_
  refine w_val (v := .string (str key)) (y_mv (Ev.t (v := .string (str key)) rfl rfl)) ?_
  refine w_val (v := .string (str text)) (y_mv (Ev.t (v := .string (str text)) rfl rfl)) ?_
  refine w_call (Try.func17) (by kernel_rfl) rfl (m2 (Ev.t (v := .string (str key)) rfl rfl) (Ev.t (v := .string (str text)) rfl rfl)) (refValue_k key text hok w1) ?_
  rintro _ w3 ⟨rfl, hb4⟩
  refine ⟨_, rfl, ?_⟩
  replace hk := thenB hk hb4
  refine w_val (v := .tuple #[.string (str ([] : List (BitVec 8))), .string (str ([] : List (BitVec 8))), .int .i64 3]) (y_mv (Ev.t (v := .tuple #[.string (str ([] : List (BitVec 8))), .string (str ([] : List (BitVec 8))), .int .i64 3]) rfl rfl)) ?_
  refine w_val (v := .string (str ([] : List (BitVec 8)))) (y_ext (v := .string (str ([] : List (BitVec 8)))) (Ev.t (v := .tuple #[.string (str ([] : List (BitVec 8))), .string (str ([] : List (BitVec 8))), .int .i64 3]) rfl rfl) rfl) ?_
  refine w_val (v := .string (str ([] : List (BitVec 8)))) (y_ext (v := .string (str ([] : List (BitVec 8)))) (Ev.t (v := .tuple #[.string (str ([] : List (BitVec 8))), .string (str ([] : List (BitVec 8))), .int .i64 3]) rfl rfl) rfl) ?_
  refine w_val (v := .int .i64 3) (y_ext (v := .int .i64 3) (Ev.t (v := .tuple #[.string (str ([] : List (BitVec 8))), .string (str ([] : List (BitVec 8))), .int .i64 3]) rfl rfl) rfl) ?_
  refine w_val (v := .string (str ([] : List (BitVec 8)))) (y_as (Ev.t (v := .string (str ([] : List (BitVec 8)))) rfl rfl)) ?_
  refine w_val (v := .string (str ([] : List (BitVec 8)))) (y_as (Ev.t (v := .string (str ([] : List (BitVec 8)))) rfl rfl)) ?_
  refine w_val (v := .int .i64 3) (y_as (Ev.t (v := .int .i64 3) rfl rfl)) ?_
  refine wpList_nil ?_
  refine then_n ?_
  refine wp_seq ?_
  refine wp_region_lit ?_
  refine w_val (v := .string (str key)) (y_mv (Ev.t (v := .string (str key)) rfl rfl)) ?_
  refine w_val (v := .string (str text)) (y_mv (Ev.t (v := .string (str text)) rfl rfl)) ?_
  refine w_call (Try.func14) (by kernel_rfl) rfl (m2 (Ev.t (v := .string (str key)) rfl rfl) (Ev.t (v := .string (str text)) rfl rfl)) (unwrap_k key text hok w3) ?_
  rintro _ w5 ⟨rfl, hb6⟩
  refine ⟨_, rfl, ?_⟩
  replace hk := thenB hk hb6
  refine w_val (v := .tuple #[.string (str ([] : List (BitVec 8))), .int .i64 3]) (y_mv (Ev.t (v := .tuple #[.string (str ([] : List (BitVec 8))), .int .i64 3]) rfl rfl)) ?_
  refine w_val (v := .string (str ([] : List (BitVec 8)))) (y_ext (v := .string (str ([] : List (BitVec 8)))) (Ev.t (v := .tuple #[.string (str ([] : List (BitVec 8))), .int .i64 3]) rfl rfl) rfl) ?_
  refine w_val (v := .int .i64 3) (y_ext (v := .int .i64 3) (Ev.t (v := .tuple #[.string (str ([] : List (BitVec 8))), .int .i64 3]) rfl rfl) rfl) ?_
  refine w_val (v := .string (str ([] : List (BitVec 8)))) (y_as (Ev.t (v := .string (str ([] : List (BitVec 8)))) rfl rfl)) ?_
  refine w_val (v := .int .i64 3) (y_as (Ev.t (v := .int .i64 3) rfl rfl)) ?_
  refine wpList_nil ?_
  refine then_n ?_
  refine wp_seq ?_
  refine wp_seq ?_
  refine wp_region_lit ?_
  refine w_call (Try.func13) (by kernel_rfl) rfl m0 (wakes_c  w5) ?_
  rintro _ w7 ⟨rfl, hb8⟩
  refine ⟨_, rfl, ?_⟩
  replace hk := thenB hk hb8
  refine w_val (v := .bool false) (y_not (Ev.t (v := .bool true) rfl rfl)) ?_
  refine w_val (v := .bool false) (y_mv (Ev.t (v := .bool false) rfl rfl)) ?_
  refine w_val_g (v := .string (str ([] : List (BitVec 8)))) (want_yes (j := 2) rfl rfl (Ev.t (v := .bool false) rfl rfl) rfl) (y_mv (Ev.t (v := .string (str ([] : List (BitVec 8)))) rfl rfl)) ?_
  refine w_val_g (v := .string (str ([] : List (BitVec 8)))) (want_yes (j := 2) rfl rfl (Ev.t (v := .bool false) rfl rfl) rfl) (y_mv (Ev.t (v := .string (str ([] : List (BitVec 8)))) rfl rfl)) ?_
  refine w_val_g (v := .bool false) (want_yes (j := 2) rfl rfl (Ev.t (v := .bool false) rfl rfl) rfl) (y_bin (Ev.t (v := .string (str ([] : List (BitVec 8)))) rfl rfl) (Ev.t (v := .string (str ([] : List (BitVec 8)))) rfl rfl) b_nes_same) ?_
  refine w_val (v := .bool false) (y_pick_f (Ev.t (v := .bool false) rfl rfl) (Ev.t (v := .bool false) rfl rfl)) ?_
  refine w_val (v := .bool false) (y_mv (Ev.t (v := .bool false) rfl rfl)) ?_
  refine w_val_g (v := .string (str ([] : List (BitVec 8)))) (want_yes (j := 7) rfl rfl (Ev.t (v := .bool false) rfl rfl) rfl) (y_mv (Ev.t (v := .string (str ([] : List (BitVec 8)))) rfl rfl)) ?_
  refine w_val_g (v := .string (str ([] : List (BitVec 8)))) (want_yes (j := 7) rfl rfl (Ev.t (v := .bool false) rfl rfl) rfl) (y_mv (Ev.t (v := .string (str ([] : List (BitVec 8)))) rfl rfl)) ?_
  refine w_val_g (v := .bool false) (want_yes (j := 7) rfl rfl (Ev.t (v := .bool false) rfl rfl) rfl) (y_bin (Ev.t (v := .string (str ([] : List (BitVec 8)))) rfl rfl) (Ev.t (v := .string (str ([] : List (BitVec 8)))) rfl rfl) b_nes_same) ?_
  refine w_val (v := .bool false) (y_pick_f (Ev.t (v := .bool false) rfl rfl) (Ev.t (v := .bool false) rfl rfl)) ?_
  refine w_val (v := .bool false) (y_mv (Ev.t (v := .bool false) rfl rfl)) ?_
  refine w_val_g (v := .int .i64 3) (want_yes (j := 12) rfl rfl (Ev.t (v := .bool false) rfl rfl) rfl) (y_mv (Ev.t (v := .int .i64 3) rfl rfl)) ?_
  refine w_val_g (v := .int .i64 3) (want_yes (j := 12) rfl rfl (Ev.t (v := .bool false) rfl rfl) rfl) (y_mv (Ev.t (v := .int .i64 3) rfl rfl)) ?_
  refine w_val_g (v := .bool false) (want_yes (j := 12) rfl rfl (Ev.t (v := .bool false) rfl rfl) rfl) (y_bin (Ev.t (v := .int .i64 3) rfl rfl) (Ev.t (v := .int .i64 3) rfl rfl) b_neq) ?_
  refine w_val (v := .bool false) (y_pick_f (Ev.t (v := .bool false) rfl rfl) (Ev.t (v := .bool false) rfl rfl)) ?_
  refine wpList_nil ?_
  refine then_n ?_
  refine c_ff (Ev.t (v := .bool false) rfl rfl) ?_
  refine wp_skip ?_
  refine then_n ?_
  refine wp_seq ?_
  refine wp_seq ?_
  refine wp_region_lit ?_
  refine w_val (v := .int .i64 3) (y_mv (Ev.t (v := .int .i64 3) rfl rfl)) ?_
  refine w_val (v := .bool true) (y_bin (Ev.t (v := .int .i64 3) rfl rfl) (Ev.c (v := .int .i64 0)) b_neq) ?_
  refine wpList_nil ?_
  refine then_n ?_
  refine c_tt (Ev.t (v := .bool true) rfl rfl) ?_
  refine wp_seq ?_
  refine wp_region_lit ?_
  refine w_val (v := .string (str ([] : List (BitVec 8)))) (y_mv (Ev.t (v := .string (str ([] : List (BitVec 8)))) rfl rfl)) ?_
  refine w_val (v := .bool true) (y_bin (Ev.t (v := .string (str ([] : List (BitVec 8)))) rfl rfl) (Ev.c (v := .string (str ([] : List (BitVec 8))))) b_eqs_same) ?_
  refine w_val (v := .bool true) (y_mv (Ev.t (v := .bool true) rfl rfl)) ?_
  refine w_val_g (v := .int .i64 3) (want_yes (j := 2) rfl rfl (Ev.t (v := .bool true) rfl rfl) rfl) (y_mv (Ev.t (v := .int .i64 3) rfl rfl)) ?_
  refine w_val_g (v := .int .i64 3) (want_yes (j := 2) rfl rfl (Ev.t (v := .bool true) rfl rfl) rfl) (y_mv (Ev.t (v := .int .i64 3) rfl rfl)) ?_
  refine w_val_g (v := .bool true) (want_yes (j := 2) rfl rfl (Ev.t (v := .bool true) rfl rfl) rfl) (y_bin (Ev.t (v := .int .i64 3) rfl rfl) (Ev.t (v := .int .i64 3) rfl rfl) b_eql) ?_
  refine w_val (v := .bool true) (y_pick_t (Ev.t (v := .bool true) rfl rfl) (Ev.t (v := .bool true) rfl rfl)) ?_
  refine w_val (v := .bool true) (y_as (Ev.t (v := .bool true) rfl rfl)) ?_
  refine wpList_nil ?_
  refine then_n ?_
  refine wp_ret ?_
  refine then_r ?_
  refine fin_ret1 rfl (Ev.t (v := .bool true) rfl rfl) ?_
  exact ⟨rfl, hk⟩

set_option maxRecDepth 100000 in
set_option maxHeartbeats 1000000 in
theorem wrapUnwraps_s (key text : List (BitVec 8)) (hok : Aes.okKey key.length) (hs : ¬ (text.length % 8 = 0 ∧ 24 ≤ text.length ∧ text.length ≤ 1032)) (w0 : World) : Calls Try.prog 4 #[.string (str key), .string (str text)] w0 fun e w' => e = .returned (.bool true) ∧ Below w0.heap.size w0 w' := by
  refine enter (n := 32) Try.func4 rfl rfl rfl ?_
  have hk : Below w0.heap.size w0 w0 := Below.refl _ _
  refine wp_seq ?_
  refine wp_region_lit ?_
  refine w_val (v := .bool false) (y_as (Ev.c (v := .bool false))) ?_
  refine wpList_nil ?_
  refine then_n ?_
  refine wp_seq ?_
  refine wp_region_lit ?_
  refine w_val (v := .string (str key)) (y_mv (Ev.t (v := .string (str key)) rfl rfl)) ?_
  refine w_val (v := .string (str text)) (y_mv (Ev.t (v := .string (str text)) rfl rfl)) ?_
  refine w_call (Try.func14) (by kernel_rfl) rfl (m2 (Ev.t (v := .string (str key)) rfl rfl) (Ev.t (v := .string (str text)) rfl rfl)) (unwrap_s key text hok hs w0) ?_
  rintro _ w1 ⟨rfl, hb2⟩
  refine ⟨_, rfl, ?_⟩
  replace hk := thenB hk hb2
  refine w_val (v := .tuple #[.string (str ([] : List (BitVec 8))), .int .i64 6]) (y_mv (Ev.t (v := .tuple #[.string (str ([] : List (BitVec 8))), .int .i64 6]) rfl rfl)) ?_
  refine w_val (v := .string (str ([] : List (BitVec 8)))) (y_ext (v := .string (str ([] : List (BitVec 8)))) (Ev.t (v := .tuple #[.string (str ([] : List (BitVec 8))), .int .i64 6]) rfl rfl) rfl) ?_
  refine w_val (v := .int .i64 6) (y_ext (v := .int .i64 6) (Ev.t (v := .tuple #[.string (str ([] : List (BitVec 8))), .int .i64 6]) rfl rfl) rfl) ?_
  refine w_val (v := .string (str ([] : List (BitVec 8)))) (y_as (Ev.t (v := .string (str ([] : List (BitVec 8)))) rfl rfl)) ?_
  refine w_val (v := .int .i64 6) (y_as (Ev.t (v := .int .i64 6) rfl rfl)) ?_
  refine wpList_nil ?_
  refine then_n ?_
  refine wp_seq ?_
  refine wp_region_lit ?_
  refine w_val (v := .string (str key)) (y_mv (Ev.t (v := .string (str key)) rfl rfl)) ?_
  refine w_val (v := .string (str text)) (y_mv (Ev.t (v := .string (str text)) rfl rfl)) ?_
  refine w_call (Try.func15) (by kernel_rfl) rfl (m2 (Ev.t (v := .string (str key)) rfl rfl) (Ev.t (v := .string (str text)) rfl rfl)) (refUnwrap_s key text hok hs w1) ?_
  rintro _ w3 ⟨rfl, hb4⟩
  refine ⟨_, rfl, ?_⟩
  replace hk := thenB hk hb4
  refine w_val (v := .tuple #[.string (str ([] : List (BitVec 8))), .int .i64 6]) (y_mv (Ev.t (v := .tuple #[.string (str ([] : List (BitVec 8))), .int .i64 6]) rfl rfl)) ?_
  refine w_val (v := .string (str ([] : List (BitVec 8)))) (y_ext (v := .string (str ([] : List (BitVec 8)))) (Ev.t (v := .tuple #[.string (str ([] : List (BitVec 8))), .int .i64 6]) rfl rfl) rfl) ?_
  refine w_val (v := .int .i64 6) (y_ext (v := .int .i64 6) (Ev.t (v := .tuple #[.string (str ([] : List (BitVec 8))), .int .i64 6]) rfl rfl) rfl) ?_
  refine w_val (v := .string (str ([] : List (BitVec 8)))) (y_as (Ev.t (v := .string (str ([] : List (BitVec 8)))) rfl rfl)) ?_
  refine w_val (v := .int .i64 6) (y_as (Ev.t (v := .int .i64 6) rfl rfl)) ?_
  refine wpList_nil ?_
  refine then_n ?_
  refine wp_seq ?_
  refine wp_region_lit ?_
  refine w_call (Try.func13) (by kernel_rfl) rfl m0 (wakes_c  w3) ?_
  rintro _ w5 ⟨rfl, hb6⟩
  refine ⟨_, rfl, ?_⟩
  replace hk := thenB hk hb6
  refine w_val (v := .bool true) (y_mv (Ev.t (v := .bool true) rfl rfl)) ?_
  refine w_val_g (v := .string (str ([] : List (BitVec 8)))) (want_yes (j := 1) rfl rfl (Ev.t (v := .bool true) rfl rfl) rfl) (y_mv (Ev.t (v := .string (str ([] : List (BitVec 8)))) rfl rfl)) ?_
  refine w_val_g (v := .string (str ([] : List (BitVec 8)))) (want_yes (j := 1) rfl rfl (Ev.t (v := .bool true) rfl rfl) rfl) (y_mv (Ev.t (v := .string (str ([] : List (BitVec 8)))) rfl rfl)) ?_
  refine w_val_g (v := .bool true) (want_yes (j := 1) rfl rfl (Ev.t (v := .bool true) rfl rfl) rfl) (y_bin (Ev.t (v := .string (str ([] : List (BitVec 8)))) rfl rfl) (Ev.t (v := .string (str ([] : List (BitVec 8)))) rfl rfl) b_eqs_same) ?_
  refine w_val (v := .bool true) (y_pick_t (Ev.t (v := .bool true) rfl rfl) (Ev.t (v := .bool true) rfl rfl)) ?_
  refine w_val (v := .bool true) (y_mv (Ev.t (v := .bool true) rfl rfl)) ?_
  refine w_val_g (v := .int .i64 6) (want_yes (j := 6) rfl rfl (Ev.t (v := .bool true) rfl rfl) rfl) (y_mv (Ev.t (v := .int .i64 6) rfl rfl)) ?_
  refine w_val_g (v := .int .i64 6) (want_yes (j := 6) rfl rfl (Ev.t (v := .bool true) rfl rfl) rfl) (y_mv (Ev.t (v := .int .i64 6) rfl rfl)) ?_
  refine w_val_g (v := .bool true) (want_yes (j := 6) rfl rfl (Ev.t (v := .bool true) rfl rfl) rfl) (y_bin (Ev.t (v := .int .i64 6) rfl rfl) (Ev.t (v := .int .i64 6) rfl rfl) b_eql) ?_
  refine w_val (v := .bool true) (y_pick_t (Ev.t (v := .bool true) rfl rfl) (Ev.t (v := .bool true) rfl rfl)) ?_
  refine w_val (v := .bool true) (y_as (Ev.t (v := .bool true) rfl rfl)) ?_
  refine wpList_nil ?_
  refine then_n ?_
  refine wp_ret ?_
  refine fin_ret1 rfl (Ev.t (v := .bool true) rfl rfl) ?_
  exact ⟨rfl, hk⟩

set_option maxRecDepth 100000 in
set_option maxHeartbeats 1000000 in
theorem wrapValues_s (key text : List (BitVec 8)) (hok : Aes.okKey key.length) (hs : ¬ (text.length % 8 = 0 ∧ 24 ≤ text.length ∧ text.length ≤ 1032)) (w0 : World) : Calls Try.prog 5 #[.string (str key), .string (str text)] w0 fun e w' => e = .returned (.bool true) ∧ Below w0.heap.size w0 w' := by
  refine enter (n := 74) Try.func5 rfl rfl rfl ?_
  have hk : Below w0.heap.size w0 w0 := Below.refl _ _
  refine wp_seq ?_
  refine wp_region_lit ?_
  refine w_val (v := .bool false) (y_as (Ev.c (v := .bool false))) ?_
  refine wpList_nil ?_
  refine then_n ?_
  refine wp_seq ?_
  refine wp_region_lit ?_
  refine w_val (v := .string (str key)) (y_mv (Ev.t (v := .string (str key)) rfl rfl)) ?_
  refine w_val (v := .string (str text)) (y_mv (Ev.t (v := .string (str text)) rfl rfl)) ?_
  refine w_call (Try.func16) (by kernel_rfl) rfl (m2 (Ev.t (v := .string (str key)) rfl rfl) (Ev.t (v := .string (str text)) rfl rfl)) (value_s key text hok hs w0) ?_
  rintro _ w1 ⟨rfl, hb2⟩
  refine ⟨_, rfl, ?_⟩
  replace hk := thenB hk hb2
  refine w_val (v := .tuple #[.string (str ([] : List (BitVec 8))), .string (str ([] : List (BitVec 8))), .int .i64 6]) (y_mv (Ev.t (v := .tuple #[.string (str ([] : List (BitVec 8))), .string (str ([] : List (BitVec 8))), .int .i64 6]) rfl rfl)) ?_
  refine w_val (v := .string (str ([] : List (BitVec 8)))) (y_ext (v := .string (str ([] : List (BitVec 8)))) (Ev.t (v := .tuple #[.string (str ([] : List (BitVec 8))), .string (str ([] : List (BitVec 8))), .int .i64 6]) rfl rfl) rfl) ?_
  refine w_val (v := .string (str ([] : List (BitVec 8)))) (y_ext (v := .string (str ([] : List (BitVec 8)))) (Ev.t (v := .tuple #[.string (str ([] : List (BitVec 8))), .string (str ([] : List (BitVec 8))), .int .i64 6]) rfl rfl) rfl) ?_
  refine w_val (v := .int .i64 6) (y_ext (v := .int .i64 6) (Ev.t (v := .tuple #[.string (str ([] : List (BitVec 8))), .string (str ([] : List (BitVec 8))), .int .i64 6]) rfl rfl) rfl) ?_
  refine w_val (v := .string (str ([] : List (BitVec 8)))) (y_as (Ev.t (v := .string (str ([] : List (BitVec 8)))) rfl rfl)) ?_
  refine w_val (v := .string (str ([] : List (BitVec 8)))) (y_as (Ev.t (v := .string (str ([] : List (BitVec 8)))) rfl rfl)) ?_
  refine w_val (v := .int .i64 6) (y_as (Ev.t (v := .int .i64 6) rfl rfl)) ?_
  refine wpList_nil ?_
  refine then_n ?_
  refine wp_seq ?_
  refine wp_region_lit ?_
  refine w_val (v := .string (str key)) (y_mv (Ev.t (v := .string (str key)) rfl rfl)) ?_
  refine w_val (v := .string (str text)) (y_mv (Ev.t (v := .string (str text)) rfl rfl)) ?_
  refine w_call (Try.func17) (by kernel_rfl) rfl (m2 (Ev.t (v := .string (str key)) rfl rfl) (Ev.t (v := .string (str text)) rfl rfl)) (refValue_s key text hok hs w1) ?_
  rintro _ w3 ⟨rfl, hb4⟩
  refine ⟨_, rfl, ?_⟩
  replace hk := thenB hk hb4
  refine w_val (v := .tuple #[.string (str ([] : List (BitVec 8))), .string (str ([] : List (BitVec 8))), .int .i64 6]) (y_mv (Ev.t (v := .tuple #[.string (str ([] : List (BitVec 8))), .string (str ([] : List (BitVec 8))), .int .i64 6]) rfl rfl)) ?_
  refine w_val (v := .string (str ([] : List (BitVec 8)))) (y_ext (v := .string (str ([] : List (BitVec 8)))) (Ev.t (v := .tuple #[.string (str ([] : List (BitVec 8))), .string (str ([] : List (BitVec 8))), .int .i64 6]) rfl rfl) rfl) ?_
  refine w_val (v := .string (str ([] : List (BitVec 8)))) (y_ext (v := .string (str ([] : List (BitVec 8)))) (Ev.t (v := .tuple #[.string (str ([] : List (BitVec 8))), .string (str ([] : List (BitVec 8))), .int .i64 6]) rfl rfl) rfl) ?_
  refine w_val (v := .int .i64 6) (y_ext (v := .int .i64 6) (Ev.t (v := .tuple #[.string (str ([] : List (BitVec 8))), .string (str ([] : List (BitVec 8))), .int .i64 6]) rfl rfl) rfl) ?_
  refine w_val (v := .string (str ([] : List (BitVec 8)))) (y_as (Ev.t (v := .string (str ([] : List (BitVec 8)))) rfl rfl)) ?_
  refine w_val (v := .string (str ([] : List (BitVec 8)))) (y_as (Ev.t (v := .string (str ([] : List (BitVec 8)))) rfl rfl)) ?_
  refine w_val (v := .int .i64 6) (y_as (Ev.t (v := .int .i64 6) rfl rfl)) ?_
  refine wpList_nil ?_
  refine then_n ?_
  refine wp_seq ?_
  refine wp_region_lit ?_
  refine w_val (v := .string (str key)) (y_mv (Ev.t (v := .string (str key)) rfl rfl)) ?_
  refine w_val (v := .string (str text)) (y_mv (Ev.t (v := .string (str text)) rfl rfl)) ?_
  refine w_call (Try.func14) (by kernel_rfl) rfl (m2 (Ev.t (v := .string (str key)) rfl rfl) (Ev.t (v := .string (str text)) rfl rfl)) (unwrap_s key text hok hs w3) ?_
  rintro _ w5 ⟨rfl, hb6⟩
  refine ⟨_, rfl, ?_⟩
  replace hk := thenB hk hb6
  refine w_val (v := .tuple #[.string (str ([] : List (BitVec 8))), .int .i64 6]) (y_mv (Ev.t (v := .tuple #[.string (str ([] : List (BitVec 8))), .int .i64 6]) rfl rfl)) ?_
  refine w_val (v := .string (str ([] : List (BitVec 8)))) (y_ext (v := .string (str ([] : List (BitVec 8)))) (Ev.t (v := .tuple #[.string (str ([] : List (BitVec 8))), .int .i64 6]) rfl rfl) rfl) ?_
  refine w_val (v := .int .i64 6) (y_ext (v := .int .i64 6) (Ev.t (v := .tuple #[.string (str ([] : List (BitVec 8))), .int .i64 6]) rfl rfl) rfl) ?_
  refine w_val (v := .string (str ([] : List (BitVec 8)))) (y_as (Ev.t (v := .string (str ([] : List (BitVec 8)))) rfl rfl)) ?_
  refine w_val (v := .int .i64 6) (y_as (Ev.t (v := .int .i64 6) rfl rfl)) ?_
  refine wpList_nil ?_
  refine then_n ?_
  refine wp_seq ?_
  refine wp_seq ?_
  refine wp_region_lit ?_
  refine w_call (Try.func13) (by kernel_rfl) rfl m0 (wakes_c  w5) ?_
  rintro _ w7 ⟨rfl, hb8⟩
  refine ⟨_, rfl, ?_⟩
  replace hk := thenB hk hb8
  refine w_val (v := .bool false) (y_not (Ev.t (v := .bool true) rfl rfl)) ?_
  refine w_val (v := .bool false) (y_mv (Ev.t (v := .bool false) rfl rfl)) ?_
  refine w_val_g (v := .string (str ([] : List (BitVec 8)))) (want_yes (j := 2) rfl rfl (Ev.t (v := .bool false) rfl rfl) rfl) (y_mv (Ev.t (v := .string (str ([] : List (BitVec 8)))) rfl rfl)) ?_
  refine w_val_g (v := .string (str ([] : List (BitVec 8)))) (want_yes (j := 2) rfl rfl (Ev.t (v := .bool false) rfl rfl) rfl) (y_mv (Ev.t (v := .string (str ([] : List (BitVec 8)))) rfl rfl)) ?_
  refine w_val_g (v := .bool false) (want_yes (j := 2) rfl rfl (Ev.t (v := .bool false) rfl rfl) rfl) (y_bin (Ev.t (v := .string (str ([] : List (BitVec 8)))) rfl rfl) (Ev.t (v := .string (str ([] : List (BitVec 8)))) rfl rfl) b_nes_same) ?_
  refine w_val (v := .bool false) (y_pick_f (Ev.t (v := .bool false) rfl rfl) (Ev.t (v := .bool false) rfl rfl)) ?_
  refine w_val (v := .bool false) (y_mv (Ev.t (v := .bool false) rfl rfl)) ?_
  refine w_val_g (v := .string (str ([] : List (BitVec 8)))) (want_yes (j := 7) rfl rfl (Ev.t (v := .bool false) rfl rfl) rfl) (y_mv (Ev.t (v := .string (str ([] : List (BitVec 8)))) rfl rfl)) ?_
  refine w_val_g (v := .string (str ([] : List (BitVec 8)))) (want_yes (j := 7) rfl rfl (Ev.t (v := .bool false) rfl rfl) rfl) (y_mv (Ev.t (v := .string (str ([] : List (BitVec 8)))) rfl rfl)) ?_
  refine w_val_g (v := .bool false) (want_yes (j := 7) rfl rfl (Ev.t (v := .bool false) rfl rfl) rfl) (y_bin (Ev.t (v := .string (str ([] : List (BitVec 8)))) rfl rfl) (Ev.t (v := .string (str ([] : List (BitVec 8)))) rfl rfl) b_nes_same) ?_
  refine w_val (v := .bool false) (y_pick_f (Ev.t (v := .bool false) rfl rfl) (Ev.t (v := .bool false) rfl rfl)) ?_
  refine w_val (v := .bool false) (y_mv (Ev.t (v := .bool false) rfl rfl)) ?_
  refine w_val_g (v := .int .i64 6) (want_yes (j := 12) rfl rfl (Ev.t (v := .bool false) rfl rfl) rfl) (y_mv (Ev.t (v := .int .i64 6) rfl rfl)) ?_
  refine w_val_g (v := .int .i64 6) (want_yes (j := 12) rfl rfl (Ev.t (v := .bool false) rfl rfl) rfl) (y_mv (Ev.t (v := .int .i64 6) rfl rfl)) ?_
  refine w_val_g (v := .bool false) (want_yes (j := 12) rfl rfl (Ev.t (v := .bool false) rfl rfl) rfl) (y_bin (Ev.t (v := .int .i64 6) rfl rfl) (Ev.t (v := .int .i64 6) rfl rfl) b_neq) ?_
  refine w_val (v := .bool false) (y_pick_f (Ev.t (v := .bool false) rfl rfl) (Ev.t (v := .bool false) rfl rfl)) ?_
  refine wpList_nil ?_
  refine then_n ?_
  refine c_ff (Ev.t (v := .bool false) rfl rfl) ?_
  refine wp_skip ?_
  refine then_n ?_
  refine wp_seq ?_
  refine wp_seq ?_
  refine wp_region_lit ?_
  refine w_val (v := .int .i64 6) (y_mv (Ev.t (v := .int .i64 6) rfl rfl)) ?_
  refine w_val (v := .bool true) (y_bin (Ev.t (v := .int .i64 6) rfl rfl) (Ev.c (v := .int .i64 0)) b_neq) ?_
  refine wpList_nil ?_
  refine then_n ?_
  refine c_tt (Ev.t (v := .bool true) rfl rfl) ?_
  refine wp_seq ?_
  refine wp_region_lit ?_
  refine w_val (v := .string (str ([] : List (BitVec 8)))) (y_mv (Ev.t (v := .string (str ([] : List (BitVec 8)))) rfl rfl)) ?_
  refine w_val (v := .bool true) (y_bin (Ev.t (v := .string (str ([] : List (BitVec 8)))) rfl rfl) (Ev.c (v := .string (str ([] : List (BitVec 8))))) b_eqs_same) ?_
  refine w_val (v := .bool true) (y_mv (Ev.t (v := .bool true) rfl rfl)) ?_
  refine w_val_g (v := .int .i64 6) (want_yes (j := 2) rfl rfl (Ev.t (v := .bool true) rfl rfl) rfl) (y_mv (Ev.t (v := .int .i64 6) rfl rfl)) ?_
  refine w_val_g (v := .int .i64 6) (want_yes (j := 2) rfl rfl (Ev.t (v := .bool true) rfl rfl) rfl) (y_mv (Ev.t (v := .int .i64 6) rfl rfl)) ?_
  refine w_val_g (v := .bool true) (want_yes (j := 2) rfl rfl (Ev.t (v := .bool true) rfl rfl) rfl) (y_bin (Ev.t (v := .int .i64 6) rfl rfl) (Ev.t (v := .int .i64 6) rfl rfl) b_eql) ?_
  refine w_val (v := .bool true) (y_pick_t (Ev.t (v := .bool true) rfl rfl) (Ev.t (v := .bool true) rfl rfl)) ?_
  refine w_val (v := .bool true) (y_as (Ev.t (v := .bool true) rfl rfl)) ?_
  refine wpList_nil ?_
  refine then_n ?_
  refine wp_ret ?_
  refine then_r ?_
  refine fin_ret1 rfl (Ev.t (v := .bool true) rfl rfl) ?_
  exact ⟨rfl, hk⟩

set_option maxRecDepth 100000 in
set_option maxHeartbeats 1000000 in
theorem wrapUnwraps_y (key text : List (BitVec 8)) (n : Nat) (hok : Aes.okKey key.length) (hn : text.length = 8 * n + 8) (h2 : 2 ≤ n) (h128 : n ≤ 128) (ha : Wr.b key (text.take 8) (text.drop 8) (6 * n) (6 * n) = Wr.iv) (w0 : World) : Calls Try.prog 4 #[.string (str key), .string (str text)] w0 fun e w' => e = .returned (.bool true) ∧ Below w0.heap.size w0 w' := by
  refine enter (n := 32) Try.func4 rfl rfl rfl ?_
  have hk : Below w0.heap.size w0 w0 := Below.refl _ _
  refine wp_seq ?_
  refine wp_region_lit ?_
  refine w_val (v := .bool false) (y_as (Ev.c (v := .bool false))) ?_
  refine wpList_nil ?_
  refine then_n ?_
  refine wp_seq ?_
  refine wp_region_lit ?_
  refine w_val (v := .string (str key)) (y_mv (Ev.t (v := .string (str key)) rfl rfl)) ?_
  refine w_val (v := .string (str text)) (y_mv (Ev.t (v := .string (str text)) rfl rfl)) ?_
  refine w_call (Try.func14) (by kernel_rfl) rfl (m2 (Ev.t (v := .string (str key)) rfl rfl) (Ev.t (v := .string (str text)) rfl rfl)) (unwrap_y key text n hok hn h2 h128 ha w0) ?_
  rintro _ w1 ⟨rfl, hb2⟩
  refine ⟨_, rfl, ?_⟩
  replace hk := thenB hk hb2
  refine w_val (v := .tuple #[.string (str (Wr.c key (text.take 8) (text.drop 8) (6 * n) (6 * n))), .int .i64 0]) (y_mv (Ev.t (v := .tuple #[.string (str (Wr.c key (text.take 8) (text.drop 8) (6 * n) (6 * n))), .int .i64 0]) rfl rfl)) ?_
  refine w_val (v := .string (str (Wr.c key (text.take 8) (text.drop 8) (6 * n) (6 * n)))) (y_ext (v := .string (str (Wr.c key (text.take 8) (text.drop 8) (6 * n) (6 * n)))) (Ev.t (v := .tuple #[.string (str (Wr.c key (text.take 8) (text.drop 8) (6 * n) (6 * n))), .int .i64 0]) rfl rfl) rfl) ?_
  refine w_val (v := .int .i64 0) (y_ext (v := .int .i64 0) (Ev.t (v := .tuple #[.string (str (Wr.c key (text.take 8) (text.drop 8) (6 * n) (6 * n))), .int .i64 0]) rfl rfl) rfl) ?_
  refine w_val (v := .string (str (Wr.c key (text.take 8) (text.drop 8) (6 * n) (6 * n)))) (y_as (Ev.t (v := .string (str (Wr.c key (text.take 8) (text.drop 8) (6 * n) (6 * n)))) rfl rfl)) ?_
  refine w_val (v := .int .i64 0) (y_as (Ev.t (v := .int .i64 0) rfl rfl)) ?_
  refine wpList_nil ?_
  refine then_n ?_
  refine wp_seq ?_
  refine wp_region_lit ?_
  refine w_val (v := .string (str key)) (y_mv (Ev.t (v := .string (str key)) rfl rfl)) ?_
  refine w_val (v := .string (str text)) (y_mv (Ev.t (v := .string (str text)) rfl rfl)) ?_
  refine w_call (Try.func15) (by kernel_rfl) rfl (m2 (Ev.t (v := .string (str key)) rfl rfl) (Ev.t (v := .string (str text)) rfl rfl)) (refUnwrap_y key text n hok hn h2 h128 ha w1) ?_
  rintro _ w3 ⟨rfl, hb4⟩
  refine ⟨_, rfl, ?_⟩
  replace hk := thenB hk hb4
  refine w_val (v := .tuple #[.string (str (Wr.c key (text.take 8) (text.drop 8) (6 * n) (6 * n))), .int .i64 0]) (y_mv (Ev.t (v := .tuple #[.string (str (Wr.c key (text.take 8) (text.drop 8) (6 * n) (6 * n))), .int .i64 0]) rfl rfl)) ?_
  refine w_val (v := .string (str (Wr.c key (text.take 8) (text.drop 8) (6 * n) (6 * n)))) (y_ext (v := .string (str (Wr.c key (text.take 8) (text.drop 8) (6 * n) (6 * n)))) (Ev.t (v := .tuple #[.string (str (Wr.c key (text.take 8) (text.drop 8) (6 * n) (6 * n))), .int .i64 0]) rfl rfl) rfl) ?_
  refine w_val (v := .int .i64 0) (y_ext (v := .int .i64 0) (Ev.t (v := .tuple #[.string (str (Wr.c key (text.take 8) (text.drop 8) (6 * n) (6 * n))), .int .i64 0]) rfl rfl) rfl) ?_
  refine w_val (v := .string (str (Wr.c key (text.take 8) (text.drop 8) (6 * n) (6 * n)))) (y_as (Ev.t (v := .string (str (Wr.c key (text.take 8) (text.drop 8) (6 * n) (6 * n)))) rfl rfl)) ?_
  refine w_val (v := .int .i64 0) (y_as (Ev.t (v := .int .i64 0) rfl rfl)) ?_
  refine wpList_nil ?_
  refine then_n ?_
  refine wp_seq ?_
  refine wp_region_lit ?_
  refine w_call (Try.func13) (by kernel_rfl) rfl m0 (wakes_c  w3) ?_
  rintro _ w5 ⟨rfl, hb6⟩
  refine ⟨_, rfl, ?_⟩
  replace hk := thenB hk hb6
  refine w_val (v := .bool true) (y_mv (Ev.t (v := .bool true) rfl rfl)) ?_
  refine w_val_g (v := .string (str (Wr.c key (text.take 8) (text.drop 8) (6 * n) (6 * n)))) (want_yes (j := 1) rfl rfl (Ev.t (v := .bool true) rfl rfl) rfl) (y_mv (Ev.t (v := .string (str (Wr.c key (text.take 8) (text.drop 8) (6 * n) (6 * n)))) rfl rfl)) ?_
  refine w_val_g (v := .string (str (Wr.c key (text.take 8) (text.drop 8) (6 * n) (6 * n)))) (want_yes (j := 1) rfl rfl (Ev.t (v := .bool true) rfl rfl) rfl) (y_mv (Ev.t (v := .string (str (Wr.c key (text.take 8) (text.drop 8) (6 * n) (6 * n)))) rfl rfl)) ?_
  refine w_val_g (v := .bool true) (want_yes (j := 1) rfl rfl (Ev.t (v := .bool true) rfl rfl) rfl) (y_bin (Ev.t (v := .string (str (Wr.c key (text.take 8) (text.drop 8) (6 * n) (6 * n)))) rfl rfl) (Ev.t (v := .string (str (Wr.c key (text.take 8) (text.drop 8) (6 * n) (6 * n)))) rfl rfl) b_eqs_same) ?_
  refine w_val (v := .bool true) (y_pick_t (Ev.t (v := .bool true) rfl rfl) (Ev.t (v := .bool true) rfl rfl)) ?_
  refine w_val (v := .bool true) (y_mv (Ev.t (v := .bool true) rfl rfl)) ?_
  refine w_val_g (v := .int .i64 0) (want_yes (j := 6) rfl rfl (Ev.t (v := .bool true) rfl rfl) rfl) (y_mv (Ev.t (v := .int .i64 0) rfl rfl)) ?_
  refine w_val_g (v := .int .i64 0) (want_yes (j := 6) rfl rfl (Ev.t (v := .bool true) rfl rfl) rfl) (y_mv (Ev.t (v := .int .i64 0) rfl rfl)) ?_
  refine w_val_g (v := .bool true) (want_yes (j := 6) rfl rfl (Ev.t (v := .bool true) rfl rfl) rfl) (y_bin (Ev.t (v := .int .i64 0) rfl rfl) (Ev.t (v := .int .i64 0) rfl rfl) b_eql) ?_
  refine w_val (v := .bool true) (y_pick_t (Ev.t (v := .bool true) rfl rfl) (Ev.t (v := .bool true) rfl rfl)) ?_
  refine w_val (v := .bool true) (y_as (Ev.t (v := .bool true) rfl rfl)) ?_
  refine wpList_nil ?_
  refine then_n ?_
  refine wp_ret ?_
  refine fin_ret1 rfl (Ev.t (v := .bool true) rfl rfl) ?_
  exact ⟨rfl, hk⟩

set_option maxRecDepth 100000 in
set_option maxHeartbeats 1000000 in
theorem wrapValues_y (key text : List (BitVec 8)) (n : Nat) (hok : Aes.okKey key.length) (hn : text.length = 8 * n + 8) (h2 : 2 ≤ n) (h128 : n ≤ 128) (ha : Wr.b key (text.take 8) (text.drop 8) (6 * n) (6 * n) = Wr.iv) (w0 : World) : Calls Try.prog 5 #[.string (str key), .string (str text)] w0 fun e w' => e = .returned (.bool true) ∧ Below w0.heap.size w0 w' := by
  refine enter (n := 74) Try.func5 rfl rfl rfl ?_
  have hk : Below w0.heap.size w0 w0 := Below.refl _ _
  refine wp_seq ?_
  refine wp_region_lit ?_
  refine w_val (v := .bool false) (y_as (Ev.c (v := .bool false))) ?_
  refine wpList_nil ?_
  refine then_n ?_
  refine wp_seq ?_
  refine wp_region_lit ?_
  refine w_val (v := .string (str key)) (y_mv (Ev.t (v := .string (str key)) rfl rfl)) ?_
  refine w_val (v := .string (str text)) (y_mv (Ev.t (v := .string (str text)) rfl rfl)) ?_
  refine w_call (Try.func16) (by kernel_rfl) rfl (m2 (Ev.t (v := .string (str key)) rfl rfl) (Ev.t (v := .string (str text)) rfl rfl)) (value_y key text n hok hn h2 h128 w0) ?_
  rintro _ w1 ⟨rfl, hb2⟩
  refine ⟨_, rfl, ?_⟩
  replace hk := thenB hk hb2
  refine w_val (v := .tuple #[.string (str (Wr.b key (text.take 8) (text.drop 8) (6 * n) (6 * n))), .string (str (Wr.c key (text.take 8) (text.drop 8) (6 * n) (6 * n))), .int .i64 0]) (y_mv (Ev.t (v := .tuple #[.string (str (Wr.b key (text.take 8) (text.drop 8) (6 * n) (6 * n))), .string (str (Wr.c key (text.take 8) (text.drop 8) (6 * n) (6 * n))), .int .i64 0]) rfl rfl)) ?_
  refine w_val (v := .string (str (Wr.b key (text.take 8) (text.drop 8) (6 * n) (6 * n)))) (y_ext (v := .string (str (Wr.b key (text.take 8) (text.drop 8) (6 * n) (6 * n)))) (Ev.t (v := .tuple #[.string (str (Wr.b key (text.take 8) (text.drop 8) (6 * n) (6 * n))), .string (str (Wr.c key (text.take 8) (text.drop 8) (6 * n) (6 * n))), .int .i64 0]) rfl rfl) rfl) ?_
  refine w_val (v := .string (str (Wr.c key (text.take 8) (text.drop 8) (6 * n) (6 * n)))) (y_ext (v := .string (str (Wr.c key (text.take 8) (text.drop 8) (6 * n) (6 * n)))) (Ev.t (v := .tuple #[.string (str (Wr.b key (text.take 8) (text.drop 8) (6 * n) (6 * n))), .string (str (Wr.c key (text.take 8) (text.drop 8) (6 * n) (6 * n))), .int .i64 0]) rfl rfl) rfl) ?_
  refine w_val (v := .int .i64 0) (y_ext (v := .int .i64 0) (Ev.t (v := .tuple #[.string (str (Wr.b key (text.take 8) (text.drop 8) (6 * n) (6 * n))), .string (str (Wr.c key (text.take 8) (text.drop 8) (6 * n) (6 * n))), .int .i64 0]) rfl rfl) rfl) ?_
  refine w_val (v := .string (str (Wr.b key (text.take 8) (text.drop 8) (6 * n) (6 * n)))) (y_as (Ev.t (v := .string (str (Wr.b key (text.take 8) (text.drop 8) (6 * n) (6 * n)))) rfl rfl)) ?_
  refine w_val (v := .string (str (Wr.c key (text.take 8) (text.drop 8) (6 * n) (6 * n)))) (y_as (Ev.t (v := .string (str (Wr.c key (text.take 8) (text.drop 8) (6 * n) (6 * n)))) rfl rfl)) ?_
  refine w_val (v := .int .i64 0) (y_as (Ev.t (v := .int .i64 0) rfl rfl)) ?_
  refine wpList_nil ?_
  refine then_n ?_
  refine wp_seq ?_
  refine wp_region_lit ?_
  refine w_val (v := .string (str key)) (y_mv (Ev.t (v := .string (str key)) rfl rfl)) ?_
  refine w_val (v := .string (str text)) (y_mv (Ev.t (v := .string (str text)) rfl rfl)) ?_
  refine w_call (Try.func17) (by kernel_rfl) rfl (m2 (Ev.t (v := .string (str key)) rfl rfl) (Ev.t (v := .string (str text)) rfl rfl)) (refValue_y key text n hok hn h2 h128 w1) ?_
  rintro _ w3 ⟨rfl, hb4⟩
  refine ⟨_, rfl, ?_⟩
  replace hk := thenB hk hb4
  refine w_val (v := .tuple #[.string (str (Wr.b key (text.take 8) (text.drop 8) (6 * n) (6 * n))), .string (str (Wr.c key (text.take 8) (text.drop 8) (6 * n) (6 * n))), .int .i64 0]) (y_mv (Ev.t (v := .tuple #[.string (str (Wr.b key (text.take 8) (text.drop 8) (6 * n) (6 * n))), .string (str (Wr.c key (text.take 8) (text.drop 8) (6 * n) (6 * n))), .int .i64 0]) rfl rfl)) ?_
  refine w_val (v := .string (str (Wr.b key (text.take 8) (text.drop 8) (6 * n) (6 * n)))) (y_ext (v := .string (str (Wr.b key (text.take 8) (text.drop 8) (6 * n) (6 * n)))) (Ev.t (v := .tuple #[.string (str (Wr.b key (text.take 8) (text.drop 8) (6 * n) (6 * n))), .string (str (Wr.c key (text.take 8) (text.drop 8) (6 * n) (6 * n))), .int .i64 0]) rfl rfl) rfl) ?_
  refine w_val (v := .string (str (Wr.c key (text.take 8) (text.drop 8) (6 * n) (6 * n)))) (y_ext (v := .string (str (Wr.c key (text.take 8) (text.drop 8) (6 * n) (6 * n)))) (Ev.t (v := .tuple #[.string (str (Wr.b key (text.take 8) (text.drop 8) (6 * n) (6 * n))), .string (str (Wr.c key (text.take 8) (text.drop 8) (6 * n) (6 * n))), .int .i64 0]) rfl rfl) rfl) ?_
  refine w_val (v := .int .i64 0) (y_ext (v := .int .i64 0) (Ev.t (v := .tuple #[.string (str (Wr.b key (text.take 8) (text.drop 8) (6 * n) (6 * n))), .string (str (Wr.c key (text.take 8) (text.drop 8) (6 * n) (6 * n))), .int .i64 0]) rfl rfl) rfl) ?_
  refine w_val (v := .string (str (Wr.b key (text.take 8) (text.drop 8) (6 * n) (6 * n)))) (y_as (Ev.t (v := .string (str (Wr.b key (text.take 8) (text.drop 8) (6 * n) (6 * n)))) rfl rfl)) ?_
  refine w_val (v := .string (str (Wr.c key (text.take 8) (text.drop 8) (6 * n) (6 * n)))) (y_as (Ev.t (v := .string (str (Wr.c key (text.take 8) (text.drop 8) (6 * n) (6 * n)))) rfl rfl)) ?_
  refine w_val (v := .int .i64 0) (y_as (Ev.t (v := .int .i64 0) rfl rfl)) ?_
  refine wpList_nil ?_
  refine then_n ?_
  refine wp_seq ?_
  refine wp_region_lit ?_
  refine w_val (v := .string (str key)) (y_mv (Ev.t (v := .string (str key)) rfl rfl)) ?_
  refine w_val (v := .string (str text)) (y_mv (Ev.t (v := .string (str text)) rfl rfl)) ?_
  refine w_call (Try.func14) (by kernel_rfl) rfl (m2 (Ev.t (v := .string (str key)) rfl rfl) (Ev.t (v := .string (str text)) rfl rfl)) (unwrap_y key text n hok hn h2 h128 ha w3) ?_
  rintro _ w5 ⟨rfl, hb6⟩
  refine ⟨_, rfl, ?_⟩
  replace hk := thenB hk hb6
  refine w_val (v := .tuple #[.string (str (Wr.c key (text.take 8) (text.drop 8) (6 * n) (6 * n))), .int .i64 0]) (y_mv (Ev.t (v := .tuple #[.string (str (Wr.c key (text.take 8) (text.drop 8) (6 * n) (6 * n))), .int .i64 0]) rfl rfl)) ?_
  refine w_val (v := .string (str (Wr.c key (text.take 8) (text.drop 8) (6 * n) (6 * n)))) (y_ext (v := .string (str (Wr.c key (text.take 8) (text.drop 8) (6 * n) (6 * n)))) (Ev.t (v := .tuple #[.string (str (Wr.c key (text.take 8) (text.drop 8) (6 * n) (6 * n))), .int .i64 0]) rfl rfl) rfl) ?_
  refine w_val (v := .int .i64 0) (y_ext (v := .int .i64 0) (Ev.t (v := .tuple #[.string (str (Wr.c key (text.take 8) (text.drop 8) (6 * n) (6 * n))), .int .i64 0]) rfl rfl) rfl) ?_
  refine w_val (v := .string (str (Wr.c key (text.take 8) (text.drop 8) (6 * n) (6 * n)))) (y_as (Ev.t (v := .string (str (Wr.c key (text.take 8) (text.drop 8) (6 * n) (6 * n)))) rfl rfl)) ?_
  refine w_val (v := .int .i64 0) (y_as (Ev.t (v := .int .i64 0) rfl rfl)) ?_
  refine wpList_nil ?_
  refine then_n ?_
  refine wp_seq ?_
  refine wp_seq ?_
  refine wp_region_lit ?_
  refine w_call (Try.func13) (by kernel_rfl) rfl m0 (wakes_c  w5) ?_
  rintro _ w7 ⟨rfl, hb8⟩
  refine ⟨_, rfl, ?_⟩
  replace hk := thenB hk hb8
  refine w_val (v := .bool false) (y_not (Ev.t (v := .bool true) rfl rfl)) ?_
  refine w_val (v := .bool false) (y_mv (Ev.t (v := .bool false) rfl rfl)) ?_
  refine w_val_g (v := .string (str (Wr.b key (text.take 8) (text.drop 8) (6 * n) (6 * n)))) (want_yes (j := 2) rfl rfl (Ev.t (v := .bool false) rfl rfl) rfl) (y_mv (Ev.t (v := .string (str (Wr.b key (text.take 8) (text.drop 8) (6 * n) (6 * n)))) rfl rfl)) ?_
  refine w_val_g (v := .string (str (Wr.b key (text.take 8) (text.drop 8) (6 * n) (6 * n)))) (want_yes (j := 2) rfl rfl (Ev.t (v := .bool false) rfl rfl) rfl) (y_mv (Ev.t (v := .string (str (Wr.b key (text.take 8) (text.drop 8) (6 * n) (6 * n)))) rfl rfl)) ?_
  refine w_val_g (v := .bool false) (want_yes (j := 2) rfl rfl (Ev.t (v := .bool false) rfl rfl) rfl) (y_bin (Ev.t (v := .string (str (Wr.b key (text.take 8) (text.drop 8) (6 * n) (6 * n)))) rfl rfl) (Ev.t (v := .string (str (Wr.b key (text.take 8) (text.drop 8) (6 * n) (6 * n)))) rfl rfl) b_nes_same) ?_
  refine w_val (v := .bool false) (y_pick_f (Ev.t (v := .bool false) rfl rfl) (Ev.t (v := .bool false) rfl rfl)) ?_
  refine w_val (v := .bool false) (y_mv (Ev.t (v := .bool false) rfl rfl)) ?_
  refine w_val_g (v := .string (str (Wr.c key (text.take 8) (text.drop 8) (6 * n) (6 * n)))) (want_yes (j := 7) rfl rfl (Ev.t (v := .bool false) rfl rfl) rfl) (y_mv (Ev.t (v := .string (str (Wr.c key (text.take 8) (text.drop 8) (6 * n) (6 * n)))) rfl rfl)) ?_
  refine w_val_g (v := .string (str (Wr.c key (text.take 8) (text.drop 8) (6 * n) (6 * n)))) (want_yes (j := 7) rfl rfl (Ev.t (v := .bool false) rfl rfl) rfl) (y_mv (Ev.t (v := .string (str (Wr.c key (text.take 8) (text.drop 8) (6 * n) (6 * n)))) rfl rfl)) ?_
  refine w_val_g (v := .bool false) (want_yes (j := 7) rfl rfl (Ev.t (v := .bool false) rfl rfl) rfl) (y_bin (Ev.t (v := .string (str (Wr.c key (text.take 8) (text.drop 8) (6 * n) (6 * n)))) rfl rfl) (Ev.t (v := .string (str (Wr.c key (text.take 8) (text.drop 8) (6 * n) (6 * n)))) rfl rfl) b_nes_same) ?_
  refine w_val (v := .bool false) (y_pick_f (Ev.t (v := .bool false) rfl rfl) (Ev.t (v := .bool false) rfl rfl)) ?_
  refine w_val (v := .bool false) (y_mv (Ev.t (v := .bool false) rfl rfl)) ?_
  refine w_val_g (v := .int .i64 0) (want_yes (j := 12) rfl rfl (Ev.t (v := .bool false) rfl rfl) rfl) (y_mv (Ev.t (v := .int .i64 0) rfl rfl)) ?_
  refine w_val_g (v := .int .i64 0) (want_yes (j := 12) rfl rfl (Ev.t (v := .bool false) rfl rfl) rfl) (y_mv (Ev.t (v := .int .i64 0) rfl rfl)) ?_
  refine w_val_g (v := .bool false) (want_yes (j := 12) rfl rfl (Ev.t (v := .bool false) rfl rfl) rfl) (y_bin (Ev.t (v := .int .i64 0) rfl rfl) (Ev.t (v := .int .i64 0) rfl rfl) b_neq) ?_
  refine w_val (v := .bool false) (y_pick_f (Ev.t (v := .bool false) rfl rfl) (Ev.t (v := .bool false) rfl rfl)) ?_
  refine wpList_nil ?_
  refine then_n ?_
  refine c_ff (Ev.t (v := .bool false) rfl rfl) ?_
  refine wp_skip ?_
  refine then_n ?_
  refine wp_seq ?_
  refine wp_seq ?_
  refine wp_region_lit ?_
  refine w_val (v := .int .i64 0) (y_mv (Ev.t (v := .int .i64 0) rfl rfl)) ?_
  refine w_val (v := .bool false) (y_bin (Ev.t (v := .int .i64 0) rfl rfl) (Ev.c (v := .int .i64 0)) b_neq) ?_
  refine wpList_nil ?_
  refine then_n ?_
  refine c_ff (Ev.t (v := .bool false) rfl rfl) ?_
  refine wp_skip ?_
  refine then_n ?_
  refine wp_seq ?_
  refine wp_seq ?_
  refine wp_region_lit ?_
  refine w_val (v := .string (str (Wr.b key (text.take 8) (text.drop 8) (6 * n) (6 * n)))) (y_mv (Ev.t (v := .string (str (Wr.b key (text.take 8) (text.drop 8) (6 * n) (6 * n)))) rfl rfl)) ?_
  refine w_val (v := .bool (decide ((Wr.b key (text.take 8) (text.drop 8) (6 * n) (6 * n)) ≠ Wr.iv))) (y_bin (Ev.t (v := .string (str (Wr.b key (text.take 8) (text.drop 8) (6 * n) (6 * n)))) rfl rfl) (Ev.c (v := .string (str Wr.iv))) b_nes) ?_
  refine wpList_nil ?_
  refine then_n ?_
  have hc9 : ¬ ((Wr.b key (text.take 8) (text.drop 8) (6 * n) (6 * n)) ≠ Wr.iv) := by exact fun h => h ha
  refine c_f (p := (Wr.b key (text.take 8) (text.drop 8) (6 * n) (6 * n)) ≠ Wr.iv) (Ev.t (v := .bool (decide ((Wr.b key (text.take 8) (text.drop 8) (6 * n) (6 * n)) ≠ Wr.iv))) rfl rfl) hc9 ?_
  refine wp_skip ?_
  refine then_n ?_
  refine wp_seq ?_
  refine wp_region_lit ?_
  refine w_val (v := .string (str (Wr.c key (text.take 8) (text.drop 8) (6 * n) (6 * n)))) (y_mv (Ev.t (v := .string (str (Wr.c key (text.take 8) (text.drop 8) (6 * n) (6 * n)))) rfl rfl)) ?_
  refine w_val (v := .string (str (Wr.c key (text.take 8) (text.drop 8) (6 * n) (6 * n)))) (y_mv (Ev.t (v := .string (str (Wr.c key (text.take 8) (text.drop 8) (6 * n) (6 * n)))) rfl rfl)) ?_
  refine w_val (v := .bool true) (y_bin (Ev.t (v := .string (str (Wr.c key (text.take 8) (text.drop 8) (6 * n) (6 * n)))) rfl rfl) (Ev.t (v := .string (str (Wr.c key (text.take 8) (text.drop 8) (6 * n) (6 * n)))) rfl rfl) b_eqs_same) ?_
  refine w_val (v := .bool true) (y_mv (Ev.t (v := .bool true) rfl rfl)) ?_
  refine w_val_g (v := .int .i64 0) (want_yes (j := 3) rfl rfl (Ev.t (v := .bool true) rfl rfl) rfl) (y_mv (Ev.t (v := .int .i64 0) rfl rfl)) ?_
  refine w_val_g (v := .bool true) (want_yes (j := 3) rfl rfl (Ev.t (v := .bool true) rfl rfl) rfl) (y_bin (Ev.t (v := .int .i64 0) rfl rfl) (Ev.c (v := .int .i64 0)) b_eql) ?_
  refine w_val (v := .bool true) (y_pick_t (Ev.t (v := .bool true) rfl rfl) (Ev.t (v := .bool true) rfl rfl)) ?_
  refine w_val (v := .bool true) (y_as (Ev.t (v := .bool true) rfl rfl)) ?_
  refine wpList_nil ?_
  refine then_n ?_
  refine wp_ret ?_
  refine fin_ret1 rfl (Ev.t (v := .bool true) rfl rfl) ?_
  exact ⟨rfl, hk⟩

set_option maxRecDepth 100000 in
set_option maxHeartbeats 1000000 in
theorem wrapUnwraps_n (key text : List (BitVec 8)) (n : Nat) (hok : Aes.okKey key.length) (hn : text.length = 8 * n + 8) (h2 : 2 ≤ n) (h128 : n ≤ 128) (ha : ¬ Wr.b key (text.take 8) (text.drop 8) (6 * n) (6 * n) = Wr.iv) (w0 : World) : Calls Try.prog 4 #[.string (str key), .string (str text)] w0 fun e w' => e = .returned (.bool true) ∧ Below w0.heap.size w0 w' := by
  refine enter (n := 32) Try.func4 rfl rfl rfl ?_
  have hk : Below w0.heap.size w0 w0 := Below.refl _ _
  refine wp_seq ?_
  refine wp_region_lit ?_
  refine w_val (v := .bool false) (y_as (Ev.c (v := .bool false))) ?_
  refine wpList_nil ?_
  refine then_n ?_
  refine wp_seq ?_
  refine wp_region_lit ?_
  refine w_val (v := .string (str key)) (y_mv (Ev.t (v := .string (str key)) rfl rfl)) ?_
  refine w_val (v := .string (str text)) (y_mv (Ev.t (v := .string (str text)) rfl rfl)) ?_
  refine w_call (Try.func14) (by kernel_rfl) rfl (m2 (Ev.t (v := .string (str key)) rfl rfl) (Ev.t (v := .string (str text)) rfl rfl)) (unwrap_n key text n hok hn h2 h128 ha w0) ?_
  rintro _ w1 ⟨rfl, hb2⟩
  refine ⟨_, rfl, ?_⟩
  replace hk := thenB hk hb2
  refine w_val (v := .tuple #[.string (str ([] : List (BitVec 8))), .int .i64 8]) (y_mv (Ev.t (v := .tuple #[.string (str ([] : List (BitVec 8))), .int .i64 8]) rfl rfl)) ?_
  refine w_val (v := .string (str ([] : List (BitVec 8)))) (y_ext (v := .string (str ([] : List (BitVec 8)))) (Ev.t (v := .tuple #[.string (str ([] : List (BitVec 8))), .int .i64 8]) rfl rfl) rfl) ?_
  refine w_val (v := .int .i64 8) (y_ext (v := .int .i64 8) (Ev.t (v := .tuple #[.string (str ([] : List (BitVec 8))), .int .i64 8]) rfl rfl) rfl) ?_
  refine w_val (v := .string (str ([] : List (BitVec 8)))) (y_as (Ev.t (v := .string (str ([] : List (BitVec 8)))) rfl rfl)) ?_
  refine w_val (v := .int .i64 8) (y_as (Ev.t (v := .int .i64 8) rfl rfl)) ?_
  refine wpList_nil ?_
  refine then_n ?_
  refine wp_seq ?_
  refine wp_region_lit ?_
  refine w_val (v := .string (str key)) (y_mv (Ev.t (v := .string (str key)) rfl rfl)) ?_
  refine w_val (v := .string (str text)) (y_mv (Ev.t (v := .string (str text)) rfl rfl)) ?_
  refine w_call (Try.func15) (by kernel_rfl) rfl (m2 (Ev.t (v := .string (str key)) rfl rfl) (Ev.t (v := .string (str text)) rfl rfl)) (refUnwrap_n key text n hok hn h2 h128 ha w1) ?_
  rintro _ w3 ⟨rfl, hb4⟩
  refine ⟨_, rfl, ?_⟩
  replace hk := thenB hk hb4
  refine w_val (v := .tuple #[.string (str ([] : List (BitVec 8))), .int .i64 8]) (y_mv (Ev.t (v := .tuple #[.string (str ([] : List (BitVec 8))), .int .i64 8]) rfl rfl)) ?_
  refine w_val (v := .string (str ([] : List (BitVec 8)))) (y_ext (v := .string (str ([] : List (BitVec 8)))) (Ev.t (v := .tuple #[.string (str ([] : List (BitVec 8))), .int .i64 8]) rfl rfl) rfl) ?_
  refine w_val (v := .int .i64 8) (y_ext (v := .int .i64 8) (Ev.t (v := .tuple #[.string (str ([] : List (BitVec 8))), .int .i64 8]) rfl rfl) rfl) ?_
  refine w_val (v := .string (str ([] : List (BitVec 8)))) (y_as (Ev.t (v := .string (str ([] : List (BitVec 8)))) rfl rfl)) ?_
  refine w_val (v := .int .i64 8) (y_as (Ev.t (v := .int .i64 8) rfl rfl)) ?_
  refine wpList_nil ?_
  refine then_n ?_
  refine wp_seq ?_
  refine wp_region_lit ?_
  refine w_call (Try.func13) (by kernel_rfl) rfl m0 (wakes_c  w3) ?_
  rintro _ w5 ⟨rfl, hb6⟩
  refine ⟨_, rfl, ?_⟩
  replace hk := thenB hk hb6
  refine w_val (v := .bool true) (y_mv (Ev.t (v := .bool true) rfl rfl)) ?_
  refine w_val_g (v := .string (str ([] : List (BitVec 8)))) (want_yes (j := 1) rfl rfl (Ev.t (v := .bool true) rfl rfl) rfl) (y_mv (Ev.t (v := .string (str ([] : List (BitVec 8)))) rfl rfl)) ?_
  refine w_val_g (v := .string (str ([] : List (BitVec 8)))) (want_yes (j := 1) rfl rfl (Ev.t (v := .bool true) rfl rfl) rfl) (y_mv (Ev.t (v := .string (str ([] : List (BitVec 8)))) rfl rfl)) ?_
  refine w_val_g (v := .bool true) (want_yes (j := 1) rfl rfl (Ev.t (v := .bool true) rfl rfl) rfl) (y_bin (Ev.t (v := .string (str ([] : List (BitVec 8)))) rfl rfl) (Ev.t (v := .string (str ([] : List (BitVec 8)))) rfl rfl) b_eqs_same) ?_
  refine w_val (v := .bool true) (y_pick_t (Ev.t (v := .bool true) rfl rfl) (Ev.t (v := .bool true) rfl rfl)) ?_
  refine w_val (v := .bool true) (y_mv (Ev.t (v := .bool true) rfl rfl)) ?_
  refine w_val_g (v := .int .i64 8) (want_yes (j := 6) rfl rfl (Ev.t (v := .bool true) rfl rfl) rfl) (y_mv (Ev.t (v := .int .i64 8) rfl rfl)) ?_
  refine w_val_g (v := .int .i64 8) (want_yes (j := 6) rfl rfl (Ev.t (v := .bool true) rfl rfl) rfl) (y_mv (Ev.t (v := .int .i64 8) rfl rfl)) ?_
  refine w_val_g (v := .bool true) (want_yes (j := 6) rfl rfl (Ev.t (v := .bool true) rfl rfl) rfl) (y_bin (Ev.t (v := .int .i64 8) rfl rfl) (Ev.t (v := .int .i64 8) rfl rfl) b_eql) ?_
  refine w_val (v := .bool true) (y_pick_t (Ev.t (v := .bool true) rfl rfl) (Ev.t (v := .bool true) rfl rfl)) ?_
  refine w_val (v := .bool true) (y_as (Ev.t (v := .bool true) rfl rfl)) ?_
  refine wpList_nil ?_
  refine then_n ?_
  refine wp_ret ?_
  refine fin_ret1 rfl (Ev.t (v := .bool true) rfl rfl) ?_
  exact ⟨rfl, hk⟩

set_option maxRecDepth 100000 in
set_option maxHeartbeats 1000000 in
theorem wrapValues_n (key text : List (BitVec 8)) (n : Nat) (hok : Aes.okKey key.length) (hn : text.length = 8 * n + 8) (h2 : 2 ≤ n) (h128 : n ≤ 128) (ha : ¬ Wr.b key (text.take 8) (text.drop 8) (6 * n) (6 * n) = Wr.iv) (w0 : World) : Calls Try.prog 5 #[.string (str key), .string (str text)] w0 fun e w' => e = .returned (.bool true) ∧ Below w0.heap.size w0 w' := by
  refine enter (n := 74) Try.func5 rfl rfl rfl ?_
  have hk : Below w0.heap.size w0 w0 := Below.refl _ _
  refine wp_seq ?_
  refine wp_region_lit ?_
  refine w_val (v := .bool false) (y_as (Ev.c (v := .bool false))) ?_
  refine wpList_nil ?_
  refine then_n ?_
  refine wp_seq ?_
  refine wp_region_lit ?_
  refine w_val (v := .string (str key)) (y_mv (Ev.t (v := .string (str key)) rfl rfl)) ?_
  refine w_val (v := .string (str text)) (y_mv (Ev.t (v := .string (str text)) rfl rfl)) ?_
  refine w_call (Try.func16) (by kernel_rfl) rfl (m2 (Ev.t (v := .string (str key)) rfl rfl) (Ev.t (v := .string (str text)) rfl rfl)) (value_y key text n hok hn h2 h128 w0) ?_
  rintro _ w1 ⟨rfl, hb2⟩
  refine ⟨_, rfl, ?_⟩
  replace hk := thenB hk hb2
  refine w_val (v := .tuple #[.string (str (Wr.b key (text.take 8) (text.drop 8) (6 * n) (6 * n))), .string (str (Wr.c key (text.take 8) (text.drop 8) (6 * n) (6 * n))), .int .i64 0]) (y_mv (Ev.t (v := .tuple #[.string (str (Wr.b key (text.take 8) (text.drop 8) (6 * n) (6 * n))), .string (str (Wr.c key (text.take 8) (text.drop 8) (6 * n) (6 * n))), .int .i64 0]) rfl rfl)) ?_
  refine w_val (v := .string (str (Wr.b key (text.take 8) (text.drop 8) (6 * n) (6 * n)))) (y_ext (v := .string (str (Wr.b key (text.take 8) (text.drop 8) (6 * n) (6 * n)))) (Ev.t (v := .tuple #[.string (str (Wr.b key (text.take 8) (text.drop 8) (6 * n) (6 * n))), .string (str (Wr.c key (text.take 8) (text.drop 8) (6 * n) (6 * n))), .int .i64 0]) rfl rfl) rfl) ?_
  refine w_val (v := .string (str (Wr.c key (text.take 8) (text.drop 8) (6 * n) (6 * n)))) (y_ext (v := .string (str (Wr.c key (text.take 8) (text.drop 8) (6 * n) (6 * n)))) (Ev.t (v := .tuple #[.string (str (Wr.b key (text.take 8) (text.drop 8) (6 * n) (6 * n))), .string (str (Wr.c key (text.take 8) (text.drop 8) (6 * n) (6 * n))), .int .i64 0]) rfl rfl) rfl) ?_
  refine w_val (v := .int .i64 0) (y_ext (v := .int .i64 0) (Ev.t (v := .tuple #[.string (str (Wr.b key (text.take 8) (text.drop 8) (6 * n) (6 * n))), .string (str (Wr.c key (text.take 8) (text.drop 8) (6 * n) (6 * n))), .int .i64 0]) rfl rfl) rfl) ?_
  refine w_val (v := .string (str (Wr.b key (text.take 8) (text.drop 8) (6 * n) (6 * n)))) (y_as (Ev.t (v := .string (str (Wr.b key (text.take 8) (text.drop 8) (6 * n) (6 * n)))) rfl rfl)) ?_
  refine w_val (v := .string (str (Wr.c key (text.take 8) (text.drop 8) (6 * n) (6 * n)))) (y_as (Ev.t (v := .string (str (Wr.c key (text.take 8) (text.drop 8) (6 * n) (6 * n)))) rfl rfl)) ?_
  refine w_val (v := .int .i64 0) (y_as (Ev.t (v := .int .i64 0) rfl rfl)) ?_
  refine wpList_nil ?_
  refine then_n ?_
  refine wp_seq ?_
  refine wp_region_lit ?_
  refine w_val (v := .string (str key)) (y_mv (Ev.t (v := .string (str key)) rfl rfl)) ?_
  refine w_val (v := .string (str text)) (y_mv (Ev.t (v := .string (str text)) rfl rfl)) ?_
  refine w_call (Try.func17) (by kernel_rfl) rfl (m2 (Ev.t (v := .string (str key)) rfl rfl) (Ev.t (v := .string (str text)) rfl rfl)) (refValue_y key text n hok hn h2 h128 w1) ?_
  rintro _ w3 ⟨rfl, hb4⟩
  refine ⟨_, rfl, ?_⟩
  replace hk := thenB hk hb4
  refine w_val (v := .tuple #[.string (str (Wr.b key (text.take 8) (text.drop 8) (6 * n) (6 * n))), .string (str (Wr.c key (text.take 8) (text.drop 8) (6 * n) (6 * n))), .int .i64 0]) (y_mv (Ev.t (v := .tuple #[.string (str (Wr.b key (text.take 8) (text.drop 8) (6 * n) (6 * n))), .string (str (Wr.c key (text.take 8) (text.drop 8) (6 * n) (6 * n))), .int .i64 0]) rfl rfl)) ?_
  refine w_val (v := .string (str (Wr.b key (text.take 8) (text.drop 8) (6 * n) (6 * n)))) (y_ext (v := .string (str (Wr.b key (text.take 8) (text.drop 8) (6 * n) (6 * n)))) (Ev.t (v := .tuple #[.string (str (Wr.b key (text.take 8) (text.drop 8) (6 * n) (6 * n))), .string (str (Wr.c key (text.take 8) (text.drop 8) (6 * n) (6 * n))), .int .i64 0]) rfl rfl) rfl) ?_
  refine w_val (v := .string (str (Wr.c key (text.take 8) (text.drop 8) (6 * n) (6 * n)))) (y_ext (v := .string (str (Wr.c key (text.take 8) (text.drop 8) (6 * n) (6 * n)))) (Ev.t (v := .tuple #[.string (str (Wr.b key (text.take 8) (text.drop 8) (6 * n) (6 * n))), .string (str (Wr.c key (text.take 8) (text.drop 8) (6 * n) (6 * n))), .int .i64 0]) rfl rfl) rfl) ?_
  refine w_val (v := .int .i64 0) (y_ext (v := .int .i64 0) (Ev.t (v := .tuple #[.string (str (Wr.b key (text.take 8) (text.drop 8) (6 * n) (6 * n))), .string (str (Wr.c key (text.take 8) (text.drop 8) (6 * n) (6 * n))), .int .i64 0]) rfl rfl) rfl) ?_
  refine w_val (v := .string (str (Wr.b key (text.take 8) (text.drop 8) (6 * n) (6 * n)))) (y_as (Ev.t (v := .string (str (Wr.b key (text.take 8) (text.drop 8) (6 * n) (6 * n)))) rfl rfl)) ?_
  refine w_val (v := .string (str (Wr.c key (text.take 8) (text.drop 8) (6 * n) (6 * n)))) (y_as (Ev.t (v := .string (str (Wr.c key (text.take 8) (text.drop 8) (6 * n) (6 * n)))) rfl rfl)) ?_
  refine w_val (v := .int .i64 0) (y_as (Ev.t (v := .int .i64 0) rfl rfl)) ?_
  refine wpList_nil ?_
  refine then_n ?_
  refine wp_seq ?_
  refine wp_region_lit ?_
  refine w_val (v := .string (str key)) (y_mv (Ev.t (v := .string (str key)) rfl rfl)) ?_
  refine w_val (v := .string (str text)) (y_mv (Ev.t (v := .string (str text)) rfl rfl)) ?_
  refine w_call (Try.func14) (by kernel_rfl) rfl (m2 (Ev.t (v := .string (str key)) rfl rfl) (Ev.t (v := .string (str text)) rfl rfl)) (unwrap_n key text n hok hn h2 h128 ha w3) ?_
  rintro _ w5 ⟨rfl, hb6⟩
  refine ⟨_, rfl, ?_⟩
  replace hk := thenB hk hb6
  refine w_val (v := .tuple #[.string (str ([] : List (BitVec 8))), .int .i64 8]) (y_mv (Ev.t (v := .tuple #[.string (str ([] : List (BitVec 8))), .int .i64 8]) rfl rfl)) ?_
  refine w_val (v := .string (str ([] : List (BitVec 8)))) (y_ext (v := .string (str ([] : List (BitVec 8)))) (Ev.t (v := .tuple #[.string (str ([] : List (BitVec 8))), .int .i64 8]) rfl rfl) rfl) ?_
  refine w_val (v := .int .i64 8) (y_ext (v := .int .i64 8) (Ev.t (v := .tuple #[.string (str ([] : List (BitVec 8))), .int .i64 8]) rfl rfl) rfl) ?_
  refine w_val (v := .string (str ([] : List (BitVec 8)))) (y_as (Ev.t (v := .string (str ([] : List (BitVec 8)))) rfl rfl)) ?_
  refine w_val (v := .int .i64 8) (y_as (Ev.t (v := .int .i64 8) rfl rfl)) ?_
  refine wpList_nil ?_
  refine then_n ?_
  refine wp_seq ?_
  refine wp_seq ?_
  refine wp_region_lit ?_
  refine w_call (Try.func13) (by kernel_rfl) rfl m0 (wakes_c  w5) ?_
  rintro _ w7 ⟨rfl, hb8⟩
  refine ⟨_, rfl, ?_⟩
  replace hk := thenB hk hb8
  refine w_val (v := .bool false) (y_not (Ev.t (v := .bool true) rfl rfl)) ?_
  refine w_val (v := .bool false) (y_mv (Ev.t (v := .bool false) rfl rfl)) ?_
  refine w_val_g (v := .string (str (Wr.b key (text.take 8) (text.drop 8) (6 * n) (6 * n)))) (want_yes (j := 2) rfl rfl (Ev.t (v := .bool false) rfl rfl) rfl) (y_mv (Ev.t (v := .string (str (Wr.b key (text.take 8) (text.drop 8) (6 * n) (6 * n)))) rfl rfl)) ?_
  refine w_val_g (v := .string (str (Wr.b key (text.take 8) (text.drop 8) (6 * n) (6 * n)))) (want_yes (j := 2) rfl rfl (Ev.t (v := .bool false) rfl rfl) rfl) (y_mv (Ev.t (v := .string (str (Wr.b key (text.take 8) (text.drop 8) (6 * n) (6 * n)))) rfl rfl)) ?_
  refine w_val_g (v := .bool false) (want_yes (j := 2) rfl rfl (Ev.t (v := .bool false) rfl rfl) rfl) (y_bin (Ev.t (v := .string (str (Wr.b key (text.take 8) (text.drop 8) (6 * n) (6 * n)))) rfl rfl) (Ev.t (v := .string (str (Wr.b key (text.take 8) (text.drop 8) (6 * n) (6 * n)))) rfl rfl) b_nes_same) ?_
  refine w_val (v := .bool false) (y_pick_f (Ev.t (v := .bool false) rfl rfl) (Ev.t (v := .bool false) rfl rfl)) ?_
  refine w_val (v := .bool false) (y_mv (Ev.t (v := .bool false) rfl rfl)) ?_
  refine w_val_g (v := .string (str (Wr.c key (text.take 8) (text.drop 8) (6 * n) (6 * n)))) (want_yes (j := 7) rfl rfl (Ev.t (v := .bool false) rfl rfl) rfl) (y_mv (Ev.t (v := .string (str (Wr.c key (text.take 8) (text.drop 8) (6 * n) (6 * n)))) rfl rfl)) ?_
  refine w_val_g (v := .string (str (Wr.c key (text.take 8) (text.drop 8) (6 * n) (6 * n)))) (want_yes (j := 7) rfl rfl (Ev.t (v := .bool false) rfl rfl) rfl) (y_mv (Ev.t (v := .string (str (Wr.c key (text.take 8) (text.drop 8) (6 * n) (6 * n)))) rfl rfl)) ?_
  refine w_val_g (v := .bool false) (want_yes (j := 7) rfl rfl (Ev.t (v := .bool false) rfl rfl) rfl) (y_bin (Ev.t (v := .string (str (Wr.c key (text.take 8) (text.drop 8) (6 * n) (6 * n)))) rfl rfl) (Ev.t (v := .string (str (Wr.c key (text.take 8) (text.drop 8) (6 * n) (6 * n)))) rfl rfl) b_nes_same) ?_
  refine w_val (v := .bool false) (y_pick_f (Ev.t (v := .bool false) rfl rfl) (Ev.t (v := .bool false) rfl rfl)) ?_
  refine w_val (v := .bool false) (y_mv (Ev.t (v := .bool false) rfl rfl)) ?_
  refine w_val_g (v := .int .i64 0) (want_yes (j := 12) rfl rfl (Ev.t (v := .bool false) rfl rfl) rfl) (y_mv (Ev.t (v := .int .i64 0) rfl rfl)) ?_
  refine w_val_g (v := .int .i64 0) (want_yes (j := 12) rfl rfl (Ev.t (v := .bool false) rfl rfl) rfl) (y_mv (Ev.t (v := .int .i64 0) rfl rfl)) ?_
  refine w_val_g (v := .bool false) (want_yes (j := 12) rfl rfl (Ev.t (v := .bool false) rfl rfl) rfl) (y_bin (Ev.t (v := .int .i64 0) rfl rfl) (Ev.t (v := .int .i64 0) rfl rfl) b_neq) ?_
  refine w_val (v := .bool false) (y_pick_f (Ev.t (v := .bool false) rfl rfl) (Ev.t (v := .bool false) rfl rfl)) ?_
  refine wpList_nil ?_
  refine then_n ?_
  refine c_ff (Ev.t (v := .bool false) rfl rfl) ?_
  refine wp_skip ?_
  refine then_n ?_
  refine wp_seq ?_
  refine wp_seq ?_
  refine wp_region_lit ?_
  refine w_val (v := .int .i64 0) (y_mv (Ev.t (v := .int .i64 0) rfl rfl)) ?_
  refine w_val (v := .bool false) (y_bin (Ev.t (v := .int .i64 0) rfl rfl) (Ev.c (v := .int .i64 0)) b_neq) ?_
  refine wpList_nil ?_
  refine then_n ?_
  refine c_ff (Ev.t (v := .bool false) rfl rfl) ?_
  refine wp_skip ?_
  refine then_n ?_
  refine wp_seq ?_
  refine wp_seq ?_
  refine wp_region_lit ?_
  refine w_val (v := .string (str (Wr.b key (text.take 8) (text.drop 8) (6 * n) (6 * n)))) (y_mv (Ev.t (v := .string (str (Wr.b key (text.take 8) (text.drop 8) (6 * n) (6 * n)))) rfl rfl)) ?_
  refine w_val (v := .bool (decide ((Wr.b key (text.take 8) (text.drop 8) (6 * n) (6 * n)) ≠ Wr.iv))) (y_bin (Ev.t (v := .string (str (Wr.b key (text.take 8) (text.drop 8) (6 * n) (6 * n)))) rfl rfl) (Ev.c (v := .string (str Wr.iv))) b_nes) ?_
  refine wpList_nil ?_
  refine then_n ?_
  have hc9 : (Wr.b key (text.take 8) (text.drop 8) (6 * n) (6 * n)) ≠ Wr.iv := by exact ha
  refine c_t (p := (Wr.b key (text.take 8) (text.drop 8) (6 * n) (6 * n)) ≠ Wr.iv) (Ev.t (v := .bool (decide ((Wr.b key (text.take 8) (text.drop 8) (6 * n) (6 * n)) ≠ Wr.iv))) rfl rfl) hc9 ?_
  refine wp_seq ?_
  refine wp_region_lit ?_
  refine w_val (v := .string (str ([] : List (BitVec 8)))) (y_mv (Ev.t (v := .string (str ([] : List (BitVec 8)))) rfl rfl)) ?_
  refine w_val (v := .bool true) (y_bin (Ev.t (v := .string (str ([] : List (BitVec 8)))) rfl rfl) (Ev.c (v := .string (str ([] : List (BitVec 8))))) b_eqs_same) ?_
  refine w_val (v := .bool true) (y_mv (Ev.t (v := .bool true) rfl rfl)) ?_
  refine w_val_g (v := .int .i64 8) (want_yes (j := 2) rfl rfl (Ev.t (v := .bool true) rfl rfl) rfl) (y_mv (Ev.t (v := .int .i64 8) rfl rfl)) ?_
  refine w_val_g (v := .bool true) (want_yes (j := 2) rfl rfl (Ev.t (v := .bool true) rfl rfl) rfl) (y_bin (Ev.t (v := .int .i64 8) rfl rfl) (Ev.c (v := .int .i64 8)) b_eql) ?_
  refine w_val (v := .bool true) (y_pick_t (Ev.t (v := .bool true) rfl rfl) (Ev.t (v := .bool true) rfl rfl)) ?_
  refine w_val (v := .bool true) (y_as (Ev.t (v := .bool true) rfl rfl)) ?_
  refine wpList_nil ?_
  refine then_n ?_
  refine wp_ret ?_
  refine then_r ?_
  refine fin_ret1 rfl (Ev.t (v := .bool true) rfl rfl) ?_
  exact ⟨rfl, hk⟩

theorem walk_WrapWraps (key : List (BitVec 8)) (hkey : key.length ≤ 140737488351232) (text : List (BitVec 8)) (ht : text.length ≤ 140737488351232) (w : World) : Calls Try.prog 3 #[.string (str key), .string (str text)] w fun e w' => e = .returned (.bool true) ∧ Below w.heap.size w w' := by
  by_cases hk : Aes.okKey key.length
  · by_cases hs : (text.length % 8 = 0 ∧ 16 ≤ text.length ∧ text.length ≤ 1024)
    · exact wrapWraps_y key text (text.length / 8) hk (by omega) (by omega) (by omega) w
    · exact wrapWraps_s key text hk hs w
  · exact wrapWraps_k key text hk w

theorem walk_WrapUnwraps (key : List (BitVec 8)) (hkey : key.length ≤ 140737488351232) (text : List (BitVec 8)) (ht : text.length ≤ 140737488351232) (w : World) : Calls Try.prog 4 #[.string (str key), .string (str text)] w fun e w' => e = .returned (.bool true) ∧ Below w.heap.size w w' := by
  by_cases hk : Aes.okKey key.length
  · by_cases hs : (text.length % 8 = 0 ∧ 24 ≤ text.length ∧ text.length ≤ 1032)
    · by_cases ha : Wr.b key (text.take 8) (text.drop 8) (6 * (text.length / 8 - 1)) (6 * (text.length / 8 - 1)) = Wr.iv
      · exact wrapUnwraps_y key text (text.length / 8 - 1) hk (by omega) (by omega) (by omega) ha w
      · exact wrapUnwraps_n key text (text.length / 8 - 1) hk (by omega) (by omega) (by omega) ha w
    · exact wrapUnwraps_s key text hk hs w
  · exact wrapUnwraps_k key text hk w

theorem walk_WrapValues (key : List (BitVec 8)) (hkey : key.length ≤ 140737488351232) (text : List (BitVec 8)) (ht : text.length ≤ 140737488351232) (w : World) : Calls Try.prog 5 #[.string (str key), .string (str text)] w fun e w' => e = .returned (.bool true) ∧ Below w.heap.size w w' := by
  by_cases hk : Aes.okKey key.length
  · by_cases hs : (text.length % 8 = 0 ∧ 24 ≤ text.length ∧ text.length ≤ 1032)
    · by_cases ha : Wr.b key (text.take 8) (text.drop 8) (6 * (text.length / 8 - 1)) (6 * (text.length / 8 - 1)) = Wr.iv
      · exact wrapValues_y key text (text.length / 8 - 1) hk (by omega) (by omega) (by omega) ha w
      · exact wrapValues_n key text (text.length / 8 - 1) hk (by omega) (by omega) (by omega) ha w
    · exact wrapValues_s key text hk hs w
  · exact wrapValues_k key text hk w
end Go.Proofs.Ythmcoaadigaddaa
