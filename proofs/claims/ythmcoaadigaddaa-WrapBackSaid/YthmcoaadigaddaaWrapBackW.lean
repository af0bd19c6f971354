/-
  The law WrapBack answers true. No conditions.
-/
import Derived.Test.YthmcoaadigaddaaRows
import Derived.Test.YthmcoaadigaddaaWrapLaws
import Derived.ProofKit
namespace Go.Proofs.Ythmcoaadigaddaa
open Go.RowKit
set_option linter.unusedSimpArgs false
set_option linter.unusedVariables false
namespace WrapBackWT
theorem mixed : Try.prog.follows .mixedOrders = true := by kernel_rfl
end WrapBackWT
set_option maxRecDepth 100000 in
set_option maxHeartbeats 1000000 in
theorem wrapBack_k (key text : List (BitVec 8)) (hok : ¬ Aes.okKey key.length) (w0 : World) : Calls Try.prog 6 #[.string (str key), .string (str text)] w0 fun e w' => e = .returned (.bool true) ∧ Below w0.heap.size w0 w' := by
  refine enter (n := 51) Try.func6 rfl rfl rfl ?_
  have hk : Below w0.heap.size w0 w0 := Below.refl _ _
  refine wp_seq ?_
  refine wp_region_lit ?_
  refine w_val (v := .bool false) (y_as (Ev.c (v := .bool false))) ?_
  refine wpList_nil ?_
  refine then_n ?_
  refine wp_seq ?_
  refine wp_region_lit ?_
  refine w_val (v := .string (str key)) (y_mv (Ev.t (v := .string (str key)) rfl rfl)) ?_
  refine w_val (v := .string (str text)) (y_mv (Ev.t (v := .string (str text)) rfl rfl)) ?_
  refine w_call (Try.func11) (by kernel_rfl) rfl (m2 (Ev.t (v := .string (str key)) rfl rfl) (Ev.t (v := .string (str text)) rfl rfl)) (wrap_k key text hok w0) ?_
  rintro _ w1 ⟨rfl, hb2⟩
  refine ⟨_, rfl, ?_⟩
  replace hk := thenB hk hb2
  refine w_val (v := .tuple #[.string (str ([] : List (BitVec 8))), .int .i64 3]) (y_mv (Ev.t (v := .tuple #[.string (str ([] : List (BitVec 8))), .int .i64 3]) rfl rfl)) ?_
  refine w_val (v := .string (str ([] : List (BitVec 8)))) (y_ext (v := .string (str ([] : List (BitVec 8)))) (Ev.t (v := .tuple #[.string (str ([] : List (BitVec 8))), .int .i64 3]) rfl rfl) rfl) ?_
  refine w_val (v := .int .i64 3) (y_ext (v := .int .i64 3) (Ev.t (v := .tuple #[.string (str ([] : List (BitVec 8))), .int .i64 3]) rfl rfl) rfl) ?_
  refine w_val (v := .string (str ([] : List (BitVec 8)))) (y_as (Ev.t (v := .string (str ([] : List (BitVec 8)))) rfl rfl)) ?_
  refine w_val (v := .int .i64 3) (y_as (Ev.t (v := .int .i64 3) rfl rfl)) ?_
  refine wpList_nil ?_
  refine then_n ?_
  refine wp_seq ?_
  refine wp_region_lit ?_
  refine w_val (v := .string (str key)) (y_mv (Ev.t (v := .string (str key)) rfl rfl)) ?_
  refine w_val (v := .string (str ([] : List (BitVec 8)))) (y_mv (Ev.t (v := .string (str ([] : List (BitVec 8)))) rfl rfl)) ?_
  refine w_call (Try.func14) (by kernel_rfl) rfl (m2 (Ev.t (v := .string (str key)) rfl rfl) (Ev.t (v := .string (str ([] : List (BitVec 8)))) rfl rfl)) (unwrap_k key [] hok w1) ?_
  rintro _ w3 ⟨rfl, hb4⟩
  refine ⟨_, rfl, ?_⟩
  replace hk := thenB hk hb4
  refine w_val (v := .tuple #[.string (str ([] : List (BitVec 8))), .int .i64 3]) (y_mv (Ev.t (v := .tuple #[.string (str ([] : List (BitVec 8))), .int .i64 3]) rfl rfl)) ?_
  refine w_val (v := .string (str ([] : List (BitVec 8)))) (y_ext (v := .string (str ([] : List (BitVec 8)))) (Ev.t (v := .tuple #[.string (str ([] : List (BitVec 8))), .int .i64 3]) rfl rfl) rfl) ?_
  refine w_val (v := .int .i64 3) (y_ext (v := .int .i64 3) (Ev.t (v := .tuple #[.string (str ([] : List (BitVec 8))), .int .i64 3]) rfl rfl) rfl) ?_
  refine w_val (v := .string (str ([] : List (BitVec 8)))) (y_as (Ev.t (v := .string (str ([] : List (BitVec 8)))) rfl rfl)) ?_
  refine w_val (v := .int .i64 3) (y_as (Ev.t (v := .int .i64 3) rfl rfl)) ?_
  refine wpList_nil ?_
  refine then_n ?_
  refine wp_seq ?_
  refine wp_region_lit ?_
  refine w_call (Try.func13) (by kernel_rfl) rfl m0 (wakes_c  w3) ?_
  rintro _ w5 ⟨rfl, hb6⟩
  refine ⟨_, rfl, ?_⟩
  replace hk := thenB hk hb6
  refine w_val (v := .bool true) (y_mv (Ev.t (v := .bool true) rfl rfl)) ?_
  refine w_val_g (v := .int .i64 3) (want_yes (j := 1) rfl rfl (Ev.t (v := .bool true) rfl rfl) rfl) (y_mv (Ev.t (v := .int .i64 3) rfl rfl)) ?_
  refine w_val_g (v := .bool true) (want_yes (j := 1) rfl rfl (Ev.t (v := .bool true) rfl rfl) rfl) (y_bin (Ev.t (v := .int .i64 3) rfl rfl) (Ev.c (v := .int .i64 0)) b_neq) ?_
  refine w_val_g (v := .bool true) (want_yes (j := 1) rfl rfl (Ev.t (v := .bool true) rfl rfl) rfl) (y_mv (Ev.t (v := .bool true) rfl rfl)) ?_
  refine w_val_g (v := .string (str ([] : List (BitVec 8)))) (want_yes (j := 4) rfl rfl (Ev.t (v := .bool true) rfl rfl) rfl) (y_mv (Ev.t (v := .string (str ([] : List (BitVec 8)))) rfl rfl)) ?_
  refine w_val_g (v := .bool true) (want_yes (j := 4) rfl rfl (Ev.t (v := .bool true) rfl rfl) rfl) (y_bin (Ev.t (v := .string (str ([] : List (BitVec 8)))) rfl rfl) (Ev.c (v := .string (str ([] : List (BitVec 8))))) b_eqs_same) ?_
  refine w_val_g (v := .bool true) (want_yes (j := 1) rfl rfl (Ev.t (v := .bool true) rfl rfl) rfl) (y_pick_t (Ev.t (v := .bool true) rfl rfl) (Ev.t (v := .bool true) rfl rfl)) ?_
  refine w_val_g (v := .bool true) (want_yes (j := 1) rfl rfl (Ev.t (v := .bool true) rfl rfl) rfl) (y_mv (Ev.t (v := .bool true) rfl rfl)) ?_
  first | with_reducible refine w_skip ?_ ?_ | refine w_skip ?_ ?_
  · exact want_no (j := 8) rfl rfl (Ev.t (v := .bool true) rfl rfl) rfl
  first | with_reducible refine w_skip ?_ ?_ | refine w_skip ?_ ?_
  · exact want_no (j := 8) rfl rfl (Ev.t (v := .bool true) rfl rfl) rfl
  first | with_reducible refine w_skip ?_ ?_ | refine w_skip ?_ ?_
  · exact want_no (j := 8) rfl rfl (Ev.t (v := .bool true) rfl rfl) rfl
  first | with_reducible refine w_skip ?_ ?_ | refine w_skip ?_ ?_
  · exact want_un (j := 11) rfl rfl (Ev.t (v := undef) rfl rfl) rfl
  first | with_reducible refine w_skip ?_ ?_ | refine w_skip ?_ ?_
  · exact want_un (j := 11) rfl rfl (Ev.t (v := undef) rfl rfl) rfl
  first | with_reducible refine w_skip ?_ ?_ | refine w_skip ?_ ?_
  · exact want_no (j := 8) rfl rfl (Ev.t (v := .bool true) rfl rfl) rfl
  first | with_reducible refine w_skip ?_ ?_ | refine w_skip ?_ ?_
  · exact want_no (j := 8) rfl rfl (Ev.t (v := .bool true) rfl rfl) rfl
  first | with_reducible refine w_skip ?_ ?_ | refine w_skip ?_ ?_
  · exact want_un (j := 15) rfl rfl (Ev.t (v := undef) rfl rfl) rfl
  first | with_reducible refine w_skip ?_ ?_ | refine w_skip ?_ ?_
  · exact want_un (j := 15) rfl rfl (Ev.t (v := undef) rfl rfl) rfl
  first | with_reducible refine w_skip ?_ ?_ | refine w_skip ?_ ?_
  · exact want_un (j := 15) rfl rfl (Ev.t (v := undef) rfl rfl) rfl
  first | with_reducible refine w_skip ?_ ?_ | refine w_skip ?_ ?_
  · exact want_no (j := 8) rfl rfl (Ev.t (v := .bool true) rfl rfl) rfl
  first | with_reducible refine w_skip ?_ ?_ | refine w_skip ?_ ?_
  · exact want_no (j := 8) rfl rfl (Ev.t (v := .bool true) rfl rfl) rfl
  first | with_reducible refine w_skip ?_ ?_ | refine w_skip ?_ ?_
  · exact want_un (j := 20) rfl rfl (Ev.t (v := undef) rfl rfl) rfl
  first | with_reducible refine w_skip ?_ ?_ | refine w_skip ?_ ?_
  · exact want_un (j := 20) rfl rfl (Ev.t (v := undef) rfl rfl) rfl
  first | with_reducible refine w_skip ?_ ?_ | refine w_skip ?_ ?_
  · exact want_un (j := 20) rfl rfl (Ev.t (v := undef) rfl rfl) rfl
  first | with_reducible refine w_skip ?_ ?_ | refine w_skip ?_ ?_
  · exact want_un (j := 20) rfl rfl (Ev.t (v := undef) rfl rfl) rfl
  first | with_reducible refine w_skip ?_ ?_ | refine w_skip ?_ ?_
  · exact want_un (j := 20) rfl rfl (Ev.t (v := undef) rfl rfl) rfl
  first | with_reducible refine w_skip ?_ ?_ | refine w_skip ?_ ?_
  · exact want_un (j := 20) rfl rfl (Ev.t (v := undef) rfl rfl) rfl
  first | with_reducible refine w_skip ?_ ?_ | refine w_skip ?_ ?_
  · exact want_no (j := 8) rfl rfl (Ev.t (v := .bool true) rfl rfl) rfl
  refine w_val_g (v := .bool true) (want_yes (j := 1) rfl rfl (Ev.t (v := .bool true) rfl rfl) rfl) (y_pick_t (Ev.t (v := .bool true) rfl rfl) (Ev.c (v := .bool true))) ?_
  refine w_val (v := .bool true) (y_pick_t (Ev.t (v := .bool true) rfl rfl) (Ev.t (v := .bool true) rfl rfl)) ?_
  refine w_val (v := .bool true) (y_as (Ev.t (v := .bool true) rfl rfl)) ?_
  refine wpList_nil ?_
  refine then_n ?_
  refine wp_ret ?_
  refine fin_ret1 rfl (Ev.t (v := .bool true) rfl rfl) ?_
  exact ⟨rfl, hk⟩

set_option maxRecDepth 100000 in
set_option maxHeartbeats 1000000 in
theorem wrapBack_s (key text : List (BitVec 8)) (hok : Aes.okKey key.length) (hs : ¬ (text.length % 8 = 0 ∧ 16 ≤ text.length ∧ text.length ≤ 1024)) (w0 : World) : Calls Try.prog 6 #[.string (str key), .string (str text)] w0 fun e w' => e = .returned (.bool true) ∧ Below w0.heap.size w0 w' := by
  refine enter (n := 51) Try.func6 rfl rfl rfl ?_
  have hk : Below w0.heap.size w0 w0 := Below.refl _ _
  refine wp_seq ?_
  refine wp_region_lit ?_
  refine w_val (v := .bool false) (y_as (Ev.c (v := .bool false))) ?_
  refine wpList_nil ?_
  refine then_n ?_
  refine wp_seq ?_
  refine wp_region_lit ?_
  refine w_val (v := .string (str key)) (y_mv (Ev.t (v := .string (str key)) rfl rfl)) ?_
  refine w_val (v := .string (str text)) (y_mv (Ev.t (v := .string (str text)) rfl rfl)) ?_
  refine w_call (Try.func11) (by kernel_rfl) rfl (m2 (Ev.t (v := .string (str key)) rfl rfl) (Ev.t (v := .string (str text)) rfl rfl)) (wrap_s key text hok hs w0) ?_
  rintro _ w1 ⟨rfl, hb2⟩
  refine ⟨_, rfl, ?_⟩
  replace hk := thenB hk hb2
  refine w_val (v := .tuple #[.string (str ([] : List (BitVec 8))), .int .i64 6]) (y_mv (Ev.t (v := .tuple #[.string (str ([] : List (BitVec 8))), .int .i64 6]) rfl rfl)) ?_
  refine w_val (v := .string (str ([] : List (BitVec 8)))) (y_ext (v := .string (str ([] : List (BitVec 8)))) (Ev.t (v := .tuple #[.string (str ([] : List (BitVec 8))), .int .i64 6]) rfl rfl) rfl) ?_
  refine w_val (v := .int .i64 6) (y_ext (v := .int .i64 6) (Ev.t (v := .tuple #[.string (str ([] : List (BitVec 8))), .int .i64 6]) rfl rfl) rfl) ?_
  refine w_val (v := .string (str ([] : List (BitVec 8)))) (y_as (Ev.t (v := .string (str ([] : List (BitVec 8)))) rfl rfl)) ?_
  refine w_val (v := .int .i64 6) (y_as (Ev.t (v := .int .i64 6) rfl rfl)) ?_
  refine wpList_nil ?_
  refine then_n ?_
  refine wp_seq ?_
  refine wp_region_lit ?_
  refine w_val (v := .string (str key)) (y_mv (Ev.t (v := .string (str key)) rfl rfl)) ?_
  refine w_val (v := .string (str ([] : List (BitVec 8)))) (y_mv (Ev.t (v := .string (str ([] : List (BitVec 8)))) rfl rfl)) ?_
  refine w_call (Try.func14) (by kernel_rfl) rfl (m2 (Ev.t (v := .string (str key)) rfl rfl) (Ev.t (v := .string (str ([] : List (BitVec 8)))) rfl rfl)) (unwrap_s key [] hok (by decide) w1) ?_
  rintro _ w3 ⟨rfl, hb4⟩
  refine ⟨_, rfl, ?_⟩
  replace hk := thenB hk hb4
  refine w_val (v := .tuple #[.string (str ([] : List (BitVec 8))), .int .i64 6]) (y_mv (Ev.t (v := .tuple #[.string (str ([] : List (BitVec 8))), .int .i64 6]) rfl rfl)) ?_
  refine w_val (v := .string (str ([] : List (BitVec 8)))) (y_ext (v := .string (str ([] : List (BitVec 8)))) (Ev.t (v := .tuple #[.string (str ([] : List (BitVec 8))), .int .i64 6]) rfl rfl) rfl) ?_
  refine w_val (v := .int .i64 6) (y_ext (v := .int .i64 6) (Ev.t (v := .tuple #[.string (str ([] : List (BitVec 8))), .int .i64 6]) rfl rfl) rfl) ?_
  refine w_val (v := .string (str ([] : List (BitVec 8)))) (y_as (Ev.t (v := .string (str ([] : List (BitVec 8)))) rfl rfl)) ?_
  refine w_val (v := .int .i64 6) (y_as (Ev.t (v := .int .i64 6) rfl rfl)) ?_
  refine wpList_nil ?_
  refine then_n ?_
  refine wp_seq ?_
  refine wp_region_lit ?_
  refine w_call (Try.func13) (by kernel_rfl) rfl m0 (wakes_c  w3) ?_
  rintro _ w5 ⟨rfl, hb6⟩
  refine ⟨_, rfl, ?_⟩
  replace hk := thenB hk hb6
  refine w_val (v := .bool true) (y_mv (Ev.t (v := .bool true) rfl rfl)) ?_
  refine w_val_g (v := .int .i64 6) (want_yes (j := 1) rfl rfl (Ev.t (v := .bool true) rfl rfl) rfl) (y_mv (Ev.t (v := .int .i64 6) rfl rfl)) ?_
  refine w_val_g (v := .bool true) (want_yes (j := 1) rfl rfl (Ev.t (v := .bool true) rfl rfl) rfl) (y_bin (Ev.t (v := .int .i64 6) rfl rfl) (Ev.c (v := .int .i64 0)) b_neq) ?_
  refine w_val_g (v := .bool true) (want_yes (j := 1) rfl rfl (Ev.t (v := .bool true) rfl rfl) rfl) (y_mv (Ev.t (v := .bool true) rfl rfl)) ?_
  refine w_val_g (v := .string (str ([] : List (BitVec 8)))) (want_yes (j := 4) rfl rfl (Ev.t (v := .bool true) rfl rfl) rfl) (y_mv (Ev.t (v := .string (str ([] : List (BitVec 8)))) rfl rfl)) ?_
  refine w_val_g (v := .bool true) (want_yes (j := 4) rfl rfl (Ev.t (v := .bool true) rfl rfl) rfl) (y_bin (Ev.t (v := .string (str ([] : List (BitVec 8)))) rfl rfl) (Ev.c (v := .string (str ([] : List (BitVec 8))))) b_eqs_same) ?_
  refine w_val_g (v := .bool true) (want_yes (j := 1) rfl rfl (Ev.t (v := .bool true) rfl rfl) rfl) (y_pick_t (Ev.t (v := .bool true) rfl rfl) (Ev.t (v := .bool true) rfl rfl)) ?_
  refine w_val_g (v := .bool true) (want_yes (j := 1) rfl rfl (Ev.t (v := .bool true) rfl rfl) rfl) (y_mv (Ev.t (v := .bool true) rfl rfl)) ?_
  first | with_reducible refine w_skip ?_ ?_ | refine w_skip ?_ ?_
  · exact want_no (j := 8) rfl rfl (Ev.t (v := .bool true) rfl rfl) rfl
  first | with_reducible refine w_skip ?_ ?_ | refine w_skip ?_ ?_
  · exact want_no (j := 8) rfl rfl (Ev.t (v := .bool true) rfl rfl) rfl
  first | with_reducible refine w_skip ?_ ?_ | refine w_skip ?_ ?_
  · exact want_no (j := 8) rfl rfl (Ev.t (v := .bool true) rfl rfl) rfl
  first | with_reducible refine w_skip ?_ ?_ | refine w_skip ?_ ?_
  · exact want_un (j := 11) rfl rfl (Ev.t (v := undef) rfl rfl) rfl
  first | with_reducible refine w_skip ?_ ?_ | refine w_skip ?_ ?_
  · exact want_un (j := 11) rfl rfl (Ev.t (v := undef) rfl rfl) rfl
  first | with_reducible refine w_skip ?_ ?_ | refine w_skip ?_ ?_
  · exact want_no (j := 8) rfl rfl (Ev.t (v := .bool true) rfl rfl) rfl
  first | with_reducible refine w_skip ?_ ?_ | refine w_skip ?_ ?_
  · exact want_no (j := 8) rfl rfl (Ev.t (v := .bool true) rfl rfl) rfl
  first | with_reducible refine w_skip ?_ ?_ | refine w_skip ?_ ?_
  · exact want_un (j := 15) rfl rfl (Ev.t (v := undef) rfl rfl) rfl
  first | with_reducible refine w_skip ?_ ?_ | refine w_skip ?_ ?_
  · exact want_un (j := 15) rfl rfl (Ev.t (v := undef) rfl rfl) rfl
  first | with_reducible refine w_skip ?_ ?_ | refine w_skip ?_ ?_
  · exact want_un (j := 15) rfl rfl (Ev.t (v := undef) rfl rfl) rfl
  first | with_reducible refine w_skip ?_ ?_ | refine w_skip ?_ ?_
  · exact want_no (j := 8) rfl rfl (Ev.t (v := .bool true) rfl rfl) rfl
  first | with_reducible refine w_skip ?_ ?_ | refine w_skip ?_ ?_
  · exact want_no (j := 8) rfl rfl (Ev.t (v := .bool true) rfl rfl) rfl
  first | with_reducible refine w_skip ?_ ?_ | refine w_skip ?_ ?_
  · exact want_un (j := 20) rfl rfl (Ev.t (v := undef) rfl rfl) rfl
  first | with_reducible refine w_skip ?_ ?_ | refine w_skip ?_ ?_
  · exact want_un (j := 20) rfl rfl (Ev.t (v := undef) rfl rfl) rfl
  first | with_reducible refine w_skip ?_ ?_ | refine w_skip ?_ ?_
  · exact want_un (j := 20) rfl rfl (Ev.t (v := undef) rfl rfl) rfl
  first | with_reducible refine w_skip ?_ ?_ | refine w_skip ?_ ?_
  · exact want_un (j := 20) rfl rfl (Ev.t (v := undef) rfl rfl) rfl
  first | with_reducible refine w_skip ?_ ?_ | refine w_skip ?_ ?_
  · exact want_un (j := 20) rfl rfl (Ev.t (v := undef) rfl rfl) rfl
  first | with_reducible refine w_skip ?_ ?_ | refine w_skip ?_ ?_
  · exact want_un (j := 20) rfl rfl (Ev.t (v := undef) rfl rfl) rfl
  first | with_reducible refine w_skip ?_ ?_ | refine w_skip ?_ ?_
  · exact want_no (j := 8) rfl rfl (Ev.t (v := .bool true) rfl rfl) rfl
  refine w_val_g (v := .bool true) (want_yes (j := 1) rfl rfl (Ev.t (v := .bool true) rfl rfl) rfl) (y_pick_t (Ev.t (v := .bool true) rfl rfl) (Ev.c (v := .bool true))) ?_
  refine w_val (v := .bool true) (y_pick_t (Ev.t (v := .bool true) rfl rfl) (Ev.t (v := .bool true) rfl rfl)) ?_
  refine w_val (v := .bool true) (y_as (Ev.t (v := .bool true) rfl rfl)) ?_
  refine wpList_nil ?_
  refine then_n ?_
  refine wp_ret ?_
  refine fin_ret1 rfl (Ev.t (v := .bool true) rfl rfl) ?_
  exact ⟨rfl, hk⟩

theorem unwrapBack_c (key text : List (BitVec 8)) (n : Nat) (hok : Aes.okKey key.length) (hn : text.length = 8 * n) (h2 : 2 ≤ n) (h128 : n ≤ 128) (w0 : World) : Calls Try.prog 14 #[.string (str key), .string (str (Wr.a key text (6 * n) ++ Wr.q key text (6 * n)))] w0 fun e w' => e = .returned (.tuple #[.string (str text), .int .i64 0]) ∧ Below w0.heap.size w0 w' := by
  obtain ⟨h3, h4⟩ := Wr.back_all key text n hok hn h2
  have hl := Wr.len_a key text hok (6 * n)
  have hl2 := Wr.len_q key text hok (by omega) (6 * n)
  refine (unwrap_y key (Wr.a key text (6 * n) ++ Wr.q key text (6 * n)) n hok (by rw [List.length_append]; omega) h2 h128 h3 w0).mono ?_
  rintro e w' ⟨rfl, hb⟩
  exact ⟨by rw [h4], hb⟩

set_option maxRecDepth 100000 in
set_option maxHeartbeats 1000000 in
theorem wrapBack_y (key text : List (BitVec 8)) (n : Nat) (hok : Aes.okKey key.length) (hn : text.length = 8 * n) (h2 : 2 ≤ n) (h128 : n ≤ 128) (w0 : World) : Calls Try.prog 6 #[.string (str key), .string (str text)] w0 fun e w' => e = .returned (.bool true) ∧ Below w0.heap.size w0 w' := by
  have hl := Wr.len_a key text hok (6 * n)
  have hl2 := Wr.len_q key text hok (by omega) (6 * n)
  refine enter (n := 51) Try.func6 rfl rfl rfl ?_
  have hk : Below w0.heap.size w0 w0 := Below.refl _ _
  refine wp_seq ?_
  refine wp_region_lit ?_
  refine w_val (v := .bool false) (y_as (Ev.c (v := .bool false))) ?_
  refine wpList_nil ?_
  refine then_n ?_
  refine wp_seq ?_
  refine wp_region_lit ?_
  refine w_val (v := .string (str key)) (y_mv (Ev.t (v := .string (str key)) rfl rfl)) ?_
  refine w_val (v := .string (str text)) (y_mv (Ev.t (v := .string (str text)) rfl rfl)) ?_
  refine w_call (Try.func11) (by kernel_rfl) rfl (m2 (Ev.t (v := .string (str key)) rfl rfl) (Ev.t (v := .string (str text)) rfl rfl)) (wrap_y key text n hok hn h2 h128 w0) ?_
  rintro _ w1 ⟨rfl, hb2⟩
  refine ⟨_, rfl, ?_⟩
  replace hk := thenB hk hb2
  refine w_val (v := .tuple #[.string (str (Wr.a key text (6 * n) ++ Wr.q key text (6 * n))), .int .i64 0]) (y_mv (Ev.t (v := .tuple #[.string (str (Wr.a key text (6 * n) ++ Wr.q key text (6 * n))), .int .i64 0]) rfl rfl)) ?_
  refine w_val (v := .string (str (Wr.a key text (6 * n) ++ Wr.q key text (6 * n)))) (y_ext (v := .string (str (Wr.a key text (6 * n) ++ Wr.q key text (6 * n)))) (Ev.t (v := .tuple #[.string (str (Wr.a key text (6 * n) ++ Wr.q key text (6 * n))), .int .i64 0]) rfl rfl) rfl) ?_
  refine w_val (v := .int .i64 0) (y_ext (v := .int .i64 0) (Ev.t (v := .tuple #[.string (str (Wr.a key text (6 * n) ++ Wr.q key text (6 * n))), .int .i64 0]) rfl rfl) rfl) ?_
  refine w_val (v := .string (str (Wr.a key text (6 * n) ++ Wr.q key text (6 * n)))) (y_as (Ev.t (v := .string (str (Wr.a key text (6 * n) ++ Wr.q key text (6 * n)))) rfl rfl)) ?_
  refine w_val (v := .int .i64 0) (y_as (Ev.t (v := .int .i64 0) rfl rfl)) ?_
  refine wpList_nil ?_
  refine then_n ?_
  refine wp_seq ?_
  refine wp_region_lit ?_
  refine w_val (v := .string (str key)) (y_mv (Ev.t (v := .string (str key)) rfl rfl)) ?_
  refine w_val (v := .string (str (Wr.a key text (6 * n) ++ Wr.q key text (6 * n)))) (y_mv (Ev.t (v := .string (str (Wr.a key text (6 * n) ++ Wr.q key text (6 * n)))) rfl rfl)) ?_
  refine w_call (Try.func14) (by kernel_rfl) rfl (m2 (Ev.t (v := .string (str key)) rfl rfl) (Ev.t (v := .string (str (Wr.a key text (6 * n) ++ Wr.q key text (6 * n)))) rfl rfl)) (unwrapBack_c key text n hok hn h2 h128 w1) ?_
  rintro _ w3 ⟨rfl, hb4⟩
  refine ⟨_, rfl, ?_⟩
  replace hk := thenB hk hb4
  refine w_val (v := .tuple #[.string (str text), .int .i64 0]) (y_mv (Ev.t (v := .tuple #[.string (str text), .int .i64 0]) rfl rfl)) ?_
  refine w_val (v := .string (str text)) (y_ext (v := .string (str text)) (Ev.t (v := .tuple #[.string (str text), .int .i64 0]) rfl rfl) rfl) ?_
  refine w_val (v := .int .i64 0) (y_ext (v := .int .i64 0) (Ev.t (v := .tuple #[.string (str text), .int .i64 0]) rfl rfl) rfl) ?_
  refine w_val (v := .string (str text)) (y_as (Ev.t (v := .string (str text)) rfl rfl)) ?_
  refine w_val (v := .int .i64 0) (y_as (Ev.t (v := .int .i64 0) rfl rfl)) ?_
  refine wpList_nil ?_
  refine then_n ?_
  refine wp_seq ?_
  refine wp_region_lit ?_
  refine w_call (Try.func13) (by kernel_rfl) rfl m0 (wakes_c  w3) ?_
  rintro _ w5 ⟨rfl, hb6⟩
  refine ⟨_, rfl, ?_⟩
  replace hk := thenB hk hb6
  refine w_val (v := .bool true) (y_mv (Ev.t (v := .bool true) rfl rfl)) ?_
  refine w_val_g (v := .int .i64 0) (want_yes (j := 1) rfl rfl (Ev.t (v := .bool true) rfl rfl) rfl) (y_mv (Ev.t (v := .int .i64 0) rfl rfl)) ?_
  refine w_val_g (v := .bool false) (want_yes (j := 1) rfl rfl (Ev.t (v := .bool true) rfl rfl) rfl) (y_bin (Ev.t (v := .int .i64 0) rfl rfl) (Ev.c (v := .int .i64 0)) b_neq) ?_
  refine w_val_g (v := .bool false) (want_yes (j := 1) rfl rfl (Ev.t (v := .bool true) rfl rfl) rfl) (y_mv (Ev.t (v := .bool false) rfl rfl)) ?_
  first | with_reducible refine w_skip ?_ ?_ | refine w_skip ?_ ?_
  · exact want_no (j := 4) rfl rfl (Ev.t (v := .bool false) rfl rfl) rfl
  first | with_reducible refine w_skip ?_ ?_ | refine w_skip ?_ ?_
  · exact want_no (j := 4) rfl rfl (Ev.t (v := .bool false) rfl rfl) rfl
  refine w_val_g (v := .bool false) (want_yes (j := 1) rfl rfl (Ev.t (v := .bool true) rfl rfl) rfl) (y_pick_f (Ev.t (v := .bool false) rfl rfl) (Ev.c (v := .bool false))) ?_
  refine w_val_g (v := .bool false) (want_yes (j := 1) rfl rfl (Ev.t (v := .bool true) rfl rfl) rfl) (y_mv (Ev.t (v := .bool false) rfl rfl)) ?_
  refine w_val_g (v := .int .i64 0) (want_yes (j := 8) rfl rfl (Ev.t (v := .bool false) rfl rfl) rfl) (y_mv (Ev.t (v := .int .i64 0) rfl rfl)) ?_
  refine w_val_g (v := .bool true) (want_yes (j := 8) rfl rfl (Ev.t (v := .bool false) rfl rfl) rfl) (y_bin (Ev.t (v := .int .i64 0) rfl rfl) (Ev.c (v := .int .i64 0)) b_eql) ?_
  refine w_val_g (v := .bool true) (want_yes (j := 8) rfl rfl (Ev.t (v := .bool false) rfl rfl) rfl) (y_mv (Ev.t (v := .bool true) rfl rfl)) ?_
  refine w_val_g (v := .int .i64 0) (want_yes (j := 11) rfl rfl (Ev.t (v := .bool true) rfl rfl) rfl) (y_mv (Ev.t (v := .int .i64 0) rfl rfl)) ?_
  refine w_val_g (v := .bool true) (want_yes (j := 11) rfl rfl (Ev.t (v := .bool true) rfl rfl) rfl) (y_bin (Ev.t (v := .int .i64 0) rfl rfl) (Ev.c (v := .int .i64 0)) b_eql) ?_
  refine w_val_g (v := .bool true) (want_yes (j := 8) rfl rfl (Ev.t (v := .bool false) rfl rfl) rfl) (y_pick_t (Ev.t (v := .bool true) rfl rfl) (Ev.t (v := .bool true) rfl rfl)) ?_
  refine w_val_g (v := .bool true) (want_yes (j := 8) rfl rfl (Ev.t (v := .bool false) rfl rfl) rfl) (y_mv (Ev.t (v := .bool true) rfl rfl)) ?_
  refine w_val_g (v := .string (str text)) (want_yes (j := 15) rfl rfl (Ev.t (v := .bool true) rfl rfl) rfl) (y_mv (Ev.t (v := .string (str text)) rfl rfl)) ?_
  refine w_val_g (v := .string (str text)) (want_yes (j := 15) rfl rfl (Ev.t (v := .bool true) rfl rfl) rfl) (y_mv (Ev.t (v := .string (str text)) rfl rfl)) ?_
  refine w_val_g (v := .bool true) (want_yes (j := 15) rfl rfl (Ev.t (v := .bool true) rfl rfl) rfl) (y_bin (Ev.t (v := .string (str text)) rfl rfl) (Ev.t (v := .string (str text)) rfl rfl) b_eqs_same) ?_
  refine w_val_g (v := .bool true) (want_yes (j := 8) rfl rfl (Ev.t (v := .bool false) rfl rfl) rfl) (y_pick_t (Ev.t (v := .bool true) rfl rfl) (Ev.t (v := .bool true) rfl rfl)) ?_
  refine w_val_g (v := .bool true) (want_yes (j := 8) rfl rfl (Ev.t (v := .bool false) rfl rfl) rfl) (y_mv (Ev.t (v := .bool true) rfl rfl)) ?_
  refine w_val_g (v := .string (str (Wr.a key text (6 * n) ++ Wr.q key text (6 * n)))) (want_yes (j := 20) rfl rfl (Ev.t (v := .bool true) rfl rfl) rfl) (y_mv (Ev.t (v := .string (str (Wr.a key text (6 * n) ++ Wr.q key text (6 * n)))) rfl rfl)) ?_
  refine w_val_g (v := .int .i64 (((Wr.a key text (6 * n) ++ Wr.q key text (6 * n)).length : Nat) : Int)) (want_yes (j := 20) rfl rfl (Ev.t (v := .bool true) rfl rfl) rfl) (y_len (Ev.t (v := .string (str (Wr.a key text (6 * n) ++ Wr.q key text (6 * n)))) rfl rfl) Try.underlying9) ?_
  refine w_val_g (v := .string (str text)) (want_yes (j := 20) rfl rfl (Ev.t (v := .bool true) rfl rfl) rfl) (y_mv (Ev.t (v := .string (str text)) rfl rfl)) ?_
  refine w_val_g (v := .int .i64 ((text.length : Nat) : Int)) (want_yes (j := 20) rfl rfl (Ev.t (v := .bool true) rfl rfl) rfl) (y_len (Ev.t (v := .string (str text)) rfl rfl) Try.underlying9) ?_
  refine w_val_g (v := .int .i64 (((text.length : Nat) : Int) + 8)) (want_yes (j := 20) rfl rfl (Ev.t (v := .bool true) rfl rfl) rfl) (y_bin (Ev.t (v := .int .i64 ((text.length : Nat) : Int)) rfl rfl) (Ev.c (v := .int .i64 8)) (b_add (by omega))) ?_
  refine w_val_g (v := .bool (decide ((((Wr.a key text (6 * n) ++ Wr.q key text (6 * n)).length : Nat) : Int) = (((text.length : Nat) : Int) + 8)))) (want_yes (j := 20) rfl rfl (Ev.t (v := .bool true) rfl rfl) rfl) (y_bin (Ev.t (v := .int .i64 (((Wr.a key text (6 * n) ++ Wr.q key text (6 * n)).length : Nat) : Int)) rfl rfl) (Ev.t (v := .int .i64 (((text.length : Nat) : Int) + 8)) rfl rfl) b_eql) ?_
  refine w_val_g (v := .bool (decide ((((Wr.a key text (6 * n) ++ Wr.q key text (6 * n)).length : Nat) : Int) = (((text.length : Nat) : Int) + 8)))) (want_yes (j := 8) rfl rfl (Ev.t (v := .bool false) rfl rfl) rfl) (y_pick_t (Ev.t (v := .bool true) rfl rfl) (Ev.t (v := .bool (decide ((((Wr.a key text (6 * n) ++ Wr.q key text (6 * n)).length : Nat) : Int) = (((text.length : Nat) : Int) + 8)))) rfl rfl)) ?_
  refine w_val_g (v := .bool (decide ((((Wr.a key text (6 * n) ++ Wr.q key text (6 * n)).length : Nat) : Int) = (((text.length : Nat) : Int) + 8)))) (want_yes (j := 1) rfl rfl (Ev.t (v := .bool true) rfl rfl) rfl) (y_pick_f (Ev.t (v := .bool false) rfl rfl) (Ev.t (v := .bool (decide ((((Wr.a key text (6 * n) ++ Wr.q key text (6 * n)).length : Nat) : Int) = (((text.length : Nat) : Int) + 8)))) rfl rfl)) ?_
  refine w_val (v := .bool (decide ((((Wr.a key text (6 * n) ++ Wr.q key text (6 * n)).length : Nat) : Int) = (((text.length : Nat) : Int) + 8)))) (y_pick_t (Ev.t (v := .bool true) rfl rfl) (Ev.t (v := .bool (decide ((((Wr.a key text (6 * n) ++ Wr.q key text (6 * n)).length : Nat) : Int) = (((text.length : Nat) : Int) + 8)))) rfl rfl)) ?_
  refine w_val (v := .bool (decide ((((Wr.a key text (6 * n) ++ Wr.q key text (6 * n)).length : Nat) : Int) = (((text.length : Nat) : Int) + 8)))) (y_as (Ev.t (v := .bool (decide ((((Wr.a key text (6 * n) ++ Wr.q key text (6 * n)).length : Nat) : Int) = (((text.length : Nat) : Int) + 8)))) rfl rfl)) ?_
  refine wpList_nil ?_
  refine then_n ?_
  refine wp_ret ?_
  have hc7 : (((Wr.a key text (6 * n) ++ Wr.q key text (6 * n)).length : Nat) : Int) = (((text.length : Nat) : Int) + 8) := by rw [List.length_append]; omega
  refine fin_ret1 rfl (Ev.t (v := .bool true) (Eq.trans (b := .bool (decide ((((Wr.a key text (6 * n) ++ Wr.q key text (6 * n)).length : Nat) : Int) = (((text.length : Nat) : Int) + 8)))) rfl (by rw [decide_eq_true hc7])) rfl) ?_
  exact ⟨rfl, hk⟩

theorem walk_WrapBack (key : List (BitVec 8)) (hkey : key.length ≤ 140737488351232) (text : List (BitVec 8)) (ht : text.length ≤ 140737488351232) (w : World) : Calls Try.prog 6 #[.string (str key), .string (str text)] w fun e w' => e = .returned (.bool true) ∧ Below w.heap.size w w' := by
  by_cases hk : Aes.okKey key.length
  · by_cases hs : (text.length % 8 = 0 ∧ 16 ≤ text.length ∧ text.length ≤ 1024)
    · exact wrapBack_y key text (text.length / 8) hk (by omega) (by omega) (by omega) w
    · exact wrapBack_s key text hk hs w
  · exact wrapBack_k key text hk w
end Go.Proofs.Ythmcoaadigaddaa
