/-
  The laws of ctr: their waking. No conditions.
-/
import Derived.Test.YthmcoaadigaddaaRows
import Derived.Test.YthmcoaadigaddaaCtrD
import Derived.ProofKit
namespace Go.Proofs.Ythmcoaadigaddaa
open Go.RowKit
set_option linter.unusedSimpArgs false
set_option linter.unusedVariables false
namespace CtrWakesT
theorem mixed : Try.prog.follows .mixedOrders = true := by kernel_rfl
end CtrWakesT
theorem ctrWake2 (w0 : World) : Calls Try.prog 21 #[.string (str Ct.wk), .string (str Ct.wa), .int .i64 4, .string (str (Ct.x Ct.wk Ct.wa 4 Ct.wt))] w0 fun e w' => e = .returned (.tuple #[.string (str Ct.wt), .int .i64 0]) ∧ Below w0.heap.size w0 w' := by
  have h := ctrXor_y Ct.wk (Ct.x Ct.wk Ct.wa 4 Ct.wt) (Or.inl rfl) Ct.wa 4 rfl (by decide) (by decide) (by rw [Ct.length_x]; decide) w0
  rwa [Ct.x_x] at h

set_option maxRecDepth 100000 in
set_option maxHeartbeats 1000000 in
theorem ctrWakes_c  (w0 : World) : Calls Try.prog 18 #[] w0 fun e w' => e = .returned (.bool true) ∧ Below w0.heap.size w0 w' := by
  refine enter (n := 50) Try.func18 rfl rfl rfl ?_
  have hk : Below w0.heap.size w0 w0 := Below.refl _ _
  refine wp_seq ?_
  refine wp_region_lit ?_
  refine w_val (v := .bool false) (y_as (Ev.c (v := .bool false))) ?_
  refine wpList_nil ?_
  refine then_n ?_
  refine wp_seq ?_
  refine wp_region_lit ?_
  refine w_val (v := .string (str Ct.wa)) (y_as (Ev.c (v := .string (str Ct.wa)))) ?_
  refine wpList_nil ?_
  refine then_n ?_
  refine wp_seq ?_
  refine wp_region_lit ?_
  refine w_val (v := .string (str Ct.wa)) (y_mv (Ev.t (v := .string (str Ct.wa)) rfl rfl)) ?_
  refine w_call (Try.func19) (by kernel_rfl) rfl (m3 (Ev.t (v := .string (str Ct.wa)) rfl rfl) (Ev.c (v := .int .i64 1)) (Ev.c (v := U64 (1#64)))) (next_y Ct.wa 1 rfl (by decide) (by decide) 1 (by decide) w0) ?_
  rintro _ w1 ⟨rfl, hb2⟩
  refine ⟨_, rfl, ?_⟩
  replace hk := thenB hk hb2
  refine w_val (v := .tuple #[.string (str (Ct.nx Ct.wa 1 1)), .int .i64 0]) (y_mv (Ev.t (v := .tuple #[.string (str (Ct.nx Ct.wa 1 1)), .int .i64 0]) rfl rfl)) ?_
  refine w_val (v := .string (str (Ct.nx Ct.wa 1 1))) (y_ext (v := .string (str (Ct.nx Ct.wa 1 1))) (Ev.t (v := .tuple #[.string (str (Ct.nx Ct.wa 1 1)), .int .i64 0]) rfl rfl) rfl) ?_
  refine w_val (v := .int .i64 0) (y_ext (v := .int .i64 0) (Ev.t (v := .tuple #[.string (str (Ct.nx Ct.wa 1 1)), .int .i64 0]) rfl rfl) rfl) ?_
  refine w_val (v := .string (str (Ct.nx Ct.wa 1 1))) (y_as (Ev.t (v := .string (str (Ct.nx Ct.wa 1 1))) rfl rfl)) ?_
  refine w_val (v := .int .i64 0) (y_as (Ev.t (v := .int .i64 0) rfl rfl)) ?_
  refine wpList_nil ?_
  refine then_n ?_
  refine wp_seq ?_
  refine wp_region_lit ?_
  refine w_val (v := .string (str Ct.wa)) (y_mv (Ev.t (v := .string (str Ct.wa)) rfl rfl)) ?_
  refine w_call (Try.func21) (by kernel_rfl) rfl (m4 (Ev.c (v := .string (str Ct.wk))) (Ev.t (v := .string (str Ct.wa)) rfl rfl) (Ev.c (v := .int .i64 4)) (Ev.c (v := .string (str Ct.wt)))) (ctrXor_y Ct.wk Ct.wt (Or.inl rfl) Ct.wa 4 rfl (by decide) (by decide) (by decide) w1) ?_
  rintro _ w3 ⟨rfl, hb4⟩
  refine ⟨_, rfl, ?_⟩
  replace hk := thenB hk hb4
  refine w_val (v := .tuple #[.string (str (Ct.x Ct.wk Ct.wa 4 Ct.wt)), .int .i64 0]) (y_mv (Ev.t (v := .tuple #[.string (str (Ct.x Ct.wk Ct.wa 4 Ct.wt)), .int .i64 0]) rfl rfl)) ?_
  refine w_val (v := .string (str (Ct.x Ct.wk Ct.wa 4 Ct.wt))) (y_ext (v := .string (str (Ct.x Ct.wk Ct.wa 4 Ct.wt))) (Ev.t (v := .tuple #[.string (str (Ct.x Ct.wk Ct.wa 4 Ct.wt)), .int .i64 0]) rfl rfl) rfl) ?_
  refine w_val (v := .int .i64 0) (y_ext (v := .int .i64 0) (Ev.t (v := .tuple #[.string (str (Ct.x Ct.wk Ct.wa 4 Ct.wt)), .int .i64 0]) rfl rfl) rfl) ?_
  refine w_val (v := .string (str (Ct.x Ct.wk Ct.wa 4 Ct.wt))) (y_as (Ev.t (v := .string (str (Ct.x Ct.wk Ct.wa 4 Ct.wt))) rfl rfl)) ?_
  refine w_val (v := .int .i64 0) (y_as (Ev.t (v := .int .i64 0) rfl rfl)) ?_
  refine wpList_nil ?_
  refine then_n ?_
  refine wp_seq ?_
  refine wp_region_lit ?_
  refine w_val (v := .string (str Ct.wa)) (y_mv (Ev.t (v := .string (str Ct.wa)) rfl rfl)) ?_
  refine w_val (v := .string (str (Ct.x Ct.wk Ct.wa 4 Ct.wt))) (y_mv (Ev.t (v := .string (str (Ct.x Ct.wk Ct.wa 4 Ct.wt))) rfl rfl)) ?_
  refine w_call (Try.func21) (by kernel_rfl) rfl (m4 (Ev.c (v := .string (str Ct.wk))) (Ev.t (v := .string (str Ct.wa)) rfl rfl) (Ev.c (v := .int .i64 4)) (Ev.t (v := .string (str (Ct.x Ct.wk Ct.wa 4 Ct.wt))) rfl rfl)) (ctrWake2 w3) ?_
  rintro _ w5 ⟨rfl, hb6⟩
  refine ⟨_, rfl, ?_⟩
  replace hk := thenB hk hb6
  refine w_val (v := .tuple #[.string (str Ct.wt), .int .i64 0]) (y_mv (Ev.t (v := .tuple #[.string (str Ct.wt), .int .i64 0]) rfl rfl)) ?_
  refine w_val (v := .string (str Ct.wt)) (y_ext (v := .string (str Ct.wt)) (Ev.t (v := .tuple #[.string (str Ct.wt), .int .i64 0]) rfl rfl) rfl) ?_
  refine w_val (v := .int .i64 0) (y_ext (v := .int .i64 0) (Ev.t (v := .tuple #[.string (str Ct.wt), .int .i64 0]) rfl rfl) rfl) ?_
  refine w_val (v := .string (str Ct.wt)) (y_as (Ev.t (v := .string (str Ct.wt)) rfl rfl)) ?_
  refine w_val (v := .int .i64 0) (y_as (Ev.t (v := .int .i64 0) rfl rfl)) ?_
  refine wpList_nil ?_
  refine then_n ?_
  refine wp_seq ?_
  refine wp_region_lit ?_
  refine w_val (v := .int .i64 0) (y_mv (Ev.t (v := .int .i64 0) rfl rfl)) ?_
  refine w_val (v := .bool true) (y_bin (Ev.t (v := .int .i64 0) rfl rfl) (Ev.c (v := .int .i64 0)) b_eql) ?_
  refine w_val (v := .bool true) (y_mv (Ev.t (v := .bool true) rfl rfl)) ?_
  refine w_val_g (v := .string (str (Ct.nx Ct.wa 1 1))) (want_yes (j := 2) rfl rfl (Ev.t (v := .bool true) rfl rfl) rfl) (y_mv (Ev.t (v := .string (str (Ct.nx Ct.wa 1 1))) rfl rfl)) ?_
  refine w_val_g (v := .string (str Ct.wa)) (want_yes (j := 2) rfl rfl (Ev.t (v := .bool true) rfl rfl) rfl) (y_mv (Ev.t (v := .string (str Ct.wa)) rfl rfl)) ?_
  refine w_val_g (v := .string (str (Ct.wa.take 15))) (want_yes (j := 2) rfl rfl (Ev.t (v := .bool true) rfl rfl) rfl) (y_sls (Ev.t (v := .string (str Ct.wa)) rfl rfl) evo.no (evo.s (Ev.c (v := .int .i64 15))) Try.underlying9 (bnd_h (h := 15) (by omega) (by decide))) ?_
  refine w_val_g (v := .string (str ((Ct.wa.take 15) ++ ([0#8])))) (want_yes (j := 2) rfl rfl (Ev.t (v := .bool true) rfl rfl) rfl) (y_bin (Ev.t (v := .string (str (Ct.wa.take 15))) rfl rfl) (Ev.c (v := .string (str ([0#8])))) (b_cat (by decide))) ?_
  refine w_val_g (v := .bool (decide ((Ct.nx Ct.wa 1 1) = ((Ct.wa.take 15) ++ ([0#8]))))) (want_yes (j := 2) rfl rfl (Ev.t (v := .bool true) rfl rfl) rfl) (y_bin (Ev.t (v := .string (str (Ct.nx Ct.wa 1 1))) rfl rfl) (Ev.t (v := .string (str ((Ct.wa.take 15) ++ ([0#8])))) rfl rfl) b_eqs) ?_
  refine w_val (v := .bool (decide ((Ct.nx Ct.wa 1 1) = ((Ct.wa.take 15) ++ ([0#8]))))) (y_pick_t (Ev.t (v := .bool true) rfl rfl) (Ev.t (v := .bool (decide ((Ct.nx Ct.wa 1 1) = ((Ct.wa.take 15) ++ ([0#8]))))) rfl rfl)) ?_
  refine w_val (v := .bool (decide ((Ct.nx Ct.wa 1 1) = ((Ct.wa.take 15) ++ ([0#8]))))) (y_mv (Ev.t (v := .bool (decide ((Ct.nx Ct.wa 1 1) = ((Ct.wa.take 15) ++ ([0#8]))))) rfl rfl)) ?_
  have hc7 : (Ct.nx Ct.wa 1 1) = ((Ct.wa.take 15) ++ ([0#8])) := by exact Ct.wakes_next
  refine w_val_g (v := .int .i64 0) (want_yes (j := 9) rfl rfl (Ev.t (v := .bool true) (Eq.trans (b := .bool (decide ((Ct.nx Ct.wa 1 1) = ((Ct.wa.take 15) ++ ([0#8]))))) rfl (by rw [decide_eq_true hc7])) rfl) rfl) (y_mv (Ev.t (v := .int .i64 0) rfl rfl)) ?_
  refine w_val_g (v := .bool true) (want_yes (j := 9) rfl rfl (Ev.t (v := .bool true) (Eq.trans (b := .bool (decide ((Ct.nx Ct.wa 1 1) = ((Ct.wa.take 15) ++ ([0#8]))))) rfl (by rw [decide_eq_true hc7])) rfl) rfl) (y_bin (Ev.t (v := .int .i64 0) rfl rfl) (Ev.c (v := .int .i64 0)) b_eql) ?_
  refine w_val (v := .bool true) (y_pick_t (Ev.t (v := .bool true) (Eq.trans (b := .bool (decide ((Ct.nx Ct.wa 1 1) = ((Ct.wa.take 15) ++ ([0#8]))))) rfl (by rw [decide_eq_true hc7])) rfl) (Ev.t (v := .bool true) rfl rfl)) ?_
  refine w_val (v := .bool true) (y_mv (Ev.t (v := .bool true) rfl rfl)) ?_
  refine w_val_g (v := .int .i64 0) (want_yes (j := 13) rfl rfl (Ev.t (v := .bool true) rfl rfl) rfl) (y_mv (Ev.t (v := .int .i64 0) rfl rfl)) ?_
  refine w_val_g (v := .bool true) (want_yes (j := 13) rfl rfl (Ev.t (v := .bool true) rfl rfl) rfl) (y_bin (Ev.t (v := .int .i64 0) rfl rfl) (Ev.c (v := .int .i64 0)) b_eql) ?_
  refine w_val (v := .bool true) (y_pick_t (Ev.t (v := .bool true) rfl rfl) (Ev.t (v := .bool true) rfl rfl)) ?_
  refine w_val (v := .bool true) (y_mv (Ev.t (v := .bool true) rfl rfl)) ?_
  refine w_val_g (v := .string (str Ct.wt)) (want_yes (j := 17) rfl rfl (Ev.t (v := .bool true) rfl rfl) rfl) (y_mv (Ev.t (v := .string (str Ct.wt)) rfl rfl)) ?_
  refine w_val_g (v := .bool true) (want_yes (j := 17) rfl rfl (Ev.t (v := .bool true) rfl rfl) rfl) (y_bin (Ev.t (v := .string (str Ct.wt)) rfl rfl) (Ev.c (v := .string (str Ct.wt))) b_eqs_same) ?_
  refine w_val (v := .bool true) (y_pick_t (Ev.t (v := .bool true) rfl rfl) (Ev.t (v := .bool true) rfl rfl)) ?_
  refine w_val (v := .bool true) (y_mv (Ev.t (v := .bool true) rfl rfl)) ?_
  refine w_val_g (v := .string (str (Ct.x Ct.wk Ct.wa 4 Ct.wt))) (want_yes (j := 21) rfl rfl (Ev.t (v := .bool true) rfl rfl) rfl) (y_mv (Ev.t (v := .string (str (Ct.x Ct.wk Ct.wa 4 Ct.wt))) rfl rfl)) ?_
  refine w_val_g (v := .string (str Ct.wt)) (want_yes (j := 21) rfl rfl (Ev.t (v := .bool true) rfl rfl) rfl) (y_mv (Ev.t (v := .string (str Ct.wt)) rfl rfl)) ?_
  refine w_val_g (v := .bool (decide ((Ct.x Ct.wk Ct.wa 4 Ct.wt) ≠ Ct.wt))) (want_yes (j := 21) rfl rfl (Ev.t (v := .bool true) rfl rfl) rfl) (y_bin (Ev.t (v := .string (str (Ct.x Ct.wk Ct.wa 4 Ct.wt))) rfl rfl) (Ev.t (v := .string (str Ct.wt)) rfl rfl) b_nes) ?_
  refine w_val (v := .bool (decide ((Ct.x Ct.wk Ct.wa 4 Ct.wt) ≠ Ct.wt))) (y_pick_t (Ev.t (v := .bool true) rfl rfl) (Ev.t (v := .bool (decide ((Ct.x Ct.wk Ct.wa 4 Ct.wt) ≠ Ct.wt))) rfl rfl)) ?_
  refine w_val (v := .bool (decide ((Ct.x Ct.wk Ct.wa 4 Ct.wt) ≠ Ct.wt))) (y_as (Ev.t (v := .bool (decide ((Ct.x Ct.wk Ct.wa 4 Ct.wt) ≠ Ct.wt))) rfl rfl)) ?_
  refine wpList_nil ?_
  refine then_n ?_
  refine wp_ret ?_
  have hc8 : (Ct.x Ct.wk Ct.wa 4 Ct.wt) ≠ Ct.wt := by exact Ct.wakes_x
  refine fin_ret1 rfl (Ev.t (v := .bool true) (Eq.trans (b := .bool (decide ((Ct.x Ct.wk Ct.wa 4 Ct.wt) ≠ Ct.wt))) rfl (by rw [decide_eq_true hc8])) rfl) ?_
  exact ⟨rfl, hk⟩
end Go.Proofs.Ythmcoaadigaddaa
