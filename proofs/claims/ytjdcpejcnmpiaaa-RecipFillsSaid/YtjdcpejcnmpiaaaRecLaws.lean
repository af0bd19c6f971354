/-
  The laws of recip: names, fillings, lockings. No conditions.
-/
import Derived.Test.YtjdcpejcnmpiaaaRows
import Derived.Test.YtjdcpejcnmpiaaaRecC
import Derived.ProofKit
namespace Go.Proofs.Ytjdcpejcnmpiaaa
open Go.RowKit
set_option linter.unusedSimpArgs false
set_option linter.unusedVariables false
namespace RecLawsT
theorem mixed : Try.prog.follows .mixedOrders = true := by kernel_rfl
theorem fa42_0 (g off : Nat) : ∀ w, (Instr.fieldAt 42 (.pointer (some ⟨g, off, none⟩)) 0).run Try.prog w = .ok (.pointer (some ⟨g, off + 0, none⟩)) w := fun w => by kernel_rfl
theorem fa42_1 (g off : Nat) : ∀ w, (Instr.fieldAt 42 (.pointer (some ⟨g, off, none⟩)) 1).run Try.prog w = .ok (.pointer (some ⟨g, off + 1, none⟩)) w := fun w => by kernel_rfl
theorem fa42_2 (g off : Nat) : ∀ w, (Instr.fieldAt 42 (.pointer (some ⟨g, off, none⟩)) 2).run Try.prog w = .ok (.pointer (some ⟨g, off + 2, none⟩)) w := fun w => by kernel_rfl
theorem fa42_3 (g off : Nat) : ∀ w, (Instr.fieldAt 42 (.pointer (some ⟨g, off, none⟩)) 3).run Try.prog w = .ok (.pointer (some ⟨g, off + 3, none⟩)) w := fun w => by kernel_rfl
theorem sc9 : (Try.prog.underlying 9).map scal = some true := by rw [Try.underlying9]; rfl
end RecLawsT
theorem lockBack (key vi : List (BitVec 8)) (hok : Aes.okKey key.length) (hiv : vi.length = 16) (t f : List (BitVec 8)) (h3 : 3 ≤ t.length) (h255 : t.length ≤ 255) (hf : f.length = Rc.fl t.length) (w0 : World) : Calls Try.prog 39 #[.string (str key), .string (str vi), .string (str (Rc.lock key vi t f))] w0 fun e w' => e = .returned (.tuple #[.string (str t), .int .i64 0]) ∧ Below w0.heap.size w0 w' := by
  obtain ⟨h1, h2, h4⟩ := Rc.pre_mod t f h3 h255 hf
  have hl := Rc.lock_len key vi t f
  have hpl := Rc.pre_len t f
  have ho := Rc.opn_lock key vi t f hok hiv h3 h255 hf
  have hk := Rc.pre_kn t f h255
  have h := unlock_y key vi hok hiv (Rc.lock key vi t f) ((Rc.lock key vi t f).length - 16) (by omega) (by omega) (by omega) (by omega) (by rw [ho, hk]; exact h3) (by rw [ho, hk]; exact h255) (by rw [ho, hk]; omega) (by rw [ho]; exact Rc.pre_AB t f h3) w0
  rw [ho, hk, Rc.pre_text] at h
  exact h

set_option maxRecDepth 100000 in
set_option maxHeartbeats 1000000 in
theorem recWakes_c  (w0 : World) : Calls Try.prog 36 #[] w0 fun e w' => e = .returned (.bool true) ∧ Below w0.heap.size w0 w' := by
 refine enter (n := 50) Try.func36 rfl rfl rfl ?_
 have hk : Below w0.heap.size w0 w0 := Below.refl _ _
 refine sr ?_
 refine w_as (evc (.bool false)) ?_
 refine nt ?_
 refine sr ?_
 refine w_as (evc (.string (str Cb.wk))) ?_
 refine nt ?_
 refine sr ?_
 refine w_call (Try.func34) (by kernel_rfl) rfl (m1 (evc (.int .i64 16))) (fill_y 16 (by decide) (by decide) w0) ?_
 rintro _ w1 ⟨rfl, hb2⟩
 refine ⟨_, rfl, ?_⟩
 replace hk := thenB hk hb2
 refine w_mv (ev (.tuple #[.int .i64 (((Rc.fl 16) : Nat) : Int), .int .i64 0]) rfl rfl) ?_
 refine w_val (y_ext (v := .int .i64 (((Rc.fl 16) : Nat) : Int)) (ev (.tuple #[.int .i64 (((Rc.fl 16) : Nat) : Int), .int .i64 0]) rfl rfl) rfl) ?_
 refine w_val (y_ext (v := .int .i64 0) (ev (.tuple #[.int .i64 (((Rc.fl 16) : Nat) : Int), .int .i64 0]) rfl rfl) rfl) ?_
 refine w_as (ev (.int .i64 (((Rc.fl 16) : Nat) : Int)) rfl rfl) ?_
 refine w_as (ev (.int .i64 0) rfl rfl) ?_
 refine nt ?_
 refine sr ?_
 refine w_mv (ev (.string (str Cb.wk)) rfl rfl) ?_
 refine w_mv (ev (.string (str Cb.wk)) rfl rfl) ?_
 refine w_mv (ev (.string (str Cb.wk)) rfl rfl) ?_
 refine w_call (Try.func37) (by kernel_rfl) rfl (m4 (ev (.string (str Cb.wk)) rfl rfl) (ev (.string (str Cb.wk)) rfl rfl) (ev (.string (str Cb.wk)) rfl rfl) (evc (.string (str Rc.wf)))) (lock_y Cb.wk Cb.wk (Or.inl rfl) rfl Cb.wk Rc.wf (by decide) (by decide) rfl w1) ?_
 rintro _ w3 ⟨rfl, hb4⟩
 refine ⟨_, rfl, ?_⟩
 replace hk := thenB hk hb4
 refine w_mv (ev (.tuple #[.string (str (Rc.lock Cb.wk Cb.wk Cb.wk Rc.wf)), .int .i64 0]) rfl rfl) ?_
 refine w_val (y_ext (v := .string (str (Rc.lock Cb.wk Cb.wk Cb.wk Rc.wf))) (ev (.tuple #[.string (str (Rc.lock Cb.wk Cb.wk Cb.wk Rc.wf)), .int .i64 0]) rfl rfl) rfl) ?_
 refine w_val (y_ext (v := .int .i64 0) (ev (.tuple #[.string (str (Rc.lock Cb.wk Cb.wk Cb.wk Rc.wf)), .int .i64 0]) rfl rfl) rfl) ?_
 refine w_as (ev (.string (str (Rc.lock Cb.wk Cb.wk Cb.wk Rc.wf))) rfl rfl) ?_
 refine w_as (ev (.int .i64 0) rfl rfl) ?_
 refine nt ?_
 refine sr ?_
 refine w_mv (ev (.string (str Cb.wk)) rfl rfl) ?_
 refine w_mv (ev (.string (str Cb.wk)) rfl rfl) ?_
 refine w_mv (ev (.string (str (Rc.lock Cb.wk Cb.wk Cb.wk Rc.wf))) rfl rfl) ?_
 refine w_call (Try.func39) (by kernel_rfl) rfl (m3 (ev (.string (str Cb.wk)) rfl rfl) (ev (.string (str Cb.wk)) rfl rfl) (ev (.string (str (Rc.lock Cb.wk Cb.wk Cb.wk Rc.wf))) rfl rfl)) (lockBack Cb.wk Cb.wk (Or.inl rfl) rfl Cb.wk Rc.wf (by decide) (by decide) rfl w3) ?_
 rintro _ w5 ⟨rfl, hb6⟩
 refine ⟨_, rfl, ?_⟩
 replace hk := thenB hk hb6
 refine w_mv (ev (.tuple #[.string (str Cb.wk), .int .i64 0]) rfl rfl) ?_
 refine w_val (y_ext (v := .string (str Cb.wk)) (ev (.tuple #[.string (str Cb.wk), .int .i64 0]) rfl rfl) rfl) ?_
 refine w_val (y_ext (v := .int .i64 0) (ev (.tuple #[.string (str Cb.wk), .int .i64 0]) rfl rfl) rfl) ?_
 refine w_as (ev (.string (str Cb.wk)) rfl rfl) ?_
 refine w_as (ev (.int .i64 0) rfl rfl) ?_
 refine nt ?_
 refine sr ?_
 refine w_mv (ev (.int .i64 0) rfl rfl) ?_
 refine w_val (y_bin (ev (.int .i64 0) rfl rfl) (evc (.int .i64 0)) b_eql) ?_
 refine w_mv (ev (.bool true) rfl rfl) ?_
 refine w_val_g (v := .int .i64 (((Rc.fl 16) : Nat) : Int)) (want_yes (j := 2) rfl rfl (ev (.bool true) rfl rfl) rfl) (y_mv (ev (.int .i64 (((Rc.fl 16) : Nat) : Int)) rfl rfl)) ?_
 refine w_val_g (want_yes (j := 2) rfl rfl (ev (.bool true) rfl rfl) rfl) (y_bin (ev (.int .i64 (((Rc.fl 16) : Nat) : Int)) rfl rfl) (evc (.int .i64 12)) b_eql) ?_
 refine w_val (y_pick_t (ev (.bool true) rfl rfl) (ev (.bool (decide ((((Rc.fl 16) : Nat) : Int) = 12))) rfl rfl)) ?_
 refine w_mv (ev (.bool (decide ((((Rc.fl 16) : Nat) : Int) = 12))) rfl rfl) ?_
 have hc7 : (((Rc.fl 16) : Nat) : Int) = 12 := by rfl
 refine w_val_g (v := .int .i64 0) (want_yes (j := 6) rfl rfl (ev (.bool true) (Eq.trans (b := .bool (decide ((((Rc.fl 16) : Nat) : Int) = 12))) rfl (by rw [decide_eq_true hc7])) rfl) rfl) (y_mv (ev (.int .i64 0) rfl rfl)) ?_
 refine w_val_g (want_yes (j := 6) rfl rfl (ev (.bool true) (Eq.trans (b := .bool (decide ((((Rc.fl 16) : Nat) : Int) = 12))) rfl (by rw [decide_eq_true hc7])) rfl) rfl) (y_bin (ev (.int .i64 0) rfl rfl) (evc (.int .i64 0)) b_eql) ?_
 refine w_val (y_pick_t (ev (.bool true) (Eq.trans (b := .bool (decide ((((Rc.fl 16) : Nat) : Int) = 12))) rfl (by rw [decide_eq_true hc7])) rfl) (ev (.bool true) rfl rfl)) ?_
 refine w_mv (ev (.bool true) rfl rfl) ?_
 refine w_val_g (v := .string (str (Rc.lock Cb.wk Cb.wk Cb.wk Rc.wf))) (want_yes (j := 10) rfl rfl (ev (.bool true) rfl rfl) rfl) (y_mv (ev (.string (str (Rc.lock Cb.wk Cb.wk Cb.wk Rc.wf))) rfl rfl)) ?_
 refine w_val_g (want_yes (j := 10) rfl rfl (ev (.bool true) rfl rfl) rfl) (y_len (ev (.string (str (Rc.lock Cb.wk Cb.wk Cb.wk Rc.wf))) rfl rfl) Try.underlying9) ?_
 refine w_val_g (want_yes (j := 10) rfl rfl (ev (.bool true) rfl rfl) rfl) (y_bin (ev (.int .i64 (((Rc.lock Cb.wk Cb.wk Cb.wk Rc.wf).length : Nat) : Int)) rfl rfl) (evc (.int .i64 32)) b_eql) ?_
 refine w_val (y_pick_t (ev (.bool true) rfl rfl) (ev (.bool (decide ((((Rc.lock Cb.wk Cb.wk Cb.wk Rc.wf).length : Nat) : Int) = 32))) rfl rfl)) ?_
 refine w_mv (ev (.bool (decide ((((Rc.lock Cb.wk Cb.wk Cb.wk Rc.wf).length : Nat) : Int) = 32))) rfl rfl) ?_
 have hc8 : (((Rc.lock Cb.wk Cb.wk Cb.wk Rc.wf).length : Nat) : Int) = 32 := by rw [Rc.lock_len]; rfl
 refine w_val_g (v := .int .i64 0) (want_yes (j := 15) rfl rfl (ev (.bool true) (Eq.trans (b := .bool (decide ((((Rc.lock Cb.wk Cb.wk Cb.wk Rc.wf).length : Nat) : Int) = 32))) rfl (by rw [decide_eq_true hc8])) rfl) rfl) (y_mv (ev (.int .i64 0) rfl rfl)) ?_
 refine w_val_g (want_yes (j := 15) rfl rfl (ev (.bool true) (Eq.trans (b := .bool (decide ((((Rc.lock Cb.wk Cb.wk Cb.wk Rc.wf).length : Nat) : Int) = 32))) rfl (by rw [decide_eq_true hc8])) rfl) rfl) (y_bin (ev (.int .i64 0) rfl rfl) (evc (.int .i64 0)) b_eql) ?_
 refine w_val (y_pick_t (ev (.bool true) (Eq.trans (b := .bool (decide ((((Rc.lock Cb.wk Cb.wk Cb.wk Rc.wf).length : Nat) : Int) = 32))) rfl (by rw [decide_eq_true hc8])) rfl) (ev (.bool true) rfl rfl)) ?_
 refine w_mv (ev (.bool true) rfl rfl) ?_
 refine w_val_g (v := .string (str Cb.wk)) (want_yes (j := 19) rfl rfl (ev (.bool true) rfl rfl) rfl) (y_mv (ev (.string (str Cb.wk)) rfl rfl)) ?_
 refine w_val_g (v := .string (str Cb.wk)) (want_yes (j := 19) rfl rfl (ev (.bool true) rfl rfl) rfl) (y_mv (ev (.string (str Cb.wk)) rfl rfl)) ?_
 refine w_val_g (want_yes (j := 19) rfl rfl (ev (.bool true) rfl rfl) rfl) (y_bin (ev (.string (str Cb.wk)) rfl rfl) (ev (.string (str Cb.wk)) rfl rfl) b_eqs_same) ?_
 refine w_val (y_pick_t (ev (.bool true) rfl rfl) (ev (.bool true) rfl rfl)) ?_
 refine w_as (ev (.bool true) rfl rfl) ?_
 refine nt ?_
 refine wp_ret ?_
 refine fin_ret1 rfl (ev (.bool true) rfl rfl) ?_
 exact ⟨rfl, hk⟩

set_option maxRecDepth 100000 in
set_option maxHeartbeats 1000000 in
theorem recipNames_256  (w0 : World) : Calls Try.prog 11 #[.int .i64 256] w0 fun e w' => e = .returned (.bool true) ∧ Below w0.heap.size w0 w' := by
 refine enter (n := 28) Try.func11 rfl rfl rfl ?_
 have hk : Below w0.heap.size w0 w0 := Below.refl _ _
 refine sr ?_
 refine w_as (evc (.bool false)) ?_
 refine nt ?_
 refine sr ?_
 refine w_mv (ev (.int .i64 256) rfl rfl) ?_
 refine w_call (Try.func41) (by kernel_rfl) rfl (m1 (ev (.int .i64 256) rfl rfl)) (name_256  w0) ?_
 rintro _ w1 ⟨rfl, hb2⟩
 refine ⟨_, rfl, ?_⟩
 replace hk := thenB hk hb2
 refine w_mv (ev (.tuple #[.string (str Rc.n256), .int .i64 0]) rfl rfl) ?_
 refine w_val (y_ext (v := .string (str Rc.n256)) (ev (.tuple #[.string (str Rc.n256), .int .i64 0]) rfl rfl) rfl) ?_
 refine w_val (y_ext (v := .int .i64 0) (ev (.tuple #[.string (str Rc.n256), .int .i64 0]) rfl rfl) rfl) ?_
 refine w_as (ev (.string (str Rc.n256)) rfl rfl) ?_
 refine w_as (ev (.int .i64 0) rfl rfl) ?_
 refine nt ?_
 refine sr ?_
 refine w_mv (ev (.int .i64 256) rfl rfl) ?_
 refine w_call (Try.func42) (by kernel_rfl) rfl (m1 (ev (.int .i64 256) rfl rfl)) (refName_256  w1) ?_
 rintro _ w3 ⟨rfl, hb4⟩
 refine ⟨_, rfl, ?_⟩
 replace hk := thenB hk hb4
 refine w_mv (ev (.tuple #[.string (str Rc.n256), .int .i64 0]) rfl rfl) ?_
 refine w_val (y_ext (v := .string (str Rc.n256)) (ev (.tuple #[.string (str Rc.n256), .int .i64 0]) rfl rfl) rfl) ?_
 refine w_val (y_ext (v := .int .i64 0) (ev (.tuple #[.string (str Rc.n256), .int .i64 0]) rfl rfl) rfl) ?_
 refine w_as (ev (.string (str Rc.n256)) rfl rfl) ?_
 refine w_as (ev (.int .i64 0) rfl rfl) ?_
 refine nt ?_
 refine sr ?_
 refine w_call (Try.func36) (by kernel_rfl) rfl m0 (recWakes_c  w3) ?_
 rintro _ w5 ⟨rfl, hb6⟩
 refine ⟨_, rfl, ?_⟩
 replace hk := thenB hk hb6
 refine w_mv (ev (.bool true) rfl rfl) ?_
 refine w_val_g (v := .string (str Rc.n256)) (want_yes (j := 1) rfl rfl (ev (.bool true) rfl rfl) rfl) (y_mv (ev (.string (str Rc.n256)) rfl rfl)) ?_
 refine w_val_g (v := .string (str Rc.n256)) (want_yes (j := 1) rfl rfl (ev (.bool true) rfl rfl) rfl) (y_mv (ev (.string (str Rc.n256)) rfl rfl)) ?_
 refine w_val_g (want_yes (j := 1) rfl rfl (ev (.bool true) rfl rfl) rfl) (y_bin (ev (.string (str Rc.n256)) rfl rfl) (ev (.string (str Rc.n256)) rfl rfl) b_eqs_same) ?_
 refine w_val (y_pick_t (ev (.bool true) rfl rfl) (ev (.bool true) rfl rfl)) ?_
 refine w_mv (ev (.bool true) rfl rfl) ?_
 refine w_val_g (v := .int .i64 0) (want_yes (j := 6) rfl rfl (ev (.bool true) rfl rfl) rfl) (y_mv (ev (.int .i64 0) rfl rfl)) ?_
 refine w_val_g (v := .int .i64 0) (want_yes (j := 6) rfl rfl (ev (.bool true) rfl rfl) rfl) (y_mv (ev (.int .i64 0) rfl rfl)) ?_
 refine w_val_g (want_yes (j := 6) rfl rfl (ev (.bool true) rfl rfl) rfl) (y_bin (ev (.int .i64 0) rfl rfl) (ev (.int .i64 0) rfl rfl) b_eql) ?_
 refine w_val (y_pick_t (ev (.bool true) rfl rfl) (ev (.bool true) rfl rfl)) ?_
 refine w_as (ev (.bool true) rfl rfl) ?_
 refine nt ?_
 refine wp_ret ?_
 refine fin_ret1 rfl (ev (.bool true) rfl rfl) ?_
 exact ⟨rfl, hk⟩

set_option maxRecDepth 100000 in
set_option maxHeartbeats 1000000 in
theorem recipNames_384  (w0 : World) : Calls Try.prog 11 #[.int .i64 384] w0 fun e w' => e = .returned (.bool true) ∧ Below w0.heap.size w0 w' := by
 refine enter (n := 28) Try.func11 rfl rfl rfl ?_
 have hk : Below w0.heap.size w0 w0 := Below.refl _ _
 refine sr ?_
 refine w_as (evc (.bool false)) ?_
 refine nt ?_
 refine sr ?_
 refine w_mv (ev (.int .i64 384) rfl rfl) ?_
 refine w_call (Try.func41) (by kernel_rfl) rfl (m1 (ev (.int .i64 384) rfl rfl)) (name_384  w0) ?_
 rintro _ w1 ⟨rfl, hb2⟩
 refine ⟨_, rfl, ?_⟩
 replace hk := thenB hk hb2
 refine w_mv (ev (.tuple #[.string (str Rc.n384), .int .i64 0]) rfl rfl) ?_
 refine w_val (y_ext (v := .string (str Rc.n384)) (ev (.tuple #[.string (str Rc.n384), .int .i64 0]) rfl rfl) rfl) ?_
 refine w_val (y_ext (v := .int .i64 0) (ev (.tuple #[.string (str Rc.n384), .int .i64 0]) rfl rfl) rfl) ?_
 refine w_as (ev (.string (str Rc.n384)) rfl rfl) ?_
 refine w_as (ev (.int .i64 0) rfl rfl) ?_
 refine nt ?_
 refine sr ?_
 refine w_mv (ev (.int .i64 384) rfl rfl) ?_
 refine w_call (Try.func42) (by kernel_rfl) rfl (m1 (ev (.int .i64 384) rfl rfl)) (refName_384  w1) ?_
 rintro _ w3 ⟨rfl, hb4⟩
 refine ⟨_, rfl, ?_⟩
 replace hk := thenB hk hb4
 refine w_mv (ev (.tuple #[.string (str Rc.n384), .int .i64 0]) rfl rfl) ?_
 refine w_val (y_ext (v := .string (str Rc.n384)) (ev (.tuple #[.string (str Rc.n384), .int .i64 0]) rfl rfl) rfl) ?_
 refine w_val (y_ext (v := .int .i64 0) (ev (.tuple #[.string (str Rc.n384), .int .i64 0]) rfl rfl) rfl) ?_
 refine w_as (ev (.string (str Rc.n384)) rfl rfl) ?_
 refine w_as (ev (.int .i64 0) rfl rfl) ?_
 refine nt ?_
 refine sr ?_
 refine w_call (Try.func36) (by kernel_rfl) rfl m0 (recWakes_c  w3) ?_
 rintro _ w5 ⟨rfl, hb6⟩
 refine ⟨_, rfl, ?_⟩
 replace hk := thenB hk hb6
 refine w_mv (ev (.bool true) rfl rfl) ?_
 refine w_val_g (v := .string (str Rc.n384)) (want_yes (j := 1) rfl rfl (ev (.bool true) rfl rfl) rfl) (y_mv (ev (.string (str Rc.n384)) rfl rfl)) ?_
 refine w_val_g (v := .string (str Rc.n384)) (want_yes (j := 1) rfl rfl (ev (.bool true) rfl rfl) rfl) (y_mv (ev (.string (str Rc.n384)) rfl rfl)) ?_
 refine w_val_g (want_yes (j := 1) rfl rfl (ev (.bool true) rfl rfl) rfl) (y_bin (ev (.string (str Rc.n384)) rfl rfl) (ev (.string (str Rc.n384)) rfl rfl) b_eqs_same) ?_
 refine w_val (y_pick_t (ev (.bool true) rfl rfl) (ev (.bool true) rfl rfl)) ?_
 refine w_mv (ev (.bool true) rfl rfl) ?_
 refine w_val_g (v := .int .i64 0) (want_yes (j := 6) rfl rfl (ev (.bool true) rfl rfl) rfl) (y_mv (ev (.int .i64 0) rfl rfl)) ?_
 refine w_val_g (v := .int .i64 0) (want_yes (j := 6) rfl rfl (ev (.bool true) rfl rfl) rfl) (y_mv (ev (.int .i64 0) rfl rfl)) ?_
 refine w_val_g (want_yes (j := 6) rfl rfl (ev (.bool true) rfl rfl) rfl) (y_bin (ev (.int .i64 0) rfl rfl) (ev (.int .i64 0) rfl rfl) b_eql) ?_
 refine w_val (y_pick_t (ev (.bool true) rfl rfl) (ev (.bool true) rfl rfl)) ?_
 refine w_as (ev (.bool true) rfl rfl) ?_
 refine nt ?_
 refine wp_ret ?_
 refine fin_ret1 rfl (ev (.bool true) rfl rfl) ?_
 exact ⟨rfl, hk⟩

set_option maxRecDepth 100000 in
set_option maxHeartbeats 1000000 in
theorem recipNames_512  (w0 : World) : Calls Try.prog 11 #[.int .i64 512] w0 fun e w' => e = .returned (.bool true) ∧ Below w0.heap.size w0 w' := by
 refine enter (n := 28) Try.func11 rfl rfl rfl ?_
 have hk : Below w0.heap.size w0 w0 := Below.refl _ _
 refine sr ?_
 refine w_as (evc (.bool false)) ?_
 refine nt ?_
 refine sr ?_
 refine w_mv (ev (.int .i64 512) rfl rfl) ?_
 refine w_call (Try.func41) (by kernel_rfl) rfl (m1 (ev (.int .i64 512) rfl rfl)) (name_512  w0) ?_
 rintro _ w1 ⟨rfl, hb2⟩
 refine ⟨_, rfl, ?_⟩
 replace hk := thenB hk hb2
 refine w_mv (ev (.tuple #[.string (str Rc.n512), .int .i64 0]) rfl rfl) ?_
 refine w_val (y_ext (v := .string (str Rc.n512)) (ev (.tuple #[.string (str Rc.n512), .int .i64 0]) rfl rfl) rfl) ?_
 refine w_val (y_ext (v := .int .i64 0) (ev (.tuple #[.string (str Rc.n512), .int .i64 0]) rfl rfl) rfl) ?_
 refine w_as (ev (.string (str Rc.n512)) rfl rfl) ?_
 refine w_as (ev (.int .i64 0) rfl rfl) ?_
 refine nt ?_
 refine sr ?_
 refine w_mv (ev (.int .i64 512) rfl rfl) ?_
 refine w_call (Try.func42) (by kernel_rfl) rfl (m1 (ev (.int .i64 512) rfl rfl)) (refName_512  w1) ?_
 rintro _ w3 ⟨rfl, hb4⟩
 refine ⟨_, rfl, ?_⟩
 replace hk := thenB hk hb4
 refine w_mv (ev (.tuple #[.string (str Rc.n512), .int .i64 0]) rfl rfl) ?_
 refine w_val (y_ext (v := .string (str Rc.n512)) (ev (.tuple #[.string (str Rc.n512), .int .i64 0]) rfl rfl) rfl) ?_
 refine w_val (y_ext (v := .int .i64 0) (ev (.tuple #[.string (str Rc.n512), .int .i64 0]) rfl rfl) rfl) ?_
 refine w_as (ev (.string (str Rc.n512)) rfl rfl) ?_
 refine w_as (ev (.int .i64 0) rfl rfl) ?_
 refine nt ?_
 refine sr ?_
 refine w_call (Try.func36) (by kernel_rfl) rfl m0 (recWakes_c  w3) ?_
 rintro _ w5 ⟨rfl, hb6⟩
 refine ⟨_, rfl, ?_⟩
 replace hk := thenB hk hb6
 refine w_mv (ev (.bool true) rfl rfl) ?_
 refine w_val_g (v := .string (str Rc.n512)) (want_yes (j := 1) rfl rfl (ev (.bool true) rfl rfl) rfl) (y_mv (ev (.string (str Rc.n512)) rfl rfl)) ?_
 refine w_val_g (v := .string (str Rc.n512)) (want_yes (j := 1) rfl rfl (ev (.bool true) rfl rfl) rfl) (y_mv (ev (.string (str Rc.n512)) rfl rfl)) ?_
 refine w_val_g (want_yes (j := 1) rfl rfl (ev (.bool true) rfl rfl) rfl) (y_bin (ev (.string (str Rc.n512)) rfl rfl) (ev (.string (str Rc.n512)) rfl rfl) b_eqs_same) ?_
 refine w_val (y_pick_t (ev (.bool true) rfl rfl) (ev (.bool true) rfl rfl)) ?_
 refine w_mv (ev (.bool true) rfl rfl) ?_
 refine w_val_g (v := .int .i64 0) (want_yes (j := 6) rfl rfl (ev (.bool true) rfl rfl) rfl) (y_mv (ev (.int .i64 0) rfl rfl)) ?_
 refine w_val_g (v := .int .i64 0) (want_yes (j := 6) rfl rfl (ev (.bool true) rfl rfl) rfl) (y_mv (ev (.int .i64 0) rfl rfl)) ?_
 refine w_val_g (want_yes (j := 6) rfl rfl (ev (.bool true) rfl rfl) rfl) (y_bin (ev (.int .i64 0) rfl rfl) (ev (.int .i64 0) rfl rfl) b_eql) ?_
 refine w_val (y_pick_t (ev (.bool true) rfl rfl) (ev (.bool true) rfl rfl)) ?_
 refine w_as (ev (.bool true) rfl rfl) ?_
 refine nt ?_
 refine wp_ret ?_
 refine fin_ret1 rfl (ev (.bool true) rfl rfl) ?_
 exact ⟨rfl, hk⟩

set_option maxRecDepth 100000 in
set_option maxHeartbeats 1000000 in
theorem recipNames_o (k : Int) (h1 : k ≠ 256) (h2 : k ≠ 384) (h3 : k ≠ 512) (w0 : World) : Calls Try.prog 11 #[.int .i64 k] w0 fun e w' => e = .returned (.bool true) ∧ Below w0.heap.size w0 w' := by
 refine enter (n := 28) Try.func11 rfl rfl rfl ?_
 have hk : Below w0.heap.size w0 w0 := Below.refl _ _
 refine sr ?_
 refine w_as (evc (.bool false)) ?_
 refine nt ?_
 refine sr ?_
 refine w_mv (ev (.int .i64 k) rfl rfl) ?_
 refine w_call (Try.func41) (by kernel_rfl) rfl (m1 (ev (.int .i64 k) rfl rfl)) (name_o k h1 h2 h3 w0) ?_
 rintro _ w1 ⟨rfl, hb2⟩
 refine ⟨_, rfl, ?_⟩
 replace hk := thenB hk hb2
 refine w_mv (ev (.tuple #[.string (str ([] : List (BitVec 8))), .int .i64 11]) rfl rfl) ?_
 refine w_val (y_ext (v := .string (str ([] : List (BitVec 8)))) (ev (.tuple #[.string (str ([] : List (BitVec 8))), .int .i64 11]) rfl rfl) rfl) ?_
 refine w_val (y_ext (v := .int .i64 11) (ev (.tuple #[.string (str ([] : List (BitVec 8))), .int .i64 11]) rfl rfl) rfl) ?_
 refine w_as (ev (.string (str ([] : List (BitVec 8)))) rfl rfl) ?_
 refine w_as (ev (.int .i64 11) rfl rfl) ?_
 refine nt ?_
 refine sr ?_
 refine w_mv (ev (.int .i64 k) rfl rfl) ?_
 refine w_call (Try.func42) (by kernel_rfl) rfl (m1 (ev (.int .i64 k) rfl rfl)) (refName_o k h1 h2 h3 w1) ?_
 rintro _ w3 ⟨rfl, hb4⟩
 refine ⟨_, rfl, ?_⟩
 replace hk := thenB hk hb4
 refine w_mv (ev (.tuple #[.string (str ([] : List (BitVec 8))), .int .i64 11]) rfl rfl) ?_
 refine w_val (y_ext (v := .string (str ([] : List (BitVec 8)))) (ev (.tuple #[.string (str ([] : List (BitVec 8))), .int .i64 11]) rfl rfl) rfl) ?_
 refine w_val (y_ext (v := .int .i64 11) (ev (.tuple #[.string (str ([] : List (BitVec 8))), .int .i64 11]) rfl rfl) rfl) ?_
 refine w_as (ev (.string (str ([] : List (BitVec 8)))) rfl rfl) ?_
 refine w_as (ev (.int .i64 11) rfl rfl) ?_
 refine nt ?_
 refine sr ?_
 refine w_call (Try.func36) (by kernel_rfl) rfl m0 (recWakes_c  w3) ?_
 rintro _ w5 ⟨rfl, hb6⟩
 refine ⟨_, rfl, ?_⟩
 replace hk := thenB hk hb6
 refine w_mv (ev (.bool true) rfl rfl) ?_
 refine w_val_g (v := .string (str ([] : List (BitVec 8)))) (want_yes (j := 1) rfl rfl (ev (.bool true) rfl rfl) rfl) (y_mv (ev (.string (str ([] : List (BitVec 8)))) rfl rfl)) ?_
 refine w_val_g (v := .string (str ([] : List (BitVec 8)))) (want_yes (j := 1) rfl rfl (ev (.bool true) rfl rfl) rfl) (y_mv (ev (.string (str ([] : List (BitVec 8)))) rfl rfl)) ?_
 refine w_val_g (want_yes (j := 1) rfl rfl (ev (.bool true) rfl rfl) rfl) (y_bin (ev (.string (str ([] : List (BitVec 8)))) rfl rfl) (ev (.string (str ([] : List (BitVec 8)))) rfl rfl) b_eqs_same) ?_
 refine w_val (y_pick_t (ev (.bool true) rfl rfl) (ev (.bool true) rfl rfl)) ?_
 refine w_mv (ev (.bool true) rfl rfl) ?_
 refine w_val_g (v := .int .i64 11) (want_yes (j := 6) rfl rfl (ev (.bool true) rfl rfl) rfl) (y_mv (ev (.int .i64 11) rfl rfl)) ?_
 refine w_val_g (v := .int .i64 11) (want_yes (j := 6) rfl rfl (ev (.bool true) rfl rfl) rfl) (y_mv (ev (.int .i64 11) rfl rfl)) ?_
 refine w_val_g (want_yes (j := 6) rfl rfl (ev (.bool true) rfl rfl) rfl) (y_bin (ev (.int .i64 11) rfl rfl) (ev (.int .i64 11) rfl rfl) b_eql) ?_
 refine w_val (y_pick_t (ev (.bool true) rfl rfl) (ev (.bool true) rfl rfl)) ?_
 refine w_as (ev (.bool true) rfl rfl) ?_
 refine nt ?_
 refine wp_ret ?_
 refine fin_ret1 rfl (ev (.bool true) rfl rfl) ?_
 exact ⟨rfl, hk⟩

theorem walk_RecipNames (k : Int) (hw : (Lit.int .i64 k).wf = true) (w : World) : Calls Try.prog 11 #[.int .i64 k] w fun e w' => e = .returned (.bool true) ∧ Below w.heap.size w w' := by
  by_cases h1 : k = 256
  · subst h1; exact recipNames_256 w
  · by_cases h2 : k = 384
    · subst h2; exact recipNames_384 w
    · by_cases h3 : k = 512
      · subst h3; exact recipNames_512 w
      · exact recipNames_o k h1 h2 h3 w

set_option maxRecDepth 100000 in
set_option maxHeartbeats 1000000 in
theorem recipFills_s (n : Int) (hn : ¬ (3 ≤ n ∧ n ≤ 255)) (w0 : World) : Calls Try.prog 8 #[.int .i64 n] w0 fun e w' => e = .returned (.bool true) ∧ Below w0.heap.size w0 w' := by
 refine enter (n := 28) Try.func8 rfl rfl rfl ?_
 have hk : Below w0.heap.size w0 w0 := Below.refl _ _
 refine sr ?_
 refine w_as (evc (.bool false)) ?_
 refine nt ?_
 refine sr ?_
 refine w_mv (ev (.int .i64 n) rfl rfl) ?_
 refine w_call (Try.func34) (by kernel_rfl) rfl (m1 (ev (.int .i64 n) rfl rfl)) (fill_s n hn w0) ?_
 rintro _ w1 ⟨rfl, hb2⟩
 refine ⟨_, rfl, ?_⟩
 replace hk := thenB hk hb2
 refine w_mv (ev (.tuple #[.int .i64 0, .int .i64 6]) rfl rfl) ?_
 refine w_val (y_ext (v := .int .i64 0) (ev (.tuple #[.int .i64 0, .int .i64 6]) rfl rfl) rfl) ?_
 refine w_val (y_ext (v := .int .i64 6) (ev (.tuple #[.int .i64 0, .int .i64 6]) rfl rfl) rfl) ?_
 refine w_as (ev (.int .i64 0) rfl rfl) ?_
 refine w_as (ev (.int .i64 6) rfl rfl) ?_
 refine nt ?_
 refine sr ?_
 refine w_mv (ev (.int .i64 n) rfl rfl) ?_
 refine w_call (Try.func35) (by kernel_rfl) rfl (m1 (ev (.int .i64 n) rfl rfl)) (refFill_s n hn w1) ?_
 rintro _ w3 ⟨rfl, hb4⟩
 refine ⟨_, rfl, ?_⟩
 replace hk := thenB hk hb4
 refine w_mv (ev (.tuple #[.int .i64 0, .int .i64 6]) rfl rfl) ?_
 refine w_val (y_ext (v := .int .i64 0) (ev (.tuple #[.int .i64 0, .int .i64 6]) rfl rfl) rfl) ?_
 refine w_val (y_ext (v := .int .i64 6) (ev (.tuple #[.int .i64 0, .int .i64 6]) rfl rfl) rfl) ?_
 refine w_as (ev (.int .i64 0) rfl rfl) ?_
 refine w_as (ev (.int .i64 6) rfl rfl) ?_
 refine nt ?_
 refine sr ?_
 refine w_call (Try.func36) (by kernel_rfl) rfl m0 (recWakes_c  w3) ?_
 rintro _ w5 ⟨rfl, hb6⟩
 refine ⟨_, rfl, ?_⟩
 replace hk := thenB hk hb6
 refine w_mv (ev (.bool true) rfl rfl) ?_
 refine w_val_g (v := .int .i64 0) (want_yes (j := 1) rfl rfl (ev (.bool true) rfl rfl) rfl) (y_mv (ev (.int .i64 0) rfl rfl)) ?_
 refine w_val_g (v := .int .i64 0) (want_yes (j := 1) rfl rfl (ev (.bool true) rfl rfl) rfl) (y_mv (ev (.int .i64 0) rfl rfl)) ?_
 refine w_val_g (want_yes (j := 1) rfl rfl (ev (.bool true) rfl rfl) rfl) (y_bin (ev (.int .i64 0) rfl rfl) (ev (.int .i64 0) rfl rfl) b_eql) ?_
 refine w_val (y_pick_t (ev (.bool true) rfl rfl) (ev (.bool true) rfl rfl)) ?_
 refine w_mv (ev (.bool true) rfl rfl) ?_
 refine w_val_g (v := .int .i64 6) (want_yes (j := 6) rfl rfl (ev (.bool true) rfl rfl) rfl) (y_mv (ev (.int .i64 6) rfl rfl)) ?_
 refine w_val_g (v := .int .i64 6) (want_yes (j := 6) rfl rfl (ev (.bool true) rfl rfl) rfl) (y_mv (ev (.int .i64 6) rfl rfl)) ?_
 refine w_val_g (want_yes (j := 6) rfl rfl (ev (.bool true) rfl rfl) rfl) (y_bin (ev (.int .i64 6) rfl rfl) (ev (.int .i64 6) rfl rfl) b_eql) ?_
 refine w_val (y_pick_t (ev (.bool true) rfl rfl) (ev (.bool true) rfl rfl)) ?_
 refine w_as (ev (.bool true) rfl rfl) ?_
 refine nt ?_
 refine wp_ret ?_
 refine fin_ret1 rfl (ev (.bool true) rfl rfl) ?_
 exact ⟨rfl, hk⟩

set_option maxRecDepth 100000 in
set_option maxHeartbeats 1000000 in
theorem recipFills_y (n : Nat) (h3 : 3 ≤ n) (h255 : n ≤ 255) (w0 : World) : Calls Try.prog 8 #[.int .i64 ((n : Nat) : Int)] w0 fun e w' => e = .returned (.bool true) ∧ Below w0.heap.size w0 w' := by
 refine enter (n := 28) Try.func8 rfl rfl rfl ?_
 have hk : Below w0.heap.size w0 w0 := Below.refl _ _
 refine sr ?_
 refine w_as (evc (.bool false)) ?_
 refine nt ?_
 refine sr ?_
 refine w_mv (ev (.int .i64 ((n : Nat) : Int)) rfl rfl) ?_
 refine w_call (Try.func34) (by kernel_rfl) rfl (m1 (ev (.int .i64 ((n : Nat) : Int)) rfl rfl)) (fill_y n h3 h255 w0) ?_
 rintro _ w1 ⟨rfl, hb2⟩
 refine ⟨_, rfl, ?_⟩
 replace hk := thenB hk hb2
 refine w_mv (ev (.tuple #[.int .i64 (((Rc.fl n) : Nat) : Int), .int .i64 0]) rfl rfl) ?_
 refine w_val (y_ext (v := .int .i64 (((Rc.fl n) : Nat) : Int)) (ev (.tuple #[.int .i64 (((Rc.fl n) : Nat) : Int), .int .i64 0]) rfl rfl) rfl) ?_
 refine w_val (y_ext (v := .int .i64 0) (ev (.tuple #[.int .i64 (((Rc.fl n) : Nat) : Int), .int .i64 0]) rfl rfl) rfl) ?_
 refine w_as (ev (.int .i64 (((Rc.fl n) : Nat) : Int)) rfl rfl) ?_
 refine w_as (ev (.int .i64 0) rfl rfl) ?_
 refine nt ?_
 refine sr ?_
 refine w_mv (ev (.int .i64 ((n : Nat) : Int)) rfl rfl) ?_
 refine w_call (Try.func35) (by kernel_rfl) rfl (m1 (ev (.int .i64 ((n : Nat) : Int)) rfl rfl)) (refFill_y n h3 h255 w1) ?_
 rintro _ w3 ⟨rfl, hb4⟩
 refine ⟨_, rfl, ?_⟩
 replace hk := thenB hk hb4
 refine w_mv (ev (.tuple #[.int .i64 (((Rc.fl n) : Nat) : Int), .int .i64 0]) rfl rfl) ?_
 refine w_val (y_ext (v := .int .i64 (((Rc.fl n) : Nat) : Int)) (ev (.tuple #[.int .i64 (((Rc.fl n) : Nat) : Int), .int .i64 0]) rfl rfl) rfl) ?_
 refine w_val (y_ext (v := .int .i64 0) (ev (.tuple #[.int .i64 (((Rc.fl n) : Nat) : Int), .int .i64 0]) rfl rfl) rfl) ?_
 refine w_as (ev (.int .i64 (((Rc.fl n) : Nat) : Int)) rfl rfl) ?_
 refine w_as (ev (.int .i64 0) rfl rfl) ?_
 refine nt ?_
 refine sr ?_
 refine w_call (Try.func36) (by kernel_rfl) rfl m0 (recWakes_c  w3) ?_
 rintro _ w5 ⟨rfl, hb6⟩
 refine ⟨_, rfl, ?_⟩
 replace hk := thenB hk hb6
 refine w_mv (ev (.bool true) rfl rfl) ?_
 refine w_val_g (v := .int .i64 (((Rc.fl n) : Nat) : Int)) (want_yes (j := 1) rfl rfl (ev (.bool true) rfl rfl) rfl) (y_mv (ev (.int .i64 (((Rc.fl n) : Nat) : Int)) rfl rfl)) ?_
 refine w_val_g (v := .int .i64 (((Rc.fl n) : Nat) : Int)) (want_yes (j := 1) rfl rfl (ev (.bool true) rfl rfl) rfl) (y_mv (ev (.int .i64 (((Rc.fl n) : Nat) : Int)) rfl rfl)) ?_
 refine w_val_g (want_yes (j := 1) rfl rfl (ev (.bool true) rfl rfl) rfl) (y_bin (ev (.int .i64 (((Rc.fl n) : Nat) : Int)) rfl rfl) (ev (.int .i64 (((Rc.fl n) : Nat) : Int)) rfl rfl) b_eql) ?_
 refine w_val (y_pick_t (ev (.bool true) rfl rfl) (ev (.bool (decide ((((Rc.fl n) : Nat) : Int) = (((Rc.fl n) : Nat) : Int)))) rfl rfl)) ?_
 refine w_mv (ev (.bool (decide ((((Rc.fl n) : Nat) : Int) = (((Rc.fl n) : Nat) : Int)))) rfl rfl) ?_
 have hc7 : (((Rc.fl n) : Nat) : Int) = (((Rc.fl n) : Nat) : Int) := by rfl
 refine w_val_g (v := .int .i64 0) (want_yes (j := 6) rfl rfl (ev (.bool true) (Eq.trans (b := .bool (decide ((((Rc.fl n) : Nat) : Int) = (((Rc.fl n) : Nat) : Int)))) rfl (by rw [decide_eq_true hc7])) rfl) rfl) (y_mv (ev (.int .i64 0) rfl rfl)) ?_
 refine w_val_g (v := .int .i64 0) (want_yes (j := 6) rfl rfl (ev (.bool true) (Eq.trans (b := .bool (decide ((((Rc.fl n) : Nat) : Int) = (((Rc.fl n) : Nat) : Int)))) rfl (by rw [decide_eq_true hc7])) rfl) rfl) (y_mv (ev (.int .i64 0) rfl rfl)) ?_
 refine w_val_g (want_yes (j := 6) rfl rfl (ev (.bool true) (Eq.trans (b := .bool (decide ((((Rc.fl n) : Nat) : Int) = (((Rc.fl n) : Nat) : Int)))) rfl (by rw [decide_eq_true hc7])) rfl) rfl) (y_bin (ev (.int .i64 0) rfl rfl) (ev (.int .i64 0) rfl rfl) b_eql) ?_
 refine w_val (y_pick_t (ev (.bool true) (Eq.trans (b := .bool (decide ((((Rc.fl n) : Nat) : Int) = (((Rc.fl n) : Nat) : Int)))) rfl (by rw [decide_eq_true hc7])) rfl) (ev (.bool true) rfl rfl)) ?_
 refine w_as (ev (.bool true) rfl rfl) ?_
 refine nt ?_
 refine wp_ret ?_
 refine fin_ret1 rfl (ev (.bool true) rfl rfl) ?_
 exact ⟨rfl, hk⟩

theorem walk_RecipFills (n : Int) (hw : (Lit.int .i64 n).wf = true) (w : World) : Calls Try.prog 8 #[.int .i64 n] w fun e w' => e = .returned (.bool true) ∧ Below w.heap.size w w' := by
  by_cases h : 3 ≤ n ∧ n ≤ 255
  · obtain ⟨k, rfl⟩ : ∃ k : Nat, n = k := ⟨n.toNat, by omega⟩
    exact recipFills_y k (by omega) (by omega) w
  · exact recipFills_s n h w

set_option maxRecDepth 100000 in
set_option maxHeartbeats 1000000 in
theorem recipLocks_k (key vi : List (BitVec 8)) (hok : ¬ Aes.okKey key.length) (t f : List (BitVec 8)) (w0 : World) : Calls Try.prog 9 #[.agg (arr 4 (fun j => if j < 1 then .string (str key) else if j < 2 then .string (str vi) else if j < 3 then .string (str t) else .string (str f)))] w0 fun e w' => e = .returned (.bool true) ∧ Below w0.heap.size w0 w' := by
 refine enter (n := 64) Try.func9 rfl rfl rfl ?_
 have hk : Below w0.heap.size w0 w0 := Below.refl _ _
 refine sr ?_
 refine w_box (m := 4) (F := fun j => if j < 1 then .string (str key) else if j < 2 then .string (str vi) else if j < 3 then .string (str t) else .string (str f)) (ev (.agg (arr 4 (fun j => if j < 1 then .string (str key) else if j < 2 then .string (str vi) else if j < 3 then .string (str t) else .string (str f)))) rfl rfl) rfl ?_
 intro b_x w1 hbe_b_x r_b_x hb2
 have ge_b_x : w0.heap.size ≤ b_x := by have := hk.size; omega
 clear hbe_b_x
 replace hk := thenB hk hb2
 refine w_as (evc (.bool false)) ?_
 refine nt ?_
 refine wp_seq ?_
 refine sr ?_
 refine w_call (Try.func36) (by kernel_rfl) rfl m0 (recWakes_c  w1) ?_
 rintro _ w3 ⟨rfl, hb4⟩
 refine ⟨_, rfl, ?_⟩
 replace r_b_x := r_b_x.step hb4
 replace hk := thenB hk hb4
 refine w_val (y_not (ev (.bool true) rfl rfl)) ?_
 refine nt ?_
 refine c_ff (ev (.bool false) rfl rfl) ?_
 refine wp_skip ?_
 refine then_n ?_
 refine sr ?_
 refine w_val (v := pt b_x 0) (y_off (y_fa (ev (pt b_x 0) rfl rfl) (RecLawsT.fa42_0 _ _)) (by first | rfl | omega)) ?_
 refine w_val (v := .string (str key)) (y_ld (ev (pt b_x 0) rfl rfl) RecLawsT.sc9 (r_b_x.val (by omega) (etv (if_pos (by omega))))) ?_
 refine w_val (v := pt b_x 1) (y_off (y_fa (ev (pt b_x 0) rfl rfl) (RecLawsT.fa42_1 _ _)) (by first | rfl | omega)) ?_
 refine w_val (v := .string (str vi)) (y_ld (ev (pt b_x 1) rfl rfl) RecLawsT.sc9 (r_b_x.val (by omega) ((if_neg (by omega)).trans (etv (if_pos (by omega)))))) ?_
 refine w_val (v := pt b_x 2) (y_off (y_fa (ev (pt b_x 0) rfl rfl) (RecLawsT.fa42_2 _ _)) (by first | rfl | omega)) ?_
 refine w_val (v := .string (str t)) (y_ld (ev (pt b_x 2) rfl rfl) RecLawsT.sc9 (r_b_x.val (by omega) ((if_neg (by omega)).trans ((if_neg (by omega)).trans (etv (if_pos (by omega))))))) ?_
 refine w_val (v := pt b_x 3) (y_off (y_fa (ev (pt b_x 0) rfl rfl) (RecLawsT.fa42_3 _ _)) (by first | rfl | omega)) ?_
 refine w_val (v := .string (str f)) (y_ld (ev (pt b_x 3) rfl rfl) RecLawsT.sc9 (r_b_x.val (by omega) ((if_neg (by omega)).trans ((if_neg (by omega)).trans ((if_neg (by omega)).trans (by first | with_reducible rfl | (with_reducible congr 1 <;> omega) | (with_reducible congr 2 <;> omega) | (with_reducible congr 3 <;> omega) | rfl)))))) ?_
 refine w_call (Try.func37) (by kernel_rfl) rfl (m4 (ev (.string (str key)) rfl rfl) (ev (.string (str vi)) rfl rfl) (ev (.string (str t)) rfl rfl) (ev (.string (str f)) rfl rfl)) (lock_k key vi hok t f w3) ?_
 rintro _ w5 ⟨rfl, hb6⟩
 refine ⟨_, rfl, ?_⟩
 replace r_b_x := r_b_x.step hb6
 replace hk := thenB hk hb6
 refine w_mv (ev (.tuple #[.string (str ([] : List (BitVec 8))), .int .i64 3]) rfl rfl) ?_
 refine w_val (y_ext (v := .string (str ([] : List (BitVec 8)))) (ev (.tuple #[.string (str ([] : List (BitVec 8))), .int .i64 3]) rfl rfl) rfl) ?_
 refine w_val (y_ext (v := .int .i64 3) (ev (.tuple #[.string (str ([] : List (BitVec 8))), .int .i64 3]) rfl rfl) rfl) ?_
 refine w_as (ev (.string (str ([] : List (BitVec 8)))) rfl rfl) ?_
 refine w_as (ev (.int .i64 3) rfl rfl) ?_
 refine nt ?_
 refine sr ?_
 refine w_val (v := pt b_x 0) (y_off (y_fa (ev (pt b_x 0) rfl rfl) (RecLawsT.fa42_0 _ _)) (by first | rfl | omega)) ?_
 refine w_val (v := .string (str key)) (y_ld (ev (pt b_x 0) rfl rfl) RecLawsT.sc9 (r_b_x.val (by omega) (etv (if_pos (by omega))))) ?_
 refine w_val (v := pt b_x 1) (y_off (y_fa (ev (pt b_x 0) rfl rfl) (RecLawsT.fa42_1 _ _)) (by first | rfl | omega)) ?_
 refine w_val (v := .string (str vi)) (y_ld (ev (pt b_x 1) rfl rfl) RecLawsT.sc9 (r_b_x.val (by omega) ((if_neg (by omega)).trans (etv (if_pos (by omega)))))) ?_
 refine w_val (v := pt b_x 2) (y_off (y_fa (ev (pt b_x 0) rfl rfl) (RecLawsT.fa42_2 _ _)) (by first | rfl | omega)) ?_
 refine w_val (v := .string (str t)) (y_ld (ev (pt b_x 2) rfl rfl) RecLawsT.sc9 (r_b_x.val (by omega) ((if_neg (by omega)).trans ((if_neg (by omega)).trans (etv (if_pos (by omega))))))) ?_
 refine w_val (v := pt b_x 3) (y_off (y_fa (ev (pt b_x 0) rfl rfl) (RecLawsT.fa42_3 _ _)) (by first | rfl | omega)) ?_
 refine w_val (v := .string (str f)) (y_ld (ev (pt b_x 3) rfl rfl) RecLawsT.sc9 (r_b_x.val (by omega) ((if_neg (by omega)).trans ((if_neg (by omega)).trans ((if_neg (by omega)).trans (by first | with_reducible rfl | (with_reducible congr 1 <;> omega) | (with_reducible congr 2 <;> omega) | (with_reducible congr 3 <;> omega) | rfl)))))) ?_
 refine w_call (Try.func38) (by kernel_rfl) rfl (m4 (ev (.string (str key)) rfl rfl) (ev (.string (str vi)) rfl rfl) (ev (.string (str t)) rfl rfl) (ev (.string (str f)) rfl rfl)) (refLock_k key vi hok t f w5) ?_
 rintro _ w7 ⟨rfl, hb8⟩
 refine ⟨_, rfl, ?_⟩
 replace r_b_x := r_b_x.step hb8
 replace hk := thenB hk hb8
 refine w_mv (ev (.tuple #[.string (str ([] : List (BitVec 8))), .int .i64 3]) rfl rfl) ?_
 refine w_val (y_ext (v := .string (str ([] : List (BitVec 8)))) (ev (.tuple #[.string (str ([] : List (BitVec 8))), .int .i64 3]) rfl rfl) rfl) ?_
 refine w_val (y_ext (v := .int .i64 3) (ev (.tuple #[.string (str ([] : List (BitVec 8))), .int .i64 3]) rfl rfl) rfl) ?_
 refine w_as (ev (.string (str ([] : List (BitVec 8)))) rfl rfl) ?_
 refine w_as (ev (.int .i64 3) rfl rfl) ?_
 refine nt ?_
 refine wp_seq ?_
 refine sr ?_
 refine w_mv (ev (.string (str ([] : List (BitVec 8)))) rfl rfl) ?_
 refine w_mv (ev (.string (str ([] : List (BitVec 8)))) rfl rfl) ?_
 refine w_val (y_bin (ev (.string (str ([] : List (BitVec 8)))) rfl rfl) (ev (.string (str ([] : List (BitVec 8)))) rfl rfl) b_nes_same) ?_
 refine w_mv (ev (.bool false) rfl rfl) ?_
 refine w_val_g (v := .int .i64 3) (want_yes (j := 3) rfl rfl (ev (.bool false) rfl rfl) rfl) (y_mv (ev (.int .i64 3) rfl rfl)) ?_
 refine w_val_g (v := .int .i64 3) (want_yes (j := 3) rfl rfl (ev (.bool false) rfl rfl) rfl) (y_mv (ev (.int .i64 3) rfl rfl)) ?_
 refine w_val_g (want_yes (j := 3) rfl rfl (ev (.bool false) rfl rfl) rfl) (y_bin (ev (.int .i64 3) rfl rfl) (ev (.int .i64 3) rfl rfl) b_neq) ?_
 refine w_val (y_pick_f (ev (.bool false) rfl rfl) (ev (.bool false) rfl rfl)) ?_
 refine nt ?_
 refine c_ff (ev (.bool false) rfl rfl) ?_
 refine wp_skip ?_
 refine then_n ?_
 refine sr ?_
 refine w_val (v := pt b_x 0) (y_off (y_fa (ev (pt b_x 0) rfl rfl) (RecLawsT.fa42_0 _ _)) (by first | rfl | omega)) ?_
 refine w_val (v := .string (str key)) (y_ld (ev (pt b_x 0) rfl rfl) RecLawsT.sc9 (r_b_x.val (by omega) (etv (if_pos (by omega))))) ?_
 refine w_val (v := pt b_x 1) (y_off (y_fa (ev (pt b_x 0) rfl rfl) (RecLawsT.fa42_1 _ _)) (by first | rfl | omega)) ?_
 refine w_val (v := .string (str vi)) (y_ld (ev (pt b_x 1) rfl rfl) RecLawsT.sc9 (r_b_x.val (by omega) ((if_neg (by omega)).trans (etv (if_pos (by omega)))))) ?_
 refine w_mv (ev (.string (str ([] : List (BitVec 8)))) rfl rfl) ?_
 refine w_call (Try.func39) (by kernel_rfl) rfl (m3 (ev (.string (str key)) rfl rfl) (ev (.string (str vi)) rfl rfl) (ev (.string (str ([] : List (BitVec 8)))) rfl rfl)) (unlock_k key vi hok [] w7) ?_
 rintro _ w9 ⟨rfl, hb10⟩
 refine ⟨_, rfl, ?_⟩
 replace r_b_x := r_b_x.step hb10
 replace hk := thenB hk hb10
 refine w_mv (ev (.tuple #[.string (str ([] : List (BitVec 8))), .int .i64 3]) rfl rfl) ?_
 refine w_val (y_ext (v := .string (str ([] : List (BitVec 8)))) (ev (.tuple #[.string (str ([] : List (BitVec 8))), .int .i64 3]) rfl rfl) rfl) ?_
 refine w_val (y_ext (v := .int .i64 3) (ev (.tuple #[.string (str ([] : List (BitVec 8))), .int .i64 3]) rfl rfl) rfl) ?_
 refine w_as (ev (.string (str ([] : List (BitVec 8)))) rfl rfl) ?_
 refine w_as (ev (.int .i64 3) rfl rfl) ?_
 refine nt ?_
 refine sr ?_
 refine w_mv (ev (.int .i64 3) rfl rfl) ?_
 refine w_val (y_bin (ev (.int .i64 3) rfl rfl) (evc (.int .i64 0)) b_neq) ?_
 refine w_mv (ev (.bool true) rfl rfl) ?_
 first | with_reducible refine w_skip ?_ ?_ | refine w_skip ?_ ?_
 · exact want_no (j := 2) rfl rfl (ev (.bool true) rfl rfl) rfl
 first | with_reducible refine w_skip ?_ ?_ | refine w_skip ?_ ?_
 · exact want_no (j := 2) rfl rfl (ev (.bool true) rfl rfl) rfl
 first | with_reducible refine w_skip ?_ ?_ | refine w_skip ?_ ?_
 · exact want_no (j := 2) rfl rfl (ev (.bool true) rfl rfl) rfl
 first | with_reducible refine w_skip ?_ ?_ | refine w_skip ?_ ?_
 · exact want_un (j := 5) rfl rfl (ev undef rfl rfl) rfl
 first | with_reducible refine w_skip ?_ ?_ | refine w_skip ?_ ?_
 · exact want_un (j := 5) rfl rfl (ev undef rfl rfl) rfl
 first | with_reducible refine w_skip ?_ ?_ | refine w_skip ?_ ?_
 · exact want_un (j := 5) rfl rfl (ev undef rfl rfl) rfl
 first | with_reducible refine w_skip ?_ ?_ | refine w_skip ?_ ?_
 · exact want_un (j := 5) rfl rfl (ev undef rfl rfl) rfl
 first | with_reducible refine w_skip ?_ ?_ | refine w_skip ?_ ?_
 · exact want_no (j := 2) rfl rfl (ev (.bool true) rfl rfl) rfl
 refine w_val (y_pick_t (ev (.bool true) rfl rfl) (evc (.bool true))) ?_
 refine w_as (ev (.bool true) rfl rfl) ?_
 refine nt ?_
 refine wp_ret ?_
 refine fin_ret1 rfl (ev (.bool true) rfl rfl) ?_
 exact ⟨rfl, hk⟩

set_option maxRecDepth 100000 in
set_option maxHeartbeats 1000000 in
theorem recipLocks_i (key vi : List (BitVec 8)) (hok : Aes.okKey key.length) (hiv : vi.length ≠ 16) (t f : List (BitVec 8)) (w0 : World) : Calls Try.prog 9 #[.agg (arr 4 (fun j => if j < 1 then .string (str key) else if j < 2 then .string (str vi) else if j < 3 then .string (str t) else .string (str f)))] w0 fun e w' => e = .returned (.bool true) ∧ Below w0.heap.size w0 w' := by
 refine enter (n := 64) Try.func9 rfl rfl rfl ?_
 have hk : Below w0.heap.size w0 w0 := Below.refl _ _
 refine sr ?_
 refine w_box (m := 4) (F := fun j => if j < 1 then .string (str key) else if j < 2 then .string (str vi) else if j < 3 then .string (str t) else .string (str f)) (ev (.agg (arr 4 (fun j => if j < 1 then .string (str key) else if j < 2 then .string (str vi) else if j < 3 then .string (str t) else .string (str f)))) rfl rfl) rfl ?_
 intro b_x w1 hbe_b_x r_b_x hb2
 have ge_b_x : w0.heap.size ≤ b_x := by have := hk.size; omega
 clear hbe_b_x
 replace hk := thenB hk hb2
 refine w_as (evc (.bool false)) ?_
 refine nt ?_
 refine wp_seq ?_
 refine sr ?_
 refine w_call (Try.func36) (by kernel_rfl) rfl m0 (recWakes_c  w1) ?_
 rintro _ w3 ⟨rfl, hb4⟩
 refine ⟨_, rfl, ?_⟩
 replace r_b_x := r_b_x.step hb4
 replace hk := thenB hk hb4
 refine w_val (y_not (ev (.bool true) rfl rfl)) ?_
 refine nt ?_
 refine c_ff (ev (.bool false) rfl rfl) ?_
 refine wp_skip ?_
 refine then_n ?_
 refine sr ?_
 refine w_val (v := pt b_x 0) (y_off (y_fa (ev (pt b_x 0) rfl rfl) (RecLawsT.fa42_0 _ _)) (by first | rfl | omega)) ?_
 refine w_val (v := .string (str key)) (y_ld (ev (pt b_x 0) rfl rfl) RecLawsT.sc9 (r_b_x.val (by omega) (etv (if_pos (by omega))))) ?_
 refine w_val (v := pt b_x 1) (y_off (y_fa (ev (pt b_x 0) rfl rfl) (RecLawsT.fa42_1 _ _)) (by first | rfl | omega)) ?_
 refine w_val (v := .string (str vi)) (y_ld (ev (pt b_x 1) rfl rfl) RecLawsT.sc9 (r_b_x.val (by omega) ((if_neg (by omega)).trans (etv (if_pos (by omega)))))) ?_
 refine w_val (v := pt b_x 2) (y_off (y_fa (ev (pt b_x 0) rfl rfl) (RecLawsT.fa42_2 _ _)) (by first | rfl | omega)) ?_
 refine w_val (v := .string (str t)) (y_ld (ev (pt b_x 2) rfl rfl) RecLawsT.sc9 (r_b_x.val (by omega) ((if_neg (by omega)).trans ((if_neg (by omega)).trans (etv (if_pos (by omega))))))) ?_
 refine w_val (v := pt b_x 3) (y_off (y_fa (ev (pt b_x 0) rfl rfl) (RecLawsT.fa42_3 _ _)) (by first | rfl | omega)) ?_
 refine w_val (v := .string (str f)) (y_ld (ev (pt b_x 3) rfl rfl) RecLawsT.sc9 (r_b_x.val (by omega) ((if_neg (by omega)).trans ((if_neg (by omega)).trans ((if_neg (by omega)).trans (by first | with_reducible rfl | (with_reducible congr 1 <;> omega) | (with_reducible congr 2 <;> omega) | (with_reducible congr 3 <;> omega) | rfl)))))) ?_
 refine w_call (Try.func37) (by kernel_rfl) rfl (m4 (ev (.string (str key)) rfl rfl) (ev (.string (str vi)) rfl rfl) (ev (.string (str t)) rfl rfl) (ev (.string (str f)) rfl rfl)) (lock_i key vi hok hiv t f w3) ?_
 rintro _ w5 ⟨rfl, hb6⟩
 refine ⟨_, rfl, ?_⟩
 replace r_b_x := r_b_x.step hb6
 replace hk := thenB hk hb6
 refine w_mv (ev (.tuple #[.string (str ([] : List (BitVec 8))), .int .i64 4]) rfl rfl) ?_
 refine w_val (y_ext (v := .string (str ([] : List (BitVec 8)))) (ev (.tuple #[.string (str ([] : List (BitVec 8))), .int .i64 4]) rfl rfl) rfl) ?_
 refine w_val (y_ext (v := .int .i64 4) (ev (.tuple #[.string (str ([] : List (BitVec 8))), .int .i64 4]) rfl rfl) rfl) ?_
 refine w_as (ev (.string (str ([] : List (BitVec 8)))) rfl rfl) ?_
 refine w_as (ev (.int .i64 4) rfl rfl) ?_
 refine nt ?_
 refine sr ?_
 refine w_val (v := pt b_x 0) (y_off (y_fa (ev (pt b_x 0) rfl rfl) (RecLawsT.fa42_0 _ _)) (by first | rfl | omega)) ?_
 refine w_val (v := .string (str key)) (y_ld (ev (pt b_x 0) rfl rfl) RecLawsT.sc9 (r_b_x.val (by omega) (etv (if_pos (by omega))))) ?_
 refine w_val (v := pt b_x 1) (y_off (y_fa (ev (pt b_x 0) rfl rfl) (RecLawsT.fa42_1 _ _)) (by first | rfl | omega)) ?_
 refine w_val (v := .string (str vi)) (y_ld (ev (pt b_x 1) rfl rfl) RecLawsT.sc9 (r_b_x.val (by omega) ((if_neg (by omega)).trans (etv (if_pos (by omega)))))) ?_
 refine w_val (v := pt b_x 2) (y_off (y_fa (ev (pt b_x 0) rfl rfl) (RecLawsT.fa42_2 _ _)) (by first | rfl | omega)) ?_
 refine w_val (v := .string (str t)) (y_ld (ev (pt b_x 2) rfl rfl) RecLawsT.sc9 (r_b_x.val (by omega) ((if_neg (by omega)).trans ((if_neg (by omega)).trans (etv (if_pos (by omega))))))) ?_
 refine w_val (v := pt b_x 3) (y_off (y_fa (ev (pt b_x 0) rfl rfl) (RecLawsT.fa42_3 _ _)) (by first | rfl | omega)) ?_
 refine w_val (v := .string (str f)) (y_ld (ev (pt b_x 3) rfl rfl) RecLawsT.sc9 (r_b_x.val (by omega) ((if_neg (by omega)).trans ((if_neg (by omega)).trans ((if_neg (by omega)).trans (by first | with_reducible rfl | (with_reducible congr 1 <;> omega) | (with_reducible congr 2 <;> omega) | (with_reducible congr 3 <;> omega) | rfl)))))) ?_
 refine w_call (Try.func38) (by kernel_rfl) rfl (m4 (ev (.string (str key)) rfl rfl) (ev (.string (str vi)) rfl rfl) (ev (.string (str t)) rfl rfl) (ev (.string (str f)) rfl rfl)) (refLock_i key vi hok hiv t f w5) ?_
 rintro _ w7 ⟨rfl, hb8⟩
 refine ⟨_, rfl, ?_⟩
 replace r_b_x := r_b_x.step hb8
 replace hk := thenB hk hb8
 refine w_mv (ev (.tuple #[.string (str ([] : List (BitVec 8))), .int .i64 4]) rfl rfl) ?_
 refine w_val (y_ext (v := .string (str ([] : List (BitVec 8)))) (ev (.tuple #[.string (str ([] : List (BitVec 8))), .int .i64 4]) rfl rfl) rfl) ?_
 refine w_val (y_ext (v := .int .i64 4) (ev (.tuple #[.string (str ([] : List (BitVec 8))), .int .i64 4]) rfl rfl) rfl) ?_
 refine w_as (ev (.string (str ([] : List (BitVec 8)))) rfl rfl) ?_
 refine w_as (ev (.int .i64 4) rfl rfl) ?_
 refine nt ?_
 refine wp_seq ?_
 refine sr ?_
 refine w_mv (ev (.string (str ([] : List (BitVec 8)))) rfl rfl) ?_
 refine w_mv (ev (.string (str ([] : List (BitVec 8)))) rfl rfl) ?_
 refine w_val (y_bin (ev (.string (str ([] : List (BitVec 8)))) rfl rfl) (ev (.string (str ([] : List (BitVec 8)))) rfl rfl) b_nes_same) ?_
 refine w_mv (ev (.bool false) rfl rfl) ?_
 refine w_val_g (v := .int .i64 4) (want_yes (j := 3) rfl rfl (ev (.bool false) rfl rfl) rfl) (y_mv (ev (.int .i64 4) rfl rfl)) ?_
 refine w_val_g (v := .int .i64 4) (want_yes (j := 3) rfl rfl (ev (.bool false) rfl rfl) rfl) (y_mv (ev (.int .i64 4) rfl rfl)) ?_
 refine w_val_g (want_yes (j := 3) rfl rfl (ev (.bool false) rfl rfl) rfl) (y_bin (ev (.int .i64 4) rfl rfl) (ev (.int .i64 4) rfl rfl) b_neq) ?_
 refine w_val (y_pick_f (ev (.bool false) rfl rfl) (ev (.bool false) rfl rfl)) ?_
 refine nt ?_
 refine c_ff (ev (.bool false) rfl rfl) ?_
 refine wp_skip ?_
 refine then_n ?_
 refine sr ?_
 refine w_val (v := pt b_x 0) (y_off (y_fa (ev (pt b_x 0) rfl rfl) (RecLawsT.fa42_0 _ _)) (by first | rfl | omega)) ?_
 refine w_val (v := .string (str key)) (y_ld (ev (pt b_x 0) rfl rfl) RecLawsT.sc9 (r_b_x.val (by omega) (etv (if_pos (by omega))))) ?_
 refine w_val (v := pt b_x 1) (y_off (y_fa (ev (pt b_x 0) rfl rfl) (RecLawsT.fa42_1 _ _)) (by first | rfl | omega)) ?_
 refine w_val (v := .string (str vi)) (y_ld (ev (pt b_x 1) rfl rfl) RecLawsT.sc9 (r_b_x.val (by omega) ((if_neg (by omega)).trans (etv (if_pos (by omega)))))) ?_
 refine w_mv (ev (.string (str ([] : List (BitVec 8)))) rfl rfl) ?_
 refine w_call (Try.func39) (by kernel_rfl) rfl (m3 (ev (.string (str key)) rfl rfl) (ev (.string (str vi)) rfl rfl) (ev (.string (str ([] : List (BitVec 8)))) rfl rfl)) (unlock_i key vi hok hiv [] w7) ?_
 rintro _ w9 ⟨rfl, hb10⟩
 refine ⟨_, rfl, ?_⟩
 replace r_b_x := r_b_x.step hb10
 replace hk := thenB hk hb10
 refine w_mv (ev (.tuple #[.string (str ([] : List (BitVec 8))), .int .i64 4]) rfl rfl) ?_
 refine w_val (y_ext (v := .string (str ([] : List (BitVec 8)))) (ev (.tuple #[.string (str ([] : List (BitVec 8))), .int .i64 4]) rfl rfl) rfl) ?_
 refine w_val (y_ext (v := .int .i64 4) (ev (.tuple #[.string (str ([] : List (BitVec 8))), .int .i64 4]) rfl rfl) rfl) ?_
 refine w_as (ev (.string (str ([] : List (BitVec 8)))) rfl rfl) ?_
 refine w_as (ev (.int .i64 4) rfl rfl) ?_
 refine nt ?_
 refine sr ?_
 refine w_mv (ev (.int .i64 4) rfl rfl) ?_
 refine w_val (y_bin (ev (.int .i64 4) rfl rfl) (evc (.int .i64 0)) b_neq) ?_
 refine w_mv (ev (.bool true) rfl rfl) ?_
 first | with_reducible refine w_skip ?_ ?_ | refine w_skip ?_ ?_
 · exact want_no (j := 2) rfl rfl (ev (.bool true) rfl rfl) rfl
 first | with_reducible refine w_skip ?_ ?_ | refine w_skip ?_ ?_
 · exact want_no (j := 2) rfl rfl (ev (.bool true) rfl rfl) rfl
 first | with_reducible refine w_skip ?_ ?_ | refine w_skip ?_ ?_
 · exact want_no (j := 2) rfl rfl (ev (.bool true) rfl rfl) rfl
 first | with_reducible refine w_skip ?_ ?_ | refine w_skip ?_ ?_
 · exact want_un (j := 5) rfl rfl (ev undef rfl rfl) rfl
 first | with_reducible refine w_skip ?_ ?_ | refine w_skip ?_ ?_
 · exact want_un (j := 5) rfl rfl (ev undef rfl rfl) rfl
 first | with_reducible refine w_skip ?_ ?_ | refine w_skip ?_ ?_
 · exact want_un (j := 5) rfl rfl (ev undef rfl rfl) rfl
 first | with_reducible refine w_skip ?_ ?_ | refine w_skip ?_ ?_
 · exact want_un (j := 5) rfl rfl (ev undef rfl rfl) rfl
 first | with_reducible refine w_skip ?_ ?_ | refine w_skip ?_ ?_
 · exact want_no (j := 2) rfl rfl (ev (.bool true) rfl rfl) rfl
 refine w_val (y_pick_t (ev (.bool true) rfl rfl) (evc (.bool true))) ?_
 refine w_as (ev (.bool true) rfl rfl) ?_
 refine nt ?_
 refine wp_ret ?_
 refine fin_ret1 rfl (ev (.bool true) rfl rfl) ?_
 exact ⟨rfl, hk⟩

set_option maxRecDepth 100000 in
set_option maxHeartbeats 1000000 in
theorem recipLocks_s (key vi : List (BitVec 8)) (hok : Aes.okKey key.length) (hiv : vi.length = 16) (t f : List (BitVec 8)) (hs : ¬ (3 ≤ t.length ∧ t.length ≤ 255)) (w0 : World) : Calls Try.prog 9 #[.agg (arr 4 (fun j => if j < 1 then .string (str key) else if j < 2 then .string (str vi) else if j < 3 then .string (str t) else .string (str f)))] w0 fun e w' => e = .returned (.bool true) ∧ Below w0.heap.size w0 w' := by
 refine enter (n := 64) Try.func9 rfl rfl rfl ?_
 have hk : Below w0.heap.size w0 w0 := Below.refl _ _
 refine sr ?_
 refine w_box (m := 4) (F := fun j => if j < 1 then .string (str key) else if j < 2 then .string (str vi) else if j < 3 then .string (str t) else .string (str f)) (ev (.agg (arr 4 (fun j => if j < 1 then .string (str key) else if j < 2 then .string (str vi) else if j < 3 then .string (str t) else .string (str f)))) rfl rfl) rfl ?_
 intro b_x w1 hbe_b_x r_b_x hb2
 have ge_b_x : w0.heap.size ≤ b_x := by have := hk.size; omega
 clear hbe_b_x
 replace hk := thenB hk hb2
 refine w_as (evc (.bool false)) ?_
 refine nt ?_
 refine wp_seq ?_
 refine sr ?_
 refine w_call (Try.func36) (by kernel_rfl) rfl m0 (recWakes_c  w1) ?_
 rintro _ w3 ⟨rfl, hb4⟩
 refine ⟨_, rfl, ?_⟩
 replace r_b_x := r_b_x.step hb4
 replace hk := thenB hk hb4
 refine w_val (y_not (ev (.bool true) rfl rfl)) ?_
 refine nt ?_
 refine c_ff (ev (.bool false) rfl rfl) ?_
 refine wp_skip ?_
 refine then_n ?_
 refine sr ?_
 refine w_val (v := pt b_x 0) (y_off (y_fa (ev (pt b_x 0) rfl rfl) (RecLawsT.fa42_0 _ _)) (by first | rfl | omega)) ?_
 refine w_val (v := .string (str key)) (y_ld (ev (pt b_x 0) rfl rfl) RecLawsT.sc9 (r_b_x.val (by omega) (etv (if_pos (by omega))))) ?_
 refine w_val (v := pt b_x 1) (y_off (y_fa (ev (pt b_x 0) rfl rfl) (RecLawsT.fa42_1 _ _)) (by first | rfl | omega)) ?_
 refine w_val (v := .string (str vi)) (y_ld (ev (pt b_x 1) rfl rfl) RecLawsT.sc9 (r_b_x.val (by omega) ((if_neg (by omega)).trans (etv (if_pos (by omega)))))) ?_
 refine w_val (v := pt b_x 2) (y_off (y_fa (ev (pt b_x 0) rfl rfl) (RecLawsT.fa42_2 _ _)) (by first | rfl | omega)) ?_
 refine w_val (v := .string (str t)) (y_ld (ev (pt b_x 2) rfl rfl) RecLawsT.sc9 (r_b_x.val (by omega) ((if_neg (by omega)).trans ((if_neg (by omega)).trans (etv (if_pos (by omega))))))) ?_
 refine w_val (v := pt b_x 3) (y_off (y_fa (ev (pt b_x 0) rfl rfl) (RecLawsT.fa42_3 _ _)) (by first | rfl | omega)) ?_
 refine w_val (v := .string (str f)) (y_ld (ev (pt b_x 3) rfl rfl) RecLawsT.sc9 (r_b_x.val (by omega) ((if_neg (by omega)).trans ((if_neg (by omega)).trans ((if_neg (by omega)).trans (by first | with_reducible rfl | (with_reducible congr 1 <;> omega) | (with_reducible congr 2 <;> omega) | (with_reducible congr 3 <;> omega) | rfl)))))) ?_
 refine w_call (Try.func37) (by kernel_rfl) rfl (m4 (ev (.string (str key)) rfl rfl) (ev (.string (str vi)) rfl rfl) (ev (.string (str t)) rfl rfl) (ev (.string (str f)) rfl rfl)) (lock_s key vi hok hiv t f hs w3) ?_
 rintro _ w5 ⟨rfl, hb6⟩
 refine ⟨_, rfl, ?_⟩
 replace r_b_x := r_b_x.step hb6
 replace hk := thenB hk hb6
 refine w_mv (ev (.tuple #[.string (str ([] : List (BitVec 8))), .int .i64 6]) rfl rfl) ?_
 refine w_val (y_ext (v := .string (str ([] : List (BitVec 8)))) (ev (.tuple #[.string (str ([] : List (BitVec 8))), .int .i64 6]) rfl rfl) rfl) ?_
 refine w_val (y_ext (v := .int .i64 6) (ev (.tuple #[.string (str ([] : List (BitVec 8))), .int .i64 6]) rfl rfl) rfl) ?_
 refine w_as (ev (.string (str ([] : List (BitVec 8)))) rfl rfl) ?_
 refine w_as (ev (.int .i64 6) rfl rfl) ?_
 refine nt ?_
 refine sr ?_
 refine w_val (v := pt b_x 0) (y_off (y_fa (ev (pt b_x 0) rfl rfl) (RecLawsT.fa42_0 _ _)) (by first | rfl | omega)) ?_
 refine w_val (v := .string (str key)) (y_ld (ev (pt b_x 0) rfl rfl) RecLawsT.sc9 (r_b_x.val (by omega) (etv (if_pos (by omega))))) ?_
 refine w_val (v := pt b_x 1) (y_off (y_fa (ev (pt b_x 0) rfl rfl) (RecLawsT.fa42_1 _ _)) (by first | rfl | omega)) ?_
 refine w_val (v := .string (str vi)) (y_ld (ev (pt b_x 1) rfl rfl) RecLawsT.sc9 (r_b_x.val (by omega) ((if_neg (by omega)).trans (etv (if_pos (by omega)))))) ?_
 refine w_val (v := pt b_x 2) (y_off (y_fa (ev (pt b_x 0) rfl rfl) (RecLawsT.fa42_2 _ _)) (by first | rfl | omega)) ?_
 refine w_val (v := .string (str t)) (y_ld (ev (pt b_x 2) rfl rfl) RecLawsT.sc9 (r_b_x.val (by omega) ((if_neg (by omega)).trans ((if_neg (by omega)).trans (etv (if_pos (by omega))))))) ?_
 refine w_val (v := pt b_x 3) (y_off (y_fa (ev (pt b_x 0) rfl rfl) (RecLawsT.fa42_3 _ _)) (by first | rfl | omega)) ?_
 refine w_val (v := .string (str f)) (y_ld (ev (pt b_x 3) rfl rfl) RecLawsT.sc9 (r_b_x.val (by omega) ((if_neg (by omega)).trans ((if_neg (by omega)).trans ((if_neg (by omega)).trans (by first | with_reducible rfl | (with_reducible congr 1 <;> omega) | (with_reducible congr 2 <;> omega) | (with_reducible congr 3 <;> omega) | rfl)))))) ?_
 refine w_call (Try.func38) (by kernel_rfl) rfl (m4 (ev (.string (str key)) rfl rfl) (ev (.string (str vi)) rfl rfl) (ev (.string (str t)) rfl rfl) (ev (.string (str f)) rfl rfl)) (refLock_s key vi hok hiv t f hs w5) ?_
 rintro _ w7 ⟨rfl, hb8⟩
 refine ⟨_, rfl, ?_⟩
 replace r_b_x := r_b_x.step hb8
 replace hk := thenB hk hb8
 refine w_mv (ev (.tuple #[.string (str ([] : List (BitVec 8))), .int .i64 6]) rfl rfl) ?_
 refine w_val (y_ext (v := .string (str ([] : List (BitVec 8)))) (ev (.tuple #[.string (str ([] : List (BitVec 8))), .int .i64 6]) rfl rfl) rfl) ?_
 refine w_val (y_ext (v := .int .i64 6) (ev (.tuple #[.string (str ([] : List (BitVec 8))), .int .i64 6]) rfl rfl) rfl) ?_
 refine w_as (ev (.string (str ([] : List (BitVec 8)))) rfl rfl) ?_
 refine w_as (ev (.int .i64 6) rfl rfl) ?_
 refine nt ?_
 refine wp_seq ?_
 refine sr ?_
 refine w_mv (ev (.string (str ([] : List (BitVec 8)))) rfl rfl) ?_
 refine w_mv (ev (.string (str ([] : List (BitVec 8)))) rfl rfl) ?_
 refine w_val (y_bin (ev (.string (str ([] : List (BitVec 8)))) rfl rfl) (ev (.string (str ([] : List (BitVec 8)))) rfl rfl) b_nes_same) ?_
 refine w_mv (ev (.bool false) rfl rfl) ?_
 refine w_val_g (v := .int .i64 6) (want_yes (j := 3) rfl rfl (ev (.bool false) rfl rfl) rfl) (y_mv (ev (.int .i64 6) rfl rfl)) ?_
 refine w_val_g (v := .int .i64 6) (want_yes (j := 3) rfl rfl (ev (.bool false) rfl rfl) rfl) (y_mv (ev (.int .i64 6) rfl rfl)) ?_
 refine w_val_g (want_yes (j := 3) rfl rfl (ev (.bool false) rfl rfl) rfl) (y_bin (ev (.int .i64 6) rfl rfl) (ev (.int .i64 6) rfl rfl) b_neq) ?_
 refine w_val (y_pick_f (ev (.bool false) rfl rfl) (ev (.bool false) rfl rfl)) ?_
 refine nt ?_
 refine c_ff (ev (.bool false) rfl rfl) ?_
 refine wp_skip ?_
 refine then_n ?_
 refine sr ?_
 refine w_val (v := pt b_x 0) (y_off (y_fa (ev (pt b_x 0) rfl rfl) (RecLawsT.fa42_0 _ _)) (by first | rfl | omega)) ?_
 refine w_val (v := .string (str key)) (y_ld (ev (pt b_x 0) rfl rfl) RecLawsT.sc9 (r_b_x.val (by omega) (etv (if_pos (by omega))))) ?_
 refine w_val (v := pt b_x 1) (y_off (y_fa (ev (pt b_x 0) rfl rfl) (RecLawsT.fa42_1 _ _)) (by first | rfl | omega)) ?_
 refine w_val (v := .string (str vi)) (y_ld (ev (pt b_x 1) rfl rfl) RecLawsT.sc9 (r_b_x.val (by omega) ((if_neg (by omega)).trans (etv (if_pos (by omega)))))) ?_
 refine w_mv (ev (.string (str ([] : List (BitVec 8)))) rfl rfl) ?_
 refine w_call (Try.func39) (by kernel_rfl) rfl (m3 (ev (.string (str key)) rfl rfl) (ev (.string (str vi)) rfl rfl) (ev (.string (str ([] : List (BitVec 8)))) rfl rfl)) (unlock_s key vi hok hiv [] (by decide) w7) ?_
 rintro _ w9 ⟨rfl, hb10⟩
 refine ⟨_, rfl, ?_⟩
 replace r_b_x := r_b_x.step hb10
 replace hk := thenB hk hb10
 refine w_mv (ev (.tuple #[.string (str ([] : List (BitVec 8))), .int .i64 6]) rfl rfl) ?_
 refine w_val (y_ext (v := .string (str ([] : List (BitVec 8)))) (ev (.tuple #[.string (str ([] : List (BitVec 8))), .int .i64 6]) rfl rfl) rfl) ?_
 refine w_val (y_ext (v := .int .i64 6) (ev (.tuple #[.string (str ([] : List (BitVec 8))), .int .i64 6]) rfl rfl) rfl) ?_
 refine w_as (ev (.string (str ([] : List (BitVec 8)))) rfl rfl) ?_
 refine w_as (ev (.int .i64 6) rfl rfl) ?_
 refine nt ?_
 refine sr ?_
 refine w_mv (ev (.int .i64 6) rfl rfl) ?_
 refine w_val (y_bin (ev (.int .i64 6) rfl rfl) (evc (.int .i64 0)) b_neq) ?_
 refine w_mv (ev (.bool true) rfl rfl) ?_
 first | with_reducible refine w_skip ?_ ?_ | refine w_skip ?_ ?_
 · exact want_no (j := 2) rfl rfl (ev (.bool true) rfl rfl) rfl
 first | with_reducible refine w_skip ?_ ?_ | refine w_skip ?_ ?_
 · exact want_no (j := 2) rfl rfl (ev (.bool true) rfl rfl) rfl
 first | with_reducible refine w_skip ?_ ?_ | refine w_skip ?_ ?_
 · exact want_no (j := 2) rfl rfl (ev (.bool true) rfl rfl) rfl
 first | with_reducible refine w_skip ?_ ?_ | refine w_skip ?_ ?_
 · exact want_un (j := 5) rfl rfl (ev undef rfl rfl) rfl
 first | with_reducible refine w_skip ?_ ?_ | refine w_skip ?_ ?_
 · exact want_un (j := 5) rfl rfl (ev undef rfl rfl) rfl
 first | with_reducible refine w_skip ?_ ?_ | refine w_skip ?_ ?_
 · exact want_un (j := 5) rfl rfl (ev undef rfl rfl) rfl
 first | with_reducible refine w_skip ?_ ?_ | refine w_skip ?_ ?_
 · exact want_un (j := 5) rfl rfl (ev undef rfl rfl) rfl
 first | with_reducible refine w_skip ?_ ?_ | refine w_skip ?_ ?_
 · exact want_no (j := 2) rfl rfl (ev (.bool true) rfl rfl) rfl
 refine w_val (y_pick_t (ev (.bool true) rfl rfl) (evc (.bool true))) ?_
 refine w_as (ev (.bool true) rfl rfl) ?_
 refine nt ?_
 refine wp_ret ?_
 refine fin_ret1 rfl (ev (.bool true) rfl rfl) ?_
 exact ⟨rfl, hk⟩

set_option maxRecDepth 100000 in
set_option maxHeartbeats 1000000 in
theorem recipLocks_f (key vi : List (BitVec 8)) (hok : Aes.okKey key.length) (hiv : vi.length = 16) (t f : List (BitVec 8)) (h3 : 3 ≤ t.length) (h255 : t.length ≤ 255) (hf : f.length ≠ Rc.fl t.length) (w0 : World) : Calls Try.prog 9 #[.agg (arr 4 (fun j => if j < 1 then .string (str key) else if j < 2 then .string (str vi) else if j < 3 then .string (str t) else .string (str f)))] w0 fun e w' => e = .returned (.bool true) ∧ Below w0.heap.size w0 w' := by
 refine enter (n := 64) Try.func9 rfl rfl rfl ?_
 have hk : Below w0.heap.size w0 w0 := Below.refl _ _
 refine sr ?_
 refine w_box (m := 4) (F := fun j => if j < 1 then .string (str key) else if j < 2 then .string (str vi) else if j < 3 then .string (str t) else .string (str f)) (ev (.agg (arr 4 (fun j => if j < 1 then .string (str key) else if j < 2 then .string (str vi) else if j < 3 then .string (str t) else .string (str f)))) rfl rfl) rfl ?_
 intro b_x w1 hbe_b_x r_b_x hb2
 have ge_b_x : w0.heap.size ≤ b_x := by have := hk.size; omega
 clear hbe_b_x
 replace hk := thenB hk hb2
 refine w_as (evc (.bool false)) ?_
 refine nt ?_
 refine wp_seq ?_
 refine sr ?_
 refine w_call (Try.func36) (by kernel_rfl) rfl m0 (recWakes_c  w1) ?_
 rintro _ w3 ⟨rfl, hb4⟩
 refine ⟨_, rfl, ?_⟩
 replace r_b_x := r_b_x.step hb4
 replace hk := thenB hk hb4
 refine w_val (y_not (ev (.bool true) rfl rfl)) ?_
 refine nt ?_
 refine c_ff (ev (.bool false) rfl rfl) ?_
 refine wp_skip ?_
 refine then_n ?_
 refine sr ?_
 refine w_val (v := pt b_x 0) (y_off (y_fa (ev (pt b_x 0) rfl rfl) (RecLawsT.fa42_0 _ _)) (by first | rfl | omega)) ?_
 refine w_val (v := .string (str key)) (y_ld (ev (pt b_x 0) rfl rfl) RecLawsT.sc9 (r_b_x.val (by omega) (etv (if_pos (by omega))))) ?_
 refine w_val (v := pt b_x 1) (y_off (y_fa (ev (pt b_x 0) rfl rfl) (RecLawsT.fa42_1 _ _)) (by first | rfl | omega)) ?_
 refine w_val (v := .string (str vi)) (y_ld (ev (pt b_x 1) rfl rfl) RecLawsT.sc9 (r_b_x.val (by omega) ((if_neg (by omega)).trans (etv (if_pos (by omega)))))) ?_
 refine w_val (v := pt b_x 2) (y_off (y_fa (ev (pt b_x 0) rfl rfl) (RecLawsT.fa42_2 _ _)) (by first | rfl | omega)) ?_
 refine w_val (v := .string (str t)) (y_ld (ev (pt b_x 2) rfl rfl) RecLawsT.sc9 (r_b_x.val (by omega) ((if_neg (by omega)).trans ((if_neg (by omega)).trans (etv (if_pos (by omega))))))) ?_
 refine w_val (v := pt b_x 3) (y_off (y_fa (ev (pt b_x 0) rfl rfl) (RecLawsT.fa42_3 _ _)) (by first | rfl | omega)) ?_
 refine w_val (v := .string (str f)) (y_ld (ev (pt b_x 3) rfl rfl) RecLawsT.sc9 (r_b_x.val (by omega) ((if_neg (by omega)).trans ((if_neg (by omega)).trans ((if_neg (by omega)).trans (by first | with_reducible rfl | (with_reducible congr 1 <;> omega) | (with_reducible congr 2 <;> omega) | (with_reducible congr 3 <;> omega) | rfl)))))) ?_
 refine w_call (Try.func37) (by kernel_rfl) rfl (m4 (ev (.string (str key)) rfl rfl) (ev (.string (str vi)) rfl rfl) (ev (.string (str t)) rfl rfl) (ev (.string (str f)) rfl rfl)) (lock_f key vi hok hiv t f h3 h255 hf w3) ?_
 rintro _ w5 ⟨rfl, hb6⟩
 refine ⟨_, rfl, ?_⟩
 replace r_b_x := r_b_x.step hb6
 replace hk := thenB hk hb6
 refine w_mv (ev (.tuple #[.string (str ([] : List (BitVec 8))), .int .i64 2]) rfl rfl) ?_
 refine w_val (y_ext (v := .string (str ([] : List (BitVec 8)))) (ev (.tuple #[.string (str ([] : List (BitVec 8))), .int .i64 2]) rfl rfl) rfl) ?_
 refine w_val (y_ext (v := .int .i64 2) (ev (.tuple #[.string (str ([] : List (BitVec 8))), .int .i64 2]) rfl rfl) rfl) ?_
 refine w_as (ev (.string (str ([] : List (BitVec 8)))) rfl rfl) ?_
 refine w_as (ev (.int .i64 2) rfl rfl) ?_
 refine nt ?_
 refine sr ?_
 refine w_val (v := pt b_x 0) (y_off (y_fa (ev (pt b_x 0) rfl rfl) (RecLawsT.fa42_0 _ _)) (by first | rfl | omega)) ?_
 refine w_val (v := .string (str key)) (y_ld (ev (pt b_x 0) rfl rfl) RecLawsT.sc9 (r_b_x.val (by omega) (etv (if_pos (by omega))))) ?_
 refine w_val (v := pt b_x 1) (y_off (y_fa (ev (pt b_x 0) rfl rfl) (RecLawsT.fa42_1 _ _)) (by first | rfl | omega)) ?_
 refine w_val (v := .string (str vi)) (y_ld (ev (pt b_x 1) rfl rfl) RecLawsT.sc9 (r_b_x.val (by omega) ((if_neg (by omega)).trans (etv (if_pos (by omega)))))) ?_
 refine w_val (v := pt b_x 2) (y_off (y_fa (ev (pt b_x 0) rfl rfl) (RecLawsT.fa42_2 _ _)) (by first | rfl | omega)) ?_
 refine w_val (v := .string (str t)) (y_ld (ev (pt b_x 2) rfl rfl) RecLawsT.sc9 (r_b_x.val (by omega) ((if_neg (by omega)).trans ((if_neg (by omega)).trans (etv (if_pos (by omega))))))) ?_
 refine w_val (v := pt b_x 3) (y_off (y_fa (ev (pt b_x 0) rfl rfl) (RecLawsT.fa42_3 _ _)) (by first | rfl | omega)) ?_
 refine w_val (v := .string (str f)) (y_ld (ev (pt b_x 3) rfl rfl) RecLawsT.sc9 (r_b_x.val (by omega) ((if_neg (by omega)).trans ((if_neg (by omega)).trans ((if_neg (by omega)).trans (by first | with_reducible rfl | (with_reducible congr 1 <;> omega) | (with_reducible congr 2 <;> omega) | (with_reducible congr 3 <;> omega) | rfl)))))) ?_
 refine w_call (Try.func38) (by kernel_rfl) rfl (m4 (ev (.string (str key)) rfl rfl) (ev (.string (str vi)) rfl rfl) (ev (.string (str t)) rfl rfl) (ev (.string (str f)) rfl rfl)) (refLock_f key vi hok hiv t f h3 h255 hf w5) ?_
 rintro _ w7 ⟨rfl, hb8⟩
 refine ⟨_, rfl, ?_⟩
 replace r_b_x := r_b_x.step hb8
 replace hk := thenB hk hb8
 refine w_mv (ev (.tuple #[.string (str ([] : List (BitVec 8))), .int .i64 2]) rfl rfl) ?_
 refine w_val (y_ext (v := .string (str ([] : List (BitVec 8)))) (ev (.tuple #[.string (str ([] : List (BitVec 8))), .int .i64 2]) rfl rfl) rfl) ?_
 refine w_val (y_ext (v := .int .i64 2) (ev (.tuple #[.string (str ([] : List (BitVec 8))), .int .i64 2]) rfl rfl) rfl) ?_
 refine w_as (ev (.string (str ([] : List (BitVec 8)))) rfl rfl) ?_
 refine w_as (ev (.int .i64 2) rfl rfl) ?_
 refine nt ?_
 refine wp_seq ?_
 refine sr ?_
 refine w_mv (ev (.string (str ([] : List (BitVec 8)))) rfl rfl) ?_
 refine w_mv (ev (.string (str ([] : List (BitVec 8)))) rfl rfl) ?_
 refine w_val (y_bin (ev (.string (str ([] : List (BitVec 8)))) rfl rfl) (ev (.string (str ([] : List (BitVec 8)))) rfl rfl) b_nes_same) ?_
 refine w_mv (ev (.bool false) rfl rfl) ?_
 refine w_val_g (v := .int .i64 2) (want_yes (j := 3) rfl rfl (ev (.bool false) rfl rfl) rfl) (y_mv (ev (.int .i64 2) rfl rfl)) ?_
 refine w_val_g (v := .int .i64 2) (want_yes (j := 3) rfl rfl (ev (.bool false) rfl rfl) rfl) (y_mv (ev (.int .i64 2) rfl rfl)) ?_
 refine w_val_g (want_yes (j := 3) rfl rfl (ev (.bool false) rfl rfl) rfl) (y_bin (ev (.int .i64 2) rfl rfl) (ev (.int .i64 2) rfl rfl) b_neq) ?_
 refine w_val (y_pick_f (ev (.bool false) rfl rfl) (ev (.bool false) rfl rfl)) ?_
 refine nt ?_
 refine c_ff (ev (.bool false) rfl rfl) ?_
 refine wp_skip ?_
 refine then_n ?_
 refine sr ?_
 refine w_val (v := pt b_x 0) (y_off (y_fa (ev (pt b_x 0) rfl rfl) (RecLawsT.fa42_0 _ _)) (by first | rfl | omega)) ?_
 refine w_val (v := .string (str key)) (y_ld (ev (pt b_x 0) rfl rfl) RecLawsT.sc9 (r_b_x.val (by omega) (etv (if_pos (by omega))))) ?_
 refine w_val (v := pt b_x 1) (y_off (y_fa (ev (pt b_x 0) rfl rfl) (RecLawsT.fa42_1 _ _)) (by first | rfl | omega)) ?_
 refine w_val (v := .string (str vi)) (y_ld (ev (pt b_x 1) rfl rfl) RecLawsT.sc9 (r_b_x.val (by omega) ((if_neg (by omega)).trans (etv (if_pos (by omega)))))) ?_
 refine w_mv (ev (.string (str ([] : List (BitVec 8)))) rfl rfl) ?_
 refine w_call (Try.func39) (by kernel_rfl) rfl (m3 (ev (.string (str key)) rfl rfl) (ev (.string (str vi)) rfl rfl) (ev (.string (str ([] : List (BitVec 8)))) rfl rfl)) (unlock_s key vi hok hiv [] (by decide) w7) ?_
 rintro _ w9 ⟨rfl, hb10⟩
 refine ⟨_, rfl, ?_⟩
 replace r_b_x := r_b_x.step hb10
 replace hk := thenB hk hb10
 refine w_mv (ev (.tuple #[.string (str ([] : List (BitVec 8))), .int .i64 6]) rfl rfl) ?_
 refine w_val (y_ext (v := .string (str ([] : List (BitVec 8)))) (ev (.tuple #[.string (str ([] : List (BitVec 8))), .int .i64 6]) rfl rfl) rfl) ?_
 refine w_val (y_ext (v := .int .i64 6) (ev (.tuple #[.string (str ([] : List (BitVec 8))), .int .i64 6]) rfl rfl) rfl) ?_
 refine w_as (ev (.string (str ([] : List (BitVec 8)))) rfl rfl) ?_
 refine w_as (ev (.int .i64 6) rfl rfl) ?_
 refine nt ?_
 refine sr ?_
 refine w_mv (ev (.int .i64 2) rfl rfl) ?_
 refine w_val (y_bin (ev (.int .i64 2) rfl rfl) (evc (.int .i64 0)) b_neq) ?_
 refine w_mv (ev (.bool true) rfl rfl) ?_
 first | with_reducible refine w_skip ?_ ?_ | refine w_skip ?_ ?_
 · exact want_no (j := 2) rfl rfl (ev (.bool true) rfl rfl) rfl
 first | with_reducible refine w_skip ?_ ?_ | refine w_skip ?_ ?_
 · exact want_no (j := 2) rfl rfl (ev (.bool true) rfl rfl) rfl
 first | with_reducible refine w_skip ?_ ?_ | refine w_skip ?_ ?_
 · exact want_no (j := 2) rfl rfl (ev (.bool true) rfl rfl) rfl
 first | with_reducible refine w_skip ?_ ?_ | refine w_skip ?_ ?_
 · exact want_un (j := 5) rfl rfl (ev undef rfl rfl) rfl
 first | with_reducible refine w_skip ?_ ?_ | refine w_skip ?_ ?_
 · exact want_un (j := 5) rfl rfl (ev undef rfl rfl) rfl
 first | with_reducible refine w_skip ?_ ?_ | refine w_skip ?_ ?_
 · exact want_un (j := 5) rfl rfl (ev undef rfl rfl) rfl
 first | with_reducible refine w_skip ?_ ?_ | refine w_skip ?_ ?_
 · exact want_un (j := 5) rfl rfl (ev undef rfl rfl) rfl
 first | with_reducible refine w_skip ?_ ?_ | refine w_skip ?_ ?_
 · exact want_no (j := 2) rfl rfl (ev (.bool true) rfl rfl) rfl
 refine w_val (y_pick_t (ev (.bool true) rfl rfl) (evc (.bool true))) ?_
 refine w_as (ev (.bool true) rfl rfl) ?_
 refine nt ?_
 refine wp_ret ?_
 refine fin_ret1 rfl (ev (.bool true) rfl rfl) ?_
 exact ⟨rfl, hk⟩

set_option maxRecDepth 100000 in
set_option maxHeartbeats 1000000 in
theorem recipLocks_y (key vi : List (BitVec 8)) (hok : Aes.okKey key.length) (hiv : vi.length = 16) (t f : List (BitVec 8)) (h3 : 3 ≤ t.length) (h255 : t.length ≤ 255) (hf : f.length = Rc.fl t.length) (w0 : World) : Calls Try.prog 9 #[.agg (arr 4 (fun j => if j < 1 then .string (str key) else if j < 2 then .string (str vi) else if j < 3 then .string (str t) else .string (str f)))] w0 fun e w' => e = .returned (.bool true) ∧ Below w0.heap.size w0 w' := by
 refine enter (n := 64) Try.func9 rfl rfl rfl ?_
 have hk : Below w0.heap.size w0 w0 := Below.refl _ _
 refine sr ?_
 refine w_box (m := 4) (F := fun j => if j < 1 then .string (str key) else if j < 2 then .string (str vi) else if j < 3 then .string (str t) else .string (str f)) (ev (.agg (arr 4 (fun j => if j < 1 then .string (str key) else if j < 2 then .string (str vi) else if j < 3 then .string (str t) else .string (str f)))) rfl rfl) rfl ?_
 intro b_x w1 hbe_b_x r_b_x hb2
 have ge_b_x : w0.heap.size ≤ b_x := by have := hk.size; omega
 clear hbe_b_x
 replace hk := thenB hk hb2
 refine w_as (evc (.bool false)) ?_
 refine nt ?_
 refine wp_seq ?_
 refine sr ?_
 refine w_call (Try.func36) (by kernel_rfl) rfl m0 (recWakes_c  w1) ?_
 rintro _ w3 ⟨rfl, hb4⟩
 refine ⟨_, rfl, ?_⟩
 replace r_b_x := r_b_x.step hb4
 replace hk := thenB hk hb4
 refine w_val (y_not (ev (.bool true) rfl rfl)) ?_
 refine nt ?_
 refine c_ff (ev (.bool false) rfl rfl) ?_
 refine wp_skip ?_
 refine then_n ?_
 refine sr ?_
 refine w_val (v := pt b_x 0) (y_off (y_fa (ev (pt b_x 0) rfl rfl) (RecLawsT.fa42_0 _ _)) (by first | rfl | omega)) ?_
 refine w_val (v := .string (str key)) (y_ld (ev (pt b_x 0) rfl rfl) RecLawsT.sc9 (r_b_x.val (by omega) (etv (if_pos (by omega))))) ?_
 refine w_val (v := pt b_x 1) (y_off (y_fa (ev (pt b_x 0) rfl rfl) (RecLawsT.fa42_1 _ _)) (by first | rfl | omega)) ?_
 refine w_val (v := .string (str vi)) (y_ld (ev (pt b_x 1) rfl rfl) RecLawsT.sc9 (r_b_x.val (by omega) ((if_neg (by omega)).trans (etv (if_pos (by omega)))))) ?_
 refine w_val (v := pt b_x 2) (y_off (y_fa (ev (pt b_x 0) rfl rfl) (RecLawsT.fa42_2 _ _)) (by first | rfl | omega)) ?_
 refine w_val (v := .string (str t)) (y_ld (ev (pt b_x 2) rfl rfl) RecLawsT.sc9 (r_b_x.val (by omega) ((if_neg (by omega)).trans ((if_neg (by omega)).trans (etv (if_pos (by omega))))))) ?_
 refine w_val (v := pt b_x 3) (y_off (y_fa (ev (pt b_x 0) rfl rfl) (RecLawsT.fa42_3 _ _)) (by first | rfl | omega)) ?_
 refine w_val (v := .string (str f)) (y_ld (ev (pt b_x 3) rfl rfl) RecLawsT.sc9 (r_b_x.val (by omega) ((if_neg (by omega)).trans ((if_neg (by omega)).trans ((if_neg (by omega)).trans (by first | with_reducible rfl | (with_reducible congr 1 <;> omega) | (with_reducible congr 2 <;> omega) | (with_reducible congr 3 <;> omega) | rfl)))))) ?_
 refine w_call (Try.func37) (by kernel_rfl) rfl (m4 (ev (.string (str key)) rfl rfl) (ev (.string (str vi)) rfl rfl) (ev (.string (str t)) rfl rfl) (ev (.string (str f)) rfl rfl)) (lock_y key vi hok hiv t f h3 h255 hf w3) ?_
 rintro _ w5 ⟨rfl, hb6⟩
 refine ⟨_, rfl, ?_⟩
 replace r_b_x := r_b_x.step hb6
 replace hk := thenB hk hb6
 refine w_mv (ev (.tuple #[.string (str (Rc.lock key vi t f)), .int .i64 0]) rfl rfl) ?_
 refine w_val (y_ext (v := .string (str (Rc.lock key vi t f))) (ev (.tuple #[.string (str (Rc.lock key vi t f)), .int .i64 0]) rfl rfl) rfl) ?_
 refine w_val (y_ext (v := .int .i64 0) (ev (.tuple #[.string (str (Rc.lock key vi t f)), .int .i64 0]) rfl rfl) rfl) ?_
 refine w_as (ev (.string (str (Rc.lock key vi t f))) rfl rfl) ?_
 refine w_as (ev (.int .i64 0) rfl rfl) ?_
 refine nt ?_
 refine sr ?_
 refine w_val (v := pt b_x 0) (y_off (y_fa (ev (pt b_x 0) rfl rfl) (RecLawsT.fa42_0 _ _)) (by first | rfl | omega)) ?_
 refine w_val (v := .string (str key)) (y_ld (ev (pt b_x 0) rfl rfl) RecLawsT.sc9 (r_b_x.val (by omega) (etv (if_pos (by omega))))) ?_
 refine w_val (v := pt b_x 1) (y_off (y_fa (ev (pt b_x 0) rfl rfl) (RecLawsT.fa42_1 _ _)) (by first | rfl | omega)) ?_
 refine w_val (v := .string (str vi)) (y_ld (ev (pt b_x 1) rfl rfl) RecLawsT.sc9 (r_b_x.val (by omega) ((if_neg (by omega)).trans (etv (if_pos (by omega)))))) ?_
 refine w_val (v := pt b_x 2) (y_off (y_fa (ev (pt b_x 0) rfl rfl) (RecLawsT.fa42_2 _ _)) (by first | rfl | omega)) ?_
 refine w_val (v := .string (str t)) (y_ld (ev (pt b_x 2) rfl rfl) RecLawsT.sc9 (r_b_x.val (by omega) ((if_neg (by omega)).trans ((if_neg (by omega)).trans (etv (if_pos (by omega))))))) ?_
 refine w_val (v := pt b_x 3) (y_off (y_fa (ev (pt b_x 0) rfl rfl) (RecLawsT.fa42_3 _ _)) (by first | rfl | omega)) ?_
 refine w_val (v := .string (str f)) (y_ld (ev (pt b_x 3) rfl rfl) RecLawsT.sc9 (r_b_x.val (by omega) ((if_neg (by omega)).trans ((if_neg (by omega)).trans ((if_neg (by omega)).trans (by first | with_reducible rfl | (with_reducible congr 1 <;> omega) | (with_reducible congr 2 <;> omega) | (with_reducible congr 3 <;> omega) | rfl)))))) ?_
 refine w_call (Try.func38) (by kernel_rfl) rfl (m4 (ev (.string (str key)) rfl rfl) (ev (.string (str vi)) rfl rfl) (ev (.string (str t)) rfl rfl) (ev (.string (str f)) rfl rfl)) (refLock_y key vi hok hiv t f h3 h255 hf w5) ?_
 rintro _ w7 ⟨rfl, hb8⟩
 refine ⟨_, rfl, ?_⟩
 replace r_b_x := r_b_x.step hb8
 replace hk := thenB hk hb8
 refine w_mv (ev (.tuple #[.string (str (Rc.lock key vi t f)), .int .i64 0]) rfl rfl) ?_
 refine w_val (y_ext (v := .string (str (Rc.lock key vi t f))) (ev (.tuple #[.string (str (Rc.lock key vi t f)), .int .i64 0]) rfl rfl) rfl) ?_
 refine w_val (y_ext (v := .int .i64 0) (ev (.tuple #[.string (str (Rc.lock key vi t f)), .int .i64 0]) rfl rfl) rfl) ?_
 refine w_as (ev (.string (str (Rc.lock key vi t f))) rfl rfl) ?_
 refine w_as (ev (.int .i64 0) rfl rfl) ?_
 refine nt ?_
 refine wp_seq ?_
 refine sr ?_
 refine w_mv (ev (.string (str (Rc.lock key vi t f))) rfl rfl) ?_
 refine w_mv (ev (.string (str (Rc.lock key vi t f))) rfl rfl) ?_
 refine w_val (y_bin (ev (.string (str (Rc.lock key vi t f))) rfl rfl) (ev (.string (str (Rc.lock key vi t f))) rfl rfl) b_nes_same) ?_
 refine w_mv (ev (.bool false) rfl rfl) ?_
 refine w_val_g (v := .int .i64 0) (want_yes (j := 3) rfl rfl (ev (.bool false) rfl rfl) rfl) (y_mv (ev (.int .i64 0) rfl rfl)) ?_
 refine w_val_g (v := .int .i64 0) (want_yes (j := 3) rfl rfl (ev (.bool false) rfl rfl) rfl) (y_mv (ev (.int .i64 0) rfl rfl)) ?_
 refine w_val_g (want_yes (j := 3) rfl rfl (ev (.bool false) rfl rfl) rfl) (y_bin (ev (.int .i64 0) rfl rfl) (ev (.int .i64 0) rfl rfl) b_neq) ?_
 refine w_val (y_pick_f (ev (.bool false) rfl rfl) (ev (.bool false) rfl rfl)) ?_
 refine nt ?_
 refine c_ff (ev (.bool false) rfl rfl) ?_
 refine wp_skip ?_
 refine then_n ?_
 refine sr ?_
 refine w_val (v := pt b_x 0) (y_off (y_fa (ev (pt b_x 0) rfl rfl) (RecLawsT.fa42_0 _ _)) (by first | rfl | omega)) ?_
 refine w_val (v := .string (str key)) (y_ld (ev (pt b_x 0) rfl rfl) RecLawsT.sc9 (r_b_x.val (by omega) (etv (if_pos (by omega))))) ?_
 refine w_val (v := pt b_x 1) (y_off (y_fa (ev (pt b_x 0) rfl rfl) (RecLawsT.fa42_1 _ _)) (by first | rfl | omega)) ?_
 refine w_val (v := .string (str vi)) (y_ld (ev (pt b_x 1) rfl rfl) RecLawsT.sc9 (r_b_x.val (by omega) ((if_neg (by omega)).trans (etv (if_pos (by omega)))))) ?_
 refine w_mv (ev (.string (str (Rc.lock key vi t f))) rfl rfl) ?_
 refine w_call (Try.func39) (by kernel_rfl) rfl (m3 (ev (.string (str key)) rfl rfl) (ev (.string (str vi)) rfl rfl) (ev (.string (str (Rc.lock key vi t f))) rfl rfl)) (lockBack key vi hok hiv t f h3 h255 hf w7) ?_
 rintro _ w9 ⟨rfl, hb10⟩
 refine ⟨_, rfl, ?_⟩
 replace r_b_x := r_b_x.step hb10
 replace hk := thenB hk hb10
 refine w_mv (ev (.tuple #[.string (str t), .int .i64 0]) rfl rfl) ?_
 refine w_val (y_ext (v := .string (str t)) (ev (.tuple #[.string (str t), .int .i64 0]) rfl rfl) rfl) ?_
 refine w_val (y_ext (v := .int .i64 0) (ev (.tuple #[.string (str t), .int .i64 0]) rfl rfl) rfl) ?_
 refine w_as (ev (.string (str t)) rfl rfl) ?_
 refine w_as (ev (.int .i64 0) rfl rfl) ?_
 refine nt ?_
 refine sr ?_
 refine w_mv (ev (.int .i64 0) rfl rfl) ?_
 refine w_val (y_bin (ev (.int .i64 0) rfl rfl) (evc (.int .i64 0)) b_neq) ?_
 refine w_mv (ev (.bool false) rfl rfl) ?_
 refine w_val_g (v := .int .i64 0) (want_yes (j := 2) rfl rfl (ev (.bool false) rfl rfl) rfl) (y_mv (ev (.int .i64 0) rfl rfl)) ?_
 refine w_val_g (want_yes (j := 2) rfl rfl (ev (.bool false) rfl rfl) rfl) (y_bin (ev (.int .i64 0) rfl rfl) (evc (.int .i64 0)) b_eql) ?_
 refine w_val_g (v := .bool true) (want_yes (j := 2) rfl rfl (ev (.bool false) rfl rfl) rfl) (y_mv (ev (.bool true) rfl rfl)) ?_
 refine w_val_g (v := .string (str t)) (want_yes (j := 5) rfl rfl (ev (.bool true) rfl rfl) rfl) (y_mv (ev (.string (str t)) rfl rfl)) ?_
 refine w_val_g (v := pt b_x 2) (want_yes (j := 5) rfl rfl (ev (.bool true) rfl rfl) rfl) (y_off (y_fa (ev (pt b_x 0) rfl rfl) (RecLawsT.fa42_2 _ _)) (by first | rfl | omega)) ?_
 refine w_val_g (v := .string (str t)) (want_yes (j := 5) rfl rfl (ev (.bool true) rfl rfl) rfl) (y_ld (ev (pt b_x 2) rfl rfl) RecLawsT.sc9 (r_b_x.val (by omega) ((if_neg (by omega)).trans ((if_neg (by omega)).trans (etv (if_pos (by omega))))))) ?_
 refine w_val_g (want_yes (j := 5) rfl rfl (ev (.bool true) rfl rfl) rfl) (y_bin (ev (.string (str t)) rfl rfl) (ev (.string (str t)) rfl rfl) b_eqs_same) ?_
 refine w_val_g (want_yes (j := 2) rfl rfl (ev (.bool false) rfl rfl) rfl) (y_pick_t (ev (.bool true) rfl rfl) (ev (.bool true) rfl rfl)) ?_
 refine w_val (y_pick_f (ev (.bool false) rfl rfl) (ev (.bool true) rfl rfl)) ?_
 refine w_as (ev (.bool true) rfl rfl) ?_
 refine nt ?_
 refine wp_ret ?_
 refine fin_ret1 rfl (ev (.bool true) rfl rfl) ?_
 exact ⟨rfl, hk⟩

theorem walk_RecipLocks (key : List (BitVec 8)) (hkey : key.length ≤ 140737488351232) (vi : List (BitVec 8)) (hvi : vi.length ≤ 140737488351232) (t : List (BitVec 8)) (ht : t.length ≤ 140737488351232) (f : List (BitVec 8)) (hf : f.length ≤ 140737488351232) (w : World) : Calls Try.prog 9 #[.agg #[.string (str key), .string (str vi), .string (str t), .string (str f)]] w fun e w' => e = .returned (.bool true) ∧ Below w.heap.size w w' := by
  by_cases hok : Aes.okKey key.length
  · by_cases hiv : vi.length = 16
    · by_cases hs : 3 ≤ t.length ∧ t.length ≤ 255
      · by_cases hq : f.length = Rc.fl t.length
        · exact recipLocks_y key vi hok hiv t f hs.1 hs.2 hq w
        · exact recipLocks_f key vi hok hiv t f hs.1 hs.2 hq w
      · exact recipLocks_s key vi hok hiv t f hs w
    · exact recipLocks_i key vi hok hiv t f w
  · exact recipLocks_k key vi hok t f w
end Go.Proofs.Ytjdcpejcnmpiaaa
