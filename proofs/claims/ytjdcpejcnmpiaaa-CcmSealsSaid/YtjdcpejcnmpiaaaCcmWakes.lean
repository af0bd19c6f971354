/-
  The laws of ccm: their waking, what is long. No conditions.
-/
import Derived.Test.YtjdcpejcnmpiaaaRows
import Derived.Test.YtjdcpejcnmpiaaaCcmC
import Derived.Test.YtjdcpejcnmpiaaaCcmE
import Derived.ProofKit
namespace Go.Proofs.Ytjdcpejcnmpiaaa
open Go.RowKit
set_option linter.unusedSimpArgs false
set_option linter.unusedVariables false
namespace CcmWakesT
theorem mixed : Try.prog.follows .mixedOrders = true := by kernel_rfl
theorem fa49_2 (g off : Nat) : ∀ w, (Instr.fieldAt 49 (.pointer (some ⟨g, off, none⟩)) 2).run Try.prog w = .ok (.pointer (some ⟨g, off + 2, none⟩)) w := fun w => by kernel_rfl
theorem sc9 : (Try.prog.underlying 9).map scal = some true := by rw [Try.underlying9]; rfl
end CcmWakesT
set_option maxRecDepth 100000 in
set_option maxHeartbeats 1000000 in
theorem ccmWakes_c  (w0 : World) : Calls Try.prog 43 #[] w0 fun e w' => e = .returned (.bool true) ∧ Below w0.heap.size w0 w' := by
 refine enter (n := 13) Try.func43 rfl rfl rfl ?_
 have hk : Below w0.heap.size w0 w0 := Below.refl _ _
 refine sr ?_
 refine w_as (evc (.bool false)) ?_
 refine nt ?_
 refine sr ?_
 refine w_call (Try.func45) (by kernel_rfl) rfl (m5 (evc (.string (str Cm.wk))) (evc (.string (str Cm.wn))) (evc (.string (str Cm.wa))) (evc (.string (str Cm.wt))) (evc (.int .i64 4))) (cmSeal_y Cm.wk Cm.wn Cm.wa 4 (Or.inl rfl) (by decide) (by decide) (by decide) (by decide) (by decide) Cm.wt (by decide) ⟨by decide, by decide⟩ (by decide) w0) ?_
 rintro _ w1 ⟨rfl, hb2⟩
 refine ⟨_, rfl, ?_⟩
 replace hk := thenB hk hb2
 refine w_mv (ev (.tuple #[.string (str (Cm.sealed Cm.wk Cm.wn Cm.wa Cm.wt 8 4)), .int .i64 0]) rfl rfl) ?_
 refine w_val (y_ext (v := .string (str (Cm.sealed Cm.wk Cm.wn Cm.wa Cm.wt 8 4))) (ev (.tuple #[.string (str (Cm.sealed Cm.wk Cm.wn Cm.wa Cm.wt 8 4)), .int .i64 0]) rfl rfl) rfl) ?_
 refine w_val (y_ext (v := .int .i64 0) (ev (.tuple #[.string (str (Cm.sealed Cm.wk Cm.wn Cm.wa Cm.wt 8 4)), .int .i64 0]) rfl rfl) rfl) ?_
 refine w_as (ev (.string (str (Cm.sealed Cm.wk Cm.wn Cm.wa Cm.wt 8 4))) rfl rfl) ?_
 refine w_as (ev (.int .i64 0) rfl rfl) ?_
 refine nt ?_
 refine sr ?_
 refine w_mv (ev (.int .i64 0) rfl rfl) ?_
 refine w_val (y_bin (ev (.int .i64 0) rfl rfl) (evc (.int .i64 0)) b_eql) ?_
 refine w_mv (ev (.bool true) rfl rfl) ?_
 refine w_val_g (v := .string (str (Cm.sealed Cm.wk Cm.wn Cm.wa Cm.wt 8 4))) (want_yes (j := 2) rfl rfl (ev (.bool true) rfl rfl) rfl) (y_mv (ev (.string (str (Cm.sealed Cm.wk Cm.wn Cm.wa Cm.wt 8 4))) rfl rfl)) ?_
 refine w_val_g (want_yes (j := 2) rfl rfl (ev (.bool true) rfl rfl) rfl) (y_bin (ev (.string (str (Cm.sealed Cm.wk Cm.wn Cm.wa Cm.wt 8 4))) rfl rfl) (evc (.string (str Cm.wo))) b_eqs) ?_
 refine w_val (y_pick_t (ev (.bool true) rfl rfl) (ev (.bool (decide ((Cm.sealed Cm.wk Cm.wn Cm.wa Cm.wt 8 4) = Cm.wo))) rfl rfl)) ?_
 refine w_as (ev (.bool (decide ((Cm.sealed Cm.wk Cm.wn Cm.wa Cm.wt 8 4) = Cm.wo))) rfl rfl) ?_
 refine nt ?_
 refine wp_ret ?_
 have hc3 : (Cm.sealed Cm.wk Cm.wn Cm.wa Cm.wt 8 4) = Cm.wo := by exact Cm.wakes
 refine fin_ret1 rfl (ev (.bool true) (Eq.trans (b := .bool (decide ((Cm.sealed Cm.wk Cm.wn Cm.wa Cm.wt 8 4) = Cm.wo))) rfl (by rw [decide_eq_true hc3])) rfl) ?_
 exact ⟨rfl, hk⟩

set_option maxRecDepth 100000 in
set_option maxHeartbeats 1000000 in
theorem ccmLong_t (key nonce aad : List (BitVec 8)) (size : Int) (text : List (BitVec 8)) (h : 1000 < aad.length ∧ aad.length ≤ 70000 ∨ 1000 < text.length ∧ text.length ≤ 70016) (w0 : World) : Calls Try.prog 44 #[.agg (arr 4 (fun j => if j < 1 then .string (str key) else if j < 2 then .string (str nonce) else if j < 3 then .string (str aad) else .int .i64 size)), .string (str text)] w0 fun e w' => e = .returned (.bool true) ∧ Below w0.heap.size w0 w' := by
 refine enter (n := 25) Try.func44 rfl rfl rfl ?_
 have hk : Below w0.heap.size w0 w0 := Below.refl _ _
 refine sr ?_
 refine w_box (m := 4) (F := fun j => if j < 1 then .string (str key) else if j < 2 then .string (str nonce) else if j < 3 then .string (str aad) else .int .i64 size) (ev (.agg (arr 4 (fun j => if j < 1 then .string (str key) else if j < 2 then .string (str nonce) else if j < 3 then .string (str aad) else .int .i64 size))) rfl rfl) rfl ?_
 intro b_b w1 hbe_b_b r_b_b hb2
 have ge_b_b : w0.heap.size ≤ b_b := by have := hk.size; omega
 clear hbe_b_b
 replace hk := thenB hk hb2
 refine w_as (evc (.bool false)) ?_
 refine nt ?_
 refine sr ?_
 refine w_val (v := pt b_b 2) (y_off (y_fa (ev (pt b_b 0) rfl rfl) (CcmWakesT.fa49_2 _ _)) (by first | rfl | omega)) ?_
 refine w_val (v := .string (str aad)) (y_ld (ev (pt b_b 2) rfl rfl) CcmWakesT.sc9 (r_b_b.val (by omega) ((if_neg (by omega)).trans ((if_neg (by omega)).trans (etv (if_pos (by omega))))))) ?_
 refine w_val (y_len (ev (.string (str aad)) rfl rfl) Try.underlying9) ?_
 refine w_val (y_bin (ev (.int .i64 ((aad.length : Nat) : Int)) rfl rfl) (evc (.int .i64 1000)) b_gtr) ?_
 refine w_mv (ev (.bool (decide (1000 < ((aad.length : Nat) : Int)))) rfl rfl) ?_
 by_cases hc3 : 1000 < ((aad.length : Nat) : Int)
 ·skip
  refine w_val_g (v := pt b_b 2) (want_yes (j := 4) rfl rfl (ev (.bool true) (Eq.trans (b := .bool (decide (1000 < ((aad.length : Nat) : Int)))) rfl (by rw [decide_eq_true hc3])) rfl) rfl) (y_off (y_fa (ev (pt b_b 0) rfl rfl) (CcmWakesT.fa49_2 _ _)) (by first | rfl | omega)) ?_
  refine w_val_g (v := .string (str aad)) (want_yes (j := 4) rfl rfl (ev (.bool true) (Eq.trans (b := .bool (decide (1000 < ((aad.length : Nat) : Int)))) rfl (by rw [decide_eq_true hc3])) rfl) rfl) (y_ld (ev (pt b_b 2) rfl rfl) CcmWakesT.sc9 (r_b_b.val (by omega) ((if_neg (by omega)).trans ((if_neg (by omega)).trans (etv (if_pos (by omega))))))) ?_
  refine w_val_g (want_yes (j := 4) rfl rfl (ev (.bool true) (Eq.trans (b := .bool (decide (1000 < ((aad.length : Nat) : Int)))) rfl (by rw [decide_eq_true hc3])) rfl) rfl) (y_len (ev (.string (str aad)) rfl rfl) Try.underlying9) ?_
  refine w_val_g (want_yes (j := 4) rfl rfl (ev (.bool true) (Eq.trans (b := .bool (decide (1000 < ((aad.length : Nat) : Int)))) rfl (by rw [decide_eq_true hc3])) rfl) rfl) (y_bin (ev (.int .i64 ((aad.length : Nat) : Int)) rfl rfl) (evc (.int .i64 70000)) b_leq) ?_
  refine w_val (y_pick_t (ev (.bool true) (Eq.trans (b := .bool (decide (1000 < ((aad.length : Nat) : Int)))) rfl (by rw [decide_eq_true hc3])) rfl) (ev (.bool (decide (((aad.length : Nat) : Int) ≤ 70000))) rfl rfl)) ?_
  refine w_mv (ev (.bool (decide (((aad.length : Nat) : Int) ≤ 70000))) rfl rfl) ?_
  by_cases hc4 : ((aad.length : Nat) : Int) ≤ 70000
  ·skip
   first | with_reducible refine w_skip ?_ ?_ | refine w_skip ?_ ?_
   · exact want_no (j := 10) rfl rfl (ev (.bool true) (Eq.trans (b := .bool (decide (((aad.length : Nat) : Int) ≤ 70000))) rfl (by rw [decide_eq_true hc4])) rfl) rfl
   first | with_reducible refine w_skip ?_ ?_ | refine w_skip ?_ ?_
   · exact want_no (j := 10) rfl rfl (ev (.bool true) (Eq.trans (b := .bool (decide (((aad.length : Nat) : Int) ≤ 70000))) rfl (by rw [decide_eq_true hc4])) rfl) rfl
   first | with_reducible refine w_skip ?_ ?_ | refine w_skip ?_ ?_
   · exact want_no (j := 10) rfl rfl (ev (.bool true) (Eq.trans (b := .bool (decide (((aad.length : Nat) : Int) ≤ 70000))) rfl (by rw [decide_eq_true hc4])) rfl) rfl
   first | with_reducible refine w_skip ?_ ?_ | refine w_skip ?_ ?_
   · exact want_no (j := 10) rfl rfl (ev (.bool true) (Eq.trans (b := .bool (decide (((aad.length : Nat) : Int) ≤ 70000))) rfl (by rw [decide_eq_true hc4])) rfl) rfl
   first | with_reducible refine w_skip ?_ ?_ | refine w_skip ?_ ?_
   · exact want_un (j := 14) rfl rfl (ev undef rfl rfl) rfl
   first | with_reducible refine w_skip ?_ ?_ | refine w_skip ?_ ?_
   · exact want_un (j := 14) rfl rfl (ev undef rfl rfl) rfl
   first | with_reducible refine w_skip ?_ ?_ | refine w_skip ?_ ?_
   · exact want_un (j := 14) rfl rfl (ev undef rfl rfl) rfl
   first | with_reducible refine w_skip ?_ ?_ | refine w_skip ?_ ?_
   · exact want_no (j := 10) rfl rfl (ev (.bool true) (Eq.trans (b := .bool (decide (((aad.length : Nat) : Int) ≤ 70000))) rfl (by rw [decide_eq_true hc4])) rfl) rfl
   refine w_val (y_pick_t (ev (.bool true) (Eq.trans (b := .bool (decide (((aad.length : Nat) : Int) ≤ 70000))) rfl (by rw [decide_eq_true hc4])) rfl) (evc (.bool true))) ?_
   refine w_as (ev (.bool true) rfl rfl) ?_
   refine nt ?_
   refine wp_ret ?_
   refine fin_ret1 rfl (ev (.bool true) rfl rfl) ?_
   exact ⟨rfl, hk⟩
  ·skip
   refine w_val_g (v := .string (str text)) (want_yes (j := 10) rfl rfl (ev (.bool false) (Eq.trans (b := .bool (decide (((aad.length : Nat) : Int) ≤ 70000))) rfl (by rw [decide_eq_false hc4])) rfl) rfl) (y_mv (ev (.string (str text)) rfl rfl)) ?_
   refine w_val_g (want_yes (j := 10) rfl rfl (ev (.bool false) (Eq.trans (b := .bool (decide (((aad.length : Nat) : Int) ≤ 70000))) rfl (by rw [decide_eq_false hc4])) rfl) rfl) (y_len (ev (.string (str text)) rfl rfl) Try.underlying9) ?_
   refine w_val_g (want_yes (j := 10) rfl rfl (ev (.bool false) (Eq.trans (b := .bool (decide (((aad.length : Nat) : Int) ≤ 70000))) rfl (by rw [decide_eq_false hc4])) rfl) rfl) (y_bin (ev (.int .i64 ((text.length : Nat) : Int)) rfl rfl) (evc (.int .i64 1000)) b_gtr) ?_
   refine w_val_g (v := .bool (decide (1000 < ((text.length : Nat) : Int)))) (want_yes (j := 10) rfl rfl (ev (.bool false) (Eq.trans (b := .bool (decide (((aad.length : Nat) : Int) ≤ 70000))) rfl (by rw [decide_eq_false hc4])) rfl) rfl) (y_mv (ev (.bool (decide (1000 < ((text.length : Nat) : Int)))) rfl rfl)) ?_
   by_cases hc5 : 1000 < ((text.length : Nat) : Int)
   ·skip
    refine w_val_g (v := .string (str text)) (want_yes (j := 14) rfl rfl (ev (.bool true) (Eq.trans (b := .bool (decide (1000 < ((text.length : Nat) : Int)))) rfl (by rw [decide_eq_true hc5])) rfl) rfl) (y_mv (ev (.string (str text)) rfl rfl)) ?_
    refine w_val_g (want_yes (j := 14) rfl rfl (ev (.bool true) (Eq.trans (b := .bool (decide (1000 < ((text.length : Nat) : Int)))) rfl (by rw [decide_eq_true hc5])) rfl) rfl) (y_len (ev (.string (str text)) rfl rfl) Try.underlying9) ?_
    refine w_val_g (want_yes (j := 14) rfl rfl (ev (.bool true) (Eq.trans (b := .bool (decide (1000 < ((text.length : Nat) : Int)))) rfl (by rw [decide_eq_true hc5])) rfl) rfl) (y_bin (ev (.int .i64 ((text.length : Nat) : Int)) rfl rfl) (evc (.int .i64 70016)) b_leq) ?_
    refine w_val_g (want_yes (j := 10) rfl rfl (ev (.bool false) (Eq.trans (b := .bool (decide (((aad.length : Nat) : Int) ≤ 70000))) rfl (by rw [decide_eq_false hc4])) rfl) rfl) (y_pick_t (ev (.bool true) (Eq.trans (b := .bool (decide (1000 < ((text.length : Nat) : Int)))) rfl (by rw [decide_eq_true hc5])) rfl) (ev (.bool (decide (((text.length : Nat) : Int) ≤ 70016))) rfl rfl)) ?_
    refine w_val (y_pick_f (ev (.bool false) (Eq.trans (b := .bool (decide (((aad.length : Nat) : Int) ≤ 70000))) rfl (by rw [decide_eq_false hc4])) rfl) (ev (.bool (decide (((text.length : Nat) : Int) ≤ 70016))) rfl rfl)) ?_
    refine w_as (ev (.bool (decide (((text.length : Nat) : Int) ≤ 70016))) rfl rfl) ?_
    refine nt ?_
    refine wp_ret ?_
    refine fin_ret1 rfl (ev (.bool (decide (((text.length : Nat) : Int) ≤ 70016))) rfl rfl) ?_
    refine ⟨congrArg Ending.returned ?_, hk⟩
    show (.bool (decide (((text.length : Nat) : Int) ≤ 70016)) : Value) = .bool true
    first | with_reducible rfl | (exfalso; omega) | (exact congrArg Value.bool (decide_eq_true (by omega)))
   ·skip
    first | with_reducible refine w_skip ?_ ?_ | refine w_skip ?_ ?_
    · exact want_no (j := 14) rfl rfl (ev (.bool false) (Eq.trans (b := .bool (decide (1000 < ((text.length : Nat) : Int)))) rfl (by rw [decide_eq_false hc5])) rfl) rfl
    first | with_reducible refine w_skip ?_ ?_ | refine w_skip ?_ ?_
    · exact want_no (j := 14) rfl rfl (ev (.bool false) (Eq.trans (b := .bool (decide (1000 < ((text.length : Nat) : Int)))) rfl (by rw [decide_eq_false hc5])) rfl) rfl
    first | with_reducible refine w_skip ?_ ?_ | refine w_skip ?_ ?_
    · exact want_no (j := 14) rfl rfl (ev (.bool false) (Eq.trans (b := .bool (decide (1000 < ((text.length : Nat) : Int)))) rfl (by rw [decide_eq_false hc5])) rfl) rfl
    refine w_val_g (want_yes (j := 10) rfl rfl (ev (.bool false) (Eq.trans (b := .bool (decide (((aad.length : Nat) : Int) ≤ 70000))) rfl (by rw [decide_eq_false hc4])) rfl) rfl) (y_pick_f (ev (.bool false) (Eq.trans (b := .bool (decide (1000 < ((text.length : Nat) : Int)))) rfl (by rw [decide_eq_false hc5])) rfl) (evc (.bool false))) ?_
    refine w_val (y_pick_f (ev (.bool false) (Eq.trans (b := .bool (decide (((aad.length : Nat) : Int) ≤ 70000))) rfl (by rw [decide_eq_false hc4])) rfl) (ev (.bool false) rfl rfl)) ?_
    refine w_as (ev (.bool false) rfl rfl) ?_
    refine nt ?_
    refine wp_ret ?_
    refine fin_ret1 rfl (ev (.bool false) rfl rfl) ?_
    refine ⟨congrArg Ending.returned ?_, hk⟩
    show (.bool false : Value) = .bool true
    first | with_reducible rfl | (exfalso; omega) | (exact congrArg Value.bool (decide_eq_true (by omega)))
 ·skip
  first | with_reducible refine w_skip ?_ ?_ | refine w_skip ?_ ?_
  · exact want_no (j := 4) rfl rfl (ev (.bool false) (Eq.trans (b := .bool (decide (1000 < ((aad.length : Nat) : Int)))) rfl (by rw [decide_eq_false hc3])) rfl) rfl
  first | with_reducible refine w_skip ?_ ?_ | refine w_skip ?_ ?_
  · exact want_no (j := 4) rfl rfl (ev (.bool false) (Eq.trans (b := .bool (decide (1000 < ((aad.length : Nat) : Int)))) rfl (by rw [decide_eq_false hc3])) rfl) rfl
  first | with_reducible refine w_skip ?_ ?_ | refine w_skip ?_ ?_
  · exact want_no (j := 4) rfl rfl (ev (.bool false) (Eq.trans (b := .bool (decide (1000 < ((aad.length : Nat) : Int)))) rfl (by rw [decide_eq_false hc3])) rfl) rfl
  first | with_reducible refine w_skip ?_ ?_ | refine w_skip ?_ ?_
  · exact want_no (j := 4) rfl rfl (ev (.bool false) (Eq.trans (b := .bool (decide (1000 < ((aad.length : Nat) : Int)))) rfl (by rw [decide_eq_false hc3])) rfl) rfl
  refine w_val (y_pick_f (ev (.bool false) (Eq.trans (b := .bool (decide (1000 < ((aad.length : Nat) : Int)))) rfl (by rw [decide_eq_false hc3])) rfl) (evc (.bool false))) ?_
  refine w_mv (ev (.bool false) rfl rfl) ?_
  refine w_val_g (v := .string (str text)) (want_yes (j := 10) rfl rfl (ev (.bool false) rfl rfl) rfl) (y_mv (ev (.string (str text)) rfl rfl)) ?_
  refine w_val_g (want_yes (j := 10) rfl rfl (ev (.bool false) rfl rfl) rfl) (y_len (ev (.string (str text)) rfl rfl) Try.underlying9) ?_
  refine w_val_g (want_yes (j := 10) rfl rfl (ev (.bool false) rfl rfl) rfl) (y_bin (ev (.int .i64 ((text.length : Nat) : Int)) rfl rfl) (evc (.int .i64 1000)) b_gtr) ?_
  refine w_val_g (v := .bool (decide (1000 < ((text.length : Nat) : Int)))) (want_yes (j := 10) rfl rfl (ev (.bool false) rfl rfl) rfl) (y_mv (ev (.bool (decide (1000 < ((text.length : Nat) : Int)))) rfl rfl)) ?_
  by_cases hc6 : 1000 < ((text.length : Nat) : Int)
  ·skip
   refine w_val_g (v := .string (str text)) (want_yes (j := 14) rfl rfl (ev (.bool true) (Eq.trans (b := .bool (decide (1000 < ((text.length : Nat) : Int)))) rfl (by rw [decide_eq_true hc6])) rfl) rfl) (y_mv (ev (.string (str text)) rfl rfl)) ?_
   refine w_val_g (want_yes (j := 14) rfl rfl (ev (.bool true) (Eq.trans (b := .bool (decide (1000 < ((text.length : Nat) : Int)))) rfl (by rw [decide_eq_true hc6])) rfl) rfl) (y_len (ev (.string (str text)) rfl rfl) Try.underlying9) ?_
   refine w_val_g (want_yes (j := 14) rfl rfl (ev (.bool true) (Eq.trans (b := .bool (decide (1000 < ((text.length : Nat) : Int)))) rfl (by rw [decide_eq_true hc6])) rfl) rfl) (y_bin (ev (.int .i64 ((text.length : Nat) : Int)) rfl rfl) (evc (.int .i64 70016)) b_leq) ?_
   refine w_val_g (want_yes (j := 10) rfl rfl (ev (.bool false) rfl rfl) rfl) (y_pick_t (ev (.bool true) (Eq.trans (b := .bool (decide (1000 < ((text.length : Nat) : Int)))) rfl (by rw [decide_eq_true hc6])) rfl) (ev (.bool (decide (((text.length : Nat) : Int) ≤ 70016))) rfl rfl)) ?_
   refine w_val (y_pick_f (ev (.bool false) rfl rfl) (ev (.bool (decide (((text.length : Nat) : Int) ≤ 70016))) rfl rfl)) ?_
   refine w_as (ev (.bool (decide (((text.length : Nat) : Int) ≤ 70016))) rfl rfl) ?_
   refine nt ?_
   refine wp_ret ?_
   refine fin_ret1 rfl (ev (.bool (decide (((text.length : Nat) : Int) ≤ 70016))) rfl rfl) ?_
   refine ⟨congrArg Ending.returned ?_, hk⟩
   show (.bool (decide (((text.length : Nat) : Int) ≤ 70016)) : Value) = .bool true
   first | with_reducible rfl | (exfalso; omega) | (exact congrArg Value.bool (decide_eq_true (by omega)))
  ·skip
   first | with_reducible refine w_skip ?_ ?_ | refine w_skip ?_ ?_
   · exact want_no (j := 14) rfl rfl (ev (.bool false) (Eq.trans (b := .bool (decide (1000 < ((text.length : Nat) : Int)))) rfl (by rw [decide_eq_false hc6])) rfl) rfl
   first | with_reducible refine w_skip ?_ ?_ | refine w_skip ?_ ?_
   · exact want_no (j := 14) rfl rfl (ev (.bool false) (Eq.trans (b := .bool (decide (1000 < ((text.length : Nat) : Int)))) rfl (by rw [decide_eq_false hc6])) rfl) rfl
   first | with_reducible refine w_skip ?_ ?_ | refine w_skip ?_ ?_
   · exact want_no (j := 14) rfl rfl (ev (.bool false) (Eq.trans (b := .bool (decide (1000 < ((text.length : Nat) : Int)))) rfl (by rw [decide_eq_false hc6])) rfl) rfl
   refine w_val_g (want_yes (j := 10) rfl rfl (ev (.bool false) rfl rfl) rfl) (y_pick_f (ev (.bool false) (Eq.trans (b := .bool (decide (1000 < ((text.length : Nat) : Int)))) rfl (by rw [decide_eq_false hc6])) rfl) (evc (.bool false))) ?_
   refine w_val (y_pick_f (ev (.bool false) rfl rfl) (ev (.bool false) rfl rfl)) ?_
   refine w_as (ev (.bool false) rfl rfl) ?_
   refine nt ?_
   refine wp_ret ?_
   refine fin_ret1 rfl (ev (.bool false) rfl rfl) ?_
   refine ⟨congrArg Ending.returned ?_, hk⟩
   show (.bool false : Value) = .bool true
   first | with_reducible rfl | (exfalso; omega) | (exact congrArg Value.bool (decide_eq_true (by omega)))

set_option maxRecDepth 100000 in
set_option maxHeartbeats 1000000 in
theorem ccmLong_f (key nonce aad : List (BitVec 8)) (size : Int) (text : List (BitVec 8)) (h : ¬ (1000 < aad.length ∧ aad.length ≤ 70000 ∨ 1000 < text.length ∧ text.length ≤ 70016)) (w0 : World) : Calls Try.prog 44 #[.agg (arr 4 (fun j => if j < 1 then .string (str key) else if j < 2 then .string (str nonce) else if j < 3 then .string (str aad) else .int .i64 size)), .string (str text)] w0 fun e w' => e = .returned (.bool false) ∧ Below w0.heap.size w0 w' := by
 refine enter (n := 25) Try.func44 rfl rfl rfl ?_
 have hk : Below w0.heap.size w0 w0 := Below.refl _ _
 refine sr ?_
 refine w_box (m := 4) (F := fun j => if j < 1 then .string (str key) else if j < 2 then .string (str nonce) else if j < 3 then .string (str aad) else .int .i64 size) (ev (.agg (arr 4 (fun j => if j < 1 then .string (str key) else if j < 2 then .string (str nonce) else if j < 3 then .string (str aad) else .int .i64 size))) rfl rfl) rfl ?_
 intro b_b w1 hbe_b_b r_b_b hb2
 have ge_b_b : w0.heap.size ≤ b_b := by have := hk.size; omega
 clear hbe_b_b
 replace hk := thenB hk hb2
 refine w_as (evc (.bool false)) ?_
 refine nt ?_
 refine sr ?_
 refine w_val (v := pt b_b 2) (y_off (y_fa (ev (pt b_b 0) rfl rfl) (CcmWakesT.fa49_2 _ _)) (by first | rfl | omega)) ?_
 refine w_val (v := .string (str aad)) (y_ld (ev (pt b_b 2) rfl rfl) CcmWakesT.sc9 (r_b_b.val (by omega) ((if_neg (by omega)).trans ((if_neg (by omega)).trans (etv (if_pos (by omega))))))) ?_
 refine w_val (y_len (ev (.string (str aad)) rfl rfl) Try.underlying9) ?_
 refine w_val (y_bin (ev (.int .i64 ((aad.length : Nat) : Int)) rfl rfl) (evc (.int .i64 1000)) b_gtr) ?_
 refine w_mv (ev (.bool (decide (1000 < ((aad.length : Nat) : Int)))) rfl rfl) ?_
 by_cases hc3 : 1000 < ((aad.length : Nat) : Int)
 ·skip
  refine w_val_g (v := pt b_b 2) (want_yes (j := 4) rfl rfl (ev (.bool true) (Eq.trans (b := .bool (decide (1000 < ((aad.length : Nat) : Int)))) rfl (by rw [decide_eq_true hc3])) rfl) rfl) (y_off (y_fa (ev (pt b_b 0) rfl rfl) (CcmWakesT.fa49_2 _ _)) (by first | rfl | omega)) ?_
  refine w_val_g (v := .string (str aad)) (want_yes (j := 4) rfl rfl (ev (.bool true) (Eq.trans (b := .bool (decide (1000 < ((aad.length : Nat) : Int)))) rfl (by rw [decide_eq_true hc3])) rfl) rfl) (y_ld (ev (pt b_b 2) rfl rfl) CcmWakesT.sc9 (r_b_b.val (by omega) ((if_neg (by omega)).trans ((if_neg (by omega)).trans (etv (if_pos (by omega))))))) ?_
  refine w_val_g (want_yes (j := 4) rfl rfl (ev (.bool true) (Eq.trans (b := .bool (decide (1000 < ((aad.length : Nat) : Int)))) rfl (by rw [decide_eq_true hc3])) rfl) rfl) (y_len (ev (.string (str aad)) rfl rfl) Try.underlying9) ?_
  refine w_val_g (want_yes (j := 4) rfl rfl (ev (.bool true) (Eq.trans (b := .bool (decide (1000 < ((aad.length : Nat) : Int)))) rfl (by rw [decide_eq_true hc3])) rfl) rfl) (y_bin (ev (.int .i64 ((aad.length : Nat) : Int)) rfl rfl) (evc (.int .i64 70000)) b_leq) ?_
  refine w_val (y_pick_t (ev (.bool true) (Eq.trans (b := .bool (decide (1000 < ((aad.length : Nat) : Int)))) rfl (by rw [decide_eq_true hc3])) rfl) (ev (.bool (decide (((aad.length : Nat) : Int) ≤ 70000))) rfl rfl)) ?_
  refine w_mv (ev (.bool (decide (((aad.length : Nat) : Int) ≤ 70000))) rfl rfl) ?_
  by_cases hc4 : ((aad.length : Nat) : Int) ≤ 70000
  ·skip
   first | with_reducible refine w_skip ?_ ?_ | refine w_skip ?_ ?_
   · exact want_no (j := 10) rfl rfl (ev (.bool true) (Eq.trans (b := .bool (decide (((aad.length : Nat) : Int) ≤ 70000))) rfl (by rw [decide_eq_true hc4])) rfl) rfl
   first | with_reducible refine w_skip ?_ ?_ | refine w_skip ?_ ?_
   · exact want_no (j := 10) rfl rfl (ev (.bool true) (Eq.trans (b := .bool (decide (((aad.length : Nat) : Int) ≤ 70000))) rfl (by rw [decide_eq_true hc4])) rfl) rfl
   first | with_reducible refine w_skip ?_ ?_ | refine w_skip ?_ ?_
   · exact want_no (j := 10) rfl rfl (ev (.bool true) (Eq.trans (b := .bool (decide (((aad.length : Nat) : Int) ≤ 70000))) rfl (by rw [decide_eq_true hc4])) rfl) rfl
   first | with_reducible refine w_skip ?_ ?_ | refine w_skip ?_ ?_
   · exact want_no (j := 10) rfl rfl (ev (.bool true) (Eq.trans (b := .bool (decide (((aad.length : Nat) : Int) ≤ 70000))) rfl (by rw [decide_eq_true hc4])) rfl) rfl
   first | with_reducible refine w_skip ?_ ?_ | refine w_skip ?_ ?_
   · exact want_un (j := 14) rfl rfl (ev undef rfl rfl) rfl
   first | with_reducible refine w_skip ?_ ?_ | refine w_skip ?_ ?_
   · exact want_un (j := 14) rfl rfl (ev undef rfl rfl) rfl
   first | with_reducible refine w_skip ?_ ?_ | refine w_skip ?_ ?_
   · exact want_un (j := 14) rfl rfl (ev undef rfl rfl) rfl
   first | with_reducible refine w_skip ?_ ?_ | refine w_skip ?_ ?_
   · exact want_no (j := 10) rfl rfl (ev (.bool true) (Eq.trans (b := .bool (decide (((aad.length : Nat) : Int) ≤ 70000))) rfl (by rw [decide_eq_true hc4])) rfl) rfl
   refine w_val (y_pick_t (ev (.bool true) (Eq.trans (b := .bool (decide (((aad.length : Nat) : Int) ≤ 70000))) rfl (by rw [decide_eq_true hc4])) rfl) (evc (.bool true))) ?_
   refine w_as (ev (.bool true) rfl rfl) ?_
   refine nt ?_
   refine wp_ret ?_
   refine fin_ret1 rfl (ev (.bool true) rfl rfl) ?_
   refine ⟨congrArg Ending.returned ?_, hk⟩
   show (.bool true : Value) = .bool false
   first | with_reducible rfl | (exfalso; omega) | (exact congrArg Value.bool (decide_eq_false (by omega)))
  ·skip
   refine w_val_g (v := .string (str text)) (want_yes (j := 10) rfl rfl (ev (.bool false) (Eq.trans (b := .bool (decide (((aad.length : Nat) : Int) ≤ 70000))) rfl (by rw [decide_eq_false hc4])) rfl) rfl) (y_mv (ev (.string (str text)) rfl rfl)) ?_
   refine w_val_g (want_yes (j := 10) rfl rfl (ev (.bool false) (Eq.trans (b := .bool (decide (((aad.length : Nat) : Int) ≤ 70000))) rfl (by rw [decide_eq_false hc4])) rfl) rfl) (y_len (ev (.string (str text)) rfl rfl) Try.underlying9) ?_
   refine w_val_g (want_yes (j := 10) rfl rfl (ev (.bool false) (Eq.trans (b := .bool (decide (((aad.length : Nat) : Int) ≤ 70000))) rfl (by rw [decide_eq_false hc4])) rfl) rfl) (y_bin (ev (.int .i64 ((text.length : Nat) : Int)) rfl rfl) (evc (.int .i64 1000)) b_gtr) ?_
   refine w_val_g (v := .bool (decide (1000 < ((text.length : Nat) : Int)))) (want_yes (j := 10) rfl rfl (ev (.bool false) (Eq.trans (b := .bool (decide (((aad.length : Nat) : Int) ≤ 70000))) rfl (by rw [decide_eq_false hc4])) rfl) rfl) (y_mv (ev (.bool (decide (1000 < ((text.length : Nat) : Int)))) rfl rfl)) ?_
   by_cases hc5 : 1000 < ((text.length : Nat) : Int)
   ·skip
    refine w_val_g (v := .string (str text)) (want_yes (j := 14) rfl rfl (ev (.bool true) (Eq.trans (b := .bool (decide (1000 < ((text.length : Nat) : Int)))) rfl (by rw [decide_eq_true hc5])) rfl) rfl) (y_mv (ev (.string (str text)) rfl rfl)) ?_
    refine w_val_g (want_yes (j := 14) rfl rfl (ev (.bool true) (Eq.trans (b := .bool (decide (1000 < ((text.length : Nat) : Int)))) rfl (by rw [decide_eq_true hc5])) rfl) rfl) (y_len (ev (.string (str text)) rfl rfl) Try.underlying9) ?_
    refine w_val_g (want_yes (j := 14) rfl rfl (ev (.bool true) (Eq.trans (b := .bool (decide (1000 < ((text.length : Nat) : Int)))) rfl (by rw [decide_eq_true hc5])) rfl) rfl) (y_bin (ev (.int .i64 ((text.length : Nat) : Int)) rfl rfl) (evc (.int .i64 70016)) b_leq) ?_
    refine w_val_g (want_yes (j := 10) rfl rfl (ev (.bool false) (Eq.trans (b := .bool (decide (((aad.length : Nat) : Int) ≤ 70000))) rfl (by rw [decide_eq_false hc4])) rfl) rfl) (y_pick_t (ev (.bool true) (Eq.trans (b := .bool (decide (1000 < ((text.length : Nat) : Int)))) rfl (by rw [decide_eq_true hc5])) rfl) (ev (.bool (decide (((text.length : Nat) : Int) ≤ 70016))) rfl rfl)) ?_
    refine w_val (y_pick_f (ev (.bool false) (Eq.trans (b := .bool (decide (((aad.length : Nat) : Int) ≤ 70000))) rfl (by rw [decide_eq_false hc4])) rfl) (ev (.bool (decide (((text.length : Nat) : Int) ≤ 70016))) rfl rfl)) ?_
    refine w_as (ev (.bool (decide (((text.length : Nat) : Int) ≤ 70016))) rfl rfl) ?_
    refine nt ?_
    refine wp_ret ?_
    refine fin_ret1 rfl (ev (.bool (decide (((text.length : Nat) : Int) ≤ 70016))) rfl rfl) ?_
    refine ⟨congrArg Ending.returned ?_, hk⟩
    show (.bool (decide (((text.length : Nat) : Int) ≤ 70016)) : Value) = .bool false
    first | with_reducible rfl | (exfalso; omega) | (exact congrArg Value.bool (decide_eq_false (by omega)))
   ·skip
    first | with_reducible refine w_skip ?_ ?_ | refine w_skip ?_ ?_
    · exact want_no (j := 14) rfl rfl (ev (.bool false) (Eq.trans (b := .bool (decide (1000 < ((text.length : Nat) : Int)))) rfl (by rw [decide_eq_false hc5])) rfl) rfl
    first | with_reducible refine w_skip ?_ ?_ | refine w_skip ?_ ?_
    · exact want_no (j := 14) rfl rfl (ev (.bool false) (Eq.trans (b := .bool (decide (1000 < ((text.length : Nat) : Int)))) rfl (by rw [decide_eq_false hc5])) rfl) rfl
    first | with_reducible refine w_skip ?_ ?_ | refine w_skip ?_ ?_
    · exact want_no (j := 14) rfl rfl (ev (.bool false) (Eq.trans (b := .bool (decide (1000 < ((text.length : Nat) : Int)))) rfl (by rw [decide_eq_false hc5])) rfl) rfl
    refine w_val_g (want_yes (j := 10) rfl rfl (ev (.bool false) (Eq.trans (b := .bool (decide (((aad.length : Nat) : Int) ≤ 70000))) rfl (by rw [decide_eq_false hc4])) rfl) rfl) (y_pick_f (ev (.bool false) (Eq.trans (b := .bool (decide (1000 < ((text.length : Nat) : Int)))) rfl (by rw [decide_eq_false hc5])) rfl) (evc (.bool false))) ?_
    refine w_val (y_pick_f (ev (.bool false) (Eq.trans (b := .bool (decide (((aad.length : Nat) : Int) ≤ 70000))) rfl (by rw [decide_eq_false hc4])) rfl) (ev (.bool false) rfl rfl)) ?_
    refine w_as (ev (.bool false) rfl rfl) ?_
    refine nt ?_
    refine wp_ret ?_
    refine fin_ret1 rfl (ev (.bool false) rfl rfl) ?_
    exact ⟨rfl, hk⟩
 ·skip
  first | with_reducible refine w_skip ?_ ?_ | refine w_skip ?_ ?_
  · exact want_no (j := 4) rfl rfl (ev (.bool false) (Eq.trans (b := .bool (decide (1000 < ((aad.length : Nat) : Int)))) rfl (by rw [decide_eq_false hc3])) rfl) rfl
  first | with_reducible refine w_skip ?_ ?_ | refine w_skip ?_ ?_
  · exact want_no (j := 4) rfl rfl (ev (.bool false) (Eq.trans (b := .bool (decide (1000 < ((aad.length : Nat) : Int)))) rfl (by rw [decide_eq_false hc3])) rfl) rfl
  first | with_reducible refine w_skip ?_ ?_ | refine w_skip ?_ ?_
  · exact want_no (j := 4) rfl rfl (ev (.bool false) (Eq.trans (b := .bool (decide (1000 < ((aad.length : Nat) : Int)))) rfl (by rw [decide_eq_false hc3])) rfl) rfl
  first | with_reducible refine w_skip ?_ ?_ | refine w_skip ?_ ?_
  · exact want_no (j := 4) rfl rfl (ev (.bool false) (Eq.trans (b := .bool (decide (1000 < ((aad.length : Nat) : Int)))) rfl (by rw [decide_eq_false hc3])) rfl) rfl
  refine w_val (y_pick_f (ev (.bool false) (Eq.trans (b := .bool (decide (1000 < ((aad.length : Nat) : Int)))) rfl (by rw [decide_eq_false hc3])) rfl) (evc (.bool false))) ?_
  refine w_mv (ev (.bool false) rfl rfl) ?_
  refine w_val_g (v := .string (str text)) (want_yes (j := 10) rfl rfl (ev (.bool false) rfl rfl) rfl) (y_mv (ev (.string (str text)) rfl rfl)) ?_
  refine w_val_g (want_yes (j := 10) rfl rfl (ev (.bool false) rfl rfl) rfl) (y_len (ev (.string (str text)) rfl rfl) Try.underlying9) ?_
  refine w_val_g (want_yes (j := 10) rfl rfl (ev (.bool false) rfl rfl) rfl) (y_bin (ev (.int .i64 ((text.length : Nat) : Int)) rfl rfl) (evc (.int .i64 1000)) b_gtr) ?_
  refine w_val_g (v := .bool (decide (1000 < ((text.length : Nat) : Int)))) (want_yes (j := 10) rfl rfl (ev (.bool false) rfl rfl) rfl) (y_mv (ev (.bool (decide (1000 < ((text.length : Nat) : Int)))) rfl rfl)) ?_
  by_cases hc6 : 1000 < ((text.length : Nat) : Int)
  ·skip
   refine w_val_g (v := .string (str text)) (want_yes (j := 14) rfl rfl (ev (.bool true) (Eq.trans (b := .bool (decide (1000 < ((text.length : Nat) : Int)))) rfl (by rw [decide_eq_true hc6])) rfl) rfl) (y_mv (ev (.string (str text)) rfl rfl)) ?_
   refine w_val_g (want_yes (j := 14) rfl rfl (ev (.bool true) (Eq.trans (b := .bool (decide (1000 < ((text.length : Nat) : Int)))) rfl (by rw [decide_eq_true hc6])) rfl) rfl) (y_len (ev (.string (str text)) rfl rfl) Try.underlying9) ?_
   refine w_val_g (want_yes (j := 14) rfl rfl (ev (.bool true) (Eq.trans (b := .bool (decide (1000 < ((text.length : Nat) : Int)))) rfl (by rw [decide_eq_true hc6])) rfl) rfl) (y_bin (ev (.int .i64 ((text.length : Nat) : Int)) rfl rfl) (evc (.int .i64 70016)) b_leq) ?_
   refine w_val_g (want_yes (j := 10) rfl rfl (ev (.bool false) rfl rfl) rfl) (y_pick_t (ev (.bool true) (Eq.trans (b := .bool (decide (1000 < ((text.length : Nat) : Int)))) rfl (by rw [decide_eq_true hc6])) rfl) (ev (.bool (decide (((text.length : Nat) : Int) ≤ 70016))) rfl rfl)) ?_
   refine w_val (y_pick_f (ev (.bool false) rfl rfl) (ev (.bool (decide (((text.length : Nat) : Int) ≤ 70016))) rfl rfl)) ?_
   refine w_as (ev (.bool (decide (((text.length : Nat) : Int) ≤ 70016))) rfl rfl) ?_
   refine nt ?_
   refine wp_ret ?_
   refine fin_ret1 rfl (ev (.bool (decide (((text.length : Nat) : Int) ≤ 70016))) rfl rfl) ?_
   refine ⟨congrArg Ending.returned ?_, hk⟩
   show (.bool (decide (((text.length : Nat) : Int) ≤ 70016)) : Value) = .bool false
   first | with_reducible rfl | (exfalso; omega) | (exact congrArg Value.bool (decide_eq_false (by omega)))
  ·skip
   first | with_reducible refine w_skip ?_ ?_ | refine w_skip ?_ ?_
   · exact want_no (j := 14) rfl rfl (ev (.bool false) (Eq.trans (b := .bool (decide (1000 < ((text.length : Nat) : Int)))) rfl (by rw [decide_eq_false hc6])) rfl) rfl
   first | with_reducible refine w_skip ?_ ?_ | refine w_skip ?_ ?_
   · exact want_no (j := 14) rfl rfl (ev (.bool false) (Eq.trans (b := .bool (decide (1000 < ((text.length : Nat) : Int)))) rfl (by rw [decide_eq_false hc6])) rfl) rfl
   first | with_reducible refine w_skip ?_ ?_ | refine w_skip ?_ ?_
   · exact want_no (j := 14) rfl rfl (ev (.bool false) (Eq.trans (b := .bool (decide (1000 < ((text.length : Nat) : Int)))) rfl (by rw [decide_eq_false hc6])) rfl) rfl
   refine w_val_g (want_yes (j := 10) rfl rfl (ev (.bool false) rfl rfl) rfl) (y_pick_f (ev (.bool false) (Eq.trans (b := .bool (decide (1000 < ((text.length : Nat) : Int)))) rfl (by rw [decide_eq_false hc6])) rfl) (evc (.bool false))) ?_
   refine w_val (y_pick_f (ev (.bool false) rfl rfl) (ev (.bool false) rfl rfl)) ?_
   refine w_as (ev (.bool false) rfl rfl) ?_
   refine nt ?_
   refine wp_ret ?_
   refine fin_ret1 rfl (ev (.bool false) rfl rfl) ?_
   exact ⟨rfl, hk⟩
end Go.Proofs.Ytjdcpejcnmpiaaa
