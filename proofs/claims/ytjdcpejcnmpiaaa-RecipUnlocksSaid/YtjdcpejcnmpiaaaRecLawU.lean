/-
  The law RecipUnlocks answers true. No conditions.
-/
import Derived.Test.YtjdcpejcnmpiaaaRows
import Derived.Test.YtjdcpejcnmpiaaaRecLaws
import Derived.Test.YtjdcpejcnmpiaaaRecD
import Derived.ProofKit
namespace Go.Proofs.Ytjdcpejcnmpiaaa
open Go.RowKit
set_option linter.unusedSimpArgs false
set_option linter.unusedVariables false
namespace RecLawUT
theorem mixed : Try.prog.follows .mixedOrders = true := by kernel_rfl
theorem fa42_0 (g off : Nat) : ∀ w, (Instr.fieldAt 42 (.pointer (some ⟨g, off, none⟩)) 0).run Try.prog w = .ok (.pointer (some ⟨g, off + 0, none⟩)) w := fun w => by kernel_rfl
theorem fa42_1 (g off : Nat) : ∀ w, (Instr.fieldAt 42 (.pointer (some ⟨g, off, none⟩)) 1).run Try.prog w = .ok (.pointer (some ⟨g, off + 1, none⟩)) w := fun w => by kernel_rfl
theorem fa42_2 (g off : Nat) : ∀ w, (Instr.fieldAt 42 (.pointer (some ⟨g, off, none⟩)) 2).run Try.prog w = .ok (.pointer (some ⟨g, off + 2, none⟩)) w := fun w => by kernel_rfl
theorem fa42_3 (g off : Nat) : ∀ w, (Instr.fieldAt 42 (.pointer (some ⟨g, off, none⟩)) 3).run Try.prog w = .ok (.pointer (some ⟨g, off + 3, none⟩)) w := fun w => by kernel_rfl
theorem sc9 : (Try.prog.underlying 9).map scal = some true := by rw [Try.underlying9]; rfl
end RecLawUT
set_option maxRecDepth 100000 in
set_option maxHeartbeats 1000000 in
theorem recipUnlocks_k (key vi : List (BitVec 8)) (hok : ¬ Aes.okKey key.length) (text : List (BitVec 8)) (w0 : World) : Calls Try.prog 10 #[.string (str key), .string (str vi), .string (str text)] w0 fun e w' => e = .returned (.bool true) ∧ Below w0.heap.size w0 w' := by
 refine enter (n := 36) Try.func10 rfl rfl rfl ?_
 have hk : Below w0.heap.size w0 w0 := Below.refl _ _
 refine sr ?_
 refine w_as (evc (.bool false)) ?_
 refine nt ?_
 refine sr ?_
 refine w_mv (ev (.string (str key)) rfl rfl) ?_
 refine w_mv (ev (.string (str vi)) rfl rfl) ?_
 refine w_mv (ev (.string (str text)) rfl rfl) ?_
 refine w_call (Try.func39) (by kernel_rfl) rfl (m3 (ev (.string (str key)) rfl rfl) (ev (.string (str vi)) rfl rfl) (ev (.string (str text)) rfl rfl)) (unlock_k key vi hok text w0) ?_
 rintro _ w1 ⟨rfl, hb2⟩
 refine ⟨_, rfl, ?_⟩
 replace hk := thenB hk hb2
 refine w_mv (ev (.tuple #[.string (str ([] : List (BitVec 8))), .int .i64 3]) rfl rfl) ?_
 refine w_val (y_ext (v := .string (str ([] : List (BitVec 8)))) (ev (.tuple #[.string (str ([] : List (BitVec 8))), .int .i64 3]) rfl rfl) rfl) ?_
 refine w_val (y_ext (v := .int .i64 3) (ev (.tuple #[.string (str ([] : List (BitVec 8))), .int .i64 3]) rfl rfl) rfl) ?_
 refine w_as (ev (.string (str ([] : List (BitVec 8)))) rfl rfl) ?_
 refine w_as (ev (.int .i64 3) rfl rfl) ?_
 refine nt ?_
 refine sr ?_
 refine w_mv (ev (.string (str key)) rfl rfl) ?_
 refine w_mv (ev (.string (str vi)) rfl rfl) ?_
 refine w_mv (ev (.string (str text)) rfl rfl) ?_
 refine w_call (Try.func40) (by kernel_rfl) rfl (m3 (ev (.string (str key)) rfl rfl) (ev (.string (str vi)) rfl rfl) (ev (.string (str text)) rfl rfl)) (refUnlock_k key vi hok text w1) ?_
 rintro _ w3 ⟨rfl, hb4⟩
 refine ⟨_, rfl, ?_⟩
 replace hk := thenB hk hb4
 refine w_mv (ev (.tuple #[.string (str ([] : List (BitVec 8))), .int .i64 3]) rfl rfl) ?_
 refine w_val (y_ext (v := .string (str ([] : List (BitVec 8)))) (ev (.tuple #[.string (str ([] : List (BitVec 8))), .int .i64 3]) rfl rfl) rfl) ?_
 refine w_val (y_ext (v := .int .i64 3) (ev (.tuple #[.string (str ([] : List (BitVec 8))), .int .i64 3]) rfl rfl) rfl) ?_
 refine w_as (ev (.string (str ([] : List (BitVec 8)))) rfl rfl) ?_
 refine w_as (ev (.int .i64 3) rfl rfl) ?_
 refine nt ?_
 refine sr ?_
 refine w_call (Try.func36) (by kernel_rfl) rfl m0 (recWakes_c  w3) ?_
 rintro _ w5 ⟨rfl, hb6⟩
 refine ⟨_, rfl, ?_⟩
 replace hk := thenB hk hb6
 refine w_mv (ev (.bool true) rfl rfl) ?_
 refine w_val_g (v := .string (str ([] : List (BitVec 8)))) (want_yes (j := 1) rfl rfl (ev (.bool true) rfl rfl) rfl) (y_mv (ev (.string (str ([] : List (BitVec 8)))) rfl rfl)) ?_
 refine w_val_g (v := .string (str ([] : List (BitVec 8)))) (want_yes (j := 1) rfl rfl (ev (.bool true) rfl rfl) rfl) (y_mv (ev (.string (str ([] : List (BitVec 8)))) rfl rfl)) ?_
 refine w_val_g (want_yes (j := 1) rfl rfl (ev (.bool true) rfl rfl) rfl) (y_bin (ev (.string (str ([] : List (BitVec 8)))) rfl rfl) (ev (.string (str ([] : List (BitVec 8)))) rfl rfl) b_eqs_same) ?_
 refine w_val (y_pick_t (ev (.bool true) rfl rfl) (ev (.bool true) rfl rfl)) ?_
 refine w_mv (ev (.bool true) rfl rfl) ?_
 refine w_val_g (v := .int .i64 3) (want_yes (j := 6) rfl rfl (ev (.bool true) rfl rfl) rfl) (y_mv (ev (.int .i64 3) rfl rfl)) ?_
 refine w_val_g (v := .int .i64 3) (want_yes (j := 6) rfl rfl (ev (.bool true) rfl rfl) rfl) (y_mv (ev (.int .i64 3) rfl rfl)) ?_
 refine w_val_g (want_yes (j := 6) rfl rfl (ev (.bool true) rfl rfl) rfl) (y_bin (ev (.int .i64 3) rfl rfl) (ev (.int .i64 3) rfl rfl) b_eql) ?_
 refine w_val (y_pick_t (ev (.bool true) rfl rfl) (ev (.bool true) rfl rfl)) ?_
 refine w_as (ev (.bool true) rfl rfl) ?_
 refine nt ?_
 refine wp_ret ?_
 refine fin_ret1 rfl (ev (.bool true) rfl rfl) ?_
 exact ⟨rfl, hk⟩

set_option maxRecDepth 100000 in
set_option maxHeartbeats 1000000 in
theorem recipUnlocks_i (key vi : List (BitVec 8)) (hok : Aes.okKey key.length) (hiv : vi.length ≠ 16) (text : List (BitVec 8)) (w0 : World) : Calls Try.prog 10 #[.string (str key), .string (str vi), .string (str text)] w0 fun e w' => e = .returned (.bool true) ∧ Below w0.heap.size w0 w' := by
 refine enter (n := 36) Try.func10 rfl rfl rfl ?_
 have hk : Below w0.heap.size w0 w0 := Below.refl _ _
 refine sr ?_
 refine w_as (evc (.bool false)) ?_
 refine nt ?_
 refine sr ?_
 refine w_mv (ev (.string (str key)) rfl rfl) ?_
 refine w_mv (ev (.string (str vi)) rfl rfl) ?_
 refine w_mv (ev (.string (str text)) rfl rfl) ?_
 refine w_call (Try.func39) (by kernel_rfl) rfl (m3 (ev (.string (str key)) rfl rfl) (ev (.string (str vi)) rfl rfl) (ev (.string (str text)) rfl rfl)) (unlock_i key vi hok hiv text w0) ?_
 rintro _ w1 ⟨rfl, hb2⟩
 refine ⟨_, rfl, ?_⟩
 replace hk := thenB hk hb2
 refine w_mv (ev (.tuple #[.string (str ([] : List (BitVec 8))), .int .i64 4]) rfl rfl) ?_
 refine w_val (y_ext (v := .string (str ([] : List (BitVec 8)))) (ev (.tuple #[.string (str ([] : List (BitVec 8))), .int .i64 4]) rfl rfl) rfl) ?_
 refine w_val (y_ext (v := .int .i64 4) (ev (.tuple #[.string (str ([] : List (BitVec 8))), .int .i64 4]) rfl rfl) rfl) ?_
 refine w_as (ev (.string (str ([] : List (BitVec 8)))) rfl rfl) ?_
 refine w_as (ev (.int .i64 4) rfl rfl) ?_
 refine nt ?_
 refine sr ?_
 refine w_mv (ev (.string (str key)) rfl rfl) ?_
 refine w_mv (ev (.string (str vi)) rfl rfl) ?_
 refine w_mv (ev (.string (str text)) rfl rfl) ?_
 refine w_call (Try.func40) (by kernel_rfl) rfl (m3 (ev (.string (str key)) rfl rfl) (ev (.string (str vi)) rfl rfl) (ev (.string (str text)) rfl rfl)) (refUnlock_i key vi hok hiv text w1) ?_
 rintro _ w3 ⟨rfl, hb4⟩
 refine ⟨_, rfl, ?_⟩
 replace hk := thenB hk hb4
 refine w_mv (ev (.tuple #[.string (str ([] : List (BitVec 8))), .int .i64 4]) rfl rfl) ?_
 refine w_val (y_ext (v := .string (str ([] : List (BitVec 8)))) (ev (.tuple #[.string (str ([] : List (BitVec 8))), .int .i64 4]) rfl rfl) rfl) ?_
 refine w_val (y_ext (v := .int .i64 4) (ev (.tuple #[.string (str ([] : List (BitVec 8))), .int .i64 4]) rfl rfl) rfl) ?_
 refine w_as (ev (.string (str ([] : List (BitVec 8)))) rfl rfl) ?_
 refine w_as (ev (.int .i64 4) rfl rfl) ?_
 refine nt ?_
 refine sr ?_
 refine w_call (Try.func36) (by kernel_rfl) rfl m0 (recWakes_c  w3) ?_
 rintro _ w5 ⟨rfl, hb6⟩
 refine ⟨_, rfl, ?_⟩
 replace hk := thenB hk hb6
 refine w_mv (ev (.bool true) rfl rfl) ?_
 refine w_val_g (v := .string (str ([] : List (BitVec 8)))) (want_yes (j := 1) rfl rfl (ev (.bool true) rfl rfl) rfl) (y_mv (ev (.string (str ([] : List (BitVec 8)))) rfl rfl)) ?_
 refine w_val_g (v := .string (str ([] : List (BitVec 8)))) (want_yes (j := 1) rfl rfl (ev (.bool true) rfl rfl) rfl) (y_mv (ev (.string (str ([] : List (BitVec 8)))) rfl rfl)) ?_
 refine w_val_g (want_yes (j := 1) rfl rfl (ev (.bool true) rfl rfl) rfl) (y_bin (ev (.string (str ([] : List (BitVec 8)))) rfl rfl) (ev (.string (str ([] : List (BitVec 8)))) rfl rfl) b_eqs_same) ?_
 refine w_val (y_pick_t (ev (.bool true) rfl rfl) (ev (.bool true) rfl rfl)) ?_
 refine w_mv (ev (.bool true) rfl rfl) ?_
 refine w_val_g (v := .int .i64 4) (want_yes (j := 6) rfl rfl (ev (.bool true) rfl rfl) rfl) (y_mv (ev (.int .i64 4) rfl rfl)) ?_
 refine w_val_g (v := .int .i64 4) (want_yes (j := 6) rfl rfl (ev (.bool true) rfl rfl) rfl) (y_mv (ev (.int .i64 4) rfl rfl)) ?_
 refine w_val_g (want_yes (j := 6) rfl rfl (ev (.bool true) rfl rfl) rfl) (y_bin (ev (.int .i64 4) rfl rfl) (ev (.int .i64 4) rfl rfl) b_eql) ?_
 refine w_val (y_pick_t (ev (.bool true) rfl rfl) (ev (.bool true) rfl rfl)) ?_
 refine w_as (ev (.bool true) rfl rfl) ?_
 refine nt ?_
 refine wp_ret ?_
 refine fin_ret1 rfl (ev (.bool true) rfl rfl) ?_
 exact ⟨rfl, hk⟩

set_option maxRecDepth 100000 in
set_option maxHeartbeats 1000000 in
theorem recipUnlocks_s (key vi : List (BitVec 8)) (hok : Aes.okKey key.length) (hiv : vi.length = 16) (text : List (BitVec 8)) (hs : ¬ (text.length % 16 = 0 ∧ 32 ≤ text.length ∧ text.length ≤ 272)) (w0 : World) : Calls Try.prog 10 #[.string (str key), .string (str vi), .string (str text)] w0 fun e w' => e = .returned (.bool true) ∧ Below w0.heap.size w0 w' := by
 refine enter (n := 36) Try.func10 rfl rfl rfl ?_
 have hk : Below w0.heap.size w0 w0 := Below.refl _ _
 refine sr ?_
 refine w_as (evc (.bool false)) ?_
 refine nt ?_
 refine sr ?_
 refine w_mv (ev (.string (str key)) rfl rfl) ?_
 refine w_mv (ev (.string (str vi)) rfl rfl) ?_
 refine w_mv (ev (.string (str text)) rfl rfl) ?_
 refine w_call (Try.func39) (by kernel_rfl) rfl (m3 (ev (.string (str key)) rfl rfl) (ev (.string (str vi)) rfl rfl) (ev (.string (str text)) rfl rfl)) (unlock_s key vi hok hiv text hs w0) ?_
 rintro _ w1 ⟨rfl, hb2⟩
 refine ⟨_, rfl, ?_⟩
 replace hk := thenB hk hb2
 refine w_mv (ev (.tuple #[.string (str ([] : List (BitVec 8))), .int .i64 6]) rfl rfl) ?_
 refine w_val (y_ext (v := .string (str ([] : List (BitVec 8)))) (ev (.tuple #[.string (str ([] : List (BitVec 8))), .int .i64 6]) rfl rfl) rfl) ?_
 refine w_val (y_ext (v := .int .i64 6) (ev (.tuple #[.string (str ([] : List (BitVec 8))), .int .i64 6]) rfl rfl) rfl) ?_
 refine w_as (ev (.string (str ([] : List (BitVec 8)))) rfl rfl) ?_
 refine w_as (ev (.int .i64 6) rfl rfl) ?_
 refine nt ?_
 refine sr ?_
 refine w_mv (ev (.string (str key)) rfl rfl) ?_
 refine w_mv (ev (.string (str vi)) rfl rfl) ?_
 refine w_mv (ev (.string (str text)) rfl rfl) ?_
 refine w_call (Try.func40) (by kernel_rfl) rfl (m3 (ev (.string (str key)) rfl rfl) (ev (.string (str vi)) rfl rfl) (ev (.string (str text)) rfl rfl)) (refUnlock_s key vi hok hiv text hs w1) ?_
 rintro _ w3 ⟨rfl, hb4⟩
 refine ⟨_, rfl, ?_⟩
 replace hk := thenB hk hb4
 refine w_mv (ev (.tuple #[.string (str ([] : List (BitVec 8))), .int .i64 6]) rfl rfl) ?_
 refine w_val (y_ext (v := .string (str ([] : List (BitVec 8)))) (ev (.tuple #[.string (str ([] : List (BitVec 8))), .int .i64 6]) rfl rfl) rfl) ?_
 refine w_val (y_ext (v := .int .i64 6) (ev (.tuple #[.string (str ([] : List (BitVec 8))), .int .i64 6]) rfl rfl) rfl) ?_
 refine w_as (ev (.string (str ([] : List (BitVec 8)))) rfl rfl) ?_
 refine w_as (ev (.int .i64 6) rfl rfl) ?_
 refine nt ?_
 refine sr ?_
 refine w_call (Try.func36) (by kernel_rfl) rfl m0 (recWakes_c  w3) ?_
 rintro _ w5 ⟨rfl, hb6⟩
 refine ⟨_, rfl, ?_⟩
 replace hk := thenB hk hb6
 refine w_mv (ev (.bool true) rfl rfl) ?_
 refine w_val_g (v := .string (str ([] : List (BitVec 8)))) (want_yes (j := 1) rfl rfl (ev (.bool true) rfl rfl) rfl) (y_mv (ev (.string (str ([] : List (BitVec 8)))) rfl rfl)) ?_
 refine w_val_g (v := .string (str ([] : List (BitVec 8)))) (want_yes (j := 1) rfl rfl (ev (.bool true) rfl rfl) rfl) (y_mv (ev (.string (str ([] : List (BitVec 8)))) rfl rfl)) ?_
 refine w_val_g (want_yes (j := 1) rfl rfl (ev (.bool true) rfl rfl) rfl) (y_bin (ev (.string (str ([] : List (BitVec 8)))) rfl rfl) (ev (.string (str ([] : List (BitVec 8)))) rfl rfl) b_eqs_same) ?_
 refine w_val (y_pick_t (ev (.bool true) rfl rfl) (ev (.bool true) rfl rfl)) ?_
 refine w_mv (ev (.bool true) rfl rfl) ?_
 refine w_val_g (v := .int .i64 6) (want_yes (j := 6) rfl rfl (ev (.bool true) rfl rfl) rfl) (y_mv (ev (.int .i64 6) rfl rfl)) ?_
 refine w_val_g (v := .int .i64 6) (want_yes (j := 6) rfl rfl (ev (.bool true) rfl rfl) rfl) (y_mv (ev (.int .i64 6) rfl rfl)) ?_
 refine w_val_g (want_yes (j := 6) rfl rfl (ev (.bool true) rfl rfl) rfl) (y_bin (ev (.int .i64 6) rfl rfl) (ev (.int .i64 6) rfl rfl) b_eql) ?_
 refine w_val (y_pick_t (ev (.bool true) rfl rfl) (ev (.bool true) rfl rfl)) ?_
 refine w_as (ev (.bool true) rfl rfl) ?_
 refine nt ?_
 refine wp_ret ?_
 refine fin_ret1 rfl (ev (.bool true) rfl rfl) ?_
 exact ⟨rfl, hk⟩

set_option maxRecDepth 100000 in
set_option maxHeartbeats 1000000 in
theorem recipUnlocks_1 (key vi : List (BitVec 8)) (hok : Aes.okKey key.length) (hiv : vi.length = 16) (text : List (BitVec 8)) (n : Nat) (hn : text.length = n + 16) (hm : text.length % 16 = 0) (h32 : 32 ≤ text.length) (h272 : text.length ≤ 272) (hb : ¬ (3 ≤ Rc.kn (Rc.opn key vi text) ∧ Rc.kn (Rc.opn key vi text) ≤ 255)) (w0 : World) : Calls Try.prog 10 #[.string (str key), .string (str vi), .string (str text)] w0 fun e w' => e = .returned (.bool true) ∧ Below w0.heap.size w0 w' := by
 refine enter (n := 36) Try.func10 rfl rfl rfl ?_
 have hk : Below w0.heap.size w0 w0 := Below.refl _ _
 refine sr ?_
 refine w_as (evc (.bool false)) ?_
 refine nt ?_
 refine sr ?_
 refine w_mv (ev (.string (str key)) rfl rfl) ?_
 refine w_mv (ev (.string (str vi)) rfl rfl) ?_
 refine w_mv (ev (.string (str text)) rfl rfl) ?_
 refine w_call (Try.func39) (by kernel_rfl) rfl (m3 (ev (.string (str key)) rfl rfl) (ev (.string (str vi)) rfl rfl) (ev (.string (str text)) rfl rfl)) (unlock_1 key vi hok hiv text n hn hm h32 h272 hb w0) ?_
 rintro _ w1 ⟨rfl, hb2⟩
 refine ⟨_, rfl, ?_⟩
 replace hk := thenB hk hb2
 refine w_mv (ev (.tuple #[.string (str ([] : List (BitVec 8))), .int .i64 8]) rfl rfl) ?_
 refine w_val (y_ext (v := .string (str ([] : List (BitVec 8)))) (ev (.tuple #[.string (str ([] : List (BitVec 8))), .int .i64 8]) rfl rfl) rfl) ?_
 refine w_val (y_ext (v := .int .i64 8) (ev (.tuple #[.string (str ([] : List (BitVec 8))), .int .i64 8]) rfl rfl) rfl) ?_
 refine w_as (ev (.string (str ([] : List (BitVec 8)))) rfl rfl) ?_
 refine w_as (ev (.int .i64 8) rfl rfl) ?_
 refine nt ?_
 refine sr ?_
 refine w_mv (ev (.string (str key)) rfl rfl) ?_
 refine w_mv (ev (.string (str vi)) rfl rfl) ?_
 refine w_mv (ev (.string (str text)) rfl rfl) ?_
 refine w_call (Try.func40) (by kernel_rfl) rfl (m3 (ev (.string (str key)) rfl rfl) (ev (.string (str vi)) rfl rfl) (ev (.string (str text)) rfl rfl)) (refUnlock_1 key vi hok hiv text n hn hm h32 h272 hb w1) ?_
 rintro _ w3 ⟨rfl, hb4⟩
 refine ⟨_, rfl, ?_⟩
 replace hk := thenB hk hb4
 refine w_mv (ev (.tuple #[.string (str ([] : List (BitVec 8))), .int .i64 8]) rfl rfl) ?_
 refine w_val (y_ext (v := .string (str ([] : List (BitVec 8)))) (ev (.tuple #[.string (str ([] : List (BitVec 8))), .int .i64 8]) rfl rfl) rfl) ?_
 refine w_val (y_ext (v := .int .i64 8) (ev (.tuple #[.string (str ([] : List (BitVec 8))), .int .i64 8]) rfl rfl) rfl) ?_
 refine w_as (ev (.string (str ([] : List (BitVec 8)))) rfl rfl) ?_
 refine w_as (ev (.int .i64 8) rfl rfl) ?_
 refine nt ?_
 refine sr ?_
 refine w_call (Try.func36) (by kernel_rfl) rfl m0 (recWakes_c  w3) ?_
 rintro _ w5 ⟨rfl, hb6⟩
 refine ⟨_, rfl, ?_⟩
 replace hk := thenB hk hb6
 refine w_mv (ev (.bool true) rfl rfl) ?_
 refine w_val_g (v := .string (str ([] : List (BitVec 8)))) (want_yes (j := 1) rfl rfl (ev (.bool true) rfl rfl) rfl) (y_mv (ev (.string (str ([] : List (BitVec 8)))) rfl rfl)) ?_
 refine w_val_g (v := .string (str ([] : List (BitVec 8)))) (want_yes (j := 1) rfl rfl (ev (.bool true) rfl rfl) rfl) (y_mv (ev (.string (str ([] : List (BitVec 8)))) rfl rfl)) ?_
 refine w_val_g (want_yes (j := 1) rfl rfl (ev (.bool true) rfl rfl) rfl) (y_bin (ev (.string (str ([] : List (BitVec 8)))) rfl rfl) (ev (.string (str ([] : List (BitVec 8)))) rfl rfl) b_eqs_same) ?_
 refine w_val (y_pick_t (ev (.bool true) rfl rfl) (ev (.bool true) rfl rfl)) ?_
 refine w_mv (ev (.bool true) rfl rfl) ?_
 refine w_val_g (v := .int .i64 8) (want_yes (j := 6) rfl rfl (ev (.bool true) rfl rfl) rfl) (y_mv (ev (.int .i64 8) rfl rfl)) ?_
 refine w_val_g (v := .int .i64 8) (want_yes (j := 6) rfl rfl (ev (.bool true) rfl rfl) rfl) (y_mv (ev (.int .i64 8) rfl rfl)) ?_
 refine w_val_g (want_yes (j := 6) rfl rfl (ev (.bool true) rfl rfl) rfl) (y_bin (ev (.int .i64 8) rfl rfl) (ev (.int .i64 8) rfl rfl) b_eql) ?_
 refine w_val (y_pick_t (ev (.bool true) rfl rfl) (ev (.bool true) rfl rfl)) ?_
 refine w_as (ev (.bool true) rfl rfl) ?_
 refine nt ?_
 refine wp_ret ?_
 refine fin_ret1 rfl (ev (.bool true) rfl rfl) ?_
 exact ⟨rfl, hk⟩

set_option maxRecDepth 100000 in
set_option maxHeartbeats 1000000 in
theorem recipUnlocks_2 (key vi : List (BitVec 8)) (hok : Aes.okKey key.length) (hiv : vi.length = 16) (text : List (BitVec 8)) (n : Nat) (hn : text.length = n + 16) (hm : text.length % 16 = 0) (h32 : 32 ≤ text.length) (h272 : text.length ≤ 272) (h3 : 3 ≤ Rc.kn (Rc.opn key vi text)) (h255 : Rc.kn (Rc.opn key vi text) ≤ 255) (he : 4 + Rc.kn (Rc.opn key vi text) + Rc.fl (Rc.kn (Rc.opn key vi text)) ≠ text.length) (w0 : World) : Calls Try.prog 10 #[.string (str key), .string (str vi), .string (str text)] w0 fun e w' => e = .returned (.bool true) ∧ Below w0.heap.size w0 w' := by
 refine enter (n := 36) Try.func10 rfl rfl rfl ?_
 have hk : Below w0.heap.size w0 w0 := Below.refl _ _
 refine sr ?_
 refine w_as (evc (.bool false)) ?_
 refine nt ?_
 refine sr ?_
 refine w_mv (ev (.string (str key)) rfl rfl) ?_
 refine w_mv (ev (.string (str vi)) rfl rfl) ?_
 refine w_mv (ev (.string (str text)) rfl rfl) ?_
 refine w_call (Try.func39) (by kernel_rfl) rfl (m3 (ev (.string (str key)) rfl rfl) (ev (.string (str vi)) rfl rfl) (ev (.string (str text)) rfl rfl)) (unlock_2 key vi hok hiv text n hn hm h32 h272 h3 h255 he w0) ?_
 rintro _ w1 ⟨rfl, hb2⟩
 refine ⟨_, rfl, ?_⟩
 replace hk := thenB hk hb2
 refine w_mv (ev (.tuple #[.string (str ([] : List (BitVec 8))), .int .i64 8]) rfl rfl) ?_
 refine w_val (y_ext (v := .string (str ([] : List (BitVec 8)))) (ev (.tuple #[.string (str ([] : List (BitVec 8))), .int .i64 8]) rfl rfl) rfl) ?_
 refine w_val (y_ext (v := .int .i64 8) (ev (.tuple #[.string (str ([] : List (BitVec 8))), .int .i64 8]) rfl rfl) rfl) ?_
 refine w_as (ev (.string (str ([] : List (BitVec 8)))) rfl rfl) ?_
 refine w_as (ev (.int .i64 8) rfl rfl) ?_
 refine nt ?_
 refine sr ?_
 refine w_mv (ev (.string (str key)) rfl rfl) ?_
 refine w_mv (ev (.string (str vi)) rfl rfl) ?_
 refine w_mv (ev (.string (str text)) rfl rfl) ?_
 refine w_call (Try.func40) (by kernel_rfl) rfl (m3 (ev (.string (str key)) rfl rfl) (ev (.string (str vi)) rfl rfl) (ev (.string (str text)) rfl rfl)) (refUnlock_2 key vi hok hiv text n hn hm h32 h272 h3 h255 he w1) ?_
 rintro _ w3 ⟨rfl, hb4⟩
 refine ⟨_, rfl, ?_⟩
 replace hk := thenB hk hb4
 refine w_mv (ev (.tuple #[.string (str ([] : List (BitVec 8))), .int .i64 8]) rfl rfl) ?_
 refine w_val (y_ext (v := .string (str ([] : List (BitVec 8)))) (ev (.tuple #[.string (str ([] : List (BitVec 8))), .int .i64 8]) rfl rfl) rfl) ?_
 refine w_val (y_ext (v := .int .i64 8) (ev (.tuple #[.string (str ([] : List (BitVec 8))), .int .i64 8]) rfl rfl) rfl) ?_
 refine w_as (ev (.string (str ([] : List (BitVec 8)))) rfl rfl) ?_
 refine w_as (ev (.int .i64 8) rfl rfl) ?_
 refine nt ?_
 refine sr ?_
 refine w_call (Try.func36) (by kernel_rfl) rfl m0 (recWakes_c  w3) ?_
 rintro _ w5 ⟨rfl, hb6⟩
 refine ⟨_, rfl, ?_⟩
 replace hk := thenB hk hb6
 refine w_mv (ev (.bool true) rfl rfl) ?_
 refine w_val_g (v := .string (str ([] : List (BitVec 8)))) (want_yes (j := 1) rfl rfl (ev (.bool true) rfl rfl) rfl) (y_mv (ev (.string (str ([] : List (BitVec 8)))) rfl rfl)) ?_
 refine w_val_g (v := .string (str ([] : List (BitVec 8)))) (want_yes (j := 1) rfl rfl (ev (.bool true) rfl rfl) rfl) (y_mv (ev (.string (str ([] : List (BitVec 8)))) rfl rfl)) ?_
 refine w_val_g (want_yes (j := 1) rfl rfl (ev (.bool true) rfl rfl) rfl) (y_bin (ev (.string (str ([] : List (BitVec 8)))) rfl rfl) (ev (.string (str ([] : List (BitVec 8)))) rfl rfl) b_eqs_same) ?_
 refine w_val (y_pick_t (ev (.bool true) rfl rfl) (ev (.bool true) rfl rfl)) ?_
 refine w_mv (ev (.bool true) rfl rfl) ?_
 refine w_val_g (v := .int .i64 8) (want_yes (j := 6) rfl rfl (ev (.bool true) rfl rfl) rfl) (y_mv (ev (.int .i64 8) rfl rfl)) ?_
 refine w_val_g (v := .int .i64 8) (want_yes (j := 6) rfl rfl (ev (.bool true) rfl rfl) rfl) (y_mv (ev (.int .i64 8) rfl rfl)) ?_
 refine w_val_g (want_yes (j := 6) rfl rfl (ev (.bool true) rfl rfl) rfl) (y_bin (ev (.int .i64 8) rfl rfl) (ev (.int .i64 8) rfl rfl) b_eql) ?_
 refine w_val (y_pick_t (ev (.bool true) rfl rfl) (ev (.bool true) rfl rfl)) ?_
 refine w_as (ev (.bool true) rfl rfl) ?_
 refine nt ?_
 refine wp_ret ?_
 refine fin_ret1 rfl (ev (.bool true) rfl rfl) ?_
 exact ⟨rfl, hk⟩

set_option maxRecDepth 100000 in
set_option maxHeartbeats 1000000 in
theorem recipUnlocks_3 (key vi : List (BitVec 8)) (hok : Aes.okKey key.length) (hiv : vi.length = 16) (text : List (BitVec 8)) (n : Nat) (hn : text.length = n + 16) (hm : text.length % 16 = 0) (h32 : 32 ≤ text.length) (h272 : text.length ≤ 272) (h3 : 3 ≤ Rc.kn (Rc.opn key vi text)) (h255 : Rc.kn (Rc.opn key vi text) ≤ 255) (he : 4 + Rc.kn (Rc.opn key vi text) + Rc.fl (Rc.kn (Rc.opn key vi text)) = text.length) (hb : Oct.xor (Rc.A (Rc.opn key vi text)) (Rc.B (Rc.opn key vi text)) ≠ Rc.ff) (w0 : World) : Calls Try.prog 10 #[.string (str key), .string (str vi), .string (str text)] w0 fun e w' => e = .returned (.bool true) ∧ Below w0.heap.size w0 w' := by
 refine enter (n := 36) Try.func10 rfl rfl rfl ?_
 have hk : Below w0.heap.size w0 w0 := Below.refl _ _
 refine sr ?_
 refine w_as (evc (.bool false)) ?_
 refine nt ?_
 refine sr ?_
 refine w_mv (ev (.string (str key)) rfl rfl) ?_
 refine w_mv (ev (.string (str vi)) rfl rfl) ?_
 refine w_mv (ev (.string (str text)) rfl rfl) ?_
 refine w_call (Try.func39) (by kernel_rfl) rfl (m3 (ev (.string (str key)) rfl rfl) (ev (.string (str vi)) rfl rfl) (ev (.string (str text)) rfl rfl)) (unlock_3 key vi hok hiv text n hn hm h32 h272 h3 h255 he hb w0) ?_
 rintro _ w1 ⟨rfl, hb2⟩
 refine ⟨_, rfl, ?_⟩
 replace hk := thenB hk hb2
 refine w_mv (ev (.tuple #[.string (str ([] : List (BitVec 8))), .int .i64 8]) rfl rfl) ?_
 refine w_val (y_ext (v := .string (str ([] : List (BitVec 8)))) (ev (.tuple #[.string (str ([] : List (BitVec 8))), .int .i64 8]) rfl rfl) rfl) ?_
 refine w_val (y_ext (v := .int .i64 8) (ev (.tuple #[.string (str ([] : List (BitVec 8))), .int .i64 8]) rfl rfl) rfl) ?_
 refine w_as (ev (.string (str ([] : List (BitVec 8)))) rfl rfl) ?_
 refine w_as (ev (.int .i64 8) rfl rfl) ?_
 refine nt ?_
 refine sr ?_
 refine w_mv (ev (.string (str key)) rfl rfl) ?_
 refine w_mv (ev (.string (str vi)) rfl rfl) ?_
 refine w_mv (ev (.string (str text)) rfl rfl) ?_
 refine w_call (Try.func40) (by kernel_rfl) rfl (m3 (ev (.string (str key)) rfl rfl) (ev (.string (str vi)) rfl rfl) (ev (.string (str text)) rfl rfl)) (refUnlock_3 key vi hok hiv text n hn hm h32 h272 h3 h255 he hb w1) ?_
 rintro _ w3 ⟨rfl, hb4⟩
 refine ⟨_, rfl, ?_⟩
 replace hk := thenB hk hb4
 refine w_mv (ev (.tuple #[.string (str ([] : List (BitVec 8))), .int .i64 8]) rfl rfl) ?_
 refine w_val (y_ext (v := .string (str ([] : List (BitVec 8)))) (ev (.tuple #[.string (str ([] : List (BitVec 8))), .int .i64 8]) rfl rfl) rfl) ?_
 refine w_val (y_ext (v := .int .i64 8) (ev (.tuple #[.string (str ([] : List (BitVec 8))), .int .i64 8]) rfl rfl) rfl) ?_
 refine w_as (ev (.string (str ([] : List (BitVec 8)))) rfl rfl) ?_
 refine w_as (ev (.int .i64 8) rfl rfl) ?_
 refine nt ?_
 refine sr ?_
 refine w_call (Try.func36) (by kernel_rfl) rfl m0 (recWakes_c  w3) ?_
 rintro _ w5 ⟨rfl, hb6⟩
 refine ⟨_, rfl, ?_⟩
 replace hk := thenB hk hb6
 refine w_mv (ev (.bool true) rfl rfl) ?_
 refine w_val_g (v := .string (str ([] : List (BitVec 8)))) (want_yes (j := 1) rfl rfl (ev (.bool true) rfl rfl) rfl) (y_mv (ev (.string (str ([] : List (BitVec 8)))) rfl rfl)) ?_
 refine w_val_g (v := .string (str ([] : List (BitVec 8)))) (want_yes (j := 1) rfl rfl (ev (.bool true) rfl rfl) rfl) (y_mv (ev (.string (str ([] : List (BitVec 8)))) rfl rfl)) ?_
 refine w_val_g (want_yes (j := 1) rfl rfl (ev (.bool true) rfl rfl) rfl) (y_bin (ev (.string (str ([] : List (BitVec 8)))) rfl rfl) (ev (.string (str ([] : List (BitVec 8)))) rfl rfl) b_eqs_same) ?_
 refine w_val (y_pick_t (ev (.bool true) rfl rfl) (ev (.bool true) rfl rfl)) ?_
 refine w_mv (ev (.bool true) rfl rfl) ?_
 refine w_val_g (v := .int .i64 8) (want_yes (j := 6) rfl rfl (ev (.bool true) rfl rfl) rfl) (y_mv (ev (.int .i64 8) rfl rfl)) ?_
 refine w_val_g (v := .int .i64 8) (want_yes (j := 6) rfl rfl (ev (.bool true) rfl rfl) rfl) (y_mv (ev (.int .i64 8) rfl rfl)) ?_
 refine w_val_g (want_yes (j := 6) rfl rfl (ev (.bool true) rfl rfl) rfl) (y_bin (ev (.int .i64 8) rfl rfl) (ev (.int .i64 8) rfl rfl) b_eql) ?_
 refine w_val (y_pick_t (ev (.bool true) rfl rfl) (ev (.bool true) rfl rfl)) ?_
 refine w_as (ev (.bool true) rfl rfl) ?_
 refine nt ?_
 refine wp_ret ?_
 refine fin_ret1 rfl (ev (.bool true) rfl rfl) ?_
 exact ⟨rfl, hk⟩

set_option maxRecDepth 100000 in
set_option maxHeartbeats 1000000 in
theorem recipUnlocks_y (key vi : List (BitVec 8)) (hok : Aes.okKey key.length) (hiv : vi.length = 16) (text : List (BitVec 8)) (n : Nat) (hn : text.length = n + 16) (hm : text.length % 16 = 0) (h32 : 32 ≤ text.length) (h272 : text.length ≤ 272) (h3 : 3 ≤ Rc.kn (Rc.opn key vi text)) (h255 : Rc.kn (Rc.opn key vi text) ≤ 255) (he : 4 + Rc.kn (Rc.opn key vi text) + Rc.fl (Rc.kn (Rc.opn key vi text)) = text.length) (hb : Oct.xor (Rc.A (Rc.opn key vi text)) (Rc.B (Rc.opn key vi text)) = Rc.ff) (w0 : World) : Calls Try.prog 10 #[.string (str key), .string (str vi), .string (str text)] w0 fun e w' => e = .returned (.bool true) ∧ Below w0.heap.size w0 w' := by
 refine enter (n := 36) Try.func10 rfl rfl rfl ?_
 have hk : Below w0.heap.size w0 w0 := Below.refl _ _
 refine sr ?_
 refine w_as (evc (.bool false)) ?_
 refine nt ?_
 refine sr ?_
 refine w_mv (ev (.string (str key)) rfl rfl) ?_
 refine w_mv (ev (.string (str vi)) rfl rfl) ?_
 refine w_mv (ev (.string (str text)) rfl rfl) ?_
 refine w_call (Try.func39) (by kernel_rfl) rfl (m3 (ev (.string (str key)) rfl rfl) (ev (.string (str vi)) rfl rfl) (ev (.string (str text)) rfl rfl)) (unlock_y key vi hok hiv text n hn hm h32 h272 h3 h255 he hb w0) ?_
 rintro _ w1 ⟨rfl, hb2⟩
 refine ⟨_, rfl, ?_⟩
 replace hk := thenB hk hb2
 refine w_mv (ev (.tuple #[.string (str (((Rc.opn key vi text).drop 4).take (Rc.kn (Rc.opn key vi text)))), .int .i64 0]) rfl rfl) ?_
 refine w_val (y_ext (v := .string (str (((Rc.opn key vi text).drop 4).take (Rc.kn (Rc.opn key vi text))))) (ev (.tuple #[.string (str (((Rc.opn key vi text).drop 4).take (Rc.kn (Rc.opn key vi text)))), .int .i64 0]) rfl rfl) rfl) ?_
 refine w_val (y_ext (v := .int .i64 0) (ev (.tuple #[.string (str (((Rc.opn key vi text).drop 4).take (Rc.kn (Rc.opn key vi text)))), .int .i64 0]) rfl rfl) rfl) ?_
 refine w_as (ev (.string (str (((Rc.opn key vi text).drop 4).take (Rc.kn (Rc.opn key vi text))))) rfl rfl) ?_
 refine w_as (ev (.int .i64 0) rfl rfl) ?_
 refine nt ?_
 refine sr ?_
 refine w_mv (ev (.string (str key)) rfl rfl) ?_
 refine w_mv (ev (.string (str vi)) rfl rfl) ?_
 refine w_mv (ev (.string (str text)) rfl rfl) ?_
 refine w_call (Try.func40) (by kernel_rfl) rfl (m3 (ev (.string (str key)) rfl rfl) (ev (.string (str vi)) rfl rfl) (ev (.string (str text)) rfl rfl)) (refUnlock_y key vi hok hiv text n hn hm h32 h272 h3 h255 he hb w1) ?_
 rintro _ w3 ⟨rfl, hb4⟩
 refine ⟨_, rfl, ?_⟩
 replace hk := thenB hk hb4
 refine w_mv (ev (.tuple #[.string (str (((Rc.opn key vi text).drop 4).take (Rc.kn (Rc.opn key vi text)))), .int .i64 0]) rfl rfl) ?_
 refine w_val (y_ext (v := .string (str (((Rc.opn key vi text).drop 4).take (Rc.kn (Rc.opn key vi text))))) (ev (.tuple #[.string (str (((Rc.opn key vi text).drop 4).take (Rc.kn (Rc.opn key vi text)))), .int .i64 0]) rfl rfl) rfl) ?_
 refine w_val (y_ext (v := .int .i64 0) (ev (.tuple #[.string (str (((Rc.opn key vi text).drop 4).take (Rc.kn (Rc.opn key vi text)))), .int .i64 0]) rfl rfl) rfl) ?_
 refine w_as (ev (.string (str (((Rc.opn key vi text).drop 4).take (Rc.kn (Rc.opn key vi text))))) rfl rfl) ?_
 refine w_as (ev (.int .i64 0) rfl rfl) ?_
 refine nt ?_
 refine sr ?_
 refine w_call (Try.func36) (by kernel_rfl) rfl m0 (recWakes_c  w3) ?_
 rintro _ w5 ⟨rfl, hb6⟩
 refine ⟨_, rfl, ?_⟩
 replace hk := thenB hk hb6
 refine w_mv (ev (.bool true) rfl rfl) ?_
 refine w_val_g (v := .string (str (((Rc.opn key vi text).drop 4).take (Rc.kn (Rc.opn key vi text))))) (want_yes (j := 1) rfl rfl (ev (.bool true) rfl rfl) rfl) (y_mv (ev (.string (str (((Rc.opn key vi text).drop 4).take (Rc.kn (Rc.opn key vi text))))) rfl rfl)) ?_
 refine w_val_g (v := .string (str (((Rc.opn key vi text).drop 4).take (Rc.kn (Rc.opn key vi text))))) (want_yes (j := 1) rfl rfl (ev (.bool true) rfl rfl) rfl) (y_mv (ev (.string (str (((Rc.opn key vi text).drop 4).take (Rc.kn (Rc.opn key vi text))))) rfl rfl)) ?_
 refine w_val_g (want_yes (j := 1) rfl rfl (ev (.bool true) rfl rfl) rfl) (y_bin (ev (.string (str (((Rc.opn key vi text).drop 4).take (Rc.kn (Rc.opn key vi text))))) rfl rfl) (ev (.string (str (((Rc.opn key vi text).drop 4).take (Rc.kn (Rc.opn key vi text))))) rfl rfl) b_eqs_same) ?_
 refine w_val (y_pick_t (ev (.bool true) rfl rfl) (ev (.bool true) rfl rfl)) ?_
 refine w_mv (ev (.bool true) rfl rfl) ?_
 refine w_val_g (v := .int .i64 0) (want_yes (j := 6) rfl rfl (ev (.bool true) rfl rfl) rfl) (y_mv (ev (.int .i64 0) rfl rfl)) ?_
 refine w_val_g (v := .int .i64 0) (want_yes (j := 6) rfl rfl (ev (.bool true) rfl rfl) rfl) (y_mv (ev (.int .i64 0) rfl rfl)) ?_
 refine w_val_g (want_yes (j := 6) rfl rfl (ev (.bool true) rfl rfl) rfl) (y_bin (ev (.int .i64 0) rfl rfl) (ev (.int .i64 0) rfl rfl) b_eql) ?_
 refine w_val (y_pick_t (ev (.bool true) rfl rfl) (ev (.bool true) rfl rfl)) ?_
 refine w_as (ev (.bool true) rfl rfl) ?_
 refine nt ?_
 refine wp_ret ?_
 refine fin_ret1 rfl (ev (.bool true) rfl rfl) ?_
 exact ⟨rfl, hk⟩

theorem walk_RecipUnlocks (key : List (BitVec 8)) (hkey : key.length ≤ 140737488351232) (vi : List (BitVec 8)) (hvi : vi.length ≤ 140737488351232) (text : List (BitVec 8)) (ht : text.length ≤ 140737488351232) (w : World) : Calls Try.prog 10 #[.string (str key), .string (str vi), .string (str text)] w fun e w' => e = .returned (.bool true) ∧ Below w.heap.size w w' := by
  by_cases hok : Aes.okKey key.length
  · by_cases hiv : vi.length = 16
    · by_cases hs : text.length % 16 = 0 ∧ 32 ≤ text.length ∧ text.length ≤ 272
      · obtain ⟨hm, h32, h272⟩ := hs
        have hn : text.length = (text.length - 16) + 16 := by omega
        by_cases hg : 3 ≤ Rc.kn (Rc.opn key vi text) ∧ Rc.kn (Rc.opn key vi text) ≤ 255
        · by_cases he : 4 + Rc.kn (Rc.opn key vi text) + Rc.fl (Rc.kn (Rc.opn key vi text)) = text.length
          · by_cases hb : Oct.xor (Rc.A (Rc.opn key vi text)) (Rc.B (Rc.opn key vi text)) = Rc.ff
            · exact recipUnlocks_y key vi hok hiv text _ hn hm h32 h272 hg.1 hg.2 he hb w
            · exact recipUnlocks_3 key vi hok hiv text _ hn hm h32 h272 hg.1 hg.2 he hb w
          · exact recipUnlocks_2 key vi hok hiv text _ hn hm h32 h272 hg.1 hg.2 he w
        · exact recipUnlocks_1 key vi hok hiv text _ hn hm h32 h272 hg w
      · exact recipUnlocks_s key vi hok hiv text hs w
    · exact recipUnlocks_i key vi hok hiv text w
  · exact recipUnlocks_k key vi hok text w
end Go.Proofs.Ytjdcpejcnmpiaaa
