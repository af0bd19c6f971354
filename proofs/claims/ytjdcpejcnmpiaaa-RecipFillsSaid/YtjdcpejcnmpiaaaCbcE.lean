/-
  Chains of blocks: sealing and opening. Conditions as each says.
-/
import Derived.Test.YtjdcpejcnmpiaaaRows
import Derived.Test.YtjdcpejcnmpiaaaCbcD
import Derived.ProofKit
namespace Go.Proofs.Ytjdcpejcnmpiaaa
open Go.RowKit
set_option linter.unusedSimpArgs false
set_option linter.unusedVariables false
namespace CbcET
theorem mixed : Try.prog.follows .mixedOrders = true := by kernel_rfl
theorem sc9 : (Try.prog.underlying 9).map scal = some true := by rw [Try.underlying9]; rfl
theorem so3 : (Try.prog.underlying 3).isSome = true := by rw [Try.underlying3]; rfl
theorem so5 : (Try.prog.underlying 5).isSome = true := by rw [Try.underlying5]; rfl
theorem sz9 : (Try.prog.info? 9).map (·.size) = some 1 := by kernel_rfl
end CbcET
set_option maxRecDepth 100000 in
set_option maxHeartbeats 1000000 in
theorem chain_k (key vi : List (BitVec 8)) (hok : ¬ Aes.okKey key.length) (text : List (BitVec 8)) (w0 : World) : Calls Try.prog 24 #[.string (str key), .string (str vi), .string (str text)] w0 fun e w' => e = .returned (.tuple #[.string (str ([] : List (BitVec 8))), .int .i64 3]) ∧ Below w0.heap.size w0 w' := by
 refine enter (n := 32) Try.func24 rfl rfl rfl ?_
 have hk : Below w0.heap.size w0 w0 := Below.refl _ _
 refine sr ?_
 refine w_as (evc (.string (str ([] : List (BitVec 8))))) ?_
 refine w_as (evc (.int .i64 0)) ?_
 refine nt ?_
 refine sr ?_
 refine w_mv (ev (.string (str key)) rfl rfl) ?_
 refine w_mv (ev (.string (str vi)) rfl rfl) ?_
 refine w_call (Try.func53) (by kernel_rfl) rfl (m2 (ev (.string (str key)) rfl rfl) (ev (.string (str vi)) rfl rfl)) (ready_k key vi hok w0) ?_
 rintro _ w1 ⟨rfl, hb2⟩
 refine ⟨_, rfl, ?_⟩
 replace hk := thenB hk hb2
 refine w_mv (ev (.tuple #[.pointer none, .int .i64 3]) rfl rfl) ?_
 refine w_val (y_ext (v := .pointer none) (ev (.tuple #[.pointer none, .int .i64 3]) rfl rfl) rfl) ?_
 refine w_val (y_ext (v := .int .i64 3) (ev (.tuple #[.pointer none, .int .i64 3]) rfl rfl) rfl) ?_
 refine w_as (ev (.pointer none) rfl rfl) ?_
 refine w_as (ev (.int .i64 3) rfl rfl) ?_
 refine nt ?_
 refine wp_seq ?_
 refine sr ?_
 refine w_mv (ev (.int .i64 3) rfl rfl) ?_
 refine w_val (y_bin (ev (.int .i64 3) rfl rfl) (evc (.int .i64 0)) b_neq) ?_
 refine nt ?_
 refine c_tt (ev (.bool true) rfl rfl) ?_
 refine sr ?_
 refine w_mv (ev (.int .i64 3) rfl rfl) ?_
 refine w_as (evc (.string (str ([] : List (BitVec 8))))) ?_
 refine w_as (ev (.int .i64 3) rfl rfl) ?_
 refine nt ?_
 refine wp_ret ?_
 refine then_r ?_
 refine fin_ret2 rfl (ev (.string (str ([] : List (BitVec 8)))) rfl rfl) (ev (.int .i64 3) rfl rfl) ?_
 exact ⟨rfl, hk⟩

set_option maxRecDepth 100000 in
set_option maxHeartbeats 1000000 in
theorem unchain_k (key vi : List (BitVec 8)) (hok : ¬ Aes.okKey key.length) (text : List (BitVec 8)) (w0 : World) : Calls Try.prog 26 #[.string (str key), .string (str vi), .string (str text)] w0 fun e w' => e = .returned (.tuple #[.string (str ([] : List (BitVec 8))), .int .i64 3]) ∧ Below w0.heap.size w0 w' := by
 refine enter (n := 32) Try.func26 rfl rfl rfl ?_
 have hk : Below w0.heap.size w0 w0 := Below.refl _ _
 refine sr ?_
 refine w_as (evc (.string (str ([] : List (BitVec 8))))) ?_
 refine w_as (evc (.int .i64 0)) ?_
 refine nt ?_
 refine sr ?_
 refine w_mv (ev (.string (str key)) rfl rfl) ?_
 refine w_mv (ev (.string (str vi)) rfl rfl) ?_
 refine w_call (Try.func53) (by kernel_rfl) rfl (m2 (ev (.string (str key)) rfl rfl) (ev (.string (str vi)) rfl rfl)) (ready_k key vi hok w0) ?_
 rintro _ w1 ⟨rfl, hb2⟩
 refine ⟨_, rfl, ?_⟩
 replace hk := thenB hk hb2
 refine w_mv (ev (.tuple #[.pointer none, .int .i64 3]) rfl rfl) ?_
 refine w_val (y_ext (v := .pointer none) (ev (.tuple #[.pointer none, .int .i64 3]) rfl rfl) rfl) ?_
 refine w_val (y_ext (v := .int .i64 3) (ev (.tuple #[.pointer none, .int .i64 3]) rfl rfl) rfl) ?_
 refine w_as (ev (.pointer none) rfl rfl) ?_
 refine w_as (ev (.int .i64 3) rfl rfl) ?_
 refine nt ?_
 refine wp_seq ?_
 refine sr ?_
 refine w_mv (ev (.int .i64 3) rfl rfl) ?_
 refine w_val (y_bin (ev (.int .i64 3) rfl rfl) (evc (.int .i64 0)) b_neq) ?_
 refine nt ?_
 refine c_tt (ev (.bool true) rfl rfl) ?_
 refine sr ?_
 refine w_mv (ev (.int .i64 3) rfl rfl) ?_
 refine w_as (evc (.string (str ([] : List (BitVec 8))))) ?_
 refine w_as (ev (.int .i64 3) rfl rfl) ?_
 refine nt ?_
 refine wp_ret ?_
 refine then_r ?_
 refine fin_ret2 rfl (ev (.string (str ([] : List (BitVec 8)))) rfl rfl) (ev (.int .i64 3) rfl rfl) ?_
 exact ⟨rfl, hk⟩

set_option maxRecDepth 100000 in
set_option maxHeartbeats 1000000 in
theorem seal_k (key vi : List (BitVec 8)) (hok : ¬ Aes.okKey key.length) (text : List (BitVec 8)) (w0 : World) : Calls Try.prog 28 #[.string (str key), .string (str vi), .string (str text)] w0 fun e w' => e = .returned (.tuple #[.string (str ([] : List (BitVec 8))), .int .i64 3]) ∧ Below w0.heap.size w0 w' := by
 refine enter (n := 33) Try.func28 rfl rfl rfl ?_
 have hk : Below w0.heap.size w0 w0 := Below.refl _ _
 refine sr ?_
 refine w_as (evc (.string (str ([] : List (BitVec 8))))) ?_
 refine w_as (evc (.int .i64 0)) ?_
 refine nt ?_
 refine sr ?_
 refine w_mv (ev (.string (str key)) rfl rfl) ?_
 refine w_mv (ev (.string (str vi)) rfl rfl) ?_
 refine w_call (Try.func53) (by kernel_rfl) rfl (m2 (ev (.string (str key)) rfl rfl) (ev (.string (str vi)) rfl rfl)) (ready_k key vi hok w0) ?_
 rintro _ w1 ⟨rfl, hb2⟩
 refine ⟨_, rfl, ?_⟩
 replace hk := thenB hk hb2
 refine w_mv (ev (.tuple #[.pointer none, .int .i64 3]) rfl rfl) ?_
 refine w_val (y_ext (v := .pointer none) (ev (.tuple #[.pointer none, .int .i64 3]) rfl rfl) rfl) ?_
 refine w_val (y_ext (v := .int .i64 3) (ev (.tuple #[.pointer none, .int .i64 3]) rfl rfl) rfl) ?_
 refine w_as (ev (.pointer none) rfl rfl) ?_
 refine w_as (ev (.int .i64 3) rfl rfl) ?_
 refine nt ?_
 refine wp_seq ?_
 refine sr ?_
 refine w_mv (ev (.int .i64 3) rfl rfl) ?_
 refine w_val (y_bin (ev (.int .i64 3) rfl rfl) (evc (.int .i64 0)) b_neq) ?_
 refine nt ?_
 refine c_tt (ev (.bool true) rfl rfl) ?_
 refine sr ?_
 refine w_mv (ev (.int .i64 3) rfl rfl) ?_
 refine w_as (evc (.string (str ([] : List (BitVec 8))))) ?_
 refine w_as (ev (.int .i64 3) rfl rfl) ?_
 refine nt ?_
 refine wp_ret ?_
 refine then_r ?_
 refine fin_ret2 rfl (ev (.string (str ([] : List (BitVec 8)))) rfl rfl) (ev (.int .i64 3) rfl rfl) ?_
 exact ⟨rfl, hk⟩

set_option maxRecDepth 100000 in
set_option maxHeartbeats 1000000 in
theorem open_k (key vi : List (BitVec 8)) (hok : ¬ Aes.okKey key.length) (text : List (BitVec 8)) (w0 : World) : Calls Try.prog 30 #[.string (str key), .string (str vi), .string (str text)] w0 fun e w' => e = .returned (.tuple #[.string (str ([] : List (BitVec 8))), .int .i64 3]) ∧ Below w0.heap.size w0 w' := by
 refine enter (n := 39) Try.func30 rfl rfl rfl ?_
 have hk : Below w0.heap.size w0 w0 := Below.refl _ _
 refine sr ?_
 refine w_as (evc (.string (str ([] : List (BitVec 8))))) ?_
 refine w_as (evc (.int .i64 0)) ?_
 refine nt ?_
 refine sr ?_
 refine w_mv (ev (.string (str key)) rfl rfl) ?_
 refine w_mv (ev (.string (str vi)) rfl rfl) ?_
 refine w_call (Try.func53) (by kernel_rfl) rfl (m2 (ev (.string (str key)) rfl rfl) (ev (.string (str vi)) rfl rfl)) (ready_k key vi hok w0) ?_
 rintro _ w1 ⟨rfl, hb2⟩
 refine ⟨_, rfl, ?_⟩
 replace hk := thenB hk hb2
 refine w_mv (ev (.tuple #[.pointer none, .int .i64 3]) rfl rfl) ?_
 refine w_val (y_ext (v := .pointer none) (ev (.tuple #[.pointer none, .int .i64 3]) rfl rfl) rfl) ?_
 refine w_val (y_ext (v := .int .i64 3) (ev (.tuple #[.pointer none, .int .i64 3]) rfl rfl) rfl) ?_
 refine w_as (ev (.pointer none) rfl rfl) ?_
 refine w_as (ev (.int .i64 3) rfl rfl) ?_
 refine nt ?_
 refine wp_seq ?_
 refine sr ?_
 refine w_mv (ev (.int .i64 3) rfl rfl) ?_
 refine w_val (y_bin (ev (.int .i64 3) rfl rfl) (evc (.int .i64 0)) b_neq) ?_
 refine nt ?_
 refine c_tt (ev (.bool true) rfl rfl) ?_
 refine sr ?_
 refine w_mv (ev (.int .i64 3) rfl rfl) ?_
 refine w_as (evc (.string (str ([] : List (BitVec 8))))) ?_
 refine w_as (ev (.int .i64 3) rfl rfl) ?_
 refine nt ?_
 refine wp_ret ?_
 refine then_r ?_
 refine fin_ret2 rfl (ev (.string (str ([] : List (BitVec 8)))) rfl rfl) (ev (.int .i64 3) rfl rfl) ?_
 exact ⟨rfl, hk⟩

set_option maxRecDepth 100000 in
set_option maxHeartbeats 1000000 in
theorem chain_i (key vi : List (BitVec 8)) (hok : Aes.okKey key.length) (hiv : vi.length ≠ 16) (text : List (BitVec 8)) (w0 : World) : Calls Try.prog 24 #[.string (str key), .string (str vi), .string (str text)] w0 fun e w' => e = .returned (.tuple #[.string (str ([] : List (BitVec 8))), .int .i64 4]) ∧ Below w0.heap.size w0 w' := by
 refine enter (n := 32) Try.func24 rfl rfl rfl ?_
 have hk : Below w0.heap.size w0 w0 := Below.refl _ _
 refine sr ?_
 refine w_as (evc (.string (str ([] : List (BitVec 8))))) ?_
 refine w_as (evc (.int .i64 0)) ?_
 refine nt ?_
 refine sr ?_
 refine w_mv (ev (.string (str key)) rfl rfl) ?_
 refine w_mv (ev (.string (str vi)) rfl rfl) ?_
 refine w_call (Try.func53) (by kernel_rfl) rfl (m2 (ev (.string (str key)) rfl rfl) (ev (.string (str vi)) rfl rfl)) (ready_i key vi hok hiv w0) ?_
 rintro _ w1 ⟨rfl, hb2⟩
 refine ⟨_, rfl, ?_⟩
 replace hk := thenB hk hb2
 refine w_mv (ev (.tuple #[.pointer none, .int .i64 4]) rfl rfl) ?_
 refine w_val (y_ext (v := .pointer none) (ev (.tuple #[.pointer none, .int .i64 4]) rfl rfl) rfl) ?_
 refine w_val (y_ext (v := .int .i64 4) (ev (.tuple #[.pointer none, .int .i64 4]) rfl rfl) rfl) ?_
 refine w_as (ev (.pointer none) rfl rfl) ?_
 refine w_as (ev (.int .i64 4) rfl rfl) ?_
 refine nt ?_
 refine wp_seq ?_
 refine sr ?_
 refine w_mv (ev (.int .i64 4) rfl rfl) ?_
 refine w_val (y_bin (ev (.int .i64 4) rfl rfl) (evc (.int .i64 0)) b_neq) ?_
 refine nt ?_
 refine c_tt (ev (.bool true) rfl rfl) ?_
 refine sr ?_
 refine w_mv (ev (.int .i64 4) rfl rfl) ?_
 refine w_as (evc (.string (str ([] : List (BitVec 8))))) ?_
 refine w_as (ev (.int .i64 4) rfl rfl) ?_
 refine nt ?_
 refine wp_ret ?_
 refine then_r ?_
 refine fin_ret2 rfl (ev (.string (str ([] : List (BitVec 8)))) rfl rfl) (ev (.int .i64 4) rfl rfl) ?_
 exact ⟨rfl, hk⟩

set_option maxRecDepth 100000 in
set_option maxHeartbeats 1000000 in
theorem unchain_i (key vi : List (BitVec 8)) (hok : Aes.okKey key.length) (hiv : vi.length ≠ 16) (text : List (BitVec 8)) (w0 : World) : Calls Try.prog 26 #[.string (str key), .string (str vi), .string (str text)] w0 fun e w' => e = .returned (.tuple #[.string (str ([] : List (BitVec 8))), .int .i64 4]) ∧ Below w0.heap.size w0 w' := by
 refine enter (n := 32) Try.func26 rfl rfl rfl ?_
 have hk : Below w0.heap.size w0 w0 := Below.refl _ _
 refine sr ?_
 refine w_as (evc (.string (str ([] : List (BitVec 8))))) ?_
 refine w_as (evc (.int .i64 0)) ?_
 refine nt ?_
 refine sr ?_
 refine w_mv (ev (.string (str key)) rfl rfl) ?_
 refine w_mv (ev (.string (str vi)) rfl rfl) ?_
 refine w_call (Try.func53) (by kernel_rfl) rfl (m2 (ev (.string (str key)) rfl rfl) (ev (.string (str vi)) rfl rfl)) (ready_i key vi hok hiv w0) ?_
 rintro _ w1 ⟨rfl, hb2⟩
 refine ⟨_, rfl, ?_⟩
 replace hk := thenB hk hb2
 refine w_mv (ev (.tuple #[.pointer none, .int .i64 4]) rfl rfl) ?_
 refine w_val (y_ext (v := .pointer none) (ev (.tuple #[.pointer none, .int .i64 4]) rfl rfl) rfl) ?_
 refine w_val (y_ext (v := .int .i64 4) (ev (.tuple #[.pointer none, .int .i64 4]) rfl rfl) rfl) ?_
 refine w_as (ev (.pointer none) rfl rfl) ?_
 refine w_as (ev (.int .i64 4) rfl rfl) ?_
 refine nt ?_
 refine wp_seq ?_
 refine sr ?_
 refine w_mv (ev (.int .i64 4) rfl rfl) ?_
 refine w_val (y_bin (ev (.int .i64 4) rfl rfl) (evc (.int .i64 0)) b_neq) ?_
 refine nt ?_
 refine c_tt (ev (.bool true) rfl rfl) ?_
 refine sr ?_
 refine w_mv (ev (.int .i64 4) rfl rfl) ?_
 refine w_as (evc (.string (str ([] : List (BitVec 8))))) ?_
 refine w_as (ev (.int .i64 4) rfl rfl) ?_
 refine nt ?_
 refine wp_ret ?_
 refine then_r ?_
 refine fin_ret2 rfl (ev (.string (str ([] : List (BitVec 8)))) rfl rfl) (ev (.int .i64 4) rfl rfl) ?_
 exact ⟨rfl, hk⟩

set_option maxRecDepth 100000 in
set_option maxHeartbeats 1000000 in
theorem seal_i (key vi : List (BitVec 8)) (hok : Aes.okKey key.length) (hiv : vi.length ≠ 16) (text : List (BitVec 8)) (w0 : World) : Calls Try.prog 28 #[.string (str key), .string (str vi), .string (str text)] w0 fun e w' => e = .returned (.tuple #[.string (str ([] : List (BitVec 8))), .int .i64 4]) ∧ Below w0.heap.size w0 w' := by
 refine enter (n := 33) Try.func28 rfl rfl rfl ?_
 have hk : Below w0.heap.size w0 w0 := Below.refl _ _
 refine sr ?_
 refine w_as (evc (.string (str ([] : List (BitVec 8))))) ?_
 refine w_as (evc (.int .i64 0)) ?_
 refine nt ?_
 refine sr ?_
 refine w_mv (ev (.string (str key)) rfl rfl) ?_
 refine w_mv (ev (.string (str vi)) rfl rfl) ?_
 refine w_call (Try.func53) (by kernel_rfl) rfl (m2 (ev (.string (str key)) rfl rfl) (ev (.string (str vi)) rfl rfl)) (ready_i key vi hok hiv w0) ?_
 rintro _ w1 ⟨rfl, hb2⟩
 refine ⟨_, rfl, ?_⟩
 replace hk := thenB hk hb2
 refine w_mv (ev (.tuple #[.pointer none, .int .i64 4]) rfl rfl) ?_
 refine w_val (y_ext (v := .pointer none) (ev (.tuple #[.pointer none, .int .i64 4]) rfl rfl) rfl) ?_
 refine w_val (y_ext (v := .int .i64 4) (ev (.tuple #[.pointer none, .int .i64 4]) rfl rfl) rfl) ?_
 refine w_as (ev (.pointer none) rfl rfl) ?_
 refine w_as (ev (.int .i64 4) rfl rfl) ?_
 refine nt ?_
 refine wp_seq ?_
 refine sr ?_
 refine w_mv (ev (.int .i64 4) rfl rfl) ?_
 refine w_val (y_bin (ev (.int .i64 4) rfl rfl) (evc (.int .i64 0)) b_neq) ?_
 refine nt ?_
 refine c_tt (ev (.bool true) rfl rfl) ?_
 refine sr ?_
 refine w_mv (ev (.int .i64 4) rfl rfl) ?_
 refine w_as (evc (.string (str ([] : List (BitVec 8))))) ?_
 refine w_as (ev (.int .i64 4) rfl rfl) ?_
 refine nt ?_
 refine wp_ret ?_
 refine then_r ?_
 refine fin_ret2 rfl (ev (.string (str ([] : List (BitVec 8)))) rfl rfl) (ev (.int .i64 4) rfl rfl) ?_
 exact ⟨rfl, hk⟩

set_option maxRecDepth 100000 in
set_option maxHeartbeats 1000000 in
theorem open_i (key vi : List (BitVec 8)) (hok : Aes.okKey key.length) (hiv : vi.length ≠ 16) (text : List (BitVec 8)) (w0 : World) : Calls Try.prog 30 #[.string (str key), .string (str vi), .string (str text)] w0 fun e w' => e = .returned (.tuple #[.string (str ([] : List (BitVec 8))), .int .i64 4]) ∧ Below w0.heap.size w0 w' := by
 refine enter (n := 39) Try.func30 rfl rfl rfl ?_
 have hk : Below w0.heap.size w0 w0 := Below.refl _ _
 refine sr ?_
 refine w_as (evc (.string (str ([] : List (BitVec 8))))) ?_
 refine w_as (evc (.int .i64 0)) ?_
 refine nt ?_
 refine sr ?_
 refine w_mv (ev (.string (str key)) rfl rfl) ?_
 refine w_mv (ev (.string (str vi)) rfl rfl) ?_
 refine w_call (Try.func53) (by kernel_rfl) rfl (m2 (ev (.string (str key)) rfl rfl) (ev (.string (str vi)) rfl rfl)) (ready_i key vi hok hiv w0) ?_
 rintro _ w1 ⟨rfl, hb2⟩
 refine ⟨_, rfl, ?_⟩
 replace hk := thenB hk hb2
 refine w_mv (ev (.tuple #[.pointer none, .int .i64 4]) rfl rfl) ?_
 refine w_val (y_ext (v := .pointer none) (ev (.tuple #[.pointer none, .int .i64 4]) rfl rfl) rfl) ?_
 refine w_val (y_ext (v := .int .i64 4) (ev (.tuple #[.pointer none, .int .i64 4]) rfl rfl) rfl) ?_
 refine w_as (ev (.pointer none) rfl rfl) ?_
 refine w_as (ev (.int .i64 4) rfl rfl) ?_
 refine nt ?_
 refine wp_seq ?_
 refine sr ?_
 refine w_mv (ev (.int .i64 4) rfl rfl) ?_
 refine w_val (y_bin (ev (.int .i64 4) rfl rfl) (evc (.int .i64 0)) b_neq) ?_
 refine nt ?_
 refine c_tt (ev (.bool true) rfl rfl) ?_
 refine sr ?_
 refine w_mv (ev (.int .i64 4) rfl rfl) ?_
 refine w_as (evc (.string (str ([] : List (BitVec 8))))) ?_
 refine w_as (ev (.int .i64 4) rfl rfl) ?_
 refine nt ?_
 refine wp_ret ?_
 refine then_r ?_
 refine fin_ret2 rfl (ev (.string (str ([] : List (BitVec 8)))) rfl rfl) (ev (.int .i64 4) rfl rfl) ?_
 exact ⟨rfl, hk⟩

set_option maxRecDepth 100000 in
set_option maxHeartbeats 1000000 in
theorem chain_s (key vi : List (BitVec 8)) (hok : Aes.okKey key.length) (hiv : vi.length = 16) (text : List (BitVec 8)) (hs : ¬ (text.length % 16 = 0 ∧ text.length ≤ 70016)) (w0 : World) : Calls Try.prog 24 #[.string (str key), .string (str vi), .string (str text)] w0 fun e w' => e = .returned (.tuple #[.string (str ([] : List (BitVec 8))), .int .i64 6]) ∧ Below w0.heap.size w0 w' := by
 refine enter (n := 32) Try.func24 rfl rfl rfl ?_
 have hk : Below w0.heap.size w0 w0 := Below.refl _ _
 refine sr ?_
 refine w_as (evc (.string (str ([] : List (BitVec 8))))) ?_
 refine w_as (evc (.int .i64 0)) ?_
 refine nt ?_
 refine sr ?_
 refine w_mv (ev (.string (str key)) rfl rfl) ?_
 refine w_mv (ev (.string (str vi)) rfl rfl) ?_
 refine w_call (Try.func53) (by kernel_rfl) rfl (m2 (ev (.string (str key)) rfl rfl) (ev (.string (str vi)) rfl rfl)) (ready_y key vi hok hiv w0) ?_
 rintro _ w1 ⟨p, rfl, hge_p, hc, hb_p⟩
 refine ⟨_, rfl, ?_⟩
 have ge_p : w0.heap.size ≤ p := by have := hk.size; omega
 replace hk := thenB hk hb_p
 refine w_mv (ev (.tuple #[pt p 0, .int .i64 0]) rfl rfl) ?_
 refine w_val (y_ext (v := pt p 0) (ev (.tuple #[pt p 0, .int .i64 0]) rfl rfl) rfl) ?_
 refine w_val (y_ext (v := .int .i64 0) (ev (.tuple #[pt p 0, .int .i64 0]) rfl rfl) rfl) ?_
 refine w_as (ev (pt p 0) rfl rfl) ?_
 refine w_as (ev (.int .i64 0) rfl rfl) ?_
 refine nt ?_
 refine wp_seq ?_
 refine sr ?_
 refine w_mv (ev (.int .i64 0) rfl rfl) ?_
 refine w_val (y_bin (ev (.int .i64 0) rfl rfl) (evc (.int .i64 0)) b_neq) ?_
 refine nt ?_
 refine c_ff (ev (.bool false) rfl rfl) ?_
 refine wp_skip ?_
 refine then_n ?_
 refine wp_seq ?_
 refine sr ?_
 refine w_mv (ev (.string (str text)) rfl rfl) ?_
 refine w_val (y_len (ev (.string (str text)) rfl rfl) Try.underlying9) ?_
 refine w_val (y_bin (ev (.int .i64 ((text.length : Nat) : Int)) rfl rfl) (evc (.int .i64 16)) (b_rem (by omega))) ?_
 refine w_val (y_bin (ev (.int .i64 (((text.length : Nat) : Int) % 16)) rfl rfl) (evc (.int .i64 0)) b_neq) ?_
 refine w_mv (ev (.bool (decide ((((text.length : Nat) : Int) % 16) ≠ 0))) rfl rfl) ?_
 by_cases hc2 : (((text.length : Nat) : Int) % 16) ≠ 0
 ·skip
  first | with_reducible refine w_skip ?_ ?_ | refine w_skip ?_ ?_
  · exact want_no (j := 4) rfl rfl (ev (.bool true) (Eq.trans (b := .bool (decide ((((text.length : Nat) : Int) % 16) ≠ 0))) rfl (by rw [decide_eq_true hc2])) rfl) rfl
  first | with_reducible refine w_skip ?_ ?_ | refine w_skip ?_ ?_
  · exact want_no (j := 4) rfl rfl (ev (.bool true) (Eq.trans (b := .bool (decide ((((text.length : Nat) : Int) % 16) ≠ 0))) rfl (by rw [decide_eq_true hc2])) rfl) rfl
  first | with_reducible refine w_skip ?_ ?_ | refine w_skip ?_ ?_
  · exact want_no (j := 4) rfl rfl (ev (.bool true) (Eq.trans (b := .bool (decide ((((text.length : Nat) : Int) % 16) ≠ 0))) rfl (by rw [decide_eq_true hc2])) rfl) rfl
  refine w_val (y_pick_t (ev (.bool true) (Eq.trans (b := .bool (decide ((((text.length : Nat) : Int) % 16) ≠ 0))) rfl (by rw [decide_eq_true hc2])) rfl) (evc (.bool true))) ?_
  refine nt ?_
  refine c_tt (ev (.bool true) rfl rfl) ?_
  refine sr ?_
  refine w_as (evc (.string (str ([] : List (BitVec 8))))) ?_
  refine w_as (evc (.int .i64 6)) ?_
  refine nt ?_
  refine wp_ret ?_
  refine then_r ?_
  refine fin_ret2 rfl (ev (.string (str ([] : List (BitVec 8)))) rfl rfl) (ev (.int .i64 6) rfl rfl) ?_
  exact ⟨rfl, hk⟩
 ·skip
  refine w_val_g (v := .string (str text)) (want_yes (j := 4) rfl rfl (ev (.bool false) (Eq.trans (b := .bool (decide ((((text.length : Nat) : Int) % 16) ≠ 0))) rfl (by rw [decide_eq_false hc2])) rfl) rfl) (y_mv (ev (.string (str text)) rfl rfl)) ?_
  refine w_val_g (want_yes (j := 4) rfl rfl (ev (.bool false) (Eq.trans (b := .bool (decide ((((text.length : Nat) : Int) % 16) ≠ 0))) rfl (by rw [decide_eq_false hc2])) rfl) rfl) (y_len (ev (.string (str text)) rfl rfl) Try.underlying9) ?_
  refine w_val_g (want_yes (j := 4) rfl rfl (ev (.bool false) (Eq.trans (b := .bool (decide ((((text.length : Nat) : Int) % 16) ≠ 0))) rfl (by rw [decide_eq_false hc2])) rfl) rfl) (y_bin (ev (.int .i64 ((text.length : Nat) : Int)) rfl rfl) (evc (.int .i64 70016)) b_gtr) ?_
  refine w_val (y_pick_f (ev (.bool false) (Eq.trans (b := .bool (decide ((((text.length : Nat) : Int) % 16) ≠ 0))) rfl (by rw [decide_eq_false hc2])) rfl) (ev (.bool (decide (70016 < ((text.length : Nat) : Int)))) rfl rfl)) ?_
  refine nt ?_
  refine c_if (p := 70016 < ((text.length : Nat) : Int)) (ev (.bool (decide (70016 < ((text.length : Nat) : Int)))) rfl rfl) (fun hc3 => ?_) (fun hc3 => ?_)
  ·skip
   refine sr ?_
   refine w_as (evc (.string (str ([] : List (BitVec 8))))) ?_
   refine w_as (evc (.int .i64 6)) ?_
   refine nt ?_
   refine wp_ret ?_
   refine then_r ?_
   refine fin_ret2 rfl (ev (.string (str ([] : List (BitVec 8)))) rfl rfl) (ev (.int .i64 6) rfl rfl) ?_
   exact ⟨rfl, hk⟩
  ·skip
   refine wp_skip ?_
   refine then_n ?_
   refine wp_seq ?_
   exfalso; omega

set_option maxRecDepth 100000 in
set_option maxHeartbeats 1000000 in
theorem unchain_s (key vi : List (BitVec 8)) (hok : Aes.okKey key.length) (hiv : vi.length = 16) (text : List (BitVec 8)) (hs : ¬ (text.length % 16 = 0 ∧ text.length ≤ 70016)) (w0 : World) : Calls Try.prog 26 #[.string (str key), .string (str vi), .string (str text)] w0 fun e w' => e = .returned (.tuple #[.string (str ([] : List (BitVec 8))), .int .i64 6]) ∧ Below w0.heap.size w0 w' := by
 refine enter (n := 32) Try.func26 rfl rfl rfl ?_
 have hk : Below w0.heap.size w0 w0 := Below.refl _ _
 refine sr ?_
 refine w_as (evc (.string (str ([] : List (BitVec 8))))) ?_
 refine w_as (evc (.int .i64 0)) ?_
 refine nt ?_
 refine sr ?_
 refine w_mv (ev (.string (str key)) rfl rfl) ?_
 refine w_mv (ev (.string (str vi)) rfl rfl) ?_
 refine w_call (Try.func53) (by kernel_rfl) rfl (m2 (ev (.string (str key)) rfl rfl) (ev (.string (str vi)) rfl rfl)) (ready_y key vi hok hiv w0) ?_
 rintro _ w1 ⟨p, rfl, hge_p, hc, hb_p⟩
 refine ⟨_, rfl, ?_⟩
 have ge_p : w0.heap.size ≤ p := by have := hk.size; omega
 replace hk := thenB hk hb_p
 refine w_mv (ev (.tuple #[pt p 0, .int .i64 0]) rfl rfl) ?_
 refine w_val (y_ext (v := pt p 0) (ev (.tuple #[pt p 0, .int .i64 0]) rfl rfl) rfl) ?_
 refine w_val (y_ext (v := .int .i64 0) (ev (.tuple #[pt p 0, .int .i64 0]) rfl rfl) rfl) ?_
 refine w_as (ev (pt p 0) rfl rfl) ?_
 refine w_as (ev (.int .i64 0) rfl rfl) ?_
 refine nt ?_
 refine wp_seq ?_
 refine sr ?_
 refine w_mv (ev (.int .i64 0) rfl rfl) ?_
 refine w_val (y_bin (ev (.int .i64 0) rfl rfl) (evc (.int .i64 0)) b_neq) ?_
 refine nt ?_
 refine c_ff (ev (.bool false) rfl rfl) ?_
 refine wp_skip ?_
 refine then_n ?_
 refine wp_seq ?_
 refine sr ?_
 refine w_mv (ev (.string (str text)) rfl rfl) ?_
 refine w_val (y_len (ev (.string (str text)) rfl rfl) Try.underlying9) ?_
 refine w_val (y_bin (ev (.int .i64 ((text.length : Nat) : Int)) rfl rfl) (evc (.int .i64 16)) (b_rem (by omega))) ?_
 refine w_val (y_bin (ev (.int .i64 (((text.length : Nat) : Int) % 16)) rfl rfl) (evc (.int .i64 0)) b_neq) ?_
 refine w_mv (ev (.bool (decide ((((text.length : Nat) : Int) % 16) ≠ 0))) rfl rfl) ?_
 by_cases hc2 : (((text.length : Nat) : Int) % 16) ≠ 0
 ·skip
  first | with_reducible refine w_skip ?_ ?_ | refine w_skip ?_ ?_
  · exact want_no (j := 4) rfl rfl (ev (.bool true) (Eq.trans (b := .bool (decide ((((text.length : Nat) : Int) % 16) ≠ 0))) rfl (by rw [decide_eq_true hc2])) rfl) rfl
  first | with_reducible refine w_skip ?_ ?_ | refine w_skip ?_ ?_
  · exact want_no (j := 4) rfl rfl (ev (.bool true) (Eq.trans (b := .bool (decide ((((text.length : Nat) : Int) % 16) ≠ 0))) rfl (by rw [decide_eq_true hc2])) rfl) rfl
  first | with_reducible refine w_skip ?_ ?_ | refine w_skip ?_ ?_
  · exact want_no (j := 4) rfl rfl (ev (.bool true) (Eq.trans (b := .bool (decide ((((text.length : Nat) : Int) % 16) ≠ 0))) rfl (by rw [decide_eq_true hc2])) rfl) rfl
  refine w_val (y_pick_t (ev (.bool true) (Eq.trans (b := .bool (decide ((((text.length : Nat) : Int) % 16) ≠ 0))) rfl (by rw [decide_eq_true hc2])) rfl) (evc (.bool true))) ?_
  refine nt ?_
  refine c_tt (ev (.bool true) rfl rfl) ?_
  refine sr ?_
  refine w_as (evc (.string (str ([] : List (BitVec 8))))) ?_
  refine w_as (evc (.int .i64 6)) ?_
  refine nt ?_
  refine wp_ret ?_
  refine then_r ?_
  refine fin_ret2 rfl (ev (.string (str ([] : List (BitVec 8)))) rfl rfl) (ev (.int .i64 6) rfl rfl) ?_
  exact ⟨rfl, hk⟩
 ·skip
  refine w_val_g (v := .string (str text)) (want_yes (j := 4) rfl rfl (ev (.bool false) (Eq.trans (b := .bool (decide ((((text.length : Nat) : Int) % 16) ≠ 0))) rfl (by rw [decide_eq_false hc2])) rfl) rfl) (y_mv (ev (.string (str text)) rfl rfl)) ?_
  refine w_val_g (want_yes (j := 4) rfl rfl (ev (.bool false) (Eq.trans (b := .bool (decide ((((text.length : Nat) : Int) % 16) ≠ 0))) rfl (by rw [decide_eq_false hc2])) rfl) rfl) (y_len (ev (.string (str text)) rfl rfl) Try.underlying9) ?_
  refine w_val_g (want_yes (j := 4) rfl rfl (ev (.bool false) (Eq.trans (b := .bool (decide ((((text.length : Nat) : Int) % 16) ≠ 0))) rfl (by rw [decide_eq_false hc2])) rfl) rfl) (y_bin (ev (.int .i64 ((text.length : Nat) : Int)) rfl rfl) (evc (.int .i64 70016)) b_gtr) ?_
  refine w_val (y_pick_f (ev (.bool false) (Eq.trans (b := .bool (decide ((((text.length : Nat) : Int) % 16) ≠ 0))) rfl (by rw [decide_eq_false hc2])) rfl) (ev (.bool (decide (70016 < ((text.length : Nat) : Int)))) rfl rfl)) ?_
  refine nt ?_
  refine c_if (p := 70016 < ((text.length : Nat) : Int)) (ev (.bool (decide (70016 < ((text.length : Nat) : Int)))) rfl rfl) (fun hc3 => ?_) (fun hc3 => ?_)
  ·skip
   refine sr ?_
   refine w_as (evc (.string (str ([] : List (BitVec 8))))) ?_
   refine w_as (evc (.int .i64 6)) ?_
   refine nt ?_
   refine wp_ret ?_
   refine then_r ?_
   refine fin_ret2 rfl (ev (.string (str ([] : List (BitVec 8)))) rfl rfl) (ev (.int .i64 6) rfl rfl) ?_
   exact ⟨rfl, hk⟩
  ·skip
   refine wp_skip ?_
   refine then_n ?_
   refine wp_seq ?_
   exfalso; omega

set_option maxRecDepth 100000 in
set_option maxHeartbeats 1000000 in
theorem chain_y (key vi : List (BitVec 8)) (hok : Aes.okKey key.length) (hiv : vi.length = 16) (text : List (BitVec 8)) (ht : text.length % 16 = 0) (hl : text.length ≤ 70016) (w0 : World) : Calls Try.prog 24 #[.string (str key), .string (str vi), .string (str text)] w0 fun e w' => e = .returned (.tuple #[.string (str (Cb.chain key vi text)), .int .i64 0]) ∧ Below w0.heap.size w0 w' := by
 refine enter (n := 32) Try.func24 rfl rfl rfl ?_
 have hk : Below w0.heap.size w0 w0 := Below.refl _ _
 refine sr ?_
 refine w_as (evc (.string (str ([] : List (BitVec 8))))) ?_
 refine w_as (evc (.int .i64 0)) ?_
 refine nt ?_
 refine sr ?_
 refine w_mv (ev (.string (str key)) rfl rfl) ?_
 refine w_mv (ev (.string (str vi)) rfl rfl) ?_
 refine w_call (Try.func53) (by kernel_rfl) rfl (m2 (ev (.string (str key)) rfl rfl) (ev (.string (str vi)) rfl rfl)) (ready_y key vi hok hiv w0) ?_
 rintro _ w1 ⟨p, rfl, hge_p, hc, hb_p⟩
 refine ⟨_, rfl, ?_⟩
 have ge_p : w0.heap.size ≤ p := by have := hk.size; omega
 replace hk := thenB hk hb_p
 refine w_mv (ev (.tuple #[pt p 0, .int .i64 0]) rfl rfl) ?_
 refine w_val (y_ext (v := pt p 0) (ev (.tuple #[pt p 0, .int .i64 0]) rfl rfl) rfl) ?_
 refine w_val (y_ext (v := .int .i64 0) (ev (.tuple #[pt p 0, .int .i64 0]) rfl rfl) rfl) ?_
 refine w_as (ev (pt p 0) rfl rfl) ?_
 refine w_as (ev (.int .i64 0) rfl rfl) ?_
 refine nt ?_
 refine wp_seq ?_
 refine sr ?_
 refine w_mv (ev (.int .i64 0) rfl rfl) ?_
 refine w_val (y_bin (ev (.int .i64 0) rfl rfl) (evc (.int .i64 0)) b_neq) ?_
 refine nt ?_
 refine c_ff (ev (.bool false) rfl rfl) ?_
 refine wp_skip ?_
 refine then_n ?_
 refine wp_seq ?_
 refine sr ?_
 refine w_mv (ev (.string (str text)) rfl rfl) ?_
 refine w_val (y_len (ev (.string (str text)) rfl rfl) Try.underlying9) ?_
 refine w_val (y_bin (ev (.int .i64 ((text.length : Nat) : Int)) rfl rfl) (evc (.int .i64 16)) (b_rem (by omega))) ?_
 refine w_val (y_bin (ev (.int .i64 (((text.length : Nat) : Int) % 16)) rfl rfl) (evc (.int .i64 0)) b_neq) ?_
 refine w_mv (ev (.bool (decide ((((text.length : Nat) : Int) % 16) ≠ 0))) rfl rfl) ?_
 have hc2 : ¬ ((((text.length : Nat) : Int) % 16) ≠ 0) := by omega
 refine w_val_g (v := .string (str text)) (want_yes (j := 4) rfl rfl (ev (.bool false) (Eq.trans (b := .bool (decide ((((text.length : Nat) : Int) % 16) ≠ 0))) rfl (by rw [decide_eq_false hc2])) rfl) rfl) (y_mv (ev (.string (str text)) rfl rfl)) ?_
 refine w_val_g (want_yes (j := 4) rfl rfl (ev (.bool false) (Eq.trans (b := .bool (decide ((((text.length : Nat) : Int) % 16) ≠ 0))) rfl (by rw [decide_eq_false hc2])) rfl) rfl) (y_len (ev (.string (str text)) rfl rfl) Try.underlying9) ?_
 refine w_val_g (want_yes (j := 4) rfl rfl (ev (.bool false) (Eq.trans (b := .bool (decide ((((text.length : Nat) : Int) % 16) ≠ 0))) rfl (by rw [decide_eq_false hc2])) rfl) rfl) (y_bin (ev (.int .i64 ((text.length : Nat) : Int)) rfl rfl) (evc (.int .i64 70016)) b_gtr) ?_
 refine w_val (y_pick_f (ev (.bool false) (Eq.trans (b := .bool (decide ((((text.length : Nat) : Int) % 16) ≠ 0))) rfl (by rw [decide_eq_false hc2])) rfl) (ev (.bool (decide (70016 < ((text.length : Nat) : Int)))) rfl rfl)) ?_
 refine nt ?_
 have hc3 : ¬ (70016 < ((text.length : Nat) : Int)) := by omega
 refine c_f (p := 70016 < ((text.length : Nat) : Int)) (ev (.bool (decide (70016 < ((text.length : Nat) : Int)))) rfl rfl) hc3 ?_
 refine wp_skip ?_
 refine then_n ?_
 refine sr ?_
 refine w_mv (ev (pt p 0) rfl rfl) ?_
 refine w_mv (ev (.string (str vi)) rfl rfl) ?_
 refine w_mv (ev (.string (str text)) rfl rfl) ?_
 refine w_call (Try.func54) (by kernel_rfl) rfl (m3 (ev (pt p 0) rfl rfl) (ev (.string (str vi)) rfl rfl) (ev (.string (str text)) rfl rfl)) (chain_l p key vi hok hiv text ht hl w1 hc) ?_
 rintro _ w4 ⟨rfl, hb5⟩
 refine ⟨_, rfl, ?_⟩
 replace hk := thenB hk hb5
 replace hc := hc.below hb5
 refine w_as (ev (.string (str (Cb.chain key vi text))) rfl rfl) ?_
 refine w_as (evc (.int .i64 0)) ?_
 refine nt ?_
 refine wp_ret ?_
 refine fin_ret2 rfl (ev (.string (str (Cb.chain key vi text))) rfl rfl) (ev (.int .i64 0) rfl rfl) ?_
 exact ⟨rfl, hk⟩

set_option maxRecDepth 100000 in
set_option maxHeartbeats 1000000 in
theorem unchain_y (key vi : List (BitVec 8)) (hok : Aes.okKey key.length) (hiv : vi.length = 16) (text : List (BitVec 8)) (ht : text.length % 16 = 0) (hl : text.length ≤ 70016) (w0 : World) : Calls Try.prog 26 #[.string (str key), .string (str vi), .string (str text)] w0 fun e w' => e = .returned (.tuple #[.string (str (Cb.unchain key vi text)), .int .i64 0]) ∧ Below w0.heap.size w0 w' := by
 refine enter (n := 32) Try.func26 rfl rfl rfl ?_
 have hk : Below w0.heap.size w0 w0 := Below.refl _ _
 refine sr ?_
 refine w_as (evc (.string (str ([] : List (BitVec 8))))) ?_
 refine w_as (evc (.int .i64 0)) ?_
 refine nt ?_
 refine sr ?_
 refine w_mv (ev (.string (str key)) rfl rfl) ?_
 refine w_mv (ev (.string (str vi)) rfl rfl) ?_
 refine w_call (Try.func53) (by kernel_rfl) rfl (m2 (ev (.string (str key)) rfl rfl) (ev (.string (str vi)) rfl rfl)) (ready_y key vi hok hiv w0) ?_
 rintro _ w1 ⟨p, rfl, hge_p, hc, hb_p⟩
 refine ⟨_, rfl, ?_⟩
 have ge_p : w0.heap.size ≤ p := by have := hk.size; omega
 replace hk := thenB hk hb_p
 refine w_mv (ev (.tuple #[pt p 0, .int .i64 0]) rfl rfl) ?_
 refine w_val (y_ext (v := pt p 0) (ev (.tuple #[pt p 0, .int .i64 0]) rfl rfl) rfl) ?_
 refine w_val (y_ext (v := .int .i64 0) (ev (.tuple #[pt p 0, .int .i64 0]) rfl rfl) rfl) ?_
 refine w_as (ev (pt p 0) rfl rfl) ?_
 refine w_as (ev (.int .i64 0) rfl rfl) ?_
 refine nt ?_
 refine wp_seq ?_
 refine sr ?_
 refine w_mv (ev (.int .i64 0) rfl rfl) ?_
 refine w_val (y_bin (ev (.int .i64 0) rfl rfl) (evc (.int .i64 0)) b_neq) ?_
 refine nt ?_
 refine c_ff (ev (.bool false) rfl rfl) ?_
 refine wp_skip ?_
 refine then_n ?_
 refine wp_seq ?_
 refine sr ?_
 refine w_mv (ev (.string (str text)) rfl rfl) ?_
 refine w_val (y_len (ev (.string (str text)) rfl rfl) Try.underlying9) ?_
 refine w_val (y_bin (ev (.int .i64 ((text.length : Nat) : Int)) rfl rfl) (evc (.int .i64 16)) (b_rem (by omega))) ?_
 refine w_val (y_bin (ev (.int .i64 (((text.length : Nat) : Int) % 16)) rfl rfl) (evc (.int .i64 0)) b_neq) ?_
 refine w_mv (ev (.bool (decide ((((text.length : Nat) : Int) % 16) ≠ 0))) rfl rfl) ?_
 have hc2 : ¬ ((((text.length : Nat) : Int) % 16) ≠ 0) := by omega
 refine w_val_g (v := .string (str text)) (want_yes (j := 4) rfl rfl (ev (.bool false) (Eq.trans (b := .bool (decide ((((text.length : Nat) : Int) % 16) ≠ 0))) rfl (by rw [decide_eq_false hc2])) rfl) rfl) (y_mv (ev (.string (str text)) rfl rfl)) ?_
 refine w_val_g (want_yes (j := 4) rfl rfl (ev (.bool false) (Eq.trans (b := .bool (decide ((((text.length : Nat) : Int) % 16) ≠ 0))) rfl (by rw [decide_eq_false hc2])) rfl) rfl) (y_len (ev (.string (str text)) rfl rfl) Try.underlying9) ?_
 refine w_val_g (want_yes (j := 4) rfl rfl (ev (.bool false) (Eq.trans (b := .bool (decide ((((text.length : Nat) : Int) % 16) ≠ 0))) rfl (by rw [decide_eq_false hc2])) rfl) rfl) (y_bin (ev (.int .i64 ((text.length : Nat) : Int)) rfl rfl) (evc (.int .i64 70016)) b_gtr) ?_
 refine w_val (y_pick_f (ev (.bool false) (Eq.trans (b := .bool (decide ((((text.length : Nat) : Int) % 16) ≠ 0))) rfl (by rw [decide_eq_false hc2])) rfl) (ev (.bool (decide (70016 < ((text.length : Nat) : Int)))) rfl rfl)) ?_
 refine nt ?_
 have hc3 : ¬ (70016 < ((text.length : Nat) : Int)) := by omega
 refine c_f (p := 70016 < ((text.length : Nat) : Int)) (ev (.bool (decide (70016 < ((text.length : Nat) : Int)))) rfl rfl) hc3 ?_
 refine wp_skip ?_
 refine then_n ?_
 refine sr ?_
 refine w_mv (ev (pt p 0) rfl rfl) ?_
 refine w_mv (ev (.string (str vi)) rfl rfl) ?_
 refine w_mv (ev (.string (str text)) rfl rfl) ?_
 have hw_ := hc
 refine w_call (Try.func60) (by kernel_rfl) rfl (m3 (ev (pt p 0) rfl rfl) (ev (.string (str vi)) rfl rfl) (ev (.string (str text)) rfl rfl)) (unchain_l p key vi hok hiv text ht hl w1 hw_) ?_
 rintro _ w4 ⟨rfl, hgd, hc⟩
 refine ⟨_, rfl, ?_⟩
 replace hk := thenG hk hgd (by omega)
 refine w_as (ev (.string (str (Cb.unchain key vi text))) rfl rfl) ?_
 refine w_as (evc (.int .i64 0)) ?_
 refine nt ?_
 refine wp_ret ?_
 refine fin_ret2 rfl (ev (.string (str (Cb.unchain key vi text))) rfl rfl) (ev (.int .i64 0) rfl rfl) ?_
 exact ⟨rfl, hk⟩

set_option maxRecDepth 100000 in
set_option maxHeartbeats 1000000 in
theorem seal_z (key vi : List (BitVec 8)) (hok : Aes.okKey key.length) (hiv : vi.length = 16) (text : List (BitVec 8)) (hz : 70000 < text.length) (w0 : World) : Calls Try.prog 28 #[.string (str key), .string (str vi), .string (str text)] w0 fun e w' => e = .returned (.tuple #[.string (str ([] : List (BitVec 8))), .int .i64 6]) ∧ Below w0.heap.size w0 w' := by
 refine enter (n := 33) Try.func28 rfl rfl rfl ?_
 have hk : Below w0.heap.size w0 w0 := Below.refl _ _
 refine sr ?_
 refine w_as (evc (.string (str ([] : List (BitVec 8))))) ?_
 refine w_as (evc (.int .i64 0)) ?_
 refine nt ?_
 refine sr ?_
 refine w_mv (ev (.string (str key)) rfl rfl) ?_
 refine w_mv (ev (.string (str vi)) rfl rfl) ?_
 refine w_call (Try.func53) (by kernel_rfl) rfl (m2 (ev (.string (str key)) rfl rfl) (ev (.string (str vi)) rfl rfl)) (ready_y key vi hok hiv w0) ?_
 rintro _ w1 ⟨p, rfl, hge_p, hc, hb_p⟩
 refine ⟨_, rfl, ?_⟩
 have ge_p : w0.heap.size ≤ p := by have := hk.size; omega
 replace hk := thenB hk hb_p
 refine w_mv (ev (.tuple #[pt p 0, .int .i64 0]) rfl rfl) ?_
 refine w_val (y_ext (v := pt p 0) (ev (.tuple #[pt p 0, .int .i64 0]) rfl rfl) rfl) ?_
 refine w_val (y_ext (v := .int .i64 0) (ev (.tuple #[pt p 0, .int .i64 0]) rfl rfl) rfl) ?_
 refine w_as (ev (pt p 0) rfl rfl) ?_
 refine w_as (ev (.int .i64 0) rfl rfl) ?_
 refine nt ?_
 refine wp_seq ?_
 refine sr ?_
 refine w_mv (ev (.int .i64 0) rfl rfl) ?_
 refine w_val (y_bin (ev (.int .i64 0) rfl rfl) (evc (.int .i64 0)) b_neq) ?_
 refine nt ?_
 refine c_ff (ev (.bool false) rfl rfl) ?_
 refine wp_skip ?_
 refine then_n ?_
 refine wp_seq ?_
 refine sr ?_
 refine w_mv (ev (.string (str text)) rfl rfl) ?_
 refine w_val (y_len (ev (.string (str text)) rfl rfl) Try.underlying9) ?_
 refine w_val (y_bin (ev (.int .i64 ((text.length : Nat) : Int)) rfl rfl) (evc (.int .i64 70000)) b_gtr) ?_
 refine nt ?_
 have hc2 : 70000 < ((text.length : Nat) : Int) := by omega
 refine c_t (p := 70000 < ((text.length : Nat) : Int)) (ev (.bool (decide (70000 < ((text.length : Nat) : Int)))) rfl rfl) hc2 ?_
 refine sr ?_
 refine w_as (evc (.string (str ([] : List (BitVec 8))))) ?_
 refine w_as (evc (.int .i64 6)) ?_
 refine nt ?_
 refine wp_ret ?_
 refine then_r ?_
 refine fin_ret2 rfl (ev (.string (str ([] : List (BitVec 8)))) rfl rfl) (ev (.int .i64 6) rfl rfl) ?_
 exact ⟨rfl, hk⟩

set_option maxRecDepth 100000 in
set_option maxHeartbeats 1000000 in
theorem seal_y (key vi : List (BitVec 8)) (hok : Aes.okKey key.length) (hiv : vi.length = 16) (text : List (BitVec 8)) (hz : text.length ≤ 70000) (w0 : World) : Calls Try.prog 28 #[.string (str key), .string (str vi), .string (str text)] w0 fun e w' => e = .returned (.tuple #[.string (str (Cb.chain key vi (Cb.pad text 16))), .int .i64 0]) ∧ Below w0.heap.size w0 w' := by
 refine enter (n := 33) Try.func28 rfl rfl rfl ?_
 have hk : Below w0.heap.size w0 w0 := Below.refl _ _
 refine sr ?_
 refine w_as (evc (.string (str ([] : List (BitVec 8))))) ?_
 refine w_as (evc (.int .i64 0)) ?_
 refine nt ?_
 refine sr ?_
 refine w_mv (ev (.string (str key)) rfl rfl) ?_
 refine w_mv (ev (.string (str vi)) rfl rfl) ?_
 refine w_call (Try.func53) (by kernel_rfl) rfl (m2 (ev (.string (str key)) rfl rfl) (ev (.string (str vi)) rfl rfl)) (ready_y key vi hok hiv w0) ?_
 rintro _ w1 ⟨p, rfl, hge_p, hc, hb_p⟩
 refine ⟨_, rfl, ?_⟩
 have ge_p : w0.heap.size ≤ p := by have := hk.size; omega
 replace hk := thenB hk hb_p
 refine w_mv (ev (.tuple #[pt p 0, .int .i64 0]) rfl rfl) ?_
 refine w_val (y_ext (v := pt p 0) (ev (.tuple #[pt p 0, .int .i64 0]) rfl rfl) rfl) ?_
 refine w_val (y_ext (v := .int .i64 0) (ev (.tuple #[pt p 0, .int .i64 0]) rfl rfl) rfl) ?_
 refine w_as (ev (pt p 0) rfl rfl) ?_
 refine w_as (ev (.int .i64 0) rfl rfl) ?_
 refine nt ?_
 refine wp_seq ?_
 refine sr ?_
 refine w_mv (ev (.int .i64 0) rfl rfl) ?_
 refine w_val (y_bin (ev (.int .i64 0) rfl rfl) (evc (.int .i64 0)) b_neq) ?_
 refine nt ?_
 refine c_ff (ev (.bool false) rfl rfl) ?_
 refine wp_skip ?_
 refine then_n ?_
 refine wp_seq ?_
 refine sr ?_
 refine w_mv (ev (.string (str text)) rfl rfl) ?_
 refine w_val (y_len (ev (.string (str text)) rfl rfl) Try.underlying9) ?_
 refine w_val (y_bin (ev (.int .i64 ((text.length : Nat) : Int)) rfl rfl) (evc (.int .i64 70000)) b_gtr) ?_
 refine nt ?_
 have hc2 : ¬ (70000 < ((text.length : Nat) : Int)) := by omega
 refine c_f (p := 70000 < ((text.length : Nat) : Int)) (ev (.bool (decide (70000 < ((text.length : Nat) : Int)))) rfl rfl) hc2 ?_
 refine wp_skip ?_
 refine then_n ?_
 refine sr ?_
 refine w_mv (ev (.string (str text)) rfl rfl) ?_
 refine w_call (Try.func19) (by kernel_rfl) rfl (m2 (ev (.string (str text)) rfl rfl) (evc (.int .i64 16))) (pad_y text 16 (by omega) (by omega) (by omega) w1) ?_
 rintro _ w3 ⟨rfl, hb4⟩
 refine ⟨_, rfl, ?_⟩
 replace hk := thenB hk hb4
 replace hc := hc.below hb4
 refine w_mv (ev (.tuple #[.string (str (Cb.pad text 16)), .int .i64 0]) rfl rfl) ?_
 refine w_val (y_ext (v := .string (str (Cb.pad text 16))) (ev (.tuple #[.string (str (Cb.pad text 16)), .int .i64 0]) rfl rfl) rfl) ?_
 refine w_val (y_ext (v := .int .i64 0) (ev (.tuple #[.string (str (Cb.pad text 16)), .int .i64 0]) rfl rfl) rfl) ?_
 refine w_as (ev (.string (str (Cb.pad text 16))) rfl rfl) ?_
 refine w_as (ev (.int .i64 0) rfl rfl) ?_
 refine nt ?_
 refine sr ?_
 refine w_mv (ev (pt p 0) rfl rfl) ?_
 refine w_mv (ev (.string (str vi)) rfl rfl) ?_
 refine w_mv (ev (.string (str (Cb.pad text 16))) rfl rfl) ?_
 refine w_call (Try.func54) (by kernel_rfl) rfl (m3 (ev (pt p 0) rfl rfl) (ev (.string (str vi)) rfl rfl) (ev (.string (str (Cb.pad text 16))) rfl rfl)) (chain_l p key vi hok hiv (Cb.pad text 16) (by rw [Cb.pad_len]; exact Cb.pn_mod text.length 16 (by omega)) (by rw [Cb.pad_len]; have := Cb.pn_le text.length 16; omega) w3 hc) ?_
 rintro _ w5 ⟨rfl, hb6⟩
 refine ⟨_, rfl, ?_⟩
 replace hk := thenB hk hb6
 replace hc := hc.below hb6
 refine w_as (ev (.string (str (Cb.chain key vi (Cb.pad text 16)))) rfl rfl) ?_
 refine w_as (evc (.int .i64 0)) ?_
 refine nt ?_
 refine wp_ret ?_
 refine fin_ret2 rfl (ev (.string (str (Cb.chain key vi (Cb.pad text 16)))) rfl rfl) (ev (.int .i64 0) rfl rfl) ?_
 exact ⟨rfl, hk⟩

set_option maxRecDepth 100000 in
set_option maxHeartbeats 1000000 in
theorem refSeal_k (key vi : List (BitVec 8)) (hok : ¬ Aes.okKey key.length) (text : List (BitVec 8)) (w0 : World) : Calls Try.prog 29 #[.string (str key), .string (str vi), .string (str text)] w0 fun e w' => e = .returned (.tuple #[.string (str ([] : List (BitVec 8))), .int .i64 3]) ∧ Below w0.heap.size w0 w' := by
 refine enter (n := 31) Try.func29 rfl rfl rfl ?_
 have hk : Below w0.heap.size w0 w0 := Below.refl _ _
 refine sr ?_
 refine w_as (evc (.string (str ([] : List (BitVec 8))))) ?_
 refine w_as (evc (.int .i64 0)) ?_
 refine nt ?_
 refine wp_seq ?_
 refine sr ?_
 refine w_mv (ev (.string (str key)) rfl rfl) ?_
 refine w_mv (ev (.string (str vi)) rfl rfl) ?_
 refine w_call (Try.func55) (by kernel_rfl) rfl (m2 (ev (.string (str key)) rfl rfl) (ev (.string (str vi)) rfl rfl)) (refWrong_k key vi hok w0) ?_
 rintro _ w1 ⟨rfl, hb2⟩
 refine ⟨_, rfl, ?_⟩
 replace hk := thenB hk hb2
 refine w_as (ev (.int .i64 3) rfl rfl) ?_
 refine nt ?_
 refine sr ?_
 refine w_mv (ev (.int .i64 3) rfl rfl) ?_
 refine w_val (y_bin (ev (.int .i64 3) rfl rfl) (evc (.int .i64 0)) b_neq) ?_
 refine nt ?_
 refine c_tt (ev (.bool true) rfl rfl) ?_
 refine sr ?_
 refine w_mv (ev (.int .i64 3) rfl rfl) ?_
 refine w_as (evc (.string (str ([] : List (BitVec 8))))) ?_
 refine w_as (ev (.int .i64 3) rfl rfl) ?_
 refine nt ?_
 refine wp_ret ?_
 refine then_r ?_
 refine fin_ret2 rfl (ev (.string (str ([] : List (BitVec 8)))) rfl rfl) (ev (.int .i64 3) rfl rfl) ?_
 exact ⟨rfl, hk⟩

set_option maxRecDepth 100000 in
set_option maxHeartbeats 1000000 in
theorem refOpen_k (key vi : List (BitVec 8)) (hok : ¬ Aes.okKey key.length) (text : List (BitVec 8)) (w0 : World) : Calls Try.prog 31 #[.string (str key), .string (str vi), .string (str text)] w0 fun e w' => e = .returned (.tuple #[.string (str ([] : List (BitVec 8))), .int .i64 3]) ∧ Below w0.heap.size w0 w' := by
 refine enter (n := 34) Try.func31 rfl rfl rfl ?_
 have hk : Below w0.heap.size w0 w0 := Below.refl _ _
 refine sr ?_
 refine w_as (evc (.string (str ([] : List (BitVec 8))))) ?_
 refine w_as (evc (.int .i64 0)) ?_
 refine nt ?_
 refine wp_seq ?_
 refine sr ?_
 refine w_mv (ev (.string (str key)) rfl rfl) ?_
 refine w_mv (ev (.string (str vi)) rfl rfl) ?_
 refine w_call (Try.func55) (by kernel_rfl) rfl (m2 (ev (.string (str key)) rfl rfl) (ev (.string (str vi)) rfl rfl)) (refWrong_k key vi hok w0) ?_
 rintro _ w1 ⟨rfl, hb2⟩
 refine ⟨_, rfl, ?_⟩
 replace hk := thenB hk hb2
 refine w_as (ev (.int .i64 3) rfl rfl) ?_
 refine nt ?_
 refine sr ?_
 refine w_mv (ev (.int .i64 3) rfl rfl) ?_
 refine w_val (y_bin (ev (.int .i64 3) rfl rfl) (evc (.int .i64 0)) b_neq) ?_
 refine nt ?_
 refine c_tt (ev (.bool true) rfl rfl) ?_
 refine sr ?_
 refine w_mv (ev (.int .i64 3) rfl rfl) ?_
 refine w_as (evc (.string (str ([] : List (BitVec 8))))) ?_
 refine w_as (ev (.int .i64 3) rfl rfl) ?_
 refine nt ?_
 refine wp_ret ?_
 refine then_r ?_
 refine fin_ret2 rfl (ev (.string (str ([] : List (BitVec 8)))) rfl rfl) (ev (.int .i64 3) rfl rfl) ?_
 exact ⟨rfl, hk⟩

set_option maxRecDepth 100000 in
set_option maxHeartbeats 1000000 in
theorem refSeal_i (key vi : List (BitVec 8)) (hok : Aes.okKey key.length) (hiv : vi.length ≠ 16) (text : List (BitVec 8)) (w0 : World) : Calls Try.prog 29 #[.string (str key), .string (str vi), .string (str text)] w0 fun e w' => e = .returned (.tuple #[.string (str ([] : List (BitVec 8))), .int .i64 4]) ∧ Below w0.heap.size w0 w' := by
 refine enter (n := 31) Try.func29 rfl rfl rfl ?_
 have hk : Below w0.heap.size w0 w0 := Below.refl _ _
 refine sr ?_
 refine w_as (evc (.string (str ([] : List (BitVec 8))))) ?_
 refine w_as (evc (.int .i64 0)) ?_
 refine nt ?_
 refine wp_seq ?_
 refine sr ?_
 refine w_mv (ev (.string (str key)) rfl rfl) ?_
 refine w_mv (ev (.string (str vi)) rfl rfl) ?_
 refine w_call (Try.func55) (by kernel_rfl) rfl (m2 (ev (.string (str key)) rfl rfl) (ev (.string (str vi)) rfl rfl)) (refWrong_i key vi hok hiv w0) ?_
 rintro _ w1 ⟨rfl, hb2⟩
 refine ⟨_, rfl, ?_⟩
 replace hk := thenB hk hb2
 refine w_as (ev (.int .i64 4) rfl rfl) ?_
 refine nt ?_
 refine sr ?_
 refine w_mv (ev (.int .i64 4) rfl rfl) ?_
 refine w_val (y_bin (ev (.int .i64 4) rfl rfl) (evc (.int .i64 0)) b_neq) ?_
 refine nt ?_
 refine c_tt (ev (.bool true) rfl rfl) ?_
 refine sr ?_
 refine w_mv (ev (.int .i64 4) rfl rfl) ?_
 refine w_as (evc (.string (str ([] : List (BitVec 8))))) ?_
 refine w_as (ev (.int .i64 4) rfl rfl) ?_
 refine nt ?_
 refine wp_ret ?_
 refine then_r ?_
 refine fin_ret2 rfl (ev (.string (str ([] : List (BitVec 8)))) rfl rfl) (ev (.int .i64 4) rfl rfl) ?_
 exact ⟨rfl, hk⟩

set_option maxRecDepth 100000 in
set_option maxHeartbeats 1000000 in
theorem refOpen_i (key vi : List (BitVec 8)) (hok : Aes.okKey key.length) (hiv : vi.length ≠ 16) (text : List (BitVec 8)) (w0 : World) : Calls Try.prog 31 #[.string (str key), .string (str vi), .string (str text)] w0 fun e w' => e = .returned (.tuple #[.string (str ([] : List (BitVec 8))), .int .i64 4]) ∧ Below w0.heap.size w0 w' := by
 refine enter (n := 34) Try.func31 rfl rfl rfl ?_
 have hk : Below w0.heap.size w0 w0 := Below.refl _ _
 refine sr ?_
 refine w_as (evc (.string (str ([] : List (BitVec 8))))) ?_
 refine w_as (evc (.int .i64 0)) ?_
 refine nt ?_
 refine wp_seq ?_
 refine sr ?_
 refine w_mv (ev (.string (str key)) rfl rfl) ?_
 refine w_mv (ev (.string (str vi)) rfl rfl) ?_
 refine w_call (Try.func55) (by kernel_rfl) rfl (m2 (ev (.string (str key)) rfl rfl) (ev (.string (str vi)) rfl rfl)) (refWrong_i key vi hok hiv w0) ?_
 rintro _ w1 ⟨rfl, hb2⟩
 refine ⟨_, rfl, ?_⟩
 replace hk := thenB hk hb2
 refine w_as (ev (.int .i64 4) rfl rfl) ?_
 refine nt ?_
 refine sr ?_
 refine w_mv (ev (.int .i64 4) rfl rfl) ?_
 refine w_val (y_bin (ev (.int .i64 4) rfl rfl) (evc (.int .i64 0)) b_neq) ?_
 refine nt ?_
 refine c_tt (ev (.bool true) rfl rfl) ?_
 refine sr ?_
 refine w_mv (ev (.int .i64 4) rfl rfl) ?_
 refine w_as (evc (.string (str ([] : List (BitVec 8))))) ?_
 refine w_as (ev (.int .i64 4) rfl rfl) ?_
 refine nt ?_
 refine wp_ret ?_
 refine then_r ?_
 refine fin_ret2 rfl (ev (.string (str ([] : List (BitVec 8)))) rfl rfl) (ev (.int .i64 4) rfl rfl) ?_
 exact ⟨rfl, hk⟩

set_option maxRecDepth 100000 in
set_option maxHeartbeats 1000000 in
theorem refSeal_z (key vi : List (BitVec 8)) (hok : Aes.okKey key.length) (hiv : vi.length = 16) (text : List (BitVec 8)) (hz : 70000 < text.length) (w0 : World) : Calls Try.prog 29 #[.string (str key), .string (str vi), .string (str text)] w0 fun e w' => e = .returned (.tuple #[.string (str ([] : List (BitVec 8))), .int .i64 6]) ∧ Below w0.heap.size w0 w' := by
 refine enter (n := 31) Try.func29 rfl rfl rfl ?_
 have hk : Below w0.heap.size w0 w0 := Below.refl _ _
 refine sr ?_
 refine w_as (evc (.string (str ([] : List (BitVec 8))))) ?_
 refine w_as (evc (.int .i64 0)) ?_
 refine nt ?_
 refine wp_seq ?_
 refine sr ?_
 refine w_mv (ev (.string (str key)) rfl rfl) ?_
 refine w_mv (ev (.string (str vi)) rfl rfl) ?_
 refine w_call (Try.func55) (by kernel_rfl) rfl (m2 (ev (.string (str key)) rfl rfl) (ev (.string (str vi)) rfl rfl)) (refWrong_y key vi hok hiv w0) ?_
 rintro _ w1 ⟨rfl, hb2⟩
 refine ⟨_, rfl, ?_⟩
 replace hk := thenB hk hb2
 refine w_as (ev (.int .i64 0) rfl rfl) ?_
 refine nt ?_
 refine sr ?_
 refine w_mv (ev (.int .i64 0) rfl rfl) ?_
 refine w_val (y_bin (ev (.int .i64 0) rfl rfl) (evc (.int .i64 0)) b_neq) ?_
 refine nt ?_
 refine c_ff (ev (.bool false) rfl rfl) ?_
 refine wp_skip ?_
 refine then_n ?_
 refine wp_seq ?_
 refine sr ?_
 refine w_mv (ev (.string (str text)) rfl rfl) ?_
 refine w_val (y_len (ev (.string (str text)) rfl rfl) Try.underlying9) ?_
 refine w_val (y_bin (ev (.int .i64 ((text.length : Nat) : Int)) rfl rfl) (evc (.int .i64 70000)) b_gtr) ?_
 refine nt ?_
 have hc3 : 70000 < ((text.length : Nat) : Int) := by omega
 refine c_t (p := 70000 < ((text.length : Nat) : Int)) (ev (.bool (decide (70000 < ((text.length : Nat) : Int)))) rfl rfl) hc3 ?_
 refine sr ?_
 refine w_as (evc (.string (str ([] : List (BitVec 8))))) ?_
 refine w_as (evc (.int .i64 6)) ?_
 refine nt ?_
 refine wp_ret ?_
 refine then_r ?_
 refine fin_ret2 rfl (ev (.string (str ([] : List (BitVec 8)))) rfl rfl) (ev (.int .i64 6) rfl rfl) ?_
 exact ⟨rfl, hk⟩

set_option maxRecDepth 100000 in
set_option maxHeartbeats 1000000 in
theorem refSeal_y (key vi : List (BitVec 8)) (hok : Aes.okKey key.length) (hiv : vi.length = 16) (text : List (BitVec 8)) (hz : text.length ≤ 70000) (w0 : World) : Calls Try.prog 29 #[.string (str key), .string (str vi), .string (str text)] w0 fun e w' => e = .returned (.tuple #[.string (str (Cb.chain key vi (Cb.pad text 16))), .int .i64 0]) ∧ Below w0.heap.size w0 w' := by
 refine enter (n := 31) Try.func29 rfl rfl rfl ?_
 have hk : Below w0.heap.size w0 w0 := Below.refl _ _
 refine sr ?_
 refine w_as (evc (.string (str ([] : List (BitVec 8))))) ?_
 refine w_as (evc (.int .i64 0)) ?_
 refine nt ?_
 refine wp_seq ?_
 refine sr ?_
 refine w_mv (ev (.string (str key)) rfl rfl) ?_
 refine w_mv (ev (.string (str vi)) rfl rfl) ?_
 refine w_call (Try.func55) (by kernel_rfl) rfl (m2 (ev (.string (str key)) rfl rfl) (ev (.string (str vi)) rfl rfl)) (refWrong_y key vi hok hiv w0) ?_
 rintro _ w1 ⟨rfl, hb2⟩
 refine ⟨_, rfl, ?_⟩
 replace hk := thenB hk hb2
 refine w_as (ev (.int .i64 0) rfl rfl) ?_
 refine nt ?_
 refine sr ?_
 refine w_mv (ev (.int .i64 0) rfl rfl) ?_
 refine w_val (y_bin (ev (.int .i64 0) rfl rfl) (evc (.int .i64 0)) b_neq) ?_
 refine nt ?_
 refine c_ff (ev (.bool false) rfl rfl) ?_
 refine wp_skip ?_
 refine then_n ?_
 refine wp_seq ?_
 refine sr ?_
 refine w_mv (ev (.string (str text)) rfl rfl) ?_
 refine w_val (y_len (ev (.string (str text)) rfl rfl) Try.underlying9) ?_
 refine w_val (y_bin (ev (.int .i64 ((text.length : Nat) : Int)) rfl rfl) (evc (.int .i64 70000)) b_gtr) ?_
 refine nt ?_
 have hc3 : ¬ (70000 < ((text.length : Nat) : Int)) := by omega
 refine c_f (p := 70000 < ((text.length : Nat) : Int)) (ev (.bool (decide (70000 < ((text.length : Nat) : Int)))) rfl rfl) hc3 ?_
 refine wp_skip ?_
 refine then_n ?_
 refine sr ?_
 refine w_mv (ev (.string (str text)) rfl rfl) ?_
 refine w_call (Try.func20) (by kernel_rfl) rfl (m2 (ev (.string (str text)) rfl rfl) (evc (.int .i64 16))) (refPad_y text 16 (by omega) (by omega) (by omega) w1) ?_
 rintro _ w4 ⟨rfl, hb5⟩
 refine ⟨_, rfl, ?_⟩
 replace hk := thenB hk hb5
 refine w_mv (ev (.tuple #[.string (str (Cb.pad text 16)), .int .i64 0]) rfl rfl) ?_
 refine w_val (y_ext (v := .string (str (Cb.pad text 16))) (ev (.tuple #[.string (str (Cb.pad text 16)), .int .i64 0]) rfl rfl) rfl) ?_
 refine w_val (y_ext (v := .int .i64 0) (ev (.tuple #[.string (str (Cb.pad text 16)), .int .i64 0]) rfl rfl) rfl) ?_
 refine w_as (ev (.string (str (Cb.pad text 16))) rfl rfl) ?_
 refine w_as (ev (.int .i64 0) rfl rfl) ?_
 refine nt ?_
 refine sr ?_
 refine w_mv (ev (.string (str key)) rfl rfl) ?_
 refine w_mv (ev (.string (str vi)) rfl rfl) ?_
 refine w_mv (ev (.string (str (Cb.pad text 16))) rfl rfl) ?_
 refine w_call (Try.func25) (by kernel_rfl) rfl (m3 (ev (.string (str key)) rfl rfl) (ev (.string (str vi)) rfl rfl) (ev (.string (str (Cb.pad text 16))) rfl rfl)) (refChain_y key vi hok hiv (Cb.pad text 16) (by rw [Cb.pad_len]; exact Cb.pn_mod text.length 16 (by omega)) (by rw [Cb.pad_len]; have := Cb.pn_le text.length 16; omega) (by rw [Cb.pad_len]; have := Cb.pn_mod text.length 16 (by omega); have := Cb.pn_pos text.length 16 (by omega); omega) w4) ?_
 rintro _ w6 ⟨rfl, hb7⟩
 refine ⟨_, rfl, ?_⟩
 replace hk := thenB hk hb7
 refine w_val (y_ext (v := .string (str (Cb.chain key vi (Cb.pad text 16)))) (ev (.tuple #[.string (str (Cb.chain key vi (Cb.pad text 16))), .int .i64 0]) rfl rfl) rfl) ?_
 refine w_val (y_ext (v := .int .i64 0) (ev (.tuple #[.string (str (Cb.chain key vi (Cb.pad text 16))), .int .i64 0]) rfl rfl) rfl) ?_
 refine w_as (ev (.string (str (Cb.chain key vi (Cb.pad text 16)))) rfl rfl) ?_
 refine w_as (ev (.int .i64 0) rfl rfl) ?_
 refine nt ?_
 refine wp_ret ?_
 refine fin_ret2 rfl (ev (.string (str (Cb.chain key vi (Cb.pad text 16)))) rfl rfl) (ev (.int .i64 0) rfl rfl) ?_
 exact ⟨rfl, hk⟩

set_option maxRecDepth 100000 in
set_option maxHeartbeats 1000000 in
theorem open_s (key vi : List (BitVec 8)) (hok : Aes.okKey key.length) (hiv : vi.length = 16) (text : List (BitVec 8)) (hs : ¬ (0 < text.length ∧ text.length % 16 = 0 ∧ text.length ≤ 70016)) (w0 : World) : Calls Try.prog 30 #[.string (str key), .string (str vi), .string (str text)] w0 fun e w' => e = .returned (.tuple #[.string (str ([] : List (BitVec 8))), .int .i64 6]) ∧ Below w0.heap.size w0 w' := by
 refine enter (n := 39) Try.func30 rfl rfl rfl ?_
 have hk : Below w0.heap.size w0 w0 := Below.refl _ _
 refine sr ?_
 refine w_as (evc (.string (str ([] : List (BitVec 8))))) ?_
 refine w_as (evc (.int .i64 0)) ?_
 refine nt ?_
 refine sr ?_
 refine w_mv (ev (.string (str key)) rfl rfl) ?_
 refine w_mv (ev (.string (str vi)) rfl rfl) ?_
 refine w_call (Try.func53) (by kernel_rfl) rfl (m2 (ev (.string (str key)) rfl rfl) (ev (.string (str vi)) rfl rfl)) (ready_y key vi hok hiv w0) ?_
 rintro _ w1 ⟨p, rfl, hge_p, hc, hb_p⟩
 refine ⟨_, rfl, ?_⟩
 have ge_p : w0.heap.size ≤ p := by have := hk.size; omega
 replace hk := thenB hk hb_p
 refine w_mv (ev (.tuple #[pt p 0, .int .i64 0]) rfl rfl) ?_
 refine w_val (y_ext (v := pt p 0) (ev (.tuple #[pt p 0, .int .i64 0]) rfl rfl) rfl) ?_
 refine w_val (y_ext (v := .int .i64 0) (ev (.tuple #[pt p 0, .int .i64 0]) rfl rfl) rfl) ?_
 refine w_as (ev (pt p 0) rfl rfl) ?_
 refine w_as (ev (.int .i64 0) rfl rfl) ?_
 refine nt ?_
 refine wp_seq ?_
 refine sr ?_
 refine w_mv (ev (.int .i64 0) rfl rfl) ?_
 refine w_val (y_bin (ev (.int .i64 0) rfl rfl) (evc (.int .i64 0)) b_neq) ?_
 refine nt ?_
 refine c_ff (ev (.bool false) rfl rfl) ?_
 refine wp_skip ?_
 refine then_n ?_
 refine wp_seq ?_
 refine sr ?_
 refine w_mv (ev (.string (str text)) rfl rfl) ?_
 refine w_val (y_bin (ev (.string (str text)) rfl rfl) (evc (.string (str ([] : List (BitVec 8))))) b_eqs) ?_
 refine w_mv (ev (.bool (decide (text = ([] : List (BitVec 8))))) rfl rfl) ?_
 by_cases hc2 : text = ([] : List (BitVec 8))
 ·skip
  first | with_reducible refine w_skip ?_ ?_ | refine w_skip ?_ ?_
  · exact want_no (j := 2) rfl rfl (ev (.bool true) (Eq.trans (b := .bool (decide (text = ([] : List (BitVec 8))))) rfl (by rw [decide_eq_true hc2])) rfl) rfl
  first | with_reducible refine w_skip ?_ ?_ | refine w_skip ?_ ?_
  · exact want_no (j := 2) rfl rfl (ev (.bool true) (Eq.trans (b := .bool (decide (text = ([] : List (BitVec 8))))) rfl (by rw [decide_eq_true hc2])) rfl) rfl
  first | with_reducible refine w_skip ?_ ?_ | refine w_skip ?_ ?_
  · exact want_no (j := 2) rfl rfl (ev (.bool true) (Eq.trans (b := .bool (decide (text = ([] : List (BitVec 8))))) rfl (by rw [decide_eq_true hc2])) rfl) rfl
  first | with_reducible refine w_skip ?_ ?_ | refine w_skip ?_ ?_
  · exact want_no (j := 2) rfl rfl (ev (.bool true) (Eq.trans (b := .bool (decide (text = ([] : List (BitVec 8))))) rfl (by rw [decide_eq_true hc2])) rfl) rfl
  refine w_val (y_pick_t (ev (.bool true) (Eq.trans (b := .bool (decide (text = ([] : List (BitVec 8))))) rfl (by rw [decide_eq_true hc2])) rfl) (evc (.bool true))) ?_
  refine w_mv (ev (.bool true) rfl rfl) ?_
  first | with_reducible refine w_skip ?_ ?_ | refine w_skip ?_ ?_
  · exact want_no (j := 8) rfl rfl (ev (.bool true) rfl rfl) rfl
  first | with_reducible refine w_skip ?_ ?_ | refine w_skip ?_ ?_
  · exact want_no (j := 8) rfl rfl (ev (.bool true) rfl rfl) rfl
  first | with_reducible refine w_skip ?_ ?_ | refine w_skip ?_ ?_
  · exact want_no (j := 8) rfl rfl (ev (.bool true) rfl rfl) rfl
  refine w_val (y_pick_t (ev (.bool true) rfl rfl) (evc (.bool true))) ?_
  refine nt ?_
  refine c_tt (ev (.bool true) rfl rfl) ?_
  refine sr ?_
  refine w_as (evc (.string (str ([] : List (BitVec 8))))) ?_
  refine w_as (evc (.int .i64 6)) ?_
  refine nt ?_
  refine wp_ret ?_
  refine then_r ?_
  refine fin_ret2 rfl (ev (.string (str ([] : List (BitVec 8)))) rfl rfl) (ev (.int .i64 6) rfl rfl) ?_
  exact ⟨rfl, hk⟩
 ·skip
  refine w_val_g (v := .string (str text)) (want_yes (j := 2) rfl rfl (ev (.bool false) (Eq.trans (b := .bool (decide (text = ([] : List (BitVec 8))))) rfl (by rw [decide_eq_false hc2])) rfl) rfl) (y_mv (ev (.string (str text)) rfl rfl)) ?_
  refine w_val_g (want_yes (j := 2) rfl rfl (ev (.bool false) (Eq.trans (b := .bool (decide (text = ([] : List (BitVec 8))))) rfl (by rw [decide_eq_false hc2])) rfl) rfl) (y_len (ev (.string (str text)) rfl rfl) Try.underlying9) ?_
  refine w_val_g (want_yes (j := 2) rfl rfl (ev (.bool false) (Eq.trans (b := .bool (decide (text = ([] : List (BitVec 8))))) rfl (by rw [decide_eq_false hc2])) rfl) rfl) (y_bin (ev (.int .i64 ((text.length : Nat) : Int)) rfl rfl) (evc (.int .i64 16)) (b_rem (by omega))) ?_
  refine w_val_g (want_yes (j := 2) rfl rfl (ev (.bool false) (Eq.trans (b := .bool (decide (text = ([] : List (BitVec 8))))) rfl (by rw [decide_eq_false hc2])) rfl) rfl) (y_bin (ev (.int .i64 (((text.length : Nat) : Int) % 16)) rfl rfl) (evc (.int .i64 0)) b_neq) ?_
  refine w_val (y_pick_f (ev (.bool false) (Eq.trans (b := .bool (decide (text = ([] : List (BitVec 8))))) rfl (by rw [decide_eq_false hc2])) rfl) (ev (.bool (decide ((((text.length : Nat) : Int) % 16) ≠ 0))) rfl rfl)) ?_
  refine w_mv (ev (.bool (decide ((((text.length : Nat) : Int) % 16) ≠ 0))) rfl rfl) ?_
  by_cases hc3 : (((text.length : Nat) : Int) % 16) ≠ 0
  ·skip
   first | with_reducible refine w_skip ?_ ?_ | refine w_skip ?_ ?_
   · exact want_no (j := 8) rfl rfl (ev (.bool true) (Eq.trans (b := .bool (decide ((((text.length : Nat) : Int) % 16) ≠ 0))) rfl (by rw [decide_eq_true hc3])) rfl) rfl
   first | with_reducible refine w_skip ?_ ?_ | refine w_skip ?_ ?_
   · exact want_no (j := 8) rfl rfl (ev (.bool true) (Eq.trans (b := .bool (decide ((((text.length : Nat) : Int) % 16) ≠ 0))) rfl (by rw [decide_eq_true hc3])) rfl) rfl
   first | with_reducible refine w_skip ?_ ?_ | refine w_skip ?_ ?_
   · exact want_no (j := 8) rfl rfl (ev (.bool true) (Eq.trans (b := .bool (decide ((((text.length : Nat) : Int) % 16) ≠ 0))) rfl (by rw [decide_eq_true hc3])) rfl) rfl
   refine w_val (y_pick_t (ev (.bool true) (Eq.trans (b := .bool (decide ((((text.length : Nat) : Int) % 16) ≠ 0))) rfl (by rw [decide_eq_true hc3])) rfl) (evc (.bool true))) ?_
   refine nt ?_
   refine c_tt (ev (.bool true) rfl rfl) ?_
   refine sr ?_
   refine w_as (evc (.string (str ([] : List (BitVec 8))))) ?_
   refine w_as (evc (.int .i64 6)) ?_
   refine nt ?_
   refine wp_ret ?_
   refine then_r ?_
   refine fin_ret2 rfl (ev (.string (str ([] : List (BitVec 8)))) rfl rfl) (ev (.int .i64 6) rfl rfl) ?_
   exact ⟨rfl, hk⟩
  ·skip
   refine w_val_g (v := .string (str text)) (want_yes (j := 8) rfl rfl (ev (.bool false) (Eq.trans (b := .bool (decide ((((text.length : Nat) : Int) % 16) ≠ 0))) rfl (by rw [decide_eq_false hc3])) rfl) rfl) (y_mv (ev (.string (str text)) rfl rfl)) ?_
   refine w_val_g (want_yes (j := 8) rfl rfl (ev (.bool false) (Eq.trans (b := .bool (decide ((((text.length : Nat) : Int) % 16) ≠ 0))) rfl (by rw [decide_eq_false hc3])) rfl) rfl) (y_len (ev (.string (str text)) rfl rfl) Try.underlying9) ?_
   refine w_val_g (want_yes (j := 8) rfl rfl (ev (.bool false) (Eq.trans (b := .bool (decide ((((text.length : Nat) : Int) % 16) ≠ 0))) rfl (by rw [decide_eq_false hc3])) rfl) rfl) (y_bin (ev (.int .i64 ((text.length : Nat) : Int)) rfl rfl) (evc (.int .i64 70016)) b_gtr) ?_
   refine w_val (y_pick_f (ev (.bool false) (Eq.trans (b := .bool (decide ((((text.length : Nat) : Int) % 16) ≠ 0))) rfl (by rw [decide_eq_false hc3])) rfl) (ev (.bool (decide (70016 < ((text.length : Nat) : Int)))) rfl rfl)) ?_
   refine nt ?_
   refine c_if (p := 70016 < ((text.length : Nat) : Int)) (ev (.bool (decide (70016 < ((text.length : Nat) : Int)))) rfl rfl) (fun hc4 => ?_) (fun hc4 => ?_)
   ·skip
    refine sr ?_
    refine w_as (evc (.string (str ([] : List (BitVec 8))))) ?_
    refine w_as (evc (.int .i64 6)) ?_
    refine nt ?_
    refine wp_ret ?_
    refine then_r ?_
    refine fin_ret2 rfl (ev (.string (str ([] : List (BitVec 8)))) rfl rfl) (ev (.int .i64 6) rfl rfl) ?_
    exact ⟨rfl, hk⟩
   ·skip
    refine wp_skip ?_
    refine then_n ?_
    refine wp_seq ?_
    exfalso; have hpo := List.length_pos_iff.2 (show text ≠ [] by assumption); omega

set_option maxRecDepth 100000 in
set_option maxHeartbeats 1000000 in
theorem open_p (key vi : List (BitVec 8)) (hok : Aes.okKey key.length) (hiv : vi.length = 16) (text : List (BitVec 8)) (ht : text.length % 16 = 0) (hl : text.length ≤ 70016) (h0 : 0 < text.length) (hp : Cb.Padded (Cb.unchain key vi text) 16) (w0 : World) : Calls Try.prog 30 #[.string (str key), .string (str vi), .string (str text)] w0 fun e w' => e = .returned (.tuple #[.string (str ((Cb.unchain key vi text).take ((Cb.unchain key vi text).length - Cb.last (Cb.unchain key vi text)))), .int .i64 0]) ∧ Below w0.heap.size w0 w' := by
 refine enter (n := 39) Try.func30 rfl rfl rfl ?_
 have hk : Below w0.heap.size w0 w0 := Below.refl _ _
 refine sr ?_
 refine w_as (evc (.string (str ([] : List (BitVec 8))))) ?_
 refine w_as (evc (.int .i64 0)) ?_
 refine nt ?_
 refine sr ?_
 refine w_mv (ev (.string (str key)) rfl rfl) ?_
 refine w_mv (ev (.string (str vi)) rfl rfl) ?_
 refine w_call (Try.func53) (by kernel_rfl) rfl (m2 (ev (.string (str key)) rfl rfl) (ev (.string (str vi)) rfl rfl)) (ready_y key vi hok hiv w0) ?_
 rintro _ w1 ⟨p, rfl, hge_p, hc, hb_p⟩
 refine ⟨_, rfl, ?_⟩
 have ge_p : w0.heap.size ≤ p := by have := hk.size; omega
 replace hk := thenB hk hb_p
 refine w_mv (ev (.tuple #[pt p 0, .int .i64 0]) rfl rfl) ?_
 refine w_val (y_ext (v := pt p 0) (ev (.tuple #[pt p 0, .int .i64 0]) rfl rfl) rfl) ?_
 refine w_val (y_ext (v := .int .i64 0) (ev (.tuple #[pt p 0, .int .i64 0]) rfl rfl) rfl) ?_
 refine w_as (ev (pt p 0) rfl rfl) ?_
 refine w_as (ev (.int .i64 0) rfl rfl) ?_
 refine nt ?_
 refine wp_seq ?_
 refine sr ?_
 refine w_mv (ev (.int .i64 0) rfl rfl) ?_
 refine w_val (y_bin (ev (.int .i64 0) rfl rfl) (evc (.int .i64 0)) b_neq) ?_
 refine nt ?_
 refine c_ff (ev (.bool false) rfl rfl) ?_
 refine wp_skip ?_
 refine then_n ?_
 refine wp_seq ?_
 refine sr ?_
 refine w_mv (ev (.string (str text)) rfl rfl) ?_
 refine w_val (y_bin (ev (.string (str text)) rfl rfl) (evc (.string (str ([] : List (BitVec 8))))) b_eqs) ?_
 refine w_mv (ev (.bool (decide (text = ([] : List (BitVec 8))))) rfl rfl) ?_
 have hc2 : ¬ (text = ([] : List (BitVec 8))) := by exact fun e => by rw [e] at h0; exact absurd h0 (by decide)
 refine w_val_g (v := .string (str text)) (want_yes (j := 2) rfl rfl (ev (.bool false) (Eq.trans (b := .bool (decide (text = ([] : List (BitVec 8))))) rfl (by rw [decide_eq_false hc2])) rfl) rfl) (y_mv (ev (.string (str text)) rfl rfl)) ?_
 refine w_val_g (want_yes (j := 2) rfl rfl (ev (.bool false) (Eq.trans (b := .bool (decide (text = ([] : List (BitVec 8))))) rfl (by rw [decide_eq_false hc2])) rfl) rfl) (y_len (ev (.string (str text)) rfl rfl) Try.underlying9) ?_
 refine w_val_g (want_yes (j := 2) rfl rfl (ev (.bool false) (Eq.trans (b := .bool (decide (text = ([] : List (BitVec 8))))) rfl (by rw [decide_eq_false hc2])) rfl) rfl) (y_bin (ev (.int .i64 ((text.length : Nat) : Int)) rfl rfl) (evc (.int .i64 16)) (b_rem (by omega))) ?_
 refine w_val_g (want_yes (j := 2) rfl rfl (ev (.bool false) (Eq.trans (b := .bool (decide (text = ([] : List (BitVec 8))))) rfl (by rw [decide_eq_false hc2])) rfl) rfl) (y_bin (ev (.int .i64 (((text.length : Nat) : Int) % 16)) rfl rfl) (evc (.int .i64 0)) b_neq) ?_
 refine w_val (y_pick_f (ev (.bool false) (Eq.trans (b := .bool (decide (text = ([] : List (BitVec 8))))) rfl (by rw [decide_eq_false hc2])) rfl) (ev (.bool (decide ((((text.length : Nat) : Int) % 16) ≠ 0))) rfl rfl)) ?_
 refine w_mv (ev (.bool (decide ((((text.length : Nat) : Int) % 16) ≠ 0))) rfl rfl) ?_
 have hc3 : ¬ ((((text.length : Nat) : Int) % 16) ≠ 0) := by omega
 refine w_val_g (v := .string (str text)) (want_yes (j := 8) rfl rfl (ev (.bool false) (Eq.trans (b := .bool (decide ((((text.length : Nat) : Int) % 16) ≠ 0))) rfl (by rw [decide_eq_false hc3])) rfl) rfl) (y_mv (ev (.string (str text)) rfl rfl)) ?_
 refine w_val_g (want_yes (j := 8) rfl rfl (ev (.bool false) (Eq.trans (b := .bool (decide ((((text.length : Nat) : Int) % 16) ≠ 0))) rfl (by rw [decide_eq_false hc3])) rfl) rfl) (y_len (ev (.string (str text)) rfl rfl) Try.underlying9) ?_
 refine w_val_g (want_yes (j := 8) rfl rfl (ev (.bool false) (Eq.trans (b := .bool (decide ((((text.length : Nat) : Int) % 16) ≠ 0))) rfl (by rw [decide_eq_false hc3])) rfl) rfl) (y_bin (ev (.int .i64 ((text.length : Nat) : Int)) rfl rfl) (evc (.int .i64 70016)) b_gtr) ?_
 refine w_val (y_pick_f (ev (.bool false) (Eq.trans (b := .bool (decide ((((text.length : Nat) : Int) % 16) ≠ 0))) rfl (by rw [decide_eq_false hc3])) rfl) (ev (.bool (decide (70016 < ((text.length : Nat) : Int)))) rfl rfl)) ?_
 refine nt ?_
 have hc4 : ¬ (70016 < ((text.length : Nat) : Int)) := by omega
 refine c_f (p := 70016 < ((text.length : Nat) : Int)) (ev (.bool (decide (70016 < ((text.length : Nat) : Int)))) rfl rfl) hc4 ?_
 refine wp_skip ?_
 refine then_n ?_
 refine sr ?_
 refine w_mv (ev (pt p 0) rfl rfl) ?_
 refine w_mv (ev (.string (str vi)) rfl rfl) ?_
 refine w_mv (ev (.string (str text)) rfl rfl) ?_
 have hw_ := hc
 refine w_call (Try.func60) (by kernel_rfl) rfl (m3 (ev (pt p 0) rfl rfl) (ev (.string (str vi)) rfl rfl) (ev (.string (str text)) rfl rfl)) (unchain_l p key vi hok hiv text ht hl w1 hw_) ?_
 rintro _ w5 ⟨rfl, hgd, hc⟩
 refine ⟨_, rfl, ?_⟩
 replace hk := thenG hk hgd (by omega)
 refine w_call (Try.func21) (by kernel_rfl) rfl (m2 (ev (.string (str (Cb.unchain key vi text))) rfl rfl) (evc (.int .i64 16))) (unpad_y (Cb.unchain key vi text) 16 (by omega) (by omega) (by rw [Cb.unchain_len]; omega) (by rw [Cb.unchain_len]; omega) (by rw [Cb.unchain_len]; omega) hp w5) ?_
 rintro _ w6 ⟨rfl, hb7⟩
 refine ⟨_, rfl, ?_⟩
 replace hk := thenB hk hb7
 replace hc := hc.below hb7
 refine w_val (y_ext (v := .string (str ((Cb.unchain key vi text).take ((Cb.unchain key vi text).length - Cb.last (Cb.unchain key vi text))))) (ev (.tuple #[.string (str ((Cb.unchain key vi text).take ((Cb.unchain key vi text).length - Cb.last (Cb.unchain key vi text)))), .int .i64 0]) rfl rfl) rfl) ?_
 refine w_val (y_ext (v := .int .i64 0) (ev (.tuple #[.string (str ((Cb.unchain key vi text).take ((Cb.unchain key vi text).length - Cb.last (Cb.unchain key vi text)))), .int .i64 0]) rfl rfl) rfl) ?_
 refine w_as (ev (.string (str ((Cb.unchain key vi text).take ((Cb.unchain key vi text).length - Cb.last (Cb.unchain key vi text))))) rfl rfl) ?_
 refine w_as (ev (.int .i64 0) rfl rfl) ?_
 refine nt ?_
 refine wp_ret ?_
 refine fin_ret2 rfl (ev (.string (str ((Cb.unchain key vi text).take ((Cb.unchain key vi text).length - Cb.last (Cb.unchain key vi text))))) rfl rfl) (ev (.int .i64 0) rfl rfl) ?_
 exact ⟨rfl, hk⟩

set_option maxRecDepth 100000 in
set_option maxHeartbeats 1000000 in
theorem refOpen_p (key vi : List (BitVec 8)) (hok : Aes.okKey key.length) (hiv : vi.length = 16) (text : List (BitVec 8)) (ht : text.length % 16 = 0) (hl : text.length ≤ 70016) (h0 : 0 < text.length) (hp : Cb.Padded (Cb.unchain key vi text) 16) (w0 : World) : Calls Try.prog 31 #[.string (str key), .string (str vi), .string (str text)] w0 fun e w' => e = .returned (.tuple #[.string (str ((Cb.unchain key vi text).take ((Cb.unchain key vi text).length - Cb.last (Cb.unchain key vi text)))), .int .i64 0]) ∧ Below w0.heap.size w0 w' := by
 refine enter (n := 34) Try.func31 rfl rfl rfl ?_
 have hk : Below w0.heap.size w0 w0 := Below.refl _ _
 refine sr ?_
 refine w_as (evc (.string (str ([] : List (BitVec 8))))) ?_
 refine w_as (evc (.int .i64 0)) ?_
 refine nt ?_
 refine wp_seq ?_
 refine sr ?_
 refine w_mv (ev (.string (str key)) rfl rfl) ?_
 refine w_mv (ev (.string (str vi)) rfl rfl) ?_
 refine w_call (Try.func55) (by kernel_rfl) rfl (m2 (ev (.string (str key)) rfl rfl) (ev (.string (str vi)) rfl rfl)) (refWrong_y key vi hok hiv w0) ?_
 rintro _ w1 ⟨rfl, hb2⟩
 refine ⟨_, rfl, ?_⟩
 replace hk := thenB hk hb2
 refine w_as (ev (.int .i64 0) rfl rfl) ?_
 refine nt ?_
 refine sr ?_
 refine w_mv (ev (.int .i64 0) rfl rfl) ?_
 refine w_val (y_bin (ev (.int .i64 0) rfl rfl) (evc (.int .i64 0)) b_neq) ?_
 refine nt ?_
 refine c_ff (ev (.bool false) rfl rfl) ?_
 refine wp_skip ?_
 refine then_n ?_
 refine wp_seq ?_
 refine sr ?_
 refine w_mv (ev (.string (str text)) rfl rfl) ?_
 refine w_val (y_len (ev (.string (str text)) rfl rfl) Try.underlying9) ?_
 refine w_val (y_bin (ev (.int .i64 ((text.length : Nat) : Int)) rfl rfl) (evc (.int .i64 0)) b_eql) ?_
 refine nt ?_
 have hc3 : ¬ (((text.length : Nat) : Int) = 0) := by omega
 refine c_f (p := ((text.length : Nat) : Int) = 0) (ev (.bool (decide (((text.length : Nat) : Int) = 0))) rfl rfl) hc3 ?_
 refine wp_skip ?_
 refine then_n ?_
 refine sr ?_
 refine w_mv (ev (.string (str key)) rfl rfl) ?_
 refine w_mv (ev (.string (str vi)) rfl rfl) ?_
 refine w_mv (ev (.string (str text)) rfl rfl) ?_
 refine w_call (Try.func27) (by kernel_rfl) rfl (m3 (ev (.string (str key)) rfl rfl) (ev (.string (str vi)) rfl rfl) (ev (.string (str text)) rfl rfl)) (refUnchain_y key vi hok hiv text ht hl w1) ?_
 rintro _ w4 ⟨rfl, hb5⟩
 refine ⟨_, rfl, ?_⟩
 replace hk := thenB hk hb5
 refine w_mv (ev (.tuple #[.string (str (Cb.unchain key vi text)), .int .i64 0]) rfl rfl) ?_
 refine w_val (y_ext (v := .string (str (Cb.unchain key vi text))) (ev (.tuple #[.string (str (Cb.unchain key vi text)), .int .i64 0]) rfl rfl) rfl) ?_
 refine w_val (y_ext (v := .int .i64 0) (ev (.tuple #[.string (str (Cb.unchain key vi text)), .int .i64 0]) rfl rfl) rfl) ?_
 refine w_as (ev (.string (str (Cb.unchain key vi text))) rfl rfl) ?_
 refine w_as (ev (.int .i64 0) rfl rfl) ?_
 refine nt ?_
 refine wp_seq ?_
 refine sr ?_
 refine w_mv (ev (.int .i64 0) rfl rfl) ?_
 refine w_val (y_bin (ev (.int .i64 0) rfl rfl) (evc (.int .i64 0)) b_neq) ?_
 refine nt ?_
 refine c_ff (ev (.bool false) rfl rfl) ?_
 refine wp_skip ?_
 refine then_n ?_
 refine sr ?_
 refine w_mv (ev (.string (str (Cb.unchain key vi text))) rfl rfl) ?_
 refine w_call (Try.func22) (by kernel_rfl) rfl (m2 (ev (.string (str (Cb.unchain key vi text))) rfl rfl) (evc (.int .i64 16))) (refUnpad_y (Cb.unchain key vi text) 16 (by omega) (by omega) (by rw [Cb.unchain_len]; omega) (by rw [Cb.unchain_len]; omega) (by rw [Cb.unchain_len]; omega) hp w4) ?_
 rintro _ w6 ⟨rfl, hb7⟩
 refine ⟨_, rfl, ?_⟩
 replace hk := thenB hk hb7
 refine w_val (y_ext (v := .string (str ((Cb.unchain key vi text).take ((Cb.unchain key vi text).length - Cb.last (Cb.unchain key vi text))))) (ev (.tuple #[.string (str ((Cb.unchain key vi text).take ((Cb.unchain key vi text).length - Cb.last (Cb.unchain key vi text)))), .int .i64 0]) rfl rfl) rfl) ?_
 refine w_val (y_ext (v := .int .i64 0) (ev (.tuple #[.string (str ((Cb.unchain key vi text).take ((Cb.unchain key vi text).length - Cb.last (Cb.unchain key vi text)))), .int .i64 0]) rfl rfl) rfl) ?_
 refine w_as (ev (.string (str ((Cb.unchain key vi text).take ((Cb.unchain key vi text).length - Cb.last (Cb.unchain key vi text))))) rfl rfl) ?_
 refine w_as (ev (.int .i64 0) rfl rfl) ?_
 refine nt ?_
 refine wp_ret ?_
 refine fin_ret2 rfl (ev (.string (str ((Cb.unchain key vi text).take ((Cb.unchain key vi text).length - Cb.last (Cb.unchain key vi text))))) rfl rfl) (ev (.int .i64 0) rfl rfl) ?_
 exact ⟨rfl, hk⟩

set_option maxRecDepth 100000 in
set_option maxHeartbeats 1000000 in
theorem open_n (key vi : List (BitVec 8)) (hok : Aes.okKey key.length) (hiv : vi.length = 16) (text : List (BitVec 8)) (ht : text.length % 16 = 0) (hl : text.length ≤ 70016) (h0 : 0 < text.length) (hp : ¬ Cb.Padded (Cb.unchain key vi text) 16) (w0 : World) : Calls Try.prog 30 #[.string (str key), .string (str vi), .string (str text)] w0 fun e w' => e = .returned (.tuple #[.string (str ([] : List (BitVec 8))), .int .i64 7]) ∧ Below w0.heap.size w0 w' := by
 refine enter (n := 39) Try.func30 rfl rfl rfl ?_
 have hk : Below w0.heap.size w0 w0 := Below.refl _ _
 refine sr ?_
 refine w_as (evc (.string (str ([] : List (BitVec 8))))) ?_
 refine w_as (evc (.int .i64 0)) ?_
 refine nt ?_
 refine sr ?_
 refine w_mv (ev (.string (str key)) rfl rfl) ?_
 refine w_mv (ev (.string (str vi)) rfl rfl) ?_
 refine w_call (Try.func53) (by kernel_rfl) rfl (m2 (ev (.string (str key)) rfl rfl) (ev (.string (str vi)) rfl rfl)) (ready_y key vi hok hiv w0) ?_
 rintro _ w1 ⟨p, rfl, hge_p, hc, hb_p⟩
 refine ⟨_, rfl, ?_⟩
 have ge_p : w0.heap.size ≤ p := by have := hk.size; omega
 replace hk := thenB hk hb_p
 refine w_mv (ev (.tuple #[pt p 0, .int .i64 0]) rfl rfl) ?_
 refine w_val (y_ext (v := pt p 0) (ev (.tuple #[pt p 0, .int .i64 0]) rfl rfl) rfl) ?_
 refine w_val (y_ext (v := .int .i64 0) (ev (.tuple #[pt p 0, .int .i64 0]) rfl rfl) rfl) ?_
 refine w_as (ev (pt p 0) rfl rfl) ?_
 refine w_as (ev (.int .i64 0) rfl rfl) ?_
 refine nt ?_
 refine wp_seq ?_
 refine sr ?_
 refine w_mv (ev (.int .i64 0) rfl rfl) ?_
 refine w_val (y_bin (ev (.int .i64 0) rfl rfl) (evc (.int .i64 0)) b_neq) ?_
 refine nt ?_
 refine c_ff (ev (.bool false) rfl rfl) ?_
 refine wp_skip ?_
 refine then_n ?_
 refine wp_seq ?_
 refine sr ?_
 refine w_mv (ev (.string (str text)) rfl rfl) ?_
 refine w_val (y_bin (ev (.string (str text)) rfl rfl) (evc (.string (str ([] : List (BitVec 8))))) b_eqs) ?_
 refine w_mv (ev (.bool (decide (text = ([] : List (BitVec 8))))) rfl rfl) ?_
 have hc2 : ¬ (text = ([] : List (BitVec 8))) := by exact fun e => by rw [e] at h0; exact absurd h0 (by decide)
 refine w_val_g (v := .string (str text)) (want_yes (j := 2) rfl rfl (ev (.bool false) (Eq.trans (b := .bool (decide (text = ([] : List (BitVec 8))))) rfl (by rw [decide_eq_false hc2])) rfl) rfl) (y_mv (ev (.string (str text)) rfl rfl)) ?_
 refine w_val_g (want_yes (j := 2) rfl rfl (ev (.bool false) (Eq.trans (b := .bool (decide (text = ([] : List (BitVec 8))))) rfl (by rw [decide_eq_false hc2])) rfl) rfl) (y_len (ev (.string (str text)) rfl rfl) Try.underlying9) ?_
 refine w_val_g (want_yes (j := 2) rfl rfl (ev (.bool false) (Eq.trans (b := .bool (decide (text = ([] : List (BitVec 8))))) rfl (by rw [decide_eq_false hc2])) rfl) rfl) (y_bin (ev (.int .i64 ((text.length : Nat) : Int)) rfl rfl) (evc (.int .i64 16)) (b_rem (by omega))) ?_
 refine w_val_g (want_yes (j := 2) rfl rfl (ev (.bool false) (Eq.trans (b := .bool (decide (text = ([] : List (BitVec 8))))) rfl (by rw [decide_eq_false hc2])) rfl) rfl) (y_bin (ev (.int .i64 (((text.length : Nat) : Int) % 16)) rfl rfl) (evc (.int .i64 0)) b_neq) ?_
 refine w_val (y_pick_f (ev (.bool false) (Eq.trans (b := .bool (decide (text = ([] : List (BitVec 8))))) rfl (by rw [decide_eq_false hc2])) rfl) (ev (.bool (decide ((((text.length : Nat) : Int) % 16) ≠ 0))) rfl rfl)) ?_
 refine w_mv (ev (.bool (decide ((((text.length : Nat) : Int) % 16) ≠ 0))) rfl rfl) ?_
 have hc3 : ¬ ((((text.length : Nat) : Int) % 16) ≠ 0) := by omega
 refine w_val_g (v := .string (str text)) (want_yes (j := 8) rfl rfl (ev (.bool false) (Eq.trans (b := .bool (decide ((((text.length : Nat) : Int) % 16) ≠ 0))) rfl (by rw [decide_eq_false hc3])) rfl) rfl) (y_mv (ev (.string (str text)) rfl rfl)) ?_
 refine w_val_g (want_yes (j := 8) rfl rfl (ev (.bool false) (Eq.trans (b := .bool (decide ((((text.length : Nat) : Int) % 16) ≠ 0))) rfl (by rw [decide_eq_false hc3])) rfl) rfl) (y_len (ev (.string (str text)) rfl rfl) Try.underlying9) ?_
 refine w_val_g (want_yes (j := 8) rfl rfl (ev (.bool false) (Eq.trans (b := .bool (decide ((((text.length : Nat) : Int) % 16) ≠ 0))) rfl (by rw [decide_eq_false hc3])) rfl) rfl) (y_bin (ev (.int .i64 ((text.length : Nat) : Int)) rfl rfl) (evc (.int .i64 70016)) b_gtr) ?_
 refine w_val (y_pick_f (ev (.bool false) (Eq.trans (b := .bool (decide ((((text.length : Nat) : Int) % 16) ≠ 0))) rfl (by rw [decide_eq_false hc3])) rfl) (ev (.bool (decide (70016 < ((text.length : Nat) : Int)))) rfl rfl)) ?_
 refine nt ?_
 have hc4 : ¬ (70016 < ((text.length : Nat) : Int)) := by omega
 refine c_f (p := 70016 < ((text.length : Nat) : Int)) (ev (.bool (decide (70016 < ((text.length : Nat) : Int)))) rfl rfl) hc4 ?_
 refine wp_skip ?_
 refine then_n ?_
 refine sr ?_
 refine w_mv (ev (pt p 0) rfl rfl) ?_
 refine w_mv (ev (.string (str vi)) rfl rfl) ?_
 refine w_mv (ev (.string (str text)) rfl rfl) ?_
 have hw_ := hc
 refine w_call (Try.func60) (by kernel_rfl) rfl (m3 (ev (pt p 0) rfl rfl) (ev (.string (str vi)) rfl rfl) (ev (.string (str text)) rfl rfl)) (unchain_l p key vi hok hiv text ht hl w1 hw_) ?_
 rintro _ w5 ⟨rfl, hgd, hc⟩
 refine ⟨_, rfl, ?_⟩
 replace hk := thenG hk hgd (by omega)
 refine w_call (Try.func21) (by kernel_rfl) rfl (m2 (ev (.string (str (Cb.unchain key vi text))) rfl rfl) (evc (.int .i64 16))) (unpad_n (Cb.unchain key vi text) 16 (by omega) (by omega) (by rw [Cb.unchain_len]; omega) (by rw [Cb.unchain_len]; omega) (by rw [Cb.unchain_len]; omega) hp w5) ?_
 rintro _ w6 ⟨rfl, hb7⟩
 refine ⟨_, rfl, ?_⟩
 replace hk := thenB hk hb7
 replace hc := hc.below hb7
 refine w_val (y_ext (v := .string (str ([] : List (BitVec 8)))) (ev (.tuple #[.string (str ([] : List (BitVec 8))), .int .i64 7]) rfl rfl) rfl) ?_
 refine w_val (y_ext (v := .int .i64 7) (ev (.tuple #[.string (str ([] : List (BitVec 8))), .int .i64 7]) rfl rfl) rfl) ?_
 refine w_as (ev (.string (str ([] : List (BitVec 8)))) rfl rfl) ?_
 refine w_as (ev (.int .i64 7) rfl rfl) ?_
 refine nt ?_
 refine wp_ret ?_
 refine fin_ret2 rfl (ev (.string (str ([] : List (BitVec 8)))) rfl rfl) (ev (.int .i64 7) rfl rfl) ?_
 exact ⟨rfl, hk⟩

set_option maxRecDepth 100000 in
set_option maxHeartbeats 1000000 in
theorem refOpen_n (key vi : List (BitVec 8)) (hok : Aes.okKey key.length) (hiv : vi.length = 16) (text : List (BitVec 8)) (ht : text.length % 16 = 0) (hl : text.length ≤ 70016) (h0 : 0 < text.length) (hp : ¬ Cb.Padded (Cb.unchain key vi text) 16) (w0 : World) : Calls Try.prog 31 #[.string (str key), .string (str vi), .string (str text)] w0 fun e w' => e = .returned (.tuple #[.string (str ([] : List (BitVec 8))), .int .i64 7]) ∧ Below w0.heap.size w0 w' := by
 refine enter (n := 34) Try.func31 rfl rfl rfl ?_
 have hk : Below w0.heap.size w0 w0 := Below.refl _ _
 refine sr ?_
 refine w_as (evc (.string (str ([] : List (BitVec 8))))) ?_
 refine w_as (evc (.int .i64 0)) ?_
 refine nt ?_
 refine wp_seq ?_
 refine sr ?_
 refine w_mv (ev (.string (str key)) rfl rfl) ?_
 refine w_mv (ev (.string (str vi)) rfl rfl) ?_
 refine w_call (Try.func55) (by kernel_rfl) rfl (m2 (ev (.string (str key)) rfl rfl) (ev (.string (str vi)) rfl rfl)) (refWrong_y key vi hok hiv w0) ?_
 rintro _ w1 ⟨rfl, hb2⟩
 refine ⟨_, rfl, ?_⟩
 replace hk := thenB hk hb2
 refine w_as (ev (.int .i64 0) rfl rfl) ?_
 refine nt ?_
 refine sr ?_
 refine w_mv (ev (.int .i64 0) rfl rfl) ?_
 refine w_val (y_bin (ev (.int .i64 0) rfl rfl) (evc (.int .i64 0)) b_neq) ?_
 refine nt ?_
 refine c_ff (ev (.bool false) rfl rfl) ?_
 refine wp_skip ?_
 refine then_n ?_
 refine wp_seq ?_
 refine sr ?_
 refine w_mv (ev (.string (str text)) rfl rfl) ?_
 refine w_val (y_len (ev (.string (str text)) rfl rfl) Try.underlying9) ?_
 refine w_val (y_bin (ev (.int .i64 ((text.length : Nat) : Int)) rfl rfl) (evc (.int .i64 0)) b_eql) ?_
 refine nt ?_
 have hc3 : ¬ (((text.length : Nat) : Int) = 0) := by omega
 refine c_f (p := ((text.length : Nat) : Int) = 0) (ev (.bool (decide (((text.length : Nat) : Int) = 0))) rfl rfl) hc3 ?_
 refine wp_skip ?_
 refine then_n ?_
 refine sr ?_
 refine w_mv (ev (.string (str key)) rfl rfl) ?_
 refine w_mv (ev (.string (str vi)) rfl rfl) ?_
 refine w_mv (ev (.string (str text)) rfl rfl) ?_
 refine w_call (Try.func27) (by kernel_rfl) rfl (m3 (ev (.string (str key)) rfl rfl) (ev (.string (str vi)) rfl rfl) (ev (.string (str text)) rfl rfl)) (refUnchain_y key vi hok hiv text ht hl w1) ?_
 rintro _ w4 ⟨rfl, hb5⟩
 refine ⟨_, rfl, ?_⟩
 replace hk := thenB hk hb5
 refine w_mv (ev (.tuple #[.string (str (Cb.unchain key vi text)), .int .i64 0]) rfl rfl) ?_
 refine w_val (y_ext (v := .string (str (Cb.unchain key vi text))) (ev (.tuple #[.string (str (Cb.unchain key vi text)), .int .i64 0]) rfl rfl) rfl) ?_
 refine w_val (y_ext (v := .int .i64 0) (ev (.tuple #[.string (str (Cb.unchain key vi text)), .int .i64 0]) rfl rfl) rfl) ?_
 refine w_as (ev (.string (str (Cb.unchain key vi text))) rfl rfl) ?_
 refine w_as (ev (.int .i64 0) rfl rfl) ?_
 refine nt ?_
 refine wp_seq ?_
 refine sr ?_
 refine w_mv (ev (.int .i64 0) rfl rfl) ?_
 refine w_val (y_bin (ev (.int .i64 0) rfl rfl) (evc (.int .i64 0)) b_neq) ?_
 refine nt ?_
 refine c_ff (ev (.bool false) rfl rfl) ?_
 refine wp_skip ?_
 refine then_n ?_
 refine sr ?_
 refine w_mv (ev (.string (str (Cb.unchain key vi text))) rfl rfl) ?_
 refine w_call (Try.func22) (by kernel_rfl) rfl (m2 (ev (.string (str (Cb.unchain key vi text))) rfl rfl) (evc (.int .i64 16))) (refUnpad_n (Cb.unchain key vi text) 16 (by omega) (by omega) (by rw [Cb.unchain_len]; omega) (by rw [Cb.unchain_len]; omega) (by rw [Cb.unchain_len]; omega) hp w4) ?_
 rintro _ w6 ⟨rfl, hb7⟩
 refine ⟨_, rfl, ?_⟩
 replace hk := thenB hk hb7
 refine w_val (y_ext (v := .string (str ([] : List (BitVec 8)))) (ev (.tuple #[.string (str ([] : List (BitVec 8))), .int .i64 7]) rfl rfl) rfl) ?_
 refine w_val (y_ext (v := .int .i64 7) (ev (.tuple #[.string (str ([] : List (BitVec 8))), .int .i64 7]) rfl rfl) rfl) ?_
 refine w_as (ev (.string (str ([] : List (BitVec 8)))) rfl rfl) ?_
 refine w_as (ev (.int .i64 7) rfl rfl) ?_
 refine nt ?_
 refine wp_ret ?_
 refine fin_ret2 rfl (ev (.string (str ([] : List (BitVec 8)))) rfl rfl) (ev (.int .i64 7) rfl rfl) ?_
 exact ⟨rfl, hk⟩

set_option maxRecDepth 100000 in
set_option maxHeartbeats 1000000 in
theorem refOpen_0 (key vi : List (BitVec 8)) (hok : Aes.okKey key.length) (hiv : vi.length = 16) (text : List (BitVec 8)) (h0 : text.length = 0) (w0 : World) : Calls Try.prog 31 #[.string (str key), .string (str vi), .string (str text)] w0 fun e w' => e = .returned (.tuple #[.string (str ([] : List (BitVec 8))), .int .i64 6]) ∧ Below w0.heap.size w0 w' := by
 refine enter (n := 34) Try.func31 rfl rfl rfl ?_
 have hk : Below w0.heap.size w0 w0 := Below.refl _ _
 refine sr ?_
 refine w_as (evc (.string (str ([] : List (BitVec 8))))) ?_
 refine w_as (evc (.int .i64 0)) ?_
 refine nt ?_
 refine wp_seq ?_
 refine sr ?_
 refine w_mv (ev (.string (str key)) rfl rfl) ?_
 refine w_mv (ev (.string (str vi)) rfl rfl) ?_
 refine w_call (Try.func55) (by kernel_rfl) rfl (m2 (ev (.string (str key)) rfl rfl) (ev (.string (str vi)) rfl rfl)) (refWrong_y key vi hok hiv w0) ?_
 rintro _ w1 ⟨rfl, hb2⟩
 refine ⟨_, rfl, ?_⟩
 replace hk := thenB hk hb2
 refine w_as (ev (.int .i64 0) rfl rfl) ?_
 refine nt ?_
 refine sr ?_
 refine w_mv (ev (.int .i64 0) rfl rfl) ?_
 refine w_val (y_bin (ev (.int .i64 0) rfl rfl) (evc (.int .i64 0)) b_neq) ?_
 refine nt ?_
 refine c_ff (ev (.bool false) rfl rfl) ?_
 refine wp_skip ?_
 refine then_n ?_
 refine wp_seq ?_
 refine sr ?_
 refine w_mv (ev (.string (str text)) rfl rfl) ?_
 refine w_val (y_len (ev (.string (str text)) rfl rfl) Try.underlying9) ?_
 refine w_val (y_bin (ev (.int .i64 ((text.length : Nat) : Int)) rfl rfl) (evc (.int .i64 0)) b_eql) ?_
 refine nt ?_
 have hc3 : ((text.length : Nat) : Int) = 0 := by omega
 refine c_t (p := ((text.length : Nat) : Int) = 0) (ev (.bool (decide (((text.length : Nat) : Int) = 0))) rfl rfl) hc3 ?_
 refine sr ?_
 refine w_as (evc (.string (str ([] : List (BitVec 8))))) ?_
 refine w_as (evc (.int .i64 6)) ?_
 refine nt ?_
 refine wp_ret ?_
 refine then_r ?_
 refine fin_ret2 rfl (ev (.string (str ([] : List (BitVec 8)))) rfl rfl) (ev (.int .i64 6) rfl rfl) ?_
 exact ⟨rfl, hk⟩

set_option maxRecDepth 100000 in
set_option maxHeartbeats 1000000 in
theorem refOpen_s (key vi : List (BitVec 8)) (hok : Aes.okKey key.length) (hiv : vi.length = 16) (text : List (BitVec 8)) (h0 : 0 < text.length) (hs : ¬ (text.length % 16 = 0 ∧ text.length ≤ 70016)) (w0 : World) : Calls Try.prog 31 #[.string (str key), .string (str vi), .string (str text)] w0 fun e w' => e = .returned (.tuple #[.string (str ([] : List (BitVec 8))), .int .i64 6]) ∧ Below w0.heap.size w0 w' := by
 refine enter (n := 34) Try.func31 rfl rfl rfl ?_
 have hk : Below w0.heap.size w0 w0 := Below.refl _ _
 refine sr ?_
 refine w_as (evc (.string (str ([] : List (BitVec 8))))) ?_
 refine w_as (evc (.int .i64 0)) ?_
 refine nt ?_
 refine wp_seq ?_
 refine sr ?_
 refine w_mv (ev (.string (str key)) rfl rfl) ?_
 refine w_mv (ev (.string (str vi)) rfl rfl) ?_
 refine w_call (Try.func55) (by kernel_rfl) rfl (m2 (ev (.string (str key)) rfl rfl) (ev (.string (str vi)) rfl rfl)) (refWrong_y key vi hok hiv w0) ?_
 rintro _ w1 ⟨rfl, hb2⟩
 refine ⟨_, rfl, ?_⟩
 replace hk := thenB hk hb2
 refine w_as (ev (.int .i64 0) rfl rfl) ?_
 refine nt ?_
 refine sr ?_
 refine w_mv (ev (.int .i64 0) rfl rfl) ?_
 refine w_val (y_bin (ev (.int .i64 0) rfl rfl) (evc (.int .i64 0)) b_neq) ?_
 refine nt ?_
 refine c_ff (ev (.bool false) rfl rfl) ?_
 refine wp_skip ?_
 refine then_n ?_
 refine wp_seq ?_
 refine sr ?_
 refine w_mv (ev (.string (str text)) rfl rfl) ?_
 refine w_val (y_len (ev (.string (str text)) rfl rfl) Try.underlying9) ?_
 refine w_val (y_bin (ev (.int .i64 ((text.length : Nat) : Int)) rfl rfl) (evc (.int .i64 0)) b_eql) ?_
 refine nt ?_
 have hc3 : ¬ (((text.length : Nat) : Int) = 0) := by omega
 refine c_f (p := ((text.length : Nat) : Int) = 0) (ev (.bool (decide (((text.length : Nat) : Int) = 0))) rfl rfl) hc3 ?_
 refine wp_skip ?_
 refine then_n ?_
 refine sr ?_
 refine w_mv (ev (.string (str key)) rfl rfl) ?_
 refine w_mv (ev (.string (str vi)) rfl rfl) ?_
 refine w_mv (ev (.string (str text)) rfl rfl) ?_
 refine w_call (Try.func27) (by kernel_rfl) rfl (m3 (ev (.string (str key)) rfl rfl) (ev (.string (str vi)) rfl rfl) (ev (.string (str text)) rfl rfl)) (refUnchain_s key vi hok hiv text hs w1) ?_
 rintro _ w4 ⟨rfl, hb5⟩
 refine ⟨_, rfl, ?_⟩
 replace hk := thenB hk hb5
 refine w_mv (ev (.tuple #[.string (str ([] : List (BitVec 8))), .int .i64 6]) rfl rfl) ?_
 refine w_val (y_ext (v := .string (str ([] : List (BitVec 8)))) (ev (.tuple #[.string (str ([] : List (BitVec 8))), .int .i64 6]) rfl rfl) rfl) ?_
 refine w_val (y_ext (v := .int .i64 6) (ev (.tuple #[.string (str ([] : List (BitVec 8))), .int .i64 6]) rfl rfl) rfl) ?_
 refine w_as (ev (.string (str ([] : List (BitVec 8)))) rfl rfl) ?_
 refine w_as (ev (.int .i64 6) rfl rfl) ?_
 refine nt ?_
 refine wp_seq ?_
 refine sr ?_
 refine w_mv (ev (.int .i64 6) rfl rfl) ?_
 refine w_val (y_bin (ev (.int .i64 6) rfl rfl) (evc (.int .i64 0)) b_neq) ?_
 refine nt ?_
 refine c_tt (ev (.bool true) rfl rfl) ?_
 refine sr ?_
 refine w_mv (ev (.int .i64 6) rfl rfl) ?_
 refine w_as (evc (.string (str ([] : List (BitVec 8))))) ?_
 refine w_as (ev (.int .i64 6) rfl rfl) ?_
 refine nt ?_
 refine wp_ret ?_
 refine then_r ?_
 refine fin_ret2 rfl (ev (.string (str ([] : List (BitVec 8)))) rfl rfl) (ev (.int .i64 6) rfl rfl) ?_
 exact ⟨rfl, hk⟩
end Go.Proofs.Ytjdcpejcnmpiaaa
