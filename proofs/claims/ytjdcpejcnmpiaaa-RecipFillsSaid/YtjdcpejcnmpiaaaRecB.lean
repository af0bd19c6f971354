/-
  Locking. Conditions as each says.
-/
import Derived.Test.YtjdcpejcnmpiaaaRows
import Derived.Test.YtjdcpejcnmpiaaaRecA
import Derived.ProofKit
namespace Go.Proofs.Ytjdcpejcnmpiaaa
open Go.RowKit
set_option linter.unusedSimpArgs false
set_option linter.unusedVariables false
namespace RecBT
theorem mixed : Try.prog.follows .mixedOrders = true := by kernel_rfl
theorem so3 : (Try.prog.underlying 3).isSome = true := by rw [Try.underlying3]; rfl
end RecBT
set_option maxRecDepth 100000 in
set_option maxHeartbeats 1000000 in
theorem lock_k (key vi : List (BitVec 8)) (hok : ¬ Aes.okKey key.length) (t f : List (BitVec 8)) (w0 : World) : Calls Try.prog 37 #[.string (str key), .string (str vi), .string (str t), .string (str f)] w0 fun e w' => e = .returned (.tuple #[.string (str ([] : List (BitVec 8))), .int .i64 3]) ∧ Below w0.heap.size w0 w' := by
 refine enter (n := 68) Try.func37 rfl rfl rfl ?_
 have hk : Below w0.heap.size w0 w0 := Below.refl _ _
 refine sr ?_
 refine w_as (evc (.string (str ([] : List (BitVec 8))))) ?_
 refine w_as (evc (.int .i64 0)) ?_
 refine nt ?_
 refine wp_seq ?_
 refine sr ?_
 refine w_mv (ev (.string (str key)) rfl rfl) ?_
 refine w_mv (ev (.string (str vi)) rfl rfl) ?_
 refine w_call (Try.func65) (by kernel_rfl) rfl (m2 (ev (.string (str key)) rfl rfl) (ev (.string (str vi)) rfl rfl)) (rcWrong_k key vi hok w0) ?_
 rintro _ w1 ⟨rfl, hb2⟩
 refine ⟨_, rfl, ?_⟩
 replace hk := thenB hk hb2
 refine w_as (ev (.int .i64 3) rfl rfl) ?_
 refine nt ?_
 refine sr ?_
 refine w_mv (ev (.int .i64 3) rfl rfl) ?_
 refine w_val (y_bin (ev (.int .i64 3) rfl rfl) (evc (.int .i64 0)) b_neq) ?_
 refine nt ?_
 refine c_tt (ev (.bool true) rfl rfl) ?_
 refine sr ?_
 refine w_mv (ev (.int .i64 3) rfl rfl) ?_
 refine w_as (evc (.string (str ([] : List (BitVec 8))))) ?_
 refine w_as (ev (.int .i64 3) rfl rfl) ?_
 refine nt ?_
 refine wp_ret ?_
 refine then_r ?_
 refine fin_ret2 rfl (ev (.string (str ([] : List (BitVec 8)))) rfl rfl) (ev (.int .i64 3) rfl rfl) ?_
 exact ⟨rfl, hk⟩

set_option maxRecDepth 100000 in
set_option maxHeartbeats 1000000 in
theorem lock_i (key vi : List (BitVec 8)) (hok : Aes.okKey key.length) (hiv : vi.length ≠ 16) (t f : List (BitVec 8)) (w0 : World) : Calls Try.prog 37 #[.string (str key), .string (str vi), .string (str t), .string (str f)] w0 fun e w' => e = .returned (.tuple #[.string (str ([] : List (BitVec 8))), .int .i64 4]) ∧ Below w0.heap.size w0 w' := by
 refine enter (n := 68) Try.func37 rfl rfl rfl ?_
 have hk : Below w0.heap.size w0 w0 := Below.refl _ _
 refine sr ?_
 refine w_as (evc (.string (str ([] : List (BitVec 8))))) ?_
 refine w_as (evc (.int .i64 0)) ?_
 refine nt ?_
 refine wp_seq ?_
 refine sr ?_
 refine w_mv (ev (.string (str key)) rfl rfl) ?_
 refine w_mv (ev (.string (str vi)) rfl rfl) ?_
 refine w_call (Try.func65) (by kernel_rfl) rfl (m2 (ev (.string (str key)) rfl rfl) (ev (.string (str vi)) rfl rfl)) (rcWrong_i key vi hok hiv w0) ?_
 rintro _ w1 ⟨rfl, hb2⟩
 refine ⟨_, rfl, ?_⟩
 replace hk := thenB hk hb2
 refine w_as (ev (.int .i64 4) rfl rfl) ?_
 refine nt ?_
 refine sr ?_
 refine w_mv (ev (.int .i64 4) rfl rfl) ?_
 refine w_val (y_bin (ev (.int .i64 4) rfl rfl) (evc (.int .i64 0)) b_neq) ?_
 refine nt ?_
 refine c_tt (ev (.bool true) rfl rfl) ?_
 refine sr ?_
 refine w_mv (ev (.int .i64 4) rfl rfl) ?_
 refine w_as (evc (.string (str ([] : List (BitVec 8))))) ?_
 refine w_as (ev (.int .i64 4) rfl rfl) ?_
 refine nt ?_
 refine wp_ret ?_
 refine then_r ?_
 refine fin_ret2 rfl (ev (.string (str ([] : List (BitVec 8)))) rfl rfl) (ev (.int .i64 4) rfl rfl) ?_
 exact ⟨rfl, hk⟩

set_option maxRecDepth 100000 in
set_option maxHeartbeats 1000000 in
theorem lock_s (key vi : List (BitVec 8)) (hok : Aes.okKey key.length) (hiv : vi.length = 16) (t f : List (BitVec 8)) (hs : ¬ (3 ≤ t.length ∧ t.length ≤ 255)) (w0 : World) : Calls Try.prog 37 #[.string (str key), .string (str vi), .string (str t), .string (str f)] w0 fun e w' => e = .returned (.tuple #[.string (str ([] : List (BitVec 8))), .int .i64 6]) ∧ Below w0.heap.size w0 w' := by
 refine enter (n := 68) Try.func37 rfl rfl rfl ?_
 have hk : Below w0.heap.size w0 w0 := Below.refl _ _
 refine sr ?_
 refine w_as (evc (.string (str ([] : List (BitVec 8))))) ?_
 refine w_as (evc (.int .i64 0)) ?_
 refine nt ?_
 refine wp_seq ?_
 refine sr ?_
 refine w_mv (ev (.string (str key)) rfl rfl) ?_
 refine w_mv (ev (.string (str vi)) rfl rfl) ?_
 refine w_call (Try.func65) (by kernel_rfl) rfl (m2 (ev (.string (str key)) rfl rfl) (ev (.string (str vi)) rfl rfl)) (rcWrong_y key vi hok hiv w0) ?_
 rintro _ w1 ⟨rfl, hb2⟩
 refine ⟨_, rfl, ?_⟩
 replace hk := thenB hk hb2
 refine w_as (ev (.int .i64 0) rfl rfl) ?_
 refine nt ?_
 refine sr ?_
 refine w_mv (ev (.int .i64 0) rfl rfl) ?_
 refine w_val (y_bin (ev (.int .i64 0) rfl rfl) (evc (.int .i64 0)) b_neq) ?_
 refine nt ?_
 refine c_ff (ev (.bool false) rfl rfl) ?_
 refine wp_skip ?_
 refine then_n ?_
 refine sr ?_
 refine w_mv (ev (.string (str t)) rfl rfl) ?_
 refine w_val (y_len (ev (.string (str t)) rfl rfl) Try.underlying9) ?_
 refine w_call (Try.func34) (by kernel_rfl) rfl (m1 (ev (.int .i64 ((t.length : Nat) : Int)) rfl rfl)) (fill_s ((t.length : Nat) : Int) (by omega) w1) ?_
 rintro _ w3 ⟨rfl, hb4⟩
 refine ⟨_, rfl, ?_⟩
 replace hk := thenB hk hb4
 refine w_mv (ev (.tuple #[.int .i64 0, .int .i64 6]) rfl rfl) ?_
 refine w_val (y_ext (v := .int .i64 0) (ev (.tuple #[.int .i64 0, .int .i64 6]) rfl rfl) rfl) ?_
 refine w_val (y_ext (v := .int .i64 6) (ev (.tuple #[.int .i64 0, .int .i64 6]) rfl rfl) rfl) ?_
 refine w_as (ev (.int .i64 0) rfl rfl) ?_
 refine w_as (ev (.int .i64 6) rfl rfl) ?_
 refine nt ?_
 refine wp_seq ?_
 refine sr ?_
 refine w_mv (ev (.int .i64 6) rfl rfl) ?_
 refine w_val (y_bin (ev (.int .i64 6) rfl rfl) (evc (.int .i64 0)) b_neq) ?_
 refine nt ?_
 refine c_tt (ev (.bool true) rfl rfl) ?_
 refine sr ?_
 refine w_mv (ev (.int .i64 6) rfl rfl) ?_
 refine w_as (evc (.string (str ([] : List (BitVec 8))))) ?_
 refine w_as (ev (.int .i64 6) rfl rfl) ?_
 refine nt ?_
 refine wp_ret ?_
 refine then_r ?_
 refine fin_ret2 rfl (ev (.string (str ([] : List (BitVec 8)))) rfl rfl) (ev (.int .i64 6) rfl rfl) ?_
 exact ⟨rfl, hk⟩

set_option maxRecDepth 100000 in
set_option maxHeartbeats 1000000 in
theorem lock_f (key vi : List (BitVec 8)) (hok : Aes.okKey key.length) (hiv : vi.length = 16) (t f : List (BitVec 8)) (h3 : 3 ≤ t.length) (h255 : t.length ≤ 255) (hf : f.length ≠ Rc.fl t.length) (w0 : World) : Calls Try.prog 37 #[.string (str key), .string (str vi), .string (str t), .string (str f)] w0 fun e w' => e = .returned (.tuple #[.string (str ([] : List (BitVec 8))), .int .i64 2]) ∧ Below w0.heap.size w0 w' := by
 refine enter (n := 68) Try.func37 rfl rfl rfl ?_
 have hk : Below w0.heap.size w0 w0 := Below.refl _ _
 refine sr ?_
 refine w_as (evc (.string (str ([] : List (BitVec 8))))) ?_
 refine w_as (evc (.int .i64 0)) ?_
 refine nt ?_
 refine wp_seq ?_
 refine sr ?_
 refine w_mv (ev (.string (str key)) rfl rfl) ?_
 refine w_mv (ev (.string (str vi)) rfl rfl) ?_
 refine w_call (Try.func65) (by kernel_rfl) rfl (m2 (ev (.string (str key)) rfl rfl) (ev (.string (str vi)) rfl rfl)) (rcWrong_y key vi hok hiv w0) ?_
 rintro _ w1 ⟨rfl, hb2⟩
 refine ⟨_, rfl, ?_⟩
 replace hk := thenB hk hb2
 refine w_as (ev (.int .i64 0) rfl rfl) ?_
 refine nt ?_
 refine sr ?_
 refine w_mv (ev (.int .i64 0) rfl rfl) ?_
 refine w_val (y_bin (ev (.int .i64 0) rfl rfl) (evc (.int .i64 0)) b_neq) ?_
 refine nt ?_
 refine c_ff (ev (.bool false) rfl rfl) ?_
 refine wp_skip ?_
 refine then_n ?_
 refine sr ?_
 refine w_mv (ev (.string (str t)) rfl rfl) ?_
 refine w_val (y_len (ev (.string (str t)) rfl rfl) Try.underlying9) ?_
 refine w_call (Try.func34) (by kernel_rfl) rfl (m1 (ev (.int .i64 ((t.length : Nat) : Int)) rfl rfl)) (fill_y t.length (by omega) (by omega) w1) ?_
 rintro _ w3 ⟨rfl, hb4⟩
 refine ⟨_, rfl, ?_⟩
 replace hk := thenB hk hb4
 refine w_mv (ev (.tuple #[.int .i64 (((Rc.fl t.length) : Nat) : Int), .int .i64 0]) rfl rfl) ?_
 refine w_val (y_ext (v := .int .i64 (((Rc.fl t.length) : Nat) : Int)) (ev (.tuple #[.int .i64 (((Rc.fl t.length) : Nat) : Int), .int .i64 0]) rfl rfl) rfl) ?_
 refine w_val (y_ext (v := .int .i64 0) (ev (.tuple #[.int .i64 (((Rc.fl t.length) : Nat) : Int), .int .i64 0]) rfl rfl) rfl) ?_
 refine w_as (ev (.int .i64 (((Rc.fl t.length) : Nat) : Int)) rfl rfl) ?_
 refine w_as (ev (.int .i64 0) rfl rfl) ?_
 refine nt ?_
 refine wp_seq ?_
 refine sr ?_
 refine w_mv (ev (.int .i64 0) rfl rfl) ?_
 refine w_val (y_bin (ev (.int .i64 0) rfl rfl) (evc (.int .i64 0)) b_neq) ?_
 refine nt ?_
 refine c_ff (ev (.bool false) rfl rfl) ?_
 refine wp_skip ?_
 refine then_n ?_
 refine wp_seq ?_
 refine sr ?_
 refine w_mv (ev (.string (str f)) rfl rfl) ?_
 refine w_val (y_len (ev (.string (str f)) rfl rfl) Try.underlying9) ?_
 refine w_mv (ev (.int .i64 (((Rc.fl t.length) : Nat) : Int)) rfl rfl) ?_
 refine w_val (y_bin (ev (.int .i64 ((f.length : Nat) : Int)) rfl rfl) (ev (.int .i64 (((Rc.fl t.length) : Nat) : Int)) rfl rfl) b_neq) ?_
 refine nt ?_
 have hc5 : ((f.length : Nat) : Int) ≠ (((Rc.fl t.length) : Nat) : Int) := by omega
 refine c_t (p := ((f.length : Nat) : Int) ≠ (((Rc.fl t.length) : Nat) : Int)) (ev (.bool (decide (((f.length : Nat) : Int) ≠ (((Rc.fl t.length) : Nat) : Int)))) rfl rfl) hc5 ?_
 refine sr ?_
 refine w_as (evc (.string (str ([] : List (BitVec 8))))) ?_
 refine w_as (evc (.int .i64 2)) ?_
 refine nt ?_
 refine wp_ret ?_
 refine then_r ?_
 refine fin_ret2 rfl (ev (.string (str ([] : List (BitVec 8)))) rfl rfl) (ev (.int .i64 2) rfl rfl) ?_
 exact ⟨rfl, hk⟩

theorem chain_y_pre (key vi : List (BitVec 8)) (hok : Aes.okKey key.length) (hiv : vi.length = 16) (t f : List (BitVec 8)) (h3 : 3 ≤ t.length) (h255 : t.length ≤ 255) (hf : f.length = Rc.fl t.length) (w0 : World) : Calls Try.prog 24 #[.string (str key), .string (str vi), .string (str ((([BitVec.ofNat 8 t.length, ~~~(gb t 0), ~~~(gb t 1), ~~~(gb t 2)] ++ t) ++ f)))] w0 fun e w' => e = .returned (.tuple #[.string (str (Cb.chain key vi (Rc.pre t f))), .int .i64 0]) ∧ Below w0.heap.size w0 w' := by
  obtain ⟨hp1, hp2, hp3⟩ := Rc.pre_mod t f h3 h255 hf
  exact chain_y key vi hok hiv (Rc.pre t f) hp1 (by omega) w0

set_option maxRecDepth 100000 in
set_option maxHeartbeats 1000000 in
theorem lock_y (key vi : List (BitVec 8)) (hok : Aes.okKey key.length) (hiv : vi.length = 16) (t f : List (BitVec 8)) (h3 : 3 ≤ t.length) (h255 : t.length ≤ 255) (hf : f.length = Rc.fl t.length) (w0 : World) : Calls Try.prog 37 #[.string (str key), .string (str vi), .string (str t), .string (str f)] w0 fun e w' => e = .returned (.tuple #[.string (str (Rc.lock key vi t f)), .int .i64 0]) ∧ Below w0.heap.size w0 w' := by
 obtain ⟨hp1, hp2, hp3⟩ := Rc.pre_mod t f h3 h255 hf
 have hpl := Rc.pre_len t f
 have hcl := Cb.chain_len key vi (Rc.pre t f)
 have hfl : Rc.fl t.length ≤ 28 := by unfold Rc.fl; split <;> omega
 refine enter (n := 68) Try.func37 rfl rfl rfl ?_
 have hk : Below w0.heap.size w0 w0 := Below.refl _ _
 refine sr ?_
 refine w_as (evc (.string (str ([] : List (BitVec 8))))) ?_
 refine w_as (evc (.int .i64 0)) ?_
 refine nt ?_
 refine wp_seq ?_
 refine sr ?_
 refine w_mv (ev (.string (str key)) rfl rfl) ?_
 refine w_mv (ev (.string (str vi)) rfl rfl) ?_
 refine w_call (Try.func65) (by kernel_rfl) rfl (m2 (ev (.string (str key)) rfl rfl) (ev (.string (str vi)) rfl rfl)) (rcWrong_y key vi hok hiv w0) ?_
 rintro _ w1 ⟨rfl, hb2⟩
 refine ⟨_, rfl, ?_⟩
 replace hk := thenB hk hb2
 refine w_as (ev (.int .i64 0) rfl rfl) ?_
 refine nt ?_
 refine sr ?_
 refine w_mv (ev (.int .i64 0) rfl rfl) ?_
 refine w_val (y_bin (ev (.int .i64 0) rfl rfl) (evc (.int .i64 0)) b_neq) ?_
 refine nt ?_
 refine c_ff (ev (.bool false) rfl rfl) ?_
 refine wp_skip ?_
 refine then_n ?_
 refine sr ?_
 refine w_mv (ev (.string (str t)) rfl rfl) ?_
 refine w_val (y_len (ev (.string (str t)) rfl rfl) Try.underlying9) ?_
 refine w_call (Try.func34) (by kernel_rfl) rfl (m1 (ev (.int .i64 ((t.length : Nat) : Int)) rfl rfl)) (fill_y t.length (by omega) (by omega) w1) ?_
 rintro _ w3 ⟨rfl, hb4⟩
 refine ⟨_, rfl, ?_⟩
 replace hk := thenB hk hb4
 refine w_mv (ev (.tuple #[.int .i64 (((Rc.fl t.length) : Nat) : Int), .int .i64 0]) rfl rfl) ?_
 refine w_val (y_ext (v := .int .i64 (((Rc.fl t.length) : Nat) : Int)) (ev (.tuple #[.int .i64 (((Rc.fl t.length) : Nat) : Int), .int .i64 0]) rfl rfl) rfl) ?_
 refine w_val (y_ext (v := .int .i64 0) (ev (.tuple #[.int .i64 (((Rc.fl t.length) : Nat) : Int), .int .i64 0]) rfl rfl) rfl) ?_
 refine w_as (ev (.int .i64 (((Rc.fl t.length) : Nat) : Int)) rfl rfl) ?_
 refine w_as (ev (.int .i64 0) rfl rfl) ?_
 refine nt ?_
 refine wp_seq ?_
 refine sr ?_
 refine w_mv (ev (.int .i64 0) rfl rfl) ?_
 refine w_val (y_bin (ev (.int .i64 0) rfl rfl) (evc (.int .i64 0)) b_neq) ?_
 refine nt ?_
 refine c_ff (ev (.bool false) rfl rfl) ?_
 refine wp_skip ?_
 refine then_n ?_
 refine wp_seq ?_
 refine sr ?_
 refine w_mv (ev (.string (str f)) rfl rfl) ?_
 refine w_val (y_len (ev (.string (str f)) rfl rfl) Try.underlying9) ?_
 refine w_mv (ev (.int .i64 (((Rc.fl t.length) : Nat) : Int)) rfl rfl) ?_
 refine w_val (y_bin (ev (.int .i64 ((f.length : Nat) : Int)) rfl rfl) (ev (.int .i64 (((Rc.fl t.length) : Nat) : Int)) rfl rfl) b_neq) ?_
 refine nt ?_
 have hc5 : ¬ (((f.length : Nat) : Int) ≠ (((Rc.fl t.length) : Nat) : Int)) := by omega
 refine c_f (p := ((f.length : Nat) : Int) ≠ (((Rc.fl t.length) : Nat) : Int)) (ev (.bool (decide (((f.length : Nat) : Int) ≠ (((Rc.fl t.length) : Nat) : Int)))) rfl rfl) hc5 ?_
 refine wp_skip ?_
 refine then_n ?_
 refine wp_seq ?_
 refine region_dc (Nat.testBit 0) 26 RecBT.mixed rfl ?_
 intro w6 hb7
 replace hk := thenB hk hb7
 have hS : Cls w6 w6 := Below.refl _ _
 refine d_pure (v := .string (str key)) 0 rfl (by kernel_rfl) (by kernel_rfl) (by kernel_rfl) (by kernel_rfl) (fun _ _ _ h => h) (fun w' => y_mv (ev (.string (str key)) rfl rfl)) ?_
 refine d_pure (v := .string (str vi)) 1 rfl (by kernel_rfl) (by kernel_rfl) (by kernel_rfl) (by kernel_rfl) (fun _ _ _ h => h) (fun w' => y_mv (ev (.string (str vi)) rfl rfl)) ?_
 refine d_pure (v := .string (str t)) 2 rfl (by kernel_rfl) (by kernel_rfl) (by kernel_rfl) (by kernel_rfl) (fun _ _ _ h => h) (fun w' => y_mv (ev (.string (str t)) rfl rfl)) ?_
 refine d_pure (v := .int .i64 ((t.length : Nat) : Int)) 3 rfl (by kernel_rfl) (by kernel_rfl) (by kernel_rfl) (by kernel_rfl) (fun _ _ _ h => h) (fun w' => y_len (ev (.string (str t)) rfl rfl) Try.underlying9) ?_
 refine d_pure (v := U8 (BitVec.ofNat 8 t.length)) 4 rfl (by kernel_rfl) (by kernel_rfl) (by kernel_rfl) (by kernel_rfl) (fun _ _ _ h => h) (fun w' => y_nat_u8 (p := t.length) (ev (.int .i64 ((t.length : Nat) : Int)) rfl rfl) (by omega) RecBT.so3 Try.underlying5) ?_
 refine d_pure (v := .string (str t)) 5 rfl (by kernel_rfl) (by kernel_rfl) (by kernel_rfl) (by kernel_rfl) (fun _ _ _ h => h) (fun w' => y_mv (ev (.string (str t)) rfl rfl)) ?_
 refine d_pure (v := U8 (gb t 0)) 6 rfl (by kernel_rfl) (by kernel_rfl) (by kernel_rfl) (by kernel_rfl) (fun _ _ _ h => h) (fun w' => y_idx (ev (.string (str t)) rfl rfl) (evc (.int .i64 0)) Try.underlying9 (by omega) (by omega)) ?_
 refine d_pure (v := U8 (~~~(gb t 0))) 7 rfl (by kernel_rfl) (by kernel_rfl) (by kernel_rfl) (by kernel_rfl) (fun _ _ _ h => h) (fun w' => y_not8 (ev (U8 (gb t 0)) rfl rfl)) ?_
 refine d_pure (v := .string (str t)) 8 rfl (by kernel_rfl) (by kernel_rfl) (by kernel_rfl) (by kernel_rfl) (fun _ _ _ h => h) (fun w' => y_mv (ev (.string (str t)) rfl rfl)) ?_
 refine d_pure (v := U8 (gb t 1)) 9 rfl (by kernel_rfl) (by kernel_rfl) (by kernel_rfl) (by kernel_rfl) (fun _ _ _ h => h) (fun w' => y_idx (ev (.string (str t)) rfl rfl) (evc (.int .i64 1)) Try.underlying9 (by omega) (by omega)) ?_
 refine d_pure (v := U8 (~~~(gb t 1))) 10 rfl (by kernel_rfl) (by kernel_rfl) (by kernel_rfl) (by kernel_rfl) (fun _ _ _ h => h) (fun w' => y_not8 (ev (U8 (gb t 1)) rfl rfl)) ?_
 refine d_pure (v := .string (str t)) 11 rfl (by kernel_rfl) (by kernel_rfl) (by kernel_rfl) (by kernel_rfl) (fun _ _ _ h => h) (fun w' => y_mv (ev (.string (str t)) rfl rfl)) ?_
 refine d_pure (v := U8 (gb t 2)) 12 rfl (by kernel_rfl) (by kernel_rfl) (by kernel_rfl) (by kernel_rfl) (fun _ _ _ h => h) (fun w' => y_idx (ev (.string (str t)) rfl rfl) (evc (.int .i64 2)) Try.underlying9 (by omega) (by omega)) ?_
 refine d_pure (v := U8 (~~~(gb t 2))) 13 rfl (by kernel_rfl) (by kernel_rfl) (by kernel_rfl) (by kernel_rfl) (fun _ _ _ h => h) (fun w' => y_not8 (ev (U8 (gb t 2)) rfl rfl)) ?_
 refine d_pure (v := .string (str t)) 16 rfl (by kernel_rfl) (by kernel_rfl) (by kernel_rfl) (by kernel_rfl) (fun _ _ _ h => h) (fun w' => y_mv (ev (.string (str t)) rfl rfl)) ?_
 refine d_pure (v := .string (str f)) 18 rfl (by kernel_rfl) (by kernel_rfl) (by kernel_rfl) (by kernel_rfl) (fun _ _ _ h => h) (fun w' => y_mv (ev (.string (str f)) rfl rfl)) ?_
 refine d_one 14 (by kernel_rfl) rfl ?_
 refine w_bsn (k := 4) (m := 4) (e := 5) (F := fun j => if j < 1 then U8 (BitVec.ofNat 8 t.length) else if j < 2 then U8 (~~~(gb t 0)) else if j < 3 then U8 (~~~(gb t 1)) else U8 (~~~(gb t 2))) (vs := #[(0, U8 (BitVec.ofNat 8 t.length)), (1, U8 (~~~(gb t 0))), (2, U8 (~~~(gb t 1))), (3, U8 (~~~(gb t 2)))]) (mp_cons (ev (U8 (BitVec.ofNat 8 t.length)) rfl rfl) (mp_cons (ev (U8 (~~~(gb t 0))) rfl rfl) (mp_cons (ev (U8 (~~~(gb t 1))) rfl rfl) (mp_cons (ev (U8 (~~~(gb t 2))) rfl rfl) mp0)))) (fun w => by kernel_rfl) ?_
 intro b_49 w8 hbe_b_49 r_b_49 hb9
 have ge_b_49 : w0.heap.size ≤ b_49 := by have := hk.size; omega
 clear hbe_b_49
 replace hk := thenB hk hb9
 replace hS := thenB hS hb9
 refine wpList_nil ?_
 refine then_n ⟨fun _ h => thenB h (by assumption), ?_⟩
 refine d_one 15 (by kernel_rfl) rfl ?_
 refine w_val (y_str (l := [BitVec.ofNat 8 t.length, ~~~(gb t 0), ~~~(gb t 1), ~~~(gb t 2)]) (ev (.slice (some ⟨b_49, 0, none⟩) 4 4) rfl rfl) (by rfl) Try.underlying54 Try.underlying5 Try.underlying9 (fun j hj => (r_b_49.val (by omega) (by (rcases (show j = 0 ∨ j = 1 ∨ j = 2 ∨ j = 3 by omega) with rfl | rfl | rfl | rfl <;> rfl))))) ?_
 refine wpList_nil ?_
 refine then_n ⟨fun _ h => h, ?_⟩
 refine d_pure (v := .string (str (([BitVec.ofNat 8 t.length, ~~~(gb t 0), ~~~(gb t 1), ~~~(gb t 2)]) ++ t))) 17 rfl (by kernel_rfl) (by kernel_rfl) (by kernel_rfl) (by kernel_rfl) (fun _ _ _ h => h) (fun w' => y_bin (ev (.string (str ([BitVec.ofNat 8 t.length, ~~~(gb t 0), ~~~(gb t 1), ~~~(gb t 2)]))) rfl rfl) (ev (.string (str t)) rfl rfl) (b_cat (by simp only [List.length_append, List.length_cons, List.length_nil, Oct.length_xor]; omega))) ?_
 refine d_pure (v := .string (str ((([BitVec.ofNat 8 t.length, ~~~(gb t 0), ~~~(gb t 1), ~~~(gb t 2)]) ++ t) ++ f))) 19 rfl (by kernel_rfl) (by kernel_rfl) (by kernel_rfl) (by kernel_rfl) (fun _ _ _ h => h) (fun w' => y_bin (ev (.string (str (([BitVec.ofNat 8 t.length, ~~~(gb t 0), ~~~(gb t 1), ~~~(gb t 2)]) ++ t))) rfl rfl) (ev (.string (str f)) rfl rfl) (b_cat (by simp only [List.length_append, List.length_cons, List.length_nil, Oct.length_xor]; omega))) ?_
 refine d_one 20 (by kernel_rfl) rfl ?_
 refine w_call (Try.func24) (by kernel_rfl) rfl (m3 (ev (.string (str key)) rfl rfl) (ev (.string (str vi)) rfl rfl) (ev (.string (str ((([BitVec.ofNat 8 t.length, ~~~(gb t 0), ~~~(gb t 1), ~~~(gb t 2)]) ++ t) ++ f))) rfl rfl)) (chain_y_pre key vi hok hiv t f h3 h255 hf w8) ?_
 rintro _ w10 ⟨rfl, hb11⟩
 refine ⟨_, rfl, ?_⟩
 replace r_b_49 := r_b_49.step hb11
 replace hk := thenB hk hb11
 replace hS := thenB hS hb11
 refine wpList_nil ?_
 refine then_n ⟨fun _ h => thenB h (by assumption), ?_⟩
 refine d_pure (v := .tuple #[.string (str (Cb.chain key vi (Rc.pre t f))), .int .i64 0]) 21 rfl (by kernel_rfl) (by kernel_rfl) (by kernel_rfl) (by kernel_rfl) (fun _ _ _ h => h) (fun w' => y_mv (ev (.tuple #[.string (str (Cb.chain key vi (Rc.pre t f))), .int .i64 0]) rfl rfl)) ?_
 refine d_pure (v := .string (str (Cb.chain key vi (Rc.pre t f)))) 22 rfl (by kernel_rfl) (by kernel_rfl) (by kernel_rfl) (by kernel_rfl) (fun _ _ _ h => h) (fun w' => y_ext (v := .string (str (Cb.chain key vi (Rc.pre t f)))) (ev (.tuple #[.string (str (Cb.chain key vi (Rc.pre t f))), .int .i64 0]) rfl rfl) rfl) ?_
 refine d_pure (v := .int .i64 0) 23 rfl (by kernel_rfl) (by kernel_rfl) (by kernel_rfl) (by kernel_rfl) (fun _ _ _ h => h) (fun w' => y_ext (v := .int .i64 0) (ev (.tuple #[.string (str (Cb.chain key vi (Rc.pre t f))), .int .i64 0]) rfl rfl) rfl) ?_
 refine d_pure (v := .string (str (Cb.chain key vi (Rc.pre t f)))) 24 rfl (by kernel_rfl) (by kernel_rfl) (by kernel_rfl) (by kernel_rfl) (fun _ _ _ h => h) (fun w' => y_as (ev (.string (str (Cb.chain key vi (Rc.pre t f)))) rfl rfl)) ?_
 refine d_pure (v := .int .i64 0) 25 rfl (by kernel_rfl) (by kernel_rfl) (by kernel_rfl) (by kernel_rfl) (fun _ _ _ h => h) (fun w' => y_as (ev (.int .i64 0) rfl rfl)) ?_
 refine d_done (by kernel_rfl) ?_
 clear hS
 refine then_n ?_
 refine sr ?_
 refine w_mv (ev (.string (str key)) rfl rfl) ?_
 refine w_mv (ev (.string (str (Cb.chain key vi (Rc.pre t f)))) rfl rfl) ?_
 refine w_mv (ev (.string (str (Cb.chain key vi (Rc.pre t f)))) rfl rfl) ?_
 refine w_val (y_len (ev (.string (str (Cb.chain key vi (Rc.pre t f)))) rfl rfl) Try.underlying9) ?_
 refine w_val (y_bin (ev (.int .i64 (((Cb.chain key vi (Rc.pre t f)).length : Nat) : Int)) rfl rfl) (evc (.int .i64 16)) (b_sub (by omega))) ?_
 refine w_val (v := .string (str ((Cb.chain key vi (Rc.pre t f)).drop (((Cb.chain key vi (Rc.pre t f)).length) - 16)))) (y_slf (ev (.string (str (Cb.chain key vi (Rc.pre t f)))) rfl rfl) (evo.s (ev (.int .i64 ((((Cb.chain key vi (Rc.pre t f)).length : Nat) : Int) - 16)) rfl rfl)) Try.underlying9 (bnd_l (l := (((Cb.chain key vi (Rc.pre t f)).length) - 16)) (by omega) (by omega))) ?_
 refine w_mv (ev (.string (str (Cb.chain key vi (Rc.pre t f)))) rfl rfl) ?_
 refine w_call (Try.func24) (by kernel_rfl) rfl (m3 (ev (.string (str key)) rfl rfl) (ev (.string (str ((Cb.chain key vi (Rc.pre t f)).drop (((Cb.chain key vi (Rc.pre t f)).length) - 16)))) rfl rfl) (ev (.string (str (Cb.chain key vi (Rc.pre t f)))) rfl rfl)) (chain_y key (Rc.tail (Cb.chain key vi (Rc.pre t f))) hok (Rc.tail_len _ (by omega)) (Cb.chain key vi (Rc.pre t f)) (by omega) (by omega) w10) ?_
 rintro _ w12 ⟨rfl, hb13⟩
 refine ⟨_, rfl, ?_⟩
 replace r_b_49 := r_b_49.step hb13
 replace hk := thenB hk hb13
 refine w_val (y_ext (v := .string (str (Rc.lock key vi t f))) (ev (.tuple #[.string (str (Rc.lock key vi t f)), .int .i64 0]) rfl rfl) rfl) ?_
 refine w_val (y_ext (v := .int .i64 0) (ev (.tuple #[.string (str (Rc.lock key vi t f)), .int .i64 0]) rfl rfl) rfl) ?_
 refine w_as (ev (.string (str (Rc.lock key vi t f))) rfl rfl) ?_
 refine w_as (ev (.int .i64 0) rfl rfl) ?_
 refine nt ?_
 refine wp_ret ?_
 refine fin_ret2 rfl (ev (.string (str (Rc.lock key vi t f))) rfl rfl) (ev (.int .i64 0) rfl rfl) ?_
 exact ⟨rfl, hk⟩

set_option maxRecDepth 100000 in
set_option maxHeartbeats 1000000 in
theorem refLock_k (key vi : List (BitVec 8)) (hok : ¬ Aes.okKey key.length) (t f : List (BitVec 8)) (w0 : World) : Calls Try.prog 38 #[.string (str key), .string (str vi), .string (str t), .string (str f)] w0 fun e w' => e = .returned (.tuple #[.string (str ([] : List (BitVec 8))), .int .i64 3]) ∧ Below w0.heap.size w0 w' := by
 refine enter (n := 66) Try.func38 rfl rfl rfl ?_
 have hk : Below w0.heap.size w0 w0 := Below.refl _ _
 refine sr ?_
 refine w_as (evc (.string (str ([] : List (BitVec 8))))) ?_
 refine w_as (evc (.int .i64 0)) ?_
 refine nt ?_
 refine wp_seq ?_
 refine sr ?_
 refine w_mv (ev (.string (str key)) rfl rfl) ?_
 refine w_mv (ev (.string (str vi)) rfl rfl) ?_
 refine w_call (Try.func66) (by kernel_rfl) rfl (m2 (ev (.string (str key)) rfl rfl) (ev (.string (str vi)) rfl rfl)) (rcRefWrong_k key vi hok w0) ?_
 rintro _ w1 ⟨rfl, hb2⟩
 refine ⟨_, rfl, ?_⟩
 replace hk := thenB hk hb2
 refine w_as (ev (.int .i64 3) rfl rfl) ?_
 refine nt ?_
 refine sr ?_
 refine w_mv (ev (.int .i64 3) rfl rfl) ?_
 refine w_val (y_bin (ev (.int .i64 3) rfl rfl) (evc (.int .i64 0)) b_neq) ?_
 refine nt ?_
 refine c_tt (ev (.bool true) rfl rfl) ?_
 refine sr ?_
 refine w_mv (ev (.int .i64 3) rfl rfl) ?_
 refine w_as (evc (.string (str ([] : List (BitVec 8))))) ?_
 refine w_as (ev (.int .i64 3) rfl rfl) ?_
 refine nt ?_
 refine wp_ret ?_
 refine then_r ?_
 refine fin_ret2 rfl (ev (.string (str ([] : List (BitVec 8)))) rfl rfl) (ev (.int .i64 3) rfl rfl) ?_
 exact ⟨rfl, hk⟩

set_option maxRecDepth 100000 in
set_option maxHeartbeats 1000000 in
theorem refLock_i (key vi : List (BitVec 8)) (hok : Aes.okKey key.length) (hiv : vi.length ≠ 16) (t f : List (BitVec 8)) (w0 : World) : Calls Try.prog 38 #[.string (str key), .string (str vi), .string (str t), .string (str f)] w0 fun e w' => e = .returned (.tuple #[.string (str ([] : List (BitVec 8))), .int .i64 4]) ∧ Below w0.heap.size w0 w' := by
 refine enter (n := 66) Try.func38 rfl rfl rfl ?_
 have hk : Below w0.heap.size w0 w0 := Below.refl _ _
 refine sr ?_
 refine w_as (evc (.string (str ([] : List (BitVec 8))))) ?_
 refine w_as (evc (.int .i64 0)) ?_
 refine nt ?_
 refine wp_seq ?_
 refine sr ?_
 refine w_mv (ev (.string (str key)) rfl rfl) ?_
 refine w_mv (ev (.string (str vi)) rfl rfl) ?_
 refine w_call (Try.func66) (by kernel_rfl) rfl (m2 (ev (.string (str key)) rfl rfl) (ev (.string (str vi)) rfl rfl)) (rcRefWrong_i key vi hok hiv w0) ?_
 rintro _ w1 ⟨rfl, hb2⟩
 refine ⟨_, rfl, ?_⟩
 replace hk := thenB hk hb2
 refine w_as (ev (.int .i64 4) rfl rfl) ?_
 refine nt ?_
 refine sr ?_
 refine w_mv (ev (.int .i64 4) rfl rfl) ?_
 refine w_val (y_bin (ev (.int .i64 4) rfl rfl) (evc (.int .i64 0)) b_neq) ?_
 refine nt ?_
 refine c_tt (ev (.bool true) rfl rfl) ?_
 refine sr ?_
 refine w_mv (ev (.int .i64 4) rfl rfl) ?_
 refine w_as (evc (.string (str ([] : List (BitVec 8))))) ?_
 refine w_as (ev (.int .i64 4) rfl rfl) ?_
 refine nt ?_
 refine wp_ret ?_
 refine then_r ?_
 refine fin_ret2 rfl (ev (.string (str ([] : List (BitVec 8)))) rfl rfl) (ev (.int .i64 4) rfl rfl) ?_
 exact ⟨rfl, hk⟩

set_option maxRecDepth 100000 in
set_option maxHeartbeats 1000000 in
theorem refLock_s (key vi : List (BitVec 8)) (hok : Aes.okKey key.length) (hiv : vi.length = 16) (t f : List (BitVec 8)) (hs : ¬ (3 ≤ t.length ∧ t.length ≤ 255)) (w0 : World) : Calls Try.prog 38 #[.string (str key), .string (str vi), .string (str t), .string (str f)] w0 fun e w' => e = .returned (.tuple #[.string (str ([] : List (BitVec 8))), .int .i64 6]) ∧ Below w0.heap.size w0 w' := by
 refine enter (n := 66) Try.func38 rfl rfl rfl ?_
 have hk : Below w0.heap.size w0 w0 := Below.refl _ _
 refine sr ?_
 refine w_as (evc (.string (str ([] : List (BitVec 8))))) ?_
 refine w_as (evc (.int .i64 0)) ?_
 refine nt ?_
 refine wp_seq ?_
 refine sr ?_
 refine w_mv (ev (.string (str key)) rfl rfl) ?_
 refine w_mv (ev (.string (str vi)) rfl rfl) ?_
 refine w_call (Try.func66) (by kernel_rfl) rfl (m2 (ev (.string (str key)) rfl rfl) (ev (.string (str vi)) rfl rfl)) (rcRefWrong_y key vi hok hiv w0) ?_
 rintro _ w1 ⟨rfl, hb2⟩
 refine ⟨_, rfl, ?_⟩
 replace hk := thenB hk hb2
 refine w_as (ev (.int .i64 0) rfl rfl) ?_
 refine nt ?_
 refine sr ?_
 refine w_mv (ev (.int .i64 0) rfl rfl) ?_
 refine w_val (y_bin (ev (.int .i64 0) rfl rfl) (evc (.int .i64 0)) b_neq) ?_
 refine nt ?_
 refine c_ff (ev (.bool false) rfl rfl) ?_
 refine wp_skip ?_
 refine then_n ?_
 refine sr ?_
 refine w_mv (ev (.string (str t)) rfl rfl) ?_
 refine w_val (y_len (ev (.string (str t)) rfl rfl) Try.underlying9) ?_
 refine w_call (Try.func35) (by kernel_rfl) rfl (m1 (ev (.int .i64 ((t.length : Nat) : Int)) rfl rfl)) (refFill_s ((t.length : Nat) : Int) (by omega) w1) ?_
 rintro _ w3 ⟨rfl, hb4⟩
 refine ⟨_, rfl, ?_⟩
 replace hk := thenB hk hb4
 refine w_mv (ev (.tuple #[.int .i64 0, .int .i64 6]) rfl rfl) ?_
 refine w_val (y_ext (v := .int .i64 0) (ev (.tuple #[.int .i64 0, .int .i64 6]) rfl rfl) rfl) ?_
 refine w_val (y_ext (v := .int .i64 6) (ev (.tuple #[.int .i64 0, .int .i64 6]) rfl rfl) rfl) ?_
 refine w_as (ev (.int .i64 0) rfl rfl) ?_
 refine w_as (ev (.int .i64 6) rfl rfl) ?_
 refine nt ?_
 refine wp_seq ?_
 refine sr ?_
 refine w_mv (ev (.int .i64 6) rfl rfl) ?_
 refine w_val (y_bin (ev (.int .i64 6) rfl rfl) (evc (.int .i64 0)) b_neq) ?_
 refine nt ?_
 refine c_tt (ev (.bool true) rfl rfl) ?_
 refine sr ?_
 refine w_mv (ev (.int .i64 6) rfl rfl) ?_
 refine w_as (evc (.string (str ([] : List (BitVec 8))))) ?_
 refine w_as (ev (.int .i64 6) rfl rfl) ?_
 refine nt ?_
 refine wp_ret ?_
 refine then_r ?_
 refine fin_ret2 rfl (ev (.string (str ([] : List (BitVec 8)))) rfl rfl) (ev (.int .i64 6) rfl rfl) ?_
 exact ⟨rfl, hk⟩

set_option maxRecDepth 100000 in
set_option maxHeartbeats 1000000 in
theorem refLock_f (key vi : List (BitVec 8)) (hok : Aes.okKey key.length) (hiv : vi.length = 16) (t f : List (BitVec 8)) (h3 : 3 ≤ t.length) (h255 : t.length ≤ 255) (hf : f.length ≠ Rc.fl t.length) (w0 : World) : Calls Try.prog 38 #[.string (str key), .string (str vi), .string (str t), .string (str f)] w0 fun e w' => e = .returned (.tuple #[.string (str ([] : List (BitVec 8))), .int .i64 2]) ∧ Below w0.heap.size w0 w' := by
 refine enter (n := 66) Try.func38 rfl rfl rfl ?_
 have hk : Below w0.heap.size w0 w0 := Below.refl _ _
 refine sr ?_
 refine w_as (evc (.string (str ([] : List (BitVec 8))))) ?_
 refine w_as (evc (.int .i64 0)) ?_
 refine nt ?_
 refine wp_seq ?_
 refine sr ?_
 refine w_mv (ev (.string (str key)) rfl rfl) ?_
 refine w_mv (ev (.string (str vi)) rfl rfl) ?_
 refine w_call (Try.func66) (by kernel_rfl) rfl (m2 (ev (.string (str key)) rfl rfl) (ev (.string (str vi)) rfl rfl)) (rcRefWrong_y key vi hok hiv w0) ?_
 rintro _ w1 ⟨rfl, hb2⟩
 refine ⟨_, rfl, ?_⟩
 replace hk := thenB hk hb2
 refine w_as (ev (.int .i64 0) rfl rfl) ?_
 refine nt ?_
 refine sr ?_
 refine w_mv (ev (.int .i64 0) rfl rfl) ?_
 refine w_val (y_bin (ev (.int .i64 0) rfl rfl) (evc (.int .i64 0)) b_neq) ?_
 refine nt ?_
 refine c_ff (ev (.bool false) rfl rfl) ?_
 refine wp_skip ?_
 refine then_n ?_
 refine sr ?_
 refine w_mv (ev (.string (str t)) rfl rfl) ?_
 refine w_val (y_len (ev (.string (str t)) rfl rfl) Try.underlying9) ?_
 refine w_call (Try.func35) (by kernel_rfl) rfl (m1 (ev (.int .i64 ((t.length : Nat) : Int)) rfl rfl)) (refFill_y t.length (by omega) (by omega) w1) ?_
 rintro _ w3 ⟨rfl, hb4⟩
 refine ⟨_, rfl, ?_⟩
 replace hk := thenB hk hb4
 refine w_mv (ev (.tuple #[.int .i64 (((Rc.fl t.length) : Nat) : Int), .int .i64 0]) rfl rfl) ?_
 refine w_val (y_ext (v := .int .i64 (((Rc.fl t.length) : Nat) : Int)) (ev (.tuple #[.int .i64 (((Rc.fl t.length) : Nat) : Int), .int .i64 0]) rfl rfl) rfl) ?_
 refine w_val (y_ext (v := .int .i64 0) (ev (.tuple #[.int .i64 (((Rc.fl t.length) : Nat) : Int), .int .i64 0]) rfl rfl) rfl) ?_
 refine w_as (ev (.int .i64 (((Rc.fl t.length) : Nat) : Int)) rfl rfl) ?_
 refine w_as (ev (.int .i64 0) rfl rfl) ?_
 refine nt ?_
 refine wp_seq ?_
 refine sr ?_
 refine w_mv (ev (.int .i64 0) rfl rfl) ?_
 refine w_val (y_bin (ev (.int .i64 0) rfl rfl) (evc (.int .i64 0)) b_neq) ?_
 refine nt ?_
 refine c_ff (ev (.bool false) rfl rfl) ?_
 refine wp_skip ?_
 refine then_n ?_
 refine wp_seq ?_
 refine sr ?_
 refine w_mv (ev (.string (str f)) rfl rfl) ?_
 refine w_val (y_len (ev (.string (str f)) rfl rfl) Try.underlying9) ?_
 refine w_mv (ev (.int .i64 (((Rc.fl t.length) : Nat) : Int)) rfl rfl) ?_
 refine w_val (y_bin (ev (.int .i64 ((f.length : Nat) : Int)) rfl rfl) (ev (.int .i64 (((Rc.fl t.length) : Nat) : Int)) rfl rfl) b_neq) ?_
 refine nt ?_
 have hc5 : ((f.length : Nat) : Int) ≠ (((Rc.fl t.length) : Nat) : Int) := by omega
 refine c_t (p := ((f.length : Nat) : Int) ≠ (((Rc.fl t.length) : Nat) : Int)) (ev (.bool (decide (((f.length : Nat) : Int) ≠ (((Rc.fl t.length) : Nat) : Int)))) rfl rfl) hc5 ?_
 refine sr ?_
 refine w_as (evc (.string (str ([] : List (BitVec 8))))) ?_
 refine w_as (evc (.int .i64 2)) ?_
 refine nt ?_
 refine wp_ret ?_
 refine then_r ?_
 refine fin_ret2 rfl (ev (.string (str ([] : List (BitVec 8)))) rfl rfl) (ev (.int .i64 2) rfl rfl) ?_
 exact ⟨rfl, hk⟩

theorem refChain_y_pre (key vi : List (BitVec 8)) (hok : Aes.okKey key.length) (hiv : vi.length = 16) (t f : List (BitVec 8)) (h3 : 3 ≤ t.length) (h255 : t.length ≤ 255) (hf : f.length = Rc.fl t.length) (w0 : World) : Calls Try.prog 25 #[.string (str key), .string (str vi), .string (str ((([BitVec.ofNat 8 t.length] ++ (Oct.xor t Rc.ff)) ++ t) ++ f))] w0 fun e w' => e = .returned (.tuple #[.string (str (Cb.chain key vi (Rc.pre t f))), .int .i64 0]) ∧ Below w0.heap.size w0 w' := by
  obtain ⟨hp1, hp2, hp3⟩ := Rc.pre_mod t f h3 h255 hf
  rw [Rc.ref_pre t f h3]
  exact refChain_y key vi hok hiv (Rc.pre t f) hp1 (by omega) (by omega) w0

set_option maxRecDepth 100000 in
set_option maxHeartbeats 1000000 in
theorem refLock_y (key vi : List (BitVec 8)) (hok : Aes.okKey key.length) (hiv : vi.length = 16) (t f : List (BitVec 8)) (h3 : 3 ≤ t.length) (h255 : t.length ≤ 255) (hf : f.length = Rc.fl t.length) (w0 : World) : Calls Try.prog 38 #[.string (str key), .string (str vi), .string (str t), .string (str f)] w0 fun e w' => e = .returned (.tuple #[.string (str (Rc.lock key vi t f)), .int .i64 0]) ∧ Below w0.heap.size w0 w' := by
 obtain ⟨hp1, hp2, hp3⟩ := Rc.pre_mod t f h3 h255 hf
 have hpl := Rc.pre_len t f
 have hcl := Cb.chain_len key vi (Rc.pre t f)
 have hfl : Rc.fl t.length ≤ 28 := by unfold Rc.fl; split <;> omega
 refine enter (n := 66) Try.func38 rfl rfl rfl ?_
 have hk : Below w0.heap.size w0 w0 := Below.refl _ _
 refine sr ?_
 refine w_as (evc (.string (str ([] : List (BitVec 8))))) ?_
 refine w_as (evc (.int .i64 0)) ?_
 refine nt ?_
 refine wp_seq ?_
 refine sr ?_
 refine w_mv (ev (.string (str key)) rfl rfl) ?_
 refine w_mv (ev (.string (str vi)) rfl rfl) ?_
 refine w_call (Try.func66) (by kernel_rfl) rfl (m2 (ev (.string (str key)) rfl rfl) (ev (.string (str vi)) rfl rfl)) (rcRefWrong_y key vi hok hiv w0) ?_
 rintro _ w1 ⟨rfl, hb2⟩
 refine ⟨_, rfl, ?_⟩
 replace hk := thenB hk hb2
 refine w_as (ev (.int .i64 0) rfl rfl) ?_
 refine nt ?_
 refine sr ?_
 refine w_mv (ev (.int .i64 0) rfl rfl) ?_
 refine w_val (y_bin (ev (.int .i64 0) rfl rfl) (evc (.int .i64 0)) b_neq) ?_
 refine nt ?_
 refine c_ff (ev (.bool false) rfl rfl) ?_
 refine wp_skip ?_
 refine then_n ?_
 refine sr ?_
 refine w_mv (ev (.string (str t)) rfl rfl) ?_
 refine w_val (y_len (ev (.string (str t)) rfl rfl) Try.underlying9) ?_
 refine w_call (Try.func35) (by kernel_rfl) rfl (m1 (ev (.int .i64 ((t.length : Nat) : Int)) rfl rfl)) (refFill_y t.length (by omega) (by omega) w1) ?_
 rintro _ w3 ⟨rfl, hb4⟩
 refine ⟨_, rfl, ?_⟩
 replace hk := thenB hk hb4
 refine w_mv (ev (.tuple #[.int .i64 (((Rc.fl t.length) : Nat) : Int), .int .i64 0]) rfl rfl) ?_
 refine w_val (y_ext (v := .int .i64 (((Rc.fl t.length) : Nat) : Int)) (ev (.tuple #[.int .i64 (((Rc.fl t.length) : Nat) : Int), .int .i64 0]) rfl rfl) rfl) ?_
 refine w_val (y_ext (v := .int .i64 0) (ev (.tuple #[.int .i64 (((Rc.fl t.length) : Nat) : Int), .int .i64 0]) rfl rfl) rfl) ?_
 refine w_as (ev (.int .i64 (((Rc.fl t.length) : Nat) : Int)) rfl rfl) ?_
 refine w_as (ev (.int .i64 0) rfl rfl) ?_
 refine nt ?_
 refine wp_seq ?_
 refine sr ?_
 refine w_mv (ev (.int .i64 0) rfl rfl) ?_
 refine w_val (y_bin (ev (.int .i64 0) rfl rfl) (evc (.int .i64 0)) b_neq) ?_
 refine nt ?_
 refine c_ff (ev (.bool false) rfl rfl) ?_
 refine wp_skip ?_
 refine then_n ?_
 refine wp_seq ?_
 refine sr ?_
 refine w_mv (ev (.string (str f)) rfl rfl) ?_
 refine w_val (y_len (ev (.string (str f)) rfl rfl) Try.underlying9) ?_
 refine w_mv (ev (.int .i64 (((Rc.fl t.length) : Nat) : Int)) rfl rfl) ?_
 refine w_val (y_bin (ev (.int .i64 ((f.length : Nat) : Int)) rfl rfl) (ev (.int .i64 (((Rc.fl t.length) : Nat) : Int)) rfl rfl) b_neq) ?_
 refine nt ?_
 have hc5 : ¬ (((f.length : Nat) : Int) ≠ (((Rc.fl t.length) : Nat) : Int)) := by omega
 refine c_f (p := ((f.length : Nat) : Int) ≠ (((Rc.fl t.length) : Nat) : Int)) (ev (.bool (decide (((f.length : Nat) : Int) ≠ (((Rc.fl t.length) : Nat) : Int)))) rfl rfl) hc5 ?_
 refine wp_skip ?_
 refine then_n ?_
 refine wp_seq ?_
 refine region_dc (Nat.testBit 0) 13 RecBT.mixed rfl ?_
 intro w6 hb7
 replace hk := thenB hk hb7
 have hS : Cls w6 w6 := Below.refl _ _
 refine d_pure (v := .string (str t)) 0 rfl (by kernel_rfl) (by kernel_rfl) (by kernel_rfl) (by kernel_rfl) (fun _ _ _ h => h) (fun w' => y_mv (ev (.string (str t)) rfl rfl)) ?_
 refine d_pure (v := .int .i64 ((t.length : Nat) : Int)) 1 rfl (by kernel_rfl) (by kernel_rfl) (by kernel_rfl) (by kernel_rfl) (fun _ _ _ h => h) (fun w' => y_len (ev (.string (str t)) rfl rfl) Try.underlying9) ?_
 refine d_pure (v := U8 (BitVec.ofNat 8 t.length)) 2 rfl (by kernel_rfl) (by kernel_rfl) (by kernel_rfl) (by kernel_rfl) (fun _ _ _ h => h) (fun w' => y_nat_u8 (p := t.length) (ev (.int .i64 ((t.length : Nat) : Int)) rfl rfl) (by omega) RecBT.so3 Try.underlying5) ?_
 refine d_pure (v := .string (str t)) 5 rfl (by kernel_rfl) (by kernel_rfl) (by kernel_rfl) (by kernel_rfl) (fun _ _ _ h => h) (fun w' => y_mv (ev (.string (str t)) rfl rfl)) ?_
 refine d_pure (v := .string (str t)) 8 rfl (by kernel_rfl) (by kernel_rfl) (by kernel_rfl) (by kernel_rfl) (fun _ _ _ h => h) (fun w' => y_mv (ev (.string (str t)) rfl rfl)) ?_
 refine d_pure (v := .string (str f)) 10 rfl (by kernel_rfl) (by kernel_rfl) (by kernel_rfl) (by kernel_rfl) (fun _ _ _ h => h) (fun w' => y_mv (ev (.string (str f)) rfl rfl)) ?_
 refine d_two 3 6 (by kernel_rfl) rfl rfl ?_ ?_
 ·skip
  refine w_bs1 (m := 1) (e := 5) (F := fun j => U8 (BitVec.ofNat 8 t.length)) (ev (U8 (BitVec.ofNat 8 t.length)) rfl rfl) (fun w => by kernel_rfl) ?_
  intro b_38 w8 hbe_b_38 r_b_38 hb9
  have ge_b_38 : w0.heap.size ≤ b_38 := by have := hk.size; omega
  clear hbe_b_38
  replace hk := thenB hk hb9
  replace hS := thenB hS hb9
  refine wpList_nil ?_
  refine then_n ⟨fun _ h => thenB h (by assumption), ?_⟩
  refine d_two 4 6 (by kernel_rfl) rfl rfl ?_ ?_
  ·skip
   refine w_val (y_str (l := [BitVec.ofNat 8 t.length]) (ev (.slice (some ⟨b_38, 0, none⟩) 1 1) rfl rfl) (by rfl) Try.underlying54 Try.underlying5 Try.underlying9 (fun j hj => (r_b_38.val (by omega) (by (obtain rfl : j = 0 := (by omega)); rfl)))) ?_
   refine wpList_nil ?_
   refine then_n ⟨fun _ h => h, ?_⟩
   refine d_one 6 (by kernel_rfl) rfl ?_
   refine w_call (Try.func59) (by kernel_rfl) rfl (m2 (ev (.string (str t)) rfl rfl) (evc (.string (str Rc.ff)))) (refXor_c t Rc.ff (by omega) w8) ?_
   rintro _ w10 ⟨rfl, hb11⟩
   refine ⟨_, rfl, ?_⟩
   replace r_b_38 := r_b_38.step hb11
   replace hk := thenB hk hb11
   replace hS := thenB hS hb11
   refine wpList_nil ?_
   refine then_n ⟨fun _ h => thenB h (by assumption), ?_⟩
   refine d_pure (v := .string (str (([BitVec.ofNat 8 t.length]) ++ (Oct.xor t Rc.ff)))) 7 rfl (by kernel_rfl) (by kernel_rfl) (by kernel_rfl) (by kernel_rfl) (fun _ _ _ h => h) (fun w' => y_bin (ev (.string (str ([BitVec.ofNat 8 t.length]))) rfl rfl) (ev (.string (str (Oct.xor t Rc.ff))) rfl rfl) (b_cat (by simp only [List.length_append, List.length_cons, List.length_nil, Oct.length_xor]; omega))) ?_
   refine d_pure (v := .string (str ((([BitVec.ofNat 8 t.length]) ++ (Oct.xor t Rc.ff)) ++ t))) 9 rfl (by kernel_rfl) (by kernel_rfl) (by kernel_rfl) (by kernel_rfl) (fun _ _ _ h => h) (fun w' => y_bin (ev (.string (str (([BitVec.ofNat 8 t.length]) ++ (Oct.xor t Rc.ff)))) rfl rfl) (ev (.string (str t)) rfl rfl) (b_cat (by simp only [List.length_append, List.length_cons, List.length_nil, Oct.length_xor]; omega))) ?_
   refine d_pure (v := .string (str (((([BitVec.ofNat 8 t.length]) ++ (Oct.xor t Rc.ff)) ++ t) ++ f))) 11 rfl (by kernel_rfl) (by kernel_rfl) (by kernel_rfl) (by kernel_rfl) (fun _ _ _ h => h) (fun w' => y_bin (ev (.string (str ((([BitVec.ofNat 8 t.length]) ++ (Oct.xor t Rc.ff)) ++ t))) rfl rfl) (ev (.string (str f)) rfl rfl) (b_cat (by simp only [List.length_append, List.length_cons, List.length_nil, Oct.length_xor]; omega))) ?_
   refine d_pure (v := .string (str (((([BitVec.ofNat 8 t.length]) ++ (Oct.xor t Rc.ff)) ++ t) ++ f))) 12 rfl (by kernel_rfl) (by kernel_rfl) (by kernel_rfl) (by kernel_rfl) (fun _ _ _ h => h) (fun w' => y_as (ev (.string (str (((([BitVec.ofNat 8 t.length]) ++ (Oct.xor t Rc.ff)) ++ t) ++ f))) rfl rfl)) ?_
   refine d_done (by kernel_rfl) ?_
   clear hS
   refine then_n ?_
   refine sr ?_
   refine w_mv (ev (.string (str key)) rfl rfl) ?_
   refine w_mv (ev (.string (str vi)) rfl rfl) ?_
   refine w_mv (ev (.string (str (((([BitVec.ofNat 8 t.length]) ++ (Oct.xor t Rc.ff)) ++ t) ++ f))) rfl rfl) ?_
   refine w_call (Try.func25) (by kernel_rfl) rfl (m3 (ev (.string (str key)) rfl rfl) (ev (.string (str vi)) rfl rfl) (ev (.string (str (((([BitVec.ofNat 8 t.length]) ++ (Oct.xor t Rc.ff)) ++ t) ++ f))) rfl rfl)) (refChain_y_pre key vi hok hiv t f h3 h255 hf w10) ?_
   rintro _ w12 ⟨rfl, hb13⟩
   refine ⟨_, rfl, ?_⟩
   replace r_b_38 := r_b_38.step hb13
   replace hk := thenB hk hb13
   refine w_mv (ev (.tuple #[.string (str (Cb.chain key vi (Rc.pre t f))), .int .i64 0]) rfl rfl) ?_
   refine w_val (y_ext (v := .string (str (Cb.chain key vi (Rc.pre t f)))) (ev (.tuple #[.string (str (Cb.chain key vi (Rc.pre t f))), .int .i64 0]) rfl rfl) rfl) ?_
   refine w_val (y_ext (v := .int .i64 0) (ev (.tuple #[.string (str (Cb.chain key vi (Rc.pre t f))), .int .i64 0]) rfl rfl) rfl) ?_
   refine w_as (ev (.string (str (Cb.chain key vi (Rc.pre t f)))) rfl rfl) ?_
   refine nt ?_
   refine sr ?_
   refine w_mv (ev (.string (str key)) rfl rfl) ?_
   refine w_mv (ev (.string (str (Cb.chain key vi (Rc.pre t f)))) rfl rfl) ?_
   refine w_mv (ev (.string (str (Cb.chain key vi (Rc.pre t f)))) rfl rfl) ?_
   refine w_val (y_len (ev (.string (str (Cb.chain key vi (Rc.pre t f)))) rfl rfl) Try.underlying9) ?_
   refine w_val (y_bin (ev (.int .i64 (((Cb.chain key vi (Rc.pre t f)).length : Nat) : Int)) rfl rfl) (evc (.int .i64 16)) (b_sub (by omega))) ?_
   refine w_val (v := .string (str ((Cb.chain key vi (Rc.pre t f)).drop (((Cb.chain key vi (Rc.pre t f)).length) - 16)))) (y_slf (ev (.string (str (Cb.chain key vi (Rc.pre t f)))) rfl rfl) (evo.s (ev (.int .i64 ((((Cb.chain key vi (Rc.pre t f)).length : Nat) : Int) - 16)) rfl rfl)) Try.underlying9 (bnd_l (l := (((Cb.chain key vi (Rc.pre t f)).length) - 16)) (by omega) (by omega))) ?_
   refine w_mv (ev (.string (str (Cb.chain key vi (Rc.pre t f)))) rfl rfl) ?_
   refine w_call (Try.func25) (by kernel_rfl) rfl (m3 (ev (.string (str key)) rfl rfl) (ev (.string (str ((Cb.chain key vi (Rc.pre t f)).drop (((Cb.chain key vi (Rc.pre t f)).length) - 16)))) rfl rfl) (ev (.string (str (Cb.chain key vi (Rc.pre t f)))) rfl rfl)) (refChain_y key (Rc.tail (Cb.chain key vi (Rc.pre t f))) hok (Rc.tail_len _ (by omega)) (Cb.chain key vi (Rc.pre t f)) (by omega) (by omega) (by omega) w12) ?_
   rintro _ w14 ⟨rfl, hb15⟩
   refine ⟨_, rfl, ?_⟩
   replace r_b_38 := r_b_38.step hb15
   replace hk := thenB hk hb15
   refine w_mv (ev (.tuple #[.string (str (Rc.lock key vi t f)), .int .i64 0]) rfl rfl) ?_
   refine w_val (y_ext (v := .string (str (Rc.lock key vi t f))) (ev (.tuple #[.string (str (Rc.lock key vi t f)), .int .i64 0]) rfl rfl) rfl) ?_
   refine w_val (y_ext (v := .int .i64 0) (ev (.tuple #[.string (str (Rc.lock key vi t f)), .int .i64 0]) rfl rfl) rfl) ?_
   refine w_as (ev (.string (str (Rc.lock key vi t f))) rfl rfl) ?_
   refine w_as (ev (.int .i64 0) rfl rfl) ?_
   refine nt ?_
   refine sr ?_
   refine w_mv (ev (.string (str (Rc.lock key vi t f))) rfl rfl) ?_
   refine w_as (ev (.string (str (Rc.lock key vi t f))) rfl rfl) ?_
   refine w_as (evc (.int .i64 0)) ?_
   refine nt ?_
   refine wp_ret ?_
   refine fin_ret2 rfl (ev (.string (str (Rc.lock key vi t f))) rfl rfl) (ev (.int .i64 0) rfl rfl) ?_
   exact ⟨rfl, hk⟩
  ·skip
   refine w_call (Try.func59) (by kernel_rfl) rfl (m2 (ev (.string (str t)) rfl rfl) (evc (.string (str Rc.ff)))) (refXor_c t Rc.ff (by omega) w8) ?_
   rintro _ w16 ⟨rfl, hb17⟩
   refine ⟨_, rfl, ?_⟩
   replace r_b_38 := r_b_38.step hb17
   replace hk := thenB hk hb17
   replace hS := thenB hS hb17
   refine wpList_nil ?_
   refine then_n ⟨fun _ h => thenB h (by assumption), ?_⟩
   refine d_one 4 (by kernel_rfl) rfl ?_
   refine w_val (y_str (l := [BitVec.ofNat 8 t.length]) (ev (.slice (some ⟨b_38, 0, none⟩) 1 1) rfl rfl) (by rfl) Try.underlying54 Try.underlying5 Try.underlying9 (fun j hj => (r_b_38.val (by omega) (by (obtain rfl : j = 0 := (by omega)); rfl)))) ?_
   refine wpList_nil ?_
   refine then_n ⟨fun _ h => h, ?_⟩
   refine d_pure (v := .string (str (([BitVec.ofNat 8 t.length]) ++ (Oct.xor t Rc.ff)))) 7 rfl (by kernel_rfl) (by kernel_rfl) (by kernel_rfl) (by kernel_rfl) (fun _ _ _ h => h) (fun w' => y_bin (ev (.string (str ([BitVec.ofNat 8 t.length]))) rfl rfl) (ev (.string (str (Oct.xor t Rc.ff))) rfl rfl) (b_cat (by simp only [List.length_append, List.length_cons, List.length_nil, Oct.length_xor]; omega))) ?_
   refine d_pure (v := .string (str ((([BitVec.ofNat 8 t.length]) ++ (Oct.xor t Rc.ff)) ++ t))) 9 rfl (by kernel_rfl) (by kernel_rfl) (by kernel_rfl) (by kernel_rfl) (fun _ _ _ h => h) (fun w' => y_bin (ev (.string (str (([BitVec.ofNat 8 t.length]) ++ (Oct.xor t Rc.ff)))) rfl rfl) (ev (.string (str t)) rfl rfl) (b_cat (by simp only [List.length_append, List.length_cons, List.length_nil, Oct.length_xor]; omega))) ?_
   refine d_pure (v := .string (str (((([BitVec.ofNat 8 t.length]) ++ (Oct.xor t Rc.ff)) ++ t) ++ f))) 11 rfl (by kernel_rfl) (by kernel_rfl) (by kernel_rfl) (by kernel_rfl) (fun _ _ _ h => h) (fun w' => y_bin (ev (.string (str ((([BitVec.ofNat 8 t.length]) ++ (Oct.xor t Rc.ff)) ++ t))) rfl rfl) (ev (.string (str f)) rfl rfl) (b_cat (by simp only [List.length_append, List.length_cons, List.length_nil, Oct.length_xor]; omega))) ?_
   refine d_pure (v := .string (str (((([BitVec.ofNat 8 t.length]) ++ (Oct.xor t Rc.ff)) ++ t) ++ f))) 12 rfl (by kernel_rfl) (by kernel_rfl) (by kernel_rfl) (by kernel_rfl) (fun _ _ _ h => h) (fun w' => y_as (ev (.string (str (((([BitVec.ofNat 8 t.length]) ++ (Oct.xor t Rc.ff)) ++ t) ++ f))) rfl rfl)) ?_
   refine d_done (by kernel_rfl) ?_
   clear hS
   refine then_n ?_
   refine sr ?_
   refine w_mv (ev (.string (str key)) rfl rfl) ?_
   refine w_mv (ev (.string (str vi)) rfl rfl) ?_
   refine w_mv (ev (.string (str (((([BitVec.ofNat 8 t.length]) ++ (Oct.xor t Rc.ff)) ++ t) ++ f))) rfl rfl) ?_
   refine w_call (Try.func25) (by kernel_rfl) rfl (m3 (ev (.string (str key)) rfl rfl) (ev (.string (str vi)) rfl rfl) (ev (.string (str (((([BitVec.ofNat 8 t.length]) ++ (Oct.xor t Rc.ff)) ++ t) ++ f))) rfl rfl)) (refChain_y_pre key vi hok hiv t f h3 h255 hf w16) ?_
   rintro _ w18 ⟨rfl, hb19⟩
   refine ⟨_, rfl, ?_⟩
   replace r_b_38 := r_b_38.step hb19
   replace hk := thenB hk hb19
   refine w_mv (ev (.tuple #[.string (str (Cb.chain key vi (Rc.pre t f))), .int .i64 0]) rfl rfl) ?_
   refine w_val (y_ext (v := .string (str (Cb.chain key vi (Rc.pre t f)))) (ev (.tuple #[.string (str (Cb.chain key vi (Rc.pre t f))), .int .i64 0]) rfl rfl) rfl) ?_
   refine w_val (y_ext (v := .int .i64 0) (ev (.tuple #[.string (str (Cb.chain key vi (Rc.pre t f))), .int .i64 0]) rfl rfl) rfl) ?_
   refine w_as (ev (.string (str (Cb.chain key vi (Rc.pre t f)))) rfl rfl) ?_
   refine nt ?_
   refine sr ?_
   refine w_mv (ev (.string (str key)) rfl rfl) ?_
   refine w_mv (ev (.string (str (Cb.chain key vi (Rc.pre t f)))) rfl rfl) ?_
   refine w_mv (ev (.string (str (Cb.chain key vi (Rc.pre t f)))) rfl rfl) ?_
   refine w_val (y_len (ev (.string (str (Cb.chain key vi (Rc.pre t f)))) rfl rfl) Try.underlying9) ?_
   refine w_val (y_bin (ev (.int .i64 (((Cb.chain key vi (Rc.pre t f)).length : Nat) : Int)) rfl rfl) (evc (.int .i64 16)) (b_sub (by omega))) ?_
   refine w_val (v := .string (str ((Cb.chain key vi (Rc.pre t f)).drop (((Cb.chain key vi (Rc.pre t f)).length) - 16)))) (y_slf (ev (.string (str (Cb.chain key vi (Rc.pre t f)))) rfl rfl) (evo.s (ev (.int .i64 ((((Cb.chain key vi (Rc.pre t f)).length : Nat) : Int) - 16)) rfl rfl)) Try.underlying9 (bnd_l (l := (((Cb.chain key vi (Rc.pre t f)).length) - 16)) (by omega) (by omega))) ?_
   refine w_mv (ev (.string (str (Cb.chain key vi (Rc.pre t f)))) rfl rfl) ?_
   refine w_call (Try.func25) (by kernel_rfl) rfl (m3 (ev (.string (str key)) rfl rfl) (ev (.string (str ((Cb.chain key vi (Rc.pre t f)).drop (((Cb.chain key vi (Rc.pre t f)).length) - 16)))) rfl rfl) (ev (.string (str (Cb.chain key vi (Rc.pre t f)))) rfl rfl)) (refChain_y key (Rc.tail (Cb.chain key vi (Rc.pre t f))) hok (Rc.tail_len _ (by omega)) (Cb.chain key vi (Rc.pre t f)) (by omega) (by omega) (by omega) w18) ?_
   rintro _ w20 ⟨rfl, hb21⟩
   refine ⟨_, rfl, ?_⟩
   replace r_b_38 := r_b_38.step hb21
   replace hk := thenB hk hb21
   refine w_mv (ev (.tuple #[.string (str (Rc.lock key vi t f)), .int .i64 0]) rfl rfl) ?_
   refine w_val (y_ext (v := .string (str (Rc.lock key vi t f))) (ev (.tuple #[.string (str (Rc.lock key vi t f)), .int .i64 0]) rfl rfl) rfl) ?_
   refine w_val (y_ext (v := .int .i64 0) (ev (.tuple #[.string (str (Rc.lock key vi t f)), .int .i64 0]) rfl rfl) rfl) ?_
   refine w_as (ev (.string (str (Rc.lock key vi t f))) rfl rfl) ?_
   refine w_as (ev (.int .i64 0) rfl rfl) ?_
   refine nt ?_
   refine sr ?_
   refine w_mv (ev (.string (str (Rc.lock key vi t f))) rfl rfl) ?_
   refine w_as (ev (.string (str (Rc.lock key vi t f))) rfl rfl) ?_
   refine w_as (evc (.int .i64 0)) ?_
   refine nt ?_
   refine wp_ret ?_
   refine fin_ret2 rfl (ev (.string (str (Rc.lock key vi t f))) rfl rfl) (ev (.int .i64 0) rfl rfl) ?_
   exact ⟨rfl, hk⟩
 ·skip
  refine w_call (Try.func59) (by kernel_rfl) rfl (m2 (ev (.string (str t)) rfl rfl) (evc (.string (str Rc.ff)))) (refXor_c t Rc.ff (by omega) w6) ?_
  rintro _ w22 ⟨rfl, hb23⟩
  refine ⟨_, rfl, ?_⟩
  replace hk := thenB hk hb23
  replace hS := thenB hS hb23
  refine wpList_nil ?_
  refine then_n ⟨fun _ h => thenB h (by assumption), ?_⟩
  refine d_one 3 (by kernel_rfl) rfl ?_
  refine w_bs1 (m := 1) (e := 5) (F := fun j => U8 (BitVec.ofNat 8 t.length)) (ev (U8 (BitVec.ofNat 8 t.length)) rfl rfl) (fun w => by kernel_rfl) ?_
  intro b_38 w24 hbe_b_38 r_b_38 hb25
  have ge_b_38 : w0.heap.size ≤ b_38 := by have := hk.size; omega
  clear hbe_b_38
  replace hk := thenB hk hb25
  replace hS := thenB hS hb25
  refine wpList_nil ?_
  refine then_n ⟨fun _ h => thenB h (by assumption), ?_⟩
  refine d_one 4 (by kernel_rfl) rfl ?_
  refine w_val (y_str (l := [BitVec.ofNat 8 t.length]) (ev (.slice (some ⟨b_38, 0, none⟩) 1 1) rfl rfl) (by rfl) Try.underlying54 Try.underlying5 Try.underlying9 (fun j hj => (r_b_38.val (by omega) (by (obtain rfl : j = 0 := (by omega)); rfl)))) ?_
  refine wpList_nil ?_
  refine then_n ⟨fun _ h => h, ?_⟩
  refine d_pure (v := .string (str (([BitVec.ofNat 8 t.length]) ++ (Oct.xor t Rc.ff)))) 7 rfl (by kernel_rfl) (by kernel_rfl) (by kernel_rfl) (by kernel_rfl) (fun _ _ _ h => h) (fun w' => y_bin (ev (.string (str ([BitVec.ofNat 8 t.length]))) rfl rfl) (ev (.string (str (Oct.xor t Rc.ff))) rfl rfl) (b_cat (by simp only [List.length_append, List.length_cons, List.length_nil, Oct.length_xor]; omega))) ?_
  refine d_pure (v := .string (str ((([BitVec.ofNat 8 t.length]) ++ (Oct.xor t Rc.ff)) ++ t))) 9 rfl (by kernel_rfl) (by kernel_rfl) (by kernel_rfl) (by kernel_rfl) (fun _ _ _ h => h) (fun w' => y_bin (ev (.string (str (([BitVec.ofNat 8 t.length]) ++ (Oct.xor t Rc.ff)))) rfl rfl) (ev (.string (str t)) rfl rfl) (b_cat (by simp only [List.length_append, List.length_cons, List.length_nil, Oct.length_xor]; omega))) ?_
  refine d_pure (v := .string (str (((([BitVec.ofNat 8 t.length]) ++ (Oct.xor t Rc.ff)) ++ t) ++ f))) 11 rfl (by kernel_rfl) (by kernel_rfl) (by kernel_rfl) (by kernel_rfl) (fun _ _ _ h => h) (fun w' => y_bin (ev (.string (str ((([BitVec.ofNat 8 t.length]) ++ (Oct.xor t Rc.ff)) ++ t))) rfl rfl) (ev (.string (str f)) rfl rfl) (b_cat (by simp only [List.length_append, List.length_cons, List.length_nil, Oct.length_xor]; omega))) ?_
  refine d_pure (v := .string (str (((([BitVec.ofNat 8 t.length]) ++ (Oct.xor t Rc.ff)) ++ t) ++ f))) 12 rfl (by kernel_rfl) (by kernel_rfl) (by kernel_rfl) (by kernel_rfl) (fun _ _ _ h => h) (fun w' => y_as (ev (.string (str (((([BitVec.ofNat 8 t.length]) ++ (Oct.xor t Rc.ff)) ++ t) ++ f))) rfl rfl)) ?_
  refine d_done (by kernel_rfl) ?_
  clear hS
  refine then_n ?_
  refine sr ?_
  refine w_mv (ev (.string (str key)) rfl rfl) ?_
  refine w_mv (ev (.string (str vi)) rfl rfl) ?_
  refine w_mv (ev (.string (str (((([BitVec.ofNat 8 t.length]) ++ (Oct.xor t Rc.ff)) ++ t) ++ f))) rfl rfl) ?_
  refine w_call (Try.func25) (by kernel_rfl) rfl (m3 (ev (.string (str key)) rfl rfl) (ev (.string (str vi)) rfl rfl) (ev (.string (str (((([BitVec.ofNat 8 t.length]) ++ (Oct.xor t Rc.ff)) ++ t) ++ f))) rfl rfl)) (refChain_y_pre key vi hok hiv t f h3 h255 hf w24) ?_
  rintro _ w26 ⟨rfl, hb27⟩
  refine ⟨_, rfl, ?_⟩
  replace r_b_38 := r_b_38.step hb27
  replace hk := thenB hk hb27
  refine w_mv (ev (.tuple #[.string (str (Cb.chain key vi (Rc.pre t f))), .int .i64 0]) rfl rfl) ?_
  refine w_val (y_ext (v := .string (str (Cb.chain key vi (Rc.pre t f)))) (ev (.tuple #[.string (str (Cb.chain key vi (Rc.pre t f))), .int .i64 0]) rfl rfl) rfl) ?_
  refine w_val (y_ext (v := .int .i64 0) (ev (.tuple #[.string (str (Cb.chain key vi (Rc.pre t f))), .int .i64 0]) rfl rfl) rfl) ?_
  refine w_as (ev (.string (str (Cb.chain key vi (Rc.pre t f)))) rfl rfl) ?_
  refine nt ?_
  refine sr ?_
  refine w_mv (ev (.string (str key)) rfl rfl) ?_
  refine w_mv (ev (.string (str (Cb.chain key vi (Rc.pre t f)))) rfl rfl) ?_
  refine w_mv (ev (.string (str (Cb.chain key vi (Rc.pre t f)))) rfl rfl) ?_
  refine w_val (y_len (ev (.string (str (Cb.chain key vi (Rc.pre t f)))) rfl rfl) Try.underlying9) ?_
  refine w_val (y_bin (ev (.int .i64 (((Cb.chain key vi (Rc.pre t f)).length : Nat) : Int)) rfl rfl) (evc (.int .i64 16)) (b_sub (by omega))) ?_
  refine w_val (v := .string (str ((Cb.chain key vi (Rc.pre t f)).drop (((Cb.chain key vi (Rc.pre t f)).length) - 16)))) (y_slf (ev (.string (str (Cb.chain key vi (Rc.pre t f)))) rfl rfl) (evo.s (ev (.int .i64 ((((Cb.chain key vi (Rc.pre t f)).length : Nat) : Int) - 16)) rfl rfl)) Try.underlying9 (bnd_l (l := (((Cb.chain key vi (Rc.pre t f)).length) - 16)) (by omega) (by omega))) ?_
  refine w_mv (ev (.string (str (Cb.chain key vi (Rc.pre t f)))) rfl rfl) ?_
  refine w_call (Try.func25) (by kernel_rfl) rfl (m3 (ev (.string (str key)) rfl rfl) (ev (.string (str ((Cb.chain key vi (Rc.pre t f)).drop (((Cb.chain key vi (Rc.pre t f)).length) - 16)))) rfl rfl) (ev (.string (str (Cb.chain key vi (Rc.pre t f)))) rfl rfl)) (refChain_y key (Rc.tail (Cb.chain key vi (Rc.pre t f))) hok (Rc.tail_len _ (by omega)) (Cb.chain key vi (Rc.pre t f)) (by omega) (by omega) (by omega) w26) ?_
  rintro _ w28 ⟨rfl, hb29⟩
  refine ⟨_, rfl, ?_⟩
  replace r_b_38 := r_b_38.step hb29
  replace hk := thenB hk hb29
  refine w_mv (ev (.tuple #[.string (str (Rc.lock key vi t f)), .int .i64 0]) rfl rfl) ?_
  refine w_val (y_ext (v := .string (str (Rc.lock key vi t f))) (ev (.tuple #[.string (str (Rc.lock key vi t f)), .int .i64 0]) rfl rfl) rfl) ?_
  refine w_val (y_ext (v := .int .i64 0) (ev (.tuple #[.string (str (Rc.lock key vi t f)), .int .i64 0]) rfl rfl) rfl) ?_
  refine w_as (ev (.string (str (Rc.lock key vi t f))) rfl rfl) ?_
  refine w_as (ev (.int .i64 0) rfl rfl) ?_
  refine nt ?_
  refine sr ?_
  refine w_mv (ev (.string (str (Rc.lock key vi t f))) rfl rfl) ?_
  refine w_as (ev (.string (str (Rc.lock key vi t f))) rfl rfl) ?_
  refine w_as (evc (.int .i64 0)) ?_
  refine nt ?_
  refine wp_ret ?_
  refine fin_ret2 rfl (ev (.string (str (Rc.lock key vi t f))) rfl rfl) (ev (.int .i64 0) rfl rfl) ?_
  exact ⟨rfl, hk⟩
end Go.Proofs.Ytjdcpejcnmpiaaa
