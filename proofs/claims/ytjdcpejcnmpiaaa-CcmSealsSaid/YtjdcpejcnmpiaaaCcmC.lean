/-
  Sealing and opening, by the program. Conditions as each says.
-/
import Derived.Test.YtjdcpejcnmpiaaaRows
import Derived.Test.YtjdcpejcnmpiaaaCcmB
import Derived.ProofKit
namespace Go.Proofs.Ytjdcpejcnmpiaaa
open Go.RowKit
set_option linter.unusedSimpArgs false
set_option linter.unusedVariables false
namespace CcmCT
theorem mixed : Try.prog.follows .mixedOrders = true := by kernel_rfl
theorem so3 : (Try.prog.underlying 3).isSome = true := by rw [Try.underlying3]; rfl
end CcmCT
set_option maxRecDepth 100000 in
set_option maxHeartbeats 1000000 in
theorem cmTag5_k (key nonce aad : List (BitVec 8)) (size : Int) (hok : ¬ Aes.okKey key.length) (text : List (BitVec 8)) (w0 : World) : Calls Try.prog 49 #[.string (str key), .string (str nonce), .string (str aad), .string (str text), .int .i64 size] w0 fun e w' => e = .returned (.tuple #[.string (str ([] : List (BitVec 8))), .int .i64 3]) ∧ Below w0.heap.size w0 w' := by
 refine enter (n := 32) Try.func49 rfl rfl rfl ?_
 have hk : Below w0.heap.size w0 w0 := Below.refl _ _
 refine sr ?_
 refine w_as (evc (.string (str ([] : List (BitVec 8))))) ?_
 refine w_as (evc (.int .i64 0)) ?_
 refine nt ?_
 refine wp_seq ?_
 refine sr ?_
 refine w_mv (ev (.string (str key)) rfl rfl) ?_
 refine w_mv (ev (.string (str nonce)) rfl rfl) ?_
 refine w_mv (ev (.string (str aad)) rfl rfl) ?_
 refine w_mv (ev (.int .i64 size) rfl rfl) ?_
 refine w_call (Try.func69) (by kernel_rfl) rfl (m4 (ev (.string (str key)) rfl rfl) (ev (.string (str nonce)) rfl rfl) (ev (.string (str aad)) rfl rfl) (ev (.int .i64 size) rfl rfl)) (cmWrong_k key nonce aad size hok w0) ?_
 rintro _ w1 ⟨rfl, hb2⟩
 refine ⟨_, rfl, ?_⟩
 replace hk := thenB hk hb2
 refine w_as (ev (.int .i64 3) rfl rfl) ?_
 refine nt ?_
 refine sr ?_
 refine w_mv (ev (.int .i64 3) rfl rfl) ?_
 refine w_val (y_bin (ev (.int .i64 3) rfl rfl) (evc (.int .i64 0)) b_neq) ?_
 refine nt ?_
 refine c_tt (ev (.bool true) rfl rfl) ?_
 refine sr ?_
 refine w_mv (ev (.int .i64 3) rfl rfl) ?_
 refine w_as (evc (.string (str ([] : List (BitVec 8))))) ?_
 refine w_as (ev (.int .i64 3) rfl rfl) ?_
 refine nt ?_
 refine wp_ret ?_
 refine then_r ?_
 refine fin_ret2 rfl (ev (.string (str ([] : List (BitVec 8)))) rfl rfl) (ev (.int .i64 3) rfl rfl) ?_
 exact ⟨rfl, hk⟩

set_option maxRecDepth 100000 in
set_option maxHeartbeats 1000000 in
theorem cmTag5_n (key nonce aad : List (BitVec 8)) (size : Int) (hok : Aes.okKey key.length) (hn : ¬ (7 ≤ nonce.length ∧ nonce.length ≤ 13)) (text : List (BitVec 8)) (w0 : World) : Calls Try.prog 49 #[.string (str key), .string (str nonce), .string (str aad), .string (str text), .int .i64 size] w0 fun e w' => e = .returned (.tuple #[.string (str ([] : List (BitVec 8))), .int .i64 4]) ∧ Below w0.heap.size w0 w' := by
 refine enter (n := 32) Try.func49 rfl rfl rfl ?_
 have hk : Below w0.heap.size w0 w0 := Below.refl _ _
 refine sr ?_
 refine w_as (evc (.string (str ([] : List (BitVec 8))))) ?_
 refine w_as (evc (.int .i64 0)) ?_
 refine nt ?_
 refine wp_seq ?_
 refine sr ?_
 refine w_mv (ev (.string (str key)) rfl rfl) ?_
 refine w_mv (ev (.string (str nonce)) rfl rfl) ?_
 refine w_mv (ev (.string (str aad)) rfl rfl) ?_
 refine w_mv (ev (.int .i64 size) rfl rfl) ?_
 refine w_call (Try.func69) (by kernel_rfl) rfl (m4 (ev (.string (str key)) rfl rfl) (ev (.string (str nonce)) rfl rfl) (ev (.string (str aad)) rfl rfl) (ev (.int .i64 size) rfl rfl)) (cmWrong_n key nonce aad size hok hn w0) ?_
 rintro _ w1 ⟨rfl, hb2⟩
 refine ⟨_, rfl, ?_⟩
 replace hk := thenB hk hb2
 refine w_as (ev (.int .i64 4) rfl rfl) ?_
 refine nt ?_
 refine sr ?_
 refine w_mv (ev (.int .i64 4) rfl rfl) ?_
 refine w_val (y_bin (ev (.int .i64 4) rfl rfl) (evc (.int .i64 0)) b_neq) ?_
 refine nt ?_
 refine c_tt (ev (.bool true) rfl rfl) ?_
 refine sr ?_
 refine w_mv (ev (.int .i64 4) rfl rfl) ?_
 refine w_as (evc (.string (str ([] : List (BitVec 8))))) ?_
 refine w_as (ev (.int .i64 4) rfl rfl) ?_
 refine nt ?_
 refine wp_ret ?_
 refine then_r ?_
 refine fin_ret2 rfl (ev (.string (str ([] : List (BitVec 8)))) rfl rfl) (ev (.int .i64 4) rfl rfl) ?_
 exact ⟨rfl, hk⟩

set_option maxRecDepth 100000 in
set_option maxHeartbeats 1000000 in
theorem cmTag5_t (key nonce aad : List (BitVec 8)) (size : Int) (hok : Aes.okKey key.length) (hn : 7 ≤ nonce.length ∧ nonce.length ≤ 13) (ht : ¬ (4 ≤ size ∧ size ≤ 16 ∧ size % 2 = 0)) (text : List (BitVec 8)) (w0 : World) : Calls Try.prog 49 #[.string (str key), .string (str nonce), .string (str aad), .string (str text), .int .i64 size] w0 fun e w' => e = .returned (.tuple #[.string (str ([] : List (BitVec 8))), .int .i64 5]) ∧ Below w0.heap.size w0 w' := by
 refine enter (n := 32) Try.func49 rfl rfl rfl ?_
 have hk : Below w0.heap.size w0 w0 := Below.refl _ _
 refine sr ?_
 refine w_as (evc (.string (str ([] : List (BitVec 8))))) ?_
 refine w_as (evc (.int .i64 0)) ?_
 refine nt ?_
 refine wp_seq ?_
 refine sr ?_
 refine w_mv (ev (.string (str key)) rfl rfl) ?_
 refine w_mv (ev (.string (str nonce)) rfl rfl) ?_
 refine w_mv (ev (.string (str aad)) rfl rfl) ?_
 refine w_mv (ev (.int .i64 size) rfl rfl) ?_
 refine w_call (Try.func69) (by kernel_rfl) rfl (m4 (ev (.string (str key)) rfl rfl) (ev (.string (str nonce)) rfl rfl) (ev (.string (str aad)) rfl rfl) (ev (.int .i64 size) rfl rfl)) (cmWrong_t key nonce aad size hok hn ht w0) ?_
 rintro _ w1 ⟨rfl, hb2⟩
 refine ⟨_, rfl, ?_⟩
 replace hk := thenB hk hb2
 refine w_as (ev (.int .i64 5) rfl rfl) ?_
 refine nt ?_
 refine sr ?_
 refine w_mv (ev (.int .i64 5) rfl rfl) ?_
 refine w_val (y_bin (ev (.int .i64 5) rfl rfl) (evc (.int .i64 0)) b_neq) ?_
 refine nt ?_
 refine c_tt (ev (.bool true) rfl rfl) ?_
 refine sr ?_
 refine w_mv (ev (.int .i64 5) rfl rfl) ?_
 refine w_as (evc (.string (str ([] : List (BitVec 8))))) ?_
 refine w_as (ev (.int .i64 5) rfl rfl) ?_
 refine nt ?_
 refine wp_ret ?_
 refine then_r ?_
 refine fin_ret2 rfl (ev (.string (str ([] : List (BitVec 8)))) rfl rfl) (ev (.int .i64 5) rfl rfl) ?_
 exact ⟨rfl, hk⟩

set_option maxRecDepth 100000 in
set_option maxHeartbeats 1000000 in
theorem cmTag5_a (key nonce aad : List (BitVec 8)) (size : Nat) (hok : Aes.okKey key.length) (hn : 7 ≤ nonce.length ∧ nonce.length ≤ 13) (h4 : 4 ≤ size) (h16 : size ≤ 16) (hev : size % 2 = 0) (ha : 70000 < aad.length) (text : List (BitVec 8)) (w0 : World) : Calls Try.prog 49 #[.string (str key), .string (str nonce), .string (str aad), .string (str text), .int .i64 ((size : Nat) : Int)] w0 fun e w' => e = .returned (.tuple #[.string (str ([] : List (BitVec 8))), .int .i64 6]) ∧ Below w0.heap.size w0 w' := by
 refine enter (n := 32) Try.func49 rfl rfl rfl ?_
 have hk : Below w0.heap.size w0 w0 := Below.refl _ _
 refine sr ?_
 refine w_as (evc (.string (str ([] : List (BitVec 8))))) ?_
 refine w_as (evc (.int .i64 0)) ?_
 refine nt ?_
 refine wp_seq ?_
 refine sr ?_
 refine w_mv (ev (.string (str key)) rfl rfl) ?_
 refine w_mv (ev (.string (str nonce)) rfl rfl) ?_
 refine w_mv (ev (.string (str aad)) rfl rfl) ?_
 refine w_mv (ev (.int .i64 ((size : Nat) : Int)) rfl rfl) ?_
 refine w_call (Try.func69) (by kernel_rfl) rfl (m4 (ev (.string (str key)) rfl rfl) (ev (.string (str nonce)) rfl rfl) (ev (.string (str aad)) rfl rfl) (ev (.int .i64 ((size : Nat) : Int)) rfl rfl)) (cmWrong_a key nonce aad size hok hn h4 h16 hev ha w0) ?_
 rintro _ w1 ⟨rfl, hb2⟩
 refine ⟨_, rfl, ?_⟩
 replace hk := thenB hk hb2
 refine w_as (ev (.int .i64 6) rfl rfl) ?_
 refine nt ?_
 refine sr ?_
 refine w_mv (ev (.int .i64 6) rfl rfl) ?_
 refine w_val (y_bin (ev (.int .i64 6) rfl rfl) (evc (.int .i64 0)) b_neq) ?_
 refine nt ?_
 refine c_tt (ev (.bool true) rfl rfl) ?_
 refine sr ?_
 refine w_mv (ev (.int .i64 6) rfl rfl) ?_
 refine w_as (evc (.string (str ([] : List (BitVec 8))))) ?_
 refine w_as (ev (.int .i64 6) rfl rfl) ?_
 refine nt ?_
 refine wp_ret ?_
 refine then_r ?_
 refine fin_ret2 rfl (ev (.string (str ([] : List (BitVec 8)))) rfl rfl) (ev (.int .i64 6) rfl rfl) ?_
 exact ⟨rfl, hk⟩

set_option maxRecDepth 100000 in
set_option maxHeartbeats 1000000 in
theorem cmTag5_z (key nonce aad : List (BitVec 8)) (size : Nat) (hok : Aes.okKey key.length) (hn : 7 ≤ nonce.length ∧ nonce.length ≤ 13) (h4 : 4 ≤ size) (h16 : size ≤ 16) (hev : size % 2 = 0) (ha : aad.length ≤ 70000) (text : List (BitVec 8)) (hl : text.length ≤ 1000000000000000) (hf : ¬ Cm.Fit text.length nonce) (w0 : World) : Calls Try.prog 49 #[.string (str key), .string (str nonce), .string (str aad), .string (str text), .int .i64 ((size : Nat) : Int)] w0 fun e w' => e = .returned (.tuple #[.string (str ([] : List (BitVec 8))), .int .i64 6]) ∧ Below w0.heap.size w0 w' := by
 refine enter (n := 32) Try.func49 rfl rfl rfl ?_
 have hk : Below w0.heap.size w0 w0 := Below.refl _ _
 refine sr ?_
 refine w_as (evc (.string (str ([] : List (BitVec 8))))) ?_
 refine w_as (evc (.int .i64 0)) ?_
 refine nt ?_
 refine wp_seq ?_
 refine sr ?_
 refine w_mv (ev (.string (str key)) rfl rfl) ?_
 refine w_mv (ev (.string (str nonce)) rfl rfl) ?_
 refine w_mv (ev (.string (str aad)) rfl rfl) ?_
 refine w_mv (ev (.int .i64 ((size : Nat) : Int)) rfl rfl) ?_
 refine w_call (Try.func69) (by kernel_rfl) rfl (m4 (ev (.string (str key)) rfl rfl) (ev (.string (str nonce)) rfl rfl) (ev (.string (str aad)) rfl rfl) (ev (.int .i64 ((size : Nat) : Int)) rfl rfl)) (cmWrong_y key nonce aad size hok hn h4 h16 hev ha w0) ?_
 rintro _ w1 ⟨rfl, hb2⟩
 refine ⟨_, rfl, ?_⟩
 replace hk := thenB hk hb2
 refine w_as (ev (.int .i64 0) rfl rfl) ?_
 refine nt ?_
 refine sr ?_
 refine w_mv (ev (.int .i64 0) rfl rfl) ?_
 refine w_val (y_bin (ev (.int .i64 0) rfl rfl) (evc (.int .i64 0)) b_neq) ?_
 refine nt ?_
 refine c_ff (ev (.bool false) rfl rfl) ?_
 refine wp_skip ?_
 refine then_n ?_
 refine wp_seq ?_
 refine sr ?_
 refine w_mv (ev (.string (str text)) rfl rfl) ?_
 refine w_val (y_len (ev (.string (str text)) rfl rfl) Try.underlying9) ?_
 refine w_mv (ev (.string (str nonce)) rfl rfl) ?_
 refine w_call (Try.func70) (by kernel_rfl) rfl (m2 (ev (.int .i64 ((text.length : Nat) : Int)) rfl rfl) (ev (.string (str nonce)) rfl rfl)) (cmFits text.length nonce (by omega) w1) ?_
 rintro _ w3 ⟨rfl, hb4⟩
 refine ⟨_, rfl, ?_⟩
 replace hk := thenB hk hb4
 refine w_val (y_notp (ev (.bool (decide (Cm.Fit text.length nonce))) rfl rfl)) ?_
 refine nt ?_
 have hc5 : ¬ (Cm.Fit text.length nonce) := by exact hf
 refine c_t (p := ¬ (Cm.Fit text.length nonce)) (ev (.bool (decide (¬ (Cm.Fit text.length nonce)))) rfl rfl) hc5 ?_
 refine sr ?_
 refine w_as (evc (.string (str ([] : List (BitVec 8))))) ?_
 refine w_as (evc (.int .i64 6)) ?_
 refine nt ?_
 refine wp_ret ?_
 refine then_r ?_
 refine fin_ret2 rfl (ev (.string (str ([] : List (BitVec 8)))) rfl rfl) (ev (.int .i64 6) rfl rfl) ?_
 exact ⟨rfl, hk⟩

set_option maxRecDepth 100000 in
set_option maxHeartbeats 1000000 in
theorem cmTag5_y (key nonce aad : List (BitVec 8)) (size : Nat) (hok : Aes.okKey key.length) (hn : 7 ≤ nonce.length ∧ nonce.length ≤ 13) (h4 : 4 ≤ size) (h16 : size ≤ 16) (hev : size % 2 = 0) (ha : aad.length ≤ 70000) (text : List (BitVec 8)) (hl : text.length ≤ 1000000000000000) (hf : Cm.Fit text.length nonce) (hs : aad.length + text.length ≤ 139960) (w0 : World) : Calls Try.prog 49 #[.string (str key), .string (str nonce), .string (str aad), .string (str text), .int .i64 ((size : Nat) : Int)] w0 fun e w' => e = .returned (.tuple #[.string (str (Cm.tg key nonce aad text (15 - nonce.length) size)), .int .i64 0]) ∧ Below w0.heap.size w0 w' := by
 have hf1 := hf.1
 refine enter (n := 32) Try.func49 rfl rfl rfl ?_
 have hk : Below w0.heap.size w0 w0 := Below.refl _ _
 refine sr ?_
 refine w_as (evc (.string (str ([] : List (BitVec 8))))) ?_
 refine w_as (evc (.int .i64 0)) ?_
 refine nt ?_
 refine wp_seq ?_
 refine sr ?_
 refine w_mv (ev (.string (str key)) rfl rfl) ?_
 refine w_mv (ev (.string (str nonce)) rfl rfl) ?_
 refine w_mv (ev (.string (str aad)) rfl rfl) ?_
 refine w_mv (ev (.int .i64 ((size : Nat) : Int)) rfl rfl) ?_
 refine w_call (Try.func69) (by kernel_rfl) rfl (m4 (ev (.string (str key)) rfl rfl) (ev (.string (str nonce)) rfl rfl) (ev (.string (str aad)) rfl rfl) (ev (.int .i64 ((size : Nat) : Int)) rfl rfl)) (cmWrong_y key nonce aad size hok hn h4 h16 hev ha w0) ?_
 rintro _ w1 ⟨rfl, hb2⟩
 refine ⟨_, rfl, ?_⟩
 replace hk := thenB hk hb2
 refine w_as (ev (.int .i64 0) rfl rfl) ?_
 refine nt ?_
 refine sr ?_
 refine w_mv (ev (.int .i64 0) rfl rfl) ?_
 refine w_val (y_bin (ev (.int .i64 0) rfl rfl) (evc (.int .i64 0)) b_neq) ?_
 refine nt ?_
 refine c_ff (ev (.bool false) rfl rfl) ?_
 refine wp_skip ?_
 refine then_n ?_
 refine wp_seq ?_
 refine sr ?_
 refine w_mv (ev (.string (str text)) rfl rfl) ?_
 refine w_val (y_len (ev (.string (str text)) rfl rfl) Try.underlying9) ?_
 refine w_mv (ev (.string (str nonce)) rfl rfl) ?_
 refine w_call (Try.func70) (by kernel_rfl) rfl (m2 (ev (.int .i64 ((text.length : Nat) : Int)) rfl rfl) (ev (.string (str nonce)) rfl rfl)) (cmFits text.length nonce (by omega) w1) ?_
 rintro _ w3 ⟨rfl, hb4⟩
 refine ⟨_, rfl, ?_⟩
 replace hk := thenB hk hb4
 refine w_val (y_notp (ev (.bool (decide (Cm.Fit text.length nonce))) rfl rfl)) ?_
 refine nt ?_
 have hc5 : ¬ (¬ (Cm.Fit text.length nonce)) := by exact fun h => h hf
 refine c_f (p := ¬ (Cm.Fit text.length nonce)) (ev (.bool (decide (¬ (Cm.Fit text.length nonce)))) rfl rfl) hc5 ?_
 refine wp_skip ?_
 refine then_n ?_
 refine sr ?_
 refine w_mv (ev (.string (str key)) rfl rfl) ?_
 refine w_mv (ev (.string (str nonce)) rfl rfl) ?_
 refine w_mv (ev (.string (str aad)) rfl rfl) ?_
 refine w_mv (ev (.string (str text)) rfl rfl) ?_
 refine w_mv (ev (.int .i64 ((size : Nat) : Int)) rfl rfl) ?_
 refine w_call (Try.func72) (by kernel_rfl) rfl (m5 (ev (.string (str key)) rfl rfl) (ev (.string (str nonce)) rfl rfl) (ev (.string (str aad)) rfl rfl) (ev (.string (str text)) rfl rfl) (ev (.int .i64 ((size : Nat) : Int)) rfl rfl)) (cmTag key nonce aad text (15 - nonce.length) (by omega) (by omega) (by omega) size h4 h16 hev hok ha hf (by omega) w3) ?_
 rintro _ w6 ⟨rfl, hb7⟩
 refine ⟨_, rfl, ?_⟩
 replace hk := thenB hk hb7
 refine w_as (ev (.string (str (Cm.tg key nonce aad text (15 - nonce.length) size))) rfl rfl) ?_
 refine w_as (evc (.int .i64 0)) ?_
 refine nt ?_
 refine wp_ret ?_
 refine fin_ret2 rfl (ev (.string (str (Cm.tg key nonce aad text (15 - nonce.length) size))) rfl rfl) (ev (.int .i64 0) rfl rfl) ?_
 exact ⟨rfl, hk⟩

set_option maxRecDepth 100000 in
set_option maxHeartbeats 1000000 in
theorem cmSeal_k (key nonce aad : List (BitVec 8)) (size : Int) (hok : ¬ Aes.okKey key.length) (text : List (BitVec 8)) (w0 : World) : Calls Try.prog 45 #[.string (str key), .string (str nonce), .string (str aad), .string (str text), .int .i64 size] w0 fun e w' => e = .returned (.tuple #[.string (str ([] : List (BitVec 8))), .int .i64 3]) ∧ Below w0.heap.size w0 w' := by
 refine enter (n := 37) Try.func45 rfl rfl rfl ?_
 have hk : Below w0.heap.size w0 w0 := Below.refl _ _
 refine sr ?_
 refine w_as (evc (.string (str ([] : List (BitVec 8))))) ?_
 refine w_as (evc (.int .i64 0)) ?_
 refine nt ?_
 refine wp_seq ?_
 refine sr ?_
 refine w_mv (ev (.string (str key)) rfl rfl) ?_
 refine w_mv (ev (.string (str nonce)) rfl rfl) ?_
 refine w_mv (ev (.string (str aad)) rfl rfl) ?_
 refine w_mv (ev (.int .i64 size) rfl rfl) ?_
 refine w_call (Try.func69) (by kernel_rfl) rfl (m4 (ev (.string (str key)) rfl rfl) (ev (.string (str nonce)) rfl rfl) (ev (.string (str aad)) rfl rfl) (ev (.int .i64 size) rfl rfl)) (cmWrong_k key nonce aad size hok w0) ?_
 rintro _ w1 ⟨rfl, hb2⟩
 refine ⟨_, rfl, ?_⟩
 replace hk := thenB hk hb2
 refine w_as (ev (.int .i64 3) rfl rfl) ?_
 refine nt ?_
 refine sr ?_
 refine w_mv (ev (.int .i64 3) rfl rfl) ?_
 refine w_val (y_bin (ev (.int .i64 3) rfl rfl) (evc (.int .i64 0)) b_neq) ?_
 refine nt ?_
 refine c_tt (ev (.bool true) rfl rfl) ?_
 refine sr ?_
 refine w_mv (ev (.int .i64 3) rfl rfl) ?_
 refine w_as (evc (.string (str ([] : List (BitVec 8))))) ?_
 refine w_as (ev (.int .i64 3) rfl rfl) ?_
 refine nt ?_
 refine wp_ret ?_
 refine then_r ?_
 refine fin_ret2 rfl (ev (.string (str ([] : List (BitVec 8)))) rfl rfl) (ev (.int .i64 3) rfl rfl) ?_
 exact ⟨rfl, hk⟩

set_option maxRecDepth 100000 in
set_option maxHeartbeats 1000000 in
theorem cmSeal_n (key nonce aad : List (BitVec 8)) (size : Int) (hok : Aes.okKey key.length) (hn : ¬ (7 ≤ nonce.length ∧ nonce.length ≤ 13)) (text : List (BitVec 8)) (w0 : World) : Calls Try.prog 45 #[.string (str key), .string (str nonce), .string (str aad), .string (str text), .int .i64 size] w0 fun e w' => e = .returned (.tuple #[.string (str ([] : List (BitVec 8))), .int .i64 4]) ∧ Below w0.heap.size w0 w' := by
 refine enter (n := 37) Try.func45 rfl rfl rfl ?_
 have hk : Below w0.heap.size w0 w0 := Below.refl _ _
 refine sr ?_
 refine w_as (evc (.string (str ([] : List (BitVec 8))))) ?_
 refine w_as (evc (.int .i64 0)) ?_
 refine nt ?_
 refine wp_seq ?_
 refine sr ?_
 refine w_mv (ev (.string (str key)) rfl rfl) ?_
 refine w_mv (ev (.string (str nonce)) rfl rfl) ?_
 refine w_mv (ev (.string (str aad)) rfl rfl) ?_
 refine w_mv (ev (.int .i64 size) rfl rfl) ?_
 refine w_call (Try.func69) (by kernel_rfl) rfl (m4 (ev (.string (str key)) rfl rfl) (ev (.string (str nonce)) rfl rfl) (ev (.string (str aad)) rfl rfl) (ev (.int .i64 size) rfl rfl)) (cmWrong_n key nonce aad size hok hn w0) ?_
 rintro _ w1 ⟨rfl, hb2⟩
 refine ⟨_, rfl, ?_⟩
 replace hk := thenB hk hb2
 refine w_as (ev (.int .i64 4) rfl rfl) ?_
 refine nt ?_
 refine sr ?_
 refine w_mv (ev (.int .i64 4) rfl rfl) ?_
 refine w_val (y_bin (ev (.int .i64 4) rfl rfl) (evc (.int .i64 0)) b_neq) ?_
 refine nt ?_
 refine c_tt (ev (.bool true) rfl rfl) ?_
 refine sr ?_
 refine w_mv (ev (.int .i64 4) rfl rfl) ?_
 refine w_as (evc (.string (str ([] : List (BitVec 8))))) ?_
 refine w_as (ev (.int .i64 4) rfl rfl) ?_
 refine nt ?_
 refine wp_ret ?_
 refine then_r ?_
 refine fin_ret2 rfl (ev (.string (str ([] : List (BitVec 8)))) rfl rfl) (ev (.int .i64 4) rfl rfl) ?_
 exact ⟨rfl, hk⟩

set_option maxRecDepth 100000 in
set_option maxHeartbeats 1000000 in
theorem cmSeal_t (key nonce aad : List (BitVec 8)) (size : Int) (hok : Aes.okKey key.length) (hn : 7 ≤ nonce.length ∧ nonce.length ≤ 13) (ht : ¬ (4 ≤ size ∧ size ≤ 16 ∧ size % 2 = 0)) (text : List (BitVec 8)) (w0 : World) : Calls Try.prog 45 #[.string (str key), .string (str nonce), .string (str aad), .string (str text), .int .i64 size] w0 fun e w' => e = .returned (.tuple #[.string (str ([] : List (BitVec 8))), .int .i64 5]) ∧ Below w0.heap.size w0 w' := by
 refine enter (n := 37) Try.func45 rfl rfl rfl ?_
 have hk : Below w0.heap.size w0 w0 := Below.refl _ _
 refine sr ?_
 refine w_as (evc (.string (str ([] : List (BitVec 8))))) ?_
 refine w_as (evc (.int .i64 0)) ?_
 refine nt ?_
 refine wp_seq ?_
 refine sr ?_
 refine w_mv (ev (.string (str key)) rfl rfl) ?_
 refine w_mv (ev (.string (str nonce)) rfl rfl) ?_
 refine w_mv (ev (.string (str aad)) rfl rfl) ?_
 refine w_mv (ev (.int .i64 size) rfl rfl) ?_
 refine w_call (Try.func69) (by kernel_rfl) rfl (m4 (ev (.string (str key)) rfl rfl) (ev (.string (str nonce)) rfl rfl) (ev (.string (str aad)) rfl rfl) (ev (.int .i64 size) rfl rfl)) (cmWrong_t key nonce aad size hok hn ht w0) ?_
 rintro _ w1 ⟨rfl, hb2⟩
 refine ⟨_, rfl, ?_⟩
 replace hk := thenB hk hb2
 refine w_as (ev (.int .i64 5) rfl rfl) ?_
 refine nt ?_
 refine sr ?_
 refine w_mv (ev (.int .i64 5) rfl rfl) ?_
 refine w_val (y_bin (ev (.int .i64 5) rfl rfl) (evc (.int .i64 0)) b_neq) ?_
 refine nt ?_
 refine c_tt (ev (.bool true) rfl rfl) ?_
 refine sr ?_
 refine w_mv (ev (.int .i64 5) rfl rfl) ?_
 refine w_as (evc (.string (str ([] : List (BitVec 8))))) ?_
 refine w_as (ev (.int .i64 5) rfl rfl) ?_
 refine nt ?_
 refine wp_ret ?_
 refine then_r ?_
 refine fin_ret2 rfl (ev (.string (str ([] : List (BitVec 8)))) rfl rfl) (ev (.int .i64 5) rfl rfl) ?_
 exact ⟨rfl, hk⟩

set_option maxRecDepth 100000 in
set_option maxHeartbeats 1000000 in
theorem cmSeal_a (key nonce aad : List (BitVec 8)) (size : Nat) (hok : Aes.okKey key.length) (hn : 7 ≤ nonce.length ∧ nonce.length ≤ 13) (h4 : 4 ≤ size) (h16 : size ≤ 16) (hev : size % 2 = 0) (ha : 70000 < aad.length) (text : List (BitVec 8)) (w0 : World) : Calls Try.prog 45 #[.string (str key), .string (str nonce), .string (str aad), .string (str text), .int .i64 ((size : Nat) : Int)] w0 fun e w' => e = .returned (.tuple #[.string (str ([] : List (BitVec 8))), .int .i64 6]) ∧ Below w0.heap.size w0 w' := by
 refine enter (n := 37) Try.func45 rfl rfl rfl ?_
 have hk : Below w0.heap.size w0 w0 := Below.refl _ _
 refine sr ?_
 refine w_as (evc (.string (str ([] : List (BitVec 8))))) ?_
 refine w_as (evc (.int .i64 0)) ?_
 refine nt ?_
 refine wp_seq ?_
 refine sr ?_
 refine w_mv (ev (.string (str key)) rfl rfl) ?_
 refine w_mv (ev (.string (str nonce)) rfl rfl) ?_
 refine w_mv (ev (.string (str aad)) rfl rfl) ?_
 refine w_mv (ev (.int .i64 ((size : Nat) : Int)) rfl rfl) ?_
 refine w_call (Try.func69) (by kernel_rfl) rfl (m4 (ev (.string (str key)) rfl rfl) (ev (.string (str nonce)) rfl rfl) (ev (.string (str aad)) rfl rfl) (ev (.int .i64 ((size : Nat) : Int)) rfl rfl)) (cmWrong_a key nonce aad size hok hn h4 h16 hev ha w0) ?_
 rintro _ w1 ⟨rfl, hb2⟩
 refine ⟨_, rfl, ?_⟩
 replace hk := thenB hk hb2
 refine w_as (ev (.int .i64 6) rfl rfl) ?_
 refine nt ?_
 refine sr ?_
 refine w_mv (ev (.int .i64 6) rfl rfl) ?_
 refine w_val (y_bin (ev (.int .i64 6) rfl rfl) (evc (.int .i64 0)) b_neq) ?_
 refine nt ?_
 refine c_tt (ev (.bool true) rfl rfl) ?_
 refine sr ?_
 refine w_mv (ev (.int .i64 6) rfl rfl) ?_
 refine w_as (evc (.string (str ([] : List (BitVec 8))))) ?_
 refine w_as (ev (.int .i64 6) rfl rfl) ?_
 refine nt ?_
 refine wp_ret ?_
 refine then_r ?_
 refine fin_ret2 rfl (ev (.string (str ([] : List (BitVec 8)))) rfl rfl) (ev (.int .i64 6) rfl rfl) ?_
 exact ⟨rfl, hk⟩

set_option maxRecDepth 100000 in
set_option maxHeartbeats 1000000 in
theorem cmSeal_z (key nonce aad : List (BitVec 8)) (size : Nat) (hok : Aes.okKey key.length) (hn : 7 ≤ nonce.length ∧ nonce.length ≤ 13) (h4 : 4 ≤ size) (h16 : size ≤ 16) (hev : size % 2 = 0) (ha : aad.length ≤ 70000) (text : List (BitVec 8)) (hl : text.length ≤ 1000000000000000) (hf : ¬ Cm.Fit text.length nonce) (w0 : World) : Calls Try.prog 45 #[.string (str key), .string (str nonce), .string (str aad), .string (str text), .int .i64 ((size : Nat) : Int)] w0 fun e w' => e = .returned (.tuple #[.string (str ([] : List (BitVec 8))), .int .i64 6]) ∧ Below w0.heap.size w0 w' := by
 refine enter (n := 37) Try.func45 rfl rfl rfl ?_
 have hk : Below w0.heap.size w0 w0 := Below.refl _ _
 refine sr ?_
 refine w_as (evc (.string (str ([] : List (BitVec 8))))) ?_
 refine w_as (evc (.int .i64 0)) ?_
 refine nt ?_
 refine wp_seq ?_
 refine sr ?_
 refine w_mv (ev (.string (str key)) rfl rfl) ?_
 refine w_mv (ev (.string (str nonce)) rfl rfl) ?_
 refine w_mv (ev (.string (str aad)) rfl rfl) ?_
 refine w_mv (ev (.int .i64 ((size : Nat) : Int)) rfl rfl) ?_
 refine w_call (Try.func69) (by kernel_rfl) rfl (m4 (ev (.string (str key)) rfl rfl) (ev (.string (str nonce)) rfl rfl) (ev (.string (str aad)) rfl rfl) (ev (.int .i64 ((size : Nat) : Int)) rfl rfl)) (cmWrong_y key nonce aad size hok hn h4 h16 hev ha w0) ?_
 rintro _ w1 ⟨rfl, hb2⟩
 refine ⟨_, rfl, ?_⟩
 replace hk := thenB hk hb2
 refine w_as (ev (.int .i64 0) rfl rfl) ?_
 refine nt ?_
 refine sr ?_
 refine w_mv (ev (.int .i64 0) rfl rfl) ?_
 refine w_val (y_bin (ev (.int .i64 0) rfl rfl) (evc (.int .i64 0)) b_neq) ?_
 refine nt ?_
 refine c_ff (ev (.bool false) rfl rfl) ?_
 refine wp_skip ?_
 refine then_n ?_
 refine wp_seq ?_
 refine sr ?_
 refine w_mv (ev (.string (str text)) rfl rfl) ?_
 refine w_val (y_len (ev (.string (str text)) rfl rfl) Try.underlying9) ?_
 refine w_mv (ev (.string (str nonce)) rfl rfl) ?_
 refine w_call (Try.func70) (by kernel_rfl) rfl (m2 (ev (.int .i64 ((text.length : Nat) : Int)) rfl rfl) (ev (.string (str nonce)) rfl rfl)) (cmFits text.length nonce (by omega) w1) ?_
 rintro _ w3 ⟨rfl, hb4⟩
 refine ⟨_, rfl, ?_⟩
 replace hk := thenB hk hb4
 refine w_val (y_notp (ev (.bool (decide (Cm.Fit text.length nonce))) rfl rfl)) ?_
 refine nt ?_
 have hc5 : ¬ (Cm.Fit text.length nonce) := by exact hf
 refine c_t (p := ¬ (Cm.Fit text.length nonce)) (ev (.bool (decide (¬ (Cm.Fit text.length nonce)))) rfl rfl) hc5 ?_
 refine sr ?_
 refine w_as (evc (.string (str ([] : List (BitVec 8))))) ?_
 refine w_as (evc (.int .i64 6)) ?_
 refine nt ?_
 refine wp_ret ?_
 refine then_r ?_
 refine fin_ret2 rfl (ev (.string (str ([] : List (BitVec 8)))) rfl rfl) (ev (.int .i64 6) rfl rfl) ?_
 exact ⟨rfl, hk⟩

set_option maxRecDepth 100000 in
set_option maxHeartbeats 1000000 in
theorem cmSeal_y (key nonce aad : List (BitVec 8)) (size : Nat) (hok : Aes.okKey key.length) (hn : 7 ≤ nonce.length ∧ nonce.length ≤ 13) (h4 : 4 ≤ size) (h16 : size ≤ 16) (hev : size % 2 = 0) (ha : aad.length ≤ 70000) (text : List (BitVec 8)) (hl : text.length ≤ 1000000000000000) (hf : Cm.Fit text.length nonce) (hs : aad.length + text.length ≤ 139960) (w0 : World) : Calls Try.prog 45 #[.string (str key), .string (str nonce), .string (str aad), .string (str text), .int .i64 ((size : Nat) : Int)] w0 fun e w' => e = .returned (.tuple #[.string (str (Cm.sealed key nonce aad text (15 - nonce.length) size)), .int .i64 0]) ∧ Below w0.heap.size w0 w' := by
 have hf1 := hf.1
 refine enter (n := 37) Try.func45 rfl rfl rfl ?_
 have hk : Below w0.heap.size w0 w0 := Below.refl _ _
 refine sr ?_
 refine w_as (evc (.string (str ([] : List (BitVec 8))))) ?_
 refine w_as (evc (.int .i64 0)) ?_
 refine nt ?_
 refine wp_seq ?_
 refine sr ?_
 refine w_mv (ev (.string (str key)) rfl rfl) ?_
 refine w_mv (ev (.string (str nonce)) rfl rfl) ?_
 refine w_mv (ev (.string (str aad)) rfl rfl) ?_
 refine w_mv (ev (.int .i64 ((size : Nat) : Int)) rfl rfl) ?_
 refine w_call (Try.func69) (by kernel_rfl) rfl (m4 (ev (.string (str key)) rfl rfl) (ev (.string (str nonce)) rfl rfl) (ev (.string (str aad)) rfl rfl) (ev (.int .i64 ((size : Nat) : Int)) rfl rfl)) (cmWrong_y key nonce aad size hok hn h4 h16 hev ha w0) ?_
 rintro _ w1 ⟨rfl, hb2⟩
 refine ⟨_, rfl, ?_⟩
 replace hk := thenB hk hb2
 refine w_as (ev (.int .i64 0) rfl rfl) ?_
 refine nt ?_
 refine sr ?_
 refine w_mv (ev (.int .i64 0) rfl rfl) ?_
 refine w_val (y_bin (ev (.int .i64 0) rfl rfl) (evc (.int .i64 0)) b_neq) ?_
 refine nt ?_
 refine c_ff (ev (.bool false) rfl rfl) ?_
 refine wp_skip ?_
 refine then_n ?_
 refine wp_seq ?_
 refine sr ?_
 refine w_mv (ev (.string (str text)) rfl rfl) ?_
 refine w_val (y_len (ev (.string (str text)) rfl rfl) Try.underlying9) ?_
 refine w_mv (ev (.string (str nonce)) rfl rfl) ?_
 refine w_call (Try.func70) (by kernel_rfl) rfl (m2 (ev (.int .i64 ((text.length : Nat) : Int)) rfl rfl) (ev (.string (str nonce)) rfl rfl)) (cmFits text.length nonce (by omega) w1) ?_
 rintro _ w3 ⟨rfl, hb4⟩
 refine ⟨_, rfl, ?_⟩
 replace hk := thenB hk hb4
 refine w_val (y_notp (ev (.bool (decide (Cm.Fit text.length nonce))) rfl rfl)) ?_
 refine nt ?_
 have hc5 : ¬ (¬ (Cm.Fit text.length nonce)) := by exact fun h => h hf
 refine c_f (p := ¬ (Cm.Fit text.length nonce)) (ev (.bool (decide (¬ (Cm.Fit text.length nonce)))) rfl rfl) hc5 ?_
 refine wp_skip ?_
 refine then_n ?_
 refine sr ?_
 refine w_mv (ev (.string (str key)) rfl rfl) ?_
 refine w_mv (ev (.string (str nonce)) rfl rfl) ?_
 refine w_mv (ev (.string (str text)) rfl rfl) ?_
 refine w_call (Try.func71) (by kernel_rfl) rfl (m3 (ev (.string (str key)) rfl rfl) (ev (.string (str nonce)) rfl rfl) (ev (.string (str text)) rfl rfl)) (cmXor key nonce text (15 - nonce.length) (by omega) (by omega) (by omega) hok (by omega) w3) ?_
 rintro _ w6 ⟨rfl, hb7⟩
 refine ⟨_, rfl, ?_⟩
 replace hk := thenB hk hb7
 refine w_mv (ev (.string (str key)) rfl rfl) ?_
 refine w_mv (ev (.string (str nonce)) rfl rfl) ?_
 refine w_mv (ev (.string (str aad)) rfl rfl) ?_
 refine w_mv (ev (.string (str text)) rfl rfl) ?_
 refine w_mv (ev (.int .i64 ((size : Nat) : Int)) rfl rfl) ?_
 refine w_call (Try.func72) (by kernel_rfl) rfl (m5 (ev (.string (str key)) rfl rfl) (ev (.string (str nonce)) rfl rfl) (ev (.string (str aad)) rfl rfl) (ev (.string (str text)) rfl rfl) (ev (.int .i64 ((size : Nat) : Int)) rfl rfl)) (cmTag key nonce aad text (15 - nonce.length) (by omega) (by omega) (by omega) size h4 h16 hev hok ha hf (by omega) w6) ?_
 rintro _ w8 ⟨rfl, hb9⟩
 refine ⟨_, rfl, ?_⟩
 replace hk := thenB hk hb9
 refine w_val (y_bin (ev (.string (str (Cm.xr key nonce text (15 - nonce.length)))) rfl rfl) (ev (.string (str (Cm.tg key nonce aad text (15 - nonce.length) size))) rfl rfl) (b_cat (by rw [Cm.xr_len, Cm.tg_len _ _ _ _ _ _ hok h16]; omega))) ?_
 refine w_as (ev (.string (str ((Cm.xr key nonce text (15 - nonce.length)) ++ (Cm.tg key nonce aad text (15 - nonce.length) size)))) rfl rfl) ?_
 refine w_as (evc (.int .i64 0)) ?_
 refine nt ?_
 refine wp_ret ?_
 refine fin_ret2 rfl (ev (.string (str ((Cm.xr key nonce text (15 - nonce.length)) ++ (Cm.tg key nonce aad text (15 - nonce.length) size)))) rfl rfl) (ev (.int .i64 0) rfl rfl) ?_
 refine ⟨congrArg Ending.returned ?_, hk⟩
 show (.tuple #[.string (str ((Cm.xr key nonce text (15 - nonce.length)) ++ (Cm.tg key nonce aad text (15 - nonce.length) size))), .int .i64 0] : Value) = .tuple #[.string (str (Cm.sealed key nonce aad text (15 - nonce.length) size)), .int .i64 0]
 first | with_reducible rfl | (with_reducible congr 1 <;> omega) | (with_reducible congr 2 <;> omega) | (with_reducible congr 3 <;> omega) | rfl

set_option maxRecDepth 100000 in
set_option maxHeartbeats 1000000 in
theorem cmOpen_k (key nonce aad : List (BitVec 8)) (size : Int) (hok : ¬ Aes.okKey key.length) (text : List (BitVec 8)) (w0 : World) : Calls Try.prog 47 #[.string (str key), .string (str nonce), .string (str aad), .string (str text), .int .i64 size] w0 fun e w' => e = .returned (.tuple #[.string (str ([] : List (BitVec 8))), .int .i64 3]) ∧ Below w0.heap.size w0 w' := by
 refine enter (n := 53) Try.func47 rfl rfl rfl ?_
 have hk : Below w0.heap.size w0 w0 := Below.refl _ _
 refine sr ?_
 refine w_as (evc (.string (str ([] : List (BitVec 8))))) ?_
 refine w_as (evc (.int .i64 0)) ?_
 refine nt ?_
 refine wp_seq ?_
 refine sr ?_
 refine w_mv (ev (.string (str key)) rfl rfl) ?_
 refine w_mv (ev (.string (str nonce)) rfl rfl) ?_
 refine w_mv (ev (.string (str aad)) rfl rfl) ?_
 refine w_mv (ev (.int .i64 size) rfl rfl) ?_
 refine w_call (Try.func69) (by kernel_rfl) rfl (m4 (ev (.string (str key)) rfl rfl) (ev (.string (str nonce)) rfl rfl) (ev (.string (str aad)) rfl rfl) (ev (.int .i64 size) rfl rfl)) (cmWrong_k key nonce aad size hok w0) ?_
 rintro _ w1 ⟨rfl, hb2⟩
 refine ⟨_, rfl, ?_⟩
 replace hk := thenB hk hb2
 refine w_as (ev (.int .i64 3) rfl rfl) ?_
 refine nt ?_
 refine sr ?_
 refine w_mv (ev (.int .i64 3) rfl rfl) ?_
 refine w_val (y_bin (ev (.int .i64 3) rfl rfl) (evc (.int .i64 0)) b_neq) ?_
 refine nt ?_
 refine c_tt (ev (.bool true) rfl rfl) ?_
 refine sr ?_
 refine w_mv (ev (.int .i64 3) rfl rfl) ?_
 refine w_as (evc (.string (str ([] : List (BitVec 8))))) ?_
 refine w_as (ev (.int .i64 3) rfl rfl) ?_
 refine nt ?_
 refine wp_ret ?_
 refine then_r ?_
 refine fin_ret2 rfl (ev (.string (str ([] : List (BitVec 8)))) rfl rfl) (ev (.int .i64 3) rfl rfl) ?_
 exact ⟨rfl, hk⟩

set_option maxRecDepth 100000 in
set_option maxHeartbeats 1000000 in
theorem cmOpen_n (key nonce aad : List (BitVec 8)) (size : Int) (hok : Aes.okKey key.length) (hn : ¬ (7 ≤ nonce.length ∧ nonce.length ≤ 13)) (text : List (BitVec 8)) (w0 : World) : Calls Try.prog 47 #[.string (str key), .string (str nonce), .string (str aad), .string (str text), .int .i64 size] w0 fun e w' => e = .returned (.tuple #[.string (str ([] : List (BitVec 8))), .int .i64 4]) ∧ Below w0.heap.size w0 w' := by
 refine enter (n := 53) Try.func47 rfl rfl rfl ?_
 have hk : Below w0.heap.size w0 w0 := Below.refl _ _
 refine sr ?_
 refine w_as (evc (.string (str ([] : List (BitVec 8))))) ?_
 refine w_as (evc (.int .i64 0)) ?_
 refine nt ?_
 refine wp_seq ?_
 refine sr ?_
 refine w_mv (ev (.string (str key)) rfl rfl) ?_
 refine w_mv (ev (.string (str nonce)) rfl rfl) ?_
 refine w_mv (ev (.string (str aad)) rfl rfl) ?_
 refine w_mv (ev (.int .i64 size) rfl rfl) ?_
 refine w_call (Try.func69) (by kernel_rfl) rfl (m4 (ev (.string (str key)) rfl rfl) (ev (.string (str nonce)) rfl rfl) (ev (.string (str aad)) rfl rfl) (ev (.int .i64 size) rfl rfl)) (cmWrong_n key nonce aad size hok hn w0) ?_
 rintro _ w1 ⟨rfl, hb2⟩
 refine ⟨_, rfl, ?_⟩
 replace hk := thenB hk hb2
 refine w_as (ev (.int .i64 4) rfl rfl) ?_
 refine nt ?_
 refine sr ?_
 refine w_mv (ev (.int .i64 4) rfl rfl) ?_
 refine w_val (y_bin (ev (.int .i64 4) rfl rfl) (evc (.int .i64 0)) b_neq) ?_
 refine nt ?_
 refine c_tt (ev (.bool true) rfl rfl) ?_
 refine sr ?_
 refine w_mv (ev (.int .i64 4) rfl rfl) ?_
 refine w_as (evc (.string (str ([] : List (BitVec 8))))) ?_
 refine w_as (ev (.int .i64 4) rfl rfl) ?_
 refine nt ?_
 refine wp_ret ?_
 refine then_r ?_
 refine fin_ret2 rfl (ev (.string (str ([] : List (BitVec 8)))) rfl rfl) (ev (.int .i64 4) rfl rfl) ?_
 exact ⟨rfl, hk⟩

set_option maxRecDepth 100000 in
set_option maxHeartbeats 1000000 in
theorem cmOpen_t (key nonce aad : List (BitVec 8)) (size : Int) (hok : Aes.okKey key.length) (hn : 7 ≤ nonce.length ∧ nonce.length ≤ 13) (ht : ¬ (4 ≤ size ∧ size ≤ 16 ∧ size % 2 = 0)) (text : List (BitVec 8)) (w0 : World) : Calls Try.prog 47 #[.string (str key), .string (str nonce), .string (str aad), .string (str text), .int .i64 size] w0 fun e w' => e = .returned (.tuple #[.string (str ([] : List (BitVec 8))), .int .i64 5]) ∧ Below w0.heap.size w0 w' := by
 refine enter (n := 53) Try.func47 rfl rfl rfl ?_
 have hk : Below w0.heap.size w0 w0 := Below.refl _ _
 refine sr ?_
 refine w_as (evc (.string (str ([] : List (BitVec 8))))) ?_
 refine w_as (evc (.int .i64 0)) ?_
 refine nt ?_
 refine wp_seq ?_
 refine sr ?_
 refine w_mv (ev (.string (str key)) rfl rfl) ?_
 refine w_mv (ev (.string (str nonce)) rfl rfl) ?_
 refine w_mv (ev (.string (str aad)) rfl rfl) ?_
 refine w_mv (ev (.int .i64 size) rfl rfl) ?_
 refine w_call (Try.func69) (by kernel_rfl) rfl (m4 (ev (.string (str key)) rfl rfl) (ev (.string (str nonce)) rfl rfl) (ev (.string (str aad)) rfl rfl) (ev (.int .i64 size) rfl rfl)) (cmWrong_t key nonce aad size hok hn ht w0) ?_
 rintro _ w1 ⟨rfl, hb2⟩
 refine ⟨_, rfl, ?_⟩
 replace hk := thenB hk hb2
 refine w_as (ev (.int .i64 5) rfl rfl) ?_
 refine nt ?_
 refine sr ?_
 refine w_mv (ev (.int .i64 5) rfl rfl) ?_
 refine w_val (y_bin (ev (.int .i64 5) rfl rfl) (evc (.int .i64 0)) b_neq) ?_
 refine nt ?_
 refine c_tt (ev (.bool true) rfl rfl) ?_
 refine sr ?_
 refine w_mv (ev (.int .i64 5) rfl rfl) ?_
 refine w_as (evc (.string (str ([] : List (BitVec 8))))) ?_
 refine w_as (ev (.int .i64 5) rfl rfl) ?_
 refine nt ?_
 refine wp_ret ?_
 refine then_r ?_
 refine fin_ret2 rfl (ev (.string (str ([] : List (BitVec 8)))) rfl rfl) (ev (.int .i64 5) rfl rfl) ?_
 exact ⟨rfl, hk⟩

set_option maxRecDepth 100000 in
set_option maxHeartbeats 1000000 in
theorem cmOpen_a (key nonce aad : List (BitVec 8)) (size : Nat) (hok : Aes.okKey key.length) (hn : 7 ≤ nonce.length ∧ nonce.length ≤ 13) (h4 : 4 ≤ size) (h16 : size ≤ 16) (hev : size % 2 = 0) (ha : 70000 < aad.length) (text : List (BitVec 8)) (w0 : World) : Calls Try.prog 47 #[.string (str key), .string (str nonce), .string (str aad), .string (str text), .int .i64 ((size : Nat) : Int)] w0 fun e w' => e = .returned (.tuple #[.string (str ([] : List (BitVec 8))), .int .i64 6]) ∧ Below w0.heap.size w0 w' := by
 refine enter (n := 53) Try.func47 rfl rfl rfl ?_
 have hk : Below w0.heap.size w0 w0 := Below.refl _ _
 refine sr ?_
 refine w_as (evc (.string (str ([] : List (BitVec 8))))) ?_
 refine w_as (evc (.int .i64 0)) ?_
 refine nt ?_
 refine wp_seq ?_
 refine sr ?_
 refine w_mv (ev (.string (str key)) rfl rfl) ?_
 refine w_mv (ev (.string (str nonce)) rfl rfl) ?_
 refine w_mv (ev (.string (str aad)) rfl rfl) ?_
 refine w_mv (ev (.int .i64 ((size : Nat) : Int)) rfl rfl) ?_
 refine w_call (Try.func69) (by kernel_rfl) rfl (m4 (ev (.string (str key)) rfl rfl) (ev (.string (str nonce)) rfl rfl) (ev (.string (str aad)) rfl rfl) (ev (.int .i64 ((size : Nat) : Int)) rfl rfl)) (cmWrong_a key nonce aad size hok hn h4 h16 hev ha w0) ?_
 rintro _ w1 ⟨rfl, hb2⟩
 refine ⟨_, rfl, ?_⟩
 replace hk := thenB hk hb2
 refine w_as (ev (.int .i64 6) rfl rfl) ?_
 refine nt ?_
 refine sr ?_
 refine w_mv (ev (.int .i64 6) rfl rfl) ?_
 refine w_val (y_bin (ev (.int .i64 6) rfl rfl) (evc (.int .i64 0)) b_neq) ?_
 refine nt ?_
 refine c_tt (ev (.bool true) rfl rfl) ?_
 refine sr ?_
 refine w_mv (ev (.int .i64 6) rfl rfl) ?_
 refine w_as (evc (.string (str ([] : List (BitVec 8))))) ?_
 refine w_as (ev (.int .i64 6) rfl rfl) ?_
 refine nt ?_
 refine wp_ret ?_
 refine then_r ?_
 refine fin_ret2 rfl (ev (.string (str ([] : List (BitVec 8)))) rfl rfl) (ev (.int .i64 6) rfl rfl) ?_
 exact ⟨rfl, hk⟩

set_option maxRecDepth 100000 in
set_option maxHeartbeats 1000000 in
theorem cmOpen_s (key nonce aad : List (BitVec 8)) (size : Nat) (hok : Aes.okKey key.length) (hn : 7 ≤ nonce.length ∧ nonce.length ≤ 13) (h4 : 4 ≤ size) (h16 : size ≤ 16) (hev : size % 2 = 0) (ha : aad.length ≤ 70000) (text : List (BitVec 8)) (hl : text.length ≤ 1000000000000000) (hs : text.length < size) (w0 : World) : Calls Try.prog 47 #[.string (str key), .string (str nonce), .string (str aad), .string (str text), .int .i64 ((size : Nat) : Int)] w0 fun e w' => e = .returned (.tuple #[.string (str ([] : List (BitVec 8))), .int .i64 6]) ∧ Below w0.heap.size w0 w' := by
 refine enter (n := 53) Try.func47 rfl rfl rfl ?_
 have hk : Below w0.heap.size w0 w0 := Below.refl _ _
 refine sr ?_
 refine w_as (evc (.string (str ([] : List (BitVec 8))))) ?_
 refine w_as (evc (.int .i64 0)) ?_
 refine nt ?_
 refine wp_seq ?_
 refine sr ?_
 refine w_mv (ev (.string (str key)) rfl rfl) ?_
 refine w_mv (ev (.string (str nonce)) rfl rfl) ?_
 refine w_mv (ev (.string (str aad)) rfl rfl) ?_
 refine w_mv (ev (.int .i64 ((size : Nat) : Int)) rfl rfl) ?_
 refine w_call (Try.func69) (by kernel_rfl) rfl (m4 (ev (.string (str key)) rfl rfl) (ev (.string (str nonce)) rfl rfl) (ev (.string (str aad)) rfl rfl) (ev (.int .i64 ((size : Nat) : Int)) rfl rfl)) (cmWrong_y key nonce aad size hok hn h4 h16 hev ha w0) ?_
 rintro _ w1 ⟨rfl, hb2⟩
 refine ⟨_, rfl, ?_⟩
 replace hk := thenB hk hb2
 refine w_as (ev (.int .i64 0) rfl rfl) ?_
 refine nt ?_
 refine sr ?_
 refine w_mv (ev (.int .i64 0) rfl rfl) ?_
 refine w_val (y_bin (ev (.int .i64 0) rfl rfl) (evc (.int .i64 0)) b_neq) ?_
 refine nt ?_
 refine c_ff (ev (.bool false) rfl rfl) ?_
 refine wp_skip ?_
 refine then_n ?_
 refine sr ?_
 refine w_mv (ev (.string (str text)) rfl rfl) ?_
 refine w_val (y_len (ev (.string (str text)) rfl rfl) Try.underlying9) ?_
 refine w_mv (ev (.int .i64 ((size : Nat) : Int)) rfl rfl) ?_
 refine w_val (y_bin (ev (.int .i64 ((text.length : Nat) : Int)) rfl rfl) (ev (.int .i64 ((size : Nat) : Int)) rfl rfl) (b_sub (by omega))) ?_
 refine w_as (ev (.int .i64 (((text.length : Nat) : Int) - ((size : Nat) : Int))) rfl rfl) ?_
 refine nt ?_
 refine wp_seq ?_
 refine sr ?_
 refine w_mv (ev (.int .i64 (((text.length : Nat) : Int) - ((size : Nat) : Int))) rfl rfl) ?_
 refine w_val (y_bin (ev (.int .i64 (((text.length : Nat) : Int) - ((size : Nat) : Int))) rfl rfl) (evc (.int .i64 0)) b_lss) ?_
 refine w_mv (ev (.bool (decide ((((text.length : Nat) : Int) - ((size : Nat) : Int)) < 0))) rfl rfl) ?_
 have hc3 : (((text.length : Nat) : Int) - ((size : Nat) : Int)) < 0 := by omega
 first | with_reducible refine w_skip ?_ ?_ | refine w_skip ?_ ?_
 · exact want_no (j := 2) rfl rfl (ev (.bool true) (Eq.trans (b := .bool (decide ((((text.length : Nat) : Int) - ((size : Nat) : Int)) < 0))) rfl (by rw [decide_eq_true hc3])) rfl) rfl
 first | with_reducible refine w_skip ?_ ?_ | refine w_skip ?_ ?_
 · exact want_no (j := 2) rfl rfl (ev (.bool true) (Eq.trans (b := .bool (decide ((((text.length : Nat) : Int) - ((size : Nat) : Int)) < 0))) rfl (by rw [decide_eq_true hc3])) rfl) rfl
 first | with_reducible refine w_skip ?_ ?_ | refine w_skip ?_ ?_
 · exact want_no (j := 2) rfl rfl (ev (.bool true) (Eq.trans (b := .bool (decide ((((text.length : Nat) : Int) - ((size : Nat) : Int)) < 0))) rfl (by rw [decide_eq_true hc3])) rfl) rfl
 first | with_reducible refine w_skip ?_ ?_ | refine w_skip ?_ ?_
 · exact want_no (j := 2) rfl rfl (ev (.bool true) (Eq.trans (b := .bool (decide ((((text.length : Nat) : Int) - ((size : Nat) : Int)) < 0))) rfl (by rw [decide_eq_true hc3])) rfl) rfl
 refine w_val (y_pick_t (ev (.bool true) (Eq.trans (b := .bool (decide ((((text.length : Nat) : Int) - ((size : Nat) : Int)) < 0))) rfl (by rw [decide_eq_true hc3])) rfl) (evc (.bool true))) ?_
 refine nt ?_
 refine c_tt (ev (.bool true) rfl rfl) ?_
 refine sr ?_
 refine w_as (evc (.string (str ([] : List (BitVec 8))))) ?_
 refine w_as (evc (.int .i64 6)) ?_
 refine nt ?_
 refine wp_ret ?_
 refine then_r ?_
 refine fin_ret2 rfl (ev (.string (str ([] : List (BitVec 8)))) rfl rfl) (ev (.int .i64 6) rfl rfl) ?_
 exact ⟨rfl, hk⟩

set_option maxRecDepth 100000 in
set_option maxHeartbeats 1000000 in
theorem cmOpen_z (key nonce aad : List (BitVec 8)) (size : Nat) (hok : Aes.okKey key.length) (hn : 7 ≤ nonce.length ∧ nonce.length ≤ 13) (h4 : 4 ≤ size) (h16 : size ≤ 16) (hev : size % 2 = 0) (ha : aad.length ≤ 70000) (text : List (BitVec 8)) (hl : text.length ≤ 1000000000000000) (m : Nat) (hm : text.length = m + size) (hf : ¬ Cm.Fit m nonce) (w0 : World) : Calls Try.prog 47 #[.string (str key), .string (str nonce), .string (str aad), .string (str text), .int .i64 ((size : Nat) : Int)] w0 fun e w' => e = .returned (.tuple #[.string (str ([] : List (BitVec 8))), .int .i64 6]) ∧ Below w0.heap.size w0 w' := by
 refine enter (n := 53) Try.func47 rfl rfl rfl ?_
 have hk : Below w0.heap.size w0 w0 := Below.refl _ _
 refine sr ?_
 refine w_as (evc (.string (str ([] : List (BitVec 8))))) ?_
 refine w_as (evc (.int .i64 0)) ?_
 refine nt ?_
 refine wp_seq ?_
 refine sr ?_
 refine w_mv (ev (.string (str key)) rfl rfl) ?_
 refine w_mv (ev (.string (str nonce)) rfl rfl) ?_
 refine w_mv (ev (.string (str aad)) rfl rfl) ?_
 refine w_mv (ev (.int .i64 ((size : Nat) : Int)) rfl rfl) ?_
 refine w_call (Try.func69) (by kernel_rfl) rfl (m4 (ev (.string (str key)) rfl rfl) (ev (.string (str nonce)) rfl rfl) (ev (.string (str aad)) rfl rfl) (ev (.int .i64 ((size : Nat) : Int)) rfl rfl)) (cmWrong_y key nonce aad size hok hn h4 h16 hev ha w0) ?_
 rintro _ w1 ⟨rfl, hb2⟩
 refine ⟨_, rfl, ?_⟩
 replace hk := thenB hk hb2
 refine w_as (ev (.int .i64 0) rfl rfl) ?_
 refine nt ?_
 refine sr ?_
 refine w_mv (ev (.int .i64 0) rfl rfl) ?_
 refine w_val (y_bin (ev (.int .i64 0) rfl rfl) (evc (.int .i64 0)) b_neq) ?_
 refine nt ?_
 refine c_ff (ev (.bool false) rfl rfl) ?_
 refine wp_skip ?_
 refine then_n ?_
 refine sr ?_
 refine w_mv (ev (.string (str text)) rfl rfl) ?_
 refine w_val (y_len (ev (.string (str text)) rfl rfl) Try.underlying9) ?_
 refine w_mv (ev (.int .i64 ((size : Nat) : Int)) rfl rfl) ?_
 refine w_val (y_bin (ev (.int .i64 ((text.length : Nat) : Int)) rfl rfl) (ev (.int .i64 ((size : Nat) : Int)) rfl rfl) (b_sub (by omega))) ?_
 refine w_as (ev (.int .i64 (((text.length : Nat) : Int) - ((size : Nat) : Int))) rfl rfl) ?_
 refine nt ?_
 refine wp_seq ?_
 refine sr ?_
 refine w_mv (ev (.int .i64 ((m : Nat) : Int)) (Eq.trans (b := .int .i64 (((text.length : Nat) : Int) - ((size : Nat) : Int))) rfl (by congr 1; omega)) rfl) ?_
 refine w_val (y_bin (ev (.int .i64 ((m : Nat) : Int)) rfl rfl) (evc (.int .i64 0)) b_lss) ?_
 refine w_mv (ev (.bool (decide (((m : Nat) : Int) < 0))) rfl rfl) ?_
 have hc3 : ¬ (((m : Nat) : Int) < 0) := by omega
 refine w_val_g (v := .int .i64 ((m : Nat) : Int)) (want_yes (j := 2) rfl rfl (ev (.bool false) (Eq.trans (b := .bool (decide (((m : Nat) : Int) < 0))) rfl (by rw [decide_eq_false hc3])) rfl) rfl) (y_mv (ev (.int .i64 ((m : Nat) : Int)) (Eq.trans (b := .int .i64 (((text.length : Nat) : Int) - ((size : Nat) : Int))) rfl (by congr 1; omega)) rfl)) ?_
 refine w_val_g (v := .string (str nonce)) (want_yes (j := 2) rfl rfl (ev (.bool false) (Eq.trans (b := .bool (decide (((m : Nat) : Int) < 0))) rfl (by rw [decide_eq_false hc3])) rfl) rfl) (y_mv (ev (.string (str nonce)) rfl rfl)) ?_
 refine w_unguard (want_yes (j := 2) rfl rfl (ev (.bool false) (Eq.trans (b := .bool (decide (((m : Nat) : Int) < 0))) rfl (by rw [decide_eq_false hc3])) rfl) rfl) ?_
 refine w_call (Try.func70) (by kernel_rfl) rfl (m2 (ev (.int .i64 ((m : Nat) : Int)) rfl rfl) (ev (.string (str nonce)) rfl rfl)) (cmFits m nonce (by omega) w1) ?_
 rintro _ w4 ⟨rfl, hb5⟩
 refine ⟨_, rfl, ?_⟩
 replace hk := thenB hk hb5
 refine w_val_g (want_yes (j := 2) rfl rfl (ev (.bool false) (Eq.trans (b := .bool (decide (((m : Nat) : Int) < 0))) rfl (by rw [decide_eq_false hc3])) rfl) rfl) (y_notp (ev (.bool (decide (Cm.Fit m nonce))) rfl rfl)) ?_
 refine w_val (y_pick_f (ev (.bool false) (Eq.trans (b := .bool (decide (((m : Nat) : Int) < 0))) rfl (by rw [decide_eq_false hc3])) rfl) (ev (.bool (decide (¬ (Cm.Fit m nonce)))) rfl rfl)) ?_
 refine nt ?_
 have hc6 : ¬ (Cm.Fit m nonce) := by exact hf
 refine c_t (p := ¬ (Cm.Fit m nonce)) (ev (.bool (decide (¬ (Cm.Fit m nonce)))) rfl rfl) hc6 ?_
 refine sr ?_
 refine w_as (evc (.string (str ([] : List (BitVec 8))))) ?_
 refine w_as (evc (.int .i64 6)) ?_
 refine nt ?_
 refine wp_ret ?_
 refine then_r ?_
 refine fin_ret2 rfl (ev (.string (str ([] : List (BitVec 8)))) rfl rfl) (ev (.int .i64 6) rfl rfl) ?_
 exact ⟨rfl, hk⟩

set_option maxRecDepth 100000 in
set_option maxHeartbeats 1000000 in
theorem cmOpen_y (key nonce aad : List (BitVec 8)) (size : Nat) (hok : Aes.okKey key.length) (hn : 7 ≤ nonce.length ∧ nonce.length ≤ 13) (h4 : 4 ≤ size) (h16 : size ≤ 16) (hev : size % 2 = 0) (ha : aad.length ≤ 70000) (text : List (BitVec 8)) (hl : text.length ≤ 1000000000000000) (m : Nat) (hm : text.length = m + size) (hf : Cm.Fit m nonce) (hs : aad.length + m ≤ 139960) (hb : Cm.tg key nonce aad (Cm.xr key nonce (text.take m) (15 - nonce.length)) (15 - nonce.length) size = text.drop m) (w0 : World) : Calls Try.prog 47 #[.string (str key), .string (str nonce), .string (str aad), .string (str text), .int .i64 ((size : Nat) : Int)] w0 fun e w' => e = .returned (.tuple #[.string (str (Cm.xr key nonce (text.take m) (15 - nonce.length))), .int .i64 0]) ∧ Below w0.heap.size w0 w' := by
 have hf1 := hf.1
 have htl : (text.take m).length = m := by rw [List.length_take]; omega
 have hxl : (Cm.xr key nonce (text.take m) (15 - nonce.length)).length = m := by rw [Cm.xr_len, htl]
 refine enter (n := 53) Try.func47 rfl rfl rfl ?_
 have hk : Below w0.heap.size w0 w0 := Below.refl _ _
 refine sr ?_
 refine w_as (evc (.string (str ([] : List (BitVec 8))))) ?_
 refine w_as (evc (.int .i64 0)) ?_
 refine nt ?_
 refine wp_seq ?_
 refine sr ?_
 refine w_mv (ev (.string (str key)) rfl rfl) ?_
 refine w_mv (ev (.string (str nonce)) rfl rfl) ?_
 refine w_mv (ev (.string (str aad)) rfl rfl) ?_
 refine w_mv (ev (.int .i64 ((size : Nat) : Int)) rfl rfl) ?_
 refine w_call (Try.func69) (by kernel_rfl) rfl (m4 (ev (.string (str key)) rfl rfl) (ev (.string (str nonce)) rfl rfl) (ev (.string (str aad)) rfl rfl) (ev (.int .i64 ((size : Nat) : Int)) rfl rfl)) (cmWrong_y key nonce aad size hok hn h4 h16 hev ha w0) ?_
 rintro _ w1 ⟨rfl, hb2⟩
 refine ⟨_, rfl, ?_⟩
 replace hk := thenB hk hb2
 refine w_as (ev (.int .i64 0) rfl rfl) ?_
 refine nt ?_
 refine sr ?_
 refine w_mv (ev (.int .i64 0) rfl rfl) ?_
 refine w_val (y_bin (ev (.int .i64 0) rfl rfl) (evc (.int .i64 0)) b_neq) ?_
 refine nt ?_
 refine c_ff (ev (.bool false) rfl rfl) ?_
 refine wp_skip ?_
 refine then_n ?_
 refine sr ?_
 refine w_mv (ev (.string (str text)) rfl rfl) ?_
 refine w_val (y_len (ev (.string (str text)) rfl rfl) Try.underlying9) ?_
 refine w_mv (ev (.int .i64 ((size : Nat) : Int)) rfl rfl) ?_
 refine w_val (y_bin (ev (.int .i64 ((text.length : Nat) : Int)) rfl rfl) (ev (.int .i64 ((size : Nat) : Int)) rfl rfl) (b_sub (by omega))) ?_
 refine w_as (ev (.int .i64 (((text.length : Nat) : Int) - ((size : Nat) : Int))) rfl rfl) ?_
 refine nt ?_
 refine wp_seq ?_
 refine sr ?_
 refine w_mv (ev (.int .i64 ((m : Nat) : Int)) (Eq.trans (b := .int .i64 (((text.length : Nat) : Int) - ((size : Nat) : Int))) rfl (by congr 1; omega)) rfl) ?_
 refine w_val (y_bin (ev (.int .i64 ((m : Nat) : Int)) rfl rfl) (evc (.int .i64 0)) b_lss) ?_
 refine w_mv (ev (.bool (decide (((m : Nat) : Int) < 0))) rfl rfl) ?_
 have hc3 : ¬ (((m : Nat) : Int) < 0) := by omega
 refine w_val_g (v := .int .i64 ((m : Nat) : Int)) (want_yes (j := 2) rfl rfl (ev (.bool false) (Eq.trans (b := .bool (decide (((m : Nat) : Int) < 0))) rfl (by rw [decide_eq_false hc3])) rfl) rfl) (y_mv (ev (.int .i64 ((m : Nat) : Int)) (Eq.trans (b := .int .i64 (((text.length : Nat) : Int) - ((size : Nat) : Int))) rfl (by congr 1; omega)) rfl)) ?_
 refine w_val_g (v := .string (str nonce)) (want_yes (j := 2) rfl rfl (ev (.bool false) (Eq.trans (b := .bool (decide (((m : Nat) : Int) < 0))) rfl (by rw [decide_eq_false hc3])) rfl) rfl) (y_mv (ev (.string (str nonce)) rfl rfl)) ?_
 refine w_unguard (want_yes (j := 2) rfl rfl (ev (.bool false) (Eq.trans (b := .bool (decide (((m : Nat) : Int) < 0))) rfl (by rw [decide_eq_false hc3])) rfl) rfl) ?_
 refine w_call (Try.func70) (by kernel_rfl) rfl (m2 (ev (.int .i64 ((m : Nat) : Int)) rfl rfl) (ev (.string (str nonce)) rfl rfl)) (cmFits m nonce (by omega) w1) ?_
 rintro _ w4 ⟨rfl, hb5⟩
 refine ⟨_, rfl, ?_⟩
 replace hk := thenB hk hb5
 refine w_val_g (want_yes (j := 2) rfl rfl (ev (.bool false) (Eq.trans (b := .bool (decide (((m : Nat) : Int) < 0))) rfl (by rw [decide_eq_false hc3])) rfl) rfl) (y_notp (ev (.bool (decide (Cm.Fit m nonce))) rfl rfl)) ?_
 refine w_val (y_pick_f (ev (.bool false) (Eq.trans (b := .bool (decide (((m : Nat) : Int) < 0))) rfl (by rw [decide_eq_false hc3])) rfl) (ev (.bool (decide (¬ (Cm.Fit m nonce)))) rfl rfl)) ?_
 refine nt ?_
 have hc6 : ¬ (¬ (Cm.Fit m nonce)) := by exact fun h => h hf
 refine c_f (p := ¬ (Cm.Fit m nonce)) (ev (.bool (decide (¬ (Cm.Fit m nonce)))) rfl rfl) hc6 ?_
 refine wp_skip ?_
 refine then_n ?_
 refine sr ?_
 refine w_mv (ev (.string (str key)) rfl rfl) ?_
 refine w_mv (ev (.string (str nonce)) rfl rfl) ?_
 refine w_mv (ev (.string (str text)) rfl rfl) ?_
 refine w_mv (ev (.int .i64 ((m : Nat) : Int)) (Eq.trans (b := .int .i64 (((text.length : Nat) : Int) - ((size : Nat) : Int))) rfl (by congr 1; omega)) rfl) ?_
 refine w_val (v := .string (str (text.take m))) (y_sls (ev (.string (str text)) rfl rfl) evo.no (evo.s (ev (.int .i64 ((m : Nat) : Int)) rfl rfl)) Try.underlying9 (bnd_h (h := m) (by omega) (by omega))) ?_
 refine w_call (Try.func71) (by kernel_rfl) rfl (m3 (ev (.string (str key)) rfl rfl) (ev (.string (str nonce)) rfl rfl) (ev (.string (str (text.take m))) rfl rfl)) (cmXor key nonce (text.take m) (15 - nonce.length) (by omega) (by omega) (by omega) hok (by omega) w4) ?_
 rintro _ w7 ⟨rfl, hb8⟩
 refine ⟨_, rfl, ?_⟩
 replace hk := thenB hk hb8
 refine w_as (ev (.string (str (Cm.xr key nonce (text.take m) (15 - nonce.length)))) rfl rfl) ?_
 refine nt ?_
 refine ss ?_
 refine region_q CcmCT.mixed (by kernel_rfl) ?_
 refine q_mv (ev (.string (str key)) rfl rfl) ?_
 refine q_mv (ev (.string (str nonce)) rfl rfl) ?_
 refine q_mv (ev (.string (str aad)) rfl rfl) ?_
 refine q_mv (ev (.string (str (Cm.xr key nonce (text.take m) (15 - nonce.length)))) rfl rfl) ?_
 refine q_mv (ev (.int .i64 ((size : Nat) : Int)) rfl rfl) ?_
 refine q_call (v := .string (str (Cm.tg key nonce aad (Cm.xr key nonce (text.take m) (15 - nonce.length)) (15 - nonce.length) size))) (Try.func72) (by kernel_rfl) rfl (m5 (ev (.string (str key)) rfl rfl) (ev (.string (str nonce)) rfl rfl) (ev (.string (str aad)) rfl rfl) (ev (.string (str (Cm.xr key nonce (text.take m) (15 - nonce.length)))) rfl rfl) (ev (.int .i64 ((size : Nat) : Int)) rfl rfl)) (fun w' hw' => cmTag key nonce aad (Cm.xr key nonce (text.take m) (15 - nonce.length)) (15 - nonce.length) (by omega) (by omega) (by omega) size h4 h16 hev hok ha (by rw [hxl]; exact hf) (by rw [hxl]; omega) w') ?_
 refine q_mv (ev (.string (str text)) rfl rfl) ?_
 refine q_mv (ev (.int .i64 ((m : Nat) : Int)) (Eq.trans (b := .int .i64 (((text.length : Nat) : Int) - ((size : Nat) : Int))) rfl (by congr 1; omega)) rfl) ?_
 refine q_val (v := .string (str (text.drop m))) (fun w' hw' => y_slf (ev (.string (str text)) rfl rfl) (evo.s (ev (.int .i64 ((m : Nat) : Int)) rfl rfl)) Try.underlying9 (bnd_l (l := m) (by omega) (by omega))) ?_
 refine q_call (v := .bool (decide ((Cm.tg key nonce aad (Cm.xr key nonce (text.take m) (15 - nonce.length)) (15 - nonce.length) size) = (text.drop m)))) (Try.func67) (by kernel_rfl) rfl (m2 (ev (.string (str (Cm.tg key nonce aad (Cm.xr key nonce (text.take m) (15 - nonce.length)) (15 - nonce.length) size))) rfl rfl) (ev (.string (str (text.drop m))) rfl rfl)) (fun w' hw' => same_c (Cm.tg key nonce aad (Cm.xr key nonce (text.take m) (15 - nonce.length)) (15 - nonce.length) size) (text.drop m) (by rw [Cm.tg_len _ _ _ _ _ _ hok h16]; omega) w') ?_
 refine q_val (fun w' hw' => y_notp (ev (.bool (decide ((Cm.tg key nonce aad (Cm.xr key nonce (text.take m) (15 - nonce.length)) (15 - nonce.length) size) = (text.drop m)))) rfl rfl)) ?_
 refine q_nil ?_
 intro w9 hb10
 replace hk := thenB hk hb10
 refine then_n ?_
 have hc11 : ¬ (¬ ((Cm.tg key nonce aad (Cm.xr key nonce (text.take m) (15 - nonce.length)) (15 - nonce.length) size) = (text.drop m))) := by exact fun h => h hb
 refine c_f (p := ¬ ((Cm.tg key nonce aad (Cm.xr key nonce (text.take m) (15 - nonce.length)) (15 - nonce.length) size) = (text.drop m))) (ev (.bool (decide (¬ ((Cm.tg key nonce aad (Cm.xr key nonce (text.take m) (15 - nonce.length)) (15 - nonce.length) size) = (text.drop m))))) rfl rfl) hc11 ?_
 refine wp_skip ?_
 refine then_n ?_
 refine sr ?_
 refine w_mv (ev (.string (str (Cm.xr key nonce (text.take m) (15 - nonce.length)))) rfl rfl) ?_
 refine w_as (ev (.string (str (Cm.xr key nonce (text.take m) (15 - nonce.length)))) rfl rfl) ?_
 refine w_as (evc (.int .i64 0)) ?_
 refine nt ?_
 refine wp_ret ?_
 refine fin_ret2 rfl (ev (.string (str (Cm.xr key nonce (text.take m) (15 - nonce.length)))) rfl rfl) (ev (.int .i64 0) rfl rfl) ?_
 exact ⟨rfl, hk⟩

set_option maxRecDepth 100000 in
set_option maxHeartbeats 1000000 in
theorem cmOpen_b (key nonce aad : List (BitVec 8)) (size : Nat) (hok : Aes.okKey key.length) (hn : 7 ≤ nonce.length ∧ nonce.length ≤ 13) (h4 : 4 ≤ size) (h16 : size ≤ 16) (hev : size % 2 = 0) (ha : aad.length ≤ 70000) (text : List (BitVec 8)) (hl : text.length ≤ 1000000000000000) (m : Nat) (hm : text.length = m + size) (hf : Cm.Fit m nonce) (hs : aad.length + m ≤ 139960) (hb : ¬ Cm.tg key nonce aad (Cm.xr key nonce (text.take m) (15 - nonce.length)) (15 - nonce.length) size = text.drop m) (w0 : World) : Calls Try.prog 47 #[.string (str key), .string (str nonce), .string (str aad), .string (str text), .int .i64 ((size : Nat) : Int)] w0 fun e w' => e = .returned (.tuple #[.string (str ([] : List (BitVec 8))), .int .i64 8]) ∧ Below w0.heap.size w0 w' := by
 have hf1 := hf.1
 have htl : (text.take m).length = m := by rw [List.length_take]; omega
 have hxl : (Cm.xr key nonce (text.take m) (15 - nonce.length)).length = m := by rw [Cm.xr_len, htl]
 refine enter (n := 53) Try.func47 rfl rfl rfl ?_
 have hk : Below w0.heap.size w0 w0 := Below.refl _ _
 refine sr ?_
 refine w_as (evc (.string (str ([] : List (BitVec 8))))) ?_
 refine w_as (evc (.int .i64 0)) ?_
 refine nt ?_
 refine wp_seq ?_
 refine sr ?_
 refine w_mv (ev (.string (str key)) rfl rfl) ?_
 refine w_mv (ev (.string (str nonce)) rfl rfl) ?_
 refine w_mv (ev (.string (str aad)) rfl rfl) ?_
 refine w_mv (ev (.int .i64 ((size : Nat) : Int)) rfl rfl) ?_
 refine w_call (Try.func69) (by kernel_rfl) rfl (m4 (ev (.string (str key)) rfl rfl) (ev (.string (str nonce)) rfl rfl) (ev (.string (str aad)) rfl rfl) (ev (.int .i64 ((size : Nat) : Int)) rfl rfl)) (cmWrong_y key nonce aad size hok hn h4 h16 hev ha w0) ?_
 rintro _ w1 ⟨rfl, hb2⟩
 refine ⟨_, rfl, ?_⟩
 replace hk := thenB hk hb2
 refine w_as (ev (.int .i64 0) rfl rfl) ?_
 refine nt ?_
 refine sr ?_
 refine w_mv (ev (.int .i64 0) rfl rfl) ?_
 refine w_val (y_bin (ev (.int .i64 0) rfl rfl) (evc (.int .i64 0)) b_neq) ?_
 refine nt ?_
 refine c_ff (ev (.bool false) rfl rfl) ?_
 refine wp_skip ?_
 refine then_n ?_
 refine sr ?_
 refine w_mv (ev (.string (str text)) rfl rfl) ?_
 refine w_val (y_len (ev (.string (str text)) rfl rfl) Try.underlying9) ?_
 refine w_mv (ev (.int .i64 ((size : Nat) : Int)) rfl rfl) ?_
 refine w_val (y_bin (ev (.int .i64 ((text.length : Nat) : Int)) rfl rfl) (ev (.int .i64 ((size : Nat) : Int)) rfl rfl) (b_sub (by omega))) ?_
 refine w_as (ev (.int .i64 (((text.length : Nat) : Int) - ((size : Nat) : Int))) rfl rfl) ?_
 refine nt ?_
 refine wp_seq ?_
 refine sr ?_
 refine w_mv (ev (.int .i64 ((m : Nat) : Int)) (Eq.trans (b := .int .i64 (((text.length : Nat) : Int) - ((size : Nat) : Int))) rfl (by congr 1; omega)) rfl) ?_
 refine w_val (y_bin (ev (.int .i64 ((m : Nat) : Int)) rfl rfl) (evc (.int .i64 0)) b_lss) ?_
 refine w_mv (ev (.bool (decide (((m : Nat) : Int) < 0))) rfl rfl) ?_
 have hc3 : ¬ (((m : Nat) : Int) < 0) := by omega
 refine w_val_g (v := .int .i64 ((m : Nat) : Int)) (want_yes (j := 2) rfl rfl (ev (.bool false) (Eq.trans (b := .bool (decide (((m : Nat) : Int) < 0))) rfl (by rw [decide_eq_false hc3])) rfl) rfl) (y_mv (ev (.int .i64 ((m : Nat) : Int)) (Eq.trans (b := .int .i64 (((text.length : Nat) : Int) - ((size : Nat) : Int))) rfl (by congr 1; omega)) rfl)) ?_
 refine w_val_g (v := .string (str nonce)) (want_yes (j := 2) rfl rfl (ev (.bool false) (Eq.trans (b := .bool (decide (((m : Nat) : Int) < 0))) rfl (by rw [decide_eq_false hc3])) rfl) rfl) (y_mv (ev (.string (str nonce)) rfl rfl)) ?_
 refine w_unguard (want_yes (j := 2) rfl rfl (ev (.bool false) (Eq.trans (b := .bool (decide (((m : Nat) : Int) < 0))) rfl (by rw [decide_eq_false hc3])) rfl) rfl) ?_
 refine w_call (Try.func70) (by kernel_rfl) rfl (m2 (ev (.int .i64 ((m : Nat) : Int)) rfl rfl) (ev (.string (str nonce)) rfl rfl)) (cmFits m nonce (by omega) w1) ?_
 rintro _ w4 ⟨rfl, hb5⟩
 refine ⟨_, rfl, ?_⟩
 replace hk := thenB hk hb5
 refine w_val_g (want_yes (j := 2) rfl rfl (ev (.bool false) (Eq.trans (b := .bool (decide (((m : Nat) : Int) < 0))) rfl (by rw [decide_eq_false hc3])) rfl) rfl) (y_notp (ev (.bool (decide (Cm.Fit m nonce))) rfl rfl)) ?_
 refine w_val (y_pick_f (ev (.bool false) (Eq.trans (b := .bool (decide (((m : Nat) : Int) < 0))) rfl (by rw [decide_eq_false hc3])) rfl) (ev (.bool (decide (¬ (Cm.Fit m nonce)))) rfl rfl)) ?_
 refine nt ?_
 have hc6 : ¬ (¬ (Cm.Fit m nonce)) := by exact fun h => h hf
 refine c_f (p := ¬ (Cm.Fit m nonce)) (ev (.bool (decide (¬ (Cm.Fit m nonce)))) rfl rfl) hc6 ?_
 refine wp_skip ?_
 refine then_n ?_
 refine sr ?_
 refine w_mv (ev (.string (str key)) rfl rfl) ?_
 refine w_mv (ev (.string (str nonce)) rfl rfl) ?_
 refine w_mv (ev (.string (str text)) rfl rfl) ?_
 refine w_mv (ev (.int .i64 ((m : Nat) : Int)) (Eq.trans (b := .int .i64 (((text.length : Nat) : Int) - ((size : Nat) : Int))) rfl (by congr 1; omega)) rfl) ?_
 refine w_val (v := .string (str (text.take m))) (y_sls (ev (.string (str text)) rfl rfl) evo.no (evo.s (ev (.int .i64 ((m : Nat) : Int)) rfl rfl)) Try.underlying9 (bnd_h (h := m) (by omega) (by omega))) ?_
 refine w_call (Try.func71) (by kernel_rfl) rfl (m3 (ev (.string (str key)) rfl rfl) (ev (.string (str nonce)) rfl rfl) (ev (.string (str (text.take m))) rfl rfl)) (cmXor key nonce (text.take m) (15 - nonce.length) (by omega) (by omega) (by omega) hok (by omega) w4) ?_
 rintro _ w7 ⟨rfl, hb8⟩
 refine ⟨_, rfl, ?_⟩
 replace hk := thenB hk hb8
 refine w_as (ev (.string (str (Cm.xr key nonce (text.take m) (15 - nonce.length)))) rfl rfl) ?_
 refine nt ?_
 refine ss ?_
 refine region_q CcmCT.mixed (by kernel_rfl) ?_
 refine q_mv (ev (.string (str key)) rfl rfl) ?_
 refine q_mv (ev (.string (str nonce)) rfl rfl) ?_
 refine q_mv (ev (.string (str aad)) rfl rfl) ?_
 refine q_mv (ev (.string (str (Cm.xr key nonce (text.take m) (15 - nonce.length)))) rfl rfl) ?_
 refine q_mv (ev (.int .i64 ((size : Nat) : Int)) rfl rfl) ?_
 refine q_call (v := .string (str (Cm.tg key nonce aad (Cm.xr key nonce (text.take m) (15 - nonce.length)) (15 - nonce.length) size))) (Try.func72) (by kernel_rfl) rfl (m5 (ev (.string (str key)) rfl rfl) (ev (.string (str nonce)) rfl rfl) (ev (.string (str aad)) rfl rfl) (ev (.string (str (Cm.xr key nonce (text.take m) (15 - nonce.length)))) rfl rfl) (ev (.int .i64 ((size : Nat) : Int)) rfl rfl)) (fun w' hw' => cmTag key nonce aad (Cm.xr key nonce (text.take m) (15 - nonce.length)) (15 - nonce.length) (by omega) (by omega) (by omega) size h4 h16 hev hok ha (by rw [hxl]; exact hf) (by rw [hxl]; omega) w') ?_
 refine q_mv (ev (.string (str text)) rfl rfl) ?_
 refine q_mv (ev (.int .i64 ((m : Nat) : Int)) (Eq.trans (b := .int .i64 (((text.length : Nat) : Int) - ((size : Nat) : Int))) rfl (by congr 1; omega)) rfl) ?_
 refine q_val (v := .string (str (text.drop m))) (fun w' hw' => y_slf (ev (.string (str text)) rfl rfl) (evo.s (ev (.int .i64 ((m : Nat) : Int)) rfl rfl)) Try.underlying9 (bnd_l (l := m) (by omega) (by omega))) ?_
 refine q_call (v := .bool (decide ((Cm.tg key nonce aad (Cm.xr key nonce (text.take m) (15 - nonce.length)) (15 - nonce.length) size) = (text.drop m)))) (Try.func67) (by kernel_rfl) rfl (m2 (ev (.string (str (Cm.tg key nonce aad (Cm.xr key nonce (text.take m) (15 - nonce.length)) (15 - nonce.length) size))) rfl rfl) (ev (.string (str (text.drop m))) rfl rfl)) (fun w' hw' => same_c (Cm.tg key nonce aad (Cm.xr key nonce (text.take m) (15 - nonce.length)) (15 - nonce.length) size) (text.drop m) (by rw [Cm.tg_len _ _ _ _ _ _ hok h16]; omega) w') ?_
 refine q_val (fun w' hw' => y_notp (ev (.bool (decide ((Cm.tg key nonce aad (Cm.xr key nonce (text.take m) (15 - nonce.length)) (15 - nonce.length) size) = (text.drop m)))) rfl rfl)) ?_
 refine q_nil ?_
 intro w9 hb10
 replace hk := thenB hk hb10
 refine then_n ?_
 have hc11 : ¬ ((Cm.tg key nonce aad (Cm.xr key nonce (text.take m) (15 - nonce.length)) (15 - nonce.length) size) = (text.drop m)) := by exact hb
 refine c_t (p := ¬ ((Cm.tg key nonce aad (Cm.xr key nonce (text.take m) (15 - nonce.length)) (15 - nonce.length) size) = (text.drop m))) (ev (.bool (decide (¬ ((Cm.tg key nonce aad (Cm.xr key nonce (text.take m) (15 - nonce.length)) (15 - nonce.length) size) = (text.drop m))))) rfl rfl) hc11 ?_
 refine sr ?_
 refine w_as (evc (.string (str ([] : List (BitVec 8))))) ?_
 refine w_as (evc (.int .i64 8)) ?_
 refine nt ?_
 refine wp_ret ?_
 refine then_r ?_
 refine fin_ret2 rfl (ev (.string (str ([] : List (BitVec 8)))) rfl rfl) (ev (.int .i64 8) rfl rfl) ?_
 exact ⟨rfl, hk⟩
end Go.Proofs.Ytjdcpejcnmpiaaa
