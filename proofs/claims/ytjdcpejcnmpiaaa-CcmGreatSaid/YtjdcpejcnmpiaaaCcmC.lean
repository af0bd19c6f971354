/-
  Sealing and opening, by the program. Conditions as each says.
-/
import Derived.Test.YtjdcpejcnmpiaaaRows
import Derived.Test.YtjdcpejcnmpiaaaCcmB
import Derived.Test.YtjdcpejcnmpiaaaGenSh
import Derived.ProofKit
namespace Go.Proofs.Ytjdcpejcnmpiaaa
open Go.RowKit
set_option linter.unusedSimpArgs false
set_option linter.unusedVariables false
set_option maxRecDepth 100000
set_option maxHeartbeats 1000000
namespace CcmCT
theorem mixed : Try.prog.follows .mixedOrders = true := by kernel_rfl
theorem so3 : (Try.prog.underlying 3).isSome = true := by rw [Try.underlying3]; rfl
end CcmCT
theorem cmTag5_k (key nonce aad : List (BitVec 8)) (size : Int) (hok : ¬ Aes.okKey key.length) (text : List (BitVec 8)) (w0 : World) : Calls Try.prog 49 #[.string (str key), .string (str nonce), .string (str aad), .string (str text), .int .i64 size] w0 fun e w' => e = .returned (.tuple #[.string (str ([] : List (BitVec 8))), .int .i64 3]) ∧ Below w0.heap.size w0 w' := by
 refine enter (n := 32) Try.func49 rfl rfl rfl ?_
 have hk : Below w0.heap.size w0 w0 := Below.refl _ _
 refine sr ?_
 refine w_as (evc (.string (str ([] : List (BitVec 8))))) ?_
 refine w_as Ev.c ?_
 refine nt ?_
 refine wp_seq ?_
 refine sr ?_
 refine w_mv es ?_
 refine w_mv es ?_
 refine w_mv es ?_
 refine w_mv ei ?_
 refine w_call (Try.func69) (by kernel_rfl) rfl (m4 es es es ei) (cmWrong_k key nonce aad size hok w0) ?_
 rintro _ w1 ⟨rfl, hb2⟩
 refine ⟨_, rfl, ?_⟩
 replace hk := thenB hk hb2
 refine w_as ei ?_
 refine nt ?_
 refine sr ?_
 refine w_mv ei ?_
 refine w_val (y_bin ei Ev.c b_neq) ?_
 refine nt ?_
 refine c_tt eb ?_
 refine sr ?_
 refine w_mv ei ?_
 refine w_as (evc (.string (str ([] : List (BitVec 8))))) ?_
 refine w_as ei ?_
 refine nt ?_
 refine wp_ret ?_
 refine then_r ?_
 refine fin_ret2 rfl es ei ?_
 exact ⟨rfl, hk⟩

theorem cmTag5_n (key nonce aad : List (BitVec 8)) (size : Int) (hok : Aes.okKey key.length) (hn : ¬ (7 ≤ nonce.length ∧ nonce.length ≤ 13)) (text : List (BitVec 8)) (w0 : World) : Calls Try.prog 49 #[.string (str key), .string (str nonce), .string (str aad), .string (str text), .int .i64 size] w0 fun e w' => e = .returned (.tuple #[.string (str ([] : List (BitVec 8))), .int .i64 4]) ∧ Below w0.heap.size w0 w' := by
 refine enter (n := 32) Try.func49 rfl rfl rfl ?_
 have hk : Below w0.heap.size w0 w0 := Below.refl _ _
 refine sr ?_
 refine w_as (evc (.string (str ([] : List (BitVec 8))))) ?_
 refine w_as Ev.c ?_
 refine nt ?_
 refine wp_seq ?_
 refine sr ?_
 refine w_mv es ?_
 refine w_mv es ?_
 refine w_mv es ?_
 refine w_mv ei ?_
 refine w_call (Try.func69) (by kernel_rfl) rfl (m4 es es es ei) (cmWrong_n key nonce aad size hok hn w0) ?_
 rintro _ w1 ⟨rfl, hb2⟩
 refine ⟨_, rfl, ?_⟩
 replace hk := thenB hk hb2
 refine w_as ei ?_
 refine nt ?_
 refine sr ?_
 refine w_mv ei ?_
 refine w_val (y_bin ei Ev.c b_neq) ?_
 refine nt ?_
 refine c_tt eb ?_
 refine sr ?_
 refine w_mv ei ?_
 refine w_as (evc (.string (str ([] : List (BitVec 8))))) ?_
 refine w_as ei ?_
 refine nt ?_
 refine wp_ret ?_
 refine then_r ?_
 refine fin_ret2 rfl es ei ?_
 exact ⟨rfl, hk⟩

theorem cmTag5_t (key nonce aad : List (BitVec 8)) (size : Int) (hok : Aes.okKey key.length) (hn : 7 ≤ nonce.length ∧ nonce.length ≤ 13) (ht : ¬ (4 ≤ size ∧ size ≤ 16 ∧ size % 2 = 0)) (text : List (BitVec 8)) (w0 : World) : Calls Try.prog 49 #[.string (str key), .string (str nonce), .string (str aad), .string (str text), .int .i64 size] w0 fun e w' => e = .returned (.tuple #[.string (str ([] : List (BitVec 8))), .int .i64 5]) ∧ Below w0.heap.size w0 w' := by
 refine enter (n := 32) Try.func49 rfl rfl rfl ?_
 have hk : Below w0.heap.size w0 w0 := Below.refl _ _
 refine sr ?_
 refine w_as (evc (.string (str ([] : List (BitVec 8))))) ?_
 refine w_as Ev.c ?_
 refine nt ?_
 refine wp_seq ?_
 refine sr ?_
 refine w_mv es ?_
 refine w_mv es ?_
 refine w_mv es ?_
 refine w_mv ei ?_
 refine w_call (Try.func69) (by kernel_rfl) rfl (m4 es es es ei) (cmWrong_t key nonce aad size hok hn ht w0) ?_
 rintro _ w1 ⟨rfl, hb2⟩
 refine ⟨_, rfl, ?_⟩
 replace hk := thenB hk hb2
 refine w_as ei ?_
 refine nt ?_
 refine sr ?_
 refine w_mv ei ?_
 refine w_val (y_bin ei Ev.c b_neq) ?_
 refine nt ?_
 refine c_tt eb ?_
 refine sr ?_
 refine w_mv ei ?_
 refine w_as (evc (.string (str ([] : List (BitVec 8))))) ?_
 refine w_as ei ?_
 refine nt ?_
 refine wp_ret ?_
 refine then_r ?_
 refine fin_ret2 rfl es ei ?_
 exact ⟨rfl, hk⟩

theorem cmTag5_a (key nonce aad : List (BitVec 8)) (size : Nat) (hok : Aes.okKey key.length) (hn : 7 ≤ nonce.length ∧ nonce.length ≤ 13) (h4 : 4 ≤ size) (h16 : size ≤ 16) (hev : size % 2 = 0) (ha : 70000 < aad.length) (text : List (BitVec 8)) (w0 : World) : Calls Try.prog 49 #[.string (str key), .string (str nonce), .string (str aad), .string (str text), .int .i64 ((size : Nat) : Int)] w0 fun e w' => e = .returned (.tuple #[.string (str ([] : List (BitVec 8))), .int .i64 6]) ∧ Below w0.heap.size w0 w' := by
 refine enter (n := 32) Try.func49 rfl rfl rfl ?_
 have hk : Below w0.heap.size w0 w0 := Below.refl _ _
 refine sr ?_
 refine w_as (evc (.string (str ([] : List (BitVec 8))))) ?_
 refine w_as Ev.c ?_
 refine nt ?_
 refine wp_seq ?_
 refine sr ?_
 refine w_mv es ?_
 refine w_mv es ?_
 refine w_mv es ?_
 refine w_mv ei ?_
 refine w_call (Try.func69) (by kernel_rfl) rfl (m4 es es es ei) (cmWrong_a key nonce aad size hok hn h4 h16 hev ha w0) ?_
 rintro _ w1 ⟨rfl, hb2⟩
 refine ⟨_, rfl, ?_⟩
 replace hk := thenB hk hb2
 refine w_as ei ?_
 refine nt ?_
 refine sr ?_
 refine w_mv ei ?_
 refine w_val (y_bin ei Ev.c b_neq) ?_
 refine nt ?_
 refine c_tt eb ?_
 refine sr ?_
 refine w_mv ei ?_
 refine w_as (evc (.string (str ([] : List (BitVec 8))))) ?_
 refine w_as ei ?_
 refine nt ?_
 refine wp_ret ?_
 refine then_r ?_
 refine fin_ret2 rfl es ei ?_
 exact ⟨rfl, hk⟩

theorem cmTag5_z (key nonce aad : List (BitVec 8)) (size : Nat) (hok : Aes.okKey key.length) (hn : 7 ≤ nonce.length ∧ nonce.length ≤ 13) (h4 : 4 ≤ size) (h16 : size ≤ 16) (hev : size % 2 = 0) (ha : aad.length ≤ 70000) (text : List (BitVec 8)) (hl : text.length ≤ 1000000000000000) (hf : ¬ Cm.Fit text.length nonce) (w0 : World) : Calls Try.prog 49 #[.string (str key), .string (str nonce), .string (str aad), .string (str text), .int .i64 ((size : Nat) : Int)] w0 fun e w' => e = .returned (.tuple #[.string (str ([] : List (BitVec 8))), .int .i64 6]) ∧ Below w0.heap.size w0 w' := by
 refine enter (n := 32) Try.func49 rfl rfl rfl ?_
 have hk : Below w0.heap.size w0 w0 := Below.refl _ _
 refine sr ?_
 refine w_as (evc (.string (str ([] : List (BitVec 8))))) ?_
 refine w_as Ev.c ?_
 refine nt ?_
 refine wp_seq ?_
 refine sr ?_
 refine w_mv es ?_
 refine w_mv es ?_
 refine w_mv es ?_
 refine w_mv ei ?_
 refine w_call (Try.func69) (by kernel_rfl) rfl (m4 es es es ei) (cmWrong_y key nonce aad size hok hn h4 h16 hev ha w0) ?_
 rintro _ w1 ⟨rfl, hb2⟩
 refine ⟨_, rfl, ?_⟩
 replace hk := thenB hk hb2
 refine w_as ei ?_
 refine nt ?_
 refine sr ?_
 refine w_mv ei ?_
 refine w_val (y_bin ei Ev.c b_neq) ?_
 refine nt ?_
 refine c_ff eb ?_
 refine wp_skip ?_
 refine then_n ?_
 refine wp_seq ?_
 refine sr ?_
 refine w_mv es ?_
 refine w_val (y_len es Try.underlying9) ?_
 refine w_mv es ?_
 refine w_call (Try.func70) (by kernel_rfl) rfl (m2 ei es) (cmFits text.length nonce (by omega) w1) ?_
 rintro _ w3 ⟨rfl, hb4⟩
 refine ⟨_, rfl, ?_⟩
 replace hk := thenB hk hb4
 refine w_val (y_notp eb) ?_
 refine nt ?_
 have hc5 : ¬ (Cm.Fit text.length nonce) := by exact hf
 refine c_t (p := ¬ (Cm.Fit text.length nonce)) eb hc5 ?_
 refine sr ?_
 refine w_as (evc (.string (str ([] : List (BitVec 8))))) ?_
 refine w_as Ev.c ?_
 refine nt ?_
 refine wp_ret ?_
 refine then_r ?_
 refine fin_ret2 rfl es ei ?_
 exact ⟨rfl, hk⟩

theorem cmTag5_y (key nonce aad : List (BitVec 8)) (size : Nat) (hok : Aes.okKey key.length) (hn : 7 ≤ nonce.length ∧ nonce.length ≤ 13) (h4 : 4 ≤ size) (h16 : size ≤ 16) (hev : size % 2 = 0) (ha : aad.length ≤ 70000) (text : List (BitVec 8)) (hl : text.length ≤ 1000000000000000) (hf : Cm.Fit text.length nonce) (hs : aad.length + text.length ≤ 139960) (w0 : World) : Calls Try.prog 49 #[.string (str key), .string (str nonce), .string (str aad), .string (str text), .int .i64 ((size : Nat) : Int)] w0 fun e w' => e = .returned (.tuple #[.string (str (Cm.tg key nonce aad text (15 - nonce.length) size)), .int .i64 0]) ∧ Below w0.heap.size w0 w' := by
 have hf1 := hf.1
 refine enter (n := 32) Try.func49 rfl rfl rfl ?_
 have hk : Below w0.heap.size w0 w0 := Below.refl _ _
 refine sr ?_
 refine w_as (evc (.string (str ([] : List (BitVec 8))))) ?_
 refine w_as Ev.c ?_
 refine nt ?_
 refine wp_seq ?_
 refine sr ?_
 refine w_mv es ?_
 refine w_mv es ?_
 refine w_mv es ?_
 refine w_mv ei ?_
 refine w_call (Try.func69) (by kernel_rfl) rfl (m4 es es es ei) (cmWrong_y key nonce aad size hok hn h4 h16 hev ha w0) ?_
 rintro _ w1 ⟨rfl, hb2⟩
 refine ⟨_, rfl, ?_⟩
 replace hk := thenB hk hb2
 refine w_as ei ?_
 refine nt ?_
 refine sr ?_
 refine w_mv ei ?_
 refine w_val (y_bin ei Ev.c b_neq) ?_
 refine nt ?_
 refine c_ff eb ?_
 refine wp_skip ?_
 refine then_n ?_
 refine wp_seq ?_
 refine sr ?_
 refine w_mv es ?_
 refine w_val (y_len es Try.underlying9) ?_
 refine w_mv es ?_
 refine w_call (Try.func70) (by kernel_rfl) rfl (m2 ei es) (cmFits text.length nonce (by omega) w1) ?_
 rintro _ w3 ⟨rfl, hb4⟩
 refine ⟨_, rfl, ?_⟩
 replace hk := thenB hk hb4
 refine w_val (y_notp eb) ?_
 refine nt ?_
 have hc5 : ¬ (¬ (Cm.Fit text.length nonce)) := by exact fun h => h hf
 refine c_f (p := ¬ (Cm.Fit text.length nonce)) eb hc5 ?_
 refine wp_skip ?_
 refine then_n ?_
 refine sr ?_
 refine w_mv es ?_
 refine w_mv es ?_
 refine w_mv es ?_
 refine w_mv es ?_
 refine w_mv ei ?_
 refine w_call (Try.func72) (by kernel_rfl) rfl (m5 es es es es ei) (cmTag key nonce aad text (15 - nonce.length) (by omega) (by omega) (by omega) size h4 h16 hev hok ha hf (by omega) w3) ?_
 rintro _ w6 ⟨rfl, hb7⟩
 refine ⟨_, rfl, ?_⟩
 replace hk := thenB hk hb7
 refine w_as es ?_
 refine w_as Ev.c ?_
 refine nt ?_
 refine wp_ret ?_
 refine fin_ret2 rfl es ei ?_
 exact ⟨rfl, hk⟩

theorem cmSeal_k (key nonce aad : List (BitVec 8)) (size : Int) (hok : ¬ Aes.okKey key.length) (text : List (BitVec 8)) (w0 : World) : Calls Try.prog 45 #[.string (str key), .string (str nonce), .string (str aad), .string (str text), .int .i64 size] w0 fun e w' => e = .returned (.tuple #[.string (str ([] : List (BitVec 8))), .int .i64 3]) ∧ Below w0.heap.size w0 w' := by
 refine enter (n := 37) Try.func45 rfl rfl rfl ?_
 have hk : Below w0.heap.size w0 w0 := Below.refl _ _
 refine sr ?_
 refine w_as (evc (.string (str ([] : List (BitVec 8))))) ?_
 refine w_as Ev.c ?_
 refine nt ?_
 refine wp_seq ?_
 refine sr ?_
 refine w_mv es ?_
 refine w_mv es ?_
 refine w_mv es ?_
 refine w_mv ei ?_
 refine w_call (Try.func69) (by kernel_rfl) rfl (m4 es es es ei) (cmWrong_k key nonce aad size hok w0) ?_
 rintro _ w1 ⟨rfl, hb2⟩
 refine ⟨_, rfl, ?_⟩
 replace hk := thenB hk hb2
 refine w_as ei ?_
 refine nt ?_
 refine sr ?_
 refine w_mv ei ?_
 refine w_val (y_bin ei Ev.c b_neq) ?_
 refine nt ?_
 refine c_tt eb ?_
 refine sr ?_
 refine w_mv ei ?_
 refine w_as (evc (.string (str ([] : List (BitVec 8))))) ?_
 refine w_as ei ?_
 refine nt ?_
 refine wp_ret ?_
 refine then_r ?_
 refine fin_ret2 rfl es ei ?_
 exact ⟨rfl, hk⟩

theorem cmSeal_n (key nonce aad : List (BitVec 8)) (size : Int) (hok : Aes.okKey key.length) (hn : ¬ (7 ≤ nonce.length ∧ nonce.length ≤ 13)) (text : List (BitVec 8)) (w0 : World) : Calls Try.prog 45 #[.string (str key), .string (str nonce), .string (str aad), .string (str text), .int .i64 size] w0 fun e w' => e = .returned (.tuple #[.string (str ([] : List (BitVec 8))), .int .i64 4]) ∧ Below w0.heap.size w0 w' := by
 refine enter (n := 37) Try.func45 rfl rfl rfl ?_
 have hk : Below w0.heap.size w0 w0 := Below.refl _ _
 refine sr ?_
 refine w_as (evc (.string (str ([] : List (BitVec 8))))) ?_
 refine w_as Ev.c ?_
 refine nt ?_
 refine wp_seq ?_
 refine sr ?_
 refine w_mv es ?_
 refine w_mv es ?_
 refine w_mv es ?_
 refine w_mv ei ?_
 refine w_call (Try.func69) (by kernel_rfl) rfl (m4 es es es ei) (cmWrong_n key nonce aad size hok hn w0) ?_
 rintro _ w1 ⟨rfl, hb2⟩
 refine ⟨_, rfl, ?_⟩
 replace hk := thenB hk hb2
 refine w_as ei ?_
 refine nt ?_
 refine sr ?_
 refine w_mv ei ?_
 refine w_val (y_bin ei Ev.c b_neq) ?_
 refine nt ?_
 refine c_tt eb ?_
 refine sr ?_
 refine w_mv ei ?_
 refine w_as (evc (.string (str ([] : List (BitVec 8))))) ?_
 refine w_as ei ?_
 refine nt ?_
 refine wp_ret ?_
 refine then_r ?_
 refine fin_ret2 rfl es ei ?_
 exact ⟨rfl, hk⟩

theorem cmSeal_t (key nonce aad : List (BitVec 8)) (size : Int) (hok : Aes.okKey key.length) (hn : 7 ≤ nonce.length ∧ nonce.length ≤ 13) (ht : ¬ (4 ≤ size ∧ size ≤ 16 ∧ size % 2 = 0)) (text : List (BitVec 8)) (w0 : World) : Calls Try.prog 45 #[.string (str key), .string (str nonce), .string (str aad), .string (str text), .int .i64 size] w0 fun e w' => e = .returned (.tuple #[.string (str ([] : List (BitVec 8))), .int .i64 5]) ∧ Below w0.heap.size w0 w' := by
 refine enter (n := 37) Try.func45 rfl rfl rfl ?_
 have hk : Below w0.heap.size w0 w0 := Below.refl _ _
 refine sr ?_
 refine w_as (evc (.string (str ([] : List (BitVec 8))))) ?_
 refine w_as Ev.c ?_
 refine nt ?_
 refine wp_seq ?_
 refine sr ?_
 refine w_mv es ?_
 refine w_mv es ?_
 refine w_mv es ?_
 refine w_mv ei ?_
 refine w_call (Try.func69) (by kernel_rfl) rfl (m4 es es es ei) (cmWrong_t key nonce aad size hok hn ht w0) ?_
 rintro _ w1 ⟨rfl, hb2⟩
 refine ⟨_, rfl, ?_⟩
 replace hk := thenB hk hb2
 refine w_as ei ?_
 refine nt ?_
 refine sr ?_
 refine w_mv ei ?_
 refine w_val (y_bin ei Ev.c b_neq) ?_
 refine nt ?_
 refine c_tt eb ?_
 refine sr ?_
 refine w_mv ei ?_
 refine w_as (evc (.string (str ([] : List (BitVec 8))))) ?_
 refine w_as ei ?_
 refine nt ?_
 refine wp_ret ?_
 refine then_r ?_
 refine fin_ret2 rfl es ei ?_
 exact ⟨rfl, hk⟩

theorem cmSeal_a (key nonce aad : List (BitVec 8)) (size : Nat) (hok : Aes.okKey key.length) (hn : 7 ≤ nonce.length ∧ nonce.length ≤ 13) (h4 : 4 ≤ size) (h16 : size ≤ 16) (hev : size % 2 = 0) (ha : 70000 < aad.length) (text : List (BitVec 8)) (w0 : World) : Calls Try.prog 45 #[.string (str key), .string (str nonce), .string (str aad), .string (str text), .int .i64 ((size : Nat) : Int)] w0 fun e w' => e = .returned (.tuple #[.string (str ([] : List (BitVec 8))), .int .i64 6]) ∧ Below w0.heap.size w0 w' := by
 refine enter (n := 37) Try.func45 rfl rfl rfl ?_
 have hk : Below w0.heap.size w0 w0 := Below.refl _ _
 refine sr ?_
 refine w_as (evc (.string (str ([] : List (BitVec 8))))) ?_
 refine w_as Ev.c ?_
 refine nt ?_
 refine wp_seq ?_
 refine sr ?_
 refine w_mv es ?_
 refine w_mv es ?_
 refine w_mv es ?_
 refine w_mv ei ?_
 refine w_call (Try.func69) (by kernel_rfl) rfl (m4 es es es ei) (cmWrong_a key nonce aad size hok hn h4 h16 hev ha w0) ?_
 rintro _ w1 ⟨rfl, hb2⟩
 refine ⟨_, rfl, ?_⟩
 replace hk := thenB hk hb2
 refine w_as ei ?_
 refine nt ?_
 refine sr ?_
 refine w_mv ei ?_
 refine w_val (y_bin ei Ev.c b_neq) ?_
 refine nt ?_
 refine c_tt eb ?_
 refine sr ?_
 refine w_mv ei ?_
 refine w_as (evc (.string (str ([] : List (BitVec 8))))) ?_
 refine w_as ei ?_
 refine nt ?_
 refine wp_ret ?_
 refine then_r ?_
 refine fin_ret2 rfl es ei ?_
 exact ⟨rfl, hk⟩

theorem cmSeal_z (key nonce aad : List (BitVec 8)) (size : Nat) (hok : Aes.okKey key.length) (hn : 7 ≤ nonce.length ∧ nonce.length ≤ 13) (h4 : 4 ≤ size) (h16 : size ≤ 16) (hev : size % 2 = 0) (ha : aad.length ≤ 70000) (text : List (BitVec 8)) (hl : text.length ≤ 1000000000000000) (hf : ¬ Cm.Fit text.length nonce) (w0 : World) : Calls Try.prog 45 #[.string (str key), .string (str nonce), .string (str aad), .string (str text), .int .i64 ((size : Nat) : Int)] w0 fun e w' => e = .returned (.tuple #[.string (str ([] : List (BitVec 8))), .int .i64 6]) ∧ Below w0.heap.size w0 w' := by
 refine enter (n := 37) Try.func45 rfl rfl rfl ?_
 have hk : Below w0.heap.size w0 w0 := Below.refl _ _
 refine sr ?_
 refine w_as (evc (.string (str ([] : List (BitVec 8))))) ?_
 refine w_as Ev.c ?_
 refine nt ?_
 refine wp_seq ?_
 refine sr ?_
 refine w_mv es ?_
 refine w_mv es ?_
 refine w_mv es ?_
 refine w_mv ei ?_
 refine w_call (Try.func69) (by kernel_rfl) rfl (m4 es es es ei) (cmWrong_y key nonce aad size hok hn h4 h16 hev ha w0) ?_
 rintro _ w1 ⟨rfl, hb2⟩
 refine ⟨_, rfl, ?_⟩
 replace hk := thenB hk hb2
 refine w_as ei ?_
 refine nt ?_
 refine sr ?_
 refine w_mv ei ?_
 refine w_val (y_bin ei Ev.c b_neq) ?_
 refine nt ?_
 refine c_ff eb ?_
 refine wp_skip ?_
 refine then_n ?_
 refine wp_seq ?_
 refine sr ?_
 refine w_mv es ?_
 refine w_val (y_len es Try.underlying9) ?_
 refine w_mv es ?_
 refine w_call (Try.func70) (by kernel_rfl) rfl (m2 ei es) (cmFits text.length nonce (by omega) w1) ?_
 rintro _ w3 ⟨rfl, hb4⟩
 refine ⟨_, rfl, ?_⟩
 replace hk := thenB hk hb4
 refine w_val (y_notp eb) ?_
 refine nt ?_
 have hc5 : ¬ (Cm.Fit text.length nonce) := by exact hf
 refine c_t (p := ¬ (Cm.Fit text.length nonce)) eb hc5 ?_
 refine sr ?_
 refine w_as (evc (.string (str ([] : List (BitVec 8))))) ?_
 refine w_as Ev.c ?_
 refine nt ?_
 refine wp_ret ?_
 refine then_r ?_
 refine fin_ret2 rfl es ei ?_
 exact ⟨rfl, hk⟩

theorem cmSeal_y (key nonce aad : List (BitVec 8)) (size : Nat) (hok : Aes.okKey key.length) (hn : 7 ≤ nonce.length ∧ nonce.length ≤ 13) (h4 : 4 ≤ size) (h16 : size ≤ 16) (hev : size % 2 = 0) (ha : aad.length ≤ 70000) (text : List (BitVec 8)) (hl : text.length ≤ 1000000000000000) (hf : Cm.Fit text.length nonce) (hs : aad.length + text.length ≤ 139960) (w0 : World) : Calls Try.prog 45 #[.string (str key), .string (str nonce), .string (str aad), .string (str text), .int .i64 ((size : Nat) : Int)] w0 fun e w' => e = .returned (.tuple #[.string (str (Cm.sealed key nonce aad text (15 - nonce.length) size)), .int .i64 0]) ∧ Below w0.heap.size w0 w' := by
 have hf1 := hf.1
 refine enter (n := 37) Try.func45 rfl rfl rfl ?_
 have hk : Below w0.heap.size w0 w0 := Below.refl _ _
 refine sr ?_
 refine w_as (evc (.string (str ([] : List (BitVec 8))))) ?_
 refine w_as Ev.c ?_
 refine nt ?_
 refine wp_seq ?_
 refine sr ?_
 refine w_mv es ?_
 refine w_mv es ?_
 refine w_mv es ?_
 refine w_mv ei ?_
 refine w_call (Try.func69) (by kernel_rfl) rfl (m4 es es es ei) (cmWrong_y key nonce aad size hok hn h4 h16 hev ha w0) ?_
 rintro _ w1 ⟨rfl, hb2⟩
 refine ⟨_, rfl, ?_⟩
 replace hk := thenB hk hb2
 refine w_as ei ?_
 refine nt ?_
 refine sr ?_
 refine w_mv ei ?_
 refine w_val (y_bin ei Ev.c b_neq) ?_
 refine nt ?_
 refine c_ff eb ?_
 refine wp_skip ?_
 refine then_n ?_
 refine wp_seq ?_
 refine sr ?_
 refine w_mv es ?_
 refine w_val (y_len es Try.underlying9) ?_
 refine w_mv es ?_
 refine w_call (Try.func70) (by kernel_rfl) rfl (m2 ei es) (cmFits text.length nonce (by omega) w1) ?_
 rintro _ w3 ⟨rfl, hb4⟩
 refine ⟨_, rfl, ?_⟩
 replace hk := thenB hk hb4
 refine w_val (y_notp eb) ?_
 refine nt ?_
 have hc5 : ¬ (¬ (Cm.Fit text.length nonce)) := by exact fun h => h hf
 refine c_f (p := ¬ (Cm.Fit text.length nonce)) eb hc5 ?_
 refine wp_skip ?_
 refine then_n ?_
 refine sr ?_
 refine w_mv es ?_
 refine w_mv es ?_
 refine w_mv es ?_
 refine w_call (Try.func71) (by kernel_rfl) rfl (m3 es es es) (cmXor key nonce text (15 - nonce.length) (by omega) (by omega) (by omega) hok (by omega) w3) ?_
 rintro _ w6 ⟨rfl, hb7⟩
 refine ⟨_, rfl, ?_⟩
 replace hk := thenB hk hb7
 refine w_mv es ?_
 refine w_mv es ?_
 refine w_mv es ?_
 refine w_mv es ?_
 refine w_mv ei ?_
 refine w_call (Try.func72) (by kernel_rfl) rfl (m5 es es es es ei) (cmTag key nonce aad text (15 - nonce.length) (by omega) (by omega) (by omega) size h4 h16 hev hok ha hf (by omega) w6) ?_
 rintro _ w8 ⟨rfl, hb9⟩
 refine ⟨_, rfl, ?_⟩
 replace hk := thenB hk hb9
 refine w_val (y_bin es es (b_cat (by rw [Cm.xr_len, Cm.tg_len _ _ _ _ _ _ hok h16]; omega))) ?_
 refine w_as es ?_
 refine w_as Ev.c ?_
 refine nt ?_
 refine wp_ret ?_
 refine fin_ret2 rfl es ei ?_
 refine ⟨congrArg Ending.returned ?_, hk⟩
 show (.tuple #[.string (str ((Cm.xr key nonce text (15 - nonce.length)) ++ (Cm.tg key nonce aad text (15 - nonce.length) size))), .int .i64 0] : Value) = .tuple #[.string (str (Cm.sealed key nonce aad text (15 - nonce.length) size)), .int .i64 0]
 first | with_reducible rfl | (with_reducible congr 1 <;> omega) | (with_reducible congr 2 <;> omega) | (with_reducible congr 3 <;> omega) | rfl

theorem cmOpen_k (key nonce aad : List (BitVec 8)) (size : Int) (hok : ¬ Aes.okKey key.length) (text : List (BitVec 8)) (w0 : World) : Calls Try.prog 47 #[.string (str key), .string (str nonce), .string (str aad), .string (str text), .int .i64 size] w0 fun e w' => e = .returned (.tuple #[.string (str ([] : List (BitVec 8))), .int .i64 3]) ∧ Below w0.heap.size w0 w' := by
 refine enter (n := 53) Try.func47 rfl rfl rfl ?_
 have hk : Below w0.heap.size w0 w0 := Below.refl _ _
 refine sr ?_
 refine w_as (evc (.string (str ([] : List (BitVec 8))))) ?_
 refine w_as Ev.c ?_
 refine nt ?_
 refine wp_seq ?_
 refine sr ?_
 refine w_mv es ?_
 refine w_mv es ?_
 refine w_mv es ?_
 refine w_mv ei ?_
 refine w_call (Try.func69) (by kernel_rfl) rfl (m4 es es es ei) (cmWrong_k key nonce aad size hok w0) ?_
 rintro _ w1 ⟨rfl, hb2⟩
 refine ⟨_, rfl, ?_⟩
 replace hk := thenB hk hb2
 refine w_as ei ?_
 refine nt ?_
 refine sr ?_
 refine w_mv ei ?_
 refine w_val (y_bin ei Ev.c b_neq) ?_
 refine nt ?_
 refine c_tt eb ?_
 refine sr ?_
 refine w_mv ei ?_
 refine w_as (evc (.string (str ([] : List (BitVec 8))))) ?_
 refine w_as ei ?_
 refine nt ?_
 refine wp_ret ?_
 refine then_r ?_
 refine fin_ret2 rfl es ei ?_
 exact ⟨rfl, hk⟩

theorem cmOpen_n (key nonce aad : List (BitVec 8)) (size : Int) (hok : Aes.okKey key.length) (hn : ¬ (7 ≤ nonce.length ∧ nonce.length ≤ 13)) (text : List (BitVec 8)) (w0 : World) : Calls Try.prog 47 #[.string (str key), .string (str nonce), .string (str aad), .string (str text), .int .i64 size] w0 fun e w' => e = .returned (.tuple #[.string (str ([] : List (BitVec 8))), .int .i64 4]) ∧ Below w0.heap.size w0 w' := by
 refine enter (n := 53) Try.func47 rfl rfl rfl ?_
 have hk : Below w0.heap.size w0 w0 := Below.refl _ _
 refine sr ?_
 refine w_as (evc (.string (str ([] : List (BitVec 8))))) ?_
 refine w_as Ev.c ?_
 refine nt ?_
 refine wp_seq ?_
 refine sr ?_
 refine w_mv es ?_
 refine w_mv es ?_
 refine w_mv es ?_
 refine w_mv ei ?_
 refine w_call (Try.func69) (by kernel_rfl) rfl (m4 es es es ei) (cmWrong_n key nonce aad size hok hn w0) ?_
 rintro _ w1 ⟨rfl, hb2⟩
 refine ⟨_, rfl, ?_⟩
 replace hk := thenB hk hb2
 refine w_as ei ?_
 refine nt ?_
 refine sr ?_
 refine w_mv ei ?_
 refine w_val (y_bin ei Ev.c b_neq) ?_
 refine nt ?_
 refine c_tt eb ?_
 refine sr ?_
 refine w_mv ei ?_
 refine w_as (evc (.string (str ([] : List (BitVec 8))))) ?_
 refine w_as ei ?_
 refine nt ?_
 refine wp_ret ?_
 refine then_r ?_
 refine fin_ret2 rfl es ei ?_
 exact ⟨rfl, hk⟩

theorem cmOpen_t (key nonce aad : List (BitVec 8)) (size : Int) (hok : Aes.okKey key.length) (hn : 7 ≤ nonce.length ∧ nonce.length ≤ 13) (ht : ¬ (4 ≤ size ∧ size ≤ 16 ∧ size % 2 = 0)) (text : List (BitVec 8)) (w0 : World) : Calls Try.prog 47 #[.string (str key), .string (str nonce), .string (str aad), .string (str text), .int .i64 size] w0 fun e w' => e = .returned (.tuple #[.string (str ([] : List (BitVec 8))), .int .i64 5]) ∧ Below w0.heap.size w0 w' := by
 refine enter (n := 53) Try.func47 rfl rfl rfl ?_
 have hk : Below w0.heap.size w0 w0 := Below.refl _ _
 refine sr ?_
 refine w_as (evc (.string (str ([] : List (BitVec 8))))) ?_
 refine w_as Ev.c ?_
 refine nt ?_
 refine wp_seq ?_
 refine sr ?_
 refine w_mv es ?_
 refine w_mv es ?_
 refine w_mv es ?_
 refine w_mv ei ?_
 refine w_call (Try.func69) (by kernel_rfl) rfl (m4 es es es ei) (cmWrong_t key nonce aad size hok hn ht w0) ?_
 rintro _ w1 ⟨rfl, hb2⟩
 refine ⟨_, rfl, ?_⟩
 replace hk := thenB hk hb2
 refine w_as ei ?_
 refine nt ?_
 refine sr ?_
 refine w_mv ei ?_
 refine w_val (y_bin ei Ev.c b_neq) ?_
 refine nt ?_
 refine c_tt eb ?_
 refine sr ?_
 refine w_mv ei ?_
 refine w_as (evc (.string (str ([] : List (BitVec 8))))) ?_
 refine w_as ei ?_
 refine nt ?_
 refine wp_ret ?_
 refine then_r ?_
 refine fin_ret2 rfl es ei ?_
 exact ⟨rfl, hk⟩

theorem cmOpen_a (key nonce aad : List (BitVec 8)) (size : Nat) (hok : Aes.okKey key.length) (hn : 7 ≤ nonce.length ∧ nonce.length ≤ 13) (h4 : 4 ≤ size) (h16 : size ≤ 16) (hev : size % 2 = 0) (ha : 70000 < aad.length) (text : List (BitVec 8)) (w0 : World) : Calls Try.prog 47 #[.string (str key), .string (str nonce), .string (str aad), .string (str text), .int .i64 ((size : Nat) : Int)] w0 fun e w' => e = .returned (.tuple #[.string (str ([] : List (BitVec 8))), .int .i64 6]) ∧ Below w0.heap.size w0 w' := by
 refine enter (n := 53) Try.func47 rfl rfl rfl ?_
 have hk : Below w0.heap.size w0 w0 := Below.refl _ _
 refine sr ?_
 refine w_as (evc (.string (str ([] : List (BitVec 8))))) ?_
 refine w_as Ev.c ?_
 refine nt ?_
 refine wp_seq ?_
 refine sr ?_
 refine w_mv es ?_
 refine w_mv es ?_
 refine w_mv es ?_
 refine w_mv ei ?_
 refine w_call (Try.func69) (by kernel_rfl) rfl (m4 es es es ei) (cmWrong_a key nonce aad size hok hn h4 h16 hev ha w0) ?_
 rintro _ w1 ⟨rfl, hb2⟩
 refine ⟨_, rfl, ?_⟩
 replace hk := thenB hk hb2
 refine w_as ei ?_
 refine nt ?_
 refine sr ?_
 refine w_mv ei ?_
 refine w_val (y_bin ei Ev.c b_neq) ?_
 refine nt ?_
 refine c_tt eb ?_
 refine sr ?_
 refine w_mv ei ?_
 refine w_as (evc (.string (str ([] : List (BitVec 8))))) ?_
 refine w_as ei ?_
 refine nt ?_
 refine wp_ret ?_
 refine then_r ?_
 refine fin_ret2 rfl es ei ?_
 exact ⟨rfl, hk⟩

theorem cmOpen_s (key nonce aad : List (BitVec 8)) (size : Nat) (hok : Aes.okKey key.length) (hn : 7 ≤ nonce.length ∧ nonce.length ≤ 13) (h4 : 4 ≤ size) (h16 : size ≤ 16) (hev : size % 2 = 0) (ha : aad.length ≤ 70000) (text : List (BitVec 8)) (hl : text.length ≤ 1000000000000000) (hs : text.length < size) (w0 : World) : Calls Try.prog 47 #[.string (str key), .string (str nonce), .string (str aad), .string (str text), .int .i64 ((size : Nat) : Int)] w0 fun e w' => e = .returned (.tuple #[.string (str ([] : List (BitVec 8))), .int .i64 6]) ∧ Below w0.heap.size w0 w' := by
 refine enter (n := 53) Try.func47 rfl rfl rfl ?_
 have hk : Below w0.heap.size w0 w0 := Below.refl _ _
 refine sr ?_
 refine w_as (evc (.string (str ([] : List (BitVec 8))))) ?_
 refine w_as Ev.c ?_
 refine nt ?_
 refine wp_seq ?_
 refine sr ?_
 refine w_mv es ?_
 refine w_mv es ?_
 refine w_mv es ?_
 refine w_mv ei ?_
 refine w_call (Try.func69) (by kernel_rfl) rfl (m4 es es es ei) (cmWrong_y key nonce aad size hok hn h4 h16 hev ha w0) ?_
 rintro _ w1 ⟨rfl, hb2⟩
 refine ⟨_, rfl, ?_⟩
 replace hk := thenB hk hb2
 refine w_as ei ?_
 refine nt ?_
 refine sr ?_
 refine w_mv ei ?_
 refine w_val (y_bin ei Ev.c b_neq) ?_
 refine nt ?_
 refine c_ff eb ?_
 refine wp_skip ?_
 refine then_n ?_
 refine sr ?_
 refine w_mv es ?_
 refine w_val (y_len es Try.underlying9) ?_
 refine w_mv ei ?_
 refine w_val (y_bin ei ei (b_sub (by omega))) ?_
 refine w_as ei ?_
 refine nt ?_
 refine wp_seq ?_
 refine sr ?_
 refine w_mv ei ?_
 refine w_val (y_bin ei Ev.c b_lss) ?_
 refine w_mv eb ?_
 have hc3 : (((text.length : Nat) : Int) - ((size : Nat) : Int)) < 0 := by omega
 with_reducible refine w_skip ?_ ?_
 exact wn rfl rfl (eb (dt hc3))
 with_reducible refine w_skip ?_ ?_
 exact wn rfl rfl (eb (dt hc3))
 with_reducible refine w_skip ?_ ?_
 exact wn rfl rfl (eb (dt hc3))
 with_reducible refine w_skip ?_ ?_
 exact wn rfl rfl (eb (dt hc3))
 refine w_val (y_pick_t (eb (dt hc3)) Ev.c) ?_
 refine nt ?_
 refine c_tt eb ?_
 refine sr ?_
 refine w_as (evc (.string (str ([] : List (BitVec 8))))) ?_
 refine w_as Ev.c ?_
 refine nt ?_
 refine wp_ret ?_
 refine then_r ?_
 refine fin_ret2 rfl es ei ?_
 exact ⟨rfl, hk⟩

theorem cmOpen_z (key nonce aad : List (BitVec 8)) (size : Nat) (hok : Aes.okKey key.length) (hn : 7 ≤ nonce.length ∧ nonce.length ≤ 13) (h4 : 4 ≤ size) (h16 : size ≤ 16) (hev : size % 2 = 0) (ha : aad.length ≤ 70000) (text : List (BitVec 8)) (hl : text.length ≤ 1000000000000000) (m : Nat) (hm : text.length = m + size) (hf : ¬ Cm.Fit m nonce) (w0 : World) : Calls Try.prog 47 #[.string (str key), .string (str nonce), .string (str aad), .string (str text), .int .i64 ((size : Nat) : Int)] w0 fun e w' => e = .returned (.tuple #[.string (str ([] : List (BitVec 8))), .int .i64 6]) ∧ Below w0.heap.size w0 w' := by
 refine enter (n := 53) Try.func47 rfl rfl rfl ?_
 have hk : Below w0.heap.size w0 w0 := Below.refl _ _
 refine sr ?_
 refine w_as (evc (.string (str ([] : List (BitVec 8))))) ?_
 refine w_as Ev.c ?_
 refine nt ?_
 refine wp_seq ?_
 refine sr ?_
 refine w_mv es ?_
 refine w_mv es ?_
 refine w_mv es ?_
 refine w_mv ei ?_
 refine w_call (Try.func69) (by kernel_rfl) rfl (m4 es es es ei) (cmWrong_y key nonce aad size hok hn h4 h16 hev ha w0) ?_
 rintro _ w1 ⟨rfl, hb2⟩
 refine ⟨_, rfl, ?_⟩
 replace hk := thenB hk hb2
 refine w_as ei ?_
 refine nt ?_
 refine sr ?_
 refine w_mv ei ?_
 refine w_val (y_bin ei Ev.c b_neq) ?_
 refine nt ?_
 refine c_ff eb ?_
 refine wp_skip ?_
 refine then_n ?_
 refine sr ?_
 refine w_mv es ?_
 refine w_val (y_len es Try.underlying9) ?_
 refine w_mv ei ?_
 refine w_val (y_bin ei ei (b_sub (by omega))) ?_
 refine w_as ei ?_
 refine nt ?_
 refine wp_seq ?_
 refine sr ?_
 refine w_mv (ex (.int .i64 ((m : Nat) : Int)) (Eq.trans (b := .int .i64 (((text.length : Nat) : Int) - ((size : Nat) : Int))) rfl (by congr 1; omega))) ?_
 refine w_val (y_bin ei Ev.c b_lss) ?_
 refine w_mv eb ?_
 have hc3 : ¬ (((m : Nat) : Int) < 0) := by omega
 refine w_val_g (v := .int .i64 ((m : Nat) : Int)) (wy rfl rfl (eb (df hc3))) (y_mv (ex (.int .i64 ((m : Nat) : Int)) (Eq.trans (b := .int .i64 (((text.length : Nat) : Int) - ((size : Nat) : Int))) rfl (by congr 1; omega)))) ?_
 refine w_val_g (v := .string (str nonce)) (wy rfl rfl (eb (df hc3))) (y_mv es) ?_
 refine w_unguard (wy rfl rfl (eb (df hc3))) ?_
 refine w_call (Try.func70) (by kernel_rfl) rfl (m2 ei es) (cmFits m nonce (by omega) w1) ?_
 rintro _ w4 ⟨rfl, hb5⟩
 refine ⟨_, rfl, ?_⟩
 replace hk := thenB hk hb5
 refine w_val_g (wy rfl rfl (eb (df hc3))) (y_notp eb) ?_
 refine w_val (y_pick_f (eb (df hc3)) eb) ?_
 refine nt ?_
 have hc6 : ¬ (Cm.Fit m nonce) := by exact hf
 refine c_t (p := ¬ (Cm.Fit m nonce)) eb hc6 ?_
 refine sr ?_
 refine w_as (evc (.string (str ([] : List (BitVec 8))))) ?_
 refine w_as Ev.c ?_
 refine nt ?_
 refine wp_ret ?_
 refine then_r ?_
 refine fin_ret2 rfl es ei ?_
 exact ⟨rfl, hk⟩

theorem cmOpen_y (key nonce aad : List (BitVec 8)) (size : Nat) (hok : Aes.okKey key.length) (hn : 7 ≤ nonce.length ∧ nonce.length ≤ 13) (h4 : 4 ≤ size) (h16 : size ≤ 16) (hev : size % 2 = 0) (ha : aad.length ≤ 70000) (text : List (BitVec 8)) (hl : text.length ≤ 1000000000000000) (m : Nat) (hm : text.length = m + size) (hf : Cm.Fit m nonce) (hs : aad.length + m ≤ 139960) (hb : Cm.tg key nonce aad (Cm.xr key nonce (text.take m) (15 - nonce.length)) (15 - nonce.length) size = text.drop m) (w0 : World) : Calls Try.prog 47 #[.string (str key), .string (str nonce), .string (str aad), .string (str text), .int .i64 ((size : Nat) : Int)] w0 fun e w' => e = .returned (.tuple #[.string (str (Cm.xr key nonce (text.take m) (15 - nonce.length))), .int .i64 0]) ∧ Below w0.heap.size w0 w' := by
 have hf1 := hf.1
 have htl : (text.take m).length = m := by rw [List.length_take]; omega
 have hxl : (Cm.xr key nonce (text.take m) (15 - nonce.length)).length = m := by rw [Cm.xr_len, htl]
 refine enter (n := 53) Try.func47 rfl rfl rfl ?_
 have hk : Below w0.heap.size w0 w0 := Below.refl _ _
 refine sr ?_
 refine w_as (evc (.string (str ([] : List (BitVec 8))))) ?_
 refine w_as Ev.c ?_
 refine nt ?_
 refine wp_seq ?_
 refine sr ?_
 refine w_mv es ?_
 refine w_mv es ?_
 refine w_mv es ?_
 refine w_mv ei ?_
 refine w_call (Try.func69) (by kernel_rfl) rfl (m4 es es es ei) (cmWrong_y key nonce aad size hok hn h4 h16 hev ha w0) ?_
 rintro _ w1 ⟨rfl, hb2⟩
 refine ⟨_, rfl, ?_⟩
 replace hk := thenB hk hb2
 refine w_as ei ?_
 refine nt ?_
 refine sr ?_
 refine w_mv ei ?_
 refine w_val (y_bin ei Ev.c b_neq) ?_
 refine nt ?_
 refine c_ff eb ?_
 refine wp_skip ?_
 refine then_n ?_
 refine sr ?_
 refine w_mv es ?_
 refine w_val (y_len es Try.underlying9) ?_
 refine w_mv ei ?_
 refine w_val (y_bin ei ei (b_sub (by omega))) ?_
 refine w_as ei ?_
 refine nt ?_
 refine wp_seq ?_
 refine sr ?_
 refine w_mv (ex (.int .i64 ((m : Nat) : Int)) (Eq.trans (b := .int .i64 (((text.length : Nat) : Int) - ((size : Nat) : Int))) rfl (by congr 1; omega))) ?_
 refine w_val (y_bin ei Ev.c b_lss) ?_
 refine w_mv eb ?_
 have hc3 : ¬ (((m : Nat) : Int) < 0) := by omega
 refine w_val_g (v := .int .i64 ((m : Nat) : Int)) (wy rfl rfl (eb (df hc3))) (y_mv (ex (.int .i64 ((m : Nat) : Int)) (Eq.trans (b := .int .i64 (((text.length : Nat) : Int) - ((size : Nat) : Int))) rfl (by congr 1; omega)))) ?_
 refine w_val_g (v := .string (str nonce)) (wy rfl rfl (eb (df hc3))) (y_mv es) ?_
 refine w_unguard (wy rfl rfl (eb (df hc3))) ?_
 refine w_call (Try.func70) (by kernel_rfl) rfl (m2 ei es) (cmFits m nonce (by omega) w1) ?_
 rintro _ w4 ⟨rfl, hb5⟩
 refine ⟨_, rfl, ?_⟩
 replace hk := thenB hk hb5
 refine w_val_g (wy rfl rfl (eb (df hc3))) (y_notp eb) ?_
 refine w_val (y_pick_f (eb (df hc3)) eb) ?_
 refine nt ?_
 have hc6 : ¬ (¬ (Cm.Fit m nonce)) := by exact fun h => h hf
 refine c_f (p := ¬ (Cm.Fit m nonce)) eb hc6 ?_
 refine wp_skip ?_
 refine then_n ?_
 refine sr ?_
 refine w_mv es ?_
 refine w_mv es ?_
 refine w_mv es ?_
 refine w_mv (ex (.int .i64 ((m : Nat) : Int)) (Eq.trans (b := .int .i64 (((text.length : Nat) : Int) - ((size : Nat) : Int))) rfl (by congr 1; omega))) ?_
 refine w_val (v := .string (str (text.take m))) (y_sls (ex (.string (str text))) evo.no (evo.s ei) Try.underlying9 (bnd_h (h := m) (by omega) (by omega))) ?_
 refine w_call (Try.func71) (by kernel_rfl) rfl (m3 es es es) (cmXor key nonce (text.take m) (15 - nonce.length) (by omega) (by omega) (by omega) hok (by omega) w4) ?_
 rintro _ w7 ⟨rfl, hb8⟩
 refine ⟨_, rfl, ?_⟩
 replace hk := thenB hk hb8
 refine w_as es ?_
 refine nt ?_
 refine ss ?_
 refine region_q CcmCT.mixed (by kernel_rfl) ?_
 refine q_mv es ?_
 refine q_mv es ?_
 refine q_mv es ?_
 refine q_mv es ?_
 refine q_mv ei ?_
 refine q_call (v := .string (str (Cm.tg key nonce aad (Cm.xr key nonce (text.take m) (15 - nonce.length)) (15 - nonce.length) size))) (Try.func72) (by kernel_rfl) rfl (m5 es es es es ei) (fun w' hw' => cmTag key nonce aad (Cm.xr key nonce (text.take m) (15 - nonce.length)) (15 - nonce.length) (by omega) (by omega) (by omega) size h4 h16 hev hok ha (by rw [hxl]; exact hf) (by rw [hxl]; omega) w') ?_
 refine q_mv es ?_
 refine q_mv (ex (.int .i64 ((m : Nat) : Int)) (Eq.trans (b := .int .i64 (((text.length : Nat) : Int) - ((size : Nat) : Int))) rfl (by congr 1; omega))) ?_
 refine q_val (v := .string (str (text.drop m))) (fun w' hw' => y_slf (ex (.string (str text))) (evo.s ei) Try.underlying9 (bnd_l (l := m) (by omega) (by omega))) ?_
 refine q_call (v := .bool (decide ((Cm.tg key nonce aad (Cm.xr key nonce (text.take m) (15 - nonce.length)) (15 - nonce.length) size) = (text.drop m)))) (Try.func67) (by kernel_rfl) rfl (m2 es es) (fun w' hw' => same_c (Cm.tg key nonce aad (Cm.xr key nonce (text.take m) (15 - nonce.length)) (15 - nonce.length) size) (text.drop m) (by rw [Cm.tg_len _ _ _ _ _ _ hok h16]; omega) w') ?_
 refine q_val (fun w' hw' => y_notp eb) ?_
 refine q_nil ?_
 intro w9 hb10
 replace hk := thenB hk hb10
 refine then_n ?_
 have hc11 : ¬ (¬ ((Cm.tg key nonce aad (Cm.xr key nonce (text.take m) (15 - nonce.length)) (15 - nonce.length) size) = (text.drop m))) := by exact fun h => h hb
 refine c_f (p := ¬ ((Cm.tg key nonce aad (Cm.xr key nonce (text.take m) (15 - nonce.length)) (15 - nonce.length) size) = (text.drop m))) eb hc11 ?_
 refine wp_skip ?_
 refine then_n ?_
 refine sr ?_
 refine w_mv es ?_
 refine w_as es ?_
 refine w_as Ev.c ?_
 refine nt ?_
 refine wp_ret ?_
 refine fin_ret2 rfl es ei ?_
 exact ⟨rfl, hk⟩

theorem cmOpen_b (key nonce aad : List (BitVec 8)) (size : Nat) (hok : Aes.okKey key.length) (hn : 7 ≤ nonce.length ∧ nonce.length ≤ 13) (h4 : 4 ≤ size) (h16 : size ≤ 16) (hev : size % 2 = 0) (ha : aad.length ≤ 70000) (text : List (BitVec 8)) (hl : text.length ≤ 1000000000000000) (m : Nat) (hm : text.length = m + size) (hf : Cm.Fit m nonce) (hs : aad.length + m ≤ 139960) (hb : ¬ Cm.tg key nonce aad (Cm.xr key nonce (text.take m) (15 - nonce.length)) (15 - nonce.length) size = text.drop m) (w0 : World) : Calls Try.prog 47 #[.string (str key), .string (str nonce), .string (str aad), .string (str text), .int .i64 ((size : Nat) : Int)] w0 fun e w' => e = .returned (.tuple #[.string (str ([] : List (BitVec 8))), .int .i64 8]) ∧ Below w0.heap.size w0 w' := by
 have hf1 := hf.1
 have htl : (text.take m).length = m := by rw [List.length_take]; omega
 have hxl : (Cm.xr key nonce (text.take m) (15 - nonce.length)).length = m := by rw [Cm.xr_len, htl]
 refine enter (n := 53) Try.func47 rfl rfl rfl ?_
 have hk : Below w0.heap.size w0 w0 := Below.refl _ _
 refine sr ?_
 refine w_as (evc (.string (str ([] : List (BitVec 8))))) ?_
 refine w_as Ev.c ?_
 refine nt ?_
 refine wp_seq ?_
 refine sr ?_
 refine w_mv es ?_
 refine w_mv es ?_
 refine w_mv es ?_
 refine w_mv ei ?_
 refine w_call (Try.func69) (by kernel_rfl) rfl (m4 es es es ei) (cmWrong_y key nonce aad size hok hn h4 h16 hev ha w0) ?_
 rintro _ w1 ⟨rfl, hb2⟩
 refine ⟨_, rfl, ?_⟩
 replace hk := thenB hk hb2
 refine w_as ei ?_
 refine nt ?_
 refine sr ?_
 refine w_mv ei ?_
 refine w_val (y_bin ei Ev.c b_neq) ?_
 refine nt ?_
 refine c_ff eb ?_
 refine wp_skip ?_
 refine then_n ?_
 refine sr ?_
 refine w_mv es ?_
 refine w_val (y_len es Try.underlying9) ?_
 refine w_mv ei ?_
 refine w_val (y_bin ei ei (b_sub (by omega))) ?_
 refine w_as ei ?_
 refine nt ?_
 refine wp_seq ?_
 refine sr ?_
 refine w_mv (ex (.int .i64 ((m : Nat) : Int)) (Eq.trans (b := .int .i64 (((text.length : Nat) : Int) - ((size : Nat) : Int))) rfl (by congr 1; omega))) ?_
 refine w_val (y_bin ei Ev.c b_lss) ?_
 refine w_mv eb ?_
 have hc3 : ¬ (((m : Nat) : Int) < 0) := by omega
 refine w_val_g (v := .int .i64 ((m : Nat) : Int)) (wy rfl rfl (eb (df hc3))) (y_mv (ex (.int .i64 ((m : Nat) : Int)) (Eq.trans (b := .int .i64 (((text.length : Nat) : Int) - ((size : Nat) : Int))) rfl (by congr 1; omega)))) ?_
 refine w_val_g (v := .string (str nonce)) (wy rfl rfl (eb (df hc3))) (y_mv es) ?_
 refine w_unguard (wy rfl rfl (eb (df hc3))) ?_
 refine w_call (Try.func70) (by kernel_rfl) rfl (m2 ei es) (cmFits m nonce (by omega) w1) ?_
 rintro _ w4 ⟨rfl, hb5⟩
 refine ⟨_, rfl, ?_⟩
 replace hk := thenB hk hb5
 refine w_val_g (wy rfl rfl (eb (df hc3))) (y_notp eb) ?_
 refine w_val (y_pick_f (eb (df hc3)) eb) ?_
 refine nt ?_
 have hc6 : ¬ (¬ (Cm.Fit m nonce)) := by exact fun h => h hf
 refine c_f (p := ¬ (Cm.Fit m nonce)) eb hc6 ?_
 refine wp_skip ?_
 refine then_n ?_
 refine sr ?_
 refine w_mv es ?_
 refine w_mv es ?_
 refine w_mv es ?_
 refine w_mv (ex (.int .i64 ((m : Nat) : Int)) (Eq.trans (b := .int .i64 (((text.length : Nat) : Int) - ((size : Nat) : Int))) rfl (by congr 1; omega))) ?_
 refine w_val (v := .string (str (text.take m))) (y_sls (ex (.string (str text))) evo.no (evo.s ei) Try.underlying9 (bnd_h (h := m) (by omega) (by omega))) ?_
 refine w_call (Try.func71) (by kernel_rfl) rfl (m3 es es es) (cmXor key nonce (text.take m) (15 - nonce.length) (by omega) (by omega) (by omega) hok (by omega) w4) ?_
 rintro _ w7 ⟨rfl, hb8⟩
 refine ⟨_, rfl, ?_⟩
 replace hk := thenB hk hb8
 refine w_as es ?_
 refine nt ?_
 refine ss ?_
 refine region_q CcmCT.mixed (by kernel_rfl) ?_
 refine q_mv es ?_
 refine q_mv es ?_
 refine q_mv es ?_
 refine q_mv es ?_
 refine q_mv ei ?_
 refine q_call (v := .string (str (Cm.tg key nonce aad (Cm.xr key nonce (text.take m) (15 - nonce.length)) (15 - nonce.length) size))) (Try.func72) (by kernel_rfl) rfl (m5 es es es es ei) (fun w' hw' => cmTag key nonce aad (Cm.xr key nonce (text.take m) (15 - nonce.length)) (15 - nonce.length) (by omega) (by omega) (by omega) size h4 h16 hev hok ha (by rw [hxl]; exact hf) (by rw [hxl]; omega) w') ?_
 refine q_mv es ?_
 refine q_mv (ex (.int .i64 ((m : Nat) : Int)) (Eq.trans (b := .int .i64 (((text.length : Nat) : Int) - ((size : Nat) : Int))) rfl (by congr 1; omega))) ?_
 refine q_val (v := .string (str (text.drop m))) (fun w' hw' => y_slf (ex (.string (str text))) (evo.s ei) Try.underlying9 (bnd_l (l := m) (by omega) (by omega))) ?_
 refine q_call (v := .bool (decide ((Cm.tg key nonce aad (Cm.xr key nonce (text.take m) (15 - nonce.length)) (15 - nonce.length) size) = (text.drop m)))) (Try.func67) (by kernel_rfl) rfl (m2 es es) (fun w' hw' => same_c (Cm.tg key nonce aad (Cm.xr key nonce (text.take m) (15 - nonce.length)) (15 - nonce.length) size) (text.drop m) (by rw [Cm.tg_len _ _ _ _ _ _ hok h16]; omega) w') ?_
 refine q_val (fun w' hw' => y_notp eb) ?_
 refine q_nil ?_
 intro w9 hb10
 replace hk := thenB hk hb10
 refine then_n ?_
 have hc11 : ¬ ((Cm.tg key nonce aad (Cm.xr key nonce (text.take m) (15 - nonce.length)) (15 - nonce.length) size) = (text.drop m)) := by exact hb
 refine c_t (p := ¬ ((Cm.tg key nonce aad (Cm.xr key nonce (text.take m) (15 - nonce.length)) (15 - nonce.length) size) = (text.drop m))) eb hc11 ?_
 refine sr ?_
 refine w_as (evc (.string (str ([] : List (BitVec 8))))) ?_
 refine w_as Ev.c ?_
 refine nt ?_
 refine wp_ret ?_
 refine then_r ?_
 refine fin_ret2 rfl es ei ?_
 exact ⟨rfl, hk⟩
end Go.Proofs.Ytjdcpejcnmpiaaa
