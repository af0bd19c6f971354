/-
  The law CcmOpens answers true. No conditions.
-/
import Derived.Test.YtjdcpejcnmpiaaaRows
import Derived.Test.YtjdcpejcnmpiaaaCcmWakes
import Derived.ProofKit
namespace Go.Proofs.Ytjdcpejcnmpiaaa
open Go.RowKit
set_option linter.unusedSimpArgs false
set_option linter.unusedVariables false
namespace CcmLawOT
theorem mixed : Try.prog.follows .mixedOrders = true := by kernel_rfl
theorem ag49 : (Try.prog.underlying 49).map isAggD = some true := by rw [Try.underlying49]; rfl
theorem fa49_0 (g off : Nat) : ∀ w, (Instr.fieldAt 49 (.pointer (some ⟨g, off, none⟩)) 0).run Try.prog w = .ok (.pointer (some ⟨g, off + 0, none⟩)) w := fun w => by kernel_rfl
theorem fa49_1 (g off : Nat) : ∀ w, (Instr.fieldAt 49 (.pointer (some ⟨g, off, none⟩)) 1).run Try.prog w = .ok (.pointer (some ⟨g, off + 1, none⟩)) w := fun w => by kernel_rfl
theorem fa49_2 (g off : Nat) : ∀ w, (Instr.fieldAt 49 (.pointer (some ⟨g, off, none⟩)) 2).run Try.prog w = .ok (.pointer (some ⟨g, off + 2, none⟩)) w := fun w => by kernel_rfl
theorem fa49_3 (g off : Nat) : ∀ w, (Instr.fieldAt 49 (.pointer (some ⟨g, off, none⟩)) 3).run Try.prog w = .ok (.pointer (some ⟨g, off + 3, none⟩)) w := fun w => by kernel_rfl
theorem sc3 : (Try.prog.underlying 3).map scal = some true := by rw [Try.underlying3]; rfl
theorem sc9 : (Try.prog.underlying 9).map scal = some true := by rw [Try.underlying9]; rfl
theorem sz49 : (Try.prog.info? 49).map (·.size) = some 4 := by kernel_rfl
end CcmLawOT
set_option maxRecDepth 100000 in
set_option maxHeartbeats 1000000 in
theorem ccmOpens_l (key nonce aad : List (BitVec 8)) (size : Int) (text : List (BitVec 8)) (h : 1000 < aad.length ∧ aad.length ≤ 70000 ∨ 1000 < text.length ∧ text.length ≤ 70016) (w0 : World) : Calls Try.prog 13 #[.agg (arr 4 (fun j => if j < 1 then .string (str key) else if j < 2 then .string (str nonce) else if j < 3 then .string (str aad) else .int .i64 size)), .string (str text)] w0 fun e w' => e = .returned (.bool true) ∧ Below w0.heap.size w0 w' := by
 refine enter (n := 48) Try.func13 rfl rfl rfl ?_
 have hk : Below w0.heap.size w0 w0 := Below.refl _ _
 refine sr ?_
 refine w_box (m := 4) (F := fun j => if j < 1 then .string (str key) else if j < 2 then .string (str nonce) else if j < 3 then .string (str aad) else .int .i64 size) (ev (.agg (arr 4 (fun j => if j < 1 then .string (str key) else if j < 2 then .string (str nonce) else if j < 3 then .string (str aad) else .int .i64 size))) rfl rfl) rfl ?_
 intro b_b w1 hbe_b_b r_b_b hb2
 have ge_b_b : w0.heap.size ≤ b_b := by have := hk.size; omega
 clear hbe_b_b
 replace hk := thenB hk hb2
 refine w_as (evc (.bool false)) ?_
 refine nt ?_
 refine wp_seq ?_
 refine sr ?_
 refine w_call (Try.func43) (by kernel_rfl) rfl m0 (ccmWakes_c  w1) ?_
 rintro _ w3 ⟨rfl, hb4⟩
 refine ⟨_, rfl, ?_⟩
 replace r_b_b := r_b_b.step hb4
 replace hk := thenB hk hb4
 refine w_val (y_not (ev (.bool true) rfl rfl)) ?_
 refine nt ?_
 refine c_ff (ev (.bool false) rfl rfl) ?_
 refine wp_skip ?_
 refine then_n ?_
 refine wp_seq ?_
 refine sr ?_
 refine w_val (v := .agg (arr 4 (fun j => if j < 1 then .string (str key) else if j < 2 then .string (str nonce) else if j < 3 then .string (str aad) else .int .i64 size))) (y_lda (ev (pt b_b 0) rfl rfl) CcmLawOT.ag49 CcmLawOT.sz49 (fun j hj => by rw [Nat.zero_add]; exact (r_b_b.cell (by omega)))) ?_
 refine w_mv (ev (.string (str text)) rfl rfl) ?_
 refine w_call (Try.func44) (by kernel_rfl) rfl (m2 (ev (.agg (arr 4 (fun j => if j < 1 then .string (str key) else if j < 2 then .string (str nonce) else if j < 3 then .string (str aad) else .int .i64 size))) rfl rfl) (ev (.string (str text)) rfl rfl)) (ccmLong_t key nonce aad size text h w3) ?_
 rintro _ w5 ⟨rfl, hb6⟩
 refine ⟨_, rfl, ?_⟩
 replace r_b_b := r_b_b.step hb6
 replace hk := thenB hk hb6
 refine nt ?_
 refine c_tt (ev (.bool true) rfl rfl) ?_
 refine sr ?_
 refine w_as (evc (.bool true)) ?_
 refine nt ?_
 refine wp_ret ?_
 refine then_r ?_
 refine fin_ret1 rfl (ev (.bool true) rfl rfl) ?_
 exact ⟨rfl, hk⟩

set_option maxRecDepth 100000 in
set_option maxHeartbeats 1000000 in
theorem ccmOpens_k (key nonce aad : List (BitVec 8)) (size : Int) (hok : ¬ Aes.okKey key.length) (text : List (BitVec 8)) (ht_ : text.length ≤ 140737488351232) (h : ¬ (1000 < aad.length ∧ aad.length ≤ 70000 ∨ 1000 < text.length ∧ text.length ≤ 70016)) (w0 : World) : Calls Try.prog 13 #[.agg (arr 4 (fun j => if j < 1 then .string (str key) else if j < 2 then .string (str nonce) else if j < 3 then .string (str aad) else .int .i64 size)), .string (str text)] w0 fun e w' => e = .returned (.bool true) ∧ Below w0.heap.size w0 w' := by
 refine enter (n := 48) Try.func13 rfl rfl rfl ?_
 have hk : Below w0.heap.size w0 w0 := Below.refl _ _
 refine sr ?_
 refine w_box (m := 4) (F := fun j => if j < 1 then .string (str key) else if j < 2 then .string (str nonce) else if j < 3 then .string (str aad) else .int .i64 size) (ev (.agg (arr 4 (fun j => if j < 1 then .string (str key) else if j < 2 then .string (str nonce) else if j < 3 then .string (str aad) else .int .i64 size))) rfl rfl) rfl ?_
 intro b_b w1 hbe_b_b r_b_b hb2
 have ge_b_b : w0.heap.size ≤ b_b := by have := hk.size; omega
 clear hbe_b_b
 replace hk := thenB hk hb2
 refine w_as (evc (.bool false)) ?_
 refine nt ?_
 refine wp_seq ?_
 refine sr ?_
 refine w_call (Try.func43) (by kernel_rfl) rfl m0 (ccmWakes_c  w1) ?_
 rintro _ w3 ⟨rfl, hb4⟩
 refine ⟨_, rfl, ?_⟩
 replace r_b_b := r_b_b.step hb4
 replace hk := thenB hk hb4
 refine w_val (y_not (ev (.bool true) rfl rfl)) ?_
 refine nt ?_
 refine c_ff (ev (.bool false) rfl rfl) ?_
 refine wp_skip ?_
 refine then_n ?_
 refine wp_seq ?_
 refine sr ?_
 refine w_val (v := .agg (arr 4 (fun j => if j < 1 then .string (str key) else if j < 2 then .string (str nonce) else if j < 3 then .string (str aad) else .int .i64 size))) (y_lda (ev (pt b_b 0) rfl rfl) CcmLawOT.ag49 CcmLawOT.sz49 (fun j hj => by rw [Nat.zero_add]; exact (r_b_b.cell (by omega)))) ?_
 refine w_mv (ev (.string (str text)) rfl rfl) ?_
 refine w_call (Try.func44) (by kernel_rfl) rfl (m2 (ev (.agg (arr 4 (fun j => if j < 1 then .string (str key) else if j < 2 then .string (str nonce) else if j < 3 then .string (str aad) else .int .i64 size))) rfl rfl) (ev (.string (str text)) rfl rfl)) (ccmLong_f key nonce aad size text h w3) ?_
 rintro _ w5 ⟨rfl, hb6⟩
 refine ⟨_, rfl, ?_⟩
 replace r_b_b := r_b_b.step hb6
 replace hk := thenB hk hb6
 refine nt ?_
 refine c_ff (ev (.bool false) rfl rfl) ?_
 refine wp_skip ?_
 refine then_n ?_
 refine sr ?_
 refine w_val (v := pt b_b 0) (y_off (y_fa (ev (pt b_b 0) rfl rfl) (CcmLawOT.fa49_0 _ _)) (by first | rfl | omega)) ?_
 refine w_val (v := .string (str key)) (y_ld (ev (pt b_b 0) rfl rfl) CcmLawOT.sc9 (r_b_b.val (by omega) (etv (if_pos (by omega))))) ?_
 refine w_val (v := pt b_b 1) (y_off (y_fa (ev (pt b_b 0) rfl rfl) (CcmLawOT.fa49_1 _ _)) (by first | rfl | omega)) ?_
 refine w_val (v := .string (str nonce)) (y_ld (ev (pt b_b 1) rfl rfl) CcmLawOT.sc9 (r_b_b.val (by omega) ((if_neg (by omega)).trans (etv (if_pos (by omega)))))) ?_
 refine w_val (v := pt b_b 2) (y_off (y_fa (ev (pt b_b 0) rfl rfl) (CcmLawOT.fa49_2 _ _)) (by first | rfl | omega)) ?_
 refine w_val (v := .string (str aad)) (y_ld (ev (pt b_b 2) rfl rfl) CcmLawOT.sc9 (r_b_b.val (by omega) ((if_neg (by omega)).trans ((if_neg (by omega)).trans (etv (if_pos (by omega))))))) ?_
 refine w_mv (ev (.string (str text)) rfl rfl) ?_
 refine w_val (v := pt b_b 3) (y_off (y_fa (ev (pt b_b 0) rfl rfl) (CcmLawOT.fa49_3 _ _)) (by first | rfl | omega)) ?_
 refine w_val (v := .int .i64 size) (y_ld (ev (pt b_b 3) rfl rfl) CcmLawOT.sc3 (r_b_b.val (by omega) ((if_neg (by omega)).trans ((if_neg (by omega)).trans ((if_neg (by omega)).trans (by first | with_reducible rfl | (with_reducible congr 1 <;> omega) | (with_reducible congr 2 <;> omega) | (with_reducible congr 3 <;> omega) | rfl)))))) ?_
 refine w_call (Try.func47) (by kernel_rfl) rfl (m5 (ev (.string (str key)) rfl rfl) (ev (.string (str nonce)) rfl rfl) (ev (.string (str aad)) rfl rfl) (ev (.string (str text)) rfl rfl) (ev (.int .i64 size) rfl rfl)) (cmOpen_k key nonce aad size hok text w5) ?_
 rintro _ w7 ⟨rfl, hb8⟩
 refine ⟨_, rfl, ?_⟩
 replace r_b_b := r_b_b.step hb8
 replace hk := thenB hk hb8
 refine w_mv (ev (.tuple #[.string (str ([] : List (BitVec 8))), .int .i64 3]) rfl rfl) ?_
 refine w_val (y_ext (v := .string (str ([] : List (BitVec 8)))) (ev (.tuple #[.string (str ([] : List (BitVec 8))), .int .i64 3]) rfl rfl) rfl) ?_
 refine w_val (y_ext (v := .int .i64 3) (ev (.tuple #[.string (str ([] : List (BitVec 8))), .int .i64 3]) rfl rfl) rfl) ?_
 refine w_as (ev (.string (str ([] : List (BitVec 8)))) rfl rfl) ?_
 refine w_as (ev (.int .i64 3) rfl rfl) ?_
 refine nt ?_
 refine sr ?_
 refine w_val (v := pt b_b 0) (y_off (y_fa (ev (pt b_b 0) rfl rfl) (CcmLawOT.fa49_0 _ _)) (by first | rfl | omega)) ?_
 refine w_val (v := .string (str key)) (y_ld (ev (pt b_b 0) rfl rfl) CcmLawOT.sc9 (r_b_b.val (by omega) (etv (if_pos (by omega))))) ?_
 refine w_val (v := pt b_b 1) (y_off (y_fa (ev (pt b_b 0) rfl rfl) (CcmLawOT.fa49_1 _ _)) (by first | rfl | omega)) ?_
 refine w_val (v := .string (str nonce)) (y_ld (ev (pt b_b 1) rfl rfl) CcmLawOT.sc9 (r_b_b.val (by omega) ((if_neg (by omega)).trans (etv (if_pos (by omega)))))) ?_
 refine w_val (v := pt b_b 2) (y_off (y_fa (ev (pt b_b 0) rfl rfl) (CcmLawOT.fa49_2 _ _)) (by first | rfl | omega)) ?_
 refine w_val (v := .string (str aad)) (y_ld (ev (pt b_b 2) rfl rfl) CcmLawOT.sc9 (r_b_b.val (by omega) ((if_neg (by omega)).trans ((if_neg (by omega)).trans (etv (if_pos (by omega))))))) ?_
 refine w_mv (ev (.string (str text)) rfl rfl) ?_
 refine w_val (v := pt b_b 3) (y_off (y_fa (ev (pt b_b 0) rfl rfl) (CcmLawOT.fa49_3 _ _)) (by first | rfl | omega)) ?_
 refine w_val (v := .int .i64 size) (y_ld (ev (pt b_b 3) rfl rfl) CcmLawOT.sc3 (r_b_b.val (by omega) ((if_neg (by omega)).trans ((if_neg (by omega)).trans ((if_neg (by omega)).trans (by first | with_reducible rfl | (with_reducible congr 1 <;> omega) | (with_reducible congr 2 <;> omega) | (with_reducible congr 3 <;> omega) | rfl)))))) ?_
 refine w_call (Try.func48) (by kernel_rfl) rfl (m5 (ev (.string (str key)) rfl rfl) (ev (.string (str nonce)) rfl rfl) (ev (.string (str aad)) rfl rfl) (ev (.string (str text)) rfl rfl) (ev (.int .i64 size) rfl rfl)) (cmRefOpen_k key nonce aad size hok text w7) ?_
 rintro _ w9 ⟨rfl, hb10⟩
 refine ⟨_, rfl, ?_⟩
 replace r_b_b := r_b_b.step hb10
 replace hk := thenB hk hb10
 refine w_mv (ev (.tuple #[.string (str ([] : List (BitVec 8))), .int .i64 3]) rfl rfl) ?_
 refine w_val (y_ext (v := .string (str ([] : List (BitVec 8)))) (ev (.tuple #[.string (str ([] : List (BitVec 8))), .int .i64 3]) rfl rfl) rfl) ?_
 refine w_val (y_ext (v := .int .i64 3) (ev (.tuple #[.string (str ([] : List (BitVec 8))), .int .i64 3]) rfl rfl) rfl) ?_
 refine w_as (ev (.string (str ([] : List (BitVec 8)))) rfl rfl) ?_
 refine w_as (ev (.int .i64 3) rfl rfl) ?_
 refine nt ?_
 refine sr ?_
 refine w_mv (ev (.string (str ([] : List (BitVec 8)))) rfl rfl) ?_
 refine w_mv (ev (.string (str ([] : List (BitVec 8)))) rfl rfl) ?_
 refine w_val (y_bin (ev (.string (str ([] : List (BitVec 8)))) rfl rfl) (ev (.string (str ([] : List (BitVec 8)))) rfl rfl) b_eqs_same) ?_
 refine w_mv (ev (.bool true) rfl rfl) ?_
 refine w_val_g (v := .int .i64 3) (want_yes (j := 3) rfl rfl (ev (.bool true) rfl rfl) rfl) (y_mv (ev (.int .i64 3) rfl rfl)) ?_
 refine w_val_g (v := .int .i64 3) (want_yes (j := 3) rfl rfl (ev (.bool true) rfl rfl) rfl) (y_mv (ev (.int .i64 3) rfl rfl)) ?_
 refine w_val_g (want_yes (j := 3) rfl rfl (ev (.bool true) rfl rfl) rfl) (y_bin (ev (.int .i64 3) rfl rfl) (ev (.int .i64 3) rfl rfl) b_eql) ?_
 refine w_val (y_pick_t (ev (.bool true) rfl rfl) (ev (.bool true) rfl rfl)) ?_
 refine w_as (ev (.bool true) rfl rfl) ?_
 refine nt ?_
 refine wp_ret ?_
 refine fin_ret1 rfl (ev (.bool true) rfl rfl) ?_
 exact ⟨rfl, hk⟩

set_option maxRecDepth 100000 in
set_option maxHeartbeats 1000000 in
theorem ccmOpens_n (key nonce aad : List (BitVec 8)) (size : Int) (hok : Aes.okKey key.length) (hn : ¬ (7 ≤ nonce.length ∧ nonce.length ≤ 13)) (text : List (BitVec 8)) (ht_ : text.length ≤ 140737488351232) (h : ¬ (1000 < aad.length ∧ aad.length ≤ 70000 ∨ 1000 < text.length ∧ text.length ≤ 70016)) (w0 : World) : Calls Try.prog 13 #[.agg (arr 4 (fun j => if j < 1 then .string (str key) else if j < 2 then .string (str nonce) else if j < 3 then .string (str aad) else .int .i64 size)), .string (str text)] w0 fun e w' => e = .returned (.bool true) ∧ Below w0.heap.size w0 w' := by
 refine enter (n := 48) Try.func13 rfl rfl rfl ?_
 have hk : Below w0.heap.size w0 w0 := Below.refl _ _
 refine sr ?_
 refine w_box (m := 4) (F := fun j => if j < 1 then .string (str key) else if j < 2 then .string (str nonce) else if j < 3 then .string (str aad) else .int .i64 size) (ev (.agg (arr 4 (fun j => if j < 1 then .string (str key) else if j < 2 then .string (str nonce) else if j < 3 then .string (str aad) else .int .i64 size))) rfl rfl) rfl ?_
 intro b_b w1 hbe_b_b r_b_b hb2
 have ge_b_b : w0.heap.size ≤ b_b := by have := hk.size; omega
 clear hbe_b_b
 replace hk := thenB hk hb2
 refine w_as (evc (.bool false)) ?_
 refine nt ?_
 refine wp_seq ?_
 refine sr ?_
 refine w_call (Try.func43) (by kernel_rfl) rfl m0 (ccmWakes_c  w1) ?_
 rintro _ w3 ⟨rfl, hb4⟩
 refine ⟨_, rfl, ?_⟩
 replace r_b_b := r_b_b.step hb4
 replace hk := thenB hk hb4
 refine w_val (y_not (ev (.bool true) rfl rfl)) ?_
 refine nt ?_
 refine c_ff (ev (.bool false) rfl rfl) ?_
 refine wp_skip ?_
 refine then_n ?_
 refine wp_seq ?_
 refine sr ?_
 refine w_val (v := .agg (arr 4 (fun j => if j < 1 then .string (str key) else if j < 2 then .string (str nonce) else if j < 3 then .string (str aad) else .int .i64 size))) (y_lda (ev (pt b_b 0) rfl rfl) CcmLawOT.ag49 CcmLawOT.sz49 (fun j hj => by rw [Nat.zero_add]; exact (r_b_b.cell (by omega)))) ?_
 refine w_mv (ev (.string (str text)) rfl rfl) ?_
 refine w_call (Try.func44) (by kernel_rfl) rfl (m2 (ev (.agg (arr 4 (fun j => if j < 1 then .string (str key) else if j < 2 then .string (str nonce) else if j < 3 then .string (str aad) else .int .i64 size))) rfl rfl) (ev (.string (str text)) rfl rfl)) (ccmLong_f key nonce aad size text h w3) ?_
 rintro _ w5 ⟨rfl, hb6⟩
 refine ⟨_, rfl, ?_⟩
 replace r_b_b := r_b_b.step hb6
 replace hk := thenB hk hb6
 refine nt ?_
 refine c_ff (ev (.bool false) rfl rfl) ?_
 refine wp_skip ?_
 refine then_n ?_
 refine sr ?_
 refine w_val (v := pt b_b 0) (y_off (y_fa (ev (pt b_b 0) rfl rfl) (CcmLawOT.fa49_0 _ _)) (by first | rfl | omega)) ?_
 refine w_val (v := .string (str key)) (y_ld (ev (pt b_b 0) rfl rfl) CcmLawOT.sc9 (r_b_b.val (by omega) (etv (if_pos (by omega))))) ?_
 refine w_val (v := pt b_b 1) (y_off (y_fa (ev (pt b_b 0) rfl rfl) (CcmLawOT.fa49_1 _ _)) (by first | rfl | omega)) ?_
 refine w_val (v := .string (str nonce)) (y_ld (ev (pt b_b 1) rfl rfl) CcmLawOT.sc9 (r_b_b.val (by omega) ((if_neg (by omega)).trans (etv (if_pos (by omega)))))) ?_
 refine w_val (v := pt b_b 2) (y_off (y_fa (ev (pt b_b 0) rfl rfl) (CcmLawOT.fa49_2 _ _)) (by first | rfl | omega)) ?_
 refine w_val (v := .string (str aad)) (y_ld (ev (pt b_b 2) rfl rfl) CcmLawOT.sc9 (r_b_b.val (by omega) ((if_neg (by omega)).trans ((if_neg (by omega)).trans (etv (if_pos (by omega))))))) ?_
 refine w_mv (ev (.string (str text)) rfl rfl) ?_
 refine w_val (v := pt b_b 3) (y_off (y_fa (ev (pt b_b 0) rfl rfl) (CcmLawOT.fa49_3 _ _)) (by first | rfl | omega)) ?_
 refine w_val (v := .int .i64 size) (y_ld (ev (pt b_b 3) rfl rfl) CcmLawOT.sc3 (r_b_b.val (by omega) ((if_neg (by omega)).trans ((if_neg (by omega)).trans ((if_neg (by omega)).trans (by first | with_reducible rfl | (with_reducible congr 1 <;> omega) | (with_reducible congr 2 <;> omega) | (with_reducible congr 3 <;> omega) | rfl)))))) ?_
 refine w_call (Try.func47) (by kernel_rfl) rfl (m5 (ev (.string (str key)) rfl rfl) (ev (.string (str nonce)) rfl rfl) (ev (.string (str aad)) rfl rfl) (ev (.string (str text)) rfl rfl) (ev (.int .i64 size) rfl rfl)) (cmOpen_n key nonce aad size hok hn text w5) ?_
 rintro _ w7 ⟨rfl, hb8⟩
 refine ⟨_, rfl, ?_⟩
 replace r_b_b := r_b_b.step hb8
 replace hk := thenB hk hb8
 refine w_mv (ev (.tuple #[.string (str ([] : List (BitVec 8))), .int .i64 4]) rfl rfl) ?_
 refine w_val (y_ext (v := .string (str ([] : List (BitVec 8)))) (ev (.tuple #[.string (str ([] : List (BitVec 8))), .int .i64 4]) rfl rfl) rfl) ?_
 refine w_val (y_ext (v := .int .i64 4) (ev (.tuple #[.string (str ([] : List (BitVec 8))), .int .i64 4]) rfl rfl) rfl) ?_
 refine w_as (ev (.string (str ([] : List (BitVec 8)))) rfl rfl) ?_
 refine w_as (ev (.int .i64 4) rfl rfl) ?_
 refine nt ?_
 refine sr ?_
 refine w_val (v := pt b_b 0) (y_off (y_fa (ev (pt b_b 0) rfl rfl) (CcmLawOT.fa49_0 _ _)) (by first | rfl | omega)) ?_
 refine w_val (v := .string (str key)) (y_ld (ev (pt b_b 0) rfl rfl) CcmLawOT.sc9 (r_b_b.val (by omega) (etv (if_pos (by omega))))) ?_
 refine w_val (v := pt b_b 1) (y_off (y_fa (ev (pt b_b 0) rfl rfl) (CcmLawOT.fa49_1 _ _)) (by first | rfl | omega)) ?_
 refine w_val (v := .string (str nonce)) (y_ld (ev (pt b_b 1) rfl rfl) CcmLawOT.sc9 (r_b_b.val (by omega) ((if_neg (by omega)).trans (etv (if_pos (by omega)))))) ?_
 refine w_val (v := pt b_b 2) (y_off (y_fa (ev (pt b_b 0) rfl rfl) (CcmLawOT.fa49_2 _ _)) (by first | rfl | omega)) ?_
 refine w_val (v := .string (str aad)) (y_ld (ev (pt b_b 2) rfl rfl) CcmLawOT.sc9 (r_b_b.val (by omega) ((if_neg (by omega)).trans ((if_neg (by omega)).trans (etv (if_pos (by omega))))))) ?_
 refine w_mv (ev (.string (str text)) rfl rfl) ?_
 refine w_val (v := pt b_b 3) (y_off (y_fa (ev (pt b_b 0) rfl rfl) (CcmLawOT.fa49_3 _ _)) (by first | rfl | omega)) ?_
 refine w_val (v := .int .i64 size) (y_ld (ev (pt b_b 3) rfl rfl) CcmLawOT.sc3 (r_b_b.val (by omega) ((if_neg (by omega)).trans ((if_neg (by omega)).trans ((if_neg (by omega)).trans (by first | with_reducible rfl | (with_reducible congr 1 <;> omega) | (with_reducible congr 2 <;> omega) | (with_reducible congr 3 <;> omega) | rfl)))))) ?_
 refine w_call (Try.func48) (by kernel_rfl) rfl (m5 (ev (.string (str key)) rfl rfl) (ev (.string (str nonce)) rfl rfl) (ev (.string (str aad)) rfl rfl) (ev (.string (str text)) rfl rfl) (ev (.int .i64 size) rfl rfl)) (cmRefOpen_n key nonce aad size hok hn text w7) ?_
 rintro _ w9 ⟨rfl, hb10⟩
 refine ⟨_, rfl, ?_⟩
 replace r_b_b := r_b_b.step hb10
 replace hk := thenB hk hb10
 refine w_mv (ev (.tuple #[.string (str ([] : List (BitVec 8))), .int .i64 4]) rfl rfl) ?_
 refine w_val (y_ext (v := .string (str ([] : List (BitVec 8)))) (ev (.tuple #[.string (str ([] : List (BitVec 8))), .int .i64 4]) rfl rfl) rfl) ?_
 refine w_val (y_ext (v := .int .i64 4) (ev (.tuple #[.string (str ([] : List (BitVec 8))), .int .i64 4]) rfl rfl) rfl) ?_
 refine w_as (ev (.string (str ([] : List (BitVec 8)))) rfl rfl) ?_
 refine w_as (ev (.int .i64 4) rfl rfl) ?_
 refine nt ?_
 refine sr ?_
 refine w_mv (ev (.string (str ([] : List (BitVec 8)))) rfl rfl) ?_
 refine w_mv (ev (.string (str ([] : List (BitVec 8)))) rfl rfl) ?_
 refine w_val (y_bin (ev (.string (str ([] : List (BitVec 8)))) rfl rfl) (ev (.string (str ([] : List (BitVec 8)))) rfl rfl) b_eqs_same) ?_
 refine w_mv (ev (.bool true) rfl rfl) ?_
 refine w_val_g (v := .int .i64 4) (want_yes (j := 3) rfl rfl (ev (.bool true) rfl rfl) rfl) (y_mv (ev (.int .i64 4) rfl rfl)) ?_
 refine w_val_g (v := .int .i64 4) (want_yes (j := 3) rfl rfl (ev (.bool true) rfl rfl) rfl) (y_mv (ev (.int .i64 4) rfl rfl)) ?_
 refine w_val_g (want_yes (j := 3) rfl rfl (ev (.bool true) rfl rfl) rfl) (y_bin (ev (.int .i64 4) rfl rfl) (ev (.int .i64 4) rfl rfl) b_eql) ?_
 refine w_val (y_pick_t (ev (.bool true) rfl rfl) (ev (.bool true) rfl rfl)) ?_
 refine w_as (ev (.bool true) rfl rfl) ?_
 refine nt ?_
 refine wp_ret ?_
 refine fin_ret1 rfl (ev (.bool true) rfl rfl) ?_
 exact ⟨rfl, hk⟩

set_option maxRecDepth 100000 in
set_option maxHeartbeats 1000000 in
theorem ccmOpens_t (key nonce aad : List (BitVec 8)) (size : Int) (hok : Aes.okKey key.length) (hn : 7 ≤ nonce.length ∧ nonce.length ≤ 13) (ht : ¬ (4 ≤ size ∧ size ≤ 16 ∧ size % 2 = 0)) (text : List (BitVec 8)) (ht_ : text.length ≤ 140737488351232) (h : ¬ (1000 < aad.length ∧ aad.length ≤ 70000 ∨ 1000 < text.length ∧ text.length ≤ 70016)) (w0 : World) : Calls Try.prog 13 #[.agg (arr 4 (fun j => if j < 1 then .string (str key) else if j < 2 then .string (str nonce) else if j < 3 then .string (str aad) else .int .i64 size)), .string (str text)] w0 fun e w' => e = .returned (.bool true) ∧ Below w0.heap.size w0 w' := by
 refine enter (n := 48) Try.func13 rfl rfl rfl ?_
 have hk : Below w0.heap.size w0 w0 := Below.refl _ _
 refine sr ?_
 refine w_box (m := 4) (F := fun j => if j < 1 then .string (str key) else if j < 2 then .string (str nonce) else if j < 3 then .string (str aad) else .int .i64 size) (ev (.agg (arr 4 (fun j => if j < 1 then .string (str key) else if j < 2 then .string (str nonce) else if j < 3 then .string (str aad) else .int .i64 size))) rfl rfl) rfl ?_
 intro b_b w1 hbe_b_b r_b_b hb2
 have ge_b_b : w0.heap.size ≤ b_b := by have := hk.size; omega
 clear hbe_b_b
 replace hk := thenB hk hb2
 refine w_as (evc (.bool false)) ?_
 refine nt ?_
 refine wp_seq ?_
 refine sr ?_
 refine w_call (Try.func43) (by kernel_rfl) rfl m0 (ccmWakes_c  w1) ?_
 rintro _ w3 ⟨rfl, hb4⟩
 refine ⟨_, rfl, ?_⟩
 replace r_b_b := r_b_b.step hb4
 replace hk := thenB hk hb4
 refine w_val (y_not (ev (.bool true) rfl rfl)) ?_
 refine nt ?_
 refine c_ff (ev (.bool false) rfl rfl) ?_
 refine wp_skip ?_
 refine then_n ?_
 refine wp_seq ?_
 refine sr ?_
 refine w_val (v := .agg (arr 4 (fun j => if j < 1 then .string (str key) else if j < 2 then .string (str nonce) else if j < 3 then .string (str aad) else .int .i64 size))) (y_lda (ev (pt b_b 0) rfl rfl) CcmLawOT.ag49 CcmLawOT.sz49 (fun j hj => by rw [Nat.zero_add]; exact (r_b_b.cell (by omega)))) ?_
 refine w_mv (ev (.string (str text)) rfl rfl) ?_
 refine w_call (Try.func44) (by kernel_rfl) rfl (m2 (ev (.agg (arr 4 (fun j => if j < 1 then .string (str key) else if j < 2 then .string (str nonce) else if j < 3 then .string (str aad) else .int .i64 size))) rfl rfl) (ev (.string (str text)) rfl rfl)) (ccmLong_f key nonce aad size text h w3) ?_
 rintro _ w5 ⟨rfl, hb6⟩
 refine ⟨_, rfl, ?_⟩
 replace r_b_b := r_b_b.step hb6
 replace hk := thenB hk hb6
 refine nt ?_
 refine c_ff (ev (.bool false) rfl rfl) ?_
 refine wp_skip ?_
 refine then_n ?_
 refine sr ?_
 refine w_val (v := pt b_b 0) (y_off (y_fa (ev (pt b_b 0) rfl rfl) (CcmLawOT.fa49_0 _ _)) (by first | rfl | omega)) ?_
 refine w_val (v := .string (str key)) (y_ld (ev (pt b_b 0) rfl rfl) CcmLawOT.sc9 (r_b_b.val (by omega) (etv (if_pos (by omega))))) ?_
 refine w_val (v := pt b_b 1) (y_off (y_fa (ev (pt b_b 0) rfl rfl) (CcmLawOT.fa49_1 _ _)) (by first | rfl | omega)) ?_
 refine w_val (v := .string (str nonce)) (y_ld (ev (pt b_b 1) rfl rfl) CcmLawOT.sc9 (r_b_b.val (by omega) ((if_neg (by omega)).trans (etv (if_pos (by omega)))))) ?_
 refine w_val (v := pt b_b 2) (y_off (y_fa (ev (pt b_b 0) rfl rfl) (CcmLawOT.fa49_2 _ _)) (by first | rfl | omega)) ?_
 refine w_val (v := .string (str aad)) (y_ld (ev (pt b_b 2) rfl rfl) CcmLawOT.sc9 (r_b_b.val (by omega) ((if_neg (by omega)).trans ((if_neg (by omega)).trans (etv (if_pos (by omega))))))) ?_
 refine w_mv (ev (.string (str text)) rfl rfl) ?_
 refine w_val (v := pt b_b 3) (y_off (y_fa (ev (pt b_b 0) rfl rfl) (CcmLawOT.fa49_3 _ _)) (by first | rfl | omega)) ?_
 refine w_val (v := .int .i64 size) (y_ld (ev (pt b_b 3) rfl rfl) CcmLawOT.sc3 (r_b_b.val (by omega) ((if_neg (by omega)).trans ((if_neg (by omega)).trans ((if_neg (by omega)).trans (by first | with_reducible rfl | (with_reducible congr 1 <;> omega) | (with_reducible congr 2 <;> omega) | (with_reducible congr 3 <;> omega) | rfl)))))) ?_
 refine w_call (Try.func47) (by kernel_rfl) rfl (m5 (ev (.string (str key)) rfl rfl) (ev (.string (str nonce)) rfl rfl) (ev (.string (str aad)) rfl rfl) (ev (.string (str text)) rfl rfl) (ev (.int .i64 size) rfl rfl)) (cmOpen_t key nonce aad size hok hn ht text w5) ?_
 rintro _ w7 ⟨rfl, hb8⟩
 refine ⟨_, rfl, ?_⟩
 replace r_b_b := r_b_b.step hb8
 replace hk := thenB hk hb8
 refine w_mv (ev (.tuple #[.string (str ([] : List (BitVec 8))), .int .i64 5]) rfl rfl) ?_
 refine w_val (y_ext (v := .string (str ([] : List (BitVec 8)))) (ev (.tuple #[.string (str ([] : List (BitVec 8))), .int .i64 5]) rfl rfl) rfl) ?_
 refine w_val (y_ext (v := .int .i64 5) (ev (.tuple #[.string (str ([] : List (BitVec 8))), .int .i64 5]) rfl rfl) rfl) ?_
 refine w_as (ev (.string (str ([] : List (BitVec 8)))) rfl rfl) ?_
 refine w_as (ev (.int .i64 5) rfl rfl) ?_
 refine nt ?_
 refine sr ?_
 refine w_val (v := pt b_b 0) (y_off (y_fa (ev (pt b_b 0) rfl rfl) (CcmLawOT.fa49_0 _ _)) (by first | rfl | omega)) ?_
 refine w_val (v := .string (str key)) (y_ld (ev (pt b_b 0) rfl rfl) CcmLawOT.sc9 (r_b_b.val (by omega) (etv (if_pos (by omega))))) ?_
 refine w_val (v := pt b_b 1) (y_off (y_fa (ev (pt b_b 0) rfl rfl) (CcmLawOT.fa49_1 _ _)) (by first | rfl | omega)) ?_
 refine w_val (v := .string (str nonce)) (y_ld (ev (pt b_b 1) rfl rfl) CcmLawOT.sc9 (r_b_b.val (by omega) ((if_neg (by omega)).trans (etv (if_pos (by omega)))))) ?_
 refine w_val (v := pt b_b 2) (y_off (y_fa (ev (pt b_b 0) rfl rfl) (CcmLawOT.fa49_2 _ _)) (by first | rfl | omega)) ?_
 refine w_val (v := .string (str aad)) (y_ld (ev (pt b_b 2) rfl rfl) CcmLawOT.sc9 (r_b_b.val (by omega) ((if_neg (by omega)).trans ((if_neg (by omega)).trans (etv (if_pos (by omega))))))) ?_
 refine w_mv (ev (.string (str text)) rfl rfl) ?_
 refine w_val (v := pt b_b 3) (y_off (y_fa (ev (pt b_b 0) rfl rfl) (CcmLawOT.fa49_3 _ _)) (by first | rfl | omega)) ?_
 refine w_val (v := .int .i64 size) (y_ld (ev (pt b_b 3) rfl rfl) CcmLawOT.sc3 (r_b_b.val (by omega) ((if_neg (by omega)).trans ((if_neg (by omega)).trans ((if_neg (by omega)).trans (by first | with_reducible rfl | (with_reducible congr 1 <;> omega) | (with_reducible congr 2 <;> omega) | (with_reducible congr 3 <;> omega) | rfl)))))) ?_
 refine w_call (Try.func48) (by kernel_rfl) rfl (m5 (ev (.string (str key)) rfl rfl) (ev (.string (str nonce)) rfl rfl) (ev (.string (str aad)) rfl rfl) (ev (.string (str text)) rfl rfl) (ev (.int .i64 size) rfl rfl)) (cmRefOpen_t key nonce aad size hok hn ht text w7) ?_
 rintro _ w9 ⟨rfl, hb10⟩
 refine ⟨_, rfl, ?_⟩
 replace r_b_b := r_b_b.step hb10
 replace hk := thenB hk hb10
 refine w_mv (ev (.tuple #[.string (str ([] : List (BitVec 8))), .int .i64 5]) rfl rfl) ?_
 refine w_val (y_ext (v := .string (str ([] : List (BitVec 8)))) (ev (.tuple #[.string (str ([] : List (BitVec 8))), .int .i64 5]) rfl rfl) rfl) ?_
 refine w_val (y_ext (v := .int .i64 5) (ev (.tuple #[.string (str ([] : List (BitVec 8))), .int .i64 5]) rfl rfl) rfl) ?_
 refine w_as (ev (.string (str ([] : List (BitVec 8)))) rfl rfl) ?_
 refine w_as (ev (.int .i64 5) rfl rfl) ?_
 refine nt ?_
 refine sr ?_
 refine w_mv (ev (.string (str ([] : List (BitVec 8)))) rfl rfl) ?_
 refine w_mv (ev (.string (str ([] : List (BitVec 8)))) rfl rfl) ?_
 refine w_val (y_bin (ev (.string (str ([] : List (BitVec 8)))) rfl rfl) (ev (.string (str ([] : List (BitVec 8)))) rfl rfl) b_eqs_same) ?_
 refine w_mv (ev (.bool true) rfl rfl) ?_
 refine w_val_g (v := .int .i64 5) (want_yes (j := 3) rfl rfl (ev (.bool true) rfl rfl) rfl) (y_mv (ev (.int .i64 5) rfl rfl)) ?_
 refine w_val_g (v := .int .i64 5) (want_yes (j := 3) rfl rfl (ev (.bool true) rfl rfl) rfl) (y_mv (ev (.int .i64 5) rfl rfl)) ?_
 refine w_val_g (want_yes (j := 3) rfl rfl (ev (.bool true) rfl rfl) rfl) (y_bin (ev (.int .i64 5) rfl rfl) (ev (.int .i64 5) rfl rfl) b_eql) ?_
 refine w_val (y_pick_t (ev (.bool true) rfl rfl) (ev (.bool true) rfl rfl)) ?_
 refine w_as (ev (.bool true) rfl rfl) ?_
 refine nt ?_
 refine wp_ret ?_
 refine fin_ret1 rfl (ev (.bool true) rfl rfl) ?_
 exact ⟨rfl, hk⟩

set_option maxRecDepth 100000 in
set_option maxHeartbeats 1000000 in
theorem ccmOpens_a (key nonce aad : List (BitVec 8)) (size : Nat) (hok : Aes.okKey key.length) (hn : 7 ≤ nonce.length ∧ nonce.length ≤ 13) (h4 : 4 ≤ size) (h16 : size ≤ 16) (hev : size % 2 = 0) (ha : 70000 < aad.length) (text : List (BitVec 8)) (ht_ : text.length ≤ 140737488351232) (h : ¬ (1000 < aad.length ∧ aad.length ≤ 70000 ∨ 1000 < text.length ∧ text.length ≤ 70016)) (w0 : World) : Calls Try.prog 13 #[.agg (arr 4 (fun j => if j < 1 then .string (str key) else if j < 2 then .string (str nonce) else if j < 3 then .string (str aad) else .int .i64 ((size : Nat) : Int))), .string (str text)] w0 fun e w' => e = .returned (.bool true) ∧ Below w0.heap.size w0 w' := by
 refine enter (n := 48) Try.func13 rfl rfl rfl ?_
 have hk : Below w0.heap.size w0 w0 := Below.refl _ _
 refine sr ?_
 refine w_box (m := 4) (F := fun j => if j < 1 then .string (str key) else if j < 2 then .string (str nonce) else if j < 3 then .string (str aad) else .int .i64 ((size : Nat) : Int)) (ev (.agg (arr 4 (fun j => if j < 1 then .string (str key) else if j < 2 then .string (str nonce) else if j < 3 then .string (str aad) else .int .i64 ((size : Nat) : Int)))) rfl rfl) rfl ?_
 intro b_b w1 hbe_b_b r_b_b hb2
 have ge_b_b : w0.heap.size ≤ b_b := by have := hk.size; omega
 clear hbe_b_b
 replace hk := thenB hk hb2
 refine w_as (evc (.bool false)) ?_
 refine nt ?_
 refine wp_seq ?_
 refine sr ?_
 refine w_call (Try.func43) (by kernel_rfl) rfl m0 (ccmWakes_c  w1) ?_
 rintro _ w3 ⟨rfl, hb4⟩
 refine ⟨_, rfl, ?_⟩
 replace r_b_b := r_b_b.step hb4
 replace hk := thenB hk hb4
 refine w_val (y_not (ev (.bool true) rfl rfl)) ?_
 refine nt ?_
 refine c_ff (ev (.bool false) rfl rfl) ?_
 refine wp_skip ?_
 refine then_n ?_
 refine wp_seq ?_
 refine sr ?_
 refine w_val (v := .agg (arr 4 (fun j => if j < 1 then .string (str key) else if j < 2 then .string (str nonce) else if j < 3 then .string (str aad) else .int .i64 ((size : Nat) : Int)))) (y_lda (ev (pt b_b 0) rfl rfl) CcmLawOT.ag49 CcmLawOT.sz49 (fun j hj => by rw [Nat.zero_add]; exact (r_b_b.cell (by omega)))) ?_
 refine w_mv (ev (.string (str text)) rfl rfl) ?_
 refine w_call (Try.func44) (by kernel_rfl) rfl (m2 (ev (.agg (arr 4 (fun j => if j < 1 then .string (str key) else if j < 2 then .string (str nonce) else if j < 3 then .string (str aad) else .int .i64 ((size : Nat) : Int)))) rfl rfl) (ev (.string (str text)) rfl rfl)) (ccmLong_f key nonce aad ((size : Nat) : Int) text h w3) ?_
 rintro _ w5 ⟨rfl, hb6⟩
 refine ⟨_, rfl, ?_⟩
 replace r_b_b := r_b_b.step hb6
 replace hk := thenB hk hb6
 refine nt ?_
 refine c_ff (ev (.bool false) rfl rfl) ?_
 refine wp_skip ?_
 refine then_n ?_
 refine sr ?_
 refine w_val (v := pt b_b 0) (y_off (y_fa (ev (pt b_b 0) rfl rfl) (CcmLawOT.fa49_0 _ _)) (by first | rfl | omega)) ?_
 refine w_val (v := .string (str key)) (y_ld (ev (pt b_b 0) rfl rfl) CcmLawOT.sc9 (r_b_b.val (by omega) (etv (if_pos (by omega))))) ?_
 refine w_val (v := pt b_b 1) (y_off (y_fa (ev (pt b_b 0) rfl rfl) (CcmLawOT.fa49_1 _ _)) (by first | rfl | omega)) ?_
 refine w_val (v := .string (str nonce)) (y_ld (ev (pt b_b 1) rfl rfl) CcmLawOT.sc9 (r_b_b.val (by omega) ((if_neg (by omega)).trans (etv (if_pos (by omega)))))) ?_
 refine w_val (v := pt b_b 2) (y_off (y_fa (ev (pt b_b 0) rfl rfl) (CcmLawOT.fa49_2 _ _)) (by first | rfl | omega)) ?_
 refine w_val (v := .string (str aad)) (y_ld (ev (pt b_b 2) rfl rfl) CcmLawOT.sc9 (r_b_b.val (by omega) ((if_neg (by omega)).trans ((if_neg (by omega)).trans (etv (if_pos (by omega))))))) ?_
 refine w_mv (ev (.string (str text)) rfl rfl) ?_
 refine w_val (v := pt b_b 3) (y_off (y_fa (ev (pt b_b 0) rfl rfl) (CcmLawOT.fa49_3 _ _)) (by first | rfl | omega)) ?_
 refine w_val (v := .int .i64 ((size : Nat) : Int)) (y_ld (ev (pt b_b 3) rfl rfl) CcmLawOT.sc3 (r_b_b.val (by omega) ((if_neg (by omega)).trans ((if_neg (by omega)).trans ((if_neg (by omega)).trans (by first | with_reducible rfl | (with_reducible congr 1 <;> omega) | (with_reducible congr 2 <;> omega) | (with_reducible congr 3 <;> omega) | rfl)))))) ?_
 refine w_call (Try.func47) (by kernel_rfl) rfl (m5 (ev (.string (str key)) rfl rfl) (ev (.string (str nonce)) rfl rfl) (ev (.string (str aad)) rfl rfl) (ev (.string (str text)) rfl rfl) (ev (.int .i64 ((size : Nat) : Int)) rfl rfl)) (cmOpen_a key nonce aad size hok hn h4 h16 hev ha text w5) ?_
 rintro _ w7 ⟨rfl, hb8⟩
 refine ⟨_, rfl, ?_⟩
 replace r_b_b := r_b_b.step hb8
 replace hk := thenB hk hb8
 refine w_mv (ev (.tuple #[.string (str ([] : List (BitVec 8))), .int .i64 6]) rfl rfl) ?_
 refine w_val (y_ext (v := .string (str ([] : List (BitVec 8)))) (ev (.tuple #[.string (str ([] : List (BitVec 8))), .int .i64 6]) rfl rfl) rfl) ?_
 refine w_val (y_ext (v := .int .i64 6) (ev (.tuple #[.string (str ([] : List (BitVec 8))), .int .i64 6]) rfl rfl) rfl) ?_
 refine w_as (ev (.string (str ([] : List (BitVec 8)))) rfl rfl) ?_
 refine w_as (ev (.int .i64 6) rfl rfl) ?_
 refine nt ?_
 refine sr ?_
 refine w_val (v := pt b_b 0) (y_off (y_fa (ev (pt b_b 0) rfl rfl) (CcmLawOT.fa49_0 _ _)) (by first | rfl | omega)) ?_
 refine w_val (v := .string (str key)) (y_ld (ev (pt b_b 0) rfl rfl) CcmLawOT.sc9 (r_b_b.val (by omega) (etv (if_pos (by omega))))) ?_
 refine w_val (v := pt b_b 1) (y_off (y_fa (ev (pt b_b 0) rfl rfl) (CcmLawOT.fa49_1 _ _)) (by first | rfl | omega)) ?_
 refine w_val (v := .string (str nonce)) (y_ld (ev (pt b_b 1) rfl rfl) CcmLawOT.sc9 (r_b_b.val (by omega) ((if_neg (by omega)).trans (etv (if_pos (by omega)))))) ?_
 refine w_val (v := pt b_b 2) (y_off (y_fa (ev (pt b_b 0) rfl rfl) (CcmLawOT.fa49_2 _ _)) (by first | rfl | omega)) ?_
 refine w_val (v := .string (str aad)) (y_ld (ev (pt b_b 2) rfl rfl) CcmLawOT.sc9 (r_b_b.val (by omega) ((if_neg (by omega)).trans ((if_neg (by omega)).trans (etv (if_pos (by omega))))))) ?_
 refine w_mv (ev (.string (str text)) rfl rfl) ?_
 refine w_val (v := pt b_b 3) (y_off (y_fa (ev (pt b_b 0) rfl rfl) (CcmLawOT.fa49_3 _ _)) (by first | rfl | omega)) ?_
 refine w_val (v := .int .i64 ((size : Nat) : Int)) (y_ld (ev (pt b_b 3) rfl rfl) CcmLawOT.sc3 (r_b_b.val (by omega) ((if_neg (by omega)).trans ((if_neg (by omega)).trans ((if_neg (by omega)).trans (by first | with_reducible rfl | (with_reducible congr 1 <;> omega) | (with_reducible congr 2 <;> omega) | (with_reducible congr 3 <;> omega) | rfl)))))) ?_
 refine w_call (Try.func48) (by kernel_rfl) rfl (m5 (ev (.string (str key)) rfl rfl) (ev (.string (str nonce)) rfl rfl) (ev (.string (str aad)) rfl rfl) (ev (.string (str text)) rfl rfl) (ev (.int .i64 ((size : Nat) : Int)) rfl rfl)) (cmRefOpen_a key nonce aad size hok hn h4 h16 hev ha text w7) ?_
 rintro _ w9 ⟨rfl, hb10⟩
 refine ⟨_, rfl, ?_⟩
 replace r_b_b := r_b_b.step hb10
 replace hk := thenB hk hb10
 refine w_mv (ev (.tuple #[.string (str ([] : List (BitVec 8))), .int .i64 6]) rfl rfl) ?_
 refine w_val (y_ext (v := .string (str ([] : List (BitVec 8)))) (ev (.tuple #[.string (str ([] : List (BitVec 8))), .int .i64 6]) rfl rfl) rfl) ?_
 refine w_val (y_ext (v := .int .i64 6) (ev (.tuple #[.string (str ([] : List (BitVec 8))), .int .i64 6]) rfl rfl) rfl) ?_
 refine w_as (ev (.string (str ([] : List (BitVec 8)))) rfl rfl) ?_
 refine w_as (ev (.int .i64 6) rfl rfl) ?_
 refine nt ?_
 refine sr ?_
 refine w_mv (ev (.string (str ([] : List (BitVec 8)))) rfl rfl) ?_
 refine w_mv (ev (.string (str ([] : List (BitVec 8)))) rfl rfl) ?_
 refine w_val (y_bin (ev (.string (str ([] : List (BitVec 8)))) rfl rfl) (ev (.string (str ([] : List (BitVec 8)))) rfl rfl) b_eqs_same) ?_
 refine w_mv (ev (.bool true) rfl rfl) ?_
 refine w_val_g (v := .int .i64 6) (want_yes (j := 3) rfl rfl (ev (.bool true) rfl rfl) rfl) (y_mv (ev (.int .i64 6) rfl rfl)) ?_
 refine w_val_g (v := .int .i64 6) (want_yes (j := 3) rfl rfl (ev (.bool true) rfl rfl) rfl) (y_mv (ev (.int .i64 6) rfl rfl)) ?_
 refine w_val_g (want_yes (j := 3) rfl rfl (ev (.bool true) rfl rfl) rfl) (y_bin (ev (.int .i64 6) rfl rfl) (ev (.int .i64 6) rfl rfl) b_eql) ?_
 refine w_val (y_pick_t (ev (.bool true) rfl rfl) (ev (.bool true) rfl rfl)) ?_
 refine w_as (ev (.bool true) rfl rfl) ?_
 refine nt ?_
 refine wp_ret ?_
 refine fin_ret1 rfl (ev (.bool true) rfl rfl) ?_
 exact ⟨rfl, hk⟩

set_option maxRecDepth 100000 in
set_option maxHeartbeats 1000000 in
theorem ccmOpens_s (key nonce aad : List (BitVec 8)) (size : Nat) (hok : Aes.okKey key.length) (hn : 7 ≤ nonce.length ∧ nonce.length ≤ 13) (h4 : 4 ≤ size) (h16 : size ≤ 16) (hev : size % 2 = 0) (ha : aad.length ≤ 70000) (text : List (BitVec 8)) (ht_ : text.length ≤ 140737488351232) (h : ¬ (1000 < aad.length ∧ aad.length ≤ 70000 ∨ 1000 < text.length ∧ text.length ≤ 70016)) (hs : text.length < size) (w0 : World) : Calls Try.prog 13 #[.agg (arr 4 (fun j => if j < 1 then .string (str key) else if j < 2 then .string (str nonce) else if j < 3 then .string (str aad) else .int .i64 ((size : Nat) : Int))), .string (str text)] w0 fun e w' => e = .returned (.bool true) ∧ Below w0.heap.size w0 w' := by
 refine enter (n := 48) Try.func13 rfl rfl rfl ?_
 have hk : Below w0.heap.size w0 w0 := Below.refl _ _
 refine sr ?_
 refine w_box (m := 4) (F := fun j => if j < 1 then .string (str key) else if j < 2 then .string (str nonce) else if j < 3 then .string (str aad) else .int .i64 ((size : Nat) : Int)) (ev (.agg (arr 4 (fun j => if j < 1 then .string (str key) else if j < 2 then .string (str nonce) else if j < 3 then .string (str aad) else .int .i64 ((size : Nat) : Int)))) rfl rfl) rfl ?_
 intro b_b w1 hbe_b_b r_b_b hb2
 have ge_b_b : w0.heap.size ≤ b_b := by have := hk.size; omega
 clear hbe_b_b
 replace hk := thenB hk hb2
 refine w_as (evc (.bool false)) ?_
 refine nt ?_
 refine wp_seq ?_
 refine sr ?_
 refine w_call (Try.func43) (by kernel_rfl) rfl m0 (ccmWakes_c  w1) ?_
 rintro _ w3 ⟨rfl, hb4⟩
 refine ⟨_, rfl, ?_⟩
 replace r_b_b := r_b_b.step hb4
 replace hk := thenB hk hb4
 refine w_val (y_not (ev (.bool true) rfl rfl)) ?_
 refine nt ?_
 refine c_ff (ev (.bool false) rfl rfl) ?_
 refine wp_skip ?_
 refine then_n ?_
 refine wp_seq ?_
 refine sr ?_
 refine w_val (v := .agg (arr 4 (fun j => if j < 1 then .string (str key) else if j < 2 then .string (str nonce) else if j < 3 then .string (str aad) else .int .i64 ((size : Nat) : Int)))) (y_lda (ev (pt b_b 0) rfl rfl) CcmLawOT.ag49 CcmLawOT.sz49 (fun j hj => by rw [Nat.zero_add]; exact (r_b_b.cell (by omega)))) ?_
 refine w_mv (ev (.string (str text)) rfl rfl) ?_
 refine w_call (Try.func44) (by kernel_rfl) rfl (m2 (ev (.agg (arr 4 (fun j => if j < 1 then .string (str key) else if j < 2 then .string (str nonce) else if j < 3 then .string (str aad) else .int .i64 ((size : Nat) : Int)))) rfl rfl) (ev (.string (str text)) rfl rfl)) (ccmLong_f key nonce aad ((size : Nat) : Int) text h w3) ?_
 rintro _ w5 ⟨rfl, hb6⟩
 refine ⟨_, rfl, ?_⟩
 replace r_b_b := r_b_b.step hb6
 replace hk := thenB hk hb6
 refine nt ?_
 refine c_ff (ev (.bool false) rfl rfl) ?_
 refine wp_skip ?_
 refine then_n ?_
 refine sr ?_
 refine w_val (v := pt b_b 0) (y_off (y_fa (ev (pt b_b 0) rfl rfl) (CcmLawOT.fa49_0 _ _)) (by first | rfl | omega)) ?_
 refine w_val (v := .string (str key)) (y_ld (ev (pt b_b 0) rfl rfl) CcmLawOT.sc9 (r_b_b.val (by omega) (etv (if_pos (by omega))))) ?_
 refine w_val (v := pt b_b 1) (y_off (y_fa (ev (pt b_b 0) rfl rfl) (CcmLawOT.fa49_1 _ _)) (by first | rfl | omega)) ?_
 refine w_val (v := .string (str nonce)) (y_ld (ev (pt b_b 1) rfl rfl) CcmLawOT.sc9 (r_b_b.val (by omega) ((if_neg (by omega)).trans (etv (if_pos (by omega)))))) ?_
 refine w_val (v := pt b_b 2) (y_off (y_fa (ev (pt b_b 0) rfl rfl) (CcmLawOT.fa49_2 _ _)) (by first | rfl | omega)) ?_
 refine w_val (v := .string (str aad)) (y_ld (ev (pt b_b 2) rfl rfl) CcmLawOT.sc9 (r_b_b.val (by omega) ((if_neg (by omega)).trans ((if_neg (by omega)).trans (etv (if_pos (by omega))))))) ?_
 refine w_mv (ev (.string (str text)) rfl rfl) ?_
 refine w_val (v := pt b_b 3) (y_off (y_fa (ev (pt b_b 0) rfl rfl) (CcmLawOT.fa49_3 _ _)) (by first | rfl | omega)) ?_
 refine w_val (v := .int .i64 ((size : Nat) : Int)) (y_ld (ev (pt b_b 3) rfl rfl) CcmLawOT.sc3 (r_b_b.val (by omega) ((if_neg (by omega)).trans ((if_neg (by omega)).trans ((if_neg (by omega)).trans (by first | with_reducible rfl | (with_reducible congr 1 <;> omega) | (with_reducible congr 2 <;> omega) | (with_reducible congr 3 <;> omega) | rfl)))))) ?_
 refine w_call (Try.func47) (by kernel_rfl) rfl (m5 (ev (.string (str key)) rfl rfl) (ev (.string (str nonce)) rfl rfl) (ev (.string (str aad)) rfl rfl) (ev (.string (str text)) rfl rfl) (ev (.int .i64 ((size : Nat) : Int)) rfl rfl)) (cmOpen_s key nonce aad size hok hn h4 h16 hev ha text (by omega) hs w5) ?_
 rintro _ w7 ⟨rfl, hb8⟩
 refine ⟨_, rfl, ?_⟩
 replace r_b_b := r_b_b.step hb8
 replace hk := thenB hk hb8
 refine w_mv (ev (.tuple #[.string (str ([] : List (BitVec 8))), .int .i64 6]) rfl rfl) ?_
 refine w_val (y_ext (v := .string (str ([] : List (BitVec 8)))) (ev (.tuple #[.string (str ([] : List (BitVec 8))), .int .i64 6]) rfl rfl) rfl) ?_
 refine w_val (y_ext (v := .int .i64 6) (ev (.tuple #[.string (str ([] : List (BitVec 8))), .int .i64 6]) rfl rfl) rfl) ?_
 refine w_as (ev (.string (str ([] : List (BitVec 8)))) rfl rfl) ?_
 refine w_as (ev (.int .i64 6) rfl rfl) ?_
 refine nt ?_
 refine sr ?_
 refine w_val (v := pt b_b 0) (y_off (y_fa (ev (pt b_b 0) rfl rfl) (CcmLawOT.fa49_0 _ _)) (by first | rfl | omega)) ?_
 refine w_val (v := .string (str key)) (y_ld (ev (pt b_b 0) rfl rfl) CcmLawOT.sc9 (r_b_b.val (by omega) (etv (if_pos (by omega))))) ?_
 refine w_val (v := pt b_b 1) (y_off (y_fa (ev (pt b_b 0) rfl rfl) (CcmLawOT.fa49_1 _ _)) (by first | rfl | omega)) ?_
 refine w_val (v := .string (str nonce)) (y_ld (ev (pt b_b 1) rfl rfl) CcmLawOT.sc9 (r_b_b.val (by omega) ((if_neg (by omega)).trans (etv (if_pos (by omega)))))) ?_
 refine w_val (v := pt b_b 2) (y_off (y_fa (ev (pt b_b 0) rfl rfl) (CcmLawOT.fa49_2 _ _)) (by first | rfl | omega)) ?_
 refine w_val (v := .string (str aad)) (y_ld (ev (pt b_b 2) rfl rfl) CcmLawOT.sc9 (r_b_b.val (by omega) ((if_neg (by omega)).trans ((if_neg (by omega)).trans (etv (if_pos (by omega))))))) ?_
 refine w_mv (ev (.string (str text)) rfl rfl) ?_
 refine w_val (v := pt b_b 3) (y_off (y_fa (ev (pt b_b 0) rfl rfl) (CcmLawOT.fa49_3 _ _)) (by first | rfl | omega)) ?_
 refine w_val (v := .int .i64 ((size : Nat) : Int)) (y_ld (ev (pt b_b 3) rfl rfl) CcmLawOT.sc3 (r_b_b.val (by omega) ((if_neg (by omega)).trans ((if_neg (by omega)).trans ((if_neg (by omega)).trans (by first | with_reducible rfl | (with_reducible congr 1 <;> omega) | (with_reducible congr 2 <;> omega) | (with_reducible congr 3 <;> omega) | rfl)))))) ?_
 refine w_call (Try.func48) (by kernel_rfl) rfl (m5 (ev (.string (str key)) rfl rfl) (ev (.string (str nonce)) rfl rfl) (ev (.string (str aad)) rfl rfl) (ev (.string (str text)) rfl rfl) (ev (.int .i64 ((size : Nat) : Int)) rfl rfl)) (cmRefOpen_s key nonce aad size hok hn h4 h16 hev ha text (by omega) hs w7) ?_
 rintro _ w9 ⟨rfl, hb10⟩
 refine ⟨_, rfl, ?_⟩
 replace r_b_b := r_b_b.step hb10
 replace hk := thenB hk hb10
 refine w_mv (ev (.tuple #[.string (str ([] : List (BitVec 8))), .int .i64 6]) rfl rfl) ?_
 refine w_val (y_ext (v := .string (str ([] : List (BitVec 8)))) (ev (.tuple #[.string (str ([] : List (BitVec 8))), .int .i64 6]) rfl rfl) rfl) ?_
 refine w_val (y_ext (v := .int .i64 6) (ev (.tuple #[.string (str ([] : List (BitVec 8))), .int .i64 6]) rfl rfl) rfl) ?_
 refine w_as (ev (.string (str ([] : List (BitVec 8)))) rfl rfl) ?_
 refine w_as (ev (.int .i64 6) rfl rfl) ?_
 refine nt ?_
 refine sr ?_
 refine w_mv (ev (.string (str ([] : List (BitVec 8)))) rfl rfl) ?_
 refine w_mv (ev (.string (str ([] : List (BitVec 8)))) rfl rfl) ?_
 refine w_val (y_bin (ev (.string (str ([] : List (BitVec 8)))) rfl rfl) (ev (.string (str ([] : List (BitVec 8)))) rfl rfl) b_eqs_same) ?_
 refine w_mv (ev (.bool true) rfl rfl) ?_
 refine w_val_g (v := .int .i64 6) (want_yes (j := 3) rfl rfl (ev (.bool true) rfl rfl) rfl) (y_mv (ev (.int .i64 6) rfl rfl)) ?_
 refine w_val_g (v := .int .i64 6) (want_yes (j := 3) rfl rfl (ev (.bool true) rfl rfl) rfl) (y_mv (ev (.int .i64 6) rfl rfl)) ?_
 refine w_val_g (want_yes (j := 3) rfl rfl (ev (.bool true) rfl rfl) rfl) (y_bin (ev (.int .i64 6) rfl rfl) (ev (.int .i64 6) rfl rfl) b_eql) ?_
 refine w_val (y_pick_t (ev (.bool true) rfl rfl) (ev (.bool true) rfl rfl)) ?_
 refine w_as (ev (.bool true) rfl rfl) ?_
 refine nt ?_
 refine wp_ret ?_
 refine fin_ret1 rfl (ev (.bool true) rfl rfl) ?_
 exact ⟨rfl, hk⟩

set_option maxRecDepth 100000 in
set_option maxHeartbeats 1000000 in
theorem ccmOpens_z (key nonce aad : List (BitVec 8)) (size : Nat) (hok : Aes.okKey key.length) (hn : 7 ≤ nonce.length ∧ nonce.length ≤ 13) (h4 : 4 ≤ size) (h16 : size ≤ 16) (hev : size % 2 = 0) (ha : aad.length ≤ 70000) (text : List (BitVec 8)) (ht_ : text.length ≤ 140737488351232) (h : ¬ (1000 < aad.length ∧ aad.length ≤ 70000 ∨ 1000 < text.length ∧ text.length ≤ 70016)) (m : Nat) (hm : text.length = m + size) (hf : ¬ Cm.Fit m nonce) (w0 : World) : Calls Try.prog 13 #[.agg (arr 4 (fun j => if j < 1 then .string (str key) else if j < 2 then .string (str nonce) else if j < 3 then .string (str aad) else .int .i64 ((size : Nat) : Int))), .string (str text)] w0 fun e w' => e = .returned (.bool true) ∧ Below w0.heap.size w0 w' := by
 refine enter (n := 48) Try.func13 rfl rfl rfl ?_
 have hk : Below w0.heap.size w0 w0 := Below.refl _ _
 refine sr ?_
 refine w_box (m := 4) (F := fun j => if j < 1 then .string (str key) else if j < 2 then .string (str nonce) else if j < 3 then .string (str aad) else .int .i64 ((size : Nat) : Int)) (ev (.agg (arr 4 (fun j => if j < 1 then .string (str key) else if j < 2 then .string (str nonce) else if j < 3 then .string (str aad) else .int .i64 ((size : Nat) : Int)))) rfl rfl) rfl ?_
 intro b_b w1 hbe_b_b r_b_b hb2
 have ge_b_b : w0.heap.size ≤ b_b := by have := hk.size; omega
 clear hbe_b_b
 replace hk := thenB hk hb2
 refine w_as (evc (.bool false)) ?_
 refine nt ?_
 refine wp_seq ?_
 refine sr ?_
 refine w_call (Try.func43) (by kernel_rfl) rfl m0 (ccmWakes_c  w1) ?_
 rintro _ w3 ⟨rfl, hb4⟩
 refine ⟨_, rfl, ?_⟩
 replace r_b_b := r_b_b.step hb4
 replace hk := thenB hk hb4
 refine w_val (y_not (ev (.bool true) rfl rfl)) ?_
 refine nt ?_
 refine c_ff (ev (.bool false) rfl rfl) ?_
 refine wp_skip ?_
 refine then_n ?_
 refine wp_seq ?_
 refine sr ?_
 refine w_val (v := .agg (arr 4 (fun j => if j < 1 then .string (str key) else if j < 2 then .string (str nonce) else if j < 3 then .string (str aad) else .int .i64 ((size : Nat) : Int)))) (y_lda (ev (pt b_b 0) rfl rfl) CcmLawOT.ag49 CcmLawOT.sz49 (fun j hj => by rw [Nat.zero_add]; exact (r_b_b.cell (by omega)))) ?_
 refine w_mv (ev (.string (str text)) rfl rfl) ?_
 refine w_call (Try.func44) (by kernel_rfl) rfl (m2 (ev (.agg (arr 4 (fun j => if j < 1 then .string (str key) else if j < 2 then .string (str nonce) else if j < 3 then .string (str aad) else .int .i64 ((size : Nat) : Int)))) rfl rfl) (ev (.string (str text)) rfl rfl)) (ccmLong_f key nonce aad ((size : Nat) : Int) text h w3) ?_
 rintro _ w5 ⟨rfl, hb6⟩
 refine ⟨_, rfl, ?_⟩
 replace r_b_b := r_b_b.step hb6
 replace hk := thenB hk hb6
 refine nt ?_
 refine c_ff (ev (.bool false) rfl rfl) ?_
 refine wp_skip ?_
 refine then_n ?_
 refine sr ?_
 refine w_val (v := pt b_b 0) (y_off (y_fa (ev (pt b_b 0) rfl rfl) (CcmLawOT.fa49_0 _ _)) (by first | rfl | omega)) ?_
 refine w_val (v := .string (str key)) (y_ld (ev (pt b_b 0) rfl rfl) CcmLawOT.sc9 (r_b_b.val (by omega) (etv (if_pos (by omega))))) ?_
 refine w_val (v := pt b_b 1) (y_off (y_fa (ev (pt b_b 0) rfl rfl) (CcmLawOT.fa49_1 _ _)) (by first | rfl | omega)) ?_
 refine w_val (v := .string (str nonce)) (y_ld (ev (pt b_b 1) rfl rfl) CcmLawOT.sc9 (r_b_b.val (by omega) ((if_neg (by omega)).trans (etv (if_pos (by omega)))))) ?_
 refine w_val (v := pt b_b 2) (y_off (y_fa (ev (pt b_b 0) rfl rfl) (CcmLawOT.fa49_2 _ _)) (by first | rfl | omega)) ?_
 refine w_val (v := .string (str aad)) (y_ld (ev (pt b_b 2) rfl rfl) CcmLawOT.sc9 (r_b_b.val (by omega) ((if_neg (by omega)).trans ((if_neg (by omega)).trans (etv (if_pos (by omega))))))) ?_
 refine w_mv (ev (.string (str text)) rfl rfl) ?_
 refine w_val (v := pt b_b 3) (y_off (y_fa (ev (pt b_b 0) rfl rfl) (CcmLawOT.fa49_3 _ _)) (by first | rfl | omega)) ?_
 refine w_val (v := .int .i64 ((size : Nat) : Int)) (y_ld (ev (pt b_b 3) rfl rfl) CcmLawOT.sc3 (r_b_b.val (by omega) ((if_neg (by omega)).trans ((if_neg (by omega)).trans ((if_neg (by omega)).trans (by first | with_reducible rfl | (with_reducible congr 1 <;> omega) | (with_reducible congr 2 <;> omega) | (with_reducible congr 3 <;> omega) | rfl)))))) ?_
 refine w_call (Try.func47) (by kernel_rfl) rfl (m5 (ev (.string (str key)) rfl rfl) (ev (.string (str nonce)) rfl rfl) (ev (.string (str aad)) rfl rfl) (ev (.string (str text)) rfl rfl) (ev (.int .i64 ((size : Nat) : Int)) rfl rfl)) (cmOpen_z key nonce aad size hok hn h4 h16 hev ha text (by omega) m hm hf w5) ?_
 rintro _ w7 ⟨rfl, hb8⟩
 refine ⟨_, rfl, ?_⟩
 replace r_b_b := r_b_b.step hb8
 replace hk := thenB hk hb8
 refine w_mv (ev (.tuple #[.string (str ([] : List (BitVec 8))), .int .i64 6]) rfl rfl) ?_
 refine w_val (y_ext (v := .string (str ([] : List (BitVec 8)))) (ev (.tuple #[.string (str ([] : List (BitVec 8))), .int .i64 6]) rfl rfl) rfl) ?_
 refine w_val (y_ext (v := .int .i64 6) (ev (.tuple #[.string (str ([] : List (BitVec 8))), .int .i64 6]) rfl rfl) rfl) ?_
 refine w_as (ev (.string (str ([] : List (BitVec 8)))) rfl rfl) ?_
 refine w_as (ev (.int .i64 6) rfl rfl) ?_
 refine nt ?_
 refine sr ?_
 refine w_val (v := pt b_b 0) (y_off (y_fa (ev (pt b_b 0) rfl rfl) (CcmLawOT.fa49_0 _ _)) (by first | rfl | omega)) ?_
 refine w_val (v := .string (str key)) (y_ld (ev (pt b_b 0) rfl rfl) CcmLawOT.sc9 (r_b_b.val (by omega) (etv (if_pos (by omega))))) ?_
 refine w_val (v := pt b_b 1) (y_off (y_fa (ev (pt b_b 0) rfl rfl) (CcmLawOT.fa49_1 _ _)) (by first | rfl | omega)) ?_
 refine w_val (v := .string (str nonce)) (y_ld (ev (pt b_b 1) rfl rfl) CcmLawOT.sc9 (r_b_b.val (by omega) ((if_neg (by omega)).trans (etv (if_pos (by omega)))))) ?_
 refine w_val (v := pt b_b 2) (y_off (y_fa (ev (pt b_b 0) rfl rfl) (CcmLawOT.fa49_2 _ _)) (by first | rfl | omega)) ?_
 refine w_val (v := .string (str aad)) (y_ld (ev (pt b_b 2) rfl rfl) CcmLawOT.sc9 (r_b_b.val (by omega) ((if_neg (by omega)).trans ((if_neg (by omega)).trans (etv (if_pos (by omega))))))) ?_
 refine w_mv (ev (.string (str text)) rfl rfl) ?_
 refine w_val (v := pt b_b 3) (y_off (y_fa (ev (pt b_b 0) rfl rfl) (CcmLawOT.fa49_3 _ _)) (by first | rfl | omega)) ?_
 refine w_val (v := .int .i64 ((size : Nat) : Int)) (y_ld (ev (pt b_b 3) rfl rfl) CcmLawOT.sc3 (r_b_b.val (by omega) ((if_neg (by omega)).trans ((if_neg (by omega)).trans ((if_neg (by omega)).trans (by first | with_reducible rfl | (with_reducible congr 1 <;> omega) | (with_reducible congr 2 <;> omega) | (with_reducible congr 3 <;> omega) | rfl)))))) ?_
 refine w_call (Try.func48) (by kernel_rfl) rfl (m5 (ev (.string (str key)) rfl rfl) (ev (.string (str nonce)) rfl rfl) (ev (.string (str aad)) rfl rfl) (ev (.string (str text)) rfl rfl) (ev (.int .i64 ((size : Nat) : Int)) rfl rfl)) (cmRefOpen_z key nonce aad size hok hn h4 h16 hev ha text (by omega) m hm hf w7) ?_
 rintro _ w9 ⟨rfl, hb10⟩
 refine ⟨_, rfl, ?_⟩
 replace r_b_b := r_b_b.step hb10
 replace hk := thenB hk hb10
 refine w_mv (ev (.tuple #[.string (str ([] : List (BitVec 8))), .int .i64 6]) rfl rfl) ?_
 refine w_val (y_ext (v := .string (str ([] : List (BitVec 8)))) (ev (.tuple #[.string (str ([] : List (BitVec 8))), .int .i64 6]) rfl rfl) rfl) ?_
 refine w_val (y_ext (v := .int .i64 6) (ev (.tuple #[.string (str ([] : List (BitVec 8))), .int .i64 6]) rfl rfl) rfl) ?_
 refine w_as (ev (.string (str ([] : List (BitVec 8)))) rfl rfl) ?_
 refine w_as (ev (.int .i64 6) rfl rfl) ?_
 refine nt ?_
 refine sr ?_
 refine w_mv (ev (.string (str ([] : List (BitVec 8)))) rfl rfl) ?_
 refine w_mv (ev (.string (str ([] : List (BitVec 8)))) rfl rfl) ?_
 refine w_val (y_bin (ev (.string (str ([] : List (BitVec 8)))) rfl rfl) (ev (.string (str ([] : List (BitVec 8)))) rfl rfl) b_eqs_same) ?_
 refine w_mv (ev (.bool true) rfl rfl) ?_
 refine w_val_g (v := .int .i64 6) (want_yes (j := 3) rfl rfl (ev (.bool true) rfl rfl) rfl) (y_mv (ev (.int .i64 6) rfl rfl)) ?_
 refine w_val_g (v := .int .i64 6) (want_yes (j := 3) rfl rfl (ev (.bool true) rfl rfl) rfl) (y_mv (ev (.int .i64 6) rfl rfl)) ?_
 refine w_val_g (want_yes (j := 3) rfl rfl (ev (.bool true) rfl rfl) rfl) (y_bin (ev (.int .i64 6) rfl rfl) (ev (.int .i64 6) rfl rfl) b_eql) ?_
 refine w_val (y_pick_t (ev (.bool true) rfl rfl) (ev (.bool true) rfl rfl)) ?_
 refine w_as (ev (.bool true) rfl rfl) ?_
 refine nt ?_
 refine wp_ret ?_
 refine fin_ret1 rfl (ev (.bool true) rfl rfl) ?_
 exact ⟨rfl, hk⟩

set_option maxRecDepth 100000 in
set_option maxHeartbeats 1000000 in
theorem ccmOpens_y (key nonce aad : List (BitVec 8)) (size : Nat) (hok : Aes.okKey key.length) (hn : 7 ≤ nonce.length ∧ nonce.length ≤ 13) (h4 : 4 ≤ size) (h16 : size ≤ 16) (hev : size % 2 = 0) (ha : aad.length ≤ 70000) (text : List (BitVec 8)) (ht_ : text.length ≤ 140737488351232) (h : ¬ (1000 < aad.length ∧ aad.length ≤ 70000 ∨ 1000 < text.length ∧ text.length ≤ 70016)) (m : Nat) (hm : text.length = m + size) (hf : Cm.Fit m nonce) (hb : Cm.tg key nonce aad (Cm.xr key nonce (text.take m) (15 - nonce.length)) (15 - nonce.length) size = text.drop m) (w0 : World) : Calls Try.prog 13 #[.agg (arr 4 (fun j => if j < 1 then .string (str key) else if j < 2 then .string (str nonce) else if j < 3 then .string (str aad) else .int .i64 ((size : Nat) : Int))), .string (str text)] w0 fun e w' => e = .returned (.bool true) ∧ Below w0.heap.size w0 w' := by
 have hf1 := hf.1
 refine enter (n := 48) Try.func13 rfl rfl rfl ?_
 have hk : Below w0.heap.size w0 w0 := Below.refl _ _
 refine sr ?_
 refine w_box (m := 4) (F := fun j => if j < 1 then .string (str key) else if j < 2 then .string (str nonce) else if j < 3 then .string (str aad) else .int .i64 ((size : Nat) : Int)) (ev (.agg (arr 4 (fun j => if j < 1 then .string (str key) else if j < 2 then .string (str nonce) else if j < 3 then .string (str aad) else .int .i64 ((size : Nat) : Int)))) rfl rfl) rfl ?_
 intro b_b w1 hbe_b_b r_b_b hb2
 have ge_b_b : w0.heap.size ≤ b_b := by have := hk.size; omega
 clear hbe_b_b
 replace hk := thenB hk hb2
 refine w_as (evc (.bool false)) ?_
 refine nt ?_
 refine wp_seq ?_
 refine sr ?_
 refine w_call (Try.func43) (by kernel_rfl) rfl m0 (ccmWakes_c  w1) ?_
 rintro _ w3 ⟨rfl, hb4⟩
 refine ⟨_, rfl, ?_⟩
 replace r_b_b := r_b_b.step hb4
 replace hk := thenB hk hb4
 refine w_val (y_not (ev (.bool true) rfl rfl)) ?_
 refine nt ?_
 refine c_ff (ev (.bool false) rfl rfl) ?_
 refine wp_skip ?_
 refine then_n ?_
 refine wp_seq ?_
 refine sr ?_
 refine w_val (v := .agg (arr 4 (fun j => if j < 1 then .string (str key) else if j < 2 then .string (str nonce) else if j < 3 then .string (str aad) else .int .i64 ((size : Nat) : Int)))) (y_lda (ev (pt b_b 0) rfl rfl) CcmLawOT.ag49 CcmLawOT.sz49 (fun j hj => by rw [Nat.zero_add]; exact (r_b_b.cell (by omega)))) ?_
 refine w_mv (ev (.string (str text)) rfl rfl) ?_
 refine w_call (Try.func44) (by kernel_rfl) rfl (m2 (ev (.agg (arr 4 (fun j => if j < 1 then .string (str key) else if j < 2 then .string (str nonce) else if j < 3 then .string (str aad) else .int .i64 ((size : Nat) : Int)))) rfl rfl) (ev (.string (str text)) rfl rfl)) (ccmLong_f key nonce aad ((size : Nat) : Int) text h w3) ?_
 rintro _ w5 ⟨rfl, hb6⟩
 refine ⟨_, rfl, ?_⟩
 replace r_b_b := r_b_b.step hb6
 replace hk := thenB hk hb6
 refine nt ?_
 refine c_ff (ev (.bool false) rfl rfl) ?_
 refine wp_skip ?_
 refine then_n ?_
 refine sr ?_
 refine w_val (v := pt b_b 0) (y_off (y_fa (ev (pt b_b 0) rfl rfl) (CcmLawOT.fa49_0 _ _)) (by first | rfl | omega)) ?_
 refine w_val (v := .string (str key)) (y_ld (ev (pt b_b 0) rfl rfl) CcmLawOT.sc9 (r_b_b.val (by omega) (etv (if_pos (by omega))))) ?_
 refine w_val (v := pt b_b 1) (y_off (y_fa (ev (pt b_b 0) rfl rfl) (CcmLawOT.fa49_1 _ _)) (by first | rfl | omega)) ?_
 refine w_val (v := .string (str nonce)) (y_ld (ev (pt b_b 1) rfl rfl) CcmLawOT.sc9 (r_b_b.val (by omega) ((if_neg (by omega)).trans (etv (if_pos (by omega)))))) ?_
 refine w_val (v := pt b_b 2) (y_off (y_fa (ev (pt b_b 0) rfl rfl) (CcmLawOT.fa49_2 _ _)) (by first | rfl | omega)) ?_
 refine w_val (v := .string (str aad)) (y_ld (ev (pt b_b 2) rfl rfl) CcmLawOT.sc9 (r_b_b.val (by omega) ((if_neg (by omega)).trans ((if_neg (by omega)).trans (etv (if_pos (by omega))))))) ?_
 refine w_mv (ev (.string (str text)) rfl rfl) ?_
 refine w_val (v := pt b_b 3) (y_off (y_fa (ev (pt b_b 0) rfl rfl) (CcmLawOT.fa49_3 _ _)) (by first | rfl | omega)) ?_
 refine w_val (v := .int .i64 ((size : Nat) : Int)) (y_ld (ev (pt b_b 3) rfl rfl) CcmLawOT.sc3 (r_b_b.val (by omega) ((if_neg (by omega)).trans ((if_neg (by omega)).trans ((if_neg (by omega)).trans (by first | with_reducible rfl | (with_reducible congr 1 <;> omega) | (with_reducible congr 2 <;> omega) | (with_reducible congr 3 <;> omega) | rfl)))))) ?_
 refine w_call (Try.func47) (by kernel_rfl) rfl (m5 (ev (.string (str key)) rfl rfl) (ev (.string (str nonce)) rfl rfl) (ev (.string (str aad)) rfl rfl) (ev (.string (str text)) rfl rfl) (ev (.int .i64 ((size : Nat) : Int)) rfl rfl)) (cmOpen_y key nonce aad size hok hn h4 h16 hev ha text (by omega) m hm hf (by omega) hb w5) ?_
 rintro _ w7 ⟨rfl, hb8⟩
 refine ⟨_, rfl, ?_⟩
 replace r_b_b := r_b_b.step hb8
 replace hk := thenB hk hb8
 refine w_mv (ev (.tuple #[.string (str (Cm.xr key nonce (text.take m) (15 - nonce.length))), .int .i64 0]) rfl rfl) ?_
 refine w_val (y_ext (v := .string (str (Cm.xr key nonce (text.take m) (15 - nonce.length)))) (ev (.tuple #[.string (str (Cm.xr key nonce (text.take m) (15 - nonce.length))), .int .i64 0]) rfl rfl) rfl) ?_
 refine w_val (y_ext (v := .int .i64 0) (ev (.tuple #[.string (str (Cm.xr key nonce (text.take m) (15 - nonce.length))), .int .i64 0]) rfl rfl) rfl) ?_
 refine w_as (ev (.string (str (Cm.xr key nonce (text.take m) (15 - nonce.length)))) rfl rfl) ?_
 refine w_as (ev (.int .i64 0) rfl rfl) ?_
 refine nt ?_
 refine sr ?_
 refine w_val (v := pt b_b 0) (y_off (y_fa (ev (pt b_b 0) rfl rfl) (CcmLawOT.fa49_0 _ _)) (by first | rfl | omega)) ?_
 refine w_val (v := .string (str key)) (y_ld (ev (pt b_b 0) rfl rfl) CcmLawOT.sc9 (r_b_b.val (by omega) (etv (if_pos (by omega))))) ?_
 refine w_val (v := pt b_b 1) (y_off (y_fa (ev (pt b_b 0) rfl rfl) (CcmLawOT.fa49_1 _ _)) (by first | rfl | omega)) ?_
 refine w_val (v := .string (str nonce)) (y_ld (ev (pt b_b 1) rfl rfl) CcmLawOT.sc9 (r_b_b.val (by omega) ((if_neg (by omega)).trans (etv (if_pos (by omega)))))) ?_
 refine w_val (v := pt b_b 2) (y_off (y_fa (ev (pt b_b 0) rfl rfl) (CcmLawOT.fa49_2 _ _)) (by first | rfl | omega)) ?_
 refine w_val (v := .string (str aad)) (y_ld (ev (pt b_b 2) rfl rfl) CcmLawOT.sc9 (r_b_b.val (by omega) ((if_neg (by omega)).trans ((if_neg (by omega)).trans (etv (if_pos (by omega))))))) ?_
 refine w_mv (ev (.string (str text)) rfl rfl) ?_
 refine w_val (v := pt b_b 3) (y_off (y_fa (ev (pt b_b 0) rfl rfl) (CcmLawOT.fa49_3 _ _)) (by first | rfl | omega)) ?_
 refine w_val (v := .int .i64 ((size : Nat) : Int)) (y_ld (ev (pt b_b 3) rfl rfl) CcmLawOT.sc3 (r_b_b.val (by omega) ((if_neg (by omega)).trans ((if_neg (by omega)).trans ((if_neg (by omega)).trans (by first | with_reducible rfl | (with_reducible congr 1 <;> omega) | (with_reducible congr 2 <;> omega) | (with_reducible congr 3 <;> omega) | rfl)))))) ?_
 refine w_call (Try.func48) (by kernel_rfl) rfl (m5 (ev (.string (str key)) rfl rfl) (ev (.string (str nonce)) rfl rfl) (ev (.string (str aad)) rfl rfl) (ev (.string (str text)) rfl rfl) (ev (.int .i64 ((size : Nat) : Int)) rfl rfl)) (cmRefOpen_y key nonce aad size hok hn h4 h16 hev ha text (by omega) m hm hf hb w7) ?_
 rintro _ w9 ⟨rfl, hb10⟩
 refine ⟨_, rfl, ?_⟩
 replace r_b_b := r_b_b.step hb10
 replace hk := thenB hk hb10
 refine w_mv (ev (.tuple #[.string (str (Cm.xr key nonce (text.take m) (15 - nonce.length))), .int .i64 0]) rfl rfl) ?_
 refine w_val (y_ext (v := .string (str (Cm.xr key nonce (text.take m) (15 - nonce.length)))) (ev (.tuple #[.string (str (Cm.xr key nonce (text.take m) (15 - nonce.length))), .int .i64 0]) rfl rfl) rfl) ?_
 refine w_val (y_ext (v := .int .i64 0) (ev (.tuple #[.string (str (Cm.xr key nonce (text.take m) (15 - nonce.length))), .int .i64 0]) rfl rfl) rfl) ?_
 refine w_as (ev (.string (str (Cm.xr key nonce (text.take m) (15 - nonce.length)))) rfl rfl) ?_
 refine w_as (ev (.int .i64 0) rfl rfl) ?_
 refine nt ?_
 refine sr ?_
 refine w_mv (ev (.string (str (Cm.xr key nonce (text.take m) (15 - nonce.length)))) rfl rfl) ?_
 refine w_mv (ev (.string (str (Cm.xr key nonce (text.take m) (15 - nonce.length)))) rfl rfl) ?_
 refine w_val (y_bin (ev (.string (str (Cm.xr key nonce (text.take m) (15 - nonce.length)))) rfl rfl) (ev (.string (str (Cm.xr key nonce (text.take m) (15 - nonce.length)))) rfl rfl) b_eqs_same) ?_
 refine w_mv (ev (.bool true) rfl rfl) ?_
 refine w_val_g (v := .int .i64 0) (want_yes (j := 3) rfl rfl (ev (.bool true) rfl rfl) rfl) (y_mv (ev (.int .i64 0) rfl rfl)) ?_
 refine w_val_g (v := .int .i64 0) (want_yes (j := 3) rfl rfl (ev (.bool true) rfl rfl) rfl) (y_mv (ev (.int .i64 0) rfl rfl)) ?_
 refine w_val_g (want_yes (j := 3) rfl rfl (ev (.bool true) rfl rfl) rfl) (y_bin (ev (.int .i64 0) rfl rfl) (ev (.int .i64 0) rfl rfl) b_eql) ?_
 refine w_val (y_pick_t (ev (.bool true) rfl rfl) (ev (.bool true) rfl rfl)) ?_
 refine w_as (ev (.bool true) rfl rfl) ?_
 refine nt ?_
 refine wp_ret ?_
 refine fin_ret1 rfl (ev (.bool true) rfl rfl) ?_
 exact ⟨rfl, hk⟩

set_option maxRecDepth 100000 in
set_option maxHeartbeats 1000000 in
theorem ccmOpens_b (key nonce aad : List (BitVec 8)) (size : Nat) (hok : Aes.okKey key.length) (hn : 7 ≤ nonce.length ∧ nonce.length ≤ 13) (h4 : 4 ≤ size) (h16 : size ≤ 16) (hev : size % 2 = 0) (ha : aad.length ≤ 70000) (text : List (BitVec 8)) (ht_ : text.length ≤ 140737488351232) (h : ¬ (1000 < aad.length ∧ aad.length ≤ 70000 ∨ 1000 < text.length ∧ text.length ≤ 70016)) (m : Nat) (hm : text.length = m + size) (hf : Cm.Fit m nonce) (hb : ¬ Cm.tg key nonce aad (Cm.xr key nonce (text.take m) (15 - nonce.length)) (15 - nonce.length) size = text.drop m) (w0 : World) : Calls Try.prog 13 #[.agg (arr 4 (fun j => if j < 1 then .string (str key) else if j < 2 then .string (str nonce) else if j < 3 then .string (str aad) else .int .i64 ((size : Nat) : Int))), .string (str text)] w0 fun e w' => e = .returned (.bool true) ∧ Below w0.heap.size w0 w' := by
 have hf1 := hf.1
 refine enter (n := 48) Try.func13 rfl rfl rfl ?_
 have hk : Below w0.heap.size w0 w0 := Below.refl _ _
 refine sr ?_
 refine w_box (m := 4) (F := fun j => if j < 1 then .string (str key) else if j < 2 then .string (str nonce) else if j < 3 then .string (str aad) else .int .i64 ((size : Nat) : Int)) (ev (.agg (arr 4 (fun j => if j < 1 then .string (str key) else if j < 2 then .string (str nonce) else if j < 3 then .string (str aad) else .int .i64 ((size : Nat) : Int)))) rfl rfl) rfl ?_
 intro b_b w1 hbe_b_b r_b_b hb2
 have ge_b_b : w0.heap.size ≤ b_b := by have := hk.size; omega
 clear hbe_b_b
 replace hk := thenB hk hb2
 refine w_as (evc (.bool false)) ?_
 refine nt ?_
 refine wp_seq ?_
 refine sr ?_
 refine w_call (Try.func43) (by kernel_rfl) rfl m0 (ccmWakes_c  w1) ?_
 rintro _ w3 ⟨rfl, hb4⟩
 refine ⟨_, rfl, ?_⟩
 replace r_b_b := r_b_b.step hb4
 replace hk := thenB hk hb4
 refine w_val (y_not (ev (.bool true) rfl rfl)) ?_
 refine nt ?_
 refine c_ff (ev (.bool false) rfl rfl) ?_
 refine wp_skip ?_
 refine then_n ?_
 refine wp_seq ?_
 refine sr ?_
 refine w_val (v := .agg (arr 4 (fun j => if j < 1 then .string (str key) else if j < 2 then .string (str nonce) else if j < 3 then .string (str aad) else .int .i64 ((size : Nat) : Int)))) (y_lda (ev (pt b_b 0) rfl rfl) CcmLawOT.ag49 CcmLawOT.sz49 (fun j hj => by rw [Nat.zero_add]; exact (r_b_b.cell (by omega)))) ?_
 refine w_mv (ev (.string (str text)) rfl rfl) ?_
 refine w_call (Try.func44) (by kernel_rfl) rfl (m2 (ev (.agg (arr 4 (fun j => if j < 1 then .string (str key) else if j < 2 then .string (str nonce) else if j < 3 then .string (str aad) else .int .i64 ((size : Nat) : Int)))) rfl rfl) (ev (.string (str text)) rfl rfl)) (ccmLong_f key nonce aad ((size : Nat) : Int) text h w3) ?_
 rintro _ w5 ⟨rfl, hb6⟩
 refine ⟨_, rfl, ?_⟩
 replace r_b_b := r_b_b.step hb6
 replace hk := thenB hk hb6
 refine nt ?_
 refine c_ff (ev (.bool false) rfl rfl) ?_
 refine wp_skip ?_
 refine then_n ?_
 refine sr ?_
 refine w_val (v := pt b_b 0) (y_off (y_fa (ev (pt b_b 0) rfl rfl) (CcmLawOT.fa49_0 _ _)) (by first | rfl | omega)) ?_
 refine w_val (v := .string (str key)) (y_ld (ev (pt b_b 0) rfl rfl) CcmLawOT.sc9 (r_b_b.val (by omega) (etv (if_pos (by omega))))) ?_
 refine w_val (v := pt b_b 1) (y_off (y_fa (ev (pt b_b 0) rfl rfl) (CcmLawOT.fa49_1 _ _)) (by first | rfl | omega)) ?_
 refine w_val (v := .string (str nonce)) (y_ld (ev (pt b_b 1) rfl rfl) CcmLawOT.sc9 (r_b_b.val (by omega) ((if_neg (by omega)).trans (etv (if_pos (by omega)))))) ?_
 refine w_val (v := pt b_b 2) (y_off (y_fa (ev (pt b_b 0) rfl rfl) (CcmLawOT.fa49_2 _ _)) (by first | rfl | omega)) ?_
 refine w_val (v := .string (str aad)) (y_ld (ev (pt b_b 2) rfl rfl) CcmLawOT.sc9 (r_b_b.val (by omega) ((if_neg (by omega)).trans ((if_neg (by omega)).trans (etv (if_pos (by omega))))))) ?_
 refine w_mv (ev (.string (str text)) rfl rfl) ?_
 refine w_val (v := pt b_b 3) (y_off (y_fa (ev (pt b_b 0) rfl rfl) (CcmLawOT.fa49_3 _ _)) (by first | rfl | omega)) ?_
 refine w_val (v := .int .i64 ((size : Nat) : Int)) (y_ld (ev (pt b_b 3) rfl rfl) CcmLawOT.sc3 (r_b_b.val (by omega) ((if_neg (by omega)).trans ((if_neg (by omega)).trans ((if_neg (by omega)).trans (by first | with_reducible rfl | (with_reducible congr 1 <;> omega) | (with_reducible congr 2 <;> omega) | (with_reducible congr 3 <;> omega) | rfl)))))) ?_
 refine w_call (Try.func47) (by kernel_rfl) rfl (m5 (ev (.string (str key)) rfl rfl) (ev (.string (str nonce)) rfl rfl) (ev (.string (str aad)) rfl rfl) (ev (.string (str text)) rfl rfl) (ev (.int .i64 ((size : Nat) : Int)) rfl rfl)) (cmOpen_b key nonce aad size hok hn h4 h16 hev ha text (by omega) m hm hf (by omega) hb w5) ?_
 rintro _ w7 ⟨rfl, hb8⟩
 refine ⟨_, rfl, ?_⟩
 replace r_b_b := r_b_b.step hb8
 replace hk := thenB hk hb8
 refine w_mv (ev (.tuple #[.string (str ([] : List (BitVec 8))), .int .i64 8]) rfl rfl) ?_
 refine w_val (y_ext (v := .string (str ([] : List (BitVec 8)))) (ev (.tuple #[.string (str ([] : List (BitVec 8))), .int .i64 8]) rfl rfl) rfl) ?_
 refine w_val (y_ext (v := .int .i64 8) (ev (.tuple #[.string (str ([] : List (BitVec 8))), .int .i64 8]) rfl rfl) rfl) ?_
 refine w_as (ev (.string (str ([] : List (BitVec 8)))) rfl rfl) ?_
 refine w_as (ev (.int .i64 8) rfl rfl) ?_
 refine nt ?_
 refine sr ?_
 refine w_val (v := pt b_b 0) (y_off (y_fa (ev (pt b_b 0) rfl rfl) (CcmLawOT.fa49_0 _ _)) (by first | rfl | omega)) ?_
 refine w_val (v := .string (str key)) (y_ld (ev (pt b_b 0) rfl rfl) CcmLawOT.sc9 (r_b_b.val (by omega) (etv (if_pos (by omega))))) ?_
 refine w_val (v := pt b_b 1) (y_off (y_fa (ev (pt b_b 0) rfl rfl) (CcmLawOT.fa49_1 _ _)) (by first | rfl | omega)) ?_
 refine w_val (v := .string (str nonce)) (y_ld (ev (pt b_b 1) rfl rfl) CcmLawOT.sc9 (r_b_b.val (by omega) ((if_neg (by omega)).trans (etv (if_pos (by omega)))))) ?_
 refine w_val (v := pt b_b 2) (y_off (y_fa (ev (pt b_b 0) rfl rfl) (CcmLawOT.fa49_2 _ _)) (by first | rfl | omega)) ?_
 refine w_val (v := .string (str aad)) (y_ld (ev (pt b_b 2) rfl rfl) CcmLawOT.sc9 (r_b_b.val (by omega) ((if_neg (by omega)).trans ((if_neg (by omega)).trans (etv (if_pos (by omega))))))) ?_
 refine w_mv (ev (.string (str text)) rfl rfl) ?_
 refine w_val (v := pt b_b 3) (y_off (y_fa (ev (pt b_b 0) rfl rfl) (CcmLawOT.fa49_3 _ _)) (by first | rfl | omega)) ?_
 refine w_val (v := .int .i64 ((size : Nat) : Int)) (y_ld (ev (pt b_b 3) rfl rfl) CcmLawOT.sc3 (r_b_b.val (by omega) ((if_neg (by omega)).trans ((if_neg (by omega)).trans ((if_neg (by omega)).trans (by first | with_reducible rfl | (with_reducible congr 1 <;> omega) | (with_reducible congr 2 <;> omega) | (with_reducible congr 3 <;> omega) | rfl)))))) ?_
 refine w_call (Try.func48) (by kernel_rfl) rfl (m5 (ev (.string (str key)) rfl rfl) (ev (.string (str nonce)) rfl rfl) (ev (.string (str aad)) rfl rfl) (ev (.string (str text)) rfl rfl) (ev (.int .i64 ((size : Nat) : Int)) rfl rfl)) (cmRefOpen_b key nonce aad size hok hn h4 h16 hev ha text (by omega) m hm hf hb w7) ?_
 rintro _ w9 ⟨rfl, hb10⟩
 refine ⟨_, rfl, ?_⟩
 replace r_b_b := r_b_b.step hb10
 replace hk := thenB hk hb10
 refine w_mv (ev (.tuple #[.string (str ([] : List (BitVec 8))), .int .i64 8]) rfl rfl) ?_
 refine w_val (y_ext (v := .string (str ([] : List (BitVec 8)))) (ev (.tuple #[.string (str ([] : List (BitVec 8))), .int .i64 8]) rfl rfl) rfl) ?_
 refine w_val (y_ext (v := .int .i64 8) (ev (.tuple #[.string (str ([] : List (BitVec 8))), .int .i64 8]) rfl rfl) rfl) ?_
 refine w_as (ev (.string (str ([] : List (BitVec 8)))) rfl rfl) ?_
 refine w_as (ev (.int .i64 8) rfl rfl) ?_
 refine nt ?_
 refine sr ?_
 refine w_mv (ev (.string (str ([] : List (BitVec 8)))) rfl rfl) ?_
 refine w_mv (ev (.string (str ([] : List (BitVec 8)))) rfl rfl) ?_
 refine w_val (y_bin (ev (.string (str ([] : List (BitVec 8)))) rfl rfl) (ev (.string (str ([] : List (BitVec 8)))) rfl rfl) b_eqs_same) ?_
 refine w_mv (ev (.bool true) rfl rfl) ?_
 refine w_val_g (v := .int .i64 8) (want_yes (j := 3) rfl rfl (ev (.bool true) rfl rfl) rfl) (y_mv (ev (.int .i64 8) rfl rfl)) ?_
 refine w_val_g (v := .int .i64 8) (want_yes (j := 3) rfl rfl (ev (.bool true) rfl rfl) rfl) (y_mv (ev (.int .i64 8) rfl rfl)) ?_
 refine w_val_g (want_yes (j := 3) rfl rfl (ev (.bool true) rfl rfl) rfl) (y_bin (ev (.int .i64 8) rfl rfl) (ev (.int .i64 8) rfl rfl) b_eql) ?_
 refine w_val (y_pick_t (ev (.bool true) rfl rfl) (ev (.bool true) rfl rfl)) ?_
 refine w_as (ev (.bool true) rfl rfl) ?_
 refine nt ?_
 refine wp_ret ?_
 refine fin_ret1 rfl (ev (.bool true) rfl rfl) ?_
 exact ⟨rfl, hk⟩

theorem walk_CcmOpens (key : List (BitVec 8)) (hkey : key.length ≤ 140737488351232) (nonce : List (BitVec 8)) (hno : nonce.length ≤ 140737488351232) (aad : List (BitVec 8)) (ha_ : aad.length ≤ 140737488351232) (size : Int) (hw : (Lit.int .i64 size).wf = true) (text : List (BitVec 8)) (ht_ : text.length ≤ 140737488351232) (w : World) : Calls Try.prog 13 #[.agg #[.string (str key), .string (str nonce), .string (str aad), .int .i64 size], .string (str text)] w fun e w' => e = .returned (.bool true) ∧ Below w.heap.size w w' := by
  by_cases h : 1000 < aad.length ∧ aad.length ≤ 70000 ∨ 1000 < text.length ∧ text.length ≤ 70016
  · exact ccmOpens_l key nonce aad size text h w
  · by_cases hok : Aes.okKey key.length
    · by_cases hn : 7 ≤ nonce.length ∧ nonce.length ≤ 13
      · by_cases ht : 4 ≤ size ∧ size ≤ 16 ∧ size % 2 = 0
        · obtain ⟨k, rfl⟩ : ∃ k : Nat, size = k := ⟨size.toNat, by omega⟩
          by_cases ha : aad.length ≤ 70000
          · by_cases hs : text.length < k
            · exact ccmOpens_s key nonce aad k hok hn (by omega) (by omega) (by omega) ha text ht_ h hs w
            · obtain ⟨m, hm⟩ : ∃ m, text.length = m + k := ⟨text.length - k, by omega⟩
              by_cases hf : Cm.Fit m nonce
              · by_cases hb : Cm.tg key nonce aad (Cm.xr key nonce (text.take m) (15 - nonce.length)) (15 - nonce.length) k = text.drop m
                · exact ccmOpens_y key nonce aad k hok hn (by omega) (by omega) (by omega) ha text ht_ h m hm hf hb w
                · exact ccmOpens_b key nonce aad k hok hn (by omega) (by omega) (by omega) ha text ht_ h m hm hf hb w
              · exact ccmOpens_z key nonce aad k hok hn (by omega) (by omega) (by omega) ha text ht_ h m hm hf w
          · exact ccmOpens_a key nonce aad k hok hn (by omega) (by omega) (by omega) (by omega) text ht_ h w
        · exact ccmOpens_t key nonce aad size hok hn ht text ht_ h w
      · exact ccmOpens_n key nonce aad size hok hn text ht_ h w
    · exact ccmOpens_k key nonce aad size hok text ht_ h w
end Go.Proofs.Ytjdcpejcnmpiaaa
