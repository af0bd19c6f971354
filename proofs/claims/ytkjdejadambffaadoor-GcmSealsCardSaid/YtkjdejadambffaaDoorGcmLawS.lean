/-
  The law GcmSeals answers true. No conditions.
-/
import Derived.Test.YtkjdejadambffaaDoorRows
import Derived.Test.YtkjdejadambffaaDoorGcmWakes
import Derived.Test.YtkjdejadambffaaDoorGen
import Derived.ProofKit
namespace Go.Proofs.YtkjdejadambffaaDoor
open Go.RowKit
set_option linter.unusedSimpArgs false
set_option linter.unusedVariables false
set_option maxRecDepth 100000
set_option maxHeartbeats 1000000
namespace GcmLawST
theorem mixed : Tryd.prog.follows .mixedOrders = true := by kernel_rfl
theorem ag23 : (Tryd.prog.underlying 23).map isAggD = some true := by rw [Tryd.underlying23]; rfl
theorem fa23_0 (g off : Nat) : ∀ w, (Instr.fieldAt 23 (.pointer (some ⟨g, off, none⟩)) 0).run Tryd.prog w = .ok (.pointer (some ⟨g, off + 0, none⟩)) w := fun w => by kernel_rfl
theorem fa23_1 (g off : Nat) : ∀ w, (Instr.fieldAt 23 (.pointer (some ⟨g, off, none⟩)) 1).run Tryd.prog w = .ok (.pointer (some ⟨g, off + 1, none⟩)) w := fun w => by kernel_rfl
theorem fa23_2 (g off : Nat) : ∀ w, (Instr.fieldAt 23 (.pointer (some ⟨g, off, none⟩)) 2).run Tryd.prog w = .ok (.pointer (some ⟨g, off + 2, none⟩)) w := fun w => by kernel_rfl
theorem fa23_3 (g off : Nat) : ∀ w, (Instr.fieldAt 23 (.pointer (some ⟨g, off, none⟩)) 3).run Tryd.prog w = .ok (.pointer (some ⟨g, off + 3, none⟩)) w := fun w => by kernel_rfl
theorem sc3 : (Tryd.prog.underlying 3).map scal = some true := by rw [Tryd.underlying3]; rfl
theorem sc9 : (Tryd.prog.underlying 9).map scal = some true := by rw [Tryd.underlying9]; rfl
theorem sz23 : (Tryd.prog.info? 23).map (·.size) = some 4 := by kernel_rfl
end GcmLawST
theorem gcmSeals_l (key v aad : List (BitVec 8)) (size : Int) (text : List (BitVec 8)) (h : 700 < aad.length ∧ aad.length ≤ 70000 ∨ 700 < text.length ∧ text.length ≤ 70016) (w0 : World) (hF : Gh.Fold w0 Gh.fo) : Calls Tryd.prog 3 #[.agg (arr 4 (fun j => if j < 1 then .string (str key) else if j < 2 then .string (str v) else if j < 3 then .string (str aad) else .int .i64 size)), .string (str text)] w0 fun e w' => e = .returned (.bool true) ∧ Below w0.heap.size w0 w' := by
 refine enter (n := 48) Tryd.func3 rfl rfl rfl ?_
 have hk : Below w0.heap.size w0 w0 := Below.refl _ _
 refine sr ?_
 refine w_box (m := 4) (F := fun j => if j < 1 then .string (str key) else if j < 2 then .string (str v) else if j < 3 then .string (str aad) else .int .i64 size) ea rfl ?_
 intro b_b w1 hbe_b_b r_b_b hb2
 have ge_b_b := gb_ hk.size hbe_b_b
 clear hbe_b_b
 replace hk := thenB hk hb2
 replace hF := Gh.Fold.below hF hb2
 refine w_as Ev.c ?_
 refine nt ?_
 refine wp_seq ?_
 refine sr ?_
 refine w_call (Tryd.func8) (by kernel_rfl) rfl m0 (gcmWakes_c  w1 hF) ?_
 rintro _ w3 ⟨rfl, hb4⟩
 refine ⟨_, rfl, ?_⟩
 replace r_b_b := r_b_b.step hb4
 replace hk := thenB hk hb4
 replace hF := Gh.Fold.below hF hb4
 refine w_val (y_not eb) ?_
 refine nt ?_
 refine c_ff eb ?_
 refine wp_skip ?_
 refine then_n ?_
 refine wp_seq ?_
 refine sr ?_
 refine w_val (v := .agg (arr 4 (fun j => if j < 1 then .string (str key) else if j < 2 then .string (str v) else if j < 3 then .string (str aad) else .int .i64 size))) (y_lda (ex (pt b_b 0)) GcmLawST.ag23 GcmLawST.sz23 (fun j hj => by rw [Nat.zero_add]; exact (r_b_b.cell (by omega)))) ?_
 refine w_mv es ?_
 refine w_call (Tryd.func9) (by kernel_rfl) rfl (m2 ea es) (gcmLong_t key v aad size text h w3) ?_
 rintro _ w5 ⟨rfl, hb6⟩
 refine ⟨_, rfl, ?_⟩
 replace r_b_b := r_b_b.step hb6
 replace hk := thenB hk hb6
 replace hF := Gh.Fold.below hF hb6
 refine nt ?_
 refine c_tt eb ?_
 refine sr ?_
 refine w_as Ev.c ?_
 refine nt ?_
 refine wp_ret ?_
 refine then_r ?_
 refine fin_ret1 rfl eb ?_
 exact ⟨rfl, hk⟩

theorem gcmSeals_k (key v aad : List (BitVec 8)) (size : Int) (hok : ¬ Aes.okKey key.length) (text : List (BitVec 8)) (ht_ : text.length ≤ 140737488351232) (h : ¬ (700 < aad.length ∧ aad.length ≤ 70000 ∨ 700 < text.length ∧ text.length ≤ 70016)) (w0 : World) (hF : Gh.Fold w0 Gh.fo) : Calls Tryd.prog 3 #[.agg (arr 4 (fun j => if j < 1 then .string (str key) else if j < 2 then .string (str v) else if j < 3 then .string (str aad) else .int .i64 size)), .string (str text)] w0 fun e w' => e = .returned (.bool true) ∧ Below w0.heap.size w0 w' := by
 refine enter (n := 48) Tryd.func3 rfl rfl rfl ?_
 have hk : Below w0.heap.size w0 w0 := Below.refl _ _
 refine sr ?_
 refine w_box (m := 4) (F := fun j => if j < 1 then .string (str key) else if j < 2 then .string (str v) else if j < 3 then .string (str aad) else .int .i64 size) ea rfl ?_
 intro b_b w1 hbe_b_b r_b_b hb2
 have ge_b_b := gb_ hk.size hbe_b_b
 clear hbe_b_b
 replace hk := thenB hk hb2
 replace hF := Gh.Fold.below hF hb2
 refine w_as Ev.c ?_
 refine nt ?_
 refine wp_seq ?_
 refine sr ?_
 refine w_call (Tryd.func8) (by kernel_rfl) rfl m0 (gcmWakes_c  w1 hF) ?_
 rintro _ w3 ⟨rfl, hb4⟩
 refine ⟨_, rfl, ?_⟩
 replace r_b_b := r_b_b.step hb4
 replace hk := thenB hk hb4
 replace hF := Gh.Fold.below hF hb4
 refine w_val (y_not eb) ?_
 refine nt ?_
 refine c_ff eb ?_
 refine wp_skip ?_
 refine then_n ?_
 refine wp_seq ?_
 refine sr ?_
 refine w_val (v := .agg (arr 4 (fun j => if j < 1 then .string (str key) else if j < 2 then .string (str v) else if j < 3 then .string (str aad) else .int .i64 size))) (y_lda (ex (pt b_b 0)) GcmLawST.ag23 GcmLawST.sz23 (fun j hj => by rw [Nat.zero_add]; exact (r_b_b.cell (by omega)))) ?_
 refine w_mv es ?_
 refine w_call (Tryd.func9) (by kernel_rfl) rfl (m2 ea es) (gcmLong_f key v aad size text h w3) ?_
 rintro _ w5 ⟨rfl, hb6⟩
 refine ⟨_, rfl, ?_⟩
 replace r_b_b := r_b_b.step hb6
 replace hk := thenB hk hb6
 replace hF := Gh.Fold.below hF hb6
 refine nt ?_
 refine c_ff eb ?_
 refine wp_skip ?_
 refine then_n ?_
 refine sr ?_
 refine w_val (v := pt b_b 0) (y_off (y_fa (ex (pt b_b 0)) (GcmLawST.fa23_0 _ _)) (by first | rfl | omega)) ?_
 refine w_val (v := .string (str key)) (y_ld (ex (pt b_b 0)) GcmLawST.sc9 (r_b_b.val (by omega) (etv (if_pos (by omega))))) ?_
 refine w_val (v := pt b_b 1) (y_off (y_fa (ex (pt b_b 0)) (GcmLawST.fa23_1 _ _)) (by first | rfl | omega)) ?_
 refine w_val (v := .string (str v)) (y_ld (ex (pt b_b 1)) GcmLawST.sc9 (r_b_b.val (by omega) ((if_neg (by omega)).trans (etv (if_pos (by omega)))))) ?_
 refine w_val (v := pt b_b 2) (y_off (y_fa (ex (pt b_b 0)) (GcmLawST.fa23_2 _ _)) (by first | rfl | omega)) ?_
 refine w_val (v := .string (str aad)) (y_ld (ex (pt b_b 2)) GcmLawST.sc9 (r_b_b.val (by omega) ((if_neg (by omega)).trans ((if_neg (by omega)).trans (etv (if_pos (by omega))))))) ?_
 refine w_mv es ?_
 refine w_val (v := pt b_b 3) (y_off (y_fa (ex (pt b_b 0)) (GcmLawST.fa23_3 _ _)) (by first | rfl | omega)) ?_
 refine w_val (v := .int .i64 size) (y_ld (ex (pt b_b 3)) GcmLawST.sc3 (r_b_b.val (by omega) ((if_neg (by omega)).trans ((if_neg (by omega)).trans ((if_neg (by omega)).trans (by first | with_reducible rfl | (with_reducible congr 1 <;> omega) | (with_reducible congr 2 <;> omega) | (with_reducible congr 3 <;> omega) | rfl)))))) ?_
 refine w_call (Tryd.func10) (by kernel_rfl) rfl (m5 es es es es ei) (gmSeal_k key v aad size hok text w5) ?_
 rintro _ w7 ⟨rfl, hb8⟩
 refine ⟨_, rfl, ?_⟩
 replace r_b_b := r_b_b.step hb8
 replace hk := thenB hk hb8
 replace hF := Gh.Fold.below hF hb8
 refine w_mv (ex (.tuple #[.string (str ([] : List (BitVec 8))), .int .i64 3])) ?_
 refine w_val ye ?_
 refine w_val ye ?_
 refine w_as es ?_
 refine w_as ei ?_
 refine nt ?_
 refine sr ?_
 refine w_val (v := pt b_b 0) (y_off (y_fa (ex (pt b_b 0)) (GcmLawST.fa23_0 _ _)) (by first | rfl | omega)) ?_
 refine w_val (v := .string (str key)) (y_ld (ex (pt b_b 0)) GcmLawST.sc9 (r_b_b.val (by omega) (etv (if_pos (by omega))))) ?_
 refine w_val (v := pt b_b 1) (y_off (y_fa (ex (pt b_b 0)) (GcmLawST.fa23_1 _ _)) (by first | rfl | omega)) ?_
 refine w_val (v := .string (str v)) (y_ld (ex (pt b_b 1)) GcmLawST.sc9 (r_b_b.val (by omega) ((if_neg (by omega)).trans (etv (if_pos (by omega)))))) ?_
 refine w_val (v := pt b_b 2) (y_off (y_fa (ex (pt b_b 0)) (GcmLawST.fa23_2 _ _)) (by first | rfl | omega)) ?_
 refine w_val (v := .string (str aad)) (y_ld (ex (pt b_b 2)) GcmLawST.sc9 (r_b_b.val (by omega) ((if_neg (by omega)).trans ((if_neg (by omega)).trans (etv (if_pos (by omega))))))) ?_
 refine w_mv es ?_
 refine w_val (v := pt b_b 3) (y_off (y_fa (ex (pt b_b 0)) (GcmLawST.fa23_3 _ _)) (by first | rfl | omega)) ?_
 refine w_val (v := .int .i64 size) (y_ld (ex (pt b_b 3)) GcmLawST.sc3 (r_b_b.val (by omega) ((if_neg (by omega)).trans ((if_neg (by omega)).trans ((if_neg (by omega)).trans (by first | with_reducible rfl | (with_reducible congr 1 <;> omega) | (with_reducible congr 2 <;> omega) | (with_reducible congr 3 <;> omega) | rfl)))))) ?_
 refine w_call (Tryd.func11) (by kernel_rfl) rfl (m5 es es es es ei) (gmRefSeal_k key v aad size hok text w7) ?_
 rintro _ w9 ⟨rfl, hb10⟩
 refine ⟨_, rfl, ?_⟩
 replace r_b_b := r_b_b.step hb10
 replace hk := thenB hk hb10
 replace hF := Gh.Fold.below hF hb10
 refine w_mv (ex (.tuple #[.string (str ([] : List (BitVec 8))), .int .i64 3])) ?_
 refine w_val ye ?_
 refine w_val ye ?_
 refine w_as es ?_
 refine w_as ei ?_
 refine nt ?_
 refine sr ?_
 refine w_mv es ?_
 refine w_mv es ?_
 refine w_val (y_bin es es b_eqs_same) ?_
 refine w_mv eb ?_
 refine w_val_g (v := .int .i64 3) (wy rfl rfl eb) (y_mv ei) ?_
 refine w_val_g (v := .int .i64 3) (wy rfl rfl eb) (y_mv ei) ?_
 refine w_val_g (wy rfl rfl eb) (y_bin ei ei b_eql) ?_
 refine w_val (y_pick_t eb eb) ?_
 refine w_as eb ?_
 refine nt ?_
 refine wp_ret ?_
 refine fin_ret1 rfl eb ?_
 exact ⟨rfl, hk⟩

theorem gcmSeals_v (key v aad : List (BitVec 8)) (size : Int) (hok : Aes.okKey key.length) (hv : ¬ (1 ≤ v.length ∧ v.length ≤ 1024)) (text : List (BitVec 8)) (ht_ : text.length ≤ 140737488351232) (h : ¬ (700 < aad.length ∧ aad.length ≤ 70000 ∨ 700 < text.length ∧ text.length ≤ 70016)) (w0 : World) (hF : Gh.Fold w0 Gh.fo) : Calls Tryd.prog 3 #[.agg (arr 4 (fun j => if j < 1 then .string (str key) else if j < 2 then .string (str v) else if j < 3 then .string (str aad) else .int .i64 size)), .string (str text)] w0 fun e w' => e = .returned (.bool true) ∧ Below w0.heap.size w0 w' := by
 refine enter (n := 48) Tryd.func3 rfl rfl rfl ?_
 have hk : Below w0.heap.size w0 w0 := Below.refl _ _
 refine sr ?_
 refine w_box (m := 4) (F := fun j => if j < 1 then .string (str key) else if j < 2 then .string (str v) else if j < 3 then .string (str aad) else .int .i64 size) ea rfl ?_
 intro b_b w1 hbe_b_b r_b_b hb2
 have ge_b_b := gb_ hk.size hbe_b_b
 clear hbe_b_b
 replace hk := thenB hk hb2
 replace hF := Gh.Fold.below hF hb2
 refine w_as Ev.c ?_
 refine nt ?_
 refine wp_seq ?_
 refine sr ?_
 refine w_call (Tryd.func8) (by kernel_rfl) rfl m0 (gcmWakes_c  w1 hF) ?_
 rintro _ w3 ⟨rfl, hb4⟩
 refine ⟨_, rfl, ?_⟩
 replace r_b_b := r_b_b.step hb4
 replace hk := thenB hk hb4
 replace hF := Gh.Fold.below hF hb4
 refine w_val (y_not eb) ?_
 refine nt ?_
 refine c_ff eb ?_
 refine wp_skip ?_
 refine then_n ?_
 refine wp_seq ?_
 refine sr ?_
 refine w_val (v := .agg (arr 4 (fun j => if j < 1 then .string (str key) else if j < 2 then .string (str v) else if j < 3 then .string (str aad) else .int .i64 size))) (y_lda (ex (pt b_b 0)) GcmLawST.ag23 GcmLawST.sz23 (fun j hj => by rw [Nat.zero_add]; exact (r_b_b.cell (by omega)))) ?_
 refine w_mv es ?_
 refine w_call (Tryd.func9) (by kernel_rfl) rfl (m2 ea es) (gcmLong_f key v aad size text h w3) ?_
 rintro _ w5 ⟨rfl, hb6⟩
 refine ⟨_, rfl, ?_⟩
 replace r_b_b := r_b_b.step hb6
 replace hk := thenB hk hb6
 replace hF := Gh.Fold.below hF hb6
 refine nt ?_
 refine c_ff eb ?_
 refine wp_skip ?_
 refine then_n ?_
 refine sr ?_
 refine w_val (v := pt b_b 0) (y_off (y_fa (ex (pt b_b 0)) (GcmLawST.fa23_0 _ _)) (by first | rfl | omega)) ?_
 refine w_val (v := .string (str key)) (y_ld (ex (pt b_b 0)) GcmLawST.sc9 (r_b_b.val (by omega) (etv (if_pos (by omega))))) ?_
 refine w_val (v := pt b_b 1) (y_off (y_fa (ex (pt b_b 0)) (GcmLawST.fa23_1 _ _)) (by first | rfl | omega)) ?_
 refine w_val (v := .string (str v)) (y_ld (ex (pt b_b 1)) GcmLawST.sc9 (r_b_b.val (by omega) ((if_neg (by omega)).trans (etv (if_pos (by omega)))))) ?_
 refine w_val (v := pt b_b 2) (y_off (y_fa (ex (pt b_b 0)) (GcmLawST.fa23_2 _ _)) (by first | rfl | omega)) ?_
 refine w_val (v := .string (str aad)) (y_ld (ex (pt b_b 2)) GcmLawST.sc9 (r_b_b.val (by omega) ((if_neg (by omega)).trans ((if_neg (by omega)).trans (etv (if_pos (by omega))))))) ?_
 refine w_mv es ?_
 refine w_val (v := pt b_b 3) (y_off (y_fa (ex (pt b_b 0)) (GcmLawST.fa23_3 _ _)) (by first | rfl | omega)) ?_
 refine w_val (v := .int .i64 size) (y_ld (ex (pt b_b 3)) GcmLawST.sc3 (r_b_b.val (by omega) ((if_neg (by omega)).trans ((if_neg (by omega)).trans ((if_neg (by omega)).trans (by first | with_reducible rfl | (with_reducible congr 1 <;> omega) | (with_reducible congr 2 <;> omega) | (with_reducible congr 3 <;> omega) | rfl)))))) ?_
 refine w_call (Tryd.func10) (by kernel_rfl) rfl (m5 es es es es ei) (gmSeal_v key v aad size hok hv text w5) ?_
 rintro _ w7 ⟨rfl, hb8⟩
 refine ⟨_, rfl, ?_⟩
 replace r_b_b := r_b_b.step hb8
 replace hk := thenB hk hb8
 replace hF := Gh.Fold.below hF hb8
 refine w_mv (ex (.tuple #[.string (str ([] : List (BitVec 8))), .int .i64 4])) ?_
 refine w_val ye ?_
 refine w_val ye ?_
 refine w_as es ?_
 refine w_as ei ?_
 refine nt ?_
 refine sr ?_
 refine w_val (v := pt b_b 0) (y_off (y_fa (ex (pt b_b 0)) (GcmLawST.fa23_0 _ _)) (by first | rfl | omega)) ?_
 refine w_val (v := .string (str key)) (y_ld (ex (pt b_b 0)) GcmLawST.sc9 (r_b_b.val (by omega) (etv (if_pos (by omega))))) ?_
 refine w_val (v := pt b_b 1) (y_off (y_fa (ex (pt b_b 0)) (GcmLawST.fa23_1 _ _)) (by first | rfl | omega)) ?_
 refine w_val (v := .string (str v)) (y_ld (ex (pt b_b 1)) GcmLawST.sc9 (r_b_b.val (by omega) ((if_neg (by omega)).trans (etv (if_pos (by omega)))))) ?_
 refine w_val (v := pt b_b 2) (y_off (y_fa (ex (pt b_b 0)) (GcmLawST.fa23_2 _ _)) (by first | rfl | omega)) ?_
 refine w_val (v := .string (str aad)) (y_ld (ex (pt b_b 2)) GcmLawST.sc9 (r_b_b.val (by omega) ((if_neg (by omega)).trans ((if_neg (by omega)).trans (etv (if_pos (by omega))))))) ?_
 refine w_mv es ?_
 refine w_val (v := pt b_b 3) (y_off (y_fa (ex (pt b_b 0)) (GcmLawST.fa23_3 _ _)) (by first | rfl | omega)) ?_
 refine w_val (v := .int .i64 size) (y_ld (ex (pt b_b 3)) GcmLawST.sc3 (r_b_b.val (by omega) ((if_neg (by omega)).trans ((if_neg (by omega)).trans ((if_neg (by omega)).trans (by first | with_reducible rfl | (with_reducible congr 1 <;> omega) | (with_reducible congr 2 <;> omega) | (with_reducible congr 3 <;> omega) | rfl)))))) ?_
 refine w_call (Tryd.func11) (by kernel_rfl) rfl (m5 es es es es ei) (gmRefSeal_v key v aad size hok hv text w7) ?_
 rintro _ w9 ⟨rfl, hb10⟩
 refine ⟨_, rfl, ?_⟩
 replace r_b_b := r_b_b.step hb10
 replace hk := thenB hk hb10
 replace hF := Gh.Fold.below hF hb10
 refine w_mv (ex (.tuple #[.string (str ([] : List (BitVec 8))), .int .i64 4])) ?_
 refine w_val ye ?_
 refine w_val ye ?_
 refine w_as es ?_
 refine w_as ei ?_
 refine nt ?_
 refine sr ?_
 refine w_mv es ?_
 refine w_mv es ?_
 refine w_val (y_bin es es b_eqs_same) ?_
 refine w_mv eb ?_
 refine w_val_g (v := .int .i64 4) (wy rfl rfl eb) (y_mv ei) ?_
 refine w_val_g (v := .int .i64 4) (wy rfl rfl eb) (y_mv ei) ?_
 refine w_val_g (wy rfl rfl eb) (y_bin ei ei b_eql) ?_
 refine w_val (y_pick_t eb eb) ?_
 refine w_as eb ?_
 refine nt ?_
 refine wp_ret ?_
 refine fin_ret1 rfl eb ?_
 exact ⟨rfl, hk⟩

theorem gcmSeals_t (key v aad : List (BitVec 8)) (size : Int) (hok : Aes.okKey key.length) (hv : 1 ≤ v.length ∧ v.length ≤ 1024) (ht : ¬ (12 ≤ size ∧ size ≤ 16)) (text : List (BitVec 8)) (ht_ : text.length ≤ 140737488351232) (h : ¬ (700 < aad.length ∧ aad.length ≤ 70000 ∨ 700 < text.length ∧ text.length ≤ 70016)) (w0 : World) (hF : Gh.Fold w0 Gh.fo) : Calls Tryd.prog 3 #[.agg (arr 4 (fun j => if j < 1 then .string (str key) else if j < 2 then .string (str v) else if j < 3 then .string (str aad) else .int .i64 size)), .string (str text)] w0 fun e w' => e = .returned (.bool true) ∧ Below w0.heap.size w0 w' := by
 refine enter (n := 48) Tryd.func3 rfl rfl rfl ?_
 have hk : Below w0.heap.size w0 w0 := Below.refl _ _
 refine sr ?_
 refine w_box (m := 4) (F := fun j => if j < 1 then .string (str key) else if j < 2 then .string (str v) else if j < 3 then .string (str aad) else .int .i64 size) ea rfl ?_
 intro b_b w1 hbe_b_b r_b_b hb2
 have ge_b_b := gb_ hk.size hbe_b_b
 clear hbe_b_b
 replace hk := thenB hk hb2
 replace hF := Gh.Fold.below hF hb2
 refine w_as Ev.c ?_
 refine nt ?_
 refine wp_seq ?_
 refine sr ?_
 refine w_call (Tryd.func8) (by kernel_rfl) rfl m0 (gcmWakes_c  w1 hF) ?_
 rintro _ w3 ⟨rfl, hb4⟩
 refine ⟨_, rfl, ?_⟩
 replace r_b_b := r_b_b.step hb4
 replace hk := thenB hk hb4
 replace hF := Gh.Fold.below hF hb4
 refine w_val (y_not eb) ?_
 refine nt ?_
 refine c_ff eb ?_
 refine wp_skip ?_
 refine then_n ?_
 refine wp_seq ?_
 refine sr ?_
 refine w_val (v := .agg (arr 4 (fun j => if j < 1 then .string (str key) else if j < 2 then .string (str v) else if j < 3 then .string (str aad) else .int .i64 size))) (y_lda (ex (pt b_b 0)) GcmLawST.ag23 GcmLawST.sz23 (fun j hj => by rw [Nat.zero_add]; exact (r_b_b.cell (by omega)))) ?_
 refine w_mv es ?_
 refine w_call (Tryd.func9) (by kernel_rfl) rfl (m2 ea es) (gcmLong_f key v aad size text h w3) ?_
 rintro _ w5 ⟨rfl, hb6⟩
 refine ⟨_, rfl, ?_⟩
 replace r_b_b := r_b_b.step hb6
 replace hk := thenB hk hb6
 replace hF := Gh.Fold.below hF hb6
 refine nt ?_
 refine c_ff eb ?_
 refine wp_skip ?_
 refine then_n ?_
 refine sr ?_
 refine w_val (v := pt b_b 0) (y_off (y_fa (ex (pt b_b 0)) (GcmLawST.fa23_0 _ _)) (by first | rfl | omega)) ?_
 refine w_val (v := .string (str key)) (y_ld (ex (pt b_b 0)) GcmLawST.sc9 (r_b_b.val (by omega) (etv (if_pos (by omega))))) ?_
 refine w_val (v := pt b_b 1) (y_off (y_fa (ex (pt b_b 0)) (GcmLawST.fa23_1 _ _)) (by first | rfl | omega)) ?_
 refine w_val (v := .string (str v)) (y_ld (ex (pt b_b 1)) GcmLawST.sc9 (r_b_b.val (by omega) ((if_neg (by omega)).trans (etv (if_pos (by omega)))))) ?_
 refine w_val (v := pt b_b 2) (y_off (y_fa (ex (pt b_b 0)) (GcmLawST.fa23_2 _ _)) (by first | rfl | omega)) ?_
 refine w_val (v := .string (str aad)) (y_ld (ex (pt b_b 2)) GcmLawST.sc9 (r_b_b.val (by omega) ((if_neg (by omega)).trans ((if_neg (by omega)).trans (etv (if_pos (by omega))))))) ?_
 refine w_mv es ?_
 refine w_val (v := pt b_b 3) (y_off (y_fa (ex (pt b_b 0)) (GcmLawST.fa23_3 _ _)) (by first | rfl | omega)) ?_
 refine w_val (v := .int .i64 size) (y_ld (ex (pt b_b 3)) GcmLawST.sc3 (r_b_b.val (by omega) ((if_neg (by omega)).trans ((if_neg (by omega)).trans ((if_neg (by omega)).trans (by first | with_reducible rfl | (with_reducible congr 1 <;> omega) | (with_reducible congr 2 <;> omega) | (with_reducible congr 3 <;> omega) | rfl)))))) ?_
 refine w_call (Tryd.func10) (by kernel_rfl) rfl (m5 es es es es ei) (gmSeal_t key v aad size hok hv ht text w5) ?_
 rintro _ w7 ⟨rfl, hb8⟩
 refine ⟨_, rfl, ?_⟩
 replace r_b_b := r_b_b.step hb8
 replace hk := thenB hk hb8
 replace hF := Gh.Fold.below hF hb8
 refine w_mv (ex (.tuple #[.string (str ([] : List (BitVec 8))), .int .i64 5])) ?_
 refine w_val ye ?_
 refine w_val ye ?_
 refine w_as es ?_
 refine w_as ei ?_
 refine nt ?_
 refine sr ?_
 refine w_val (v := pt b_b 0) (y_off (y_fa (ex (pt b_b 0)) (GcmLawST.fa23_0 _ _)) (by first | rfl | omega)) ?_
 refine w_val (v := .string (str key)) (y_ld (ex (pt b_b 0)) GcmLawST.sc9 (r_b_b.val (by omega) (etv (if_pos (by omega))))) ?_
 refine w_val (v := pt b_b 1) (y_off (y_fa (ex (pt b_b 0)) (GcmLawST.fa23_1 _ _)) (by first | rfl | omega)) ?_
 refine w_val (v := .string (str v)) (y_ld (ex (pt b_b 1)) GcmLawST.sc9 (r_b_b.val (by omega) ((if_neg (by omega)).trans (etv (if_pos (by omega)))))) ?_
 refine w_val (v := pt b_b 2) (y_off (y_fa (ex (pt b_b 0)) (GcmLawST.fa23_2 _ _)) (by first | rfl | omega)) ?_
 refine w_val (v := .string (str aad)) (y_ld (ex (pt b_b 2)) GcmLawST.sc9 (r_b_b.val (by omega) ((if_neg (by omega)).trans ((if_neg (by omega)).trans (etv (if_pos (by omega))))))) ?_
 refine w_mv es ?_
 refine w_val (v := pt b_b 3) (y_off (y_fa (ex (pt b_b 0)) (GcmLawST.fa23_3 _ _)) (by first | rfl | omega)) ?_
 refine w_val (v := .int .i64 size) (y_ld (ex (pt b_b 3)) GcmLawST.sc3 (r_b_b.val (by omega) ((if_neg (by omega)).trans ((if_neg (by omega)).trans ((if_neg (by omega)).trans (by first | with_reducible rfl | (with_reducible congr 1 <;> omega) | (with_reducible congr 2 <;> omega) | (with_reducible congr 3 <;> omega) | rfl)))))) ?_
 refine w_call (Tryd.func11) (by kernel_rfl) rfl (m5 es es es es ei) (gmRefSeal_t key v aad size hok hv ht text w7) ?_
 rintro _ w9 ⟨rfl, hb10⟩
 refine ⟨_, rfl, ?_⟩
 replace r_b_b := r_b_b.step hb10
 replace hk := thenB hk hb10
 replace hF := Gh.Fold.below hF hb10
 refine w_mv (ex (.tuple #[.string (str ([] : List (BitVec 8))), .int .i64 5])) ?_
 refine w_val ye ?_
 refine w_val ye ?_
 refine w_as es ?_
 refine w_as ei ?_
 refine nt ?_
 refine sr ?_
 refine w_mv es ?_
 refine w_mv es ?_
 refine w_val (y_bin es es b_eqs_same) ?_
 refine w_mv eb ?_
 refine w_val_g (v := .int .i64 5) (wy rfl rfl eb) (y_mv ei) ?_
 refine w_val_g (v := .int .i64 5) (wy rfl rfl eb) (y_mv ei) ?_
 refine w_val_g (wy rfl rfl eb) (y_bin ei ei b_eql) ?_
 refine w_val (y_pick_t eb eb) ?_
 refine w_as eb ?_
 refine nt ?_
 refine wp_ret ?_
 refine fin_ret1 rfl eb ?_
 exact ⟨rfl, hk⟩

theorem gcmSeals_a (key v aad : List (BitVec 8)) (size : Nat) (hok : Aes.okKey key.length) (hv : 1 ≤ v.length ∧ v.length ≤ 1024) (h12 : 12 ≤ size) (h16 : size ≤ 16) (ha : 70000 < aad.length) (text : List (BitVec 8)) (ht_ : text.length ≤ 140737488351232) (h : ¬ (700 < aad.length ∧ aad.length ≤ 70000 ∨ 700 < text.length ∧ text.length ≤ 70016)) (w0 : World) (hF : Gh.Fold w0 Gh.fo) : Calls Tryd.prog 3 #[.agg (arr 4 (fun j => if j < 1 then .string (str key) else if j < 2 then .string (str v) else if j < 3 then .string (str aad) else .int .i64 ((size : Nat) : Int))), .string (str text)] w0 fun e w' => e = .returned (.bool true) ∧ Below w0.heap.size w0 w' := by
 refine enter (n := 48) Tryd.func3 rfl rfl rfl ?_
 have hk : Below w0.heap.size w0 w0 := Below.refl _ _
 refine sr ?_
 refine w_box (m := 4) (F := fun j => if j < 1 then .string (str key) else if j < 2 then .string (str v) else if j < 3 then .string (str aad) else .int .i64 ((size : Nat) : Int)) ea rfl ?_
 intro b_b w1 hbe_b_b r_b_b hb2
 have ge_b_b := gb_ hk.size hbe_b_b
 clear hbe_b_b
 replace hk := thenB hk hb2
 replace hF := Gh.Fold.below hF hb2
 refine w_as Ev.c ?_
 refine nt ?_
 refine wp_seq ?_
 refine sr ?_
 refine w_call (Tryd.func8) (by kernel_rfl) rfl m0 (gcmWakes_c  w1 hF) ?_
 rintro _ w3 ⟨rfl, hb4⟩
 refine ⟨_, rfl, ?_⟩
 replace r_b_b := r_b_b.step hb4
 replace hk := thenB hk hb4
 replace hF := Gh.Fold.below hF hb4
 refine w_val (y_not eb) ?_
 refine nt ?_
 refine c_ff eb ?_
 refine wp_skip ?_
 refine then_n ?_
 refine wp_seq ?_
 refine sr ?_
 refine w_val (v := .agg (arr 4 (fun j => if j < 1 then .string (str key) else if j < 2 then .string (str v) else if j < 3 then .string (str aad) else .int .i64 ((size : Nat) : Int)))) (y_lda (ex (pt b_b 0)) GcmLawST.ag23 GcmLawST.sz23 (fun j hj => by rw [Nat.zero_add]; exact (r_b_b.cell (by omega)))) ?_
 refine w_mv es ?_
 refine w_call (Tryd.func9) (by kernel_rfl) rfl (m2 ea es) (gcmLong_f key v aad ((size : Nat) : Int) text h w3) ?_
 rintro _ w5 ⟨rfl, hb6⟩
 refine ⟨_, rfl, ?_⟩
 replace r_b_b := r_b_b.step hb6
 replace hk := thenB hk hb6
 replace hF := Gh.Fold.below hF hb6
 refine nt ?_
 refine c_ff eb ?_
 refine wp_skip ?_
 refine then_n ?_
 refine sr ?_
 refine w_val (v := pt b_b 0) (y_off (y_fa (ex (pt b_b 0)) (GcmLawST.fa23_0 _ _)) (by first | rfl | omega)) ?_
 refine w_val (v := .string (str key)) (y_ld (ex (pt b_b 0)) GcmLawST.sc9 (r_b_b.val (by omega) (etv (if_pos (by omega))))) ?_
 refine w_val (v := pt b_b 1) (y_off (y_fa (ex (pt b_b 0)) (GcmLawST.fa23_1 _ _)) (by first | rfl | omega)) ?_
 refine w_val (v := .string (str v)) (y_ld (ex (pt b_b 1)) GcmLawST.sc9 (r_b_b.val (by omega) ((if_neg (by omega)).trans (etv (if_pos (by omega)))))) ?_
 refine w_val (v := pt b_b 2) (y_off (y_fa (ex (pt b_b 0)) (GcmLawST.fa23_2 _ _)) (by first | rfl | omega)) ?_
 refine w_val (v := .string (str aad)) (y_ld (ex (pt b_b 2)) GcmLawST.sc9 (r_b_b.val (by omega) ((if_neg (by omega)).trans ((if_neg (by omega)).trans (etv (if_pos (by omega))))))) ?_
 refine w_mv es ?_
 refine w_val (v := pt b_b 3) (y_off (y_fa (ex (pt b_b 0)) (GcmLawST.fa23_3 _ _)) (by first | rfl | omega)) ?_
 refine w_val (v := .int .i64 ((size : Nat) : Int)) (y_ld (ex (pt b_b 3)) GcmLawST.sc3 (r_b_b.val (by omega) ((if_neg (by omega)).trans ((if_neg (by omega)).trans ((if_neg (by omega)).trans (by first | with_reducible rfl | (with_reducible congr 1 <;> omega) | (with_reducible congr 2 <;> omega) | (with_reducible congr 3 <;> omega) | rfl)))))) ?_
 refine w_call (Tryd.func10) (by kernel_rfl) rfl (m5 es es es es ei) (gmSeal_a key v aad size hok hv h12 h16 ha text w5) ?_
 rintro _ w7 ⟨rfl, hb8⟩
 refine ⟨_, rfl, ?_⟩
 replace r_b_b := r_b_b.step hb8
 replace hk := thenB hk hb8
 replace hF := Gh.Fold.below hF hb8
 refine w_mv (ex (.tuple #[.string (str ([] : List (BitVec 8))), .int .i64 6])) ?_
 refine w_val ye ?_
 refine w_val ye ?_
 refine w_as es ?_
 refine w_as ei ?_
 refine nt ?_
 refine sr ?_
 refine w_val (v := pt b_b 0) (y_off (y_fa (ex (pt b_b 0)) (GcmLawST.fa23_0 _ _)) (by first | rfl | omega)) ?_
 refine w_val (v := .string (str key)) (y_ld (ex (pt b_b 0)) GcmLawST.sc9 (r_b_b.val (by omega) (etv (if_pos (by omega))))) ?_
 refine w_val (v := pt b_b 1) (y_off (y_fa (ex (pt b_b 0)) (GcmLawST.fa23_1 _ _)) (by first | rfl | omega)) ?_
 refine w_val (v := .string (str v)) (y_ld (ex (pt b_b 1)) GcmLawST.sc9 (r_b_b.val (by omega) ((if_neg (by omega)).trans (etv (if_pos (by omega)))))) ?_
 refine w_val (v := pt b_b 2) (y_off (y_fa (ex (pt b_b 0)) (GcmLawST.fa23_2 _ _)) (by first | rfl | omega)) ?_
 refine w_val (v := .string (str aad)) (y_ld (ex (pt b_b 2)) GcmLawST.sc9 (r_b_b.val (by omega) ((if_neg (by omega)).trans ((if_neg (by omega)).trans (etv (if_pos (by omega))))))) ?_
 refine w_mv es ?_
 refine w_val (v := pt b_b 3) (y_off (y_fa (ex (pt b_b 0)) (GcmLawST.fa23_3 _ _)) (by first | rfl | omega)) ?_
 refine w_val (v := .int .i64 ((size : Nat) : Int)) (y_ld (ex (pt b_b 3)) GcmLawST.sc3 (r_b_b.val (by omega) ((if_neg (by omega)).trans ((if_neg (by omega)).trans ((if_neg (by omega)).trans (by first | with_reducible rfl | (with_reducible congr 1 <;> omega) | (with_reducible congr 2 <;> omega) | (with_reducible congr 3 <;> omega) | rfl)))))) ?_
 refine w_call (Tryd.func11) (by kernel_rfl) rfl (m5 es es es es ei) (gmRefSeal_a key v aad size hok hv h12 h16 ha text w7) ?_
 rintro _ w9 ⟨rfl, hb10⟩
 refine ⟨_, rfl, ?_⟩
 replace r_b_b := r_b_b.step hb10
 replace hk := thenB hk hb10
 replace hF := Gh.Fold.below hF hb10
 refine w_mv (ex (.tuple #[.string (str ([] : List (BitVec 8))), .int .i64 6])) ?_
 refine w_val ye ?_
 refine w_val ye ?_
 refine w_as es ?_
 refine w_as ei ?_
 refine nt ?_
 refine sr ?_
 refine w_mv es ?_
 refine w_mv es ?_
 refine w_val (y_bin es es b_eqs_same) ?_
 refine w_mv eb ?_
 refine w_val_g (v := .int .i64 6) (wy rfl rfl eb) (y_mv ei) ?_
 refine w_val_g (v := .int .i64 6) (wy rfl rfl eb) (y_mv ei) ?_
 refine w_val_g (wy rfl rfl eb) (y_bin ei ei b_eql) ?_
 refine w_val (y_pick_t eb eb) ?_
 refine w_as eb ?_
 refine nt ?_
 refine wp_ret ?_
 refine fin_ret1 rfl eb ?_
 exact ⟨rfl, hk⟩

theorem gcmSeals_z (key v aad : List (BitVec 8)) (size : Nat) (hok : Aes.okKey key.length) (hv : 1 ≤ v.length ∧ v.length ≤ 1024) (h12 : 12 ≤ size) (h16 : size ≤ 16) (ha : aad.length ≤ 70000) (text : List (BitVec 8)) (ht_ : text.length ≤ 140737488351232) (h : ¬ (700 < aad.length ∧ aad.length ≤ 70000 ∨ 700 < text.length ∧ text.length ≤ 70016)) (hz : 70000 < text.length) (w0 : World) (hF : Gh.Fold w0 Gh.fo) : Calls Tryd.prog 3 #[.agg (arr 4 (fun j => if j < 1 then .string (str key) else if j < 2 then .string (str v) else if j < 3 then .string (str aad) else .int .i64 ((size : Nat) : Int))), .string (str text)] w0 fun e w' => e = .returned (.bool true) ∧ Below w0.heap.size w0 w' := by
 refine enter (n := 48) Tryd.func3 rfl rfl rfl ?_
 have hk : Below w0.heap.size w0 w0 := Below.refl _ _
 refine sr ?_
 refine w_box (m := 4) (F := fun j => if j < 1 then .string (str key) else if j < 2 then .string (str v) else if j < 3 then .string (str aad) else .int .i64 ((size : Nat) : Int)) ea rfl ?_
 intro b_b w1 hbe_b_b r_b_b hb2
 have ge_b_b := gb_ hk.size hbe_b_b
 clear hbe_b_b
 replace hk := thenB hk hb2
 replace hF := Gh.Fold.below hF hb2
 refine w_as Ev.c ?_
 refine nt ?_
 refine wp_seq ?_
 refine sr ?_
 refine w_call (Tryd.func8) (by kernel_rfl) rfl m0 (gcmWakes_c  w1 hF) ?_
 rintro _ w3 ⟨rfl, hb4⟩
 refine ⟨_, rfl, ?_⟩
 replace r_b_b := r_b_b.step hb4
 replace hk := thenB hk hb4
 replace hF := Gh.Fold.below hF hb4
 refine w_val (y_not eb) ?_
 refine nt ?_
 refine c_ff eb ?_
 refine wp_skip ?_
 refine then_n ?_
 refine wp_seq ?_
 refine sr ?_
 refine w_val (v := .agg (arr 4 (fun j => if j < 1 then .string (str key) else if j < 2 then .string (str v) else if j < 3 then .string (str aad) else .int .i64 ((size : Nat) : Int)))) (y_lda (ex (pt b_b 0)) GcmLawST.ag23 GcmLawST.sz23 (fun j hj => by rw [Nat.zero_add]; exact (r_b_b.cell (by omega)))) ?_
 refine w_mv es ?_
 refine w_call (Tryd.func9) (by kernel_rfl) rfl (m2 ea es) (gcmLong_f key v aad ((size : Nat) : Int) text h w3) ?_
 rintro _ w5 ⟨rfl, hb6⟩
 refine ⟨_, rfl, ?_⟩
 replace r_b_b := r_b_b.step hb6
 replace hk := thenB hk hb6
 replace hF := Gh.Fold.below hF hb6
 refine nt ?_
 refine c_ff eb ?_
 refine wp_skip ?_
 refine then_n ?_
 refine sr ?_
 refine w_val (v := pt b_b 0) (y_off (y_fa (ex (pt b_b 0)) (GcmLawST.fa23_0 _ _)) (by first | rfl | omega)) ?_
 refine w_val (v := .string (str key)) (y_ld (ex (pt b_b 0)) GcmLawST.sc9 (r_b_b.val (by omega) (etv (if_pos (by omega))))) ?_
 refine w_val (v := pt b_b 1) (y_off (y_fa (ex (pt b_b 0)) (GcmLawST.fa23_1 _ _)) (by first | rfl | omega)) ?_
 refine w_val (v := .string (str v)) (y_ld (ex (pt b_b 1)) GcmLawST.sc9 (r_b_b.val (by omega) ((if_neg (by omega)).trans (etv (if_pos (by omega)))))) ?_
 refine w_val (v := pt b_b 2) (y_off (y_fa (ex (pt b_b 0)) (GcmLawST.fa23_2 _ _)) (by first | rfl | omega)) ?_
 refine w_val (v := .string (str aad)) (y_ld (ex (pt b_b 2)) GcmLawST.sc9 (r_b_b.val (by omega) ((if_neg (by omega)).trans ((if_neg (by omega)).trans (etv (if_pos (by omega))))))) ?_
 refine w_mv es ?_
 refine w_val (v := pt b_b 3) (y_off (y_fa (ex (pt b_b 0)) (GcmLawST.fa23_3 _ _)) (by first | rfl | omega)) ?_
 refine w_val (v := .int .i64 ((size : Nat) : Int)) (y_ld (ex (pt b_b 3)) GcmLawST.sc3 (r_b_b.val (by omega) ((if_neg (by omega)).trans ((if_neg (by omega)).trans ((if_neg (by omega)).trans (by first | with_reducible rfl | (with_reducible congr 1 <;> omega) | (with_reducible congr 2 <;> omega) | (with_reducible congr 3 <;> omega) | rfl)))))) ?_
 refine w_call (Tryd.func10) (by kernel_rfl) rfl (m5 es es es es ei) (gmSeal_z Gh.fo key v aad size hok hv h12 h16 ha text (by omega) hz w5 hF) ?_
 rintro _ w7 ⟨rfl, hb8⟩
 refine ⟨_, rfl, ?_⟩
 replace r_b_b := r_b_b.step hb8
 replace hk := thenB hk hb8
 replace hF := Gh.Fold.below hF hb8
 refine w_mv (ex (.tuple #[.string (str ([] : List (BitVec 8))), .int .i64 6])) ?_
 refine w_val ye ?_
 refine w_val ye ?_
 refine w_as es ?_
 refine w_as ei ?_
 refine nt ?_
 refine sr ?_
 refine w_val (v := pt b_b 0) (y_off (y_fa (ex (pt b_b 0)) (GcmLawST.fa23_0 _ _)) (by first | rfl | omega)) ?_
 refine w_val (v := .string (str key)) (y_ld (ex (pt b_b 0)) GcmLawST.sc9 (r_b_b.val (by omega) (etv (if_pos (by omega))))) ?_
 refine w_val (v := pt b_b 1) (y_off (y_fa (ex (pt b_b 0)) (GcmLawST.fa23_1 _ _)) (by first | rfl | omega)) ?_
 refine w_val (v := .string (str v)) (y_ld (ex (pt b_b 1)) GcmLawST.sc9 (r_b_b.val (by omega) ((if_neg (by omega)).trans (etv (if_pos (by omega)))))) ?_
 refine w_val (v := pt b_b 2) (y_off (y_fa (ex (pt b_b 0)) (GcmLawST.fa23_2 _ _)) (by first | rfl | omega)) ?_
 refine w_val (v := .string (str aad)) (y_ld (ex (pt b_b 2)) GcmLawST.sc9 (r_b_b.val (by omega) ((if_neg (by omega)).trans ((if_neg (by omega)).trans (etv (if_pos (by omega))))))) ?_
 refine w_mv es ?_
 refine w_val (v := pt b_b 3) (y_off (y_fa (ex (pt b_b 0)) (GcmLawST.fa23_3 _ _)) (by first | rfl | omega)) ?_
 refine w_val (v := .int .i64 ((size : Nat) : Int)) (y_ld (ex (pt b_b 3)) GcmLawST.sc3 (r_b_b.val (by omega) ((if_neg (by omega)).trans ((if_neg (by omega)).trans ((if_neg (by omega)).trans (by first | with_reducible rfl | (with_reducible congr 1 <;> omega) | (with_reducible congr 2 <;> omega) | (with_reducible congr 3 <;> omega) | rfl)))))) ?_
 refine w_call (Tryd.func11) (by kernel_rfl) rfl (m5 es es es es ei) (gmRefSeal_z key v aad size hok hv h12 h16 ha text (by omega) hz w7) ?_
 rintro _ w9 ⟨rfl, hb10⟩
 refine ⟨_, rfl, ?_⟩
 replace r_b_b := r_b_b.step hb10
 replace hk := thenB hk hb10
 replace hF := Gh.Fold.below hF hb10
 refine w_mv (ex (.tuple #[.string (str ([] : List (BitVec 8))), .int .i64 6])) ?_
 refine w_val ye ?_
 refine w_val ye ?_
 refine w_as es ?_
 refine w_as ei ?_
 refine nt ?_
 refine sr ?_
 refine w_mv es ?_
 refine w_mv es ?_
 refine w_val (y_bin es es b_eqs_same) ?_
 refine w_mv eb ?_
 refine w_val_g (v := .int .i64 6) (wy rfl rfl eb) (y_mv ei) ?_
 refine w_val_g (v := .int .i64 6) (wy rfl rfl eb) (y_mv ei) ?_
 refine w_val_g (wy rfl rfl eb) (y_bin ei ei b_eql) ?_
 refine w_val (y_pick_t eb eb) ?_
 refine w_as eb ?_
 refine nt ?_
 refine wp_ret ?_
 refine fin_ret1 rfl eb ?_
 exact ⟨rfl, hk⟩

theorem gcmSeals_y (key v aad : List (BitVec 8)) (size : Nat) (hok : Aes.okKey key.length) (hv : 1 ≤ v.length ∧ v.length ≤ 1024) (h12 : 12 ≤ size) (h16 : size ≤ 16) (ha : aad.length ≤ 70000) (text : List (BitVec 8)) (ht_ : text.length ≤ 140737488351232) (h : ¬ (700 < aad.length ∧ aad.length ≤ 70000 ∨ 700 < text.length ∧ text.length ≤ 70016)) (hz : text.length ≤ 70000) (w0 : World) (hF : Gh.Fold w0 Gh.fo) : Calls Tryd.prog 3 #[.agg (arr 4 (fun j => if j < 1 then .string (str key) else if j < 2 then .string (str v) else if j < 3 then .string (str aad) else .int .i64 ((size : Nat) : Int))), .string (str text)] w0 fun e w' => e = .returned (.bool true) ∧ Below w0.heap.size w0 w' := by
 refine enter (n := 48) Tryd.func3 rfl rfl rfl ?_
 have hk : Below w0.heap.size w0 w0 := Below.refl _ _
 refine sr ?_
 refine w_box (m := 4) (F := fun j => if j < 1 then .string (str key) else if j < 2 then .string (str v) else if j < 3 then .string (str aad) else .int .i64 ((size : Nat) : Int)) ea rfl ?_
 intro b_b w1 hbe_b_b r_b_b hb2
 have ge_b_b := gb_ hk.size hbe_b_b
 clear hbe_b_b
 replace hk := thenB hk hb2
 replace hF := Gh.Fold.below hF hb2
 refine w_as Ev.c ?_
 refine nt ?_
 refine wp_seq ?_
 refine sr ?_
 refine w_call (Tryd.func8) (by kernel_rfl) rfl m0 (gcmWakes_c  w1 hF) ?_
 rintro _ w3 ⟨rfl, hb4⟩
 refine ⟨_, rfl, ?_⟩
 replace r_b_b := r_b_b.step hb4
 replace hk := thenB hk hb4
 replace hF := Gh.Fold.below hF hb4
 refine w_val (y_not eb) ?_
 refine nt ?_
 refine c_ff eb ?_
 refine wp_skip ?_
 refine then_n ?_
 refine wp_seq ?_
 refine sr ?_
 refine w_val (v := .agg (arr 4 (fun j => if j < 1 then .string (str key) else if j < 2 then .string (str v) else if j < 3 then .string (str aad) else .int .i64 ((size : Nat) : Int)))) (y_lda (ex (pt b_b 0)) GcmLawST.ag23 GcmLawST.sz23 (fun j hj => by rw [Nat.zero_add]; exact (r_b_b.cell (by omega)))) ?_
 refine w_mv es ?_
 refine w_call (Tryd.func9) (by kernel_rfl) rfl (m2 ea es) (gcmLong_f key v aad ((size : Nat) : Int) text h w3) ?_
 rintro _ w5 ⟨rfl, hb6⟩
 refine ⟨_, rfl, ?_⟩
 replace r_b_b := r_b_b.step hb6
 replace hk := thenB hk hb6
 replace hF := Gh.Fold.below hF hb6
 refine nt ?_
 refine c_ff eb ?_
 refine wp_skip ?_
 refine then_n ?_
 refine sr ?_
 refine w_val (v := pt b_b 0) (y_off (y_fa (ex (pt b_b 0)) (GcmLawST.fa23_0 _ _)) (by first | rfl | omega)) ?_
 refine w_val (v := .string (str key)) (y_ld (ex (pt b_b 0)) GcmLawST.sc9 (r_b_b.val (by omega) (etv (if_pos (by omega))))) ?_
 refine w_val (v := pt b_b 1) (y_off (y_fa (ex (pt b_b 0)) (GcmLawST.fa23_1 _ _)) (by first | rfl | omega)) ?_
 refine w_val (v := .string (str v)) (y_ld (ex (pt b_b 1)) GcmLawST.sc9 (r_b_b.val (by omega) ((if_neg (by omega)).trans (etv (if_pos (by omega)))))) ?_
 refine w_val (v := pt b_b 2) (y_off (y_fa (ex (pt b_b 0)) (GcmLawST.fa23_2 _ _)) (by first | rfl | omega)) ?_
 refine w_val (v := .string (str aad)) (y_ld (ex (pt b_b 2)) GcmLawST.sc9 (r_b_b.val (by omega) ((if_neg (by omega)).trans ((if_neg (by omega)).trans (etv (if_pos (by omega))))))) ?_
 refine w_mv es ?_
 refine w_val (v := pt b_b 3) (y_off (y_fa (ex (pt b_b 0)) (GcmLawST.fa23_3 _ _)) (by first | rfl | omega)) ?_
 refine w_val (v := .int .i64 ((size : Nat) : Int)) (y_ld (ex (pt b_b 3)) GcmLawST.sc3 (r_b_b.val (by omega) ((if_neg (by omega)).trans ((if_neg (by omega)).trans ((if_neg (by omega)).trans (by first | with_reducible rfl | (with_reducible congr 1 <;> omega) | (with_reducible congr 2 <;> omega) | (with_reducible congr 3 <;> omega) | rfl)))))) ?_
 refine w_call (Tryd.func10) (by kernel_rfl) rfl (m5 es es es es ei) (gmSeal_y Gh.fo key v aad size hok hv h12 h16 ha text (by omega) hz w5 hF) ?_
 rintro _ w7 ⟨rfl, hb8⟩
 refine ⟨_, rfl, ?_⟩
 replace r_b_b := r_b_b.step hb8
 replace hk := thenB hk hb8
 replace hF := Gh.Fold.below hF hb8
 refine w_mv (ex (.tuple #[.string (str (Gm.sealed Gh.fo key v aad text size)), .int .i64 0])) ?_
 refine w_val ye ?_
 refine w_val ye ?_
 refine w_as es ?_
 refine w_as ei ?_
 refine nt ?_
 refine sr ?_
 refine w_val (v := pt b_b 0) (y_off (y_fa (ex (pt b_b 0)) (GcmLawST.fa23_0 _ _)) (by first | rfl | omega)) ?_
 refine w_val (v := .string (str key)) (y_ld (ex (pt b_b 0)) GcmLawST.sc9 (r_b_b.val (by omega) (etv (if_pos (by omega))))) ?_
 refine w_val (v := pt b_b 1) (y_off (y_fa (ex (pt b_b 0)) (GcmLawST.fa23_1 _ _)) (by first | rfl | omega)) ?_
 refine w_val (v := .string (str v)) (y_ld (ex (pt b_b 1)) GcmLawST.sc9 (r_b_b.val (by omega) ((if_neg (by omega)).trans (etv (if_pos (by omega)))))) ?_
 refine w_val (v := pt b_b 2) (y_off (y_fa (ex (pt b_b 0)) (GcmLawST.fa23_2 _ _)) (by first | rfl | omega)) ?_
 refine w_val (v := .string (str aad)) (y_ld (ex (pt b_b 2)) GcmLawST.sc9 (r_b_b.val (by omega) ((if_neg (by omega)).trans ((if_neg (by omega)).trans (etv (if_pos (by omega))))))) ?_
 refine w_mv es ?_
 refine w_val (v := pt b_b 3) (y_off (y_fa (ex (pt b_b 0)) (GcmLawST.fa23_3 _ _)) (by first | rfl | omega)) ?_
 refine w_val (v := .int .i64 ((size : Nat) : Int)) (y_ld (ex (pt b_b 3)) GcmLawST.sc3 (r_b_b.val (by omega) ((if_neg (by omega)).trans ((if_neg (by omega)).trans ((if_neg (by omega)).trans (by first | with_reducible rfl | (with_reducible congr 1 <;> omega) | (with_reducible congr 2 <;> omega) | (with_reducible congr 3 <;> omega) | rfl)))))) ?_
 refine w_call (Tryd.func11) (by kernel_rfl) rfl (m5 es es es es ei) (gmRefSeal_y key v aad size hok hv h12 h16 ha text (by omega) hz w7) ?_
 rintro _ w9 ⟨rfl, hb10⟩
 refine ⟨_, rfl, ?_⟩
 replace r_b_b := r_b_b.step hb10
 replace hk := thenB hk hb10
 replace hF := Gh.Fold.below hF hb10
 refine w_mv (ex (.tuple #[.string (str (Gm.sealed Gh.fo key v aad text size)), .int .i64 0])) ?_
 refine w_val ye ?_
 refine w_val ye ?_
 refine w_as es ?_
 refine w_as ei ?_
 refine nt ?_
 refine sr ?_
 refine w_mv es ?_
 refine w_mv es ?_
 refine w_val (y_bin es es b_eqs_same) ?_
 refine w_mv eb ?_
 refine w_val_g (v := .int .i64 0) (wy rfl rfl eb) (y_mv ei) ?_
 refine w_val_g (v := .int .i64 0) (wy rfl rfl eb) (y_mv ei) ?_
 refine w_val_g (wy rfl rfl eb) (y_bin ei ei b_eql) ?_
 refine w_val (y_pick_t eb eb) ?_
 refine w_as eb ?_
 refine nt ?_
 refine wp_ret ?_
 refine fin_ret1 rfl eb ?_
 exact ⟨rfl, hk⟩

theorem walk_GcmSeals (key : List (BitVec 8)) (hkey : key.length ≤ 140737488351232) (v : List (BitVec 8)) (hno : v.length ≤ 140737488351232) (aad : List (BitVec 8)) (ha_ : aad.length ≤ 140737488351232) (size : Int) (hw : (Lit.int .i64 size).wf = true) (text : List (BitVec 8)) (ht_ : text.length ≤ 140737488351232) (w : World) (hF : Gh.Fold w Gh.fo) : Calls Tryd.prog 3 #[.agg #[.string (str key), .string (str v), .string (str aad), .int .i64 size], .string (str text)] w fun e w' => e = .returned (.bool true) ∧ Below w.heap.size w w' := by
  by_cases h : 700 < aad.length ∧ aad.length ≤ 70000 ∨ 700 < text.length ∧ text.length ≤ 70016
  · exact gcmSeals_l key v aad size text h w hF
  · by_cases hok : Aes.okKey key.length
    · by_cases hv : 1 ≤ v.length ∧ v.length ≤ 1024
      · by_cases ht : 12 ≤ size ∧ size ≤ 16
        · obtain ⟨k, rfl⟩ : ∃ k : Nat, size = k := ⟨size.toNat, by omega⟩
          by_cases ha : aad.length ≤ 70000
          · by_cases hz : text.length ≤ 70000
            · exact gcmSeals_y key v aad k hok hv (by omega) (by omega) ha text ht_ h hz w hF
            · exact gcmSeals_z key v aad k hok hv (by omega) (by omega) ha text ht_ h (by omega) w hF
          · exact gcmSeals_a key v aad k hok hv (by omega) (by omega) (by omega) text ht_ h w hF
        · exact gcmSeals_t key v aad size hok hv ht text ht_ h w hF
      · exact gcmSeals_v key v aad size hok hv text ht_ h w hF
    · exact gcmSeals_k key v aad size hok text ht_ h w hF
end Go.Proofs.YtkjdejadambffaaDoor
