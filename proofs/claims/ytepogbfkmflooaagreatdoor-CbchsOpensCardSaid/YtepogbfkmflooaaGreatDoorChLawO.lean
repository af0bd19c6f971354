/-
  The law CbchsOpens answers true. No conditions.
-/
import Derived.Test.YtepogbfkmflooaaGreatDoorRows
import Derived.Test.YtepogbfkmflooaaGreatDoorChWakes
import Derived.Test.YtepogbfkmflooaaGreatDoorGenSh
import Derived.ProofKit
namespace Go.Proofs.YtepogbfkmflooaaGreatDoor
open Go.RowKit
set_option linter.unusedSimpArgs false
set_option linter.unusedVariables false
set_option maxRecDepth 100000
set_option maxHeartbeats 1000000
namespace ChLawOT
theorem mixed : Tryz.prog.follows .mixedOrders = true := by kernel_rfl
theorem ag23 : (Tryz.prog.underlying 23).map isAggD = some true := by rw [Tryz.underlying23]; rfl
theorem fa23_0 (g off : Nat) : ∀ w, (Instr.fieldAt 23 (.pointer (some ⟨g, off, none⟩)) 0).run Tryz.prog w = .ok (.pointer (some ⟨g, off + 0, none⟩)) w := fun w => by kernel_rfl
theorem fa23_1 (g off : Nat) : ∀ w, (Instr.fieldAt 23 (.pointer (some ⟨g, off, none⟩)) 1).run Tryz.prog w = .ok (.pointer (some ⟨g, off + 1, none⟩)) w := fun w => by kernel_rfl
theorem fa23_2 (g off : Nat) : ∀ w, (Instr.fieldAt 23 (.pointer (some ⟨g, off, none⟩)) 2).run Tryz.prog w = .ok (.pointer (some ⟨g, off + 2, none⟩)) w := fun w => by kernel_rfl
theorem sc9 : (Tryz.prog.underlying 9).map scal = some true := by rw [Tryz.underlying9]; rfl
theorem sz23 : (Tryz.prog.info? 23).map (·.size) = some 3 := by kernel_rfl
end ChLawOT
theorem cbchsOpens_l (key vi aad : List (BitVec 8)) (text : List (BitVec 8)) (h : 2000 < aad.length ∧ aad.length ≤ 70000 ∨ 2000 < text.length ∧ text.length ≤ 70048) (w0 : World) (hT : Sha.Tabs w0) : Calls Tryz.prog 4 #[.agg (arr 3 (fun j => if j < 1 then .string (str key) else if j < 2 then .string (str vi) else .string (str aad))), .string (str text)] w0 fun e w' => e = .returned (.bool true) ∧ Below w0.heap.size w0 w' := by
 refine enter (n := 44) Tryz.func4 rfl rfl rfl ?_
 have hk : Below w0.heap.size w0 w0 := Below.refl _ _
 refine sr (w_box (m := 3) (F := fun j => if j < 1 then .string (str key) else if j < 2 then .string (str vi) else .string (str aad)) ea rfl ?_)
 intro b_b w1 hbe_b_b r_b_b hb2
 have ge_b_b := gb_ hk.size hbe_b_b
 clear hbe_b_b
 replace hk := thenB hk hb2
 replace hT := Sha.Tabs.below hT hb2
 refine w_as Ev.c (nt (wp_seq (sr (w_call (Tryz.func7) kr rfl m0 (chWakes_c  w1 hT) ?_))))
 rintro _ w3 ⟨rfl, hb4⟩
 refine ⟨_, rfl, ?_⟩
 replace r_b_b := r_b_b.step hb4
 replace hk := thenB hk hb4
 replace hT := Sha.Tabs.below hT hb4
 refine w_val (y_not eb) (nt (c_ff eb (wp_skip (then_n (wp_seq (sr (w_val (v := .agg (arr 3 (fun j => if j < 1 then .string (str key) else if j < 2 then .string (str vi) else .string (str aad)))) (y_lda (ex (pt b_b 0)) ChLawOT.ag23 ChLawOT.sz23 (fun j hj => by rw [Nat.zero_add]; exact (r_b_b.cell om))) (w_mv es (w_call (Tryz.func8) kr rfl (m2 ea es) (chLong_t key vi aad text h w3) ?_)))))))))
 rintro _ w5 ⟨rfl, hb6⟩
 refine ⟨_, rfl, ?_⟩
 replace r_b_b := r_b_b.step hb6
 replace hk := thenB hk hb6
 replace hT := Sha.Tabs.below hT hb6
 refine nt (c_tt eb (sr (w_as Ev.c (nt (wp_ret (then_r (fin_ret1 rfl eb ?_)))))))
 exact ⟨rfl, hk⟩

theorem cbchsOpens_k (key vi aad : List (BitVec 8)) (hk_ : ¬ (key.length = 32 ∨ key.length = 48 ∨ key.length = 64)) (text : List (BitVec 8)) (ht_ : text.length ≤ 140737488351232) (h : ¬ (2000 < aad.length ∧ aad.length ≤ 70000 ∨ 2000 < text.length ∧ text.length ≤ 70048)) (w0 : World) (hT : Sha.Tabs w0) : Calls Tryz.prog 4 #[.agg (arr 3 (fun j => if j < 1 then .string (str key) else if j < 2 then .string (str vi) else .string (str aad))), .string (str text)] w0 fun e w' => e = .returned (.bool true) ∧ Below w0.heap.size w0 w' := by
 refine enter (n := 44) Tryz.func4 rfl rfl rfl ?_
 have hk : Below w0.heap.size w0 w0 := Below.refl _ _
 refine sr (w_box (m := 3) (F := fun j => if j < 1 then .string (str key) else if j < 2 then .string (str vi) else .string (str aad)) ea rfl ?_)
 intro b_b w1 hbe_b_b r_b_b hb2
 have ge_b_b := gb_ hk.size hbe_b_b
 clear hbe_b_b
 replace hk := thenB hk hb2
 replace hT := Sha.Tabs.below hT hb2
 refine w_as Ev.c (nt (wp_seq (sr (w_call (Tryz.func7) kr rfl m0 (chWakes_c  w1 hT) ?_))))
 rintro _ w3 ⟨rfl, hb4⟩
 refine ⟨_, rfl, ?_⟩
 replace r_b_b := r_b_b.step hb4
 replace hk := thenB hk hb4
 replace hT := Sha.Tabs.below hT hb4
 refine w_val (y_not eb) (nt (c_ff eb (wp_skip (then_n (wp_seq (sr (w_val (v := .agg (arr 3 (fun j => if j < 1 then .string (str key) else if j < 2 then .string (str vi) else .string (str aad)))) (y_lda (ex (pt b_b 0)) ChLawOT.ag23 ChLawOT.sz23 (fun j hj => by rw [Nat.zero_add]; exact (r_b_b.cell om))) (w_mv es (w_call (Tryz.func8) kr rfl (m2 ea es) (chLong_f key vi aad text h w3) ?_)))))))))
 rintro _ w5 ⟨rfl, hb6⟩
 refine ⟨_, rfl, ?_⟩
 replace r_b_b := r_b_b.step hb6
 replace hk := thenB hk hb6
 replace hT := Sha.Tabs.below hT hb6
 refine nt (c_ff eb (wp_skip (then_n (sr (w_val (v := pt b_b 0) (y_off (y_fa (ex (pt b_b 0)) (ChLawOT.fa23_0 _ _)) ro) (w_val (v := .string (str key)) (y_ld (ex (pt b_b 0)) ChLawOT.sc9 (r_b_b.val om pz)) (w_val (v := pt b_b 1) (y_off (y_fa (ex (pt b_b 0)) (ChLawOT.fa23_1 _ _)) ro) (w_val (v := .string (str vi)) (y_ld (ex (pt b_b 1)) ChLawOT.sc9 (r_b_b.val om (ng pz))) (w_val (v := pt b_b 2) (y_off (y_fa (ex (pt b_b 0)) (ChLawOT.fa23_2 _ _)) ro) (w_val (v := .string (str aad)) (y_ld (ex (pt b_b 2)) ChLawOT.sc9 (r_b_b.val om (ng (ng dv)))) (w_mv es (w_call (Tryz.func11) kr rfl (m4 es es es es) (chOpen_k key vi aad hk_ text w5) ?_))))))))))))
 rintro _ w7 ⟨rfl, hb8⟩
 refine ⟨_, rfl, ?_⟩
 replace r_b_b := r_b_b.step hb8
 replace hk := thenB hk hb8
 replace hT := Sha.Tabs.below hT hb8
 refine w_mv (ex (.tuple #[.string (str ([] : List (BitVec 8))), .int .i64 3])) (w_val ye (w_val ye (w_as es (w_as ei (nt (sr (w_val (v := pt b_b 0) (y_off (y_fa (ex (pt b_b 0)) (ChLawOT.fa23_0 _ _)) ro) (w_val (v := .string (str key)) (y_ld (ex (pt b_b 0)) ChLawOT.sc9 (r_b_b.val om pz)) (w_val (v := pt b_b 1) (y_off (y_fa (ex (pt b_b 0)) (ChLawOT.fa23_1 _ _)) ro) (w_val (v := .string (str vi)) (y_ld (ex (pt b_b 1)) ChLawOT.sc9 (r_b_b.val om (ng pz))) (w_val (v := pt b_b 2) (y_off (y_fa (ex (pt b_b 0)) (ChLawOT.fa23_2 _ _)) ro) (w_val (v := .string (str aad)) (y_ld (ex (pt b_b 2)) ChLawOT.sc9 (r_b_b.val om (ng (ng dv)))) (w_mv es (w_call (Tryz.func12) kr rfl (m4 es es es es) (chRefOpen_k key vi aad hk_ text w7) ?_))))))))))))))
 rintro _ w9 ⟨rfl, hb10⟩
 refine ⟨_, rfl, ?_⟩
 replace r_b_b := r_b_b.step hb10
 replace hk := thenB hk hb10
 replace hT := Sha.Tabs.below hT hb10
 refine w_mv (ex (.tuple #[.string (str ([] : List (BitVec 8))), .int .i64 3])) (w_val ye (w_val ye (w_as es (w_as ei (nt (sr (w_mv es (w_mv es (w_val (y_bin es es b_eqs_same) (w_mv eb (w_val_g (v := .int .i64 3) (wy rfl rfl eb) (y_mv ei) (w_val_g (v := .int .i64 3) (wy rfl rfl eb) (y_mv ei) (w_val_g (wy rfl rfl eb) (y_bin ei ei b_eql) (w_val (y_pick_t eb eb) (w_as eb (nt (wp_ret (fin_ret1 rfl eb ?_))))))))))))))))))
 exact ⟨rfl, hk⟩

theorem cbchsOpens_i (key vi aad : List (BitVec 8)) (n kind : Nat) (hkd : Sha.Known kind) (hkn : kind = 16 * n) (hkl : key.length = 2 * n) (hiv : vi.length ≠ 16) (text : List (BitVec 8)) (ht_ : text.length ≤ 140737488351232) (h : ¬ (2000 < aad.length ∧ aad.length ≤ 70000 ∨ 2000 < text.length ∧ text.length ≤ 70048)) (w0 : World) (hT : Sha.Tabs w0) : Calls Tryz.prog 4 #[.agg (arr 3 (fun j => if j < 1 then .string (str key) else if j < 2 then .string (str vi) else .string (str aad))), .string (str text)] w0 fun e w' => e = .returned (.bool true) ∧ Below w0.heap.size w0 w' := by
 refine enter (n := 44) Tryz.func4 rfl rfl rfl ?_
 have hk : Below w0.heap.size w0 w0 := Below.refl _ _
 refine sr (w_box (m := 3) (F := fun j => if j < 1 then .string (str key) else if j < 2 then .string (str vi) else .string (str aad)) ea rfl ?_)
 intro b_b w1 hbe_b_b r_b_b hb2
 have ge_b_b := gb_ hk.size hbe_b_b
 clear hbe_b_b
 replace hk := thenB hk hb2
 replace hT := Sha.Tabs.below hT hb2
 refine w_as Ev.c (nt (wp_seq (sr (w_call (Tryz.func7) kr rfl m0 (chWakes_c  w1 hT) ?_))))
 rintro _ w3 ⟨rfl, hb4⟩
 refine ⟨_, rfl, ?_⟩
 replace r_b_b := r_b_b.step hb4
 replace hk := thenB hk hb4
 replace hT := Sha.Tabs.below hT hb4
 refine w_val (y_not eb) (nt (c_ff eb (wp_skip (then_n (wp_seq (sr (w_val (v := .agg (arr 3 (fun j => if j < 1 then .string (str key) else if j < 2 then .string (str vi) else .string (str aad)))) (y_lda (ex (pt b_b 0)) ChLawOT.ag23 ChLawOT.sz23 (fun j hj => by rw [Nat.zero_add]; exact (r_b_b.cell om))) (w_mv es (w_call (Tryz.func8) kr rfl (m2 ea es) (chLong_f key vi aad text h w3) ?_)))))))))
 rintro _ w5 ⟨rfl, hb6⟩
 refine ⟨_, rfl, ?_⟩
 replace r_b_b := r_b_b.step hb6
 replace hk := thenB hk hb6
 replace hT := Sha.Tabs.below hT hb6
 refine nt (c_ff eb (wp_skip (then_n (sr (w_val (v := pt b_b 0) (y_off (y_fa (ex (pt b_b 0)) (ChLawOT.fa23_0 _ _)) ro) (w_val (v := .string (str key)) (y_ld (ex (pt b_b 0)) ChLawOT.sc9 (r_b_b.val om pz)) (w_val (v := pt b_b 1) (y_off (y_fa (ex (pt b_b 0)) (ChLawOT.fa23_1 _ _)) ro) (w_val (v := .string (str vi)) (y_ld (ex (pt b_b 1)) ChLawOT.sc9 (r_b_b.val om (ng pz))) (w_val (v := pt b_b 2) (y_off (y_fa (ex (pt b_b 0)) (ChLawOT.fa23_2 _ _)) ro) (w_val (v := .string (str aad)) (y_ld (ex (pt b_b 2)) ChLawOT.sc9 (r_b_b.val om (ng (ng dv)))) (w_mv es (w_call (Tryz.func11) kr rfl (m4 es es es es) (chOpen_i key vi aad n kind hkd hkn hkl hiv text w5) ?_))))))))))))
 rintro _ w7 ⟨rfl, hb8⟩
 refine ⟨_, rfl, ?_⟩
 replace r_b_b := r_b_b.step hb8
 replace hk := thenB hk hb8
 replace hT := Sha.Tabs.below hT hb8
 refine w_mv (ex (.tuple #[.string (str ([] : List (BitVec 8))), .int .i64 4])) (w_val ye (w_val ye (w_as es (w_as ei (nt (sr (w_val (v := pt b_b 0) (y_off (y_fa (ex (pt b_b 0)) (ChLawOT.fa23_0 _ _)) ro) (w_val (v := .string (str key)) (y_ld (ex (pt b_b 0)) ChLawOT.sc9 (r_b_b.val om pz)) (w_val (v := pt b_b 1) (y_off (y_fa (ex (pt b_b 0)) (ChLawOT.fa23_1 _ _)) ro) (w_val (v := .string (str vi)) (y_ld (ex (pt b_b 1)) ChLawOT.sc9 (r_b_b.val om (ng pz))) (w_val (v := pt b_b 2) (y_off (y_fa (ex (pt b_b 0)) (ChLawOT.fa23_2 _ _)) ro) (w_val (v := .string (str aad)) (y_ld (ex (pt b_b 2)) ChLawOT.sc9 (r_b_b.val om (ng (ng dv)))) (w_mv es (w_call (Tryz.func12) kr rfl (m4 es es es es) (chRefOpen_i key vi aad n kind hkd hkn hkl hiv text w7) ?_))))))))))))))
 rintro _ w9 ⟨rfl, hb10⟩
 refine ⟨_, rfl, ?_⟩
 replace r_b_b := r_b_b.step hb10
 replace hk := thenB hk hb10
 replace hT := Sha.Tabs.below hT hb10
 refine w_mv (ex (.tuple #[.string (str ([] : List (BitVec 8))), .int .i64 4])) (w_val ye (w_val ye (w_as es (w_as ei (nt (sr (w_mv es (w_mv es (w_val (y_bin es es b_eqs_same) (w_mv eb (w_val_g (v := .int .i64 4) (wy rfl rfl eb) (y_mv ei) (w_val_g (v := .int .i64 4) (wy rfl rfl eb) (y_mv ei) (w_val_g (wy rfl rfl eb) (y_bin ei ei b_eql) (w_val (y_pick_t eb eb) (w_as eb (nt (wp_ret (fin_ret1 rfl eb ?_))))))))))))))))))
 exact ⟨rfl, hk⟩

theorem cbchsOpens_a (key vi aad : List (BitVec 8)) (n kind : Nat) (hkd : Sha.Known kind) (hkn : kind = 16 * n) (hkl : key.length = 2 * n) (hiv : vi.length = 16) (ha : 70000 < aad.length) (text : List (BitVec 8)) (ht_ : text.length ≤ 140737488351232) (h : ¬ (2000 < aad.length ∧ aad.length ≤ 70000 ∨ 2000 < text.length ∧ text.length ≤ 70048)) (w0 : World) (hT : Sha.Tabs w0) : Calls Tryz.prog 4 #[.agg (arr 3 (fun j => if j < 1 then .string (str key) else if j < 2 then .string (str vi) else .string (str aad))), .string (str text)] w0 fun e w' => e = .returned (.bool true) ∧ Below w0.heap.size w0 w' := by
 refine enter (n := 44) Tryz.func4 rfl rfl rfl ?_
 have hk : Below w0.heap.size w0 w0 := Below.refl _ _
 refine sr (w_box (m := 3) (F := fun j => if j < 1 then .string (str key) else if j < 2 then .string (str vi) else .string (str aad)) ea rfl ?_)
 intro b_b w1 hbe_b_b r_b_b hb2
 have ge_b_b := gb_ hk.size hbe_b_b
 clear hbe_b_b
 replace hk := thenB hk hb2
 replace hT := Sha.Tabs.below hT hb2
 refine w_as Ev.c (nt (wp_seq (sr (w_call (Tryz.func7) kr rfl m0 (chWakes_c  w1 hT) ?_))))
 rintro _ w3 ⟨rfl, hb4⟩
 refine ⟨_, rfl, ?_⟩
 replace r_b_b := r_b_b.step hb4
 replace hk := thenB hk hb4
 replace hT := Sha.Tabs.below hT hb4
 refine w_val (y_not eb) (nt (c_ff eb (wp_skip (then_n (wp_seq (sr (w_val (v := .agg (arr 3 (fun j => if j < 1 then .string (str key) else if j < 2 then .string (str vi) else .string (str aad)))) (y_lda (ex (pt b_b 0)) ChLawOT.ag23 ChLawOT.sz23 (fun j hj => by rw [Nat.zero_add]; exact (r_b_b.cell om))) (w_mv es (w_call (Tryz.func8) kr rfl (m2 ea es) (chLong_f key vi aad text h w3) ?_)))))))))
 rintro _ w5 ⟨rfl, hb6⟩
 refine ⟨_, rfl, ?_⟩
 replace r_b_b := r_b_b.step hb6
 replace hk := thenB hk hb6
 replace hT := Sha.Tabs.below hT hb6
 refine nt (c_ff eb (wp_skip (then_n (sr (w_val (v := pt b_b 0) (y_off (y_fa (ex (pt b_b 0)) (ChLawOT.fa23_0 _ _)) ro) (w_val (v := .string (str key)) (y_ld (ex (pt b_b 0)) ChLawOT.sc9 (r_b_b.val om pz)) (w_val (v := pt b_b 1) (y_off (y_fa (ex (pt b_b 0)) (ChLawOT.fa23_1 _ _)) ro) (w_val (v := .string (str vi)) (y_ld (ex (pt b_b 1)) ChLawOT.sc9 (r_b_b.val om (ng pz))) (w_val (v := pt b_b 2) (y_off (y_fa (ex (pt b_b 0)) (ChLawOT.fa23_2 _ _)) ro) (w_val (v := .string (str aad)) (y_ld (ex (pt b_b 2)) ChLawOT.sc9 (r_b_b.val om (ng (ng dv)))) (w_mv es (w_call (Tryz.func11) kr rfl (m4 es es es es) (chOpen_a key vi aad n kind hkd hkn hkl hiv ha text w5) ?_))))))))))))
 rintro _ w7 ⟨rfl, hb8⟩
 refine ⟨_, rfl, ?_⟩
 replace r_b_b := r_b_b.step hb8
 replace hk := thenB hk hb8
 replace hT := Sha.Tabs.below hT hb8
 refine w_mv (ex (.tuple #[.string (str ([] : List (BitVec 8))), .int .i64 6])) (w_val ye (w_val ye (w_as es (w_as ei (nt (sr (w_val (v := pt b_b 0) (y_off (y_fa (ex (pt b_b 0)) (ChLawOT.fa23_0 _ _)) ro) (w_val (v := .string (str key)) (y_ld (ex (pt b_b 0)) ChLawOT.sc9 (r_b_b.val om pz)) (w_val (v := pt b_b 1) (y_off (y_fa (ex (pt b_b 0)) (ChLawOT.fa23_1 _ _)) ro) (w_val (v := .string (str vi)) (y_ld (ex (pt b_b 1)) ChLawOT.sc9 (r_b_b.val om (ng pz))) (w_val (v := pt b_b 2) (y_off (y_fa (ex (pt b_b 0)) (ChLawOT.fa23_2 _ _)) ro) (w_val (v := .string (str aad)) (y_ld (ex (pt b_b 2)) ChLawOT.sc9 (r_b_b.val om (ng (ng dv)))) (w_mv es (w_call (Tryz.func12) kr rfl (m4 es es es es) (chRefOpen_a key vi aad n kind hkd hkn hkl hiv ha text w7) ?_))))))))))))))
 rintro _ w9 ⟨rfl, hb10⟩
 refine ⟨_, rfl, ?_⟩
 replace r_b_b := r_b_b.step hb10
 replace hk := thenB hk hb10
 replace hT := Sha.Tabs.below hT hb10
 refine w_mv (ex (.tuple #[.string (str ([] : List (BitVec 8))), .int .i64 6])) (w_val ye (w_val ye (w_as es (w_as ei (nt (sr (w_mv es (w_mv es (w_val (y_bin es es b_eqs_same) (w_mv eb (w_val_g (v := .int .i64 6) (wy rfl rfl eb) (y_mv ei) (w_val_g (v := .int .i64 6) (wy rfl rfl eb) (y_mv ei) (w_val_g (wy rfl rfl eb) (y_bin ei ei b_eql) (w_val (y_pick_t eb eb) (w_as eb (nt (wp_ret (fin_ret1 rfl eb ?_))))))))))))))))))
 exact ⟨rfl, hk⟩

theorem cbchsOpens_s (key vi aad : List (BitVec 8)) (n kind : Nat) (hkd : Sha.Known kind) (hkn : kind = 16 * n) (hkl : key.length = 2 * n) (hiv : vi.length = 16) (ha : aad.length ≤ 70000) (text : List (BitVec 8)) (ht_ : text.length ≤ 140737488351232) (h : ¬ (2000 < aad.length ∧ aad.length ≤ 70000 ∨ 2000 < text.length ∧ text.length ≤ 70048)) (hs : ¬ (16 + n ≤ text.length ∧ (text.length - n) % 16 = 0 ∧ text.length ≤ 70016 + n)) (w0 : World) (hT : Sha.Tabs w0) : Calls Tryz.prog 4 #[.agg (arr 3 (fun j => if j < 1 then .string (str key) else if j < 2 then .string (str vi) else .string (str aad))), .string (str text)] w0 fun e w' => e = .returned (.bool true) ∧ Below w0.heap.size w0 w' := by
 refine enter (n := 44) Tryz.func4 rfl rfl rfl ?_
 have hk : Below w0.heap.size w0 w0 := Below.refl _ _
 refine sr (w_box (m := 3) (F := fun j => if j < 1 then .string (str key) else if j < 2 then .string (str vi) else .string (str aad)) ea rfl ?_)
 intro b_b w1 hbe_b_b r_b_b hb2
 have ge_b_b := gb_ hk.size hbe_b_b
 clear hbe_b_b
 replace hk := thenB hk hb2
 replace hT := Sha.Tabs.below hT hb2
 refine w_as Ev.c (nt (wp_seq (sr (w_call (Tryz.func7) kr rfl m0 (chWakes_c  w1 hT) ?_))))
 rintro _ w3 ⟨rfl, hb4⟩
 refine ⟨_, rfl, ?_⟩
 replace r_b_b := r_b_b.step hb4
 replace hk := thenB hk hb4
 replace hT := Sha.Tabs.below hT hb4
 refine w_val (y_not eb) (nt (c_ff eb (wp_skip (then_n (wp_seq (sr (w_val (v := .agg (arr 3 (fun j => if j < 1 then .string (str key) else if j < 2 then .string (str vi) else .string (str aad)))) (y_lda (ex (pt b_b 0)) ChLawOT.ag23 ChLawOT.sz23 (fun j hj => by rw [Nat.zero_add]; exact (r_b_b.cell om))) (w_mv es (w_call (Tryz.func8) kr rfl (m2 ea es) (chLong_f key vi aad text h w3) ?_)))))))))
 rintro _ w5 ⟨rfl, hb6⟩
 refine ⟨_, rfl, ?_⟩
 replace r_b_b := r_b_b.step hb6
 replace hk := thenB hk hb6
 replace hT := Sha.Tabs.below hT hb6
 refine nt (c_ff eb (wp_skip (then_n (sr (w_val (v := pt b_b 0) (y_off (y_fa (ex (pt b_b 0)) (ChLawOT.fa23_0 _ _)) ro) (w_val (v := .string (str key)) (y_ld (ex (pt b_b 0)) ChLawOT.sc9 (r_b_b.val om pz)) (w_val (v := pt b_b 1) (y_off (y_fa (ex (pt b_b 0)) (ChLawOT.fa23_1 _ _)) ro) (w_val (v := .string (str vi)) (y_ld (ex (pt b_b 1)) ChLawOT.sc9 (r_b_b.val om (ng pz))) (w_val (v := pt b_b 2) (y_off (y_fa (ex (pt b_b 0)) (ChLawOT.fa23_2 _ _)) ro) (w_val (v := .string (str aad)) (y_ld (ex (pt b_b 2)) ChLawOT.sc9 (r_b_b.val om (ng (ng dv)))) (w_mv es (w_call (Tryz.func11) kr rfl (m4 es es es es) (chOpen_s key vi aad n kind hkd hkn hkl hiv ha text om hs w5) ?_))))))))))))
 rintro _ w7 ⟨rfl, hb8⟩
 refine ⟨_, rfl, ?_⟩
 replace r_b_b := r_b_b.step hb8
 replace hk := thenB hk hb8
 replace hT := Sha.Tabs.below hT hb8
 refine w_mv (ex (.tuple #[.string (str ([] : List (BitVec 8))), .int .i64 6])) (w_val ye (w_val ye (w_as es (w_as ei (nt (sr (w_val (v := pt b_b 0) (y_off (y_fa (ex (pt b_b 0)) (ChLawOT.fa23_0 _ _)) ro) (w_val (v := .string (str key)) (y_ld (ex (pt b_b 0)) ChLawOT.sc9 (r_b_b.val om pz)) (w_val (v := pt b_b 1) (y_off (y_fa (ex (pt b_b 0)) (ChLawOT.fa23_1 _ _)) ro) (w_val (v := .string (str vi)) (y_ld (ex (pt b_b 1)) ChLawOT.sc9 (r_b_b.val om (ng pz))) (w_val (v := pt b_b 2) (y_off (y_fa (ex (pt b_b 0)) (ChLawOT.fa23_2 _ _)) ro) (w_val (v := .string (str aad)) (y_ld (ex (pt b_b 2)) ChLawOT.sc9 (r_b_b.val om (ng (ng dv)))) (w_mv es (w_call (Tryz.func12) kr rfl (m4 es es es es) (chRefOpen_s key vi aad n kind hkd hkn hkl hiv ha text om hs w7) ?_))))))))))))))
 rintro _ w9 ⟨rfl, hb10⟩
 refine ⟨_, rfl, ?_⟩
 replace r_b_b := r_b_b.step hb10
 replace hk := thenB hk hb10
 replace hT := Sha.Tabs.below hT hb10
 refine w_mv (ex (.tuple #[.string (str ([] : List (BitVec 8))), .int .i64 6])) (w_val ye (w_val ye (w_as es (w_as ei (nt (sr (w_mv es (w_mv es (w_val (y_bin es es b_eqs_same) (w_mv eb (w_val_g (v := .int .i64 6) (wy rfl rfl eb) (y_mv ei) (w_val_g (v := .int .i64 6) (wy rfl rfl eb) (y_mv ei) (w_val_g (wy rfl rfl eb) (y_bin ei ei b_eql) (w_val (y_pick_t eb eb) (w_as eb (nt (wp_ret (fin_ret1 rfl eb ?_))))))))))))))))))
 exact ⟨rfl, hk⟩

theorem cbchsOpens_b (key vi aad : List (BitVec 8)) (n kind : Nat) (hkd : Sha.Known kind) (hkn : kind = 16 * n) (hkl : key.length = 2 * n) (hiv : vi.length = 16) (ha : aad.length ≤ 70000) (text : List (BitVec 8)) (ht_ : text.length ≤ 140737488351232) (h : ¬ (2000 < aad.length ∧ aad.length ≤ 70000 ∨ 2000 < text.length ∧ text.length ≤ 70048)) (m : Nat) (hm : text.length = m + n) (h16 : 16 ≤ m) (hm16 : m % 16 = 0) (hz : m ≤ 70016) (hb : ¬ Ch.tg kind n key vi aad (text.take m) = text.drop m) (w0 : World) (hT : Sha.Tabs w0) : Calls Tryz.prog 4 #[.agg (arr 3 (fun j => if j < 1 then .string (str key) else if j < 2 then .string (str vi) else .string (str aad))), .string (str text)] w0 fun e w' => e = .returned (.bool true) ∧ Below w0.heap.size w0 w' := by
 refine enter (n := 44) Tryz.func4 rfl rfl rfl ?_
 have hk : Below w0.heap.size w0 w0 := Below.refl _ _
 refine sr (w_box (m := 3) (F := fun j => if j < 1 then .string (str key) else if j < 2 then .string (str vi) else .string (str aad)) ea rfl ?_)
 intro b_b w1 hbe_b_b r_b_b hb2
 have ge_b_b := gb_ hk.size hbe_b_b
 clear hbe_b_b
 replace hk := thenB hk hb2
 replace hT := Sha.Tabs.below hT hb2
 refine w_as Ev.c (nt (wp_seq (sr (w_call (Tryz.func7) kr rfl m0 (chWakes_c  w1 hT) ?_))))
 rintro _ w3 ⟨rfl, hb4⟩
 refine ⟨_, rfl, ?_⟩
 replace r_b_b := r_b_b.step hb4
 replace hk := thenB hk hb4
 replace hT := Sha.Tabs.below hT hb4
 refine w_val (y_not eb) (nt (c_ff eb (wp_skip (then_n (wp_seq (sr (w_val (v := .agg (arr 3 (fun j => if j < 1 then .string (str key) else if j < 2 then .string (str vi) else .string (str aad)))) (y_lda (ex (pt b_b 0)) ChLawOT.ag23 ChLawOT.sz23 (fun j hj => by rw [Nat.zero_add]; exact (r_b_b.cell om))) (w_mv es (w_call (Tryz.func8) kr rfl (m2 ea es) (chLong_f key vi aad text h w3) ?_)))))))))
 rintro _ w5 ⟨rfl, hb6⟩
 refine ⟨_, rfl, ?_⟩
 replace r_b_b := r_b_b.step hb6
 replace hk := thenB hk hb6
 replace hT := Sha.Tabs.below hT hb6
 refine nt (c_ff eb (wp_skip (then_n (sr (w_val (v := pt b_b 0) (y_off (y_fa (ex (pt b_b 0)) (ChLawOT.fa23_0 _ _)) ro) (w_val (v := .string (str key)) (y_ld (ex (pt b_b 0)) ChLawOT.sc9 (r_b_b.val om pz)) (w_val (v := pt b_b 1) (y_off (y_fa (ex (pt b_b 0)) (ChLawOT.fa23_1 _ _)) ro) (w_val (v := .string (str vi)) (y_ld (ex (pt b_b 1)) ChLawOT.sc9 (r_b_b.val om (ng pz))) (w_val (v := pt b_b 2) (y_off (y_fa (ex (pt b_b 0)) (ChLawOT.fa23_2 _ _)) ro) (w_val (v := .string (str aad)) (y_ld (ex (pt b_b 2)) ChLawOT.sc9 (r_b_b.val om (ng (ng dv)))) (w_mv es (w_call (Tryz.func11) kr rfl (m4 es es es es) (chOpen_b key vi aad n kind hkd hkn hkl hiv ha text om m hm h16 hm16 hz hb w5 hT) ?_))))))))))))
 rintro _ w7 ⟨rfl, hb8⟩
 refine ⟨_, rfl, ?_⟩
 replace r_b_b := r_b_b.step hb8
 replace hk := thenB hk hb8
 replace hT := Sha.Tabs.below hT hb8
 refine w_mv (ex (.tuple #[.string (str ([] : List (BitVec 8))), .int .i64 8])) (w_val ye (w_val ye (w_as es (w_as ei (nt (sr (w_val (v := pt b_b 0) (y_off (y_fa (ex (pt b_b 0)) (ChLawOT.fa23_0 _ _)) ro) (w_val (v := .string (str key)) (y_ld (ex (pt b_b 0)) ChLawOT.sc9 (r_b_b.val om pz)) (w_val (v := pt b_b 1) (y_off (y_fa (ex (pt b_b 0)) (ChLawOT.fa23_1 _ _)) ro) (w_val (v := .string (str vi)) (y_ld (ex (pt b_b 1)) ChLawOT.sc9 (r_b_b.val om (ng pz))) (w_val (v := pt b_b 2) (y_off (y_fa (ex (pt b_b 0)) (ChLawOT.fa23_2 _ _)) ro) (w_val (v := .string (str aad)) (y_ld (ex (pt b_b 2)) ChLawOT.sc9 (r_b_b.val om (ng (ng dv)))) (w_mv es (w_call (Tryz.func12) kr rfl (m4 es es es es) (chRefOpen_b key vi aad n kind hkd hkn hkl hiv ha text om m hm h16 hm16 hz hb w7) ?_))))))))))))))
 rintro _ w9 ⟨rfl, hb10⟩
 refine ⟨_, rfl, ?_⟩
 replace r_b_b := r_b_b.step hb10
 replace hk := thenB hk hb10
 replace hT := Sha.Tabs.below hT hb10
 refine w_mv (ex (.tuple #[.string (str ([] : List (BitVec 8))), .int .i64 8])) (w_val ye (w_val ye (w_as es (w_as ei (nt (sr (w_mv es (w_mv es (w_val (y_bin es es b_eqs_same) (w_mv eb (w_val_g (v := .int .i64 8) (wy rfl rfl eb) (y_mv ei) (w_val_g (v := .int .i64 8) (wy rfl rfl eb) (y_mv ei) (w_val_g (wy rfl rfl eb) (y_bin ei ei b_eql) (w_val (y_pick_t eb eb) (w_as eb (nt (wp_ret (fin_ret1 rfl eb ?_))))))))))))))))))
 exact ⟨rfl, hk⟩

theorem cbchsOpens_n (key vi aad : List (BitVec 8)) (n kind : Nat) (hkd : Sha.Known kind) (hkn : kind = 16 * n) (hkl : key.length = 2 * n) (hiv : vi.length = 16) (ha : aad.length ≤ 70000) (text : List (BitVec 8)) (ht_ : text.length ≤ 140737488351232) (h : ¬ (2000 < aad.length ∧ aad.length ≤ 70000 ∨ 2000 < text.length ∧ text.length ≤ 70048)) (m : Nat) (hm : text.length = m + n) (h16 : 16 ≤ m) (hm16 : m % 16 = 0) (hz : m ≤ 70016) (hb : Ch.tg kind n key vi aad (text.take m) = text.drop m) (hp : ¬ Cb.Padded (Ch.un n key vi (text.take m)) 16) (w0 : World) (hT : Sha.Tabs w0) : Calls Tryz.prog 4 #[.agg (arr 3 (fun j => if j < 1 then .string (str key) else if j < 2 then .string (str vi) else .string (str aad))), .string (str text)] w0 fun e w' => e = .returned (.bool true) ∧ Below w0.heap.size w0 w' := by
 refine enter (n := 44) Tryz.func4 rfl rfl rfl ?_
 have hk : Below w0.heap.size w0 w0 := Below.refl _ _
 refine sr (w_box (m := 3) (F := fun j => if j < 1 then .string (str key) else if j < 2 then .string (str vi) else .string (str aad)) ea rfl ?_)
 intro b_b w1 hbe_b_b r_b_b hb2
 have ge_b_b := gb_ hk.size hbe_b_b
 clear hbe_b_b
 replace hk := thenB hk hb2
 replace hT := Sha.Tabs.below hT hb2
 refine w_as Ev.c (nt (wp_seq (sr (w_call (Tryz.func7) kr rfl m0 (chWakes_c  w1 hT) ?_))))
 rintro _ w3 ⟨rfl, hb4⟩
 refine ⟨_, rfl, ?_⟩
 replace r_b_b := r_b_b.step hb4
 replace hk := thenB hk hb4
 replace hT := Sha.Tabs.below hT hb4
 refine w_val (y_not eb) (nt (c_ff eb (wp_skip (then_n (wp_seq (sr (w_val (v := .agg (arr 3 (fun j => if j < 1 then .string (str key) else if j < 2 then .string (str vi) else .string (str aad)))) (y_lda (ex (pt b_b 0)) ChLawOT.ag23 ChLawOT.sz23 (fun j hj => by rw [Nat.zero_add]; exact (r_b_b.cell om))) (w_mv es (w_call (Tryz.func8) kr rfl (m2 ea es) (chLong_f key vi aad text h w3) ?_)))))))))
 rintro _ w5 ⟨rfl, hb6⟩
 refine ⟨_, rfl, ?_⟩
 replace r_b_b := r_b_b.step hb6
 replace hk := thenB hk hb6
 replace hT := Sha.Tabs.below hT hb6
 refine nt (c_ff eb (wp_skip (then_n (sr (w_val (v := pt b_b 0) (y_off (y_fa (ex (pt b_b 0)) (ChLawOT.fa23_0 _ _)) ro) (w_val (v := .string (str key)) (y_ld (ex (pt b_b 0)) ChLawOT.sc9 (r_b_b.val om pz)) (w_val (v := pt b_b 1) (y_off (y_fa (ex (pt b_b 0)) (ChLawOT.fa23_1 _ _)) ro) (w_val (v := .string (str vi)) (y_ld (ex (pt b_b 1)) ChLawOT.sc9 (r_b_b.val om (ng pz))) (w_val (v := pt b_b 2) (y_off (y_fa (ex (pt b_b 0)) (ChLawOT.fa23_2 _ _)) ro) (w_val (v := .string (str aad)) (y_ld (ex (pt b_b 2)) ChLawOT.sc9 (r_b_b.val om (ng (ng dv)))) (w_mv es (w_call (Tryz.func11) kr rfl (m4 es es es es) (chOpen_n key vi aad n kind hkd hkn hkl hiv ha text om m hm h16 hm16 hz hb hp w5 hT) ?_))))))))))))
 rintro _ w7 ⟨rfl, hb8⟩
 refine ⟨_, rfl, ?_⟩
 replace r_b_b := r_b_b.step hb8
 replace hk := thenB hk hb8
 replace hT := Sha.Tabs.below hT hb8
 refine w_mv (ex (.tuple #[.string (str ([] : List (BitVec 8))), .int .i64 8])) (w_val ye (w_val ye (w_as es (w_as ei (nt (sr (w_val (v := pt b_b 0) (y_off (y_fa (ex (pt b_b 0)) (ChLawOT.fa23_0 _ _)) ro) (w_val (v := .string (str key)) (y_ld (ex (pt b_b 0)) ChLawOT.sc9 (r_b_b.val om pz)) (w_val (v := pt b_b 1) (y_off (y_fa (ex (pt b_b 0)) (ChLawOT.fa23_1 _ _)) ro) (w_val (v := .string (str vi)) (y_ld (ex (pt b_b 1)) ChLawOT.sc9 (r_b_b.val om (ng pz))) (w_val (v := pt b_b 2) (y_off (y_fa (ex (pt b_b 0)) (ChLawOT.fa23_2 _ _)) ro) (w_val (v := .string (str aad)) (y_ld (ex (pt b_b 2)) ChLawOT.sc9 (r_b_b.val om (ng (ng dv)))) (w_mv es (w_call (Tryz.func12) kr rfl (m4 es es es es) (chRefOpen_n key vi aad n kind hkd hkn hkl hiv ha text om m hm h16 hm16 hz hb hp w7) ?_))))))))))))))
 rintro _ w9 ⟨rfl, hb10⟩
 refine ⟨_, rfl, ?_⟩
 replace r_b_b := r_b_b.step hb10
 replace hk := thenB hk hb10
 replace hT := Sha.Tabs.below hT hb10
 refine w_mv (ex (.tuple #[.string (str ([] : List (BitVec 8))), .int .i64 8])) (w_val ye (w_val ye (w_as es (w_as ei (nt (sr (w_mv es (w_mv es (w_val (y_bin es es b_eqs_same) (w_mv eb (w_val_g (v := .int .i64 8) (wy rfl rfl eb) (y_mv ei) (w_val_g (v := .int .i64 8) (wy rfl rfl eb) (y_mv ei) (w_val_g (wy rfl rfl eb) (y_bin ei ei b_eql) (w_val (y_pick_t eb eb) (w_as eb (nt (wp_ret (fin_ret1 rfl eb ?_))))))))))))))))))
 exact ⟨rfl, hk⟩

theorem cbchsOpens_y (key vi aad : List (BitVec 8)) (n kind : Nat) (hkd : Sha.Known kind) (hkn : kind = 16 * n) (hkl : key.length = 2 * n) (hiv : vi.length = 16) (ha : aad.length ≤ 70000) (text : List (BitVec 8)) (ht_ : text.length ≤ 140737488351232) (h : ¬ (2000 < aad.length ∧ aad.length ≤ 70000 ∨ 2000 < text.length ∧ text.length ≤ 70048)) (m : Nat) (hm : text.length = m + n) (h16 : 16 ≤ m) (hm16 : m % 16 = 0) (hz : m ≤ 70016) (hb : Ch.tg kind n key vi aad (text.take m) = text.drop m) (hp : Cb.Padded (Ch.un n key vi (text.take m)) 16) (w0 : World) (hT : Sha.Tabs w0) : Calls Tryz.prog 4 #[.agg (arr 3 (fun j => if j < 1 then .string (str key) else if j < 2 then .string (str vi) else .string (str aad))), .string (str text)] w0 fun e w' => e = .returned (.bool true) ∧ Below w0.heap.size w0 w' := by
 refine enter (n := 44) Tryz.func4 rfl rfl rfl ?_
 have hk : Below w0.heap.size w0 w0 := Below.refl _ _
 refine sr (w_box (m := 3) (F := fun j => if j < 1 then .string (str key) else if j < 2 then .string (str vi) else .string (str aad)) ea rfl ?_)
 intro b_b w1 hbe_b_b r_b_b hb2
 have ge_b_b := gb_ hk.size hbe_b_b
 clear hbe_b_b
 replace hk := thenB hk hb2
 replace hT := Sha.Tabs.below hT hb2
 refine w_as Ev.c (nt (wp_seq (sr (w_call (Tryz.func7) kr rfl m0 (chWakes_c  w1 hT) ?_))))
 rintro _ w3 ⟨rfl, hb4⟩
 refine ⟨_, rfl, ?_⟩
 replace r_b_b := r_b_b.step hb4
 replace hk := thenB hk hb4
 replace hT := Sha.Tabs.below hT hb4
 refine w_val (y_not eb) (nt (c_ff eb (wp_skip (then_n (wp_seq (sr (w_val (v := .agg (arr 3 (fun j => if j < 1 then .string (str key) else if j < 2 then .string (str vi) else .string (str aad)))) (y_lda (ex (pt b_b 0)) ChLawOT.ag23 ChLawOT.sz23 (fun j hj => by rw [Nat.zero_add]; exact (r_b_b.cell om))) (w_mv es (w_call (Tryz.func8) kr rfl (m2 ea es) (chLong_f key vi aad text h w3) ?_)))))))))
 rintro _ w5 ⟨rfl, hb6⟩
 refine ⟨_, rfl, ?_⟩
 replace r_b_b := r_b_b.step hb6
 replace hk := thenB hk hb6
 replace hT := Sha.Tabs.below hT hb6
 refine nt (c_ff eb (wp_skip (then_n (sr (w_val (v := pt b_b 0) (y_off (y_fa (ex (pt b_b 0)) (ChLawOT.fa23_0 _ _)) ro) (w_val (v := .string (str key)) (y_ld (ex (pt b_b 0)) ChLawOT.sc9 (r_b_b.val om pz)) (w_val (v := pt b_b 1) (y_off (y_fa (ex (pt b_b 0)) (ChLawOT.fa23_1 _ _)) ro) (w_val (v := .string (str vi)) (y_ld (ex (pt b_b 1)) ChLawOT.sc9 (r_b_b.val om (ng pz))) (w_val (v := pt b_b 2) (y_off (y_fa (ex (pt b_b 0)) (ChLawOT.fa23_2 _ _)) ro) (w_val (v := .string (str aad)) (y_ld (ex (pt b_b 2)) ChLawOT.sc9 (r_b_b.val om (ng (ng dv)))) (w_mv es (w_call (Tryz.func11) kr rfl (m4 es es es es) (chOpen_y key vi aad n kind hkd hkn hkl hiv ha text om m hm h16 hm16 hz hb hp w5 hT) ?_))))))))))))
 rintro _ w7 ⟨rfl, hb8⟩
 refine ⟨_, rfl, ?_⟩
 replace r_b_b := r_b_b.step hb8
 replace hk := thenB hk hb8
 replace hT := Sha.Tabs.below hT hb8
 refine w_mv (ex (.tuple #[.string (str (Ch.op n key vi (text.take m))), .int .i64 0])) (w_val ye (w_val ye (w_as es (w_as ei (nt (sr (w_val (v := pt b_b 0) (y_off (y_fa (ex (pt b_b 0)) (ChLawOT.fa23_0 _ _)) ro) (w_val (v := .string (str key)) (y_ld (ex (pt b_b 0)) ChLawOT.sc9 (r_b_b.val om pz)) (w_val (v := pt b_b 1) (y_off (y_fa (ex (pt b_b 0)) (ChLawOT.fa23_1 _ _)) ro) (w_val (v := .string (str vi)) (y_ld (ex (pt b_b 1)) ChLawOT.sc9 (r_b_b.val om (ng pz))) (w_val (v := pt b_b 2) (y_off (y_fa (ex (pt b_b 0)) (ChLawOT.fa23_2 _ _)) ro) (w_val (v := .string (str aad)) (y_ld (ex (pt b_b 2)) ChLawOT.sc9 (r_b_b.val om (ng (ng dv)))) (w_mv es (w_call (Tryz.func12) kr rfl (m4 es es es es) (chRefOpen_y key vi aad n kind hkd hkn hkl hiv ha text om m hm h16 hm16 hz hb hp w7) ?_))))))))))))))
 rintro _ w9 ⟨rfl, hb10⟩
 refine ⟨_, rfl, ?_⟩
 replace r_b_b := r_b_b.step hb10
 replace hk := thenB hk hb10
 replace hT := Sha.Tabs.below hT hb10
 refine w_mv (ex (.tuple #[.string (str (Ch.op n key vi (text.take m))), .int .i64 0])) (w_val ye (w_val ye (w_as es (w_as ei (nt (sr (w_mv es (w_mv es (w_val (y_bin es es b_eqs_same) (w_mv eb (w_val_g (v := .int .i64 0) (wy rfl rfl eb) (y_mv ei) (w_val_g (v := .int .i64 0) (wy rfl rfl eb) (y_mv ei) (w_val_g (wy rfl rfl eb) (y_bin ei ei b_eql) (w_val (y_pick_t eb eb) (w_as eb (nt (wp_ret (fin_ret1 rfl eb ?_))))))))))))))))))
 exact ⟨rfl, hk⟩

theorem walk_CbchsOpens (key : List (BitVec 8)) (hkey : key.length ≤ 140737488351232) (vi : List (BitVec 8)) (hvi : vi.length ≤ 140737488351232) (aad : List (BitVec 8)) (ha_ : aad.length ≤ 140737488351232) (text : List (BitVec 8)) (ht_ : text.length ≤ 140737488351232) (w : World) (hT : Sha.Tabs w) : Calls Tryz.prog 4 #[.agg #[.string (str key), .string (str vi), .string (str aad)], .string (str text)] w fun e w' => e = .returned (.bool true) ∧ Below w.heap.size w w' := by
  by_cases h : 2000 < aad.length ∧ aad.length ≤ 70000 ∨ 2000 < text.length ∧ text.length ≤ 70048
  · exact cbchsOpens_l key vi aad text h w hT
  · skip
    by_cases hk_ : key.length = 32 ∨ key.length = 48 ∨ key.length = 64
    · obtain ⟨n, hkl⟩ : ∃ n, key.length = 2 * n := ⟨key.length / 2, by omega⟩
      have hkd : Sha.Known (16 * n) := by unfold Sha.Known; omega
      by_cases hiv : vi.length = 16
      · by_cases ha : aad.length ≤ 70000
        · by_cases hs : 16 + n ≤ text.length ∧ (text.length - n) % 16 = 0 ∧ text.length ≤ 70016 + n
          · obtain ⟨m, hm⟩ : ∃ m, text.length = m + n := ⟨text.length - n, by omega⟩
            by_cases hb : Ch.tg (16 * n) n key vi aad (text.take m) = text.drop m
            · by_cases hp : Cb.Padded (Ch.un n key vi (text.take m)) 16
              · exact cbchsOpens_y key vi aad n _ hkd rfl hkl hiv ha text ht_ h m hm om om om hb hp w hT
              · exact cbchsOpens_n key vi aad n _ hkd rfl hkl hiv ha text ht_ h m hm om om om hb hp w hT
            · exact cbchsOpens_b key vi aad n _ hkd rfl hkl hiv ha text ht_ h m hm om om om hb w hT
          · exact cbchsOpens_s key vi aad n _ hkd rfl hkl hiv ha text ht_ h hs w hT
        · exact cbchsOpens_a key vi aad n _ hkd rfl hkl hiv om text ht_ h w hT
      · exact cbchsOpens_i key vi aad n _ hkd rfl hkl hiv text ht_ h w hT
    · exact cbchsOpens_k key vi aad hk_ text ht_ h w hT
end Go.Proofs.YtepogbfkmflooaaGreatDoor
