/-
  The law CbchsPads answers true. No conditions.
-/
import Derived.Test.YtepogbfkmflooaaGreatDoorRows
import Derived.Test.YtepogbfkmflooaaGreatDoorChWakes
import Derived.Test.YtepogbfkmflooaaGreatDoorGenSh
import Derived.ProofKit
namespace Go.Proofs.YtepogbfkmflooaaGreatDoor
open Go.RowKit
set_option linter.unusedSimpArgs false
set_option linter.unusedVariables false
set_option maxRecDepth 100000
set_option maxHeartbeats 1000000
namespace ChLawPT
theorem mixed : Tryz.prog.follows .mixedOrders = true := by kernel_rfl
theorem ag23 : (Tryz.prog.underlying 23).map isAggD = some true := by rw [Tryz.underlying23]; rfl
theorem fa23_0 (g off : Nat) : ∀ w, (Instr.fieldAt 23 (.pointer (some ⟨g, off, none⟩)) 0).run Tryz.prog w = .ok (.pointer (some ⟨g, off + 0, none⟩)) w := fun w => by kernel_rfl
theorem fa23_1 (g off : Nat) : ∀ w, (Instr.fieldAt 23 (.pointer (some ⟨g, off, none⟩)) 1).run Tryz.prog w = .ok (.pointer (some ⟨g, off + 1, none⟩)) w := fun w => by kernel_rfl
theorem fa23_2 (g off : Nat) : ∀ w, (Instr.fieldAt 23 (.pointer (some ⟨g, off, none⟩)) 2).run Tryz.prog w = .ok (.pointer (some ⟨g, off + 2, none⟩)) w := fun w => by kernel_rfl
theorem sc9 : (Tryz.prog.underlying 9).map scal = some true := by rw [Tryz.underlying9]; rfl
theorem sz23 : (Tryz.prog.info? 23).map (·.size) = some 3 := by kernel_rfl
end ChLawPT
theorem chPadsOpen_p (key vi aad : List (BitVec 8)) (n kind : Nat) (hkd : Sha.Known kind) (hkn : kind = 16 * n) (hkl : key.length = 2 * n) (hiv : vi.length = 16) (ha : aad.length ≤ 70000) (text : List (BitVec 8)) (ht : text.length % 16 = 0) (hl : text.length ≤ 70016) (h0 : 16 ≤ text.length) (hp : Cb.Padded text 16) (w0 : World) (hT : Sha.Tabs w0) : Calls Tryz.prog 11 #[.string (str key), .string (str vi), .string (str aad), .string (str (Cb.chain (key.drop n) vi text ++ Ch.tg kind n key vi aad (Cb.chain (key.drop n) vi text)))] w0 fun e w' => e = .returned (.tuple #[.string (str (text.take (text.length - Cb.last text))), .int .i64 0]) ∧ Below w0.heap.size w0 w' := by
  have hcl : (Cb.chain (key.drop n) vi text).length = text.length := Cb.chain_len _ _ _
  have htl := Ch.tg_len kind n key vi aad (Cb.chain (key.drop n) vi text) hkd hkn
  have hok := Ch.key_ok kind n key hkd hkn hkl
  have hnc := Ch.n_cases kind n hkd hkn
  have hu : Ch.un n key vi (Cb.chain (key.drop n) vi text) = text := Cb.unchain_chain (key.drop n) vi text hok hiv ht
  have hk1 := Ch.cat_take (Cb.chain (key.drop n) vi text) (Ch.tg kind n key vi aad (Cb.chain (key.drop n) vi text)) text.length hcl.symm
  have hk2 := Ch.cat_drop (Cb.chain (key.drop n) vi text) (Ch.tg kind n key vi aad (Cb.chain (key.drop n) vi text)) text.length hcl.symm
  have h := chOpen_y key vi aad n kind hkd hkn hkl hiv ha (Cb.chain (key.drop n) vi text ++ Ch.tg kind n key vi aad (Cb.chain (key.drop n) vi text)) (by rw [List.length_append]; omega) text.length (by rw [List.length_append, hcl, htl]) h0 ht hl (by rw [hk1, hk2]) (by rw [hk1, hu]; exact hp) w0 hT
  unfold Ch.op at h
  rw [hk1, hu] at h
  exact h

theorem chPadsOpen_q (key vi aad : List (BitVec 8)) (n kind : Nat) (hkd : Sha.Known kind) (hkn : kind = 16 * n) (hkl : key.length = 2 * n) (hiv : vi.length = 16) (ha : aad.length ≤ 70000) (text : List (BitVec 8)) (ht : text.length % 16 = 0) (hl : text.length ≤ 70016) (h0 : 16 ≤ text.length) (hp : ¬ Cb.Padded text 16) (w0 : World) (hT : Sha.Tabs w0) : Calls Tryz.prog 11 #[.string (str key), .string (str vi), .string (str aad), .string (str (Cb.chain (key.drop n) vi text ++ Ch.tg kind n key vi aad (Cb.chain (key.drop n) vi text)))] w0 fun e w' => e = .returned (.tuple #[.string (str ([] : List (BitVec 8))), .int .i64 8]) ∧ Below w0.heap.size w0 w' := by
  have hcl : (Cb.chain (key.drop n) vi text).length = text.length := Cb.chain_len _ _ _
  have htl := Ch.tg_len kind n key vi aad (Cb.chain (key.drop n) vi text) hkd hkn
  have hok := Ch.key_ok kind n key hkd hkn hkl
  have hnc := Ch.n_cases kind n hkd hkn
  have hu : Ch.un n key vi (Cb.chain (key.drop n) vi text) = text := Cb.unchain_chain (key.drop n) vi text hok hiv ht
  have hk1 := Ch.cat_take (Cb.chain (key.drop n) vi text) (Ch.tg kind n key vi aad (Cb.chain (key.drop n) vi text)) text.length hcl.symm
  have hk2 := Ch.cat_drop (Cb.chain (key.drop n) vi text) (Ch.tg kind n key vi aad (Cb.chain (key.drop n) vi text)) text.length hcl.symm
  have h := chOpen_n key vi aad n kind hkd hkn hkl hiv ha (Cb.chain (key.drop n) vi text ++ Ch.tg kind n key vi aad (Cb.chain (key.drop n) vi text)) (by rw [List.length_append]; omega) text.length (by rw [List.length_append, hcl, htl]) h0 ht hl (by rw [hk1, hk2]) (by rw [hk1, hu]; exact hp) w0 hT
  exact h

theorem cbchsPads_k (key vi aad : List (BitVec 8)) (hk_ : ¬ (key.length = 32 ∨ key.length = 48 ∨ key.length = 64)) (text : List (BitVec 8)) (ht_ : text.length ≤ 140737488351232) (w0 : World) (hT : Sha.Tabs w0) : Calls Tryz.prog 6 #[.agg (arr 3 (fun j => if j < 1 then .string (str key) else if j < 2 then .string (str vi) else .string (str aad))), .string (str text)] w0 fun e w' => e = .returned (.bool true) ∧ Below w0.heap.size w0 w' := by
 refine enter (n := 96) Tryz.func6 rfl rfl rfl ?_
 have hk : Below w0.heap.size w0 w0 := Below.refl _ _
 refine sr (w_box (m := 3) (F := fun j => if j < 1 then .string (str key) else if j < 2 then .string (str vi) else .string (str aad)) ea rfl ?_)
 intro b_b w1 hbe_b_b r_b_b hb2
 have ge_b_b := gb_ hk.size hbe_b_b
 clear hbe_b_b
 replace hk := thenB hk hb2
 replace hT := Sha.Tabs.below hT hb2
 refine w_as Ev.c (nt (wp_seq (sr (w_call (Tryz.func7) kr rfl m0 (chWakes_c  w1 hT) ?_))))
 rintro _ w3 ⟨rfl, hb4⟩
 refine ⟨_, rfl, ?_⟩
 replace r_b_b := r_b_b.step hb4
 replace hk := thenB hk hb4
 replace hT := Sha.Tabs.below hT hb4
 refine w_val (y_not eb) (nt (c_ff eb (wp_skip (then_n (wp_seq (sr (w_val (v := pt b_b 0) (y_off (y_fa (ex (pt b_b 0)) (ChLawPT.fa23_0 _ _)) ro) (w_val (v := .string (str key)) (y_ld (ex (pt b_b 0)) ChLawPT.sc9 (r_b_b.val om pz)) (w_val (v := pt b_b 1) (y_off (y_fa (ex (pt b_b 0)) (ChLawPT.fa23_1 _ _)) ro) (w_val (v := .string (str vi)) (y_ld (ex (pt b_b 1)) ChLawPT.sc9 (r_b_b.val om (ng pz))) (w_val (v := pt b_b 2) (y_off (y_fa (ex (pt b_b 0)) (ChLawPT.fa23_2 _ _)) ro) (w_val (v := .string (str aad)) (y_ld (ex (pt b_b 2)) ChLawPT.sc9 (r_b_b.val om (ng (ng dv)))) (w_call (Tryz.func15) kr rfl (m3 es es es) (chRefWrong_k key vi aad hk_ w3) ?_)))))))))))))
 rintro _ w5 ⟨rfl, hb6⟩
 refine ⟨_, rfl, ?_⟩
 replace r_b_b := r_b_b.step hb6
 replace hk := thenB hk hb6
 replace hT := Sha.Tabs.below hT hb6
 refine w_val (y_bin ei Ev.c b_neq) (w_mv eb ?_)
 with_reducible refine w_skip ?_ ?_
 exact wn rfl rfl eb
 with_reducible refine w_skip ?_ ?_
 exact wn rfl rfl eb
 with_reducible refine w_skip ?_ ?_
 exact wn rfl rfl eb
 refine w_val (y_pick_t eb Ev.c) (nt (c_tt eb (sr (w_as Ev.c (nt (wp_ret (then_r (fin_ret1 rfl eb ?_))))))))
 exact ⟨rfl, hk⟩

theorem cbchsPads_i (key vi aad : List (BitVec 8)) (n kind : Nat) (hkd : Sha.Known kind) (hkn : kind = 16 * n) (hkl : key.length = 2 * n) (hiv : vi.length ≠ 16) (text : List (BitVec 8)) (ht_ : text.length ≤ 140737488351232) (w0 : World) (hT : Sha.Tabs w0) : Calls Tryz.prog 6 #[.agg (arr 3 (fun j => if j < 1 then .string (str key) else if j < 2 then .string (str vi) else .string (str aad))), .string (str text)] w0 fun e w' => e = .returned (.bool true) ∧ Below w0.heap.size w0 w' := by
 refine enter (n := 96) Tryz.func6 rfl rfl rfl ?_
 have hk : Below w0.heap.size w0 w0 := Below.refl _ _
 refine sr (w_box (m := 3) (F := fun j => if j < 1 then .string (str key) else if j < 2 then .string (str vi) else .string (str aad)) ea rfl ?_)
 intro b_b w1 hbe_b_b r_b_b hb2
 have ge_b_b := gb_ hk.size hbe_b_b
 clear hbe_b_b
 replace hk := thenB hk hb2
 replace hT := Sha.Tabs.below hT hb2
 refine w_as Ev.c (nt (wp_seq (sr (w_call (Tryz.func7) kr rfl m0 (chWakes_c  w1 hT) ?_))))
 rintro _ w3 ⟨rfl, hb4⟩
 refine ⟨_, rfl, ?_⟩
 replace r_b_b := r_b_b.step hb4
 replace hk := thenB hk hb4
 replace hT := Sha.Tabs.below hT hb4
 refine w_val (y_not eb) (nt (c_ff eb (wp_skip (then_n (wp_seq (sr (w_val (v := pt b_b 0) (y_off (y_fa (ex (pt b_b 0)) (ChLawPT.fa23_0 _ _)) ro) (w_val (v := .string (str key)) (y_ld (ex (pt b_b 0)) ChLawPT.sc9 (r_b_b.val om pz)) (w_val (v := pt b_b 1) (y_off (y_fa (ex (pt b_b 0)) (ChLawPT.fa23_1 _ _)) ro) (w_val (v := .string (str vi)) (y_ld (ex (pt b_b 1)) ChLawPT.sc9 (r_b_b.val om (ng pz))) (w_val (v := pt b_b 2) (y_off (y_fa (ex (pt b_b 0)) (ChLawPT.fa23_2 _ _)) ro) (w_val (v := .string (str aad)) (y_ld (ex (pt b_b 2)) ChLawPT.sc9 (r_b_b.val om (ng (ng dv)))) (w_call (Tryz.func15) kr rfl (m3 es es es) (chRefWrong_i key vi aad n kind hkd hkn hkl hiv w3) ?_)))))))))))))
 rintro _ w5 ⟨rfl, hb6⟩
 refine ⟨_, rfl, ?_⟩
 replace r_b_b := r_b_b.step hb6
 replace hk := thenB hk hb6
 replace hT := Sha.Tabs.below hT hb6
 refine w_val (y_bin ei Ev.c b_neq) (w_mv eb ?_)
 with_reducible refine w_skip ?_ ?_
 exact wn rfl rfl eb
 with_reducible refine w_skip ?_ ?_
 exact wn rfl rfl eb
 with_reducible refine w_skip ?_ ?_
 exact wn rfl rfl eb
 refine w_val (y_pick_t eb Ev.c) (nt (c_tt eb (sr (w_as Ev.c (nt (wp_ret (then_r (fin_ret1 rfl eb ?_))))))))
 exact ⟨rfl, hk⟩

theorem cbchsPads_a (key vi aad : List (BitVec 8)) (n kind : Nat) (hkd : Sha.Known kind) (hkn : kind = 16 * n) (hkl : key.length = 2 * n) (hiv : vi.length = 16) (ha : 70000 < aad.length) (text : List (BitVec 8)) (ht_ : text.length ≤ 140737488351232) (w0 : World) (hT : Sha.Tabs w0) : Calls Tryz.prog 6 #[.agg (arr 3 (fun j => if j < 1 then .string (str key) else if j < 2 then .string (str vi) else .string (str aad))), .string (str text)] w0 fun e w' => e = .returned (.bool true) ∧ Below w0.heap.size w0 w' := by
 refine enter (n := 96) Tryz.func6 rfl rfl rfl ?_
 have hk : Below w0.heap.size w0 w0 := Below.refl _ _
 refine sr (w_box (m := 3) (F := fun j => if j < 1 then .string (str key) else if j < 2 then .string (str vi) else .string (str aad)) ea rfl ?_)
 intro b_b w1 hbe_b_b r_b_b hb2
 have ge_b_b := gb_ hk.size hbe_b_b
 clear hbe_b_b
 replace hk := thenB hk hb2
 replace hT := Sha.Tabs.below hT hb2
 refine w_as Ev.c (nt (wp_seq (sr (w_call (Tryz.func7) kr rfl m0 (chWakes_c  w1 hT) ?_))))
 rintro _ w3 ⟨rfl, hb4⟩
 refine ⟨_, rfl, ?_⟩
 replace r_b_b := r_b_b.step hb4
 replace hk := thenB hk hb4
 replace hT := Sha.Tabs.below hT hb4
 refine w_val (y_not eb) (nt (c_ff eb (wp_skip (then_n (wp_seq (sr (w_val (v := pt b_b 0) (y_off (y_fa (ex (pt b_b 0)) (ChLawPT.fa23_0 _ _)) ro) (w_val (v := .string (str key)) (y_ld (ex (pt b_b 0)) ChLawPT.sc9 (r_b_b.val om pz)) (w_val (v := pt b_b 1) (y_off (y_fa (ex (pt b_b 0)) (ChLawPT.fa23_1 _ _)) ro) (w_val (v := .string (str vi)) (y_ld (ex (pt b_b 1)) ChLawPT.sc9 (r_b_b.val om (ng pz))) (w_val (v := pt b_b 2) (y_off (y_fa (ex (pt b_b 0)) (ChLawPT.fa23_2 _ _)) ro) (w_val (v := .string (str aad)) (y_ld (ex (pt b_b 2)) ChLawPT.sc9 (r_b_b.val om (ng (ng dv)))) (w_call (Tryz.func15) kr rfl (m3 es es es) (chRefWrong_a key vi aad n kind hkd hkn hkl hiv ha w3) ?_)))))))))))))
 rintro _ w5 ⟨rfl, hb6⟩
 refine ⟨_, rfl, ?_⟩
 replace r_b_b := r_b_b.step hb6
 replace hk := thenB hk hb6
 replace hT := Sha.Tabs.below hT hb6
 refine w_val (y_bin ei Ev.c b_neq) (w_mv eb ?_)
 with_reducible refine w_skip ?_ ?_
 exact wn rfl rfl eb
 with_reducible refine w_skip ?_ ?_
 exact wn rfl rfl eb
 with_reducible refine w_skip ?_ ?_
 exact wn rfl rfl eb
 refine w_val (y_pick_t eb Ev.c) (nt (c_tt eb (sr (w_as Ev.c (nt (wp_ret (then_r (fin_ret1 rfl eb ?_))))))))
 exact ⟨rfl, hk⟩

theorem cbchsPads_l (key vi aad : List (BitVec 8)) (n kind : Nat) (hkd : Sha.Known kind) (hkn : kind = 16 * n) (hkl : key.length = 2 * n) (hiv : vi.length = 16) (ha : aad.length ≤ 70000) (text : List (BitVec 8)) (ht_ : text.length ≤ 140737488351232) (h : 2000 < aad.length ∧ aad.length ≤ 70000 ∨ 2000 < text.length ∧ text.length ≤ 70048) (w0 : World) (hT : Sha.Tabs w0) : Calls Tryz.prog 6 #[.agg (arr 3 (fun j => if j < 1 then .string (str key) else if j < 2 then .string (str vi) else .string (str aad))), .string (str text)] w0 fun e w' => e = .returned (.bool true) ∧ Below w0.heap.size w0 w' := by
 refine enter (n := 96) Tryz.func6 rfl rfl rfl ?_
 have hk : Below w0.heap.size w0 w0 := Below.refl _ _
 refine sr (w_box (m := 3) (F := fun j => if j < 1 then .string (str key) else if j < 2 then .string (str vi) else .string (str aad)) ea rfl ?_)
 intro b_b w1 hbe_b_b r_b_b hb2
 have ge_b_b := gb_ hk.size hbe_b_b
 clear hbe_b_b
 replace hk := thenB hk hb2
 replace hT := Sha.Tabs.below hT hb2
 refine w_as Ev.c (nt (wp_seq (sr (w_call (Tryz.func7) kr rfl m0 (chWakes_c  w1 hT) ?_))))
 rintro _ w3 ⟨rfl, hb4⟩
 refine ⟨_, rfl, ?_⟩
 replace r_b_b := r_b_b.step hb4
 replace hk := thenB hk hb4
 replace hT := Sha.Tabs.below hT hb4
 refine w_val (y_not eb) (nt (c_ff eb (wp_skip (then_n (wp_seq (sr (w_val (v := pt b_b 0) (y_off (y_fa (ex (pt b_b 0)) (ChLawPT.fa23_0 _ _)) ro) (w_val (v := .string (str key)) (y_ld (ex (pt b_b 0)) ChLawPT.sc9 (r_b_b.val om pz)) (w_val (v := pt b_b 1) (y_off (y_fa (ex (pt b_b 0)) (ChLawPT.fa23_1 _ _)) ro) (w_val (v := .string (str vi)) (y_ld (ex (pt b_b 1)) ChLawPT.sc9 (r_b_b.val om (ng pz))) (w_val (v := pt b_b 2) (y_off (y_fa (ex (pt b_b 0)) (ChLawPT.fa23_2 _ _)) ro) (w_val (v := .string (str aad)) (y_ld (ex (pt b_b 2)) ChLawPT.sc9 (r_b_b.val om (ng (ng dv)))) (w_call (Tryz.func15) kr rfl (m3 es es es) (chRefWrong_y key vi aad n kind hkd hkn hkl hiv ha w3) ?_)))))))))))))
 rintro _ w5 ⟨rfl, hb6⟩
 refine ⟨_, rfl, ?_⟩
 replace r_b_b := r_b_b.step hb6
 replace hk := thenB hk hb6
 replace hT := Sha.Tabs.below hT hb6
 refine w_val (y_bin ei Ev.c b_neq) (w_mv eb (w_val_g (v := .agg (arr 3 (fun j => if j < 1 then .string (str key) else if j < 2 then .string (str vi) else .string (str aad)))) (wy rfl rfl eb) (y_lda (ex (pt b_b 0)) ChLawPT.ag23 ChLawPT.sz23 (fun j hj => by rw [Nat.zero_add]; exact (r_b_b.cell om))) (w_val_g (v := .string (str text)) (wy rfl rfl eb) (y_mv es) (w_unguard (wy rfl rfl eb) (w_call (Tryz.func8) kr rfl (m2 ea es) (chLong_t key vi aad text h w5) ?_)))))
 rintro _ w7 ⟨rfl, hb8⟩
 refine ⟨_, rfl, ?_⟩
 replace r_b_b := r_b_b.step hb8
 replace hk := thenB hk hb8
 replace hT := Sha.Tabs.below hT hb8
 refine w_val (y_pick_f eb eb) (nt (c_tt eb (sr (w_as Ev.c (nt (wp_ret (then_r (fin_ret1 rfl eb ?_))))))))
 exact ⟨rfl, hk⟩

theorem cbchsPads_s (key vi aad : List (BitVec 8)) (n kind : Nat) (hkd : Sha.Known kind) (hkn : kind = 16 * n) (hkl : key.length = 2 * n) (hiv : vi.length = 16) (ha : aad.length ≤ 70000) (text : List (BitVec 8)) (ht_ : text.length ≤ 140737488351232) (h : ¬ (2000 < aad.length ∧ aad.length ≤ 70000 ∨ 2000 < text.length ∧ text.length ≤ 70048)) (hs : ¬ (text.length % 16 = 0 ∧ text.length ≤ 70016)) (w0 : World) (hT : Sha.Tabs w0) : Calls Tryz.prog 6 #[.agg (arr 3 (fun j => if j < 1 then .string (str key) else if j < 2 then .string (str vi) else .string (str aad))), .string (str text)] w0 fun e w' => e = .returned (.bool true) ∧ Below w0.heap.size w0 w' := by
 have hkd' : kind = 256 ∨ kind = 384 ∨ kind = 512 := hkd
 have hnc := Ch.n_cases kind n hkd hkn
 have hok := Ch.key_ok kind n key hkd hkn hkl
 refine enter (n := 96) Tryz.func6 rfl rfl rfl ?_
 have hk : Below w0.heap.size w0 w0 := Below.refl _ _
 refine sr (w_box (m := 3) (F := fun j => if j < 1 then .string (str key) else if j < 2 then .string (str vi) else .string (str aad)) ea rfl ?_)
 intro b_b w1 hbe_b_b r_b_b hb2
 have ge_b_b := gb_ hk.size hbe_b_b
 clear hbe_b_b
 replace hk := thenB hk hb2
 replace hT := Sha.Tabs.below hT hb2
 refine w_as Ev.c (nt (wp_seq (sr (w_call (Tryz.func7) kr rfl m0 (chWakes_c  w1 hT) ?_))))
 rintro _ w3 ⟨rfl, hb4⟩
 refine ⟨_, rfl, ?_⟩
 replace r_b_b := r_b_b.step hb4
 replace hk := thenB hk hb4
 replace hT := Sha.Tabs.below hT hb4
 refine w_val (y_not eb) (nt (c_ff eb (wp_skip (then_n (wp_seq (sr (w_val (v := pt b_b 0) (y_off (y_fa (ex (pt b_b 0)) (ChLawPT.fa23_0 _ _)) ro) (w_val (v := .string (str key)) (y_ld (ex (pt b_b 0)) ChLawPT.sc9 (r_b_b.val om pz)) (w_val (v := pt b_b 1) (y_off (y_fa (ex (pt b_b 0)) (ChLawPT.fa23_1 _ _)) ro) (w_val (v := .string (str vi)) (y_ld (ex (pt b_b 1)) ChLawPT.sc9 (r_b_b.val om (ng pz))) (w_val (v := pt b_b 2) (y_off (y_fa (ex (pt b_b 0)) (ChLawPT.fa23_2 _ _)) ro) (w_val (v := .string (str aad)) (y_ld (ex (pt b_b 2)) ChLawPT.sc9 (r_b_b.val om (ng (ng dv)))) (w_call (Tryz.func15) kr rfl (m3 es es es) (chRefWrong_y key vi aad n kind hkd hkn hkl hiv ha w3) ?_)))))))))))))
 rintro _ w5 ⟨rfl, hb6⟩
 refine ⟨_, rfl, ?_⟩
 replace r_b_b := r_b_b.step hb6
 replace hk := thenB hk hb6
 replace hT := Sha.Tabs.below hT hb6
 refine w_val (y_bin ei Ev.c b_neq) (w_mv eb (w_val_g (v := .agg (arr 3 (fun j => if j < 1 then .string (str key) else if j < 2 then .string (str vi) else .string (str aad)))) (wy rfl rfl eb) (y_lda (ex (pt b_b 0)) ChLawPT.ag23 ChLawPT.sz23 (fun j hj => by rw [Nat.zero_add]; exact (r_b_b.cell om))) (w_val_g (v := .string (str text)) (wy rfl rfl eb) (y_mv es) (w_unguard (wy rfl rfl eb) (w_call (Tryz.func8) kr rfl (m2 ea es) (chLong_f key vi aad text h w5) ?_)))))
 rintro _ w7 ⟨rfl, hb8⟩
 refine ⟨_, rfl, ?_⟩
 replace r_b_b := r_b_b.step hb8
 replace hk := thenB hk hb8
 replace hT := Sha.Tabs.below hT hb8
 refine w_val (y_pick_f eb eb) (nt (c_ff eb (wp_skip (then_n (sr (w_val (v := pt b_b 0) (y_off (y_fa (ex (pt b_b 0)) (ChLawPT.fa23_0 _ _)) ro) (w_val (v := .string (str key)) (y_ld (ex (pt b_b 0)) ChLawPT.sc9 (r_b_b.val om pz)) (w_val (y_len es Tryz.underlying9) (w_val (y_bin ei Ev.c (b_quo om)) (w_as ei (nt (wp_seq (region_dc (Nat.testBit 0) 13 ChLawPT.mixed rfl ?_)))))))))))))
 intro w9 hb10
 replace r_b_b := r_b_b.step hb10
 replace hk := thenB hk hb10
 replace hT := Sha.Tabs.below hT hb10
 have hS : Cls w9 w9 := Below.refl _ _
 refine dp (v := pt b_b 0) 0 rfl (fun w' => y_off (y_fa (ex (pt b_b 0)) (ChLawPT.fa23_0 _ _)) ro) (d_take (v := .string (str key)) 1 (Nat.testBit 8074) rfl kr kr kr kr kr kr (fun _ _ _ h => h) hS (fun w' hw' => y_ld (ex (pt b_b 0)) ChLawPT.sc9 (cls_cell (r_b_b.val om pz) r_b_b.lt w' hw')) (dp 2 rfl (fun w' => y_mv (ex (.int .i64 ((n : Nat) : Int)) (Eq.trans (b := .int .i64 (((key.length : Nat) : Int) / 2)) rfl (by congr 1; omega)))) (dp (v := .string (str (key.drop n))) 3 rfl (fun w' => y_slf (ex (.string (str key))) (evo.s ei) Tryz.underlying9 (bnd_l (l := n) om om)) (dp (v := pt b_b 1) 4 rfl (fun w' => y_off (y_fa (ex (pt b_b 0)) (ChLawPT.fa23_1 _ _)) ro) (d_take (v := .string (str vi)) 5 (Nat.testBit 8096) rfl kr kr kr kr kr kr (fun _ _ _ h => h) hS (fun w' hw' => y_ld (ex (pt b_b 1)) ChLawPT.sc9 (cls_cell (r_b_b.val om (ng pz)) r_b_b.lt w' hw')) (dp 6 rfl (fun w' => y_mv es) (d_one 7 kr rfl (w_call (Tryz.func16) kr rfl (m3 es es es) (refChain_s (key.drop n) vi hok hiv text hs w9) ?_))))))))
 rintro _ w11 ⟨rfl, hb12⟩
 refine ⟨_, rfl, ?_⟩
 replace r_b_b := r_b_b.step hb12
 replace hk := thenB hk hb12
 replace hT := Sha.Tabs.below hT hb12
 replace hS := thenB hS hb12
 refine wpList_nil ?_
 refine then_n ⟨fun _ h => thenB h (by assumption), ?_⟩
 refine dp 8 rfl (fun w' => y_mv (ex (.tuple #[.string (str ([] : List (BitVec 8))), .int .i64 6]))) (dp (v := .string (str ([] : List (BitVec 8)))) 9 rfl (fun w' => y_ext (v := .string (str ([] : List (BitVec 8)))) (ex (.tuple #[.string (str ([] : List (BitVec 8))), .int .i64 6])) rfl) (dp (v := .int .i64 6) 10 rfl (fun w' => y_ext (v := .int .i64 6) (ex (.tuple #[.string (str ([] : List (BitVec 8))), .int .i64 6])) rfl) (dp 11 rfl (fun w' => y_as es) (dp 12 rfl (fun w' => y_as ei) (d_done kr ?_)))))
 clear hS
 refine then_n (wp_seq (sr (w_mv ei (w_val (y_bin ei Ev.c b_neq) (w_mv eb ?_)))))
 with_reducible refine w_skip ?_ ?_
 exact wn rfl rfl eb
 with_reducible refine w_skip ?_ ?_
 exact wn rfl rfl eb
 refine w_val (y_pick_t eb Ev.c) (nt (c_tt eb (sr (w_as Ev.c (nt (wp_ret (then_r (fin_ret1 rfl eb ?_))))))))
 exact ⟨rfl, hk⟩

theorem cbchsPads_0 (key vi aad : List (BitVec 8)) (n kind : Nat) (hkd : Sha.Known kind) (hkn : kind = 16 * n) (hkl : key.length = 2 * n) (hiv : vi.length = 16) (ha : aad.length ≤ 70000) (text : List (BitVec 8)) (ht_ : text.length ≤ 140737488351232) (h : ¬ (2000 < aad.length ∧ aad.length ≤ 70000 ∨ 2000 < text.length ∧ text.length ≤ 70048)) (h0 : text.length = 0) (w0 : World) (hT : Sha.Tabs w0) : Calls Tryz.prog 6 #[.agg (arr 3 (fun j => if j < 1 then .string (str key) else if j < 2 then .string (str vi) else .string (str aad))), .string (str text)] w0 fun e w' => e = .returned (.bool true) ∧ Below w0.heap.size w0 w' := by
 have hkd' : kind = 256 ∨ kind = 384 ∨ kind = 512 := hkd
 have hnc := Ch.n_cases kind n hkd hkn
 have hok := Ch.key_ok kind n key hkd hkn hkl
 refine enter (n := 96) Tryz.func6 rfl rfl rfl ?_
 have hk : Below w0.heap.size w0 w0 := Below.refl _ _
 refine sr (w_box (m := 3) (F := fun j => if j < 1 then .string (str key) else if j < 2 then .string (str vi) else .string (str aad)) ea rfl ?_)
 intro b_b w1 hbe_b_b r_b_b hb2
 have ge_b_b := gb_ hk.size hbe_b_b
 clear hbe_b_b
 replace hk := thenB hk hb2
 replace hT := Sha.Tabs.below hT hb2
 refine w_as Ev.c (nt (wp_seq (sr (w_call (Tryz.func7) kr rfl m0 (chWakes_c  w1 hT) ?_))))
 rintro _ w3 ⟨rfl, hb4⟩
 refine ⟨_, rfl, ?_⟩
 replace r_b_b := r_b_b.step hb4
 replace hk := thenB hk hb4
 replace hT := Sha.Tabs.below hT hb4
 refine w_val (y_not eb) (nt (c_ff eb (wp_skip (then_n (wp_seq (sr (w_val (v := pt b_b 0) (y_off (y_fa (ex (pt b_b 0)) (ChLawPT.fa23_0 _ _)) ro) (w_val (v := .string (str key)) (y_ld (ex (pt b_b 0)) ChLawPT.sc9 (r_b_b.val om pz)) (w_val (v := pt b_b 1) (y_off (y_fa (ex (pt b_b 0)) (ChLawPT.fa23_1 _ _)) ro) (w_val (v := .string (str vi)) (y_ld (ex (pt b_b 1)) ChLawPT.sc9 (r_b_b.val om (ng pz))) (w_val (v := pt b_b 2) (y_off (y_fa (ex (pt b_b 0)) (ChLawPT.fa23_2 _ _)) ro) (w_val (v := .string (str aad)) (y_ld (ex (pt b_b 2)) ChLawPT.sc9 (r_b_b.val om (ng (ng dv)))) (w_call (Tryz.func15) kr rfl (m3 es es es) (chRefWrong_y key vi aad n kind hkd hkn hkl hiv ha w3) ?_)))))))))))))
 rintro _ w5 ⟨rfl, hb6⟩
 refine ⟨_, rfl, ?_⟩
 replace r_b_b := r_b_b.step hb6
 replace hk := thenB hk hb6
 replace hT := Sha.Tabs.below hT hb6
 refine w_val (y_bin ei Ev.c b_neq) (w_mv eb (w_val_g (v := .agg (arr 3 (fun j => if j < 1 then .string (str key) else if j < 2 then .string (str vi) else .string (str aad)))) (wy rfl rfl eb) (y_lda (ex (pt b_b 0)) ChLawPT.ag23 ChLawPT.sz23 (fun j hj => by rw [Nat.zero_add]; exact (r_b_b.cell om))) (w_val_g (v := .string (str text)) (wy rfl rfl eb) (y_mv es) (w_unguard (wy rfl rfl eb) (w_call (Tryz.func8) kr rfl (m2 ea es) (chLong_f key vi aad text h w5) ?_)))))
 rintro _ w7 ⟨rfl, hb8⟩
 refine ⟨_, rfl, ?_⟩
 replace r_b_b := r_b_b.step hb8
 replace hk := thenB hk hb8
 replace hT := Sha.Tabs.below hT hb8
 refine w_val (y_pick_f eb eb) (nt (c_ff eb (wp_skip (then_n (sr (w_val (v := pt b_b 0) (y_off (y_fa (ex (pt b_b 0)) (ChLawPT.fa23_0 _ _)) ro) (w_val (v := .string (str key)) (y_ld (ex (pt b_b 0)) ChLawPT.sc9 (r_b_b.val om pz)) (w_val (y_len es Tryz.underlying9) (w_val (y_bin ei Ev.c (b_quo om)) (w_as ei (nt (wp_seq (region_dc (Nat.testBit 0) 13 ChLawPT.mixed rfl ?_)))))))))))))
 intro w9 hb10
 replace r_b_b := r_b_b.step hb10
 replace hk := thenB hk hb10
 replace hT := Sha.Tabs.below hT hb10
 have hS : Cls w9 w9 := Below.refl _ _
 refine dp (v := pt b_b 0) 0 rfl (fun w' => y_off (y_fa (ex (pt b_b 0)) (ChLawPT.fa23_0 _ _)) ro) (d_take (v := .string (str key)) 1 (Nat.testBit 8074) rfl kr kr kr kr kr kr (fun _ _ _ h => h) hS (fun w' hw' => y_ld (ex (pt b_b 0)) ChLawPT.sc9 (cls_cell (r_b_b.val om pz) r_b_b.lt w' hw')) (dp 2 rfl (fun w' => y_mv (ex (.int .i64 ((n : Nat) : Int)) (Eq.trans (b := .int .i64 (((key.length : Nat) : Int) / 2)) rfl (by congr 1; omega)))) (dp (v := .string (str (key.drop n))) 3 rfl (fun w' => y_slf (ex (.string (str key))) (evo.s ei) Tryz.underlying9 (bnd_l (l := n) om om)) (dp (v := pt b_b 1) 4 rfl (fun w' => y_off (y_fa (ex (pt b_b 0)) (ChLawPT.fa23_1 _ _)) ro) (d_take (v := .string (str vi)) 5 (Nat.testBit 8096) rfl kr kr kr kr kr kr (fun _ _ _ h => h) hS (fun w' hw' => y_ld (ex (pt b_b 1)) ChLawPT.sc9 (cls_cell (r_b_b.val om (ng pz)) r_b_b.lt w' hw')) (dp 6 rfl (fun w' => y_mv es) (d_one 7 kr rfl (w_call (Tryz.func16) kr rfl (m3 es es es) (refChain_0 (key.drop n) vi hok hiv text h0 w9) ?_))))))))
 rintro _ w11 ⟨rfl, hb12⟩
 refine ⟨_, rfl, ?_⟩
 replace r_b_b := r_b_b.step hb12
 replace hk := thenB hk hb12
 replace hT := Sha.Tabs.below hT hb12
 replace hS := thenB hS hb12
 refine wpList_nil ?_
 refine then_n ⟨fun _ h => thenB h (by assumption), ?_⟩
 refine dp 8 rfl (fun w' => y_mv (ex (.tuple #[.string (str (Cb.chain (key.drop n) vi text)), .int .i64 0]))) (dp (v := .string (str (Cb.chain (key.drop n) vi text))) 9 rfl (fun w' => y_ext (v := .string (str (Cb.chain (key.drop n) vi text))) (ex (.tuple #[.string (str (Cb.chain (key.drop n) vi text)), .int .i64 0])) rfl) (dp (v := .int .i64 0) 10 rfl (fun w' => y_ext (v := .int .i64 0) (ex (.tuple #[.string (str (Cb.chain (key.drop n) vi text)), .int .i64 0])) rfl) (dp 11 rfl (fun w' => y_as es) (dp 12 rfl (fun w' => y_as ei) (d_done kr ?_)))))
 clear hS
 refine then_n (wp_seq (sr (w_mv ei (w_val (y_bin ei Ev.c b_neq) (w_mv eb (w_val_g (v := .string (str (Cb.chain (key.drop n) vi text))) (wy rfl rfl eb) (y_mv es) (w_val_g (wy rfl rfl eb) (y_bin es (evc (.string (str ([] : List (BitVec 8))))) b_eqs) (w_val (y_pick_f eb eb) (nt ?_)))))))))
 have hc13 : (Cb.chain (key.drop n) vi text) = ([] : List (BitVec 8)) := by exact List.eq_nil_of_length_eq_zero (by rw [Cb.chain_len]; exact h0)
 refine c_t (p := (Cb.chain (key.drop n) vi text) = ([] : List (BitVec 8))) eb hc13 (sr (w_as Ev.c (nt (wp_ret (then_r (fin_ret1 rfl eb ?_))))))
 exact ⟨rfl, hk⟩

theorem cbchsPads_p (key vi aad : List (BitVec 8)) (n kind : Nat) (hkd : Sha.Known kind) (hkn : kind = 16 * n) (hkl : key.length = 2 * n) (hiv : vi.length = 16) (ha : aad.length ≤ 70000) (text : List (BitVec 8)) (ht_ : text.length ≤ 140737488351232) (h : ¬ (2000 < aad.length ∧ aad.length ≤ 70000 ∨ 2000 < text.length ∧ text.length ≤ 70048)) (ht : text.length % 16 = 0) (hl : text.length ≤ 70016) (h0 : 16 ≤ text.length) (hp : Cb.Padded text 16) (w0 : World) (hT : Sha.Tabs w0) : Calls Tryz.prog 6 #[.agg (arr 3 (fun j => if j < 1 then .string (str key) else if j < 2 then .string (str vi) else .string (str aad))), .string (str text)] w0 fun e w' => e = .returned (.bool true) ∧ Below w0.heap.size w0 w' := by
 have hkd' : kind = 256 ∨ kind = 384 ∨ kind = 512 := hkd
 have hnc := Ch.n_cases kind n hkd hkn
 have hok := Ch.key_ok kind n key hkd hkn hkl
 have hT0 := hT.lt
 refine enter (n := 96) Tryz.func6 rfl rfl rfl ?_
 have hk : Below w0.heap.size w0 w0 := Below.refl _ _
 refine sr (w_box (m := 3) (F := fun j => if j < 1 then .string (str key) else if j < 2 then .string (str vi) else .string (str aad)) ea rfl ?_)
 intro b_b w1 hbe_b_b r_b_b hb2
 have ge_b_b := gb_ hk.size hbe_b_b
 clear hbe_b_b
 replace hk := thenB hk hb2
 replace hT := Sha.Tabs.below hT hb2
 refine w_as Ev.c (nt (wp_seq (sr (w_call (Tryz.func7) kr rfl m0 (chWakes_c  w1 hT) ?_))))
 rintro _ w3 ⟨rfl, hb4⟩
 refine ⟨_, rfl, ?_⟩
 replace r_b_b := r_b_b.step hb4
 replace hk := thenB hk hb4
 replace hT := Sha.Tabs.below hT hb4
 refine w_val (y_not eb) (nt (c_ff eb (wp_skip (then_n (wp_seq (sr (w_val (v := pt b_b 0) (y_off (y_fa (ex (pt b_b 0)) (ChLawPT.fa23_0 _ _)) ro) (w_val (v := .string (str key)) (y_ld (ex (pt b_b 0)) ChLawPT.sc9 (r_b_b.val om pz)) (w_val (v := pt b_b 1) (y_off (y_fa (ex (pt b_b 0)) (ChLawPT.fa23_1 _ _)) ro) (w_val (v := .string (str vi)) (y_ld (ex (pt b_b 1)) ChLawPT.sc9 (r_b_b.val om (ng pz))) (w_val (v := pt b_b 2) (y_off (y_fa (ex (pt b_b 0)) (ChLawPT.fa23_2 _ _)) ro) (w_val (v := .string (str aad)) (y_ld (ex (pt b_b 2)) ChLawPT.sc9 (r_b_b.val om (ng (ng dv)))) (w_call (Tryz.func15) kr rfl (m3 es es es) (chRefWrong_y key vi aad n kind hkd hkn hkl hiv ha w3) ?_)))))))))))))
 rintro _ w5 ⟨rfl, hb6⟩
 refine ⟨_, rfl, ?_⟩
 replace r_b_b := r_b_b.step hb6
 replace hk := thenB hk hb6
 replace hT := Sha.Tabs.below hT hb6
 refine w_val (y_bin ei Ev.c b_neq) (w_mv eb (w_val_g (v := .agg (arr 3 (fun j => if j < 1 then .string (str key) else if j < 2 then .string (str vi) else .string (str aad)))) (wy rfl rfl eb) (y_lda (ex (pt b_b 0)) ChLawPT.ag23 ChLawPT.sz23 (fun j hj => by rw [Nat.zero_add]; exact (r_b_b.cell om))) (w_val_g (v := .string (str text)) (wy rfl rfl eb) (y_mv es) (w_unguard (wy rfl rfl eb) (w_call (Tryz.func8) kr rfl (m2 ea es) (chLong_f key vi aad text h w5) ?_)))))
 rintro _ w7 ⟨rfl, hb8⟩
 refine ⟨_, rfl, ?_⟩
 replace r_b_b := r_b_b.step hb8
 replace hk := thenB hk hb8
 replace hT := Sha.Tabs.below hT hb8
 refine w_val (y_pick_f eb eb) (nt (c_ff eb (wp_skip (then_n (sr (w_val (v := pt b_b 0) (y_off (y_fa (ex (pt b_b 0)) (ChLawPT.fa23_0 _ _)) ro) (w_val (v := .string (str key)) (y_ld (ex (pt b_b 0)) ChLawPT.sc9 (r_b_b.val om pz)) (w_val (y_len es Tryz.underlying9) (w_val (y_bin ei Ev.c (b_quo om)) (w_as ei (nt (wp_seq (region_dc (Nat.testBit 0) 13 ChLawPT.mixed rfl ?_)))))))))))))
 intro w9 hb10
 replace r_b_b := r_b_b.step hb10
 replace hk := thenB hk hb10
 replace hT := Sha.Tabs.below hT hb10
 have hS : Cls w9 w9 := Below.refl _ _
 refine dp (v := pt b_b 0) 0 rfl (fun w' => y_off (y_fa (ex (pt b_b 0)) (ChLawPT.fa23_0 _ _)) ro) (d_take (v := .string (str key)) 1 (Nat.testBit 8074) rfl kr kr kr kr kr kr (fun _ _ _ h => h) hS (fun w' hw' => y_ld (ex (pt b_b 0)) ChLawPT.sc9 (cls_cell (r_b_b.val om pz) r_b_b.lt w' hw')) (dp 2 rfl (fun w' => y_mv (ex (.int .i64 ((n : Nat) : Int)) (Eq.trans (b := .int .i64 (((key.length : Nat) : Int) / 2)) rfl (by congr 1; omega)))) (dp (v := .string (str (key.drop n))) 3 rfl (fun w' => y_slf (ex (.string (str key))) (evo.s ei) Tryz.underlying9 (bnd_l (l := n) om om)) (dp (v := pt b_b 1) 4 rfl (fun w' => y_off (y_fa (ex (pt b_b 0)) (ChLawPT.fa23_1 _ _)) ro) (d_take (v := .string (str vi)) 5 (Nat.testBit 8096) rfl kr kr kr kr kr kr (fun _ _ _ h => h) hS (fun w' hw' => y_ld (ex (pt b_b 1)) ChLawPT.sc9 (cls_cell (r_b_b.val om (ng pz)) r_b_b.lt w' hw')) (dp 6 rfl (fun w' => y_mv es) (d_one 7 kr rfl (w_call (Tryz.func16) kr rfl (m3 es es es) (refChain_y (key.drop n) vi hok hiv text ht om h0 w9) ?_))))))))
 rintro _ w11 ⟨rfl, hb12⟩
 refine ⟨_, rfl, ?_⟩
 replace r_b_b := r_b_b.step hb12
 replace hk := thenB hk hb12
 replace hT := Sha.Tabs.below hT hb12
 replace hS := thenB hS hb12
 refine wpList_nil ?_
 refine then_n ⟨fun _ h => thenB h (by assumption), ?_⟩
 refine dp 8 rfl (fun w' => y_mv (ex (.tuple #[.string (str (Cb.chain (key.drop n) vi text)), .int .i64 0]))) (dp (v := .string (str (Cb.chain (key.drop n) vi text))) 9 rfl (fun w' => y_ext (v := .string (str (Cb.chain (key.drop n) vi text))) (ex (.tuple #[.string (str (Cb.chain (key.drop n) vi text)), .int .i64 0])) rfl) (dp (v := .int .i64 0) 10 rfl (fun w' => y_ext (v := .int .i64 0) (ex (.tuple #[.string (str (Cb.chain (key.drop n) vi text)), .int .i64 0])) rfl) (dp 11 rfl (fun w' => y_as es) (dp 12 rfl (fun w' => y_as ei) (d_done kr ?_)))))
 clear hS
 refine then_n (wp_seq (sr (w_mv ei (w_val (y_bin ei Ev.c b_neq) (w_mv eb (w_val_g (v := .string (str (Cb.chain (key.drop n) vi text))) (wy rfl rfl eb) (y_mv es) (w_val_g (wy rfl rfl eb) (y_bin es (evc (.string (str ([] : List (BitVec 8))))) b_eqs) (w_val (y_pick_f eb eb) (nt ?_)))))))))
 have hc13 : ¬ ((Cb.chain (key.drop n) vi text) = ([] : List (BitVec 8))) := by exact fun e => by have e2 := congrArg List.length e; rw [Cb.chain_len] at e2; exact absurd e2 (by rw [List.length_nil]; omega)
 refine c_f (p := (Cb.chain (key.drop n) vi text) = ([] : List (BitVec 8))) eb hc13 (wp_skip (then_n (sr (w_val (v := pt b_b 0) (y_off (y_fa (ex (pt b_b 0)) (ChLawPT.fa23_0 _ _)) ro) (w_val (v := .string (str key)) (y_ld (ex (pt b_b 0)) ChLawPT.sc9 (r_b_b.val om pz)) (w_val (v := pt b_b 1) (y_off (y_fa (ex (pt b_b 0)) (ChLawPT.fa23_1 _ _)) ro) (w_val (v := .string (str vi)) (y_ld (ex (pt b_b 1)) ChLawPT.sc9 (r_b_b.val om (ng pz))) (w_val (v := pt b_b 2) (y_off (y_fa (ex (pt b_b 0)) (ChLawPT.fa23_2 _ _)) ro) (w_val (v := .string (str aad)) (y_ld (ex (pt b_b 2)) ChLawPT.sc9 (r_b_b.val om (ng (ng dv)))) (w_mv es (w_call (Tryz.func13) kr rfl (m4 es es es es) (chTag_y key vi aad n kind hkd hkn hkl hiv ha (Cb.chain (key.drop n) vi text) (by rw [Cb.chain_len]; omega) (by rw [Cb.chain_len]; omega) w11 hT) ?_)))))))))))
 rintro _ w14 ⟨rfl, hb15⟩
 refine ⟨_, rfl, ?_⟩
 replace r_b_b := r_b_b.step hb15
 replace hk := thenB hk hb15
 replace hT := Sha.Tabs.below hT hb15
 refine w_mv (ex (.tuple #[.string (str (Ch.tg kind n key vi aad (Cb.chain (key.drop n) vi text))), .int .i64 0])) (w_val ye (w_val ye (w_as es (w_as ei (nt (sr (w_val (v := pt b_b 0) (y_off (y_fa (ex (pt b_b 0)) (ChLawPT.fa23_0 _ _)) ro) (w_val (v := .string (str key)) (y_ld (ex (pt b_b 0)) ChLawPT.sc9 (r_b_b.val om pz)) (w_val (v := pt b_b 1) (y_off (y_fa (ex (pt b_b 0)) (ChLawPT.fa23_1 _ _)) ro) (w_val (v := .string (str vi)) (y_ld (ex (pt b_b 1)) ChLawPT.sc9 (r_b_b.val om (ng pz))) (w_val (v := pt b_b 2) (y_off (y_fa (ex (pt b_b 0)) (ChLawPT.fa23_2 _ _)) ro) (w_val (v := .string (str aad)) (y_ld (ex (pt b_b 2)) ChLawPT.sc9 (r_b_b.val om (ng (ng dv)))) (w_mv es (w_mv es (w_val (y_bin es es (b_cat (by rw [Cb.chain_len, Ch.tg_len kind n key vi aad _ hkd hkn]; omega))) (w_call (Tryz.func11) kr rfl (m4 es es es es) (chPadsOpen_p key vi aad n kind hkd hkn hkl hiv ha text ht om h0 hp w14 hT) ?_))))))))))))))))
 rintro _ w16 ⟨rfl, hb17⟩
 refine ⟨_, rfl, ?_⟩
 replace r_b_b := r_b_b.step hb17
 replace hk := thenB hk hb17
 replace hT := Sha.Tabs.below hT hb17
 refine w_mv (ex (.tuple #[.string (str (text.take (text.length - Cb.last text))), .int .i64 0])) (w_val ye (w_val ye (w_as es (w_as ei (nt (sr (w_mv es (w_call (Tryz.func17) kr rfl (m2 es Ev.c) (refUnpad_y text 16 (by decide) (by decide) om om ht hp w16) ?_))))))))
 rintro _ w18 ⟨rfl, hb19⟩
 refine ⟨_, rfl, ?_⟩
 replace r_b_b := r_b_b.step hb19
 replace hk := thenB hk hb19
 replace hT := Sha.Tabs.below hT hb19
 refine w_mv (ex (.tuple #[.string (str (text.take (text.length - Cb.last text))), .int .i64 0])) (w_val ye (w_val ye (w_as es (w_as ei (nt (wp_seq (sr (w_mv ei (w_val (y_bin ei Ev.c b_neq) (nt (c_ff eb (wp_skip (then_n (wp_seq (sr (w_mv ei (w_val (y_bin ei Ev.c b_neq) (nt (c_ff eb (wp_skip (then_n (sr (w_mv ei (w_val (y_bin ei Ev.c b_eql) (w_mv eb (w_val_g (v := .string (str (text.take (text.length - Cb.last text)))) (wy rfl rfl eb) (y_mv es) (w_val_g (v := .string (str (text.take (text.length - Cb.last text)))) (wy rfl rfl eb) (y_mv es) (w_val_g (wy rfl rfl eb) (y_bin es es b_eqs_same) (w_val (y_pick_t eb eb) (w_as eb (nt (wp_ret (fin_ret1 rfl eb ?_)))))))))))))))))))))))))))))))))
 exact ⟨rfl, hk⟩

theorem cbchsPads_q (key vi aad : List (BitVec 8)) (n kind : Nat) (hkd : Sha.Known kind) (hkn : kind = 16 * n) (hkl : key.length = 2 * n) (hiv : vi.length = 16) (ha : aad.length ≤ 70000) (text : List (BitVec 8)) (ht_ : text.length ≤ 140737488351232) (h : ¬ (2000 < aad.length ∧ aad.length ≤ 70000 ∨ 2000 < text.length ∧ text.length ≤ 70048)) (ht : text.length % 16 = 0) (hl : text.length ≤ 70016) (h0 : 16 ≤ text.length) (hp : ¬ Cb.Padded text 16) (w0 : World) (hT : Sha.Tabs w0) : Calls Tryz.prog 6 #[.agg (arr 3 (fun j => if j < 1 then .string (str key) else if j < 2 then .string (str vi) else .string (str aad))), .string (str text)] w0 fun e w' => e = .returned (.bool true) ∧ Below w0.heap.size w0 w' := by
 have hkd' : kind = 256 ∨ kind = 384 ∨ kind = 512 := hkd
 have hnc := Ch.n_cases kind n hkd hkn
 have hok := Ch.key_ok kind n key hkd hkn hkl
 have hT0 := hT.lt
 refine enter (n := 96) Tryz.func6 rfl rfl rfl ?_
 have hk : Below w0.heap.size w0 w0 := Below.refl _ _
 refine sr (w_box (m := 3) (F := fun j => if j < 1 then .string (str key) else if j < 2 then .string (str vi) else .string (str aad)) ea rfl ?_)
 intro b_b w1 hbe_b_b r_b_b hb2
 have ge_b_b := gb_ hk.size hbe_b_b
 clear hbe_b_b
 replace hk := thenB hk hb2
 replace hT := Sha.Tabs.below hT hb2
 refine w_as Ev.c (nt (wp_seq (sr (w_call (Tryz.func7) kr rfl m0 (chWakes_c  w1 hT) ?_))))
 rintro _ w3 ⟨rfl, hb4⟩
 refine ⟨_, rfl, ?_⟩
 replace r_b_b := r_b_b.step hb4
 replace hk := thenB hk hb4
 replace hT := Sha.Tabs.below hT hb4
 refine w_val (y_not eb) (nt (c_ff eb (wp_skip (then_n (wp_seq (sr (w_val (v := pt b_b 0) (y_off (y_fa (ex (pt b_b 0)) (ChLawPT.fa23_0 _ _)) ro) (w_val (v := .string (str key)) (y_ld (ex (pt b_b 0)) ChLawPT.sc9 (r_b_b.val om pz)) (w_val (v := pt b_b 1) (y_off (y_fa (ex (pt b_b 0)) (ChLawPT.fa23_1 _ _)) ro) (w_val (v := .string (str vi)) (y_ld (ex (pt b_b 1)) ChLawPT.sc9 (r_b_b.val om (ng pz))) (w_val (v := pt b_b 2) (y_off (y_fa (ex (pt b_b 0)) (ChLawPT.fa23_2 _ _)) ro) (w_val (v := .string (str aad)) (y_ld (ex (pt b_b 2)) ChLawPT.sc9 (r_b_b.val om (ng (ng dv)))) (w_call (Tryz.func15) kr rfl (m3 es es es) (chRefWrong_y key vi aad n kind hkd hkn hkl hiv ha w3) ?_)))))))))))))
 rintro _ w5 ⟨rfl, hb6⟩
 refine ⟨_, rfl, ?_⟩
 replace r_b_b := r_b_b.step hb6
 replace hk := thenB hk hb6
 replace hT := Sha.Tabs.below hT hb6
 refine w_val (y_bin ei Ev.c b_neq) (w_mv eb (w_val_g (v := .agg (arr 3 (fun j => if j < 1 then .string (str key) else if j < 2 then .string (str vi) else .string (str aad)))) (wy rfl rfl eb) (y_lda (ex (pt b_b 0)) ChLawPT.ag23 ChLawPT.sz23 (fun j hj => by rw [Nat.zero_add]; exact (r_b_b.cell om))) (w_val_g (v := .string (str text)) (wy rfl rfl eb) (y_mv es) (w_unguard (wy rfl rfl eb) (w_call (Tryz.func8) kr rfl (m2 ea es) (chLong_f key vi aad text h w5) ?_)))))
 rintro _ w7 ⟨rfl, hb8⟩
 refine ⟨_, rfl, ?_⟩
 replace r_b_b := r_b_b.step hb8
 replace hk := thenB hk hb8
 replace hT := Sha.Tabs.below hT hb8
 refine w_val (y_pick_f eb eb) (nt (c_ff eb (wp_skip (then_n (sr (w_val (v := pt b_b 0) (y_off (y_fa (ex (pt b_b 0)) (ChLawPT.fa23_0 _ _)) ro) (w_val (v := .string (str key)) (y_ld (ex (pt b_b 0)) ChLawPT.sc9 (r_b_b.val om pz)) (w_val (y_len es Tryz.underlying9) (w_val (y_bin ei Ev.c (b_quo om)) (w_as ei (nt (wp_seq (region_dc (Nat.testBit 0) 13 ChLawPT.mixed rfl ?_)))))))))))))
 intro w9 hb10
 replace r_b_b := r_b_b.step hb10
 replace hk := thenB hk hb10
 replace hT := Sha.Tabs.below hT hb10
 have hS : Cls w9 w9 := Below.refl _ _
 refine dp (v := pt b_b 0) 0 rfl (fun w' => y_off (y_fa (ex (pt b_b 0)) (ChLawPT.fa23_0 _ _)) ro) (d_take (v := .string (str key)) 1 (Nat.testBit 8074) rfl kr kr kr kr kr kr (fun _ _ _ h => h) hS (fun w' hw' => y_ld (ex (pt b_b 0)) ChLawPT.sc9 (cls_cell (r_b_b.val om pz) r_b_b.lt w' hw')) (dp 2 rfl (fun w' => y_mv (ex (.int .i64 ((n : Nat) : Int)) (Eq.trans (b := .int .i64 (((key.length : Nat) : Int) / 2)) rfl (by congr 1; omega)))) (dp (v := .string (str (key.drop n))) 3 rfl (fun w' => y_slf (ex (.string (str key))) (evo.s ei) Tryz.underlying9 (bnd_l (l := n) om om)) (dp (v := pt b_b 1) 4 rfl (fun w' => y_off (y_fa (ex (pt b_b 0)) (ChLawPT.fa23_1 _ _)) ro) (d_take (v := .string (str vi)) 5 (Nat.testBit 8096) rfl kr kr kr kr kr kr (fun _ _ _ h => h) hS (fun w' hw' => y_ld (ex (pt b_b 1)) ChLawPT.sc9 (cls_cell (r_b_b.val om (ng pz)) r_b_b.lt w' hw')) (dp 6 rfl (fun w' => y_mv es) (d_one 7 kr rfl (w_call (Tryz.func16) kr rfl (m3 es es es) (refChain_y (key.drop n) vi hok hiv text ht om h0 w9) ?_))))))))
 rintro _ w11 ⟨rfl, hb12⟩
 refine ⟨_, rfl, ?_⟩
 replace r_b_b := r_b_b.step hb12
 replace hk := thenB hk hb12
 replace hT := Sha.Tabs.below hT hb12
 replace hS := thenB hS hb12
 refine wpList_nil ?_
 refine then_n ⟨fun _ h => thenB h (by assumption), ?_⟩
 refine dp 8 rfl (fun w' => y_mv (ex (.tuple #[.string (str (Cb.chain (key.drop n) vi text)), .int .i64 0]))) (dp (v := .string (str (Cb.chain (key.drop n) vi text))) 9 rfl (fun w' => y_ext (v := .string (str (Cb.chain (key.drop n) vi text))) (ex (.tuple #[.string (str (Cb.chain (key.drop n) vi text)), .int .i64 0])) rfl) (dp (v := .int .i64 0) 10 rfl (fun w' => y_ext (v := .int .i64 0) (ex (.tuple #[.string (str (Cb.chain (key.drop n) vi text)), .int .i64 0])) rfl) (dp 11 rfl (fun w' => y_as es) (dp 12 rfl (fun w' => y_as ei) (d_done kr ?_)))))
 clear hS
 refine then_n (wp_seq (sr (w_mv ei (w_val (y_bin ei Ev.c b_neq) (w_mv eb (w_val_g (v := .string (str (Cb.chain (key.drop n) vi text))) (wy rfl rfl eb) (y_mv es) (w_val_g (wy rfl rfl eb) (y_bin es (evc (.string (str ([] : List (BitVec 8))))) b_eqs) (w_val (y_pick_f eb eb) (nt ?_)))))))))
 have hc13 : ¬ ((Cb.chain (key.drop n) vi text) = ([] : List (BitVec 8))) := by exact fun e => by have e2 := congrArg List.length e; rw [Cb.chain_len] at e2; exact absurd e2 (by rw [List.length_nil]; omega)
 refine c_f (p := (Cb.chain (key.drop n) vi text) = ([] : List (BitVec 8))) eb hc13 (wp_skip (then_n (sr (w_val (v := pt b_b 0) (y_off (y_fa (ex (pt b_b 0)) (ChLawPT.fa23_0 _ _)) ro) (w_val (v := .string (str key)) (y_ld (ex (pt b_b 0)) ChLawPT.sc9 (r_b_b.val om pz)) (w_val (v := pt b_b 1) (y_off (y_fa (ex (pt b_b 0)) (ChLawPT.fa23_1 _ _)) ro) (w_val (v := .string (str vi)) (y_ld (ex (pt b_b 1)) ChLawPT.sc9 (r_b_b.val om (ng pz))) (w_val (v := pt b_b 2) (y_off (y_fa (ex (pt b_b 0)) (ChLawPT.fa23_2 _ _)) ro) (w_val (v := .string (str aad)) (y_ld (ex (pt b_b 2)) ChLawPT.sc9 (r_b_b.val om (ng (ng dv)))) (w_mv es (w_call (Tryz.func13) kr rfl (m4 es es es es) (chTag_y key vi aad n kind hkd hkn hkl hiv ha (Cb.chain (key.drop n) vi text) (by rw [Cb.chain_len]; omega) (by rw [Cb.chain_len]; omega) w11 hT) ?_)))))))))))
 rintro _ w14 ⟨rfl, hb15⟩
 refine ⟨_, rfl, ?_⟩
 replace r_b_b := r_b_b.step hb15
 replace hk := thenB hk hb15
 replace hT := Sha.Tabs.below hT hb15
 refine w_mv (ex (.tuple #[.string (str (Ch.tg kind n key vi aad (Cb.chain (key.drop n) vi text))), .int .i64 0])) (w_val ye (w_val ye (w_as es (w_as ei (nt (sr (w_val (v := pt b_b 0) (y_off (y_fa (ex (pt b_b 0)) (ChLawPT.fa23_0 _ _)) ro) (w_val (v := .string (str key)) (y_ld (ex (pt b_b 0)) ChLawPT.sc9 (r_b_b.val om pz)) (w_val (v := pt b_b 1) (y_off (y_fa (ex (pt b_b 0)) (ChLawPT.fa23_1 _ _)) ro) (w_val (v := .string (str vi)) (y_ld (ex (pt b_b 1)) ChLawPT.sc9 (r_b_b.val om (ng pz))) (w_val (v := pt b_b 2) (y_off (y_fa (ex (pt b_b 0)) (ChLawPT.fa23_2 _ _)) ro) (w_val (v := .string (str aad)) (y_ld (ex (pt b_b 2)) ChLawPT.sc9 (r_b_b.val om (ng (ng dv)))) (w_mv es (w_mv es (w_val (y_bin es es (b_cat (by rw [Cb.chain_len, Ch.tg_len kind n key vi aad _ hkd hkn]; omega))) (w_call (Tryz.func11) kr rfl (m4 es es es es) (chPadsOpen_q key vi aad n kind hkd hkn hkl hiv ha text ht om h0 hp w14 hT) ?_))))))))))))))))
 rintro _ w16 ⟨rfl, hb17⟩
 refine ⟨_, rfl, ?_⟩
 replace r_b_b := r_b_b.step hb17
 replace hk := thenB hk hb17
 replace hT := Sha.Tabs.below hT hb17
 refine w_mv (ex (.tuple #[.string (str ([] : List (BitVec 8))), .int .i64 8])) (w_val ye (w_val ye (w_as es (w_as ei (nt (sr (w_mv es (w_call (Tryz.func17) kr rfl (m2 es Ev.c) (refUnpad_n text 16 (by decide) (by decide) om om ht hp w16) ?_))))))))
 rintro _ w18 ⟨rfl, hb19⟩
 refine ⟨_, rfl, ?_⟩
 replace r_b_b := r_b_b.step hb19
 replace hk := thenB hk hb19
 replace hT := Sha.Tabs.below hT hb19
 refine w_mv (ex (.tuple #[.string (str ([] : List (BitVec 8))), .int .i64 7])) (w_val ye (w_val ye (w_as es (w_as ei (nt (wp_seq (sr (w_mv ei (w_val (y_bin ei Ev.c b_neq) (nt (c_ff eb (wp_skip (then_n (wp_seq (sr (w_mv ei (w_val (y_bin ei Ev.c b_neq) (nt (c_tt eb (sr (w_mv ei (w_val (y_bin ei Ev.c b_eql) (w_mv eb (w_val_g (v := .string (str ([] : List (BitVec 8)))) (wy rfl rfl eb) (y_mv es) (w_val_g (wy rfl rfl eb) (y_bin es (evc (.string (str ([] : List (BitVec 8))))) b_eqs_same) (w_val (y_pick_t eb eb) (w_as eb (nt (wp_ret (then_r (fin_ret1 rfl eb ?_)))))))))))))))))))))))))))))))
 exact ⟨rfl, hk⟩

theorem walk_CbchsPads (key : List (BitVec 8)) (hkey : key.length ≤ 140737488351232) (vi : List (BitVec 8)) (hvi : vi.length ≤ 140737488351232) (aad : List (BitVec 8)) (ha_ : aad.length ≤ 140737488351232) (text : List (BitVec 8)) (ht_ : text.length ≤ 140737488351232) (w : World) (hT : Sha.Tabs w) : Calls Tryz.prog 6 #[.agg #[.string (str key), .string (str vi), .string (str aad)], .string (str text)] w fun e w' => e = .returned (.bool true) ∧ Below w.heap.size w w' := by
  by_cases hk_ : key.length = 32 ∨ key.length = 48 ∨ key.length = 64
  · obtain ⟨n, hkl⟩ : ∃ n, key.length = 2 * n := ⟨key.length / 2, by omega⟩
    have hkd : Sha.Known (16 * n) := by unfold Sha.Known; omega
    by_cases hiv : vi.length = 16
    · by_cases ha : aad.length ≤ 70000
      · by_cases h : 2000 < aad.length ∧ aad.length ≤ 70000 ∨ 2000 < text.length ∧ text.length ≤ 70048
        · exact cbchsPads_l key vi aad n _ hkd rfl hkl hiv ha text ht_ h w hT
        · by_cases hs : text.length % 16 = 0 ∧ text.length ≤ 70016
          · by_cases h0 : text.length = 0
            · exact cbchsPads_0 key vi aad n _ hkd rfl hkl hiv ha text ht_ h h0 w hT
            · by_cases hp : Cb.Padded text 16
              · exact cbchsPads_p key vi aad n _ hkd rfl hkl hiv ha text ht_ h hs.1 hs.2 om hp w hT
              · exact cbchsPads_q key vi aad n _ hkd rfl hkl hiv ha text ht_ h hs.1 hs.2 om hp w hT
          · exact cbchsPads_s key vi aad n _ hkd rfl hkl hiv ha text ht_ h hs w hT
      · exact cbchsPads_a key vi aad n _ hkd rfl hkl hiv om text ht_ w hT
    · exact cbchsPads_i key vi aad n _ hkd rfl hkl hiv text ht_ w hT
  · exact cbchsPads_k key vi aad hk_ text ht_ w hT
end Go.Proofs.YtepogbfkmflooaaGreatDoor
