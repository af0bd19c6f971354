/-
  The walk of the law PbkdfKeys. Conditions as each says.
-/
import Derived.Test.YtieepglpejlkoaaDoorRows
import Derived.Test.YtieepglpejlkoaaDoorPbL
import Derived.ProofKit
namespace Go.Proofs.YtieepglpejlkoaaDoor
open Go.RowKit
set_option linter.unusedSimpArgs false
set_option linter.unusedVariables false
namespace PbLKeysT
theorem mixed : Tryd.prog.follows .mixedOrders = true := by kernel_rfl
theorem ag67 : (Tryd.prog.underlying 67).map isAggD = some true := by rw [Tryd.underlying67]; rfl
theorem fa67_0 (g off : Nat) : ∀ w, (Instr.fieldAt 67 (.pointer (some ⟨g, off, none⟩)) 0).run Tryd.prog w = .ok (.pointer (some ⟨g, off + 0, none⟩)) w := fun w => by kernel_rfl
theorem fa67_1 (g off : Nat) : ∀ w, (Instr.fieldAt 67 (.pointer (some ⟨g, off, none⟩)) 1).run Tryd.prog w = .ok (.pointer (some ⟨g, off + 1, none⟩)) w := fun w => by kernel_rfl
theorem fa67_2 (g off : Nat) : ∀ w, (Instr.fieldAt 67 (.pointer (some ⟨g, off, none⟩)) 2).run Tryd.prog w = .ok (.pointer (some ⟨g, off + 2, none⟩)) w := fun w => by kernel_rfl
theorem fa67_3 (g off : Nat) : ∀ w, (Instr.fieldAt 67 (.pointer (some ⟨g, off, none⟩)) 3).run Tryd.prog w = .ok (.pointer (some ⟨g, off + 3, none⟩)) w := fun w => by kernel_rfl
theorem fa67_4 (g off : Nat) : ∀ w, (Instr.fieldAt 67 (.pointer (some ⟨g, off, none⟩)) 4).run Tryd.prog w = .ok (.pointer (some ⟨g, off + 4, none⟩)) w := fun w => by kernel_rfl
theorem sc3 : (Tryd.prog.underlying 3).map scal = some true := by rw [Tryd.underlying3]; rfl
theorem sc5 : (Tryd.prog.underlying 5).map scal = some true := by rw [Tryd.underlying5]; rfl
theorem sc9 : (Tryd.prog.underlying 9).map scal = some true := by rw [Tryd.underlying9]; rfl
theorem so5 : (Tryd.prog.underlying 5).isSome = true := by rw [Tryd.underlying5]; rfl
theorem sz5 : (Tryd.prog.info? 5).map (·.size) = some 1 := by kernel_rfl
theorem sz67 : (Tryd.prog.info? 67).map (·.size) = some 5 := by kernel_rfl
end PbLKeysT
set_option maxRecDepth 100000 in
set_option maxHeartbeats 1000000 in
theorem pbkdfKeys_c (k : Int) (pw salt : List (BitVec 8)) (r l : Int) (w0 : World) (hT : Sha.Tabs w0) : Calls Tryd.prog 12 #[.agg (arr 5 (fun j => if j < 1 then .int .i64 k else if j < 2 then .string (str pw) else if j < 3 then .string (str salt) else if j < 4 then .int .i64 r else .int .i64 l))] w0 fun e w' => e = .returned (.bool true) ∧ Below w0.heap.size w0 w' := by
 refine enter (n := 48) Tryd.func12 rfl rfl rfl ?_
 have hk : Below w0.heap.size w0 w0 := Below.refl _ _
 refine sr ?_
 refine w_box (m := 5) (F := fun j => if j < 1 then .int .i64 k else if j < 2 then .string (str pw) else if j < 3 then .string (str salt) else if j < 4 then .int .i64 r else .int .i64 l) (ev (.agg (arr 5 (fun j => if j < 1 then .int .i64 k else if j < 2 then .string (str pw) else if j < 3 then .string (str salt) else if j < 4 then .int .i64 r else .int .i64 l))) rfl rfl) rfl ?_
 intro b_a w1 hbe_b_a r_b_a hb2
 have ge_b_a : w0.heap.size ≤ b_a := by have := hk.size; omega
 clear hbe_b_a
 replace hk := thenB hk hb2
 replace hT := Sha.Tabs.below hT hb2
 refine w_as (evc (.bool false)) ?_
 refine nt ?_
 refine wp_seq ?_
 refine sr ?_
 refine w_call (Tryd.func34) (by kernel_rfl) rfl m0 (pbWakes_c w1 hT) ?_
 rintro _ w3 ⟨rfl, hb4⟩
 refine ⟨_, rfl, ?_⟩
 replace r_b_a := r_b_a.step hb4
 replace hk := thenB hk hb4
 replace hT := Sha.Tabs.below hT hb4
 refine w_val (y_not (ev (.bool true) rfl rfl)) ?_
 refine nt ?_
 refine c_ff (ev (.bool false) rfl rfl) ?_
 refine wp_skip ?_
 refine then_n ?_
 refine wp_seq ?_
 refine sr ?_
 refine w_val (v := .agg (arr 5 (fun j => if j < 1 then .int .i64 k else if j < 2 then .string (str pw) else if j < 3 then .string (str salt) else if j < 4 then .int .i64 r else .int .i64 l))) (y_lda (ev (pt b_a 0) rfl rfl) PbLKeysT.ag67 PbLKeysT.sz67 (fun j hj => by rw [Nat.zero_add]; exact (r_b_a.cell (by omega)))) ?_
 refine w_call (Tryd.func35) (by kernel_rfl) rfl (m1 (ev (.agg (arr 5 (fun j => if j < 1 then .int .i64 k else if j < 2 then .string (str pw) else if j < 3 then .string (str salt) else if j < 4 then .int .i64 r else .int .i64 l))) rfl rfl)) (pbLight_c k pw salt r l w3) ?_
 rintro _ w5 ⟨rfl, hb6⟩
 refine ⟨_, rfl, ?_⟩
 replace r_b_a := r_b_a.step hb6
 replace hk := thenB hk hb6
 replace hT := Sha.Tabs.below hT hb6
 refine w_val (y_notp (ev (.bool (decide (r ≤ 40 ∧ pw.length ≤ 2000 ∧ salt.length ≤ 1024))) rfl rfl)) ?_
 refine nt ?_
 refine c_if (p := ¬ (r ≤ 40 ∧ pw.length ≤ 2000 ∧ salt.length ≤ 1024)) (ev (.bool (decide (¬ (r ≤ 40 ∧ pw.length ≤ 2000 ∧ salt.length ≤ 1024)))) rfl rfl) (fun hc7 => ?_) (fun hc7 => ?_)
 ·skip
  refine sr ?_
  refine w_as (evc (.bool true)) ?_
  refine nt ?_
  refine wp_ret ?_
  refine then_r ?_
  refine fin_ret1 rfl (ev (.bool true) rfl rfl) ?_
  exact ⟨rfl, hk⟩
 ·skip
  refine wp_skip ?_
  refine then_n ?_
  refine sr ?_
  refine w_val (v := pt b_a 0) (y_off (y_fa (ev (pt b_a 0) rfl rfl) (PbLKeysT.fa67_0 _ _)) (by first | rfl | omega)) ?_
  refine w_val (v := .int .i64 k) (y_ld (ev (pt b_a 0) rfl rfl) PbLKeysT.sc3 (r_b_a.val (by omega) (etv (if_pos (by omega))))) ?_
  refine w_val (v := pt b_a 1) (y_off (y_fa (ev (pt b_a 0) rfl rfl) (PbLKeysT.fa67_1 _ _)) (by first | rfl | omega)) ?_
  refine w_val (v := .string (str pw)) (y_ld (ev (pt b_a 1) rfl rfl) PbLKeysT.sc9 (r_b_a.val (by omega) ((if_neg (by omega)).trans (etv (if_pos (by omega)))))) ?_
  refine w_val (v := pt b_a 2) (y_off (y_fa (ev (pt b_a 0) rfl rfl) (PbLKeysT.fa67_2 _ _)) (by first | rfl | omega)) ?_
  refine w_val (v := .string (str salt)) (y_ld (ev (pt b_a 2) rfl rfl) PbLKeysT.sc9 (r_b_a.val (by omega) ((if_neg (by omega)).trans ((if_neg (by omega)).trans (etv (if_pos (by omega))))))) ?_
  refine w_val (v := pt b_a 3) (y_off (y_fa (ev (pt b_a 0) rfl rfl) (PbLKeysT.fa67_3 _ _)) (by first | rfl | omega)) ?_
  refine w_val (v := .int .i64 r) (y_ld (ev (pt b_a 3) rfl rfl) PbLKeysT.sc3 (r_b_a.val (by omega) ((if_neg (by omega)).trans ((if_neg (by omega)).trans ((if_neg (by omega)).trans (etv (if_pos (by omega)))))))) ?_
  refine w_val (v := pt b_a 4) (y_off (y_fa (ev (pt b_a 0) rfl rfl) (PbLKeysT.fa67_4 _ _)) (by first | rfl | omega)) ?_
  refine w_val (v := .int .i64 l) (y_ld (ev (pt b_a 4) rfl rfl) PbLKeysT.sc3 (r_b_a.val (by omega) ((if_neg (by omega)).trans ((if_neg (by omega)).trans ((if_neg (by omega)).trans ((if_neg (by omega)).trans (by first | with_reducible rfl | (with_reducible congr 1 <;> omega) | (with_reducible congr 2 <;> omega) | (with_reducible congr 3 <;> omega) | rfl))))))) ?_
  have hkb := Pb.key_bound k pw salt r l
  refine w_call (Tryd.func36) (by kernel_rfl) rfl (m5 (ev (.int .i64 k) rfl rfl) (ev (.string (str pw)) rfl rfl) (ev (.string (str salt)) rfl rfl) (ev (.int .i64 r) rfl rfl) (ev (.int .i64 l) rfl rfl)) (key_l k pw salt r l (by omega) w5 hT) ?_
  rintro _ w8 ⟨rfl, hb9⟩
  refine ⟨_, rfl, ?_⟩
  replace r_b_a := r_b_a.step hb9
  replace hk := thenB hk hb9
  replace hT := Sha.Tabs.below hT hb9
  refine w_mv (ev (.tuple #[.string (str ((Pb.key k pw salt r l).1)), .int .i64 ((Pb.key k pw salt r l).2)]) rfl rfl) ?_
  refine w_val (y_ext (v := .string (str ((Pb.key k pw salt r l).1))) (ev (.tuple #[.string (str ((Pb.key k pw salt r l).1)), .int .i64 ((Pb.key k pw salt r l).2)]) rfl rfl) rfl) ?_
  refine w_val (y_ext (v := .int .i64 ((Pb.key k pw salt r l).2)) (ev (.tuple #[.string (str ((Pb.key k pw salt r l).1)), .int .i64 ((Pb.key k pw salt r l).2)]) rfl rfl) rfl) ?_
  refine w_as (ev (.string (str ((Pb.key k pw salt r l).1))) rfl rfl) ?_
  refine w_as (ev (.int .i64 ((Pb.key k pw salt r l).2)) rfl rfl) ?_
  refine nt ?_
  refine sr ?_
  refine w_val (v := pt b_a 0) (y_off (y_fa (ev (pt b_a 0) rfl rfl) (PbLKeysT.fa67_0 _ _)) (by first | rfl | omega)) ?_
  refine w_val (v := .int .i64 k) (y_ld (ev (pt b_a 0) rfl rfl) PbLKeysT.sc3 (r_b_a.val (by omega) (etv (if_pos (by omega))))) ?_
  refine w_val (v := pt b_a 1) (y_off (y_fa (ev (pt b_a 0) rfl rfl) (PbLKeysT.fa67_1 _ _)) (by first | rfl | omega)) ?_
  refine w_val (v := .string (str pw)) (y_ld (ev (pt b_a 1) rfl rfl) PbLKeysT.sc9 (r_b_a.val (by omega) ((if_neg (by omega)).trans (etv (if_pos (by omega)))))) ?_
  refine w_val (v := pt b_a 2) (y_off (y_fa (ev (pt b_a 0) rfl rfl) (PbLKeysT.fa67_2 _ _)) (by first | rfl | omega)) ?_
  refine w_val (v := .string (str salt)) (y_ld (ev (pt b_a 2) rfl rfl) PbLKeysT.sc9 (r_b_a.val (by omega) ((if_neg (by omega)).trans ((if_neg (by omega)).trans (etv (if_pos (by omega))))))) ?_
  refine w_val (v := pt b_a 3) (y_off (y_fa (ev (pt b_a 0) rfl rfl) (PbLKeysT.fa67_3 _ _)) (by first | rfl | omega)) ?_
  refine w_val (v := .int .i64 r) (y_ld (ev (pt b_a 3) rfl rfl) PbLKeysT.sc3 (r_b_a.val (by omega) ((if_neg (by omega)).trans ((if_neg (by omega)).trans ((if_neg (by omega)).trans (etv (if_pos (by omega)))))))) ?_
  refine w_val (v := pt b_a 4) (y_off (y_fa (ev (pt b_a 0) rfl rfl) (PbLKeysT.fa67_4 _ _)) (by first | rfl | omega)) ?_
  refine w_val (v := .int .i64 l) (y_ld (ev (pt b_a 4) rfl rfl) PbLKeysT.sc3 (r_b_a.val (by omega) ((if_neg (by omega)).trans ((if_neg (by omega)).trans ((if_neg (by omega)).trans ((if_neg (by omega)).trans (by first | with_reducible rfl | (with_reducible congr 1 <;> omega) | (with_reducible congr 2 <;> omega) | (with_reducible congr 3 <;> omega) | rfl))))))) ?_
  refine w_call (Tryd.func37) (by kernel_rfl) rfl (m5 (ev (.int .i64 k) rfl rfl) (ev (.string (str pw)) rfl rfl) (ev (.string (str salt)) rfl rfl) (ev (.int .i64 r) rfl rfl) (ev (.int .i64 l) rfl rfl)) (refKey_l k pw salt r l (by omega) w8 ) ?_
  rintro _ w10 ⟨rfl, hb11⟩
  refine ⟨_, rfl, ?_⟩
  replace r_b_a := r_b_a.step hb11
  replace hk := thenB hk hb11
  replace hT := Sha.Tabs.below hT hb11
  refine w_mv (ev (.tuple #[.string (str ((Pb.key k pw salt r l).1)), .int .i64 ((Pb.key k pw salt r l).2)]) rfl rfl) ?_
  refine w_val (y_ext (v := .string (str ((Pb.key k pw salt r l).1))) (ev (.tuple #[.string (str ((Pb.key k pw salt r l).1)), .int .i64 ((Pb.key k pw salt r l).2)]) rfl rfl) rfl) ?_
  refine w_val (y_ext (v := .int .i64 ((Pb.key k pw salt r l).2)) (ev (.tuple #[.string (str ((Pb.key k pw salt r l).1)), .int .i64 ((Pb.key k pw salt r l).2)]) rfl rfl) rfl) ?_
  refine w_as (ev (.string (str ((Pb.key k pw salt r l).1))) rfl rfl) ?_
  refine w_as (ev (.int .i64 ((Pb.key k pw salt r l).2)) rfl rfl) ?_
  refine nt ?_
  refine sr ?_
  refine w_mv (ev (.string (str ((Pb.key k pw salt r l).1))) rfl rfl) ?_
  refine w_mv (ev (.string (str ((Pb.key k pw salt r l).1))) rfl rfl) ?_
  refine w_val (y_bin (ev (.string (str ((Pb.key k pw salt r l).1))) rfl rfl) (ev (.string (str ((Pb.key k pw salt r l).1))) rfl rfl) b_eqs_same) ?_
  refine w_mv (ev (.bool true) rfl rfl) ?_
  refine w_val_g (v := .int .i64 ((Pb.key k pw salt r l).2)) (want_yes (j := 3) rfl rfl (ev (.bool true) rfl rfl) rfl) (y_mv (ev (.int .i64 ((Pb.key k pw salt r l).2)) rfl rfl)) ?_
  refine w_val_g (v := .int .i64 ((Pb.key k pw salt r l).2)) (want_yes (j := 3) rfl rfl (ev (.bool true) rfl rfl) rfl) (y_mv (ev (.int .i64 ((Pb.key k pw salt r l).2)) rfl rfl)) ?_
  refine w_val_g (want_yes (j := 3) rfl rfl (ev (.bool true) rfl rfl) rfl) (y_bin (ev (.int .i64 ((Pb.key k pw salt r l).2)) rfl rfl) (ev (.int .i64 ((Pb.key k pw salt r l).2)) rfl rfl) b_eql) ?_
  refine w_val (y_pick_t (ev (.bool true) rfl rfl) (ev (.bool (decide (((Pb.key k pw salt r l).2) = ((Pb.key k pw salt r l).2)))) rfl rfl)) ?_
  refine w_as (ev (.bool (decide (((Pb.key k pw salt r l).2) = ((Pb.key k pw salt r l).2)))) rfl rfl) ?_
  refine nt ?_
  refine wp_ret ?_
  have hc12 : ((Pb.key k pw salt r l).2) = ((Pb.key k pw salt r l).2) := by rfl
  refine fin_ret1 rfl (ev (.bool true) (Eq.trans (b := .bool (decide (((Pb.key k pw salt r l).2) = ((Pb.key k pw salt r l).2)))) rfl (by rw [decide_eq_true hc12])) rfl) ?_
  exact ⟨rfl, hk⟩

theorem walk_PbkdfKeys (k : Int) (pw salt : List (BitVec 8)) (r l : Int) (wk : (Lit.int .i64 k).wf = true) (wr : (Lit.int .i64 r).wf = true) (wl : (Lit.int .i64 l).wf = true) (w : World) (hT : Sha.Tabs w) : Calls Tryd.prog 12 #[.agg #[.int .i64 k, .string (str pw), .string (str salt), .int .i64 r, .int .i64 l]] w fun e w' => e = .returned (.bool true) ∧ Below w.heap.size w w' := pbkdfKeys_c k pw salt r l w hT
end Go.Proofs.YtieepglpejlkoaaDoor
