/-
  The law SuiteRows answers true. Conditions as each says.
-/
import Derived.Test.YtdmbfimjbmfbaaaGreatRows
import Derived.Test.YtdmbfimjbmfbaaaGreatSuW
import Derived.Test.YtdmbfimjbmfbaaaGreatGenSh
import Derived.ProofKit
namespace Go.Proofs.YtdmbfimjbmfbaaaGreat
open Go.RowKit
set_option linter.unusedSimpArgs false
set_option linter.unusedVariables false
set_option maxRecDepth 100000
set_option maxHeartbeats 1000000
namespace SuLawRT
theorem mixed : Tryz.prog.follows .mixedOrders = true := by kernel_rfl
theorem ag23 : (Tryz.prog.underlying 23).map isAggD = some true := by rw [Tryz.underlying23]; rfl
theorem ag28 : (Tryz.prog.underlying 28).map isAggD = some true := by rw [Tryz.underlying28]; rfl
theorem fa23_0 (g off : Nat) : ∀ w, (Instr.fieldAt 23 (.pointer (some ⟨g, off, none⟩)) 0).run Tryz.prog w = .ok (.pointer (some ⟨g, off + 0, none⟩)) w := fun w => by kernel_rfl
theorem fa23_1 (g off : Nat) : ∀ w, (Instr.fieldAt 23 (.pointer (some ⟨g, off, none⟩)) 1).run Tryz.prog w = .ok (.pointer (some ⟨g, off + 1, none⟩)) w := fun w => by kernel_rfl
theorem fa23_2 (g off : Nat) : ∀ w, (Instr.fieldAt 23 (.pointer (some ⟨g, off, none⟩)) 2).run Tryz.prog w = .ok (.pointer (some ⟨g, off + 2, none⟩)) w := fun w => by kernel_rfl
theorem fa28_0 (g off : Nat) : ∀ w, (Instr.fieldAt 28 (.pointer (some ⟨g, off, none⟩)) 0).run Tryz.prog w = .ok (.pointer (some ⟨g, off + 0, none⟩)) w := fun w => by kernel_rfl
theorem fa28_1 (g off : Nat) : ∀ w, (Instr.fieldAt 28 (.pointer (some ⟨g, off, none⟩)) 1).run Tryz.prog w = .ok (.pointer (some ⟨g, off + 1, none⟩)) w := fun w => by kernel_rfl
theorem fa28_2 (g off : Nat) : ∀ w, (Instr.fieldAt 28 (.pointer (some ⟨g, off, none⟩)) 2).run Tryz.prog w = .ok (.pointer (some ⟨g, off + 2, none⟩)) w := fun w => by kernel_rfl
theorem fa28_3 (g off : Nat) : ∀ w, (Instr.fieldAt 28 (.pointer (some ⟨g, off, none⟩)) 3).run Tryz.prog w = .ok (.pointer (some ⟨g, off + 3, none⟩)) w := fun w => by kernel_rfl
theorem sc3 : (Tryz.prog.underlying 3).map scal = some true := by rw [Tryz.underlying3]; rfl
theorem sz23 : (Tryz.prog.info? 23).map (·.size) = some 3 := by kernel_rfl
theorem sz28 : (Tryz.prog.info? 28).map (·.size) = some 5 := by kernel_rfl
theorem sz3 : (Tryz.prog.info? 3).map (·.size) = some 1 := by kernel_rfl
end SuLawRT
theorem suiteRows_n (f : Nat → BitVec 64) (alg : Int) (hn : ∀ i : Nat, i < 22 → ((Su.al i : Nat) : Int) ≠ alg) (w0 : World) (hF : Gh.Fold w0 f) : Calls Tryz.prog 3 #[.int .i64 alg] w0 fun e w' => e = .returned (.bool true) ∧ Below w0.heap.size w0 w' := by
 have hF0 := hF.2
 refine enter (n := 48) Tryz.func3 rfl rfl rfl ?_
 have hk : Below w0.heap.size w0 w0 := Below.refl _ _
 refine sr (w_as Ev.c (nt (sr (w_mv ei (w_call (Tryz.func4) kr rfl (m1 ei) (suOf_n alg hn w0) ?_)))))
 rintro _ w1 ⟨rfl, hb2⟩
 refine ⟨_, rfl, ?_⟩
 replace hk := thenB hk hb2
 replace hF := Gh.Fold.below hF hb2
 refine w_mv (ex (.tuple #[.agg (arr 3 (fun j => if j < 1 then .int .i64 0 else if j < 2 then .int .i64 0 else .int .i64 0)), .int .i64 11])) (w_val ye (w_val ye (w_alloc (m := 3) (F := fun j => if j < 1 then .int .i64 0 else if j < 2 then .int .i64 0 else .int .i64 0) kr ?_)))
 intro b_s w3 hbe_b_s r_b_s hb4
 have ge_b_s := gb_ hk.size hbe_b_s
 clear hbe_b_s
 replace hk := thenB hk hb4
 replace hF := Gh.Fold.below hF hb4
 refine w_sta (k := 3) (G := fun j => if j < 1 then .int .i64 0 else if j < 2 then .int .i64 0 else .int .i64 0) (ex (pt b_s 0)) ea oc SuLawRT.sz23 r_b_s om ?_
 clear r_b_s; intro w5 r_b_s hg6 _
 replace r_b_s := r_b_s.congr (g := fun j => if j < 1 then .int .i64 0 else if j < 2 then .int .i64 0 else .int .i64 0) (fun j hj => by rw [if_pos ⟨Nat.zero_le _, by omega⟩]; first | rfl | (simp only [Nat.sub_zero]))
 replace hk := thenG hk hg6 om
 replace hF := Gh.Fold.grown hF hg6 om
 refine w_as ei (nt (sr (w_mv ei (w_call (Tryz.func5) kr rfl (m1 ei) (refOf_n alg hn w5) ?_))))
 rintro _ w7 ⟨rfl, hb8⟩
 refine ⟨_, rfl, ?_⟩
 replace r_b_s := r_b_s.step hb8
 replace hk := thenB hk hb8
 replace hF := Gh.Fold.below hF hb8
 refine w_alloc (m := 5) (F := fun j => if j < 1 then .int .i64 0 else if j < 2 then .int .i64 0 else if j < 3 then .int .i64 0 else if j < 4 then .int .i64 0 else .int .i64 0) kr ?_
 intro b_r w9 hbe_b_r r_b_r hb10
 have ne_b_s_b_r := r_b_s.nb hbe_b_r
 have ge_b_r := gb_ hk.size hbe_b_r
 clear hbe_b_r
 replace r_b_s := r_b_s.step hb10
 replace hk := thenB hk hb10
 replace hF := Gh.Fold.below hF hb10
 refine w_sta (k := 5) (G := fun j => if j < 1 then .int .i64 0 else if j < 2 then .int .i64 0 else if j < 3 then .int .i64 0 else if j < 4 then .int .i64 0 else .int .i64 0) (ex (pt b_r 0)) ea oc SuLawRT.sz28 r_b_r om ?_
 clear r_b_r; intro w11 r_b_r hg12 _
 replace r_b_r := r_b_r.congr (g := fun j => if j < 1 then .int .i64 0 else if j < 2 then .int .i64 0 else if j < 3 then .int .i64 0 else if j < 4 then .int .i64 0 else .int .i64 0) (fun j hj => by rw [if_pos ⟨Nat.zero_le _, by omega⟩]; first | rfl | (simp only [Nat.sub_zero]))
 replace r_b_s := r_b_s.stepG hg12 om
 replace hk := thenG hk hg12 om
 replace hF := Gh.Fold.grown hF hg12 om
 refine nt (wp_seq (sr (w_val (v := pt b_r 0) (y_off (y_fa (ex (pt b_r 0)) (SuLawRT.fa28_0 _ _)) ro) (w_val (v := .int .i64 0) (y_ld (ex (pt b_r 0)) SuLawRT.sc3 (r_b_r.val om pz)) (w_val (y_bin ei Ev.c b_eql) (w_mv eb ?_))))))
 with_reducible refine w_skip ?_ ?_
 exact wn rfl rfl eb
 with_reducible refine w_skip ?_ ?_
 exact wn rfl rfl eb
 with_reducible refine w_skip ?_ ?_
 exact wn rfl rfl eb
 with_reducible refine w_skip ?_ ?_
 exact wn rfl rfl eb
 refine w_val (y_pick_t eb Ev.c) (nt (c_tt eb (sr (w_call (Tryz.func6) kr rfl m0 (suWakes f w11 hF) ?_))))
 rintro _ w13 ⟨rfl, hb14⟩
 refine ⟨_, rfl, ?_⟩
 replace r_b_s := r_b_s.step hb14
 replace r_b_r := r_b_r.step hb14
 replace hk := thenB hk hb14
 replace hF := Gh.Fold.below hF hb14
 refine w_mv eb (w_val_g (v := .int .i64 11) (wy rfl rfl eb) (y_mv ei) (w_val_g (wy rfl rfl eb) (y_bin ei Ev.c b_eql) (w_val (y_pick_t eb eb) (w_mv eb (w_val_g (v := .agg (arr 3 (fun j => if j < 1 then .int .i64 0 else if j < 2 then .int .i64 0 else .int .i64 0))) (wy rfl rfl eb) (y_lda (ex (pt b_s 0)) SuLawRT.ag23 SuLawRT.sz23 (fun j hj => by rw [Nat.zero_add]; exact (r_b_s.cell om))) (w_val_g (v := .agg (arr 3 (fun j => if j < 1 then .int .i64 0 else if j < 2 then .int .i64 0 else .int .i64 0))) (wy rfl rfl eb) (y_build (vs := #[]) mp0 (fun w => by kernel_rfl)) (w_val_g (wy rfl rfl eb) (y_bin ea ea (b_su rfl rfl rfl rfl rfl rfl)) (w_val (y_pick_t eb eb) (w_as eb (nt (wp_ret (then_r (fin_ret1 rfl eb ?_)))))))))))))
 exact ⟨rfl, hk⟩

theorem suiteRows_y (f : Nat → BitVec 64) (i : Nat) (hi : i < 22) (w0 : World) (hF : Gh.Fold w0 f) : Calls Tryz.prog 3 #[.int .i64 (((Su.al i) : Nat) : Int)] w0 fun e w' => e = .returned (.bool true) ∧ Below w0.heap.size w0 w' := by
 have hF0 := hF.2
 refine enter (n := 48) Tryz.func3 rfl rfl rfl ?_
 have hk : Below w0.heap.size w0 w0 := Below.refl _ _
 refine sr (w_as Ev.c (nt (sr (w_mv ei (w_call (Tryz.func4) kr rfl (m1 ei) (suOf_y i hi w0) ?_)))))
 rintro _ w1 ⟨rfl, hb2⟩
 refine ⟨_, rfl, ?_⟩
 replace hk := thenB hk hb2
 replace hF := Gh.Fold.below hF hb2
 refine w_mv (ex (.tuple #[.agg (arr 3 (fun j => if j < 1 then .int .i64 (((Su.ky i) : Nat) : Int) else if j < 2 then .int .i64 (((Su.iv i) : Nat) : Int) else .int .i64 (((Su.tg i) : Nat) : Int))), .int .i64 0])) (w_val ye (w_val ye (w_alloc (m := 3) (F := fun j => if j < 1 then .int .i64 0 else if j < 2 then .int .i64 0 else .int .i64 0) kr ?_)))
 intro b_s w3 hbe_b_s r_b_s hb4
 have ge_b_s := gb_ hk.size hbe_b_s
 clear hbe_b_s
 replace hk := thenB hk hb4
 replace hF := Gh.Fold.below hF hb4
 refine w_sta (k := 3) (G := fun j => if j < 1 then .int .i64 (((Su.ky i) : Nat) : Int) else if j < 2 then .int .i64 (((Su.iv i) : Nat) : Int) else .int .i64 (((Su.tg i) : Nat) : Int)) (ex (pt b_s 0)) ea oc SuLawRT.sz23 r_b_s om ?_
 clear r_b_s; intro w5 r_b_s hg6 _
 replace r_b_s := r_b_s.congr (g := fun j => if j < 1 then .int .i64 (((Su.ky i) : Nat) : Int) else if j < 2 then .int .i64 (((Su.iv i) : Nat) : Int) else .int .i64 (((Su.tg i) : Nat) : Int)) (fun j hj => by rw [if_pos ⟨Nat.zero_le _, by omega⟩]; first | rfl | (simp only [Nat.sub_zero]))
 replace hk := thenG hk hg6 om
 replace hF := Gh.Fold.grown hF hg6 om
 refine w_as ei (nt (sr (w_mv ei (w_call (Tryz.func5) kr rfl (m1 ei) (refOf_y i hi w5) ?_))))
 rintro _ w7 ⟨rfl, hb8⟩
 refine ⟨_, rfl, ?_⟩
 replace r_b_s := r_b_s.step hb8
 replace hk := thenB hk hb8
 replace hF := Gh.Fold.below hF hb8
 refine w_alloc (m := 5) (F := fun j => if j < 1 then .int .i64 0 else if j < 2 then .int .i64 0 else if j < 3 then .int .i64 0 else if j < 4 then .int .i64 0 else .int .i64 0) kr ?_
 intro b_r w9 hbe_b_r r_b_r hb10
 have ne_b_s_b_r := r_b_s.nb hbe_b_r
 have ge_b_r := gb_ hk.size hbe_b_r
 clear hbe_b_r
 replace r_b_s := r_b_s.step hb10
 replace hk := thenB hk hb10
 replace hF := Gh.Fold.below hF hb10
 refine w_sta (k := 5) (G := fun j => if j < 1 then .int .i64 (((Su.al i) : Nat) : Int) else if j < 2 then .int .i64 (((Su.ky i) : Nat) : Int) else if j < 3 then .int .i64 (((Su.iv i) : Nat) : Int) else if j < 4 then .int .i64 (((Su.tg i) : Nat) : Int) else .int .i64 (((Su.ly i) : Nat) : Int)) (ex (pt b_r 0)) ea oc SuLawRT.sz28 r_b_r om ?_
 clear r_b_r; intro w11 r_b_r hg12 _
 replace r_b_r := r_b_r.congr (g := fun j => if j < 1 then .int .i64 (((Su.al i) : Nat) : Int) else if j < 2 then .int .i64 (((Su.ky i) : Nat) : Int) else if j < 3 then .int .i64 (((Su.iv i) : Nat) : Int) else if j < 4 then .int .i64 (((Su.tg i) : Nat) : Int) else .int .i64 (((Su.ly i) : Nat) : Int)) (fun j hj => by rw [if_pos ⟨Nat.zero_le _, by omega⟩]; first | rfl | (simp only [Nat.sub_zero]))
 replace r_b_s := r_b_s.stepG hg12 om
 replace hk := thenG hk hg12 om
 replace hF := Gh.Fold.grown hF hg12 om
 refine nt (wp_seq (sr (w_val (v := pt b_r 0) (y_off (y_fa (ex (pt b_r 0)) (SuLawRT.fa28_0 _ _)) ro) (w_val (v := .int .i64 (((Su.al i) : Nat) : Int)) (y_ld (ex (pt b_r 0)) SuLawRT.sc3 (r_b_r.val om pz)) (w_val (y_bin ei Ev.c b_eql) (w_mv eb ?_))))))
 have hc13 : ¬ ((((Su.al i) : Nat) : Int) = 0) := by have := Su.al_pos i hi; omega
 refine w_val_g (v := pt b_r 0) (wy rfl rfl (eb (df hc13))) (y_off (y_fa (ex (pt b_r 0)) (SuLawRT.fa28_0 _ _)) ro) (w_val_g (v := .int .i64 (((Su.al i) : Nat) : Int)) (wy rfl rfl (eb (df hc13))) (y_ld (ex (pt b_r 0)) SuLawRT.sc3 (r_b_r.val om pz)) (w_val_g (v := .int .i64 (((Su.al i) : Nat) : Int)) (wy rfl rfl (eb (df hc13))) (y_mv ei) (w_val_g (wy rfl rfl (eb (df hc13))) (y_bin ei ei b_neq) (w_val (y_pick_f (eb (df hc13)) eb) (nt ?_)))))
 have hc14 : ¬ ((((Su.al i) : Nat) : Int) ≠ (((Su.al i) : Nat) : Int)) := by exact fun h => h rfl
 refine c_f (p := (((Su.al i) : Nat) : Int) ≠ (((Su.al i) : Nat) : Int)) eb hc14 (wp_skip (then_n (sr (w_call (Tryz.func6) kr rfl m0 (suWakes f w11 hF) ?_))))
 rintro _ w15 ⟨rfl, hb16⟩
 refine ⟨_, rfl, ?_⟩
 replace r_b_s := r_b_s.step hb16
 replace r_b_r := r_b_r.step hb16
 replace hk := thenB hk hb16
 replace hF := Gh.Fold.below hF hb16
 refine w_mv eb (w_val_g (v := .int .i64 0) (wy rfl rfl eb) (y_mv ei) (w_val_g (wy rfl rfl eb) (y_bin ei Ev.c b_eql) (w_val (y_pick_t eb eb) (w_mv eb (w_val_g (v := .agg (arr 3 (fun j => if j < 1 then .int .i64 (((Su.ky i) : Nat) : Int) else if j < 2 then .int .i64 (((Su.iv i) : Nat) : Int) else .int .i64 (((Su.tg i) : Nat) : Int)))) (wy rfl rfl eb) (y_lda (ex (pt b_s 0)) SuLawRT.ag23 SuLawRT.sz23 (fun j hj => by rw [Nat.zero_add]; exact (r_b_s.cell om))) (w_val_g (v := pt b_r 1) (wy rfl rfl eb) (y_off (y_fa (ex (pt b_r 0)) (SuLawRT.fa28_1 _ _)) ro) (w_val_g (v := .int .i64 (((Su.ky i) : Nat) : Int)) (wy rfl rfl eb) (y_ld (ex (pt b_r 1)) SuLawRT.sc3 (r_b_r.val om (ng pz))) (w_val_g (v := pt b_r 2) (wy rfl rfl eb) (y_off (y_fa (ex (pt b_r 0)) (SuLawRT.fa28_2 _ _)) ro) (w_val_g (v := .int .i64 (((Su.iv i) : Nat) : Int)) (wy rfl rfl eb) (y_ld (ex (pt b_r 2)) SuLawRT.sc3 (r_b_r.val om (ng (ng pz)))) (w_val_g (v := pt b_r 3) (wy rfl rfl eb) (y_off (y_fa (ex (pt b_r 0)) (SuLawRT.fa28_3 _ _)) ro) (w_val_g (v := .int .i64 (((Su.tg i) : Nat) : Int)) (wy rfl rfl eb) (y_ld (ex (pt b_r 3)) SuLawRT.sc3 (r_b_r.val om (ng (ng (ng pz))))) (w_val_g (v := .agg (arr 3 (fun j => if j < 1 then .int .i64 (((Su.ky i) : Nat) : Int) else if j < 2 then .int .i64 (((Su.iv i) : Nat) : Int) else .int .i64 (((Su.tg i) : Nat) : Int)))) (wy rfl rfl eb) (y_build (vs := #[(0, .int .i64 (((Su.ky i) : Nat) : Int)), (1, .int .i64 (((Su.iv i) : Nat) : Int)), (2, .int .i64 (((Su.tg i) : Nat) : Int))]) (mp_cons ei (mp_cons ei (mp_cons ei mp0))) (fun w => by kernel_rfl)) (w_val_g (wy rfl rfl eb) (y_bin ea ea (b_su rfl rfl rfl rfl rfl rfl)) (w_val (y_pick_t eb eb) (w_as eb (nt (wp_ret (fin_ret1 rfl eb ?_))))))))))))))))))
 exact ⟨rfl, hk⟩

theorem walk_SuiteRows (f : Nat → BitVec 64) (alg : Int) (w : World) (hF : Gh.Fold w f) : Calls Tryz.prog 3 #[.int .i64 alg] w fun e w' => e = .returned (.bool true) ∧ Below w.heap.size w w' := by
  by_cases h : ∀ i : Nat, i < 22 → ((Su.al i : Nat) : Int) ≠ alg
  · exact suiteRows_n f alg h w hF
  · obtain ⟨i, hi, rfl⟩ := Su.some_row alg h
    exact suiteRows_y f i hi w hF
end Go.Proofs.YtdmbfimjbmfbaaaGreat
