/-
  The law SuiteMacs answers true. Conditions as each says.
-/
import Derived.Test.YtdmbfimjbmfbaaaGreatDoorRows
import Derived.Test.YtdmbfimjbmfbaaaGreatDoorSuW
import Derived.Test.YtdmbfimjbmfbaaaGreatDoorSuF
import Derived.Test.YtdmbfimjbmfbaaaGreatDoorGenSh
import Derived.ProofKit
namespace Go.Proofs.YtdmbfimjbmfbaaaGreatDoor
open Go.RowKit
set_option linter.unusedSimpArgs false
set_option linter.unusedVariables false
set_option maxRecDepth 100000
set_option maxHeartbeats 1000000
namespace SuLawMT
theorem mixed : Tryz.prog.follows .mixedOrders = true := by kernel_rfl
theorem ag23 : (Tryz.prog.underlying 23).map isAggD = some true := by rw [Tryz.underlying23]; rfl
theorem fa23_0 (g off : Nat) : ∀ w, (Instr.fieldAt 23 (.pointer (some ⟨g, off, none⟩)) 0).run Tryz.prog w = .ok (.pointer (some ⟨g, off + 0, none⟩)) w := fun w => by kernel_rfl
theorem fa23_1 (g off : Nat) : ∀ w, (Instr.fieldAt 23 (.pointer (some ⟨g, off, none⟩)) 1).run Tryz.prog w = .ok (.pointer (some ⟨g, off + 1, none⟩)) w := fun w => by kernel_rfl
theorem fa23_3 (g off : Nat) : ∀ w, (Instr.fieldAt 23 (.pointer (some ⟨g, off, none⟩)) 3).run Tryz.prog w = .ok (.pointer (some ⟨g, off + 3, none⟩)) w := fun w => by kernel_rfl
theorem fa35_0 (g off : Nat) : ∀ w, (Instr.fieldAt 35 (.pointer (some ⟨g, off, none⟩)) 0).run Tryz.prog w = .ok (.pointer (some ⟨g, off + 0, none⟩)) w := fun w => by kernel_rfl
theorem fa35_1 (g off : Nat) : ∀ w, (Instr.fieldAt 35 (.pointer (some ⟨g, off, none⟩)) 1).run Tryz.prog w = .ok (.pointer (some ⟨g, off + 1, none⟩)) w := fun w => by kernel_rfl
theorem fa35_2 (g off : Nat) : ∀ w, (Instr.fieldAt 35 (.pointer (some ⟨g, off, none⟩)) 2).run Tryz.prog w = .ok (.pointer (some ⟨g, off + 2, none⟩)) w := fun w => by kernel_rfl
theorem fa43_0 (g off : Nat) : ∀ w, (Instr.fieldAt 43 (.pointer (some ⟨g, off, none⟩)) 0).run Tryz.prog w = .ok (.pointer (some ⟨g, off + 0, none⟩)) w := fun w => by kernel_rfl
theorem fa43_1 (g off : Nat) : ∀ w, (Instr.fieldAt 43 (.pointer (some ⟨g, off, none⟩)) 1).run Tryz.prog w = .ok (.pointer (some ⟨g, off + 1, none⟩)) w := fun w => by kernel_rfl
theorem fa43_2 (g off : Nat) : ∀ w, (Instr.fieldAt 43 (.pointer (some ⟨g, off, none⟩)) 2).run Tryz.prog w = .ok (.pointer (some ⟨g, off + 2, none⟩)) w := fun w => by kernel_rfl
theorem fa43_3 (g off : Nat) : ∀ w, (Instr.fieldAt 43 (.pointer (some ⟨g, off, none⟩)) 3).run Tryz.prog w = .ok (.pointer (some ⟨g, off + 3, none⟩)) w := fun w => by kernel_rfl
theorem fa43_4 (g off : Nat) : ∀ w, (Instr.fieldAt 43 (.pointer (some ⟨g, off, none⟩)) 4).run Tryz.prog w = .ok (.pointer (some ⟨g, off + 4, none⟩)) w := fun w => by kernel_rfl
theorem sc3 : (Tryz.prog.underlying 3).map scal = some true := by rw [Tryz.underlying3]; rfl
theorem sc9 : (Tryz.prog.underlying 9).map scal = some true := by rw [Tryz.underlying9]; rfl
theorem sz23 : (Tryz.prog.info? 23).map (·.size) = some 4 := by kernel_rfl
theorem sz35 : (Tryz.prog.info? 35).map (·.size) = some 3 := by kernel_rfl
theorem sz43 : (Tryz.prog.info? 43).map (·.size) = some 5 := by kernel_rfl
end SuLawMT
theorem suLong_t (alg : Int) (key iv aad text : List (BitVec 8)) (h : 700 < aad.length ∧ aad.length ≤ 70000 ∨ 700 < text.length ∧ text.length ≤ 140000) (w0 : World) : Calls Tryz.prog 5 #[.agg (arr 4 (fun j => if j < 1 then .int .i64 alg else if j < 2 then .string (str key) else if j < 3 then .string (str iv) else .string (str aad))), .string (str text)] w0 fun e w' => e = .returned (.bool true) ∧ Below w0.heap.size w0 w' := by
 refine enter (n := 25) Tryz.func5 rfl rfl rfl ?_
 have hk : Below w0.heap.size w0 w0 := Below.refl _ _
 refine sr (w_box (m := 4) (F := fun j => if j < 1 then .int .i64 alg else if j < 2 then .string (str key) else if j < 3 then .string (str iv) else .string (str aad)) ea rfl ?_)
 intro ag w1 ab ae ai
 have ah := gb_ hk.size ab
 clear ab
 replace hk := thenB hk ai
 refine w_as Ev.c (nt (sr (w_val (v := pt ag 3) (y_off (y_fa (ex (pt ag 0)) (SuLawMT.fa23_3 _ _)) ro) (w_val (v := .string (str aad)) (y_ld (ex (pt ag 3)) SuLawMT.sc9 (ae.val om (ng (ng (ng dv))))) (w_val (y_len es Tryz.underlying9) (w_val (y_bin ei Ev.c b_gtr) (w_mv eb ?_)))))))
 by_cases ac : 700 < ((aad.length : Nat) : Int)
 ·skip
  refine w_val_g (v := pt ag 3) (wy rfl rfl (eb (dt ac))) (y_off (y_fa (ex (pt ag 0)) (SuLawMT.fa23_3 _ _)) ro) (w_val_g (v := .string (str aad)) (wy rfl rfl (eb (dt ac))) (y_ld (ex (pt ag 3)) SuLawMT.sc9 (ae.val om (ng (ng (ng dv))))) (w_val_g (wy rfl rfl (eb (dt ac))) (y_len es Tryz.underlying9) (w_val_g (wy rfl rfl (eb (dt ac))) (y_bin ei Ev.c b_leq) (w_val (y_pick_t (eb (dt ac)) eb) (w_mv eb ?_)))))
  by_cases aa : ((aad.length : Nat) : Int) ≤ 70000
  ·skip
   with_reducible refine w_skip ?_ ?_
   exact wn rfl rfl (eb (dt aa))
   with_reducible refine w_skip ?_ ?_
   exact wn rfl rfl (eb (dt aa))
   with_reducible refine w_skip ?_ ?_
   exact wn rfl rfl (eb (dt aa))
   with_reducible refine w_skip ?_ ?_
   exact wn rfl rfl (eb (dt aa))
   with_reducible refine w_skip ?_ ?_
   exact wu rfl rfl (ex undef)
   with_reducible refine w_skip ?_ ?_
   exact wu rfl rfl (ex undef)
   with_reducible refine w_skip ?_ ?_
   exact wu rfl rfl (ex undef)
   with_reducible refine w_skip ?_ ?_
   exact wn rfl rfl (eb (dt aa))
   refine w_val (y_pick_t (eb (dt aa)) Ev.c) (w_as eb (nt (wp_ret (fin_ret1 rfl eb ?_))))
   exact ⟨rfl, hk⟩
  ·skip
   refine w_val_g (v := .string (str text)) (wy rfl rfl (eb (df aa))) (y_mv es) (w_val_g (wy rfl rfl (eb (df aa))) (y_len es Tryz.underlying9) (w_val_g (wy rfl rfl (eb (df aa))) (y_bin ei Ev.c b_gtr) (w_val_g (v := .bool (decide (700 < ((text.length : Nat) : Int)))) (wy rfl rfl (eb (df aa))) (y_mv eb) ?_)))
   by_cases ad : 700 < ((text.length : Nat) : Int)
   ·skip
    refine w_val_g (v := .string (str text)) (wy rfl rfl (eb (dt ad))) (y_mv es) (w_val_g (wy rfl rfl (eb (dt ad))) (y_len es Tryz.underlying9) (w_val_g (wy rfl rfl (eb (dt ad))) (y_bin ei Ev.c b_leq) (w_val_g (wy rfl rfl (eb (df aa))) (y_pick_t (eb (dt ad)) eb) (w_val (y_pick_f (eb (df aa)) eb) (w_as eb (nt (wp_ret (fin_ret1 rfl eb ?_))))))))
    refine ⟨congrArg Ending.returned ?_, hk⟩
    show (.bool (decide (((text.length : Nat) : Int) ≤ 140000)) : Value) = .bool true
    first | with_reducible rfl | (exfalso; omega) | (exact congrArg Value.bool (decide_eq_true om))
   ·skip
    with_reducible refine w_skip ?_ ?_
    exact wn rfl rfl (eb (df ad))
    with_reducible refine w_skip ?_ ?_
    exact wn rfl rfl (eb (df ad))
    with_reducible refine w_skip ?_ ?_
    exact wn rfl rfl (eb (df ad))
    refine w_val_g (wy rfl rfl (eb (df aa))) (y_pick_f (eb (df ad)) Ev.c) (w_val (y_pick_f (eb (df aa)) eb) (w_as eb (nt (wp_ret (fin_ret1 rfl eb ?_)))))
    refine ⟨congrArg Ending.returned ?_, hk⟩
    show (.bool false : Value) = .bool true
    first | with_reducible rfl | (exfalso; omega) | (exact congrArg Value.bool (decide_eq_true om))
 ·skip
  with_reducible refine w_skip ?_ ?_
  exact wn rfl rfl (eb (df ac))
  with_reducible refine w_skip ?_ ?_
  exact wn rfl rfl (eb (df ac))
  with_reducible refine w_skip ?_ ?_
  exact wn rfl rfl (eb (df ac))
  with_reducible refine w_skip ?_ ?_
  exact wn rfl rfl (eb (df ac))
  refine w_val (y_pick_f (eb (df ac)) Ev.c) (w_mv eb (w_val_g (v := .string (str text)) (wy rfl rfl eb) (y_mv es) (w_val_g (wy rfl rfl eb) (y_len es Tryz.underlying9) (w_val_g (wy rfl rfl eb) (y_bin ei Ev.c b_gtr) (w_val_g (v := .bool (decide (700 < ((text.length : Nat) : Int)))) (wy rfl rfl eb) (y_mv eb) ?_)))))
  by_cases af : 700 < ((text.length : Nat) : Int)
  ·skip
   refine w_val_g (v := .string (str text)) (wy rfl rfl (eb (dt af))) (y_mv es) (w_val_g (wy rfl rfl (eb (dt af))) (y_len es Tryz.underlying9) (w_val_g (wy rfl rfl (eb (dt af))) (y_bin ei Ev.c b_leq) (w_val_g (wy rfl rfl eb) (y_pick_t (eb (dt af)) eb) (w_val (y_pick_f eb eb) (w_as eb (nt (wp_ret (fin_ret1 rfl eb ?_))))))))
   refine ⟨congrArg Ending.returned ?_, hk⟩
   show (.bool (decide (((text.length : Nat) : Int) ≤ 140000)) : Value) = .bool true
   first | with_reducible rfl | (exfalso; omega) | (exact congrArg Value.bool (decide_eq_true om))
  ·skip
   with_reducible refine w_skip ?_ ?_
   exact wn rfl rfl (eb (df af))
   with_reducible refine w_skip ?_ ?_
   exact wn rfl rfl (eb (df af))
   with_reducible refine w_skip ?_ ?_
   exact wn rfl rfl (eb (df af))
   refine w_val_g (wy rfl rfl eb) (y_pick_f (eb (df af)) Ev.c) (w_val (y_pick_f eb eb) (w_as eb (nt (wp_ret (fin_ret1 rfl eb ?_)))))
   refine ⟨congrArg Ending.returned ?_, hk⟩
   show (.bool false : Value) = .bool true
   first | with_reducible rfl | (exfalso; omega) | (exact congrArg Value.bool (decide_eq_true om))

theorem suLong_f (alg : Int) (key iv aad text : List (BitVec 8)) (h : ¬ (700 < aad.length ∧ aad.length ≤ 70000 ∨ 700 < text.length ∧ text.length ≤ 140000)) (w0 : World) : Calls Tryz.prog 5 #[.agg (arr 4 (fun j => if j < 1 then .int .i64 alg else if j < 2 then .string (str key) else if j < 3 then .string (str iv) else .string (str aad))), .string (str text)] w0 fun e w' => e = .returned (.bool false) ∧ Below w0.heap.size w0 w' := by
 refine enter (n := 25) Tryz.func5 rfl rfl rfl ?_
 have hk : Below w0.heap.size w0 w0 := Below.refl _ _
 refine sr (w_box (m := 4) (F := fun j => if j < 1 then .int .i64 alg else if j < 2 then .string (str key) else if j < 3 then .string (str iv) else .string (str aad)) ea rfl ?_)
 intro ag w1 ab ae ai
 have ah := gb_ hk.size ab
 clear ab
 replace hk := thenB hk ai
 refine w_as Ev.c (nt (sr (w_val (v := pt ag 3) (y_off (y_fa (ex (pt ag 0)) (SuLawMT.fa23_3 _ _)) ro) (w_val (v := .string (str aad)) (y_ld (ex (pt ag 3)) SuLawMT.sc9 (ae.val om (ng (ng (ng dv))))) (w_val (y_len es Tryz.underlying9) (w_val (y_bin ei Ev.c b_gtr) (w_mv eb ?_)))))))
 by_cases ac : 700 < ((aad.length : Nat) : Int)
 ·skip
  refine w_val_g (v := pt ag 3) (wy rfl rfl (eb (dt ac))) (y_off (y_fa (ex (pt ag 0)) (SuLawMT.fa23_3 _ _)) ro) (w_val_g (v := .string (str aad)) (wy rfl rfl (eb (dt ac))) (y_ld (ex (pt ag 3)) SuLawMT.sc9 (ae.val om (ng (ng (ng dv))))) (w_val_g (wy rfl rfl (eb (dt ac))) (y_len es Tryz.underlying9) (w_val_g (wy rfl rfl (eb (dt ac))) (y_bin ei Ev.c b_leq) (w_val (y_pick_t (eb (dt ac)) eb) (w_mv eb ?_)))))
  by_cases aa : ((aad.length : Nat) : Int) ≤ 70000
  ·skip
   with_reducible refine w_skip ?_ ?_
   exact wn rfl rfl (eb (dt aa))
   with_reducible refine w_skip ?_ ?_
   exact wn rfl rfl (eb (dt aa))
   with_reducible refine w_skip ?_ ?_
   exact wn rfl rfl (eb (dt aa))
   with_reducible refine w_skip ?_ ?_
   exact wn rfl rfl (eb (dt aa))
   with_reducible refine w_skip ?_ ?_
   exact wu rfl rfl (ex undef)
   with_reducible refine w_skip ?_ ?_
   exact wu rfl rfl (ex undef)
   with_reducible refine w_skip ?_ ?_
   exact wu rfl rfl (ex undef)
   with_reducible refine w_skip ?_ ?_
   exact wn rfl rfl (eb (dt aa))
   refine w_val (y_pick_t (eb (dt aa)) Ev.c) (w_as eb (nt (wp_ret (fin_ret1 rfl eb ?_))))
   refine ⟨congrArg Ending.returned ?_, hk⟩
   show (.bool true : Value) = .bool false
   first | with_reducible rfl | (exfalso; omega) | (exact congrArg Value.bool (decide_eq_false om))
  ·skip
   refine w_val_g (v := .string (str text)) (wy rfl rfl (eb (df aa))) (y_mv es) (w_val_g (wy rfl rfl (eb (df aa))) (y_len es Tryz.underlying9) (w_val_g (wy rfl rfl (eb (df aa))) (y_bin ei Ev.c b_gtr) (w_val_g (v := .bool (decide (700 < ((text.length : Nat) : Int)))) (wy rfl rfl (eb (df aa))) (y_mv eb) ?_)))
   by_cases ad : 700 < ((text.length : Nat) : Int)
   ·skip
    refine w_val_g (v := .string (str text)) (wy rfl rfl (eb (dt ad))) (y_mv es) (w_val_g (wy rfl rfl (eb (dt ad))) (y_len es Tryz.underlying9) (w_val_g (wy rfl rfl (eb (dt ad))) (y_bin ei Ev.c b_leq) (w_val_g (wy rfl rfl (eb (df aa))) (y_pick_t (eb (dt ad)) eb) (w_val (y_pick_f (eb (df aa)) eb) (w_as eb (nt (wp_ret (fin_ret1 rfl eb ?_))))))))
    refine ⟨congrArg Ending.returned ?_, hk⟩
    show (.bool (decide (((text.length : Nat) : Int) ≤ 140000)) : Value) = .bool false
    first | with_reducible rfl | (exfalso; omega) | (exact congrArg Value.bool (decide_eq_false om))
   ·skip
    with_reducible refine w_skip ?_ ?_
    exact wn rfl rfl (eb (df ad))
    with_reducible refine w_skip ?_ ?_
    exact wn rfl rfl (eb (df ad))
    with_reducible refine w_skip ?_ ?_
    exact wn rfl rfl (eb (df ad))
    refine w_val_g (wy rfl rfl (eb (df aa))) (y_pick_f (eb (df ad)) Ev.c) (w_val (y_pick_f (eb (df aa)) eb) (w_as eb (nt (wp_ret (fin_ret1 rfl eb ?_)))))
    exact ⟨rfl, hk⟩
 ·skip
  with_reducible refine w_skip ?_ ?_
  exact wn rfl rfl (eb (df ac))
  with_reducible refine w_skip ?_ ?_
  exact wn rfl rfl (eb (df ac))
  with_reducible refine w_skip ?_ ?_
  exact wn rfl rfl (eb (df ac))
  with_reducible refine w_skip ?_ ?_
  exact wn rfl rfl (eb (df ac))
  refine w_val (y_pick_f (eb (df ac)) Ev.c) (w_mv eb (w_val_g (v := .string (str text)) (wy rfl rfl eb) (y_mv es) (w_val_g (wy rfl rfl eb) (y_len es Tryz.underlying9) (w_val_g (wy rfl rfl eb) (y_bin ei Ev.c b_gtr) (w_val_g (v := .bool (decide (700 < ((text.length : Nat) : Int)))) (wy rfl rfl eb) (y_mv eb) ?_)))))
  by_cases af : 700 < ((text.length : Nat) : Int)
  ·skip
   refine w_val_g (v := .string (str text)) (wy rfl rfl (eb (dt af))) (y_mv es) (w_val_g (wy rfl rfl (eb (dt af))) (y_len es Tryz.underlying9) (w_val_g (wy rfl rfl (eb (dt af))) (y_bin ei Ev.c b_leq) (w_val_g (wy rfl rfl eb) (y_pick_t (eb (dt af)) eb) (w_val (y_pick_f eb eb) (w_as eb (nt (wp_ret (fin_ret1 rfl eb ?_))))))))
   refine ⟨congrArg Ending.returned ?_, hk⟩
   show (.bool (decide (((text.length : Nat) : Int) ≤ 140000)) : Value) = .bool false
   first | with_reducible rfl | (exfalso; omega) | (exact congrArg Value.bool (decide_eq_false om))
  ·skip
   with_reducible refine w_skip ?_ ?_
   exact wn rfl rfl (eb (df af))
   with_reducible refine w_skip ?_ ?_
   exact wn rfl rfl (eb (df af))
   with_reducible refine w_skip ?_ ?_
   exact wn rfl rfl (eb (df af))
   refine w_val_g (wy rfl rfl eb) (y_pick_f (eb (df af)) Ev.c) (w_val (y_pick_f eb eb) (w_as eb (nt (wp_ret (fin_ret1 rfl eb ?_)))))
   exact ⟨rfl, hk⟩

theorem suiteMacs_l (f : Nat → BitVec 64) (alg : Int) (key iv aad text : List (BitVec 8)) (tag : List (BitVec 8)) (h : 700 < aad.length ∧ aad.length ≤ 70000 ∨ 700 < text.length ∧ text.length ≤ 140000) (w0 : World) (hF : Gh.Fold w0 f) : Calls Tryz.prog 3 #[.agg (arr 4 (fun j => if j < 1 then .int .i64 alg else if j < 2 then .string (str key) else if j < 3 then .string (str iv) else .string (str aad))), .string (str text), .string (str tag)] w0 fun e w' => e = .returned (.bool true) ∧ Below w0.heap.size w0 w' := by
 have ah := hF.2
 refine enter (n := 71) Tryz.func3 rfl rfl rfl ?_
 have hk : Below w0.heap.size w0 w0 := Below.refl _ _
 refine sr (w_box (m := 4) (F := fun j => if j < 1 then .int .i64 alg else if j < 2 then .string (str key) else if j < 3 then .string (str iv) else .string (str aad)) ea rfl ?_)
 intro ag w1 ab aa af
 have ae := gb_ hk.size ab
 clear ab
 replace hk := thenB hk af
 replace hF := Gh.Fold.below hF af
 refine w_as Ev.c (nt (wp_seq (sr (w_call (Tryz.func4) kr rfl m0 (suWakes f w1 hF) ?_))))
 rintro _ w3 ⟨rfl, ac⟩
 refine ⟨_, rfl, ?_⟩
 replace aa := aa.step ac
 replace hk := thenB hk ac
 replace hF := Gh.Fold.below hF ac
 refine w_val (y_not eb) (nt (c_ff eb (wp_skip (then_n (wp_seq (sr (w_val (v := .agg (arr 4 (fun j => if j < 1 then .int .i64 alg else if j < 2 then .string (str key) else if j < 3 then .string (str iv) else .string (str aad)))) (y_lda (ex (pt ag 0)) SuLawMT.ag23 SuLawMT.sz23 (fun j hj => by rw [Nat.zero_add]; exact (aa.cell om))) (w_mv es (w_call (Tryz.func5) kr rfl (m2 ea es) (suLong_t alg key iv aad text h w3) ?_)))))))))
 rintro _ w5 ⟨rfl, ad⟩
 refine ⟨_, rfl, ?_⟩
 replace aa := aa.step ad
 replace hk := thenB hk ad
 replace hF := Gh.Fold.below hF ad
 refine nt (c_tt eb (sr (w_as Ev.c (nt (wp_ret (then_r (fin_ret1 rfl eb ?_)))))))
 exact ⟨rfl, hk⟩

theorem suiteMacs_g (f : Nat → BitVec 64) (alg : Int) (key iv aad text : List (BitVec 8)) (tag : List (BitVec 8)) (h : ¬ (700 < aad.length ∧ aad.length ≤ 70000 ∨ 700 < text.length ∧ text.length ≤ 140000)) (s : List (BitVec 8)) (oe oc : Int) (hM : ∀ w, Sha.Tabs w → Calls Tryz.prog 6 #[.int .i64 alg, .string (str key), .string (str text)] w fun e w' => e = .returned (.tuple #[.string (str s), .int .i64 oe]) ∧ Below w.heap.size w w') (hR : ∀ w, Sha.Tabs w → Calls Tryz.prog 7 #[.int .i64 alg, .string (str key), .string (str text)] w fun e w' => e = .returned (.tuple #[.string (str s), .int .i64 oe]) ∧ Below w.heap.size w w') (hC : ∀ w, Sha.Tabs w → Calls Tryz.prog 8 #[.int .i64 alg, .string (str key), .string (str text), .string (str tag)] w fun e w' => e = .returned (.int .i64 oc) ∧ Below w.heap.size w w') (hD : ∀ w, Sha.Tabs w → Calls Tryz.prog 9 #[.int .i64 alg, .string (str key), .string (str text), .string (str tag)] w fun e w' => e = .returned (.int .i64 oc) ∧ Below w.heap.size w w') (hS : oe = 0 → ∀ w, Sha.Tabs w → Calls Tryz.prog 8 #[.int .i64 alg, .string (str key), .string (str text), .string (str s)] w fun e w' => e = .returned (.int .i64 0) ∧ Below w.heap.size w w') (w0 : World) (hF : Gh.Fold w0 f) (hT : Sha.Tabs w0) : Calls Tryz.prog 3 #[.agg (arr 4 (fun j => if j < 1 then .int .i64 alg else if j < 2 then .string (str key) else if j < 3 then .string (str iv) else .string (str aad))), .string (str text), .string (str tag)] w0 fun e w' => e = .returned (.bool true) ∧ Below w0.heap.size w0 w' := by
 have ar := hT.lt
 have aq := hF.2
 refine enter (n := 71) Tryz.func3 rfl rfl rfl ?_
 have hk : Below w0.heap.size w0 w0 := Below.refl _ _
 refine sr (w_box (m := 4) (F := fun j => if j < 1 then .int .i64 alg else if j < 2 then .string (str key) else if j < 3 then .string (str iv) else .string (str aad)) ea rfl ?_)
 intro ad w1 ae aa al
 have am := gb_ hk.size ae
 clear ae
 replace hk := thenB hk al
 replace hF := Gh.Fold.below hF al
 replace hT := Sha.Tabs.below hT al
 refine w_as Ev.c (nt (wp_seq (sr (w_call (Tryz.func4) kr rfl m0 (suWakes f w1 hF) ?_))))
 rintro _ w3 ⟨rfl, aj⟩
 refine ⟨_, rfl, ?_⟩
 replace aa := aa.step aj
 replace hk := thenB hk aj
 replace hF := Gh.Fold.below hF aj
 replace hT := Sha.Tabs.below hT aj
 refine w_val (y_not eb) (nt (c_ff eb (wp_skip (then_n (wp_seq (sr (w_val (v := .agg (arr 4 (fun j => if j < 1 then .int .i64 alg else if j < 2 then .string (str key) else if j < 3 then .string (str iv) else .string (str aad)))) (y_lda (ex (pt ad 0)) SuLawMT.ag23 SuLawMT.sz23 (fun j hj => by rw [Nat.zero_add]; exact (aa.cell om))) (w_mv es (w_call (Tryz.func5) kr rfl (m2 ea es) (suLong_f alg key iv aad text h w3) ?_)))))))))
 rintro _ w5 ⟨rfl, ai⟩
 refine ⟨_, rfl, ?_⟩
 replace aa := aa.step ai
 replace hk := thenB hk ai
 replace hF := Gh.Fold.below hF ai
 replace hT := Sha.Tabs.below hT ai
 refine nt (c_ff eb (wp_skip (then_n (sr (w_val (v := pt ad 0) (y_off (y_fa (ex (pt ad 0)) (SuLawMT.fa23_0 _ _)) ro) (w_val (v := .int .i64 alg) (y_ld (ex (pt ad 0)) SuLawMT.sc3 (aa.val om pz)) (w_val (v := pt ad 1) (y_off (y_fa (ex (pt ad 0)) (SuLawMT.fa23_1 _ _)) ro) (w_val (v := .string (str key)) (y_ld (ex (pt ad 1)) SuLawMT.sc9 (aa.val om (ng pz))) (w_mv es (w_call (Tryz.func6) kr rfl (m3 ei es es) (hM w5 hT) ?_))))))))))
 rintro _ w7 ⟨rfl, ak⟩
 refine ⟨_, rfl, ?_⟩
 replace aa := aa.step ak
 replace hk := thenB hk ak
 replace hF := Gh.Fold.below hF ak
 replace hT := Sha.Tabs.below hT ak
 refine w_mv (ex (.tuple #[.string (str s), .int .i64 oe])) (w_val ye (w_val ye (w_as es (w_as ei (nt (sr (w_val (v := pt ad 0) (y_off (y_fa (ex (pt ad 0)) (SuLawMT.fa23_0 _ _)) ro) (w_val (v := .int .i64 alg) (y_ld (ex (pt ad 0)) SuLawMT.sc3 (aa.val om pz)) (w_val (v := pt ad 1) (y_off (y_fa (ex (pt ad 0)) (SuLawMT.fa23_1 _ _)) ro) (w_val (v := .string (str key)) (y_ld (ex (pt ad 1)) SuLawMT.sc9 (aa.val om (ng pz))) (w_mv es (w_call (Tryz.func7) kr rfl (m3 ei es es) (hR w7 hT) ?_))))))))))))
 rintro _ w9 ⟨rfl, af⟩
 refine ⟨_, rfl, ?_⟩
 replace aa := aa.step af
 replace hk := thenB hk af
 replace hF := Gh.Fold.below hF af
 replace hT := Sha.Tabs.below hT af
 refine w_mv (ex (.tuple #[.string (str s), .int .i64 oe])) (w_val ye (w_val ye (w_as es (w_as ei (nt (ss (region_q SuLawMT.mixed kr (q_mv es (q_mv es (q_val (fun w' hw' => y_bin es es b_nes_same) (q_mv eb (q_val_g (v := .int .i64 oe) (wy rfl rfl eb) (fun w' hw' => y_mv ei) (q_val_g (v := .int .i64 oe) (wy rfl rfl eb) (fun w' hw' => y_mv ei) (q_val_g (wy rfl rfl eb) (fun w' hw' => y_bin ei ei b_neq) (q_val (fun w' hw' => y_pick_f eb eb) (q_mv eb ?_))))))))))))))))
 have ac : ¬ (oe ≠ oe) := by exact fun h => h rfl
 refine q_val_g (v := pt ad 0) (wy rfl rfl (eb (df ac))) (fun w' hw' => y_off (y_fa (ex (pt ad 0)) (SuLawMT.fa23_0 _ _)) ro) (q_val_g (v := .int .i64 alg) (wy rfl rfl (eb (df ac))) (fun w' hw' => y_ld (ex (pt ad 0)) SuLawMT.sc3 (cls_cell (aa.val om pz) aa.lt w' hw')) (q_val_g (v := pt ad 1) (wy rfl rfl (eb (df ac))) (fun w' hw' => y_off (y_fa (ex (pt ad 0)) (SuLawMT.fa23_1 _ _)) ro) (q_val_g (v := .string (str key)) (wy rfl rfl (eb (df ac))) (fun w' hw' => y_ld (ex (pt ad 1)) SuLawMT.sc9 (cls_cell (aa.val om (ng pz)) aa.lt w' hw')) (q_val_g (v := .string (str text)) (wy rfl rfl (eb (df ac))) (fun w' hw' => y_mv es) (q_val_g (v := .string (str tag)) (wy rfl rfl (eb (df ac))) (fun w' hw' => y_mv es) (q_unguard (wy rfl rfl (eb (df ac))) (q_call (v := .int .i64 oc) (Tryz.func8) kr rfl (m4 ei es es es) (fun w' hw' => hC w' (Sha.Tabs.below hT hw')) (q_val_g (v := pt ad 0) (wy rfl rfl (eb (df ac))) (fun w' hw' => y_off (y_fa (ex (pt ad 0)) (SuLawMT.fa23_0 _ _)) ro) (q_val_g (v := .int .i64 alg) (wy rfl rfl (eb (df ac))) (fun w' hw' => y_ld (ex (pt ad 0)) SuLawMT.sc3 (cls_cell (aa.val om pz) aa.lt w' hw')) (q_val_g (v := pt ad 1) (wy rfl rfl (eb (df ac))) (fun w' hw' => y_off (y_fa (ex (pt ad 0)) (SuLawMT.fa23_1 _ _)) ro) (q_val_g (v := .string (str key)) (wy rfl rfl (eb (df ac))) (fun w' hw' => y_ld (ex (pt ad 1)) SuLawMT.sc9 (cls_cell (aa.val om (ng pz)) aa.lt w' hw')) (q_val_g (v := .string (str text)) (wy rfl rfl (eb (df ac))) (fun w' hw' => y_mv es) (q_val_g (v := .string (str tag)) (wy rfl rfl (eb (df ac))) (fun w' hw' => y_mv es) (q_unguard (wy rfl rfl (eb (df ac))) (q_call (v := .int .i64 oc) (Tryz.func9) kr rfl (m4 ei es es es) (fun w' hw' => hD w' (Sha.Tabs.below hT hw')) (q_val_g (wy rfl rfl (eb (df ac))) (fun w' hw' => y_bin ei ei b_neq) (q_val (fun w' hw' => y_pick_f (eb (df ac)) eb) (q_nil ?_))))))))))))))))))
 intro ao ag
 replace aa := aa.step ag
 replace hk := thenB hk ag
 replace hF := Gh.Fold.below hF ag
 replace hT := Sha.Tabs.below hT ag
 refine then_n ?_
 have an : ¬ (oc ≠ oc) := by exact fun h => h rfl
 refine c_f (p := oc ≠ oc) eb an (wp_skip (then_n (sr (w_mv ei (w_val (y_bin ei Ev.c b_neq) (w_mv eb ?_))))))
 by_cases ab : oe ≠ 0
 ·skip
  with_reducible refine w_skip ?_ ?_
  exact wn rfl rfl (eb (dt ab))
  with_reducible refine w_skip ?_ ?_
  exact wn rfl rfl (eb (dt ab))
  with_reducible refine w_skip ?_ ?_
  exact wn rfl rfl (eb (dt ab))
  with_reducible refine w_skip ?_ ?_
  exact wn rfl rfl (eb (dt ab))
  with_reducible refine w_skip ?_ ?_
  exact wn rfl rfl (eb (dt ab))
  with_reducible refine w_skip ?_ ?_
  exact wn rfl rfl (eb (dt ab))
  with_reducible refine w_skip ?_ ?_
  exact wn rfl rfl (eb (dt ab))
  with_reducible refine w_skip ?_ ?_
  exact wn rfl rfl (eb (dt ab))
  refine w_val (y_pick_t (eb (dt ab)) Ev.c) (w_as eb (nt (wp_ret (fin_ret1 rfl eb ?_))))
  exact ⟨rfl, hk⟩
 ·skip
  refine w_val_g (v := pt ad 0) (wy rfl rfl (eb (df ab))) (y_off (y_fa (ex (pt ad 0)) (SuLawMT.fa23_0 _ _)) ro) (w_val_g (v := .int .i64 alg) (wy rfl rfl (eb (df ab))) (y_ld (ex (pt ad 0)) SuLawMT.sc3 (aa.val om pz)) (w_val_g (v := pt ad 1) (wy rfl rfl (eb (df ab))) (y_off (y_fa (ex (pt ad 0)) (SuLawMT.fa23_1 _ _)) ro) (w_val_g (v := .string (str key)) (wy rfl rfl (eb (df ab))) (y_ld (ex (pt ad 1)) SuLawMT.sc9 (aa.val om (ng pz))) (w_val_g (v := .string (str text)) (wy rfl rfl (eb (df ab))) (y_mv es) (w_val_g (v := .string (str s)) (wy rfl rfl (eb (df ab))) (y_mv es) (w_unguard (wy rfl rfl (eb (df ab))) (w_call (Tryz.func8) kr rfl (m4 ei es es es) ((hS (by first | assumption | exact Decidable.not_not.1 (by assumption))) ao hT) ?_)))))))
  rintro _ ap ⟨rfl, ah⟩
  refine ⟨_, rfl, ?_⟩
  replace aa := aa.step ah
  replace hk := thenB hk ah
  replace hF := Gh.Fold.below hF ah
  replace hT := Sha.Tabs.below hT ah
  refine w_val_g (wy rfl rfl (eb (df ab))) (y_bin ei Ev.c b_eql) (w_val (y_pick_f (eb (df ab)) eb) (w_as eb (nt (wp_ret (fin_ret1 rfl eb ?_)))))
  exact ⟨rfl, hk⟩

theorem walk_SuiteMacs (f : Nat → BitVec 64) (alg : Int) (hw : (Lit.int .i64 alg).wf = true) (key : List (BitVec 8)) (hk : key.length ≤ 140737488351232) (iv : List (BitVec 8)) (hv : iv.length ≤ 140737488351232) (aad : List (BitVec 8)) (ha : aad.length ≤ 140737488351232) (text : List (BitVec 8)) (ht : text.length ≤ 140737488351232) (tag : List (BitVec 8)) (hg : tag.length ≤ 140737488351232) (w : World) (hF : Gh.Fold w f) (hT : Sha.Tabs w) : Calls Tryz.prog 3 #[.agg #[.int .i64 alg, .string (str key), .string (str iv), .string (str aad)], .string (str text), .string (str tag)] w fun e w' => e = .returned (.bool true) ∧ Below w.heap.size w w' := by
  by_cases h : 700 < aad.length ∧ aad.length ≤ 70000 ∨ 700 < text.length ∧ text.length ≤ 140000
  · exact suiteMacs_l f alg key iv aad text tag h w hF
  · by_cases hn : ∀ i : Nat, i < 22 → ((Su.al i : Nat) : Int) ≠ alg
    · exact suiteMacs_g f alg key iv aad text tag h [] 11 11 (fun w _ => suMac_r alg 0 0 0 11 (fun w => suOf_n alg hn w) (.inl (by decide)) key text w) (fun w _ => suRefMac_r alg 0 0 0 0 0 (fun w => refOf_n alg hn w) (.inl rfl) key text w)
        (fun w _ => suCheck_r alg 0 0 0 11 (fun w => suOf_n alg hn w) (.inl (by decide)) key text tag w) (fun w _ => suRefCheck_r alg 0 0 0 0 0 (fun w => refOf_n alg hn w) (.inl rfl) key text tag w) (fun e => absurd e (by decide)) w hF hT
    · obtain ⟨i, hi, rfl⟩ := Su.some_row alg hn
      by_cases aa : 14 ≤ i
      · exact suiteMacs_g f _ key iv aad text tag h (Su.ms i key text).1 (Su.ms i key text).2 (Su.ce i key text tag) (fun w hT => suMacs i aa hi key text ht w hT) (fun w _ => suRefMacs i aa hi key text ht w) (fun w hT => suCheck i aa hi key text tag ht w hT) (fun w _ => suRefCheck i aa hi key text tag ht w)
          (fun e w hT => by rw [← Su.ce_ms i key text aa hi e]; exact suCheck i aa hi key text (Su.ms i key text).1 ht w hT) w hF hT
      · have hc := Su.crow i om
        exact suiteMacs_g f _ key iv aad text tag h [] 11 11 (fun w _ => suMac_r _ _ _ _ 0 (fun w => suOf_y i hi w) (.inr om) key text w) (fun w _ => suRefMac_r _ _ _ _ _ _ (fun w => refOf_y i hi w) (.inr om) key text w)
          (fun w _ => suCheck_r _ _ _ _ 0 (fun w => suOf_y i hi w) (.inr om) key text tag w) (fun w _ => suRefCheck_r _ _ _ _ _ _ (fun w => refOf_y i hi w) (.inr om) key text tag w) (fun e => absurd e (by decide)) w hF hT
end Go.Proofs.YtdmbfimjbmfbaaaGreatDoor
