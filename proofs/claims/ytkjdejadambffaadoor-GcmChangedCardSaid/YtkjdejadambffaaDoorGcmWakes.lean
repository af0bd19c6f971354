/-
  The laws of gcm: their waking, what is long. No conditions.
-/
import Derived.Test.YtkjdejadambffaaDoorRows
import Derived.Test.YtkjdejadambffaaDoorGcmB
import Derived.Test.YtkjdejadambffaaDoorGcmD
import Derived.Test.YtkjdejadambffaaDoorGen
import Derived.ProofKit
namespace Go.Proofs.YtkjdejadambffaaDoor
open Go.RowKit
set_option linter.unusedSimpArgs false
set_option linter.unusedVariables false
set_option maxRecDepth 100000
set_option maxHeartbeats 1000000
namespace GcmWakesT
theorem mixed : Tryd.prog.follows .mixedOrders = true := by kernel_rfl
theorem fa23_2 (g off : Nat) : ∀ w, (Instr.fieldAt 23 (.pointer (some ⟨g, off, none⟩)) 2).run Tryd.prog w = .ok (.pointer (some ⟨g, off + 2, none⟩)) w := fun w => by kernel_rfl
theorem sc9 : (Tryd.prog.underlying 9).map scal = some true := by rw [Tryd.underlying9]; rfl
end GcmWakesT
theorem gcmWakes_c  (w0 : World) (hF : Gh.Fold w0 Gh.fo) : Calls Tryd.prog 8 #[] w0 fun e w' => e = .returned (.bool true) ∧ Below w0.heap.size w0 w' := by
 refine enter (n := 17) Tryd.func8 rfl rfl rfl ?_
 have hk : Below w0.heap.size w0 w0 := Below.refl _ _
 refine sr ?_
 refine w_as Ev.c ?_
 refine nt ?_
 refine sr ?_
 refine w_as (evc (.string (str Gm.wz))) ?_
 refine nt ?_
 refine sr ?_
 refine w_mv es ?_
 refine w_mv es ?_
 refine w_val (v := .string (str (Gm.wz.take 12))) (y_sls (ex (.string (str Gm.wz))) evo.no (evo.s Ev.c) Tryd.underlying9 (bnd_h (h := 12) (by omega) (by decide))) ?_
 refine w_call (Tryd.func10) (by kernel_rfl) rfl (m5 es es (evc (.string (str ([] : List (BitVec 8))))) (evc (.string (str ([] : List (BitVec 8))))) Ev.c) (gmSeal_y Gh.fo Gm.wz (Gm.wz.take 12) [] 16 (Or.inl rfl) (by decide) (by decide) (by decide) (by decide) [] (by decide) (by decide) w0 hF) ?_
 rintro _ w1 ⟨rfl, hb2⟩
 refine ⟨_, rfl, ?_⟩
 replace hk := thenB hk hb2
 replace hF := Gh.Fold.below hF hb2
 refine w_mv (ex (.tuple #[.string (str (Gm.sealed Gh.fo Gm.wz (Gm.wz.take 12) [] [] 16)), .int .i64 0])) ?_
 refine w_val ye ?_
 refine w_val ye ?_
 refine w_as es ?_
 refine w_as ei ?_
 refine nt ?_
 refine sr ?_
 refine w_mv ei ?_
 refine w_val (y_bin ei Ev.c b_eql) ?_
 refine w_mv eb ?_
 refine w_val_g (v := .string (str (Gm.sealed Gh.fo Gm.wz (Gm.wz.take 12) [] [] 16))) (wy rfl rfl eb) (y_mv es) ?_
 refine w_val_g (wy rfl rfl eb) (y_bin es (evc (.string (str Gm.wo))) b_eqs) ?_
 refine w_val (y_pick_t eb eb) ?_
 refine w_as eb ?_
 refine nt ?_
 refine wp_ret ?_
 have hc3 : (Gm.sealed Gh.fo Gm.wz (Gm.wz.take 12) [] [] 16) = Gm.wo := by exact Gm.wakes
 refine fin_ret1 rfl (eb (dt hc3)) ?_
 exact ⟨rfl, hk⟩

theorem gcmLong_t (key v aad : List (BitVec 8)) (size : Int) (text : List (BitVec 8)) (h : 700 < aad.length ∧ aad.length ≤ 70000 ∨ 700 < text.length ∧ text.length ≤ 70016) (w0 : World) : Calls Tryd.prog 9 #[.agg (arr 4 (fun j => if j < 1 then .string (str key) else if j < 2 then .string (str v) else if j < 3 then .string (str aad) else .int .i64 size)), .string (str text)] w0 fun e w' => e = .returned (.bool true) ∧ Below w0.heap.size w0 w' := by
 refine enter (n := 25) Tryd.func9 rfl rfl rfl ?_
 have hk : Below w0.heap.size w0 w0 := Below.refl _ _
 refine sr ?_
 refine w_box (m := 4) (F := fun j => if j < 1 then .string (str key) else if j < 2 then .string (str v) else if j < 3 then .string (str aad) else .int .i64 size) ea rfl ?_
 intro b_b w1 hbe_b_b r_b_b hb2
 have ge_b_b := gb_ hk.size hbe_b_b
 clear hbe_b_b
 replace hk := thenB hk hb2
 refine w_as Ev.c ?_
 refine nt ?_
 refine sr ?_
 refine w_val (v := pt b_b 2) (y_off (y_fa (ex (pt b_b 0)) (GcmWakesT.fa23_2 _ _)) (by first | rfl | omega)) ?_
 refine w_val (v := .string (str aad)) (y_ld (ex (pt b_b 2)) GcmWakesT.sc9 (r_b_b.val (by omega) ((if_neg (by omega)).trans ((if_neg (by omega)).trans (etv (if_pos (by omega))))))) ?_
 refine w_val (y_len es Tryd.underlying9) ?_
 refine w_val (y_bin ei Ev.c b_gtr) ?_
 refine w_mv eb ?_
 by_cases hc3 : 700 < ((aad.length : Nat) : Int)
 ·skip
  refine w_val_g (v := pt b_b 2) (wy rfl rfl (eb (dt hc3))) (y_off (y_fa (ex (pt b_b 0)) (GcmWakesT.fa23_2 _ _)) (by first | rfl | omega)) ?_
  refine w_val_g (v := .string (str aad)) (wy rfl rfl (eb (dt hc3))) (y_ld (ex (pt b_b 2)) GcmWakesT.sc9 (r_b_b.val (by omega) ((if_neg (by omega)).trans ((if_neg (by omega)).trans (etv (if_pos (by omega))))))) ?_
  refine w_val_g (wy rfl rfl (eb (dt hc3))) (y_len es Tryd.underlying9) ?_
  refine w_val_g (wy rfl rfl (eb (dt hc3))) (y_bin ei Ev.c b_leq) ?_
  refine w_val (y_pick_t (eb (dt hc3)) eb) ?_
  refine w_mv eb ?_
  by_cases hc4 : ((aad.length : Nat) : Int) ≤ 70000
  ·skip
   with_reducible refine w_skip ?_ ?_
   exact wn rfl rfl (eb (dt hc4))
   with_reducible refine w_skip ?_ ?_
   exact wn rfl rfl (eb (dt hc4))
   with_reducible refine w_skip ?_ ?_
   exact wn rfl rfl (eb (dt hc4))
   with_reducible refine w_skip ?_ ?_
   exact wn rfl rfl (eb (dt hc4))
   with_reducible refine w_skip ?_ ?_
   exact wu rfl rfl (ex undef)
   with_reducible refine w_skip ?_ ?_
   exact wu rfl rfl (ex undef)
   with_reducible refine w_skip ?_ ?_
   exact wu rfl rfl (ex undef)
   with_reducible refine w_skip ?_ ?_
   exact wn rfl rfl (eb (dt hc4))
   refine w_val (y_pick_t (eb (dt hc4)) Ev.c) ?_
   refine w_as eb ?_
   refine nt ?_
   refine wp_ret ?_
   refine fin_ret1 rfl eb ?_
   exact ⟨rfl, hk⟩
  ·skip
   refine w_val_g (v := .string (str text)) (wy rfl rfl (eb (df hc4))) (y_mv es) ?_
   refine w_val_g (wy rfl rfl (eb (df hc4))) (y_len es Tryd.underlying9) ?_
   refine w_val_g (wy rfl rfl (eb (df hc4))) (y_bin ei Ev.c b_gtr) ?_
   refine w_val_g (v := .bool (decide (700 < ((text.length : Nat) : Int)))) (wy rfl rfl (eb (df hc4))) (y_mv eb) ?_
   by_cases hc5 : 700 < ((text.length : Nat) : Int)
   ·skip
    refine w_val_g (v := .string (str text)) (wy rfl rfl (eb (dt hc5))) (y_mv es) ?_
    refine w_val_g (wy rfl rfl (eb (dt hc5))) (y_len es Tryd.underlying9) ?_
    refine w_val_g (wy rfl rfl (eb (dt hc5))) (y_bin ei Ev.c b_leq) ?_
    refine w_val_g (wy rfl rfl (eb (df hc4))) (y_pick_t (eb (dt hc5)) eb) ?_
    refine w_val (y_pick_f (eb (df hc4)) eb) ?_
    refine w_as eb ?_
    refine nt ?_
    refine wp_ret ?_
    refine fin_ret1 rfl eb ?_
    refine ⟨congrArg Ending.returned ?_, hk⟩
    show (.bool (decide (((text.length : Nat) : Int) ≤ 70016)) : Value) = .bool true
    first | with_reducible rfl | (exfalso; omega) | (exact congrArg Value.bool (decide_eq_true (by omega)))
   ·skip
    with_reducible refine w_skip ?_ ?_
    exact wn rfl rfl (eb (df hc5))
    with_reducible refine w_skip ?_ ?_
    exact wn rfl rfl (eb (df hc5))
    with_reducible refine w_skip ?_ ?_
    exact wn rfl rfl (eb (df hc5))
    refine w_val_g (wy rfl rfl (eb (df hc4))) (y_pick_f (eb (df hc5)) Ev.c) ?_
    refine w_val (y_pick_f (eb (df hc4)) eb) ?_
    refine w_as eb ?_
    refine nt ?_
    refine wp_ret ?_
    refine fin_ret1 rfl eb ?_
    refine ⟨congrArg Ending.returned ?_, hk⟩
    show (.bool false : Value) = .bool true
    first | with_reducible rfl | (exfalso; omega) | (exact congrArg Value.bool (decide_eq_true (by omega)))
 ·skip
  with_reducible refine w_skip ?_ ?_
  exact wn rfl rfl (eb (df hc3))
  with_reducible refine w_skip ?_ ?_
  exact wn rfl rfl (eb (df hc3))
  with_reducible refine w_skip ?_ ?_
  exact wn rfl rfl (eb (df hc3))
  with_reducible refine w_skip ?_ ?_
  exact wn rfl rfl (eb (df hc3))
  refine w_val (y_pick_f (eb (df hc3)) Ev.c) ?_
  refine w_mv eb ?_
  refine w_val_g (v := .string (str text)) (wy rfl rfl eb) (y_mv es) ?_
  refine w_val_g (wy rfl rfl eb) (y_len es Tryd.underlying9) ?_
  refine w_val_g (wy rfl rfl eb) (y_bin ei Ev.c b_gtr) ?_
  refine w_val_g (v := .bool (decide (700 < ((text.length : Nat) : Int)))) (wy rfl rfl eb) (y_mv eb) ?_
  by_cases hc6 : 700 < ((text.length : Nat) : Int)
  ·skip
   refine w_val_g (v := .string (str text)) (wy rfl rfl (eb (dt hc6))) (y_mv es) ?_
   refine w_val_g (wy rfl rfl (eb (dt hc6))) (y_len es Tryd.underlying9) ?_
   refine w_val_g (wy rfl rfl (eb (dt hc6))) (y_bin ei Ev.c b_leq) ?_
   refine w_val_g (wy rfl rfl eb) (y_pick_t (eb (dt hc6)) eb) ?_
   refine w_val (y_pick_f eb eb) ?_
   refine w_as eb ?_
   refine nt ?_
   refine wp_ret ?_
   refine fin_ret1 rfl eb ?_
   refine ⟨congrArg Ending.returned ?_, hk⟩
   show (.bool (decide (((text.length : Nat) : Int) ≤ 70016)) : Value) = .bool true
   first | with_reducible rfl | (exfalso; omega) | (exact congrArg Value.bool (decide_eq_true (by omega)))
  ·skip
   with_reducible refine w_skip ?_ ?_
   exact wn rfl rfl (eb (df hc6))
   with_reducible refine w_skip ?_ ?_
   exact wn rfl rfl (eb (df hc6))
   with_reducible refine w_skip ?_ ?_
   exact wn rfl rfl (eb (df hc6))
   refine w_val_g (wy rfl rfl eb) (y_pick_f (eb (df hc6)) Ev.c) ?_
   refine w_val (y_pick_f eb eb) ?_
   refine w_as eb ?_
   refine nt ?_
   refine wp_ret ?_
   refine fin_ret1 rfl eb ?_
   refine ⟨congrArg Ending.returned ?_, hk⟩
   show (.bool false : Value) = .bool true
   first | with_reducible rfl | (exfalso; omega) | (exact congrArg Value.bool (decide_eq_true (by omega)))

theorem gcmLong_f (key v aad : List (BitVec 8)) (size : Int) (text : List (BitVec 8)) (h : ¬ (700 < aad.length ∧ aad.length ≤ 70000 ∨ 700 < text.length ∧ text.length ≤ 70016)) (w0 : World) : Calls Tryd.prog 9 #[.agg (arr 4 (fun j => if j < 1 then .string (str key) else if j < 2 then .string (str v) else if j < 3 then .string (str aad) else .int .i64 size)), .string (str text)] w0 fun e w' => e = .returned (.bool false) ∧ Below w0.heap.size w0 w' := by
 refine enter (n := 25) Tryd.func9 rfl rfl rfl ?_
 have hk : Below w0.heap.size w0 w0 := Below.refl _ _
 refine sr ?_
 refine w_box (m := 4) (F := fun j => if j < 1 then .string (str key) else if j < 2 then .string (str v) else if j < 3 then .string (str aad) else .int .i64 size) ea rfl ?_
 intro b_b w1 hbe_b_b r_b_b hb2
 have ge_b_b := gb_ hk.size hbe_b_b
 clear hbe_b_b
 replace hk := thenB hk hb2
 refine w_as Ev.c ?_
 refine nt ?_
 refine sr ?_
 refine w_val (v := pt b_b 2) (y_off (y_fa (ex (pt b_b 0)) (GcmWakesT.fa23_2 _ _)) (by first | rfl | omega)) ?_
 refine w_val (v := .string (str aad)) (y_ld (ex (pt b_b 2)) GcmWakesT.sc9 (r_b_b.val (by omega) ((if_neg (by omega)).trans ((if_neg (by omega)).trans (etv (if_pos (by omega))))))) ?_
 refine w_val (y_len es Tryd.underlying9) ?_
 refine w_val (y_bin ei Ev.c b_gtr) ?_
 refine w_mv eb ?_
 by_cases hc3 : 700 < ((aad.length : Nat) : Int)
 ·skip
  refine w_val_g (v := pt b_b 2) (wy rfl rfl (eb (dt hc3))) (y_off (y_fa (ex (pt b_b 0)) (GcmWakesT.fa23_2 _ _)) (by first | rfl | omega)) ?_
  refine w_val_g (v := .string (str aad)) (wy rfl rfl (eb (dt hc3))) (y_ld (ex (pt b_b 2)) GcmWakesT.sc9 (r_b_b.val (by omega) ((if_neg (by omega)).trans ((if_neg (by omega)).trans (etv (if_pos (by omega))))))) ?_
  refine w_val_g (wy rfl rfl (eb (dt hc3))) (y_len es Tryd.underlying9) ?_
  refine w_val_g (wy rfl rfl (eb (dt hc3))) (y_bin ei Ev.c b_leq) ?_
  refine w_val (y_pick_t (eb (dt hc3)) eb) ?_
  refine w_mv eb ?_
  by_cases hc4 : ((aad.length : Nat) : Int) ≤ 70000
  ·skip
   with_reducible refine w_skip ?_ ?_
   exact wn rfl rfl (eb (dt hc4))
   with_reducible refine w_skip ?_ ?_
   exact wn rfl rfl (eb (dt hc4))
   with_reducible refine w_skip ?_ ?_
   exact wn rfl rfl (eb (dt hc4))
   with_reducible refine w_skip ?_ ?_
   exact wn rfl rfl (eb (dt hc4))
   with_reducible refine w_skip ?_ ?_
   exact wu rfl rfl (ex undef)
   with_reducible refine w_skip ?_ ?_
   exact wu rfl rfl (ex undef)
   with_reducible refine w_skip ?_ ?_
   exact wu rfl rfl (ex undef)
   with_reducible refine w_skip ?_ ?_
   exact wn rfl rfl (eb (dt hc4))
   refine w_val (y_pick_t (eb (dt hc4)) Ev.c) ?_
   refine w_as eb ?_
   refine nt ?_
   refine wp_ret ?_
   refine fin_ret1 rfl eb ?_
   refine ⟨congrArg Ending.returned ?_, hk⟩
   show (.bool true : Value) = .bool false
   first | with_reducible rfl | (exfalso; omega) | (exact congrArg Value.bool (decide_eq_false (by omega)))
  ·skip
   refine w_val_g (v := .string (str text)) (wy rfl rfl (eb (df hc4))) (y_mv es) ?_
   refine w_val_g (wy rfl rfl (eb (df hc4))) (y_len es Tryd.underlying9) ?_
   refine w_val_g (wy rfl rfl (eb (df hc4))) (y_bin ei Ev.c b_gtr) ?_
   refine w_val_g (v := .bool (decide (700 < ((text.length : Nat) : Int)))) (wy rfl rfl (eb (df hc4))) (y_mv eb) ?_
   by_cases hc5 : 700 < ((text.length : Nat) : Int)
   ·skip
    refine w_val_g (v := .string (str text)) (wy rfl rfl (eb (dt hc5))) (y_mv es) ?_
    refine w_val_g (wy rfl rfl (eb (dt hc5))) (y_len es Tryd.underlying9) ?_
    refine w_val_g (wy rfl rfl (eb (dt hc5))) (y_bin ei Ev.c b_leq) ?_
    refine w_val_g (wy rfl rfl (eb (df hc4))) (y_pick_t (eb (dt hc5)) eb) ?_
    refine w_val (y_pick_f (eb (df hc4)) eb) ?_
    refine w_as eb ?_
    refine nt ?_
    refine wp_ret ?_
    refine fin_ret1 rfl eb ?_
    refine ⟨congrArg Ending.returned ?_, hk⟩
    show (.bool (decide (((text.length : Nat) : Int) ≤ 70016)) : Value) = .bool false
    first | with_reducible rfl | (exfalso; omega) | (exact congrArg Value.bool (decide_eq_false (by omega)))
   ·skip
    with_reducible refine w_skip ?_ ?_
    exact wn rfl rfl (eb (df hc5))
    with_reducible refine w_skip ?_ ?_
    exact wn rfl rfl (eb (df hc5))
    with_reducible refine w_skip ?_ ?_
    exact wn rfl rfl (eb (df hc5))
    refine w_val_g (wy rfl rfl (eb (df hc4))) (y_pick_f (eb (df hc5)) Ev.c) ?_
    refine w_val (y_pick_f (eb (df hc4)) eb) ?_
    refine w_as eb ?_
    refine nt ?_
    refine wp_ret ?_
    refine fin_ret1 rfl eb ?_
    exact ⟨rfl, hk⟩
 ·skip
  with_reducible refine w_skip ?_ ?_
  exact wn rfl rfl (eb (df hc3))
  with_reducible refine w_skip ?_ ?_
  exact wn rfl rfl (eb (df hc3))
  with_reducible refine w_skip ?_ ?_
  exact wn rfl rfl (eb (df hc3))
  with_reducible refine w_skip ?_ ?_
  exact wn rfl rfl (eb (df hc3))
  refine w_val (y_pick_f (eb (df hc3)) Ev.c) ?_
  refine w_mv eb ?_
  refine w_val_g (v := .string (str text)) (wy rfl rfl eb) (y_mv es) ?_
  refine w_val_g (wy rfl rfl eb) (y_len es Tryd.underlying9) ?_
  refine w_val_g (wy rfl rfl eb) (y_bin ei Ev.c b_gtr) ?_
  refine w_val_g (v := .bool (decide (700 < ((text.length : Nat) : Int)))) (wy rfl rfl eb) (y_mv eb) ?_
  by_cases hc6 : 700 < ((text.length : Nat) : Int)
  ·skip
   refine w_val_g (v := .string (str text)) (wy rfl rfl (eb (dt hc6))) (y_mv es) ?_
   refine w_val_g (wy rfl rfl (eb (dt hc6))) (y_len es Tryd.underlying9) ?_
   refine w_val_g (wy rfl rfl (eb (dt hc6))) (y_bin ei Ev.c b_leq) ?_
   refine w_val_g (wy rfl rfl eb) (y_pick_t (eb (dt hc6)) eb) ?_
   refine w_val (y_pick_f eb eb) ?_
   refine w_as eb ?_
   refine nt ?_
   refine wp_ret ?_
   refine fin_ret1 rfl eb ?_
   refine ⟨congrArg Ending.returned ?_, hk⟩
   show (.bool (decide (((text.length : Nat) : Int) ≤ 70016)) : Value) = .bool false
   first | with_reducible rfl | (exfalso; omega) | (exact congrArg Value.bool (decide_eq_false (by omega)))
  ·skip
   with_reducible refine w_skip ?_ ?_
   exact wn rfl rfl (eb (df hc6))
   with_reducible refine w_skip ?_ ?_
   exact wn rfl rfl (eb (df hc6))
   with_reducible refine w_skip ?_ ?_
   exact wn rfl rfl (eb (df hc6))
   refine w_val_g (wy rfl rfl eb) (y_pick_f (eb (df hc6)) Ev.c) ?_
   refine w_val (y_pick_f eb eb) ?_
   refine w_as eb ?_
   refine nt ?_
   refine wp_ret ?_
   refine fin_ret1 rfl eb ?_
   exact ⟨rfl, hk⟩
end Go.Proofs.YtkjdejadambffaaDoor
