/-
  The laws of cbchs: their waking, what is long. No conditions.
-/
import Derived.Test.YtepogbfkmflooaaGreatDoorRows
import Derived.Test.YtepogbfkmflooaaGreatDoorChB
import Derived.Test.YtepogbfkmflooaaGreatDoorChC
import Derived.Test.YtepogbfkmflooaaGreatDoorGenSh
import Derived.ProofKit
namespace Go.Proofs.YtepogbfkmflooaaGreatDoor
open Go.RowKit
set_option linter.unusedSimpArgs false
set_option linter.unusedVariables false
set_option maxRecDepth 100000
set_option maxHeartbeats 1000000
namespace ChWakesT
theorem mixed : Tryz.prog.follows .mixedOrders = true := by kernel_rfl
theorem fa23_2 (g off : Nat) : ∀ w, (Instr.fieldAt 23 (.pointer (some ⟨g, off, none⟩)) 2).run Tryz.prog w = .ok (.pointer (some ⟨g, off + 2, none⟩)) w := fun w => by kernel_rfl
theorem sc9 : (Tryz.prog.underlying 9).map scal = some true := by rw [Tryz.underlying9]; rfl
end ChWakesT
theorem chOpenBack (key vi aad : List (BitVec 8)) (n kind : Nat) (hkd : Sha.Known kind) (hkn : kind = 16 * n) (hkl : key.length = 2 * n) (hiv : vi.length = 16) (ha : aad.length ≤ 70000) (text : List (BitVec 8)) (ht : text.length ≤ 70000) (w0 : World) (hT : Sha.Tabs w0) : Calls Tryz.prog 11 #[.string (str key), .string (str vi), .string (str aad), .string (str (Ch.sealed kind n key vi aad text))] w0 fun e w' => e = .returned (.tuple #[.string (str text), .int .i64 0]) ∧ Below w0.heap.size w0 w' := by
  have hl := Ch.sealed_len kind n key vi aad text hkd hkn
  have hc := Ch.cc_mod n key vi text
  have hok := Ch.key_ok kind n key hkd hkn hkl
  have hnc := Ch.n_cases kind n hkd hkn
  have ho := Ch.op_cc n key vi text hok hiv
  have h := chOpen_y key vi aad n kind hkd hkn hkl hiv ha (Ch.sealed kind n key vi aad text) om (Ch.cc n key vi text).length hl om om om (by rw [Ch.sealed_take, Ch.sealed_drop]) (by rw [Ch.sealed_take]; exact ho.1) w0 hT
  rw [Ch.sealed_take, ho.2] at h
  exact h

theorem chWakesBad (w0 : World) (hT : Sha.Tabs w0) : Calls Tryz.prog 11 #[.string (str Ch.wk), .string (str (Ch.wk.take 16)), .string (str Ch.wy), .string (str (Ch.sealed 256 16 Ch.wk (Ch.wk.take 16) Ch.wx Cb.wt))] w0 fun e w' => e = .returned (.tuple #[.string (str ([] : List (BitVec 8))), .int .i64 8]) ∧ Below w0.heap.size w0 w' := by
  have hl := Ch.sealed_len 256 16 Ch.wk (Ch.wk.take 16) Ch.wx Cb.wt (.inl rfl) rfl
  have hc := Ch.cc_mod 16 Ch.wk (Ch.wk.take 16) Cb.wt
  have h3 : Cb.wt.length = 3 := rfl
  exact chOpen_b Ch.wk (Ch.wk.take 16) Ch.wy 16 256 (.inl rfl) rfl rfl rfl (by decide) (Ch.sealed 256 16 Ch.wk (Ch.wk.take 16) Ch.wx Cb.wt) om (Ch.cc 16 Ch.wk (Ch.wk.take 16) Cb.wt).length hl om om om (by rw [Ch.sealed_take, Ch.sealed_drop]; exact Ch.wakes) w0 hT

theorem chWakes_c  (w0 : World) (hT : Sha.Tabs w0) : Calls Tryz.prog 7 #[] w0 fun e w' => e = .returned (.bool true) ∧ Below w0.heap.size w0 w' := by
 refine enter (n := 50) Tryz.func7 rfl rfl rfl ?_
 have hk : Below w0.heap.size w0 w0 := Below.refl _ _
 refine sr (w_as Ev.c (nt (sr (w_as (evc (.string (str Ch.wk))) (nt (sr (w_mv es (w_mv es (w_val (v := .string (str (Ch.wk.take 16))) (y_sls (ex (.string (str Ch.wk))) evo.no (evo.s Ev.c) Tryz.underlying9 (bnd_h (h := 16) om (by decide))) (w_call (Tryz.func9) kr rfl (m4 es es (evc (.string (str Ch.wx))) (evc (.string (str Cb.wt)))) (chSeal_y Ch.wk (Ch.wk.take 16) Ch.wx 16 256 (.inl rfl) rfl rfl rfl (by decide) Cb.wt (by decide) (by decide) w0 hT) ?_))))))))))
 rintro _ w1 ⟨rfl, hb2⟩
 refine ⟨_, rfl, ?_⟩
 replace hk := thenB hk hb2
 replace hT := Sha.Tabs.below hT hb2
 refine w_mv (ex (.tuple #[.string (str (Ch.sealed 256 16 Ch.wk (Ch.wk.take 16) Ch.wx Cb.wt)), .int .i64 0])) (w_val ye (w_val ye (w_as es (w_as ei (nt (sr (w_mv es (w_mv es (w_val (v := .string (str (Ch.wk.take 16))) (y_sls (ex (.string (str Ch.wk))) evo.no (evo.s Ev.c) Tryz.underlying9 (bnd_h (h := 16) om (by decide))) (w_mv es (w_call (Tryz.func11) kr rfl (m4 es es (evc (.string (str Ch.wx))) es) (chOpenBack Ch.wk (Ch.wk.take 16) Ch.wx 16 256 (.inl rfl) rfl rfl rfl (by decide) Cb.wt (by decide) w1 hT) ?_)))))))))))
 rintro _ w3 ⟨rfl, hb4⟩
 refine ⟨_, rfl, ?_⟩
 replace hk := thenB hk hb4
 replace hT := Sha.Tabs.below hT hb4
 refine w_mv (ex (.tuple #[.string (str Cb.wt), .int .i64 0])) (w_val ye (w_val ye (w_as es (w_as ei (nt (sr (w_mv es (w_mv es (w_val (v := .string (str (Ch.wk.take 16))) (y_sls (ex (.string (str Ch.wk))) evo.no (evo.s Ev.c) Tryz.underlying9 (bnd_h (h := 16) om (by decide))) (w_mv es (w_call (Tryz.func11) kr rfl (m4 es es (evc (.string (str Ch.wy))) es) (chWakesBad w3 hT) ?_)))))))))))
 rintro _ w5 ⟨rfl, hb6⟩
 refine ⟨_, rfl, ?_⟩
 replace hk := thenB hk hb6
 replace hT := Sha.Tabs.below hT hb6
 refine w_mv (ex (.tuple #[.string (str ([] : List (BitVec 8))), .int .i64 8])) (w_val ye (w_val ye (w_as es (w_as ei (nt (sr (w_mv ei (w_val (y_bin ei Ev.c b_eql) (w_mv eb (w_val_g (v := .int .i64 0) (wy rfl rfl eb) (y_mv ei) (w_val_g (wy rfl rfl eb) (y_bin ei Ev.c b_eql) (w_val (y_pick_t eb eb) (w_mv eb (w_val_g (v := .string (str (Ch.sealed 256 16 Ch.wk (Ch.wk.take 16) Ch.wx Cb.wt))) (wy rfl rfl eb) (y_mv es) (w_val_g (wy rfl rfl eb) (y_len es Tryz.underlying9) (w_val_g (wy rfl rfl eb) (y_bin ei Ev.c b_eql) (w_val (y_pick_t eb eb) (w_mv eb ?_))))))))))))))))))
 have hc7 : (((Ch.sealed 256 16 Ch.wk (Ch.wk.take 16) Ch.wx Cb.wt).length : Nat) : Int) = 32 := by rw [Ch.wlen]; rfl
 refine w_val_g (v := .string (str Cb.wt)) (wy rfl rfl (eb (dt hc7))) (y_mv es) (w_val_g (wy rfl rfl (eb (dt hc7))) (y_bin es (evc (.string (str Cb.wt))) b_eqs_same) (w_val (y_pick_t (eb (dt hc7)) eb) (w_mv eb (w_val_g (v := .int .i64 8) (wy rfl rfl eb) (y_mv ei) (w_val_g (wy rfl rfl eb) (y_bin ei Ev.c b_eql) (w_val (y_pick_t eb eb) (w_as eb (nt (wp_ret (fin_ret1 rfl eb ?_))))))))))
 exact ⟨rfl, hk⟩

theorem chLong_t (key vi aad : List (BitVec 8)) (text : List (BitVec 8)) (h : 2000 < aad.length ∧ aad.length ≤ 70000 ∨ 2000 < text.length ∧ text.length ≤ 70048) (w0 : World) : Calls Tryz.prog 8 #[.agg (arr 3 (fun j => if j < 1 then .string (str key) else if j < 2 then .string (str vi) else .string (str aad))), .string (str text)] w0 fun e w' => e = .returned (.bool true) ∧ Below w0.heap.size w0 w' := by
 refine enter (n := 25) Tryz.func8 rfl rfl rfl ?_
 have hk : Below w0.heap.size w0 w0 := Below.refl _ _
 refine sr (w_box (m := 3) (F := fun j => if j < 1 then .string (str key) else if j < 2 then .string (str vi) else .string (str aad)) ea rfl ?_)
 intro b_b w1 hbe_b_b r_b_b hb2
 have ge_b_b := gb_ hk.size hbe_b_b
 clear hbe_b_b
 replace hk := thenB hk hb2
 refine w_as Ev.c (nt (sr (w_val (v := pt b_b 2) (y_off (y_fa (ex (pt b_b 0)) (ChWakesT.fa23_2 _ _)) ro) (w_val (v := .string (str aad)) (y_ld (ex (pt b_b 2)) ChWakesT.sc9 (r_b_b.val om (ng (ng dv)))) (w_val (y_len es Tryz.underlying9) (w_val (y_bin ei Ev.c b_gtr) (w_mv eb ?_)))))))
 by_cases hc3 : 2000 < ((aad.length : Nat) : Int)
 ·skip
  refine w_val_g (v := pt b_b 2) (wy rfl rfl (eb (dt hc3))) (y_off (y_fa (ex (pt b_b 0)) (ChWakesT.fa23_2 _ _)) ro) (w_val_g (v := .string (str aad)) (wy rfl rfl (eb (dt hc3))) (y_ld (ex (pt b_b 2)) ChWakesT.sc9 (r_b_b.val om (ng (ng dv)))) (w_val_g (wy rfl rfl (eb (dt hc3))) (y_len es Tryz.underlying9) (w_val_g (wy rfl rfl (eb (dt hc3))) (y_bin ei Ev.c b_leq) (w_val (y_pick_t (eb (dt hc3)) eb) (w_mv eb ?_)))))
  by_cases hc4 : ((aad.length : Nat) : Int) ≤ 70000
  ·skip
   with_reducible refine w_skip ?_ ?_
   exact wn rfl rfl (eb (dt hc4))
   with_reducible refine w_skip ?_ ?_
   exact wn rfl rfl (eb (dt hc4))
   with_reducible refine w_skip ?_ ?_
   exact wn rfl rfl (eb (dt hc4))
   with_reducible refine w_skip ?_ ?_
   exact wn rfl rfl (eb (dt hc4))
   with_reducible refine w_skip ?_ ?_
   exact wu rfl rfl (ex undef)
   with_reducible refine w_skip ?_ ?_
   exact wu rfl rfl (ex undef)
   with_reducible refine w_skip ?_ ?_
   exact wu rfl rfl (ex undef)
   with_reducible refine w_skip ?_ ?_
   exact wn rfl rfl (eb (dt hc4))
   refine w_val (y_pick_t (eb (dt hc4)) Ev.c) (w_as eb (nt (wp_ret (fin_ret1 rfl eb ?_))))
   exact ⟨rfl, hk⟩
  ·skip
   refine w_val_g (v := .string (str text)) (wy rfl rfl (eb (df hc4))) (y_mv es) (w_val_g (wy rfl rfl (eb (df hc4))) (y_len es Tryz.underlying9) (w_val_g (wy rfl rfl (eb (df hc4))) (y_bin ei Ev.c b_gtr) (w_val_g (v := .bool (decide (2000 < ((text.length : Nat) : Int)))) (wy rfl rfl (eb (df hc4))) (y_mv eb) ?_)))
   by_cases hc5 : 2000 < ((text.length : Nat) : Int)
   ·skip
    refine w_val_g (v := .string (str text)) (wy rfl rfl (eb (dt hc5))) (y_mv es) (w_val_g (wy rfl rfl (eb (dt hc5))) (y_len es Tryz.underlying9) (w_val_g (wy rfl rfl (eb (dt hc5))) (y_bin ei Ev.c b_leq) (w_val_g (wy rfl rfl (eb (df hc4))) (y_pick_t (eb (dt hc5)) eb) (w_val (y_pick_f (eb (df hc4)) eb) (w_as eb (nt (wp_ret (fin_ret1 rfl eb ?_))))))))
    refine ⟨congrArg Ending.returned ?_, hk⟩
    show (.bool (decide (((text.length : Nat) : Int) ≤ 70048)) : Value) = .bool true
    first | with_reducible rfl | (exfalso; omega) | (exact congrArg Value.bool (decide_eq_true om))
   ·skip
    with_reducible refine w_skip ?_ ?_
    exact wn rfl rfl (eb (df hc5))
    with_reducible refine w_skip ?_ ?_
    exact wn rfl rfl (eb (df hc5))
    with_reducible refine w_skip ?_ ?_
    exact wn rfl rfl (eb (df hc5))
    refine w_val_g (wy rfl rfl (eb (df hc4))) (y_pick_f (eb (df hc5)) Ev.c) (w_val (y_pick_f (eb (df hc4)) eb) (w_as eb (nt (wp_ret (fin_ret1 rfl eb ?_)))))
    refine ⟨congrArg Ending.returned ?_, hk⟩
    show (.bool false : Value) = .bool true
    first | with_reducible rfl | (exfalso; omega) | (exact congrArg Value.bool (decide_eq_true om))
 ·skip
  with_reducible refine w_skip ?_ ?_
  exact wn rfl rfl (eb (df hc3))
  with_reducible refine w_skip ?_ ?_
  exact wn rfl rfl (eb (df hc3))
  with_reducible refine w_skip ?_ ?_
  exact wn rfl rfl (eb (df hc3))
  with_reducible refine w_skip ?_ ?_
  exact wn rfl rfl (eb (df hc3))
  refine w_val (y_pick_f (eb (df hc3)) Ev.c) (w_mv eb (w_val_g (v := .string (str text)) (wy rfl rfl eb) (y_mv es) (w_val_g (wy rfl rfl eb) (y_len es Tryz.underlying9) (w_val_g (wy rfl rfl eb) (y_bin ei Ev.c b_gtr) (w_val_g (v := .bool (decide (2000 < ((text.length : Nat) : Int)))) (wy rfl rfl eb) (y_mv eb) ?_)))))
  by_cases hc6 : 2000 < ((text.length : Nat) : Int)
  ·skip
   refine w_val_g (v := .string (str text)) (wy rfl rfl (eb (dt hc6))) (y_mv es) (w_val_g (wy rfl rfl (eb (dt hc6))) (y_len es Tryz.underlying9) (w_val_g (wy rfl rfl (eb (dt hc6))) (y_bin ei Ev.c b_leq) (w_val_g (wy rfl rfl eb) (y_pick_t (eb (dt hc6)) eb) (w_val (y_pick_f eb eb) (w_as eb (nt (wp_ret (fin_ret1 rfl eb ?_))))))))
   refine ⟨congrArg Ending.returned ?_, hk⟩
   show (.bool (decide (((text.length : Nat) : Int) ≤ 70048)) : Value) = .bool true
   first | with_reducible rfl | (exfalso; omega) | (exact congrArg Value.bool (decide_eq_true om))
  ·skip
   with_reducible refine w_skip ?_ ?_
   exact wn rfl rfl (eb (df hc6))
   with_reducible refine w_skip ?_ ?_
   exact wn rfl rfl (eb (df hc6))
   with_reducible refine w_skip ?_ ?_
   exact wn rfl rfl (eb (df hc6))
   refine w_val_g (wy rfl rfl eb) (y_pick_f (eb (df hc6)) Ev.c) (w_val (y_pick_f eb eb) (w_as eb (nt (wp_ret (fin_ret1 rfl eb ?_)))))
   refine ⟨congrArg Ending.returned ?_, hk⟩
   show (.bool false : Value) = .bool true
   first | with_reducible rfl | (exfalso; omega) | (exact congrArg Value.bool (decide_eq_true om))

theorem chLong_f (key vi aad : List (BitVec 8)) (text : List (BitVec 8)) (h : ¬ (2000 < aad.length ∧ aad.length ≤ 70000 ∨ 2000 < text.length ∧ text.length ≤ 70048)) (w0 : World) : Calls Tryz.prog 8 #[.agg (arr 3 (fun j => if j < 1 then .string (str key) else if j < 2 then .string (str vi) else .string (str aad))), .string (str text)] w0 fun e w' => e = .returned (.bool false) ∧ Below w0.heap.size w0 w' := by
 refine enter (n := 25) Tryz.func8 rfl rfl rfl ?_
 have hk : Below w0.heap.size w0 w0 := Below.refl _ _
 refine sr (w_box (m := 3) (F := fun j => if j < 1 then .string (str key) else if j < 2 then .string (str vi) else .string (str aad)) ea rfl ?_)
 intro b_b w1 hbe_b_b r_b_b hb2
 have ge_b_b := gb_ hk.size hbe_b_b
 clear hbe_b_b
 replace hk := thenB hk hb2
 refine w_as Ev.c (nt (sr (w_val (v := pt b_b 2) (y_off (y_fa (ex (pt b_b 0)) (ChWakesT.fa23_2 _ _)) ro) (w_val (v := .string (str aad)) (y_ld (ex (pt b_b 2)) ChWakesT.sc9 (r_b_b.val om (ng (ng dv)))) (w_val (y_len es Tryz.underlying9) (w_val (y_bin ei Ev.c b_gtr) (w_mv eb ?_)))))))
 by_cases hc3 : 2000 < ((aad.length : Nat) : Int)
 ·skip
  refine w_val_g (v := pt b_b 2) (wy rfl rfl (eb (dt hc3))) (y_off (y_fa (ex (pt b_b 0)) (ChWakesT.fa23_2 _ _)) ro) (w_val_g (v := .string (str aad)) (wy rfl rfl (eb (dt hc3))) (y_ld (ex (pt b_b 2)) ChWakesT.sc9 (r_b_b.val om (ng (ng dv)))) (w_val_g (wy rfl rfl (eb (dt hc3))) (y_len es Tryz.underlying9) (w_val_g (wy rfl rfl (eb (dt hc3))) (y_bin ei Ev.c b_leq) (w_val (y_pick_t (eb (dt hc3)) eb) (w_mv eb ?_)))))
  by_cases hc4 : ((aad.length : Nat) : Int) ≤ 70000
  ·skip
   with_reducible refine w_skip ?_ ?_
   exact wn rfl rfl (eb (dt hc4))
   with_reducible refine w_skip ?_ ?_
   exact wn rfl rfl (eb (dt hc4))
   with_reducible refine w_skip ?_ ?_
   exact wn rfl rfl (eb (dt hc4))
   with_reducible refine w_skip ?_ ?_
   exact wn rfl rfl (eb (dt hc4))
   with_reducible refine w_skip ?_ ?_
   exact wu rfl rfl (ex undef)
   with_reducible refine w_skip ?_ ?_
   exact wu rfl rfl (ex undef)
   with_reducible refine w_skip ?_ ?_
   exact wu rfl rfl (ex undef)
   with_reducible refine w_skip ?_ ?_
   exact wn rfl rfl (eb (dt hc4))
   refine w_val (y_pick_t (eb (dt hc4)) Ev.c) (w_as eb (nt (wp_ret (fin_ret1 rfl eb ?_))))
   refine ⟨congrArg Ending.returned ?_, hk⟩
   show (.bool true : Value) = .bool false
   first | with_reducible rfl | (exfalso; omega) | (exact congrArg Value.bool (decide_eq_false om))
  ·skip
   refine w_val_g (v := .string (str text)) (wy rfl rfl (eb (df hc4))) (y_mv es) (w_val_g (wy rfl rfl (eb (df hc4))) (y_len es Tryz.underlying9) (w_val_g (wy rfl rfl (eb (df hc4))) (y_bin ei Ev.c b_gtr) (w_val_g (v := .bool (decide (2000 < ((text.length : Nat) : Int)))) (wy rfl rfl (eb (df hc4))) (y_mv eb) ?_)))
   by_cases hc5 : 2000 < ((text.length : Nat) : Int)
   ·skip
    refine w_val_g (v := .string (str text)) (wy rfl rfl (eb (dt hc5))) (y_mv es) (w_val_g (wy rfl rfl (eb (dt hc5))) (y_len es Tryz.underlying9) (w_val_g (wy rfl rfl (eb (dt hc5))) (y_bin ei Ev.c b_leq) (w_val_g (wy rfl rfl (eb (df hc4))) (y_pick_t (eb (dt hc5)) eb) (w_val (y_pick_f (eb (df hc4)) eb) (w_as eb (nt (wp_ret (fin_ret1 rfl eb ?_))))))))
    refine ⟨congrArg Ending.returned ?_, hk⟩
    show (.bool (decide (((text.length : Nat) : Int) ≤ 70048)) : Value) = .bool false
    first | with_reducible rfl | (exfalso; omega) | (exact congrArg Value.bool (decide_eq_false om))
   ·skip
    with_reducible refine w_skip ?_ ?_
    exact wn rfl rfl (eb (df hc5))
    with_reducible refine w_skip ?_ ?_
    exact wn rfl rfl (eb (df hc5))
    with_reducible refine w_skip ?_ ?_
    exact wn rfl rfl (eb (df hc5))
    refine w_val_g (wy rfl rfl (eb (df hc4))) (y_pick_f (eb (df hc5)) Ev.c) (w_val (y_pick_f (eb (df hc4)) eb) (w_as eb (nt (wp_ret (fin_ret1 rfl eb ?_)))))
    exact ⟨rfl, hk⟩
 ·skip
  with_reducible refine w_skip ?_ ?_
  exact wn rfl rfl (eb (df hc3))
  with_reducible refine w_skip ?_ ?_
  exact wn rfl rfl (eb (df hc3))
  with_reducible refine w_skip ?_ ?_
  exact wn rfl rfl (eb (df hc3))
  with_reducible refine w_skip ?_ ?_
  exact wn rfl rfl (eb (df hc3))
  refine w_val (y_pick_f (eb (df hc3)) Ev.c) (w_mv eb (w_val_g (v := .string (str text)) (wy rfl rfl eb) (y_mv es) (w_val_g (wy rfl rfl eb) (y_len es Tryz.underlying9) (w_val_g (wy rfl rfl eb) (y_bin ei Ev.c b_gtr) (w_val_g (v := .bool (decide (2000 < ((text.length : Nat) : Int)))) (wy rfl rfl eb) (y_mv eb) ?_)))))
  by_cases hc6 : 2000 < ((text.length : Nat) : Int)
  ·skip
   refine w_val_g (v := .string (str text)) (wy rfl rfl (eb (dt hc6))) (y_mv es) (w_val_g (wy rfl rfl (eb (dt hc6))) (y_len es Tryz.underlying9) (w_val_g (wy rfl rfl (eb (dt hc6))) (y_bin ei Ev.c b_leq) (w_val_g (wy rfl rfl eb) (y_pick_t (eb (dt hc6)) eb) (w_val (y_pick_f eb eb) (w_as eb (nt (wp_ret (fin_ret1 rfl eb ?_))))))))
   refine ⟨congrArg Ending.returned ?_, hk⟩
   show (.bool (decide (((text.length : Nat) : Int) ≤ 70048)) : Value) = .bool false
   first | with_reducible rfl | (exfalso; omega) | (exact congrArg Value.bool (decide_eq_false om))
  ·skip
   with_reducible refine w_skip ?_ ?_
   exact wn rfl rfl (eb (df hc6))
   with_reducible refine w_skip ?_ ?_
   exact wn rfl rfl (eb (df hc6))
   with_reducible refine w_skip ?_ ?_
   exact wn rfl rfl (eb (df hc6))
   refine w_val_g (wy rfl rfl eb) (y_pick_f (eb (df hc6)) Ev.c) (w_val (y_pick_f eb eb) (w_as eb (nt (wp_ret (fin_ret1 rfl eb ?_)))))
   exact ⟨rfl, hk⟩
end Go.Proofs.YtepogbfkmflooaaGreatDoor
