/-
  The law RecipDerives answers true. No conditions.
-/
import Derived.Test.YtepogbfkmflooaaDoorRows
import Derived.Test.YtepogbfkmflooaaDoorRecDerA
import Derived.Test.YtepogbfkmflooaaDoorGenSh
import Derived.ProofKit
namespace Go.Proofs.YtepogbfkmflooaaDoor
open Go.RowKit
set_option linter.unusedSimpArgs false
set_option linter.unusedVariables false
set_option maxRecDepth 100000
set_option maxHeartbeats 1000000
namespace RecDerWT
theorem mixed : Tryd.prog.follows .mixedOrders = true := by kernel_rfl
theorem fa30_0 (g off : Nat) : ∀ w, (Instr.fieldAt 30 (.pointer (some ⟨g, off, none⟩)) 0).run Tryd.prog w = .ok (.pointer (some ⟨g, off + 0, none⟩)) w := fun w => by kernel_rfl
theorem fa30_1 (g off : Nat) : ∀ w, (Instr.fieldAt 30 (.pointer (some ⟨g, off, none⟩)) 1).run Tryd.prog w = .ok (.pointer (some ⟨g, off + 1, none⟩)) w := fun w => by kernel_rfl
theorem fa30_2 (g off : Nat) : ∀ w, (Instr.fieldAt 30 (.pointer (some ⟨g, off, none⟩)) 2).run Tryd.prog w = .ok (.pointer (some ⟨g, off + 2, none⟩)) w := fun w => by kernel_rfl
theorem fa30_3 (g off : Nat) : ∀ w, (Instr.fieldAt 30 (.pointer (some ⟨g, off, none⟩)) 3).run Tryd.prog w = .ok (.pointer (some ⟨g, off + 3, none⟩)) w := fun w => by kernel_rfl
theorem sc3 : (Tryd.prog.underlying 3).map scal = some true := by rw [Tryd.underlying3]; rfl
theorem sc9 : (Tryd.prog.underlying 9).map scal = some true := by rw [Tryd.underlying9]; rfl
theorem sz3 : (Tryd.prog.info? 3).map (·.size) = some 1 := by kernel_rfl
end RecDerWT
theorem recipDerives_l (name pw salt : List (BitVec 8)) (r : Int) (h : (40 < r ∧ r ≤ 4096) ∨ 2000 < pw.length) (w0 : World) : Calls Tryd.prog 4 #[.agg (arr 4 (fun j => if j < 1 then .string (str name) else if j < 2 then .string (str pw) else if j < 3 then .string (str salt) else .int .i64 r))] w0 fun e w' => e = .returned (.bool true) ∧ Below w0.heap.size w0 w' := by
 refine enter (n := 55) Tryd.func4 rfl rfl rfl ?_
 have hk : Below w0.heap.size w0 w0 := Below.refl _ _
 refine sr (w_box (m := 4) (F := fun j => if j < 1 then .string (str name) else if j < 2 then .string (str pw) else if j < 3 then .string (str salt) else .int .i64 r) ea rfl ?_)
 intro b_a w1 hbe_b_a r_b_a hb2
 have ge_b_a := gb_ hk.size hbe_b_a
 clear hbe_b_a
 replace hk := thenB hk hb2
 refine w_as Ev.c (nt (wp_seq (sr (w_call (Tryd.func8) kr rfl m0 (recWakes_c  w1) ?_))))
 rintro _ w3 ⟨rfl, hb4⟩
 refine ⟨_, rfl, ?_⟩
 replace r_b_a := r_b_a.step hb4
 replace hk := thenB hk hb4
 refine w_val (y_not eb) (nt (c_ff eb (wp_skip (then_n (wp_seq (sr (w_val (v := pt b_a 3) (y_off (y_fa (ex (pt b_a 0)) (RecDerWT.fa30_3 _ _)) ro) (w_val (v := .int .i64 r) (y_ld (ex (pt b_a 3)) RecDerWT.sc3 (r_b_a.val om (ng (ng (ng dv))))) (w_val (y_bin ei Ev.c b_gtr) (w_mv eb ?_))))))))))
 by_cases hc5 : 40 < r
 ·skip
  refine w_val_g (v := pt b_a 3) (wy rfl rfl (eb (dt hc5))) (y_off (y_fa (ex (pt b_a 0)) (RecDerWT.fa30_3 _ _)) ro) (w_val_g (v := .int .i64 r) (wy rfl rfl (eb (dt hc5))) (y_ld (ex (pt b_a 3)) RecDerWT.sc3 (r_b_a.val om (ng (ng (ng dv))))) (w_val_g (wy rfl rfl (eb (dt hc5))) (y_bin ei Ev.c b_leq) (w_val (y_pick_t (eb (dt hc5)) eb) (w_mv eb ?_))))
  by_cases hc6 : r ≤ 4096
  ·skip
   with_reducible refine w_skip ?_ ?_
   exact wn rfl rfl (eb (dt hc6))
   with_reducible refine w_skip ?_ ?_
   exact wn rfl rfl (eb (dt hc6))
   with_reducible refine w_skip ?_ ?_
   exact wn rfl rfl (eb (dt hc6))
   with_reducible refine w_skip ?_ ?_
   exact wn rfl rfl (eb (dt hc6))
   refine w_val (y_pick_t (eb (dt hc6)) Ev.c) (nt (c_tt eb (sr (w_as Ev.c (nt (wp_ret (then_r (fin_ret1 rfl eb ?_))))))))
   exact ⟨rfl, hk⟩
  ·skip
   refine w_val_g (v := pt b_a 1) (wy rfl rfl (eb (df hc6))) (y_off (y_fa (ex (pt b_a 0)) (RecDerWT.fa30_1 _ _)) ro) (w_val_g (v := .string (str pw)) (wy rfl rfl (eb (df hc6))) (y_ld (ex (pt b_a 1)) RecDerWT.sc9 (r_b_a.val om (ng pz))) (w_val_g (wy rfl rfl (eb (df hc6))) (y_len es Tryd.underlying9) (w_val_g (wy rfl rfl (eb (df hc6))) (y_bin ei Ev.c b_gtr) (w_val (y_pick_f (eb (df hc6)) eb) (nt ?_)))))
   refine c_if (p := 2000 < ((pw.length : Nat) : Int)) eb (fun hc7 => ?_) (fun hc7 => ?_)
   ·skip
    refine sr (w_as Ev.c (nt (wp_ret (then_r (fin_ret1 rfl eb ?_)))))
    exact ⟨rfl, hk⟩
   ·skip
    refine wp_skip (then_n (wp_seq ?_))
    exfalso; omega
 ·skip
  with_reducible refine w_skip ?_ ?_
  exact wn rfl rfl (eb (df hc5))
  with_reducible refine w_skip ?_ ?_
  exact wn rfl rfl (eb (df hc5))
  with_reducible refine w_skip ?_ ?_
  exact wn rfl rfl (eb (df hc5))
  refine w_val (y_pick_f (eb (df hc5)) Ev.c) (w_mv eb (w_val_g (v := pt b_a 1) (wy rfl rfl eb) (y_off (y_fa (ex (pt b_a 0)) (RecDerWT.fa30_1 _ _)) ro) (w_val_g (v := .string (str pw)) (wy rfl rfl eb) (y_ld (ex (pt b_a 1)) RecDerWT.sc9 (r_b_a.val om (ng pz))) (w_val_g (wy rfl rfl eb) (y_len es Tryd.underlying9) (w_val_g (wy rfl rfl eb) (y_bin ei Ev.c b_gtr) (w_val (y_pick_f eb eb) (nt ?_)))))))
  refine c_if (p := 2000 < ((pw.length : Nat) : Int)) eb (fun hc8 => ?_) (fun hc8 => ?_)
  ·skip
   refine sr (w_as Ev.c (nt (wp_ret (then_r (fin_ret1 rfl eb ?_)))))
   exact ⟨rfl, hk⟩
  ·skip
   refine wp_skip (then_n (wp_seq ?_))
   exfalso; omega

theorem recipDerives_o (name pw salt : List (BitVec 8)) (r : Int) (hn : name.length ≤ 140737488351232) (h0 : Rc.nm 0 ≠ name) (h1 : Rc.nm 1 ≠ name) (h2 : Rc.nm 2 ≠ name) (h : ¬ ((40 < r ∧ r ≤ 4096) ∨ 2000 < pw.length)) (w0 : World) : Calls Tryd.prog 4 #[.agg (arr 4 (fun j => if j < 1 then .string (str name) else if j < 2 then .string (str pw) else if j < 3 then .string (str salt) else .int .i64 r))] w0 fun e w' => e = .returned (.bool true) ∧ Below w0.heap.size w0 w' := by
 refine enter (n := 55) Tryd.func4 rfl rfl rfl ?_
 have hk : Below w0.heap.size w0 w0 := Below.refl _ _
 refine sr (w_box (m := 4) (F := fun j => if j < 1 then .string (str name) else if j < 2 then .string (str pw) else if j < 3 then .string (str salt) else .int .i64 r) ea rfl ?_)
 intro b_a w1 hbe_b_a r_b_a hb2
 have ge_b_a := gb_ hk.size hbe_b_a
 clear hbe_b_a
 replace hk := thenB hk hb2
 refine w_as Ev.c (nt (wp_seq (sr (w_call (Tryd.func8) kr rfl m0 (recWakes_c  w1) ?_))))
 rintro _ w3 ⟨rfl, hb4⟩
 refine ⟨_, rfl, ?_⟩
 replace r_b_a := r_b_a.step hb4
 replace hk := thenB hk hb4
 refine w_val (y_not eb) (nt (c_ff eb (wp_skip (then_n (wp_seq (sr (w_val (v := pt b_a 3) (y_off (y_fa (ex (pt b_a 0)) (RecDerWT.fa30_3 _ _)) ro) (w_val (v := .int .i64 r) (y_ld (ex (pt b_a 3)) RecDerWT.sc3 (r_b_a.val om (ng (ng (ng dv))))) (w_val (y_bin ei Ev.c b_gtr) (w_mv eb ?_))))))))))
 by_cases hc5 : 40 < r
 ·skip
  refine w_val_g (v := pt b_a 3) (wy rfl rfl (eb (dt hc5))) (y_off (y_fa (ex (pt b_a 0)) (RecDerWT.fa30_3 _ _)) ro) (w_val_g (v := .int .i64 r) (wy rfl rfl (eb (dt hc5))) (y_ld (ex (pt b_a 3)) RecDerWT.sc3 (r_b_a.val om (ng (ng (ng dv))))) (w_val_g (wy rfl rfl (eb (dt hc5))) (y_bin ei Ev.c b_leq) (w_val (y_pick_t (eb (dt hc5)) eb) (w_mv eb ?_))))
  by_cases hc6 : r ≤ 4096
  ·skip
   with_reducible refine w_skip ?_ ?_
   exact wn rfl rfl (eb (dt hc6))
   with_reducible refine w_skip ?_ ?_
   exact wn rfl rfl (eb (dt hc6))
   with_reducible refine w_skip ?_ ?_
   exact wn rfl rfl (eb (dt hc6))
   with_reducible refine w_skip ?_ ?_
   exact wn rfl rfl (eb (dt hc6))
   refine w_val (y_pick_t (eb (dt hc6)) Ev.c) (nt (c_tt eb (wp_seq ?_)))
   exfalso; omega
  ·skip
   refine w_val_g (v := pt b_a 1) (wy rfl rfl (eb (df hc6))) (y_off (y_fa (ex (pt b_a 0)) (RecDerWT.fa30_1 _ _)) ro) (w_val_g (v := .string (str pw)) (wy rfl rfl (eb (df hc6))) (y_ld (ex (pt b_a 1)) RecDerWT.sc9 (r_b_a.val om (ng pz))) (w_val_g (wy rfl rfl (eb (df hc6))) (y_len es Tryd.underlying9) (w_val_g (wy rfl rfl (eb (df hc6))) (y_bin ei Ev.c b_gtr) (w_val (y_pick_f (eb (df hc6)) eb) (nt ?_)))))
   refine c_if (p := 2000 < ((pw.length : Nat) : Int)) eb (fun hc7 => ?_) (fun hc7 => ?_)
   ·skip
    refine wp_seq ?_
    exfalso; omega
   ·skip
    refine wp_skip (then_n (sr (w_val (v := pt b_a 0) (y_off (y_fa (ex (pt b_a 0)) (RecDerWT.fa30_0 _ _)) ro) (w_val (v := .string (str name)) (y_ld (ex (pt b_a 0)) RecDerWT.sc9 (r_b_a.val om pz)) (w_val (v := pt b_a 1) (y_off (y_fa (ex (pt b_a 0)) (RecDerWT.fa30_1 _ _)) ro) (w_val (v := .string (str pw)) (y_ld (ex (pt b_a 1)) RecDerWT.sc9 (r_b_a.val om (ng pz))) (w_val (v := pt b_a 2) (y_off (y_fa (ex (pt b_a 0)) (RecDerWT.fa30_2 _ _)) ro) (w_val (v := .string (str salt)) (y_ld (ex (pt b_a 2)) RecDerWT.sc9 (r_b_a.val om (ng (ng pz)))) (w_val (v := pt b_a 3) (y_off (y_fa (ex (pt b_a 0)) (RecDerWT.fa30_3 _ _)) ro) (w_val (v := .int .i64 r) (y_ld (ex (pt b_a 3)) RecDerWT.sc3 (r_b_a.val om (ng (ng (ng dv))))) (w_call (Tryd.func9) kr rfl (m4 es es es ei) (derive_o name pw salt r hn h0 h1 h2 w3) ?_)))))))))))
    rintro _ w8 ⟨rfl, hb9⟩
    refine ⟨_, rfl, ?_⟩
    replace r_b_a := r_b_a.step hb9
    replace hk := thenB hk hb9
    refine w_mv (ex (.tuple #[.string (str ([] : List (BitVec 8))), .int .i64 11])) (w_val ye (w_val ye (w_as es (w_as ei (nt (sr (w_val (v := pt b_a 0) (y_off (y_fa (ex (pt b_a 0)) (RecDerWT.fa30_0 _ _)) ro) (w_val (v := .string (str name)) (y_ld (ex (pt b_a 0)) RecDerWT.sc9 (r_b_a.val om pz)) (w_val (v := pt b_a 1) (y_off (y_fa (ex (pt b_a 0)) (RecDerWT.fa30_1 _ _)) ro) (w_val (v := .string (str pw)) (y_ld (ex (pt b_a 1)) RecDerWT.sc9 (r_b_a.val om (ng pz))) (w_val (v := pt b_a 2) (y_off (y_fa (ex (pt b_a 0)) (RecDerWT.fa30_2 _ _)) ro) (w_val (v := .string (str salt)) (y_ld (ex (pt b_a 2)) RecDerWT.sc9 (r_b_a.val om (ng (ng pz)))) (w_val (v := pt b_a 3) (y_off (y_fa (ex (pt b_a 0)) (RecDerWT.fa30_3 _ _)) ro) (w_val (v := .int .i64 r) (y_ld (ex (pt b_a 3)) RecDerWT.sc3 (r_b_a.val om (ng (ng (ng dv))))) (w_call (Tryd.func10) kr rfl (m4 es es es ei) (refDerive_o name pw salt r hn h0 h1 h2 w8) ?_)))))))))))))))
    rintro _ w10 ⟨rfl, hb11⟩
    refine ⟨_, rfl, ?_⟩
    replace r_b_a := r_b_a.step hb11
    replace hk := thenB hk hb11
    refine w_mv (ex (.tuple #[.string (str ([] : List (BitVec 8))), .int .i64 11])) (w_val ye (w_val ye (w_as es (w_as ei (nt (sr (w_mv es (w_mv es (w_val (y_bin es es b_eqs_same) (w_mv eb (w_val_g (v := .int .i64 11) (wy rfl rfl eb) (y_mv ei) (w_val_g (v := .int .i64 11) (wy rfl rfl eb) (y_mv ei) (w_val_g (wy rfl rfl eb) (y_bin ei ei b_eql) (w_val (y_pick_t eb eb) (w_as eb (nt (wp_ret (fin_ret1 rfl eb ?_))))))))))))))))))
    exact ⟨rfl, hk⟩
 ·skip
  with_reducible refine w_skip ?_ ?_
  exact wn rfl rfl (eb (df hc5))
  with_reducible refine w_skip ?_ ?_
  exact wn rfl rfl (eb (df hc5))
  with_reducible refine w_skip ?_ ?_
  exact wn rfl rfl (eb (df hc5))
  refine w_val (y_pick_f (eb (df hc5)) Ev.c) (w_mv eb (w_val_g (v := pt b_a 1) (wy rfl rfl eb) (y_off (y_fa (ex (pt b_a 0)) (RecDerWT.fa30_1 _ _)) ro) (w_val_g (v := .string (str pw)) (wy rfl rfl eb) (y_ld (ex (pt b_a 1)) RecDerWT.sc9 (r_b_a.val om (ng pz))) (w_val_g (wy rfl rfl eb) (y_len es Tryd.underlying9) (w_val_g (wy rfl rfl eb) (y_bin ei Ev.c b_gtr) (w_val (y_pick_f eb eb) (nt ?_)))))))
  refine c_if (p := 2000 < ((pw.length : Nat) : Int)) eb (fun hc12 => ?_) (fun hc12 => ?_)
  ·skip
   refine wp_seq ?_
   exfalso; omega
  ·skip
   refine wp_skip (then_n (sr (w_val (v := pt b_a 0) (y_off (y_fa (ex (pt b_a 0)) (RecDerWT.fa30_0 _ _)) ro) (w_val (v := .string (str name)) (y_ld (ex (pt b_a 0)) RecDerWT.sc9 (r_b_a.val om pz)) (w_val (v := pt b_a 1) (y_off (y_fa (ex (pt b_a 0)) (RecDerWT.fa30_1 _ _)) ro) (w_val (v := .string (str pw)) (y_ld (ex (pt b_a 1)) RecDerWT.sc9 (r_b_a.val om (ng pz))) (w_val (v := pt b_a 2) (y_off (y_fa (ex (pt b_a 0)) (RecDerWT.fa30_2 _ _)) ro) (w_val (v := .string (str salt)) (y_ld (ex (pt b_a 2)) RecDerWT.sc9 (r_b_a.val om (ng (ng pz)))) (w_val (v := pt b_a 3) (y_off (y_fa (ex (pt b_a 0)) (RecDerWT.fa30_3 _ _)) ro) (w_val (v := .int .i64 r) (y_ld (ex (pt b_a 3)) RecDerWT.sc3 (r_b_a.val om (ng (ng (ng dv))))) (w_call (Tryd.func9) kr rfl (m4 es es es ei) (derive_o name pw salt r hn h0 h1 h2 w3) ?_)))))))))))
   rintro _ w13 ⟨rfl, hb14⟩
   refine ⟨_, rfl, ?_⟩
   replace r_b_a := r_b_a.step hb14
   replace hk := thenB hk hb14
   refine w_mv (ex (.tuple #[.string (str ([] : List (BitVec 8))), .int .i64 11])) (w_val ye (w_val ye (w_as es (w_as ei (nt (sr (w_val (v := pt b_a 0) (y_off (y_fa (ex (pt b_a 0)) (RecDerWT.fa30_0 _ _)) ro) (w_val (v := .string (str name)) (y_ld (ex (pt b_a 0)) RecDerWT.sc9 (r_b_a.val om pz)) (w_val (v := pt b_a 1) (y_off (y_fa (ex (pt b_a 0)) (RecDerWT.fa30_1 _ _)) ro) (w_val (v := .string (str pw)) (y_ld (ex (pt b_a 1)) RecDerWT.sc9 (r_b_a.val om (ng pz))) (w_val (v := pt b_a 2) (y_off (y_fa (ex (pt b_a 0)) (RecDerWT.fa30_2 _ _)) ro) (w_val (v := .string (str salt)) (y_ld (ex (pt b_a 2)) RecDerWT.sc9 (r_b_a.val om (ng (ng pz)))) (w_val (v := pt b_a 3) (y_off (y_fa (ex (pt b_a 0)) (RecDerWT.fa30_3 _ _)) ro) (w_val (v := .int .i64 r) (y_ld (ex (pt b_a 3)) RecDerWT.sc3 (r_b_a.val om (ng (ng (ng dv))))) (w_call (Tryd.func10) kr rfl (m4 es es es ei) (refDerive_o name pw salt r hn h0 h1 h2 w13) ?_)))))))))))))))
   rintro _ w15 ⟨rfl, hb16⟩
   refine ⟨_, rfl, ?_⟩
   replace r_b_a := r_b_a.step hb16
   replace hk := thenB hk hb16
   refine w_mv (ex (.tuple #[.string (str ([] : List (BitVec 8))), .int .i64 11])) (w_val ye (w_val ye (w_as es (w_as ei (nt (sr (w_mv es (w_mv es (w_val (y_bin es es b_eqs_same) (w_mv eb (w_val_g (v := .int .i64 11) (wy rfl rfl eb) (y_mv ei) (w_val_g (v := .int .i64 11) (wy rfl rfl eb) (y_mv ei) (w_val_g (wy rfl rfl eb) (y_bin ei ei b_eql) (w_val (y_pick_t eb eb) (w_as eb (nt (wp_ret (fin_ret1 rfl eb ?_))))))))))))))))))
   exact ⟨rfl, hk⟩

theorem recipDerives_s (q : Nat) (hq : q < 3) (pw salt : List (BitVec 8)) (r : Int) (hs : salt.length < 8 ∨ 1000 < salt.length) (h : ¬ ((40 < r ∧ r ≤ 4096) ∨ 2000 < pw.length)) (w0 : World) : Calls Tryd.prog 4 #[.agg (arr 4 (fun j => if j < 1 then .string (str (Rc.nm q)) else if j < 2 then .string (str pw) else if j < 3 then .string (str salt) else .int .i64 r))] w0 fun e w' => e = .returned (.bool true) ∧ Below w0.heap.size w0 w' := by
 refine enter (n := 55) Tryd.func4 rfl rfl rfl ?_
 have hk : Below w0.heap.size w0 w0 := Below.refl _ _
 refine sr (w_box (m := 4) (F := fun j => if j < 1 then .string (str (Rc.nm q)) else if j < 2 then .string (str pw) else if j < 3 then .string (str salt) else .int .i64 r) ea rfl ?_)
 intro b_a w1 hbe_b_a r_b_a hb2
 have ge_b_a := gb_ hk.size hbe_b_a
 clear hbe_b_a
 replace hk := thenB hk hb2
 refine w_as Ev.c (nt (wp_seq (sr (w_call (Tryd.func8) kr rfl m0 (recWakes_c  w1) ?_))))
 rintro _ w3 ⟨rfl, hb4⟩
 refine ⟨_, rfl, ?_⟩
 replace r_b_a := r_b_a.step hb4
 replace hk := thenB hk hb4
 refine w_val (y_not eb) (nt (c_ff eb (wp_skip (then_n (wp_seq (sr (w_val (v := pt b_a 3) (y_off (y_fa (ex (pt b_a 0)) (RecDerWT.fa30_3 _ _)) ro) (w_val (v := .int .i64 r) (y_ld (ex (pt b_a 3)) RecDerWT.sc3 (r_b_a.val om (ng (ng (ng dv))))) (w_val (y_bin ei Ev.c b_gtr) (w_mv eb ?_))))))))))
 by_cases hc5 : 40 < r
 ·skip
  refine w_val_g (v := pt b_a 3) (wy rfl rfl (eb (dt hc5))) (y_off (y_fa (ex (pt b_a 0)) (RecDerWT.fa30_3 _ _)) ro) (w_val_g (v := .int .i64 r) (wy rfl rfl (eb (dt hc5))) (y_ld (ex (pt b_a 3)) RecDerWT.sc3 (r_b_a.val om (ng (ng (ng dv))))) (w_val_g (wy rfl rfl (eb (dt hc5))) (y_bin ei Ev.c b_leq) (w_val (y_pick_t (eb (dt hc5)) eb) (w_mv eb ?_))))
  by_cases hc6 : r ≤ 4096
  ·skip
   with_reducible refine w_skip ?_ ?_
   exact wn rfl rfl (eb (dt hc6))
   with_reducible refine w_skip ?_ ?_
   exact wn rfl rfl (eb (dt hc6))
   with_reducible refine w_skip ?_ ?_
   exact wn rfl rfl (eb (dt hc6))
   with_reducible refine w_skip ?_ ?_
   exact wn rfl rfl (eb (dt hc6))
   refine w_val (y_pick_t (eb (dt hc6)) Ev.c) (nt (c_tt eb (wp_seq ?_)))
   exfalso; omega
  ·skip
   refine w_val_g (v := pt b_a 1) (wy rfl rfl (eb (df hc6))) (y_off (y_fa (ex (pt b_a 0)) (RecDerWT.fa30_1 _ _)) ro) (w_val_g (v := .string (str pw)) (wy rfl rfl (eb (df hc6))) (y_ld (ex (pt b_a 1)) RecDerWT.sc9 (r_b_a.val om (ng pz))) (w_val_g (wy rfl rfl (eb (df hc6))) (y_len es Tryd.underlying9) (w_val_g (wy rfl rfl (eb (df hc6))) (y_bin ei Ev.c b_gtr) (w_val (y_pick_f (eb (df hc6)) eb) (nt ?_)))))
   refine c_if (p := 2000 < ((pw.length : Nat) : Int)) eb (fun hc7 => ?_) (fun hc7 => ?_)
   ·skip
    refine wp_seq ?_
    exfalso; omega
   ·skip
    refine wp_skip (then_n (sr (w_val (v := pt b_a 0) (y_off (y_fa (ex (pt b_a 0)) (RecDerWT.fa30_0 _ _)) ro) (w_val (v := .string (str (Rc.nm q))) (y_ld (ex (pt b_a 0)) RecDerWT.sc9 (r_b_a.val om pz)) (w_val (v := pt b_a 1) (y_off (y_fa (ex (pt b_a 0)) (RecDerWT.fa30_1 _ _)) ro) (w_val (v := .string (str pw)) (y_ld (ex (pt b_a 1)) RecDerWT.sc9 (r_b_a.val om (ng pz))) (w_val (v := pt b_a 2) (y_off (y_fa (ex (pt b_a 0)) (RecDerWT.fa30_2 _ _)) ro) (w_val (v := .string (str salt)) (y_ld (ex (pt b_a 2)) RecDerWT.sc9 (r_b_a.val om (ng (ng pz)))) (w_val (v := pt b_a 3) (y_off (y_fa (ex (pt b_a 0)) (RecDerWT.fa30_3 _ _)) ro) (w_val (v := .int .i64 r) (y_ld (ex (pt b_a 3)) RecDerWT.sc3 (r_b_a.val om (ng (ng (ng dv))))) (w_call (Tryd.func9) kr rfl (m4 es es es ei) (derive_s q hq pw salt r om hs w3) ?_)))))))))))
    rintro _ w8 ⟨rfl, hb9⟩
    refine ⟨_, rfl, ?_⟩
    replace r_b_a := r_b_a.step hb9
    replace hk := thenB hk hb9
    refine w_mv (ex (.tuple #[.string (str ([] : List (BitVec 8))), .int .i64 4])) (w_val ye (w_val ye (w_as es (w_as ei (nt (sr (w_val (v := pt b_a 0) (y_off (y_fa (ex (pt b_a 0)) (RecDerWT.fa30_0 _ _)) ro) (w_val (v := .string (str (Rc.nm q))) (y_ld (ex (pt b_a 0)) RecDerWT.sc9 (r_b_a.val om pz)) (w_val (v := pt b_a 1) (y_off (y_fa (ex (pt b_a 0)) (RecDerWT.fa30_1 _ _)) ro) (w_val (v := .string (str pw)) (y_ld (ex (pt b_a 1)) RecDerWT.sc9 (r_b_a.val om (ng pz))) (w_val (v := pt b_a 2) (y_off (y_fa (ex (pt b_a 0)) (RecDerWT.fa30_2 _ _)) ro) (w_val (v := .string (str salt)) (y_ld (ex (pt b_a 2)) RecDerWT.sc9 (r_b_a.val om (ng (ng pz)))) (w_val (v := pt b_a 3) (y_off (y_fa (ex (pt b_a 0)) (RecDerWT.fa30_3 _ _)) ro) (w_val (v := .int .i64 r) (y_ld (ex (pt b_a 3)) RecDerWT.sc3 (r_b_a.val om (ng (ng (ng dv))))) (w_call (Tryd.func10) kr rfl (m4 es es es ei) (refDerive_s q hq pw salt r om hs w8) ?_)))))))))))))))
    rintro _ w10 ⟨rfl, hb11⟩
    refine ⟨_, rfl, ?_⟩
    replace r_b_a := r_b_a.step hb11
    replace hk := thenB hk hb11
    refine w_mv (ex (.tuple #[.string (str ([] : List (BitVec 8))), .int .i64 4])) (w_val ye (w_val ye (w_as es (w_as ei (nt (sr (w_mv es (w_mv es (w_val (y_bin es es b_eqs_same) (w_mv eb (w_val_g (v := .int .i64 4) (wy rfl rfl eb) (y_mv ei) (w_val_g (v := .int .i64 4) (wy rfl rfl eb) (y_mv ei) (w_val_g (wy rfl rfl eb) (y_bin ei ei b_eql) (w_val (y_pick_t eb eb) (w_as eb (nt (wp_ret (fin_ret1 rfl eb ?_))))))))))))))))))
    exact ⟨rfl, hk⟩
 ·skip
  with_reducible refine w_skip ?_ ?_
  exact wn rfl rfl (eb (df hc5))
  with_reducible refine w_skip ?_ ?_
  exact wn rfl rfl (eb (df hc5))
  with_reducible refine w_skip ?_ ?_
  exact wn rfl rfl (eb (df hc5))
  refine w_val (y_pick_f (eb (df hc5)) Ev.c) (w_mv eb (w_val_g (v := pt b_a 1) (wy rfl rfl eb) (y_off (y_fa (ex (pt b_a 0)) (RecDerWT.fa30_1 _ _)) ro) (w_val_g (v := .string (str pw)) (wy rfl rfl eb) (y_ld (ex (pt b_a 1)) RecDerWT.sc9 (r_b_a.val om (ng pz))) (w_val_g (wy rfl rfl eb) (y_len es Tryd.underlying9) (w_val_g (wy rfl rfl eb) (y_bin ei Ev.c b_gtr) (w_val (y_pick_f eb eb) (nt ?_)))))))
  refine c_if (p := 2000 < ((pw.length : Nat) : Int)) eb (fun hc12 => ?_) (fun hc12 => ?_)
  ·skip
   refine wp_seq ?_
   exfalso; omega
  ·skip
   refine wp_skip (then_n (sr (w_val (v := pt b_a 0) (y_off (y_fa (ex (pt b_a 0)) (RecDerWT.fa30_0 _ _)) ro) (w_val (v := .string (str (Rc.nm q))) (y_ld (ex (pt b_a 0)) RecDerWT.sc9 (r_b_a.val om pz)) (w_val (v := pt b_a 1) (y_off (y_fa (ex (pt b_a 0)) (RecDerWT.fa30_1 _ _)) ro) (w_val (v := .string (str pw)) (y_ld (ex (pt b_a 1)) RecDerWT.sc9 (r_b_a.val om (ng pz))) (w_val (v := pt b_a 2) (y_off (y_fa (ex (pt b_a 0)) (RecDerWT.fa30_2 _ _)) ro) (w_val (v := .string (str salt)) (y_ld (ex (pt b_a 2)) RecDerWT.sc9 (r_b_a.val om (ng (ng pz)))) (w_val (v := pt b_a 3) (y_off (y_fa (ex (pt b_a 0)) (RecDerWT.fa30_3 _ _)) ro) (w_val (v := .int .i64 r) (y_ld (ex (pt b_a 3)) RecDerWT.sc3 (r_b_a.val om (ng (ng (ng dv))))) (w_call (Tryd.func9) kr rfl (m4 es es es ei) (derive_s q hq pw salt r om hs w3) ?_)))))))))))
   rintro _ w13 ⟨rfl, hb14⟩
   refine ⟨_, rfl, ?_⟩
   replace r_b_a := r_b_a.step hb14
   replace hk := thenB hk hb14
   refine w_mv (ex (.tuple #[.string (str ([] : List (BitVec 8))), .int .i64 4])) (w_val ye (w_val ye (w_as es (w_as ei (nt (sr (w_val (v := pt b_a 0) (y_off (y_fa (ex (pt b_a 0)) (RecDerWT.fa30_0 _ _)) ro) (w_val (v := .string (str (Rc.nm q))) (y_ld (ex (pt b_a 0)) RecDerWT.sc9 (r_b_a.val om pz)) (w_val (v := pt b_a 1) (y_off (y_fa (ex (pt b_a 0)) (RecDerWT.fa30_1 _ _)) ro) (w_val (v := .string (str pw)) (y_ld (ex (pt b_a 1)) RecDerWT.sc9 (r_b_a.val om (ng pz))) (w_val (v := pt b_a 2) (y_off (y_fa (ex (pt b_a 0)) (RecDerWT.fa30_2 _ _)) ro) (w_val (v := .string (str salt)) (y_ld (ex (pt b_a 2)) RecDerWT.sc9 (r_b_a.val om (ng (ng pz)))) (w_val (v := pt b_a 3) (y_off (y_fa (ex (pt b_a 0)) (RecDerWT.fa30_3 _ _)) ro) (w_val (v := .int .i64 r) (y_ld (ex (pt b_a 3)) RecDerWT.sc3 (r_b_a.val om (ng (ng (ng dv))))) (w_call (Tryd.func10) kr rfl (m4 es es es ei) (refDerive_s q hq pw salt r om hs w13) ?_)))))))))))))))
   rintro _ w15 ⟨rfl, hb16⟩
   refine ⟨_, rfl, ?_⟩
   replace r_b_a := r_b_a.step hb16
   replace hk := thenB hk hb16
   refine w_mv (ex (.tuple #[.string (str ([] : List (BitVec 8))), .int .i64 4])) (w_val ye (w_val ye (w_as es (w_as ei (nt (sr (w_mv es (w_mv es (w_val (y_bin es es b_eqs_same) (w_mv eb (w_val_g (v := .int .i64 4) (wy rfl rfl eb) (y_mv ei) (w_val_g (v := .int .i64 4) (wy rfl rfl eb) (y_mv ei) (w_val_g (wy rfl rfl eb) (y_bin ei ei b_eql) (w_val (y_pick_t eb eb) (w_as eb (nt (wp_ret (fin_ret1 rfl eb ?_))))))))))))))))))
   exact ⟨rfl, hk⟩

theorem recipDerives_r (q : Nat) (hq : q < 3) (pw salt : List (BitVec 8)) (r : Int) (hs : 8 ≤ salt.length) (hs2 : salt.length ≤ 1000) (hr : r < 1) (h : ¬ ((40 < r ∧ r ≤ 4096) ∨ 2000 < pw.length)) (w0 : World) : Calls Tryd.prog 4 #[.agg (arr 4 (fun j => if j < 1 then .string (str (Rc.nm q)) else if j < 2 then .string (str pw) else if j < 3 then .string (str salt) else .int .i64 r))] w0 fun e w' => e = .returned (.bool true) ∧ Below w0.heap.size w0 w' := by
 refine enter (n := 55) Tryd.func4 rfl rfl rfl ?_
 have hk : Below w0.heap.size w0 w0 := Below.refl _ _
 refine sr (w_box (m := 4) (F := fun j => if j < 1 then .string (str (Rc.nm q)) else if j < 2 then .string (str pw) else if j < 3 then .string (str salt) else .int .i64 r) ea rfl ?_)
 intro b_a w1 hbe_b_a r_b_a hb2
 have ge_b_a := gb_ hk.size hbe_b_a
 clear hbe_b_a
 replace hk := thenB hk hb2
 refine w_as Ev.c (nt (wp_seq (sr (w_call (Tryd.func8) kr rfl m0 (recWakes_c  w1) ?_))))
 rintro _ w3 ⟨rfl, hb4⟩
 refine ⟨_, rfl, ?_⟩
 replace r_b_a := r_b_a.step hb4
 replace hk := thenB hk hb4
 refine w_val (y_not eb) (nt (c_ff eb (wp_skip (then_n (wp_seq (sr (w_val (v := pt b_a 3) (y_off (y_fa (ex (pt b_a 0)) (RecDerWT.fa30_3 _ _)) ro) (w_val (v := .int .i64 r) (y_ld (ex (pt b_a 3)) RecDerWT.sc3 (r_b_a.val om (ng (ng (ng dv))))) (w_val (y_bin ei Ev.c b_gtr) (w_mv eb ?_))))))))))
 by_cases hc5 : 40 < r
 ·skip
  refine w_val_g (v := pt b_a 3) (wy rfl rfl (eb (dt hc5))) (y_off (y_fa (ex (pt b_a 0)) (RecDerWT.fa30_3 _ _)) ro) (w_val_g (v := .int .i64 r) (wy rfl rfl (eb (dt hc5))) (y_ld (ex (pt b_a 3)) RecDerWT.sc3 (r_b_a.val om (ng (ng (ng dv))))) (w_val_g (wy rfl rfl (eb (dt hc5))) (y_bin ei Ev.c b_leq) (w_val (y_pick_t (eb (dt hc5)) eb) (w_mv eb ?_))))
  by_cases hc6 : r ≤ 4096
  ·skip
   with_reducible refine w_skip ?_ ?_
   exact wn rfl rfl (eb (dt hc6))
   with_reducible refine w_skip ?_ ?_
   exact wn rfl rfl (eb (dt hc6))
   with_reducible refine w_skip ?_ ?_
   exact wn rfl rfl (eb (dt hc6))
   with_reducible refine w_skip ?_ ?_
   exact wn rfl rfl (eb (dt hc6))
   refine w_val (y_pick_t (eb (dt hc6)) Ev.c) (nt (c_tt eb (wp_seq ?_)))
   exfalso; omega
  ·skip
   refine w_val_g (v := pt b_a 1) (wy rfl rfl (eb (df hc6))) (y_off (y_fa (ex (pt b_a 0)) (RecDerWT.fa30_1 _ _)) ro) (w_val_g (v := .string (str pw)) (wy rfl rfl (eb (df hc6))) (y_ld (ex (pt b_a 1)) RecDerWT.sc9 (r_b_a.val om (ng pz))) (w_val_g (wy rfl rfl (eb (df hc6))) (y_len es Tryd.underlying9) (w_val_g (wy rfl rfl (eb (df hc6))) (y_bin ei Ev.c b_gtr) (w_val (y_pick_f (eb (df hc6)) eb) (nt ?_)))))
   refine c_if (p := 2000 < ((pw.length : Nat) : Int)) eb (fun hc7 => ?_) (fun hc7 => ?_)
   ·skip
    refine wp_seq ?_
    exfalso; omega
   ·skip
    refine wp_skip (then_n (sr (w_val (v := pt b_a 0) (y_off (y_fa (ex (pt b_a 0)) (RecDerWT.fa30_0 _ _)) ro) (w_val (v := .string (str (Rc.nm q))) (y_ld (ex (pt b_a 0)) RecDerWT.sc9 (r_b_a.val om pz)) (w_val (v := pt b_a 1) (y_off (y_fa (ex (pt b_a 0)) (RecDerWT.fa30_1 _ _)) ro) (w_val (v := .string (str pw)) (y_ld (ex (pt b_a 1)) RecDerWT.sc9 (r_b_a.val om (ng pz))) (w_val (v := pt b_a 2) (y_off (y_fa (ex (pt b_a 0)) (RecDerWT.fa30_2 _ _)) ro) (w_val (v := .string (str salt)) (y_ld (ex (pt b_a 2)) RecDerWT.sc9 (r_b_a.val om (ng (ng pz)))) (w_val (v := pt b_a 3) (y_off (y_fa (ex (pt b_a 0)) (RecDerWT.fa30_3 _ _)) ro) (w_val (v := .int .i64 r) (y_ld (ex (pt b_a 3)) RecDerWT.sc3 (r_b_a.val om (ng (ng (ng dv))))) (w_call (Tryd.func9) kr rfl (m4 es es es ei) (derive_r q hq pw salt r om hs hs2 hr w3) ?_)))))))))))
    rintro _ w8 ⟨rfl, hb9⟩
    refine ⟨_, rfl, ?_⟩
    replace r_b_a := r_b_a.step hb9
    replace hk := thenB hk hb9
    refine w_mv (ex (.tuple #[.string (str ([] : List (BitVec 8))), .int .i64 2])) (w_val ye (w_val ye (w_as es (w_as ei (nt (sr (w_val (v := pt b_a 0) (y_off (y_fa (ex (pt b_a 0)) (RecDerWT.fa30_0 _ _)) ro) (w_val (v := .string (str (Rc.nm q))) (y_ld (ex (pt b_a 0)) RecDerWT.sc9 (r_b_a.val om pz)) (w_val (v := pt b_a 1) (y_off (y_fa (ex (pt b_a 0)) (RecDerWT.fa30_1 _ _)) ro) (w_val (v := .string (str pw)) (y_ld (ex (pt b_a 1)) RecDerWT.sc9 (r_b_a.val om (ng pz))) (w_val (v := pt b_a 2) (y_off (y_fa (ex (pt b_a 0)) (RecDerWT.fa30_2 _ _)) ro) (w_val (v := .string (str salt)) (y_ld (ex (pt b_a 2)) RecDerWT.sc9 (r_b_a.val om (ng (ng pz)))) (w_val (v := pt b_a 3) (y_off (y_fa (ex (pt b_a 0)) (RecDerWT.fa30_3 _ _)) ro) (w_val (v := .int .i64 r) (y_ld (ex (pt b_a 3)) RecDerWT.sc3 (r_b_a.val om (ng (ng (ng dv))))) (w_call (Tryd.func10) kr rfl (m4 es es es ei) (refDerive_r q hq pw salt r om hs hs2 hr w8) ?_)))))))))))))))
    rintro _ w10 ⟨rfl, hb11⟩
    refine ⟨_, rfl, ?_⟩
    replace r_b_a := r_b_a.step hb11
    replace hk := thenB hk hb11
    refine w_mv (ex (.tuple #[.string (str ([] : List (BitVec 8))), .int .i64 2])) (w_val ye (w_val ye (w_as es (w_as ei (nt (sr (w_mv es (w_mv es (w_val (y_bin es es b_eqs_same) (w_mv eb (w_val_g (v := .int .i64 2) (wy rfl rfl eb) (y_mv ei) (w_val_g (v := .int .i64 2) (wy rfl rfl eb) (y_mv ei) (w_val_g (wy rfl rfl eb) (y_bin ei ei b_eql) (w_val (y_pick_t eb eb) (w_as eb (nt (wp_ret (fin_ret1 rfl eb ?_))))))))))))))))))
    exact ⟨rfl, hk⟩
 ·skip
  with_reducible refine w_skip ?_ ?_
  exact wn rfl rfl (eb (df hc5))
  with_reducible refine w_skip ?_ ?_
  exact wn rfl rfl (eb (df hc5))
  with_reducible refine w_skip ?_ ?_
  exact wn rfl rfl (eb (df hc5))
  refine w_val (y_pick_f (eb (df hc5)) Ev.c) (w_mv eb (w_val_g (v := pt b_a 1) (wy rfl rfl eb) (y_off (y_fa (ex (pt b_a 0)) (RecDerWT.fa30_1 _ _)) ro) (w_val_g (v := .string (str pw)) (wy rfl rfl eb) (y_ld (ex (pt b_a 1)) RecDerWT.sc9 (r_b_a.val om (ng pz))) (w_val_g (wy rfl rfl eb) (y_len es Tryd.underlying9) (w_val_g (wy rfl rfl eb) (y_bin ei Ev.c b_gtr) (w_val (y_pick_f eb eb) (nt ?_)))))))
  refine c_if (p := 2000 < ((pw.length : Nat) : Int)) eb (fun hc12 => ?_) (fun hc12 => ?_)
  ·skip
   refine wp_seq ?_
   exfalso; omega
  ·skip
   refine wp_skip (then_n (sr (w_val (v := pt b_a 0) (y_off (y_fa (ex (pt b_a 0)) (RecDerWT.fa30_0 _ _)) ro) (w_val (v := .string (str (Rc.nm q))) (y_ld (ex (pt b_a 0)) RecDerWT.sc9 (r_b_a.val om pz)) (w_val (v := pt b_a 1) (y_off (y_fa (ex (pt b_a 0)) (RecDerWT.fa30_1 _ _)) ro) (w_val (v := .string (str pw)) (y_ld (ex (pt b_a 1)) RecDerWT.sc9 (r_b_a.val om (ng pz))) (w_val (v := pt b_a 2) (y_off (y_fa (ex (pt b_a 0)) (RecDerWT.fa30_2 _ _)) ro) (w_val (v := .string (str salt)) (y_ld (ex (pt b_a 2)) RecDerWT.sc9 (r_b_a.val om (ng (ng pz)))) (w_val (v := pt b_a 3) (y_off (y_fa (ex (pt b_a 0)) (RecDerWT.fa30_3 _ _)) ro) (w_val (v := .int .i64 r) (y_ld (ex (pt b_a 3)) RecDerWT.sc3 (r_b_a.val om (ng (ng (ng dv))))) (w_call (Tryd.func9) kr rfl (m4 es es es ei) (derive_r q hq pw salt r om hs hs2 hr w3) ?_)))))))))))
   rintro _ w13 ⟨rfl, hb14⟩
   refine ⟨_, rfl, ?_⟩
   replace r_b_a := r_b_a.step hb14
   replace hk := thenB hk hb14
   refine w_mv (ex (.tuple #[.string (str ([] : List (BitVec 8))), .int .i64 2])) (w_val ye (w_val ye (w_as es (w_as ei (nt (sr (w_val (v := pt b_a 0) (y_off (y_fa (ex (pt b_a 0)) (RecDerWT.fa30_0 _ _)) ro) (w_val (v := .string (str (Rc.nm q))) (y_ld (ex (pt b_a 0)) RecDerWT.sc9 (r_b_a.val om pz)) (w_val (v := pt b_a 1) (y_off (y_fa (ex (pt b_a 0)) (RecDerWT.fa30_1 _ _)) ro) (w_val (v := .string (str pw)) (y_ld (ex (pt b_a 1)) RecDerWT.sc9 (r_b_a.val om (ng pz))) (w_val (v := pt b_a 2) (y_off (y_fa (ex (pt b_a 0)) (RecDerWT.fa30_2 _ _)) ro) (w_val (v := .string (str salt)) (y_ld (ex (pt b_a 2)) RecDerWT.sc9 (r_b_a.val om (ng (ng pz)))) (w_val (v := pt b_a 3) (y_off (y_fa (ex (pt b_a 0)) (RecDerWT.fa30_3 _ _)) ro) (w_val (v := .int .i64 r) (y_ld (ex (pt b_a 3)) RecDerWT.sc3 (r_b_a.val om (ng (ng (ng dv))))) (w_call (Tryd.func10) kr rfl (m4 es es es ei) (refDerive_r q hq pw salt r om hs hs2 hr w13) ?_)))))))))))))))
   rintro _ w15 ⟨rfl, hb16⟩
   refine ⟨_, rfl, ?_⟩
   replace r_b_a := r_b_a.step hb16
   replace hk := thenB hk hb16
   refine w_mv (ex (.tuple #[.string (str ([] : List (BitVec 8))), .int .i64 2])) (w_val ye (w_val ye (w_as es (w_as ei (nt (sr (w_mv es (w_mv es (w_val (y_bin es es b_eqs_same) (w_mv eb (w_val_g (v := .int .i64 2) (wy rfl rfl eb) (y_mv ei) (w_val_g (v := .int .i64 2) (wy rfl rfl eb) (y_mv ei) (w_val_g (wy rfl rfl eb) (y_bin ei ei b_eql) (w_val (y_pick_t eb eb) (w_as eb (nt (wp_ret (fin_ret1 rfl eb ?_))))))))))))))))))
   exact ⟨rfl, hk⟩

theorem recipDerives_t (q : Nat) (hq : q < 3) (pw salt : List (BitVec 8)) (r : Int) (hs : 8 ≤ salt.length) (hs2 : salt.length ≤ 1000) (hr : 4096 < r) (h : ¬ ((40 < r ∧ r ≤ 4096) ∨ 2000 < pw.length)) (w0 : World) : Calls Tryd.prog 4 #[.agg (arr 4 (fun j => if j < 1 then .string (str (Rc.nm q)) else if j < 2 then .string (str pw) else if j < 3 then .string (str salt) else .int .i64 r))] w0 fun e w' => e = .returned (.bool true) ∧ Below w0.heap.size w0 w' := by
 refine enter (n := 55) Tryd.func4 rfl rfl rfl ?_
 have hk : Below w0.heap.size w0 w0 := Below.refl _ _
 refine sr (w_box (m := 4) (F := fun j => if j < 1 then .string (str (Rc.nm q)) else if j < 2 then .string (str pw) else if j < 3 then .string (str salt) else .int .i64 r) ea rfl ?_)
 intro b_a w1 hbe_b_a r_b_a hb2
 have ge_b_a := gb_ hk.size hbe_b_a
 clear hbe_b_a
 replace hk := thenB hk hb2
 refine w_as Ev.c (nt (wp_seq (sr (w_call (Tryd.func8) kr rfl m0 (recWakes_c  w1) ?_))))
 rintro _ w3 ⟨rfl, hb4⟩
 refine ⟨_, rfl, ?_⟩
 replace r_b_a := r_b_a.step hb4
 replace hk := thenB hk hb4
 refine w_val (y_not eb) (nt (c_ff eb (wp_skip (then_n (wp_seq (sr (w_val (v := pt b_a 3) (y_off (y_fa (ex (pt b_a 0)) (RecDerWT.fa30_3 _ _)) ro) (w_val (v := .int .i64 r) (y_ld (ex (pt b_a 3)) RecDerWT.sc3 (r_b_a.val om (ng (ng (ng dv))))) (w_val (y_bin ei Ev.c b_gtr) (w_mv eb ?_))))))))))
 by_cases hc5 : 40 < r
 ·skip
  refine w_val_g (v := pt b_a 3) (wy rfl rfl (eb (dt hc5))) (y_off (y_fa (ex (pt b_a 0)) (RecDerWT.fa30_3 _ _)) ro) (w_val_g (v := .int .i64 r) (wy rfl rfl (eb (dt hc5))) (y_ld (ex (pt b_a 3)) RecDerWT.sc3 (r_b_a.val om (ng (ng (ng dv))))) (w_val_g (wy rfl rfl (eb (dt hc5))) (y_bin ei Ev.c b_leq) (w_val (y_pick_t (eb (dt hc5)) eb) (w_mv eb ?_))))
  by_cases hc6 : r ≤ 4096
  ·skip
   with_reducible refine w_skip ?_ ?_
   exact wn rfl rfl (eb (dt hc6))
   with_reducible refine w_skip ?_ ?_
   exact wn rfl rfl (eb (dt hc6))
   with_reducible refine w_skip ?_ ?_
   exact wn rfl rfl (eb (dt hc6))
   with_reducible refine w_skip ?_ ?_
   exact wn rfl rfl (eb (dt hc6))
   refine w_val (y_pick_t (eb (dt hc6)) Ev.c) (nt (c_tt eb (wp_seq ?_)))
   exfalso; omega
  ·skip
   refine w_val_g (v := pt b_a 1) (wy rfl rfl (eb (df hc6))) (y_off (y_fa (ex (pt b_a 0)) (RecDerWT.fa30_1 _ _)) ro) (w_val_g (v := .string (str pw)) (wy rfl rfl (eb (df hc6))) (y_ld (ex (pt b_a 1)) RecDerWT.sc9 (r_b_a.val om (ng pz))) (w_val_g (wy rfl rfl (eb (df hc6))) (y_len es Tryd.underlying9) (w_val_g (wy rfl rfl (eb (df hc6))) (y_bin ei Ev.c b_gtr) (w_val (y_pick_f (eb (df hc6)) eb) (nt ?_)))))
   refine c_if (p := 2000 < ((pw.length : Nat) : Int)) eb (fun hc7 => ?_) (fun hc7 => ?_)
   ·skip
    refine wp_seq ?_
    exfalso; omega
   ·skip
    refine wp_skip (then_n (sr (w_val (v := pt b_a 0) (y_off (y_fa (ex (pt b_a 0)) (RecDerWT.fa30_0 _ _)) ro) (w_val (v := .string (str (Rc.nm q))) (y_ld (ex (pt b_a 0)) RecDerWT.sc9 (r_b_a.val om pz)) (w_val (v := pt b_a 1) (y_off (y_fa (ex (pt b_a 0)) (RecDerWT.fa30_1 _ _)) ro) (w_val (v := .string (str pw)) (y_ld (ex (pt b_a 1)) RecDerWT.sc9 (r_b_a.val om (ng pz))) (w_val (v := pt b_a 2) (y_off (y_fa (ex (pt b_a 0)) (RecDerWT.fa30_2 _ _)) ro) (w_val (v := .string (str salt)) (y_ld (ex (pt b_a 2)) RecDerWT.sc9 (r_b_a.val om (ng (ng pz)))) (w_val (v := pt b_a 3) (y_off (y_fa (ex (pt b_a 0)) (RecDerWT.fa30_3 _ _)) ro) (w_val (v := .int .i64 r) (y_ld (ex (pt b_a 3)) RecDerWT.sc3 (r_b_a.val om (ng (ng (ng dv))))) (w_call (Tryd.func9) kr rfl (m4 es es es ei) (derive_t q hq pw salt r om hs hs2 hr w3) ?_)))))))))))
    rintro _ w8 ⟨rfl, hb9⟩
    refine ⟨_, rfl, ?_⟩
    replace r_b_a := r_b_a.step hb9
    replace hk := thenB hk hb9
    refine w_mv (ex (.tuple #[.string (str ([] : List (BitVec 8))), .int .i64 14])) (w_val ye (w_val ye (w_as es (w_as ei (nt (sr (w_val (v := pt b_a 0) (y_off (y_fa (ex (pt b_a 0)) (RecDerWT.fa30_0 _ _)) ro) (w_val (v := .string (str (Rc.nm q))) (y_ld (ex (pt b_a 0)) RecDerWT.sc9 (r_b_a.val om pz)) (w_val (v := pt b_a 1) (y_off (y_fa (ex (pt b_a 0)) (RecDerWT.fa30_1 _ _)) ro) (w_val (v := .string (str pw)) (y_ld (ex (pt b_a 1)) RecDerWT.sc9 (r_b_a.val om (ng pz))) (w_val (v := pt b_a 2) (y_off (y_fa (ex (pt b_a 0)) (RecDerWT.fa30_2 _ _)) ro) (w_val (v := .string (str salt)) (y_ld (ex (pt b_a 2)) RecDerWT.sc9 (r_b_a.val om (ng (ng pz)))) (w_val (v := pt b_a 3) (y_off (y_fa (ex (pt b_a 0)) (RecDerWT.fa30_3 _ _)) ro) (w_val (v := .int .i64 r) (y_ld (ex (pt b_a 3)) RecDerWT.sc3 (r_b_a.val om (ng (ng (ng dv))))) (w_call (Tryd.func10) kr rfl (m4 es es es ei) (refDerive_t q hq pw salt r om hs hs2 hr w8) ?_)))))))))))))))
    rintro _ w10 ⟨rfl, hb11⟩
    refine ⟨_, rfl, ?_⟩
    replace r_b_a := r_b_a.step hb11
    replace hk := thenB hk hb11
    refine w_mv (ex (.tuple #[.string (str ([] : List (BitVec 8))), .int .i64 14])) (w_val ye (w_val ye (w_as es (w_as ei (nt (sr (w_mv es (w_mv es (w_val (y_bin es es b_eqs_same) (w_mv eb (w_val_g (v := .int .i64 14) (wy rfl rfl eb) (y_mv ei) (w_val_g (v := .int .i64 14) (wy rfl rfl eb) (y_mv ei) (w_val_g (wy rfl rfl eb) (y_bin ei ei b_eql) (w_val (y_pick_t eb eb) (w_as eb (nt (wp_ret (fin_ret1 rfl eb ?_))))))))))))))))))
    exact ⟨rfl, hk⟩
 ·skip
  with_reducible refine w_skip ?_ ?_
  exact wn rfl rfl (eb (df hc5))
  with_reducible refine w_skip ?_ ?_
  exact wn rfl rfl (eb (df hc5))
  with_reducible refine w_skip ?_ ?_
  exact wn rfl rfl (eb (df hc5))
  refine w_val (y_pick_f (eb (df hc5)) Ev.c) (w_mv eb (w_val_g (v := pt b_a 1) (wy rfl rfl eb) (y_off (y_fa (ex (pt b_a 0)) (RecDerWT.fa30_1 _ _)) ro) (w_val_g (v := .string (str pw)) (wy rfl rfl eb) (y_ld (ex (pt b_a 1)) RecDerWT.sc9 (r_b_a.val om (ng pz))) (w_val_g (wy rfl rfl eb) (y_len es Tryd.underlying9) (w_val_g (wy rfl rfl eb) (y_bin ei Ev.c b_gtr) (w_val (y_pick_f eb eb) (nt ?_)))))))
  refine c_if (p := 2000 < ((pw.length : Nat) : Int)) eb (fun hc12 => ?_) (fun hc12 => ?_)
  ·skip
   refine wp_seq ?_
   exfalso; omega
  ·skip
   refine wp_skip (then_n (sr (w_val (v := pt b_a 0) (y_off (y_fa (ex (pt b_a 0)) (RecDerWT.fa30_0 _ _)) ro) (w_val (v := .string (str (Rc.nm q))) (y_ld (ex (pt b_a 0)) RecDerWT.sc9 (r_b_a.val om pz)) (w_val (v := pt b_a 1) (y_off (y_fa (ex (pt b_a 0)) (RecDerWT.fa30_1 _ _)) ro) (w_val (v := .string (str pw)) (y_ld (ex (pt b_a 1)) RecDerWT.sc9 (r_b_a.val om (ng pz))) (w_val (v := pt b_a 2) (y_off (y_fa (ex (pt b_a 0)) (RecDerWT.fa30_2 _ _)) ro) (w_val (v := .string (str salt)) (y_ld (ex (pt b_a 2)) RecDerWT.sc9 (r_b_a.val om (ng (ng pz)))) (w_val (v := pt b_a 3) (y_off (y_fa (ex (pt b_a 0)) (RecDerWT.fa30_3 _ _)) ro) (w_val (v := .int .i64 r) (y_ld (ex (pt b_a 3)) RecDerWT.sc3 (r_b_a.val om (ng (ng (ng dv))))) (w_call (Tryd.func9) kr rfl (m4 es es es ei) (derive_t q hq pw salt r om hs hs2 hr w3) ?_)))))))))))
   rintro _ w13 ⟨rfl, hb14⟩
   refine ⟨_, rfl, ?_⟩
   replace r_b_a := r_b_a.step hb14
   replace hk := thenB hk hb14
   refine w_mv (ex (.tuple #[.string (str ([] : List (BitVec 8))), .int .i64 14])) (w_val ye (w_val ye (w_as es (w_as ei (nt (sr (w_val (v := pt b_a 0) (y_off (y_fa (ex (pt b_a 0)) (RecDerWT.fa30_0 _ _)) ro) (w_val (v := .string (str (Rc.nm q))) (y_ld (ex (pt b_a 0)) RecDerWT.sc9 (r_b_a.val om pz)) (w_val (v := pt b_a 1) (y_off (y_fa (ex (pt b_a 0)) (RecDerWT.fa30_1 _ _)) ro) (w_val (v := .string (str pw)) (y_ld (ex (pt b_a 1)) RecDerWT.sc9 (r_b_a.val om (ng pz))) (w_val (v := pt b_a 2) (y_off (y_fa (ex (pt b_a 0)) (RecDerWT.fa30_2 _ _)) ro) (w_val (v := .string (str salt)) (y_ld (ex (pt b_a 2)) RecDerWT.sc9 (r_b_a.val om (ng (ng pz)))) (w_val (v := pt b_a 3) (y_off (y_fa (ex (pt b_a 0)) (RecDerWT.fa30_3 _ _)) ro) (w_val (v := .int .i64 r) (y_ld (ex (pt b_a 3)) RecDerWT.sc3 (r_b_a.val om (ng (ng (ng dv))))) (w_call (Tryd.func10) kr rfl (m4 es es es ei) (refDerive_t q hq pw salt r om hs hs2 hr w13) ?_)))))))))))))))
   rintro _ w15 ⟨rfl, hb16⟩
   refine ⟨_, rfl, ?_⟩
   replace r_b_a := r_b_a.step hb16
   replace hk := thenB hk hb16
   refine w_mv (ex (.tuple #[.string (str ([] : List (BitVec 8))), .int .i64 14])) (w_val ye (w_val ye (w_as es (w_as ei (nt (sr (w_mv es (w_mv es (w_val (y_bin es es b_eqs_same) (w_mv eb (w_val_g (v := .int .i64 14) (wy rfl rfl eb) (y_mv ei) (w_val_g (v := .int .i64 14) (wy rfl rfl eb) (y_mv ei) (w_val_g (wy rfl rfl eb) (y_bin ei ei b_eql) (w_val (y_pick_t eb eb) (w_as eb (nt (wp_ret (fin_ret1 rfl eb ?_))))))))))))))))))
   exact ⟨rfl, hk⟩

theorem recipDerives_y (q : Nat) (hq : q < 3) (pw salt : List (BitVec 8)) (r : Int) (hs : 8 ≤ salt.length) (hs2 : salt.length ≤ 1000) (h1 : 1 ≤ r) (hr : r ≤ 4096) (h : ¬ ((40 < r ∧ r ≤ 4096) ∨ 2000 < pw.length)) (w0 : World) (hT : Sha.Tabs w0) : Calls Tryd.prog 4 #[.agg (arr 4 (fun j => if j < 1 then .string (str (Rc.nm q)) else if j < 2 then .string (str pw) else if j < 3 then .string (str salt) else .int .i64 r))] w0 fun e w' => e = .returned (.bool true) ∧ Below w0.heap.size w0 w' := by
 have hkb := Pb.key_bound ((Rc.kd q : Nat) : Int) pw ((Rc.nm q ++ ([0#8])) ++ salt) r (16 + (8 * ((q : Nat) : Int)))
 refine enter (n := 55) Tryd.func4 rfl rfl rfl ?_
 have hk : Below w0.heap.size w0 w0 := Below.refl _ _
 refine sr (w_box (m := 4) (F := fun j => if j < 1 then .string (str (Rc.nm q)) else if j < 2 then .string (str pw) else if j < 3 then .string (str salt) else .int .i64 r) ea rfl ?_)
 intro b_a w1 hbe_b_a r_b_a hb2
 have ge_b_a := gb_ hk.size hbe_b_a
 clear hbe_b_a
 replace hk := thenB hk hb2
 replace hT := Sha.Tabs.below hT hb2
 refine w_as Ev.c (nt (wp_seq (sr (w_call (Tryd.func8) kr rfl m0 (recWakes_c  w1) ?_))))
 rintro _ w3 ⟨rfl, hb4⟩
 refine ⟨_, rfl, ?_⟩
 replace r_b_a := r_b_a.step hb4
 replace hk := thenB hk hb4
 replace hT := Sha.Tabs.below hT hb4
 refine w_val (y_not eb) (nt (c_ff eb (wp_skip (then_n (wp_seq (sr (w_val (v := pt b_a 3) (y_off (y_fa (ex (pt b_a 0)) (RecDerWT.fa30_3 _ _)) ro) (w_val (v := .int .i64 r) (y_ld (ex (pt b_a 3)) RecDerWT.sc3 (r_b_a.val om (ng (ng (ng dv))))) (w_val (y_bin ei Ev.c b_gtr) (w_mv eb ?_))))))))))
 by_cases hc5 : 40 < r
 ·skip
  refine w_val_g (v := pt b_a 3) (wy rfl rfl (eb (dt hc5))) (y_off (y_fa (ex (pt b_a 0)) (RecDerWT.fa30_3 _ _)) ro) (w_val_g (v := .int .i64 r) (wy rfl rfl (eb (dt hc5))) (y_ld (ex (pt b_a 3)) RecDerWT.sc3 (r_b_a.val om (ng (ng (ng dv))))) (w_val_g (wy rfl rfl (eb (dt hc5))) (y_bin ei Ev.c b_leq) (w_val (y_pick_t (eb (dt hc5)) eb) (w_mv eb ?_))))
  by_cases hc6 : r ≤ 4096
  ·skip
   with_reducible refine w_skip ?_ ?_
   exact wn rfl rfl (eb (dt hc6))
   with_reducible refine w_skip ?_ ?_
   exact wn rfl rfl (eb (dt hc6))
   with_reducible refine w_skip ?_ ?_
   exact wn rfl rfl (eb (dt hc6))
   with_reducible refine w_skip ?_ ?_
   exact wn rfl rfl (eb (dt hc6))
   refine w_val (y_pick_t (eb (dt hc6)) Ev.c) (nt (c_tt eb (wp_seq ?_)))
   exfalso; omega
  ·skip
   refine w_val_g (v := pt b_a 1) (wy rfl rfl (eb (df hc6))) (y_off (y_fa (ex (pt b_a 0)) (RecDerWT.fa30_1 _ _)) ro) (w_val_g (v := .string (str pw)) (wy rfl rfl (eb (df hc6))) (y_ld (ex (pt b_a 1)) RecDerWT.sc9 (r_b_a.val om (ng pz))) (w_val_g (wy rfl rfl (eb (df hc6))) (y_len es Tryd.underlying9) (w_val_g (wy rfl rfl (eb (df hc6))) (y_bin ei Ev.c b_gtr) (w_val (y_pick_f (eb (df hc6)) eb) (nt ?_)))))
   refine c_if (p := 2000 < ((pw.length : Nat) : Int)) eb (fun hc7 => ?_) (fun hc7 => ?_)
   ·skip
    refine wp_seq ?_
    exfalso; omega
   ·skip
    refine wp_skip (then_n (sr (w_val (v := pt b_a 0) (y_off (y_fa (ex (pt b_a 0)) (RecDerWT.fa30_0 _ _)) ro) (w_val (v := .string (str (Rc.nm q))) (y_ld (ex (pt b_a 0)) RecDerWT.sc9 (r_b_a.val om pz)) (w_val (v := pt b_a 1) (y_off (y_fa (ex (pt b_a 0)) (RecDerWT.fa30_1 _ _)) ro) (w_val (v := .string (str pw)) (y_ld (ex (pt b_a 1)) RecDerWT.sc9 (r_b_a.val om (ng pz))) (w_val (v := pt b_a 2) (y_off (y_fa (ex (pt b_a 0)) (RecDerWT.fa30_2 _ _)) ro) (w_val (v := .string (str salt)) (y_ld (ex (pt b_a 2)) RecDerWT.sc9 (r_b_a.val om (ng (ng pz)))) (w_val (v := pt b_a 3) (y_off (y_fa (ex (pt b_a 0)) (RecDerWT.fa30_3 _ _)) ro) (w_val (v := .int .i64 r) (y_ld (ex (pt b_a 3)) RecDerWT.sc3 (r_b_a.val om (ng (ng (ng dv))))) (w_call (Tryd.func9) kr rfl (m4 es es es ei) (derive_y q hq pw salt r om hs hs2 h1 hr w3 hT) ?_)))))))))))
    rintro _ w8 ⟨rfl, hb9⟩
    refine ⟨_, rfl, ?_⟩
    replace r_b_a := r_b_a.step hb9
    replace hk := thenB hk hb9
    replace hT := Sha.Tabs.below hT hb9
    refine w_mv (ex (.tuple #[.string (str ((Pb.key ((Rc.kd q : Nat) : Int) pw ((Rc.nm q ++ ([0#8])) ++ salt) r (16 + (8 * ((q : Nat) : Int)))).1)), .int .i64 ((Pb.key ((Rc.kd q : Nat) : Int) pw ((Rc.nm q ++ ([0#8])) ++ salt) r (16 + (8 * ((q : Nat) : Int)))).2)])) (w_val ye (w_val ye (w_as es (w_as ei (nt (sr (w_val (v := pt b_a 0) (y_off (y_fa (ex (pt b_a 0)) (RecDerWT.fa30_0 _ _)) ro) (w_val (v := .string (str (Rc.nm q))) (y_ld (ex (pt b_a 0)) RecDerWT.sc9 (r_b_a.val om pz)) (w_val (v := pt b_a 1) (y_off (y_fa (ex (pt b_a 0)) (RecDerWT.fa30_1 _ _)) ro) (w_val (v := .string (str pw)) (y_ld (ex (pt b_a 1)) RecDerWT.sc9 (r_b_a.val om (ng pz))) (w_val (v := pt b_a 2) (y_off (y_fa (ex (pt b_a 0)) (RecDerWT.fa30_2 _ _)) ro) (w_val (v := .string (str salt)) (y_ld (ex (pt b_a 2)) RecDerWT.sc9 (r_b_a.val om (ng (ng pz)))) (w_val (v := pt b_a 3) (y_off (y_fa (ex (pt b_a 0)) (RecDerWT.fa30_3 _ _)) ro) (w_val (v := .int .i64 r) (y_ld (ex (pt b_a 3)) RecDerWT.sc3 (r_b_a.val om (ng (ng (ng dv))))) (w_call (Tryd.func10) kr rfl (m4 es es es ei) (refDerive_y q hq pw salt r om hs hs2 h1 hr w8) ?_)))))))))))))))
    rintro _ w10 ⟨rfl, hb11⟩
    refine ⟨_, rfl, ?_⟩
    replace r_b_a := r_b_a.step hb11
    replace hk := thenB hk hb11
    replace hT := Sha.Tabs.below hT hb11
    refine w_mv (ex (.tuple #[.string (str ((Pb.key ((Rc.kd q : Nat) : Int) pw ((Rc.nm q ++ ([0#8])) ++ salt) r (16 + (8 * ((q : Nat) : Int)))).1)), .int .i64 ((Pb.key ((Rc.kd q : Nat) : Int) pw ((Rc.nm q ++ ([0#8])) ++ salt) r (16 + (8 * ((q : Nat) : Int)))).2)])) (w_val ye (w_val ye (w_as es (w_as ei (nt (sr (w_mv es (w_mv es (w_val (y_bin es es b_eqs_same) (w_mv eb (w_val_g (v := .int .i64 ((Pb.key ((Rc.kd q : Nat) : Int) pw ((Rc.nm q ++ ([0#8])) ++ salt) r (16 + (8 * ((q : Nat) : Int)))).2)) (wy rfl rfl eb) (y_mv ei) (w_val_g (v := .int .i64 ((Pb.key ((Rc.kd q : Nat) : Int) pw ((Rc.nm q ++ ([0#8])) ++ salt) r (16 + (8 * ((q : Nat) : Int)))).2)) (wy rfl rfl eb) (y_mv ei) (w_val_g (wy rfl rfl eb) (y_bin ei ei b_eql) (w_val (y_pick_t eb eb) (w_as eb (nt (wp_ret ?_)))))))))))))))))
    have hc12 : ((Pb.key ((Rc.kd q : Nat) : Int) pw ((Rc.nm q ++ ([0#8])) ++ salt) r (16 + (8 * ((q : Nat) : Int)))).2) = ((Pb.key ((Rc.kd q : Nat) : Int) pw ((Rc.nm q ++ ([0#8])) ++ salt) r (16 + (8 * ((q : Nat) : Int)))).2) := by rfl
    refine fin_ret1 rfl (eb (dt hc12)) ?_
    exact ⟨rfl, hk⟩
 ·skip
  with_reducible refine w_skip ?_ ?_
  exact wn rfl rfl (eb (df hc5))
  with_reducible refine w_skip ?_ ?_
  exact wn rfl rfl (eb (df hc5))
  with_reducible refine w_skip ?_ ?_
  exact wn rfl rfl (eb (df hc5))
  refine w_val (y_pick_f (eb (df hc5)) Ev.c) (w_mv eb (w_val_g (v := pt b_a 1) (wy rfl rfl eb) (y_off (y_fa (ex (pt b_a 0)) (RecDerWT.fa30_1 _ _)) ro) (w_val_g (v := .string (str pw)) (wy rfl rfl eb) (y_ld (ex (pt b_a 1)) RecDerWT.sc9 (r_b_a.val om (ng pz))) (w_val_g (wy rfl rfl eb) (y_len es Tryd.underlying9) (w_val_g (wy rfl rfl eb) (y_bin ei Ev.c b_gtr) (w_val (y_pick_f eb eb) (nt ?_)))))))
  refine c_if (p := 2000 < ((pw.length : Nat) : Int)) eb (fun hc13 => ?_) (fun hc13 => ?_)
  ·skip
   refine wp_seq ?_
   exfalso; omega
  ·skip
   refine wp_skip (then_n (sr (w_val (v := pt b_a 0) (y_off (y_fa (ex (pt b_a 0)) (RecDerWT.fa30_0 _ _)) ro) (w_val (v := .string (str (Rc.nm q))) (y_ld (ex (pt b_a 0)) RecDerWT.sc9 (r_b_a.val om pz)) (w_val (v := pt b_a 1) (y_off (y_fa (ex (pt b_a 0)) (RecDerWT.fa30_1 _ _)) ro) (w_val (v := .string (str pw)) (y_ld (ex (pt b_a 1)) RecDerWT.sc9 (r_b_a.val om (ng pz))) (w_val (v := pt b_a 2) (y_off (y_fa (ex (pt b_a 0)) (RecDerWT.fa30_2 _ _)) ro) (w_val (v := .string (str salt)) (y_ld (ex (pt b_a 2)) RecDerWT.sc9 (r_b_a.val om (ng (ng pz)))) (w_val (v := pt b_a 3) (y_off (y_fa (ex (pt b_a 0)) (RecDerWT.fa30_3 _ _)) ro) (w_val (v := .int .i64 r) (y_ld (ex (pt b_a 3)) RecDerWT.sc3 (r_b_a.val om (ng (ng (ng dv))))) (w_call (Tryd.func9) kr rfl (m4 es es es ei) (derive_y q hq pw salt r om hs hs2 h1 hr w3 hT) ?_)))))))))))
   rintro _ w14 ⟨rfl, hb15⟩
   refine ⟨_, rfl, ?_⟩
   replace r_b_a := r_b_a.step hb15
   replace hk := thenB hk hb15
   replace hT := Sha.Tabs.below hT hb15
   refine w_mv (ex (.tuple #[.string (str ((Pb.key ((Rc.kd q : Nat) : Int) pw ((Rc.nm q ++ ([0#8])) ++ salt) r (16 + (8 * ((q : Nat) : Int)))).1)), .int .i64 ((Pb.key ((Rc.kd q : Nat) : Int) pw ((Rc.nm q ++ ([0#8])) ++ salt) r (16 + (8 * ((q : Nat) : Int)))).2)])) (w_val ye (w_val ye (w_as es (w_as ei (nt (sr (w_val (v := pt b_a 0) (y_off (y_fa (ex (pt b_a 0)) (RecDerWT.fa30_0 _ _)) ro) (w_val (v := .string (str (Rc.nm q))) (y_ld (ex (pt b_a 0)) RecDerWT.sc9 (r_b_a.val om pz)) (w_val (v := pt b_a 1) (y_off (y_fa (ex (pt b_a 0)) (RecDerWT.fa30_1 _ _)) ro) (w_val (v := .string (str pw)) (y_ld (ex (pt b_a 1)) RecDerWT.sc9 (r_b_a.val om (ng pz))) (w_val (v := pt b_a 2) (y_off (y_fa (ex (pt b_a 0)) (RecDerWT.fa30_2 _ _)) ro) (w_val (v := .string (str salt)) (y_ld (ex (pt b_a 2)) RecDerWT.sc9 (r_b_a.val om (ng (ng pz)))) (w_val (v := pt b_a 3) (y_off (y_fa (ex (pt b_a 0)) (RecDerWT.fa30_3 _ _)) ro) (w_val (v := .int .i64 r) (y_ld (ex (pt b_a 3)) RecDerWT.sc3 (r_b_a.val om (ng (ng (ng dv))))) (w_call (Tryd.func10) kr rfl (m4 es es es ei) (refDerive_y q hq pw salt r om hs hs2 h1 hr w14) ?_)))))))))))))))
   rintro _ w16 ⟨rfl, hb17⟩
   refine ⟨_, rfl, ?_⟩
   replace r_b_a := r_b_a.step hb17
   replace hk := thenB hk hb17
   replace hT := Sha.Tabs.below hT hb17
   refine w_mv (ex (.tuple #[.string (str ((Pb.key ((Rc.kd q : Nat) : Int) pw ((Rc.nm q ++ ([0#8])) ++ salt) r (16 + (8 * ((q : Nat) : Int)))).1)), .int .i64 ((Pb.key ((Rc.kd q : Nat) : Int) pw ((Rc.nm q ++ ([0#8])) ++ salt) r (16 + (8 * ((q : Nat) : Int)))).2)])) (w_val ye (w_val ye (w_as es (w_as ei (nt (sr (w_mv es (w_mv es (w_val (y_bin es es b_eqs_same) (w_mv eb (w_val_g (v := .int .i64 ((Pb.key ((Rc.kd q : Nat) : Int) pw ((Rc.nm q ++ ([0#8])) ++ salt) r (16 + (8 * ((q : Nat) : Int)))).2)) (wy rfl rfl eb) (y_mv ei) (w_val_g (v := .int .i64 ((Pb.key ((Rc.kd q : Nat) : Int) pw ((Rc.nm q ++ ([0#8])) ++ salt) r (16 + (8 * ((q : Nat) : Int)))).2)) (wy rfl rfl eb) (y_mv ei) (w_val_g (wy rfl rfl eb) (y_bin ei ei b_eql) (w_val (y_pick_t eb eb) (w_as eb (nt (wp_ret ?_)))))))))))))))))
   have hc18 : ((Pb.key ((Rc.kd q : Nat) : Int) pw ((Rc.nm q ++ ([0#8])) ++ salt) r (16 + (8 * ((q : Nat) : Int)))).2) = ((Pb.key ((Rc.kd q : Nat) : Int) pw ((Rc.nm q ++ ([0#8])) ++ salt) r (16 + (8 * ((q : Nat) : Int)))).2) := by rfl
   refine fin_ret1 rfl (eb (dt hc18)) ?_
   exact ⟨rfl, hk⟩

theorem recipDerives_q (q : Nat) (hq : q < 3) (pw salt : List (BitVec 8)) (r : Int) (h : ¬ ((40 < r ∧ r ≤ 4096) ∨ 2000 < pw.length)) (w : World) (hT : Sha.Tabs w) : Calls Tryd.prog 4 #[.agg #[.string (str (Rc.nm q)), .string (str pw), .string (str salt), .int .i64 r]] w fun e w' => e = .returned (.bool true) ∧ Below w.heap.size w w' := by
  by_cases hs : salt.length < 8 ∨ 1000 < salt.length
  · exact recipDerives_s q hq pw salt r hs h w
  · by_cases hr : r < 1
    · exact recipDerives_r q hq pw salt r om om hr h w
    · by_cases ht : 4096 < r
      · exact recipDerives_t q hq pw salt r om om ht h w
      · exact recipDerives_y q hq pw salt r om om om om h w hT

theorem walk_RecipDerives (name : List (BitVec 8)) (hn : name.length ≤ 140737488351232) (pw : List (BitVec 8)) (hpw : pw.length ≤ 140737488351232) (salt : List (BitVec 8)) (hsl : salt.length ≤ 140737488351232) (r : Int) (hw : (Lit.int .i64 r).wf = true) (w : World) (hT : Sha.Tabs w) : Calls Tryd.prog 4 #[.agg #[.string (str name), .string (str pw), .string (str salt), .int .i64 r]] w fun e w' => e = .returned (.bool true) ∧ Below w.heap.size w w' := by
  by_cases h : (40 < r ∧ r ≤ 4096) ∨ 2000 < pw.length
  · exact recipDerives_l name pw salt r h w
  · by_cases h0 : Rc.nm 0 = name
    · subst h0; exact recipDerives_q 0 om pw salt r h w hT
    · by_cases h1 : Rc.nm 1 = name
      · subst h1; exact recipDerives_q 1 om pw salt r h w hT
      · by_cases h2 : Rc.nm 2 = name
        · subst h2; exact recipDerives_q 2 om pw salt r h w hT
        · exact recipDerives_o name pw salt r hn h0 h1 h2 h w
end Go.Proofs.YtepogbfkmflooaaDoor
