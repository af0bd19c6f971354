/-
  Ciphers by numbers: the laws' waking. Conditions as each says.
-/
import Derived.Test.YtdmbfimjbmfbaaaGreatRows
import Derived.Test.YtdmbfimjbmfbaaaGreatSuA
import Derived.Test.YtdmbfimjbmfbaaaGreatGcmB
import Derived.Test.YtdmbfimjbmfbaaaGreatGenInv
import Derived.Test.YtdmbfimjbmfbaaaGreatGenSh
import Derived.ProofKit
namespace Go.Proofs.YtdmbfimjbmfbaaaGreat
open Go.RowKit
set_option linter.unusedSimpArgs false
set_option linter.unusedVariables false
set_option maxRecDepth 100000
set_option maxHeartbeats 1000000
namespace SuWT
theorem mixed : Tryz.prog.follows .mixedOrders = true := by kernel_rfl
theorem ag23 : (Tryz.prog.underlying 23).map isAggD = some true := by rw [Tryz.underlying23]; rfl
theorem ag28 : (Tryz.prog.underlying 28).map isAggD = some true := by rw [Tryz.underlying28]; rfl
theorem fa23_0 (g off : Nat) : ∀ w, (Instr.fieldAt 23 (.pointer (some ⟨g, off, none⟩)) 0).run Tryz.prog w = .ok (.pointer (some ⟨g, off + 0, none⟩)) w := fun w => by kernel_rfl
theorem fa23_1 (g off : Nat) : ∀ w, (Instr.fieldAt 23 (.pointer (some ⟨g, off, none⟩)) 1).run Tryz.prog w = .ok (.pointer (some ⟨g, off + 1, none⟩)) w := fun w => by kernel_rfl
theorem fa23_2 (g off : Nat) : ∀ w, (Instr.fieldAt 23 (.pointer (some ⟨g, off, none⟩)) 2).run Tryz.prog w = .ok (.pointer (some ⟨g, off + 2, none⟩)) w := fun w => by kernel_rfl
theorem fa28_0 (g off : Nat) : ∀ w, (Instr.fieldAt 28 (.pointer (some ⟨g, off, none⟩)) 0).run Tryz.prog w = .ok (.pointer (some ⟨g, off + 0, none⟩)) w := fun w => by kernel_rfl
theorem sc3 : (Tryz.prog.underlying 3).map scal = some true := by rw [Tryz.underlying3]; rfl
theorem sz23 : (Tryz.prog.info? 23).map (·.size) = some 3 := by kernel_rfl
theorem sz28 : (Tryz.prog.info? 28).map (·.size) = some 5 := by kernel_rfl
theorem sz3 : (Tryz.prog.info? 3).map (·.size) = some 1 := by kernel_rfl
end SuWT
theorem suof_1  (w0 : World) : Calls Tryz.prog 10 #[.int .i64 1, .string (str Su.wk), .string (str Su.wn)] w0 fun e w' => e = .returned (.tuple #[.iface 44 (.agg (arr 0 (fun j => .int .i64 0))), .agg (arr 3 (fun j => if j < 1 then .int .i64 16 else if j < 2 then .int .i64 12 else .int .i64 16)), .int .i64 0]) ∧ Below w0.heap.size w0 w' := by
 refine enter (n := 58) Tryz.func10 rfl rfl rfl ?_
 have hk : Below w0.heap.size w0 w0 := Below.refl _ _
 refine sr (w_as (evc .nilIface) (w_alloc (m := 3) (F := fun j => if j < 1 then .int .i64 0 else if j < 2 then .int .i64 0 else .int .i64 0) kr ?_))
 intro b_7 w1 hbe_b_7 r_b_7 hb2
 have ge_b_7 := gb_ hk.size hbe_b_7
 clear hbe_b_7
 replace hk := thenB hk hb2
 refine w_as Ev.c (nt (sr (w_mv ei (w_call (Tryz.func4) kr rfl (m1 ei) (suOf_1  w1) ?_))))
 rintro _ w3 ⟨rfl, hb4⟩
 refine ⟨_, rfl, ?_⟩
 replace r_b_7 := r_b_7.step hb4
 replace hk := thenB hk hb4
 refine w_mv (ex (.tuple #[.agg (arr 3 (fun j => if j < 1 then .int .i64 16 else if j < 2 then .int .i64 12 else .int .i64 16)), .int .i64 0])) (w_val ye (w_val ye (w_alloc (m := 3) (F := fun j => if j < 1 then .int .i64 0 else if j < 2 then .int .i64 0 else .int .i64 0) kr ?_)))
 intro b_s w5 hbe_b_s r_b_s hb6
 have ne_b_7_b_s := r_b_7.nb hbe_b_s
 have ge_b_s := gb_ hk.size hbe_b_s
 clear hbe_b_s
 replace r_b_7 := r_b_7.step hb6
 replace hk := thenB hk hb6
 refine w_sta (k := 3) (G := fun j => if j < 1 then .int .i64 16 else if j < 2 then .int .i64 12 else .int .i64 16) (ex (pt b_s 0)) ea oc SuWT.sz23 r_b_s om ?_
 clear r_b_s; intro w7 r_b_s hg8 _
 replace r_b_s := r_b_s.congr (g := fun j => if j < 1 then .int .i64 16 else if j < 2 then .int .i64 12 else .int .i64 16) (fun j hj => by rw [if_pos ⟨Nat.zero_le _, by omega⟩]; first | rfl | (simp only [Nat.sub_zero]))
 replace r_b_7 := r_b_7.stepG hg8 om
 replace hk := thenG hk hg8 om
 refine w_as ei (nt (wp_seq (wp_block (sr (w_mv ei (w_val (y_bin ei Ev.c b_neq) (w_mv eb (w_val_g (v := pt b_s 1) (wy rfl rfl eb) (y_off (y_fa (ex (pt b_s 0)) (SuWT.fa23_1 _ _)) ro) (w_val_g (v := .int .i64 12) (wy rfl rfl eb) (y_ld (ex (pt b_s 1)) SuWT.sc3 (r_b_s.val om (ng pz))) (w_val_g (wy rfl rfl eb) (y_bin ei Ev.c b_eql) (w_val (y_pick_f eb eb) (w_as eb (nt (c_ff eb (sr (w_mv es (w_val (y_len es Tryz.underlying9) (w_val (v := pt b_s 0) (y_off (y_fa (ex (pt b_s 0)) (SuWT.fa23_0 _ _)) ro) (w_val (v := .int .i64 16) (y_ld (ex (pt b_s 0)) SuWT.sc3 (r_b_s.val om pz)) (w_val (y_bin ei ei b_neq) (w_as eb (nt ?_))))))))))))))))))))))
 have hc9 : ¬ (((Su.wk.length : Nat) : Int) ≠ 16) := by exact fun h => h rfl
 refine c_f (p := ((Su.wk.length : Nat) : Int) ≠ 16) eb hc9 (sr (w_mv es (w_val (y_len es Tryz.underlying9) (w_val (v := pt b_s 1) (y_off (y_fa (ex (pt b_s 0)) (SuWT.fa23_1 _ _)) ro) (w_val (v := .int .i64 12) (y_ld (ex (pt b_s 1)) SuWT.sc3 (r_b_s.val om (ng pz))) (w_val (y_bin ei ei b_neq) (w_as eb (nt ?_))))))))
 have hc10 : ¬ (((Su.wn.length : Nat) : Int) ≠ 12) := by exact fun h => h rfl
 refine c_f (p := ((Su.wn.length : Nat) : Int) ≠ 12) eb hc10 (sr (w_val (v := pt b_s 1) (y_off (y_fa (ex (pt b_s 0)) (SuWT.fa23_1 _ _)) ro) (w_val (v := .int .i64 12) (y_ld (ex (pt b_s 1)) SuWT.sc3 (r_b_s.val om (ng pz))) (w_val (y_bin ei Ev.c b_eql) (w_as eb (nt (c_tt eb (wp_seq (region_t 4 SuWT.mixed kr ?_)))))))))
 simp only [List.take_succ_cons, List.take_zero, List.drop_succ_cons, List.drop_zero]
 refine q_val (v := .agg (arr 0 (fun j => .int .i64 0))) (fun w' hw' => y_build (vs := #[]) mp0 (fun w => by kernel_rfl)) (q_val (v := .iface 44 (.agg (arr 0 (fun j => .int .i64 0)))) (fun w' hw' => y_mkif ea) (q_val (v := .agg (arr 3 (fun j => if j < 1 then .int .i64 16 else if j < 2 then .int .i64 12 else .int .i64 16))) (fun w' hw' => y_lda (ex (pt b_s 0)) SuWT.ag23 SuWT.sz23 (fun j hj => by rw [Nat.zero_add]; exact (cls_cell (r_b_s.cell om) r_b_s.lt w' hw'))) (q_as (ex (.iface 44 (.agg (arr 0 (fun j => .int .i64 0))))) (q_nil ?_))))
 intro w11 hb12
 replace r_b_7 := r_b_7.step hb12
 replace r_b_s := r_b_s.step hb12
 replace hk := thenB hk hb12
 refine w_sta (k := 3) (G := fun j => if j < 1 then .int .i64 16 else if j < 2 then .int .i64 12 else .int .i64 16) (ex (pt b_7 0)) ea oc SuWT.sz23 r_b_7 om ?_
 clear r_b_7; intro w13 r_b_7 hg14 _
 replace r_b_7 := r_b_7.congr (g := fun j => if j < 1 then .int .i64 16 else if j < 2 then .int .i64 12 else .int .i64 16) (fun j hj => by rw [if_pos ⟨Nat.zero_le _, by omega⟩]; first | rfl | (simp only [Nat.sub_zero]))
 replace r_b_s := r_b_s.stepG hg14 om
 replace hk := thenG hk hg14 om
 refine w_as Ev.c (nt (wp_ret (inb_r (then_r (fin_tct (F := fun j => if j < 1 then .int .i64 16 else if j < 2 then .int .i64 12 else .int .i64 16) rfl (ex (.iface 44 (.agg (arr 0 (fun j => .int .i64 0))))) (ex (pt b_7 0)) ei SuWT.ag23 SuWT.sz23 r_b_7 om ?_)))))
 exact ⟨rfl, hk⟩

theorem suSeal1 (f : Nat → BitVec 64)  (w0 : World) (hF : Gh.Fold w0 f) : Calls Tryz.prog 28 #[.agg (arr 0 (fun j => .int .i64 0)), .string (str Su.wk), .string (str Su.wn), .string (str Su.wx), .string (str Su.wt)] w0 fun e w' => e = .returned (.tuple #[.string (str (Gm.sealed f Su.wk Su.wn Su.wx Su.wt 16)), .int .i64 0]) ∧ Below w0.heap.size w0 w' := by
 have hF0 := hF.2
 refine enter (n := 19) Tryz.func28 rfl rfl rfl ?_
 have hk : Below w0.heap.size w0 w0 := Below.refl _ _
 refine sr (w_box (m := 0) (F := fun j => .int .i64 0) ea rfl ?_)
 intro b_5 w1 hbe_b_5 r_b_5 hb2
 have ge_b_5 := gb_ hk.size hbe_b_5
 clear hbe_b_5
 replace hk := thenB hk hb2
 replace hF := Gh.Fold.below hF hb2
 refine w_as (evc (.string (str ([] : List (BitVec 8))))) (w_as Ev.c (nt (sr (w_mv es (w_mv es (w_mv es (w_mv es (w_call (Tryz.func30) kr rfl (m5 es es es es Ev.c) (gmSeal_y f Su.wk Su.wn Su.wx 16 (Or.inl rfl) (by decide) (by decide) (by decide) (by decide) Su.wt (by decide) (by decide) w1 hF) ?_))))))))
 rintro _ w3 ⟨rfl, hb4⟩
 refine ⟨_, rfl, ?_⟩
 replace r_b_5 := r_b_5.step hb4
 replace hk := thenB hk hb4
 replace hF := Gh.Fold.below hF hb4
 refine w_val ye (w_val ye (w_as es (w_as ei (nt (wp_ret (fin_ret2 rfl es ei ?_))))))
 exact ⟨rfl, hk⟩

theorem suGopen (f : Nat → BitVec 64) (w : World) (hF : Gh.Fold w f) : Calls Tryz.prog 29 #[.string (str Su.wk), .string (str Su.wn), .string (str Su.wx), .string (str (Gm.sealed f Su.wk Su.wn Su.wx Su.wt 16)), .int .i64 16] w fun e w' => e = .returned (.tuple #[.string (str Su.wt), .int .i64 0]) ∧ Below w.heap.size w w' := by
  have hl : (Gm.sealed f Su.wk Su.wn Su.wx Su.wt 16).length = 3 + 16 := Gm.sealed_len f Su.wk Su.wn Su.wx Su.wt 16 (Or.inl rfl) (by decide)
  refine (gmOpen_y f Su.wk Su.wn Su.wx 16 (Or.inl rfl) (by decide) (by decide) (by decide) (by decide) (Gm.sealed f Su.wk Su.wn Su.wx Su.wt 16) om 3 hl (by decide) (by show Gm.tg f Su.wk Su.wn Su.wx ((Gm.sealed f Su.wk Su.wn Su.wx Su.wt 16).take Su.wt.length) 16 = (Gm.sealed f Su.wk Su.wn Su.wx Su.wt 16).drop Su.wt.length; rw [Gm.sealed_take, Gm.sealed_drop]) w hF).mono fun e w' h => ⟨?_, h.2⟩
  rw [h.1, show (Gm.sealed f Su.wk Su.wn Su.wx Su.wt 16).take 3 = (Gm.sealed f Su.wk Su.wn Su.wx Su.wt 16).take Su.wt.length from rfl, Gm.sealed_take, Gm.xr_xr]

theorem suOpen1 (f : Nat → BitVec 64)  (w0 : World) (hF : Gh.Fold w0 f) : Calls Tryz.prog 27 #[.agg (arr 0 (fun j => .int .i64 0)), .string (str Su.wk), .string (str Su.wn), .string (str Su.wx), .string (str (Gm.sealed f Su.wk Su.wn Su.wx Su.wt 16))] w0 fun e w' => e = .returned (.tuple #[.string (str Su.wt), .int .i64 0]) ∧ Below w0.heap.size w0 w' := by
 have hF0 := hF.2
 refine enter (n := 19) Tryz.func27 rfl rfl rfl ?_
 have hk : Below w0.heap.size w0 w0 := Below.refl _ _
 refine sr (w_box (m := 0) (F := fun j => .int .i64 0) ea rfl ?_)
 intro b_5 w1 hbe_b_5 r_b_5 hb2
 have ge_b_5 := gb_ hk.size hbe_b_5
 clear hbe_b_5
 replace hk := thenB hk hb2
 replace hF := Gh.Fold.below hF hb2
 refine w_as (evc (.string (str ([] : List (BitVec 8))))) (w_as Ev.c (nt (sr (w_mv es (w_mv es (w_mv es (w_mv es (w_call (Tryz.func29) kr rfl (m5 es es es es Ev.c) (suGopen f w1 hF) ?_))))))))
 rintro _ w3 ⟨rfl, hb4⟩
 refine ⟨_, rfl, ?_⟩
 replace r_b_5 := r_b_5.step hb4
 replace hk := thenB hk hb4
 replace hF := Gh.Fold.below hF hb4
 refine w_val ye (w_val ye (w_as es (w_as ei (nt (wp_ret (fin_ret2 rfl es ei ?_))))))
 exact ⟨rfl, hk⟩

theorem suSealW (f : Nat → BitVec 64)  (w0 : World) (hF : Gh.Fold w0 f) : Calls Tryz.prog 8 #[.int .i64 1, .string (str Su.wk), .string (str Su.wn), .string (str Su.wx), .string (str Su.wt)] w0 fun e w' => e = .returned (.tuple #[.string (str ((Gm.sealed f Su.wk Su.wn Su.wx Su.wt 16).take 3)), .string (str ((Gm.sealed f Su.wk Su.wn Su.wx Su.wt 16).drop 3)), .int .i64 0]) ∧ Below w0.heap.size w0 w' := by
 have hF0 := hF.2
 have hl : (Gm.sealed f Su.wk Su.wn Su.wx Su.wt 16).length = 3 + 16 := Gm.sealed_len f Su.wk Su.wn Su.wx Su.wt 16 (Or.inl rfl) (by decide)
 refine enter (n := 52) Tryz.func8 rfl rfl rfl ?_
 have hk : Below w0.heap.size w0 w0 := Below.refl _ _
 refine sr (w_as (evc (.string (str ([] : List (BitVec 8))))) (w_as (evc (.string (str ([] : List (BitVec 8))))) (w_as Ev.c (nt (sr (w_mv ei (w_mv es (w_mv es (w_call (Tryz.func10) kr rfl (m3 ei es es) (suof_1  w0) ?_)))))))))
 rintro _ w1 ⟨rfl, hb2⟩
 refine ⟨_, rfl, ?_⟩
 replace hk := thenB hk hb2
 replace hF := Gh.Fold.below hF hb2
 refine w_mv (ex (.tuple #[.iface 44 (.agg (arr 0 (fun j => .int .i64 0))), .agg (arr 3 (fun j => if j < 1 then .int .i64 16 else if j < 2 then .int .i64 12 else .int .i64 16)), .int .i64 0])) (w_val ye (w_val ye (w_val ye (w_alloc (m := 3) (F := fun j => if j < 1 then .int .i64 0 else if j < 2 then .int .i64 0 else .int .i64 0) kr ?_))))
 intro b_s w3 hbe_b_s r_b_s hb4
 have ge_b_s := gb_ hk.size hbe_b_s
 clear hbe_b_s
 replace hk := thenB hk hb4
 replace hF := Gh.Fold.below hF hb4
 refine w_as (ex (.iface 44 (.agg (arr 0 (fun j => .int .i64 0))))) (w_sta (k := 3) (G := fun j => if j < 1 then .int .i64 16 else if j < 2 then .int .i64 12 else .int .i64 16) (ex (pt b_s 0)) ea oc SuWT.sz23 r_b_s om ?_)
 clear r_b_s; intro w5 r_b_s hg6 _
 replace r_b_s := r_b_s.congr (g := fun j => if j < 1 then .int .i64 16 else if j < 2 then .int .i64 12 else .int .i64 16) (fun j hj => by rw [if_pos ⟨Nat.zero_le _, by omega⟩]; first | rfl | (simp only [Nat.sub_zero]))
 replace hk := thenG hk hg6 om
 replace hF := Gh.Fold.grown hF hg6 om
 refine w_as ei (nt (wp_seq (sr (w_mv ei (w_val (y_bin ei Ev.c b_neq) (nt (c_ff eb (wp_skip (then_n (sr (w_mv (ex (.iface 44 (.agg (arr 0 (fun j => .int .i64 0))))) (w_mv es (w_mv es (w_mv es (w_mv es (w_inv (ex (.iface 44 (.agg (arr 0 (fun j => .int .i64 0))))) (fun w => by kernel_rfl) (Tryz.func28) kr rfl (m4 es es es es) (by first | rfl | simp) (suSeal1 f w5 hF) ?_))))))))))))))))
 rintro _ w7 ⟨rfl, hb8⟩
 refine ⟨_, rfl, ?_⟩
 replace r_b_s := r_b_s.step hb8
 replace hk := thenB hk hb8
 replace hF := Gh.Fold.below hF hb8
 refine w_mv (ex (.tuple #[.string (str (Gm.sealed f Su.wk Su.wn Su.wx Su.wt 16)), .int .i64 0])) (w_val ye (w_val ye (w_as es (w_as ei (nt (wp_seq (sr (w_mv ei (w_val (y_bin ei Ev.c b_neq) (nt (c_ff eb (wp_skip (then_n (sr (w_mv es (w_val (y_len es Tryz.underlying9) (w_val (v := pt b_s 2) (y_off (y_fa (ex (pt b_s 0)) (SuWT.fa23_2 _ _)) ro) (w_val (v := .int .i64 16) (y_ld (ex (pt b_s 2)) SuWT.sc3 (r_b_s.val om (ng (ng dv)))) (w_val (y_bin ei ei (b_sub om)) (w_as ei (nt (wp_seq (region_q SuWT.mixed kr (q_mv es (q_mv (ex (.int .i64 3) (Eq.trans (b := .int .i64 ((((Gm.sealed f Su.wk Su.wn Su.wx Su.wt 16).length : Nat) : Int) - 16)) rfl (by exact congrArg (Value.int .i64) om))) (q_val (v := .string (str ((Gm.sealed f Su.wk Su.wn Su.wx Su.wt 16).take 3))) (fun w' hw' => y_sls (ex (.string (str (Gm.sealed f Su.wk Su.wn Su.wx Su.wt 16)))) evo.no (evo.s ei) Tryz.underlying9 (bnd_h (h := 3) om om)) (q_mv es (q_mv (ex (.int .i64 3) (Eq.trans (b := .int .i64 ((((Gm.sealed f Su.wk Su.wn Su.wx Su.wt 16).length : Nat) : Int) - 16)) rfl (by exact congrArg (Value.int .i64) om))) (q_val (v := .string (str ((Gm.sealed f Su.wk Su.wn Su.wx Su.wt 16).drop 3))) (fun w' hw' => y_slf (ex (.string (str (Gm.sealed f Su.wk Su.wn Su.wx Su.wt 16)))) (evo.s ei) Tryz.underlying9 (bnd_l (l := 3) om om)) (q_as es (q_as es (q_as Ev.c (q_nil ?_)))))))))))))))))))))))))))))))))
 intro w9 hb10
 replace r_b_s := r_b_s.step hb10
 replace hk := thenB hk hb10
 replace hF := Gh.Fold.below hF hb10
 refine then_n (wp_ret (fin_ret3 rfl es es ei ?_))
 exact ⟨rfl, hk⟩

theorem suOpenW (f : Nat → BitVec 64)  (w0 : World) (hF : Gh.Fold w0 f) : Calls Tryz.prog 9 #[.int .i64 1, .string (str Su.wk), .string (str Su.wn), .string (str Su.wx), .string (str ((Gm.sealed f Su.wk Su.wn Su.wx Su.wt 16).take 3)), .string (str ((Gm.sealed f Su.wk Su.wn Su.wx Su.wt 16).drop 3))] w0 fun e w' => e = .returned (.tuple #[.string (str Su.wt), .int .i64 0]) ∧ Below w0.heap.size w0 w' := by
 have hF0 := hF.2
 have hl : (Gm.sealed f Su.wk Su.wn Su.wx Su.wt 16).length = 3 + 16 := Gm.sealed_len f Su.wk Su.wn Su.wx Su.wt 16 (Or.inl rfl) (by decide)
 refine enter (n := 43) Tryz.func9 rfl rfl rfl ?_
 have hk : Below w0.heap.size w0 w0 := Below.refl _ _
 refine sr (w_as (evc (.string (str ([] : List (BitVec 8))))) (w_as Ev.c (nt (sr (w_mv ei (w_mv es (w_mv es (w_call (Tryz.func10) kr rfl (m3 ei es es) (suof_1  w0) ?_))))))))
 rintro _ w1 ⟨rfl, hb2⟩
 refine ⟨_, rfl, ?_⟩
 replace hk := thenB hk hb2
 replace hF := Gh.Fold.below hF hb2
 refine w_mv (ex (.tuple #[.iface 44 (.agg (arr 0 (fun j => .int .i64 0))), .agg (arr 3 (fun j => if j < 1 then .int .i64 16 else if j < 2 then .int .i64 12 else .int .i64 16)), .int .i64 0])) (w_val ye (w_val ye (w_val ye (w_alloc (m := 3) (F := fun j => if j < 1 then .int .i64 0 else if j < 2 then .int .i64 0 else .int .i64 0) kr ?_))))
 intro b_s w3 hbe_b_s r_b_s hb4
 have ge_b_s := gb_ hk.size hbe_b_s
 clear hbe_b_s
 replace hk := thenB hk hb4
 replace hF := Gh.Fold.below hF hb4
 refine w_as (ex (.iface 44 (.agg (arr 0 (fun j => .int .i64 0))))) (w_sta (k := 3) (G := fun j => if j < 1 then .int .i64 16 else if j < 2 then .int .i64 12 else .int .i64 16) (ex (pt b_s 0)) ea oc SuWT.sz23 r_b_s om ?_)
 clear r_b_s; intro w5 r_b_s hg6 _
 replace r_b_s := r_b_s.congr (g := fun j => if j < 1 then .int .i64 16 else if j < 2 then .int .i64 12 else .int .i64 16) (fun j hj => by rw [if_pos ⟨Nat.zero_le _, by omega⟩]; first | rfl | (simp only [Nat.sub_zero]))
 replace hk := thenG hk hg6 om
 replace hF := Gh.Fold.grown hF hg6 om
 refine w_as ei (nt (wp_seq (sr (w_mv ei (w_val (y_bin ei Ev.c b_neq) (nt (c_ff eb (wp_skip (then_n (wp_seq (sr (w_mv es (w_val (y_len es Tryz.underlying9) (w_val (v := pt b_s 2) (y_off (y_fa (ex (pt b_s 0)) (SuWT.fa23_2 _ _)) ro) (w_val (v := .int .i64 16) (y_ld (ex (pt b_s 2)) SuWT.sc3 (r_b_s.val om (ng (ng dv)))) (w_val (y_bin ei ei b_neq) (nt ?_)))))))))))))))))
 have hc7 : ¬ (((((Gm.sealed f Su.wk Su.wn Su.wx Su.wt 16).drop 3).length : Nat) : Int) ≠ 16) := by rw [List.length_drop]; omega
 refine c_f (p := ((((Gm.sealed f Su.wk Su.wn Su.wx Su.wt 16).drop 3).length : Nat) : Int) ≠ 16) eb hc7 (wp_skip (then_n (sr (w_mv (ex (.iface 44 (.agg (arr 0 (fun j => .int .i64 0))))) (w_mv es (w_mv es (w_mv es (w_mv es (w_mv es (w_val (y_bin es es (b_cat (by rw [List.length_take, List.length_drop]; omega))) (w_inv (ex (.iface 44 (.agg (arr 0 (fun j => .int .i64 0))))) (fun w => by kernel_rfl) (Tryz.func27) kr rfl (m4 es es es (ex (.string (str (Gm.sealed f Su.wk Su.wn Su.wx Su.wt 16))) (Eq.trans (b := .string (str (((Gm.sealed f Su.wk Su.wn Su.wx Su.wt 16).take 3) ++ ((Gm.sealed f Su.wk Su.wn Su.wx Su.wt 16).drop 3)))) rfl (by exact congrArg (fun l => Value.string (str l)) (List.take_append_drop 3 _))))) (by first | rfl | simp) (suOpen1 f w5 hF) ?_)))))))))))
 rintro _ w8 ⟨rfl, hb9⟩
 refine ⟨_, rfl, ?_⟩
 replace r_b_s := r_b_s.step hb9
 replace hk := thenB hk hb9
 replace hF := Gh.Fold.below hF hb9
 refine w_val ye (w_val ye (w_as es (w_as ei (nt (wp_ret (fin_ret2 rfl es ei ?_))))))
 exact ⟨rfl, hk⟩

theorem suWakes (f : Nat → BitVec 64)  (w0 : World) (hF : Gh.Fold w0 f) : Calls Tryz.prog 6 #[] w0 fun e w' => e = .returned (.bool true) ∧ Below w0.heap.size w0 w' := by
 have hF0 := hF.2
 have hl : (Gm.sealed f Su.wk Su.wn Su.wx Su.wt 16).length = 3 + 16 := Gm.sealed_len f Su.wk Su.wn Su.wx Su.wt 16 (Or.inl rfl) (by decide)
 refine enter (n := 47) Tryz.func6 rfl rfl rfl ?_
 have hk : Below w0.heap.size w0 w0 := Below.refl _ _
 refine sr (w_as Ev.c (nt (sr (w_call (Tryz.func4) kr rfl (m1 Ev.c) (suOf_1  w0) ?_))))
 rintro _ w1 ⟨rfl, hb2⟩
 refine ⟨_, rfl, ?_⟩
 replace hk := thenB hk hb2
 replace hF := Gh.Fold.below hF hb2
 refine w_mv (ex (.tuple #[.agg (arr 3 (fun j => if j < 1 then .int .i64 16 else if j < 2 then .int .i64 12 else .int .i64 16)), .int .i64 0])) (w_val ye (w_val ye (w_alloc (m := 3) (F := fun j => if j < 1 then .int .i64 0 else if j < 2 then .int .i64 0 else .int .i64 0) kr ?_)))
 intro b_s w3 hbe_b_s r_b_s hb4
 have ge_b_s := gb_ hk.size hbe_b_s
 clear hbe_b_s
 replace hk := thenB hk hb4
 replace hF := Gh.Fold.below hF hb4
 refine w_sta (k := 3) (G := fun j => if j < 1 then .int .i64 16 else if j < 2 then .int .i64 12 else .int .i64 16) (ex (pt b_s 0)) ea oc SuWT.sz23 r_b_s om ?_
 clear r_b_s; intro w5 r_b_s hg6 _
 replace r_b_s := r_b_s.congr (g := fun j => if j < 1 then .int .i64 16 else if j < 2 then .int .i64 12 else .int .i64 16) (fun j hj => by rw [if_pos ⟨Nat.zero_le _, by omega⟩]; first | rfl | (simp only [Nat.sub_zero]))
 replace hk := thenG hk hg6 om
 replace hF := Gh.Fold.grown hF hg6 om
 refine w_as ei (nt (sr (w_call (Tryz.func8) kr rfl (m5 Ev.c (evc (.string (str Su.wk))) (evc (.string (str Su.wn))) (evc (.string (str Su.wx))) (evc (.string (str Su.wt)))) (suSealW f w5 hF) ?_)))
 rintro _ w7 ⟨rfl, hb8⟩
 refine ⟨_, rfl, ?_⟩
 replace r_b_s := r_b_s.step hb8
 replace hk := thenB hk hb8
 replace hF := Gh.Fold.below hF hb8
 refine w_mv (ex (.tuple #[.string (str ((Gm.sealed f Su.wk Su.wn Su.wx Su.wt 16).take 3)), .string (str ((Gm.sealed f Su.wk Su.wn Su.wx Su.wt 16).drop 3)), .int .i64 0])) (w_val ye (w_val ye (w_val ye (w_as es (w_as es (w_as ei (nt (sr (w_mv es (w_mv es (w_call (Tryz.func9) kr rfl (m6 Ev.c (evc (.string (str Su.wk))) (evc (.string (str Su.wn))) (evc (.string (str Su.wx))) es es) (suOpenW f w7 hF) ?_)))))))))))
 rintro _ w9 ⟨rfl, hb10⟩
 refine ⟨_, rfl, ?_⟩
 replace r_b_s := r_b_s.step hb10
 replace hk := thenB hk hb10
 replace hF := Gh.Fold.below hF hb10
 refine w_mv (ex (.tuple #[.string (str Su.wt), .int .i64 0])) (w_val ye (w_val ye (w_as es (w_as ei (nt (sr (w_mv ei (w_val (y_bin ei Ev.c b_eql) (w_mv eb (w_val_g (v := .agg (arr 3 (fun j => if j < 1 then .int .i64 16 else if j < 2 then .int .i64 12 else .int .i64 16))) (wy rfl rfl eb) (y_lda (ex (pt b_s 0)) SuWT.ag23 SuWT.sz23 (fun j hj => by rw [Nat.zero_add]; exact (r_b_s.cell om))) (w_val_g (v := .agg (arr 3 (fun j => if j < 1 then .int .i64 16 else if j < 2 then .int .i64 12 else .int .i64 16))) (wy rfl rfl eb) (y_build (vs := #[(0, .int .i64 16), (1, .int .i64 12), (2, .int .i64 16)]) (mp_cons Ev.c (mp_cons Ev.c (mp_cons Ev.c mp0))) (fun w => by kernel_rfl)) (w_val_g (wy rfl rfl eb) (y_bin ea ea (b_su rfl rfl rfl rfl rfl rfl)) (w_val (y_pick_t eb eb) (w_mv eb (w_val_g (v := .int .i64 0) (wy rfl rfl eb) (y_mv ei) (w_val_g (wy rfl rfl eb) (y_bin ei Ev.c b_eql) (w_val (y_pick_t eb eb) (w_mv eb (w_val_g (v := .int .i64 0) (wy rfl rfl eb) (y_mv ei) (w_val_g (wy rfl rfl eb) (y_bin ei Ev.c b_eql) (w_val (y_pick_t eb eb) (w_mv eb (w_val_g (v := .string (str ((Gm.sealed f Su.wk Su.wn Su.wx Su.wt 16).drop 3))) (wy rfl rfl eb) (y_mv es) (w_val_g (wy rfl rfl eb) (y_len es Tryz.underlying9) (w_val_g (wy rfl rfl eb) (y_bin ei Ev.c b_eql) (w_val (y_pick_t eb eb) (w_mv eb ?_)))))))))))))))))))))))))))
 have hc11 : ((((Gm.sealed f Su.wk Su.wn Su.wx Su.wt 16).drop 3).length : Nat) : Int) = 16 := by rw [List.length_drop]; omega
 refine w_val_g (v := .string (str Su.wt)) (wy rfl rfl (eb (dt hc11))) (y_mv es) (w_val_g (wy rfl rfl (eb (dt hc11))) (y_bin es (evc (.string (str Su.wt))) b_eqs_same) (w_val (y_pick_t (eb (dt hc11)) eb) (w_as eb (nt (wp_ret (fin_ret1 rfl eb ?_))))))
 exact ⟨rfl, hk⟩
end Go.Proofs.YtdmbfimjbmfbaaaGreat
