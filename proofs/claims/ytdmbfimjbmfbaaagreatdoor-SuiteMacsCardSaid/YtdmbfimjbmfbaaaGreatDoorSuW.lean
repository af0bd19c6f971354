/-
  Ciphers by numbers: the laws' waking. Conditions as each says.
-/
import Derived.Test.YtdmbfimjbmfbaaaGreatDoorRows
import Derived.Test.YtdmbfimjbmfbaaaGreatDoorSuA
import Derived.Test.YtdmbfimjbmfbaaaGreatDoorGcmB
import Derived.Test.YtdmbfimjbmfbaaaGreatDoorWrapPlain
import Derived.Test.YtdmbfimjbmfbaaaGreatDoorGenSh
import Derived.ProofKit
namespace Go.Proofs.YtdmbfimjbmfbaaaGreatDoor
open Go.RowKit
set_option linter.unusedSimpArgs false
set_option linter.unusedVariables false
set_option maxRecDepth 100000
set_option maxHeartbeats 1000000
namespace SuWT
theorem mixed : Tryz.prog.follows .mixedOrders = true := by kernel_rfl
theorem ag35 : (Tryz.prog.underlying 35).map isAggD = some true := by rw [Tryz.underlying35]; rfl
theorem ag43 : (Tryz.prog.underlying 43).map isAggD = some true := by rw [Tryz.underlying43]; rfl
theorem fa35_0 (g off : Nat) : ∀ w, (Instr.fieldAt 35 (.pointer (some ⟨g, off, none⟩)) 0).run Tryz.prog w = .ok (.pointer (some ⟨g, off + 0, none⟩)) w := fun w => by kernel_rfl
theorem fa35_1 (g off : Nat) : ∀ w, (Instr.fieldAt 35 (.pointer (some ⟨g, off, none⟩)) 1).run Tryz.prog w = .ok (.pointer (some ⟨g, off + 1, none⟩)) w := fun w => by kernel_rfl
theorem fa35_2 (g off : Nat) : ∀ w, (Instr.fieldAt 35 (.pointer (some ⟨g, off, none⟩)) 2).run Tryz.prog w = .ok (.pointer (some ⟨g, off + 2, none⟩)) w := fun w => by kernel_rfl
theorem fa43_0 (g off : Nat) : ∀ w, (Instr.fieldAt 43 (.pointer (some ⟨g, off, none⟩)) 0).run Tryz.prog w = .ok (.pointer (some ⟨g, off + 0, none⟩)) w := fun w => by kernel_rfl
theorem sc3 : (Tryz.prog.underlying 3).map scal = some true := by rw [Tryz.underlying3]; rfl
theorem sz35 : (Tryz.prog.info? 35).map (·.size) = some 3 := by kernel_rfl
theorem sz43 : (Tryz.prog.info? 43).map (·.size) = some 5 := by kernel_rfl
end SuWT
theorem suof_1  (w0 : World) : Calls Tryz.prog 18 #[.int .i64 1, .string (str Su.wk), .string (str Su.wn)] w0 fun e w' => e = .returned (.tuple #[.iface 67 (.agg (arr 0 (fun j => .int .i64 0))), .agg (arr 3 (fun j => if j < 1 then .int .i64 16 else if j < 2 then .int .i64 12 else .int .i64 16)), .int .i64 0]) ∧ Below w0.heap.size w0 w' := by
 refine enter (n := 58) Tryz.func18 rfl rfl rfl ?_
 have hk : Below w0.heap.size w0 w0 := Below.refl _ _
 refine sr (w_as (evc .nilIface) (w_alloc (m := 3) (F := fun j => if j < 1 then .int .i64 0 else if j < 2 then .int .i64 0 else .int .i64 0) kr ?_))
 intro an w1 ae ab ap
 have ai := gb_ hk.size ae
 clear ae
 replace hk := thenB hk ap
 refine w_as Ev.c (nt (sr (w_mv ei (w_call (Tryz.func10) kr rfl (m1 ei) (suOf_1  w1) ?_))))
 rintro _ w3 ⟨rfl, am⟩
 refine ⟨_, rfl, ?_⟩
 replace ab := ab.step am
 replace hk := thenB hk am
 refine w_mv (ex (.tuple #[.agg (arr 3 (fun j => if j < 1 then .int .i64 16 else if j < 2 then .int .i64 12 else .int .i64 16)), .int .i64 0])) (w_val ye (w_val ye (w_alloc (m := 3) (F := fun j => if j < 1 then .int .i64 0 else if j < 2 then .int .i64 0 else .int .i64 0) kr ?_)))
 intro ad w5 ac aa al
 have ag := ab.nb ac
 have ak := gb_ hk.size ac
 clear ac
 replace ab := ab.step al
 replace hk := thenB hk al
 refine w_sta (k := 3) (G := fun j => if j < 1 then .int .i64 16 else if j < 2 then .int .i64 12 else .int .i64 16) (ex (pt ad 0)) ea oc SuWT.sz35 aa om ?_
 clear aa; intro w7 aa ao _
 replace aa := aa.congr (g := fun j => if j < 1 then .int .i64 16 else if j < 2 then .int .i64 12 else .int .i64 16) (fun j hj => by rw [if_pos ⟨Nat.zero_le _, by omega⟩]; first | rfl | (simp only [Nat.sub_zero]))
 replace ab := ab.stepG ao om
 replace hk := thenG hk ao om
 refine w_as ei (nt (wp_seq (wp_block (sr (w_mv ei (w_val (y_bin ei Ev.c b_neq) (w_mv eb (w_val_g (v := pt ad 1) (wy rfl rfl eb) (y_off (y_fa (ex (pt ad 0)) (SuWT.fa35_1 _ _)) ro) (w_val_g (v := .int .i64 12) (wy rfl rfl eb) (y_ld (ex (pt ad 1)) SuWT.sc3 (aa.val om (ng pz))) (w_val_g (wy rfl rfl eb) (y_bin ei Ev.c b_eql) (w_val (y_pick_f eb eb) (w_as eb (nt (c_ff eb (sr (w_mv es (w_val (y_len es Tryz.underlying9) (w_val (v := pt ad 0) (y_off (y_fa (ex (pt ad 0)) (SuWT.fa35_0 _ _)) ro) (w_val (v := .int .i64 16) (y_ld (ex (pt ad 0)) SuWT.sc3 (aa.val om pz)) (w_val (y_bin ei ei b_neq) (w_as eb (nt ?_))))))))))))))))))))))
 have aq : ¬ (((Su.wk.length : Nat) : Int) ≠ 16) := by exact fun h => h rfl
 refine c_f (p := ((Su.wk.length : Nat) : Int) ≠ 16) eb aq (sr (w_mv es (w_val (y_len es Tryz.underlying9) (w_val (v := pt ad 1) (y_off (y_fa (ex (pt ad 0)) (SuWT.fa35_1 _ _)) ro) (w_val (v := .int .i64 12) (y_ld (ex (pt ad 1)) SuWT.sc3 (aa.val om (ng pz))) (w_val (y_bin ei ei b_neq) (w_as eb (nt ?_))))))))
 have aj : ¬ (((Su.wn.length : Nat) : Int) ≠ 12) := by exact fun h => h rfl
 refine c_f (p := ((Su.wn.length : Nat) : Int) ≠ 12) eb aj (sr (w_val (v := pt ad 1) (y_off (y_fa (ex (pt ad 0)) (SuWT.fa35_1 _ _)) ro) (w_val (v := .int .i64 12) (y_ld (ex (pt ad 1)) SuWT.sc3 (aa.val om (ng pz))) (w_val (y_bin ei Ev.c b_eql) (w_as eb (nt (c_tt eb (wp_seq (region_t 4 SuWT.mixed kr ?_)))))))))
 simp only [List.take_succ_cons, List.take_zero, List.drop_succ_cons, List.drop_zero]
 refine q_val (v := .agg (arr 0 (fun j => .int .i64 0))) (fun w' hw' => y_build (vs := #[]) mp0 (fun w => by kernel_rfl)) (q_val (v := .iface 67 (.agg (arr 0 (fun j => .int .i64 0)))) (fun w' hw' => y_mkif ea) (q_val (v := .agg (arr 3 (fun j => if j < 1 then .int .i64 16 else if j < 2 then .int .i64 12 else .int .i64 16))) (fun w' hw' => y_lda (ex (pt ad 0)) SuWT.ag35 SuWT.sz35 (fun j hj => by rw [Nat.zero_add]; exact (cls_cell (aa.cell om) aa.lt w' hw'))) (q_as (ex (.iface 67 (.agg (arr 0 (fun j => .int .i64 0))))) (q_nil ?_))))
 intro au af
 replace ab := ab.step af
 replace aa := aa.step af
 replace hk := thenB hk af
 refine w_sta (k := 3) (G := fun j => if j < 1 then .int .i64 16 else if j < 2 then .int .i64 12 else .int .i64 16) (ex (pt an 0)) ea oc SuWT.sz35 ab om ?_
 clear ab; intro ar ab ah _
 replace ab := ab.congr (g := fun j => if j < 1 then .int .i64 16 else if j < 2 then .int .i64 12 else .int .i64 16) (fun j hj => by rw [if_pos ⟨Nat.zero_le _, by omega⟩]; first | rfl | (simp only [Nat.sub_zero]))
 replace aa := aa.stepG ah om
 replace hk := thenG hk ah om
 refine w_as Ev.c (nt (wp_ret (inb_r (then_r (fin_tct (F := fun j => if j < 1 then .int .i64 16 else if j < 2 then .int .i64 12 else .int .i64 16) rfl (ex (.iface 67 (.agg (arr 0 (fun j => .int .i64 0))))) (ex (pt an 0)) ei SuWT.ag35 SuWT.sz35 ab om ?_)))))
 exact ⟨rfl, hk⟩

theorem suSeal1 (f : Nat → BitVec 64)  (w0 : World) (hF : Gh.Fold w0 f) : Calls Tryz.prog 88 #[.agg (arr 0 (fun j => .int .i64 0)), .string (str Su.wk), .string (str Su.wn), .string (str Su.wx), .string (str Su.wt)] w0 fun e w' => e = .returned (.tuple #[.string (str (Gm.sealed f Su.wk Su.wn Su.wx Su.wt 16)), .int .i64 0]) ∧ Below w0.heap.size w0 w' := by
 have ag := hF.2
 refine enter (n := 19) Tryz.func88 rfl rfl rfl ?_
 have hk : Below w0.heap.size w0 w0 := Below.refl _ _
 refine sr (w_box (m := 0) (F := fun j => .int .i64 0) ea rfl ?_)
 intro af w1 aa ab ae
 have ad := gb_ hk.size aa
 clear aa
 replace hk := thenB hk ae
 replace hF := Gh.Fold.below hF ae
 refine w_as (evc (.string (str ([] : List (BitVec 8))))) (w_as Ev.c (nt (sr (w_mv es (w_mv es (w_mv es (w_mv es (w_call (Tryz.func90) kr rfl (m5 es es es es Ev.c) (gmSeal_y f Su.wk Su.wn Su.wx 16 (Or.inl rfl) (by decide) (by decide) (by decide) (by decide) Su.wt (by decide) (by decide) w1 hF) ?_))))))))
 rintro _ w3 ⟨rfl, ac⟩
 refine ⟨_, rfl, ?_⟩
 replace ab := ab.step ac
 replace hk := thenB hk ac
 replace hF := Gh.Fold.below hF ac
 refine w_val ye (w_val ye (w_as es (w_as ei (nt (wp_ret (fin_ret2 rfl es ei ?_))))))
 exact ⟨rfl, hk⟩

theorem suGopen (f : Nat → BitVec 64) (w : World) (hF : Gh.Fold w f) : Calls Tryz.prog 89 #[.string (str Su.wk), .string (str Su.wn), .string (str Su.wx), .string (str (Gm.sealed f Su.wk Su.wn Su.wx Su.wt 16)), .int .i64 16] w fun e w' => e = .returned (.tuple #[.string (str Su.wt), .int .i64 0]) ∧ Below w.heap.size w w' := by
  have hl : (Gm.sealed f Su.wk Su.wn Su.wx Su.wt 16).length = 3 + 16 := Gm.sealed_len f Su.wk Su.wn Su.wx Su.wt 16 (Or.inl rfl) (by decide)
  refine (gmOpen_y f Su.wk Su.wn Su.wx 16 (Or.inl rfl) (by decide) (by decide) (by decide) (by decide) (Gm.sealed f Su.wk Su.wn Su.wx Su.wt 16) om 3 hl (by decide) (by show Gm.tg f Su.wk Su.wn Su.wx ((Gm.sealed f Su.wk Su.wn Su.wx Su.wt 16).take Su.wt.length) 16 = (Gm.sealed f Su.wk Su.wn Su.wx Su.wt 16).drop Su.wt.length; rw [Gm.sealed_take, Gm.sealed_drop]) w hF).mono fun e w' h => ⟨?_, h.2⟩
  rw [h.1, show (Gm.sealed f Su.wk Su.wn Su.wx Su.wt 16).take 3 = (Gm.sealed f Su.wk Su.wn Su.wx Su.wt 16).take Su.wt.length from rfl, Gm.sealed_take, Gm.xr_xr]

theorem suOpen1 (f : Nat → BitVec 64)  (w0 : World) (hF : Gh.Fold w0 f) : Calls Tryz.prog 87 #[.agg (arr 0 (fun j => .int .i64 0)), .string (str Su.wk), .string (str Su.wn), .string (str Su.wx), .string (str (Gm.sealed f Su.wk Su.wn Su.wx Su.wt 16))] w0 fun e w' => e = .returned (.tuple #[.string (str Su.wt), .int .i64 0]) ∧ Below w0.heap.size w0 w' := by
 have ag := hF.2
 refine enter (n := 19) Tryz.func87 rfl rfl rfl ?_
 have hk : Below w0.heap.size w0 w0 := Below.refl _ _
 refine sr (w_box (m := 0) (F := fun j => .int .i64 0) ea rfl ?_)
 intro af w1 aa ab ae
 have ad := gb_ hk.size aa
 clear aa
 replace hk := thenB hk ae
 replace hF := Gh.Fold.below hF ae
 refine w_as (evc (.string (str ([] : List (BitVec 8))))) (w_as Ev.c (nt (sr (w_mv es (w_mv es (w_mv es (w_mv es (w_call (Tryz.func89) kr rfl (m5 es es es es Ev.c) (suGopen f w1 hF) ?_))))))))
 rintro _ w3 ⟨rfl, ac⟩
 refine ⟨_, rfl, ?_⟩
 replace ab := ab.step ac
 replace hk := thenB hk ac
 replace hF := Gh.Fold.below hF ac
 refine w_val ye (w_val ye (w_as es (w_as ei (nt (wp_ret (fin_ret2 rfl es ei ?_))))))
 exact ⟨rfl, hk⟩

theorem suSealW (f : Nat → BitVec 64)  (w0 : World) (hF : Gh.Fold w0 f) : Calls Tryz.prog 11 #[.int .i64 1, .string (str Su.wk), .string (str Su.wn), .string (str Su.wx), .string (str Su.wt)] w0 fun e w' => e = .returned (.tuple #[.string (str ((Gm.sealed f Su.wk Su.wn Su.wx Su.wt 16).take 3)), .string (str ((Gm.sealed f Su.wk Su.wn Su.wx Su.wt 16).drop 3)), .int .i64 0]) ∧ Below w0.heap.size w0 w' := by
 have aj := hF.2
 have hl : (Gm.sealed f Su.wk Su.wn Su.wx Su.wt 16).length = 3 + 16 := Gm.sealed_len f Su.wk Su.wn Su.wx Su.wt 16 (Or.inl rfl) (by decide)
 refine enter (n := 52) Tryz.func11 rfl rfl rfl ?_
 have hk : Below w0.heap.size w0 w0 := Below.refl _ _
 refine sr (w_as (evc (.string (str ([] : List (BitVec 8))))) (w_as (evc (.string (str ([] : List (BitVec 8))))) (w_as Ev.c (nt (sr (w_mv ei (w_mv es (w_mv es (w_call (Tryz.func18) kr rfl (m3 ei es es) (suof_1  w0) ?_)))))))))
 rintro _ w1 ⟨rfl, ag⟩
 refine ⟨_, rfl, ?_⟩
 replace hk := thenB hk ag
 replace hF := Gh.Fold.below hF ag
 refine w_mv (ex (.tuple #[.iface 67 (.agg (arr 0 (fun j => .int .i64 0))), .agg (arr 3 (fun j => if j < 1 then .int .i64 16 else if j < 2 then .int .i64 12 else .int .i64 16)), .int .i64 0])) (w_val ye (w_val ye (w_val ye (w_alloc (m := 3) (F := fun j => if j < 1 then .int .i64 0 else if j < 2 then .int .i64 0 else .int .i64 0) kr ?_))))
 intro ad w3 ab aa ai
 have af := gb_ hk.size ab
 clear ab
 replace hk := thenB hk ai
 replace hF := Gh.Fold.below hF ai
 refine w_as (ex (.iface 67 (.agg (arr 0 (fun j => .int .i64 0))))) (w_sta (k := 3) (G := fun j => if j < 1 then .int .i64 16 else if j < 2 then .int .i64 12 else .int .i64 16) (ex (pt ad 0)) ea oc SuWT.sz35 aa om ?_)
 clear aa; intro w5 aa ah _
 replace aa := aa.congr (g := fun j => if j < 1 then .int .i64 16 else if j < 2 then .int .i64 12 else .int .i64 16) (fun j hj => by rw [if_pos ⟨Nat.zero_le _, by omega⟩]; first | rfl | (simp only [Nat.sub_zero]))
 replace hk := thenG hk ah om
 replace hF := Gh.Fold.grown hF ah om
 refine w_as ei (nt (wp_seq (sr (w_mv ei (w_val (y_bin ei Ev.c b_neq) (nt (c_ff eb (wp_skip (then_n (sr (w_mv (ex (.iface 67 (.agg (arr 0 (fun j => .int .i64 0))))) (w_mv es (w_mv es (w_mv es (w_mv es (w_inv (ex (.iface 67 (.agg (arr 0 (fun j => .int .i64 0))))) (fun w => by kernel_rfl) (Tryz.func88) kr rfl (m4 es es es es) (by first | rfl | simp) (suSeal1 f w5 hF) ?_))))))))))))))))
 rintro _ w7 ⟨rfl, ae⟩
 refine ⟨_, rfl, ?_⟩
 replace aa := aa.step ae
 replace hk := thenB hk ae
 replace hF := Gh.Fold.below hF ae
 refine w_mv (ex (.tuple #[.string (str (Gm.sealed f Su.wk Su.wn Su.wx Su.wt 16)), .int .i64 0])) (w_val ye (w_val ye (w_as es (w_as ei (nt (wp_seq (sr (w_mv ei (w_val (y_bin ei Ev.c b_neq) (nt (c_ff eb (wp_skip (then_n (sr (w_mv es (w_val (y_len es Tryz.underlying9) (w_val (v := pt ad 2) (y_off (y_fa (ex (pt ad 0)) (SuWT.fa35_2 _ _)) ro) (w_val (v := .int .i64 16) (y_ld (ex (pt ad 2)) SuWT.sc3 (aa.val om (ng (ng dv)))) (w_val (y_bin ei ei (b_sub om)) (w_as ei (nt (wp_seq (region_q SuWT.mixed kr (q_mv es (q_mv (ex (.int .i64 3) (Eq.trans (b := .int .i64 ((((Gm.sealed f Su.wk Su.wn Su.wx Su.wt 16).length : Nat) : Int) - 16)) rfl (by exact congrArg (Value.int .i64) om))) (q_val (v := .string (str ((Gm.sealed f Su.wk Su.wn Su.wx Su.wt 16).take 3))) (fun w' hw' => y_sls (ex (.string (str (Gm.sealed f Su.wk Su.wn Su.wx Su.wt 16)))) evo.no (evo.s ei) Tryz.underlying9 (bnd_h (h := 3) om om)) (q_mv es (q_mv (ex (.int .i64 3) (Eq.trans (b := .int .i64 ((((Gm.sealed f Su.wk Su.wn Su.wx Su.wt 16).length : Nat) : Int) - 16)) rfl (by exact congrArg (Value.int .i64) om))) (q_val (v := .string (str ((Gm.sealed f Su.wk Su.wn Su.wx Su.wt 16).drop 3))) (fun w' hw' => y_slf (ex (.string (str (Gm.sealed f Su.wk Su.wn Su.wx Su.wt 16)))) (evo.s ei) Tryz.underlying9 (bnd_l (l := 3) om om)) (q_as es (q_as es (q_as Ev.c (q_nil ?_)))))))))))))))))))))))))))))))))
 intro w9 ac
 replace aa := aa.step ac
 replace hk := thenB hk ac
 replace hF := Gh.Fold.below hF ac
 refine then_n (wp_ret (fin_ret3 rfl es es ei ?_))
 exact ⟨rfl, hk⟩

theorem suOpenW (f : Nat → BitVec 64)  (w0 : World) (hF : Gh.Fold w0 f) : Calls Tryz.prog 12 #[.int .i64 1, .string (str Su.wk), .string (str Su.wn), .string (str Su.wx), .string (str ((Gm.sealed f Su.wk Su.wn Su.wx Su.wt 16).take 3)), .string (str ((Gm.sealed f Su.wk Su.wn Su.wx Su.wt 16).drop 3))] w0 fun e w' => e = .returned (.tuple #[.string (str Su.wt), .int .i64 0]) ∧ Below w0.heap.size w0 w' := by
 have aj := hF.2
 have hl : (Gm.sealed f Su.wk Su.wn Su.wx Su.wt 16).length = 3 + 16 := Gm.sealed_len f Su.wk Su.wn Su.wx Su.wt 16 (Or.inl rfl) (by decide)
 refine enter (n := 43) Tryz.func12 rfl rfl rfl ?_
 have hk : Below w0.heap.size w0 w0 := Below.refl _ _
 refine sr (w_as (evc (.string (str ([] : List (BitVec 8))))) (w_as Ev.c (nt (sr (w_mv ei (w_mv es (w_mv es (w_call (Tryz.func18) kr rfl (m3 ei es es) (suof_1  w0) ?_))))))))
 rintro _ w1 ⟨rfl, ag⟩
 refine ⟨_, rfl, ?_⟩
 replace hk := thenB hk ag
 replace hF := Gh.Fold.below hF ag
 refine w_mv (ex (.tuple #[.iface 67 (.agg (arr 0 (fun j => .int .i64 0))), .agg (arr 3 (fun j => if j < 1 then .int .i64 16 else if j < 2 then .int .i64 12 else .int .i64 16)), .int .i64 0])) (w_val ye (w_val ye (w_val ye (w_alloc (m := 3) (F := fun j => if j < 1 then .int .i64 0 else if j < 2 then .int .i64 0 else .int .i64 0) kr ?_))))
 intro ac w3 ab aa af
 have ae := gb_ hk.size ab
 clear ab
 replace hk := thenB hk af
 replace hF := Gh.Fold.below hF af
 refine w_as (ex (.iface 67 (.agg (arr 0 (fun j => .int .i64 0))))) (w_sta (k := 3) (G := fun j => if j < 1 then .int .i64 16 else if j < 2 then .int .i64 12 else .int .i64 16) (ex (pt ac 0)) ea oc SuWT.sz35 aa om ?_)
 clear aa; intro w5 aa ah _
 replace aa := aa.congr (g := fun j => if j < 1 then .int .i64 16 else if j < 2 then .int .i64 12 else .int .i64 16) (fun j hj => by rw [if_pos ⟨Nat.zero_le _, by omega⟩]; first | rfl | (simp only [Nat.sub_zero]))
 replace hk := thenG hk ah om
 replace hF := Gh.Fold.grown hF ah om
 refine w_as ei (nt (wp_seq (sr (w_mv ei (w_val (y_bin ei Ev.c b_neq) (nt (c_ff eb (wp_skip (then_n (wp_seq (sr (w_mv es (w_val (y_len es Tryz.underlying9) (w_val (v := pt ac 2) (y_off (y_fa (ex (pt ac 0)) (SuWT.fa35_2 _ _)) ro) (w_val (v := .int .i64 16) (y_ld (ex (pt ac 2)) SuWT.sc3 (aa.val om (ng (ng dv)))) (w_val (y_bin ei ei b_neq) (nt ?_)))))))))))))))))
 have ai : ¬ (((((Gm.sealed f Su.wk Su.wn Su.wx Su.wt 16).drop 3).length : Nat) : Int) ≠ 16) := by rw [List.length_drop]; omega
 refine c_f (p := ((((Gm.sealed f Su.wk Su.wn Su.wx Su.wt 16).drop 3).length : Nat) : Int) ≠ 16) eb ai (wp_skip (then_n (sr (w_mv (ex (.iface 67 (.agg (arr 0 (fun j => .int .i64 0))))) (w_mv es (w_mv es (w_mv es (w_mv es (w_mv es (w_val (y_bin es es (b_cat (by rw [List.length_take, List.length_drop]; omega))) (w_inv (ex (.iface 67 (.agg (arr 0 (fun j => .int .i64 0))))) (fun w => by kernel_rfl) (Tryz.func87) kr rfl (m4 es es es (ex (.string (str (Gm.sealed f Su.wk Su.wn Su.wx Su.wt 16))) (Eq.trans (b := .string (str (((Gm.sealed f Su.wk Su.wn Su.wx Su.wt 16).take 3) ++ ((Gm.sealed f Su.wk Su.wn Su.wx Su.wt 16).drop 3)))) rfl (by exact congrArg (fun l => Value.string (str l)) (List.take_append_drop 3 _))))) (by first | rfl | simp) (suOpen1 f w5 hF) ?_)))))))))))
 rintro _ w8 ⟨rfl, ad⟩
 refine ⟨_, rfl, ?_⟩
 replace aa := aa.step ad
 replace hk := thenB hk ad
 replace hF := Gh.Fold.below hF ad
 refine w_val ye (w_val ye (w_as es (w_as ei (nt (wp_ret (fin_ret2 rfl es ei ?_))))))
 exact ⟨rfl, hk⟩

theorem suWakes (f : Nat → BitVec 64)  (w0 : World) (hF : Gh.Fold w0 f) : Calls Tryz.prog 4 #[] w0 fun e w' => e = .returned (.bool true) ∧ Below w0.heap.size w0 w' := by
 have ak := hF.2
 have hl : (Gm.sealed f Su.wk Su.wn Su.wx Su.wt 16).length = 3 + 16 := Gm.sealed_len f Su.wk Su.wn Su.wx Su.wt 16 (Or.inl rfl) (by decide)
 refine enter (n := 47) Tryz.func4 rfl rfl rfl ?_
 have hk : Below w0.heap.size w0 w0 := Below.refl _ _
 refine sr (w_as Ev.c (nt (sr (w_call (Tryz.func10) kr rfl (m1 Ev.c) (suOf_1  w0) ?_))))
 rintro _ w1 ⟨rfl, ag⟩
 refine ⟨_, rfl, ?_⟩
 replace hk := thenB hk ag
 replace hF := Gh.Fold.below hF ag
 refine w_mv (ex (.tuple #[.agg (arr 3 (fun j => if j < 1 then .int .i64 16 else if j < 2 then .int .i64 12 else .int .i64 16)), .int .i64 0])) (w_val ye (w_val ye (w_alloc (m := 3) (F := fun j => if j < 1 then .int .i64 0 else if j < 2 then .int .i64 0 else .int .i64 0) kr ?_)))
 intro ai w3 ab aa aj
 have af := gb_ hk.size ab
 clear ab
 replace hk := thenB hk aj
 replace hF := Gh.Fold.below hF aj
 refine w_sta (k := 3) (G := fun j => if j < 1 then .int .i64 16 else if j < 2 then .int .i64 12 else .int .i64 16) (ex (pt ai 0)) ea oc SuWT.sz35 aa om ?_
 clear aa; intro w5 aa ah _
 replace aa := aa.congr (g := fun j => if j < 1 then .int .i64 16 else if j < 2 then .int .i64 12 else .int .i64 16) (fun j hj => by rw [if_pos ⟨Nat.zero_le _, by omega⟩]; first | rfl | (simp only [Nat.sub_zero]))
 replace hk := thenG hk ah om
 replace hF := Gh.Fold.grown hF ah om
 refine w_as ei (nt (sr (w_call (Tryz.func11) kr rfl (m5 Ev.c (evc (.string (str Su.wk))) (evc (.string (str Su.wn))) (evc (.string (str Su.wx))) (evc (.string (str Su.wt)))) (suSealW f w5 hF) ?_)))
 rintro _ w7 ⟨rfl, ae⟩
 refine ⟨_, rfl, ?_⟩
 replace aa := aa.step ae
 replace hk := thenB hk ae
 replace hF := Gh.Fold.below hF ae
 refine w_mv (ex (.tuple #[.string (str ((Gm.sealed f Su.wk Su.wn Su.wx Su.wt 16).take 3)), .string (str ((Gm.sealed f Su.wk Su.wn Su.wx Su.wt 16).drop 3)), .int .i64 0])) (w_val ye (w_val ye (w_val ye (w_as es (w_as es (w_as ei (nt (sr (w_mv es (w_mv es (w_call (Tryz.func12) kr rfl (m6 Ev.c (evc (.string (str Su.wk))) (evc (.string (str Su.wn))) (evc (.string (str Su.wx))) es es) (suOpenW f w7 hF) ?_)))))))))))
 rintro _ w9 ⟨rfl, ad⟩
 refine ⟨_, rfl, ?_⟩
 replace aa := aa.step ad
 replace hk := thenB hk ad
 replace hF := Gh.Fold.below hF ad
 refine w_mv (ex (.tuple #[.string (str Su.wt), .int .i64 0])) (w_val ye (w_val ye (w_as es (w_as ei (nt (sr (w_mv ei (w_val (y_bin ei Ev.c b_eql) (w_mv eb (w_val_g (v := .agg (arr 3 (fun j => if j < 1 then .int .i64 16 else if j < 2 then .int .i64 12 else .int .i64 16))) (wy rfl rfl eb) (y_lda (ex (pt ai 0)) SuWT.ag35 SuWT.sz35 (fun j hj => by rw [Nat.zero_add]; exact (aa.cell om))) (w_val_g (v := .agg (arr 3 (fun j => if j < 1 then .int .i64 16 else if j < 2 then .int .i64 12 else .int .i64 16))) (wy rfl rfl eb) (y_build (vs := #[(0, .int .i64 16), (1, .int .i64 12), (2, .int .i64 16)]) (mp_cons Ev.c (mp_cons Ev.c (mp_cons Ev.c mp0))) (fun w => by kernel_rfl)) (w_val_g (wy rfl rfl eb) (y_bin ea ea (b_su rfl rfl rfl rfl rfl rfl)) (w_val (y_pick_t eb eb) (w_mv eb (w_val_g (v := .int .i64 0) (wy rfl rfl eb) (y_mv ei) (w_val_g (wy rfl rfl eb) (y_bin ei Ev.c b_eql) (w_val (y_pick_t eb eb) (w_mv eb (w_val_g (v := .int .i64 0) (wy rfl rfl eb) (y_mv ei) (w_val_g (wy rfl rfl eb) (y_bin ei Ev.c b_eql) (w_val (y_pick_t eb eb) (w_mv eb (w_val_g (v := .string (str ((Gm.sealed f Su.wk Su.wn Su.wx Su.wt 16).drop 3))) (wy rfl rfl eb) (y_mv es) (w_val_g (wy rfl rfl eb) (y_len es Tryz.underlying9) (w_val_g (wy rfl rfl eb) (y_bin ei Ev.c b_eql) (w_val (y_pick_t eb eb) (w_mv eb ?_)))))))))))))))))))))))))))
 have ac : ((((Gm.sealed f Su.wk Su.wn Su.wx Su.wt 16).drop 3).length : Nat) : Int) = 16 := by rw [List.length_drop]; omega
 refine w_val_g (v := .string (str Su.wt)) (wy rfl rfl (eb (dt ac))) (y_mv es) (w_val_g (wy rfl rfl (eb (dt ac))) (y_bin es (evc (.string (str Su.wt))) b_eqs_same) (w_val (y_pick_t (eb (dt ac)) eb) (w_as eb (nt (wp_ret (fin_ret1 rfl eb ?_))))))
 exact ⟨rfl, hk⟩
end Go.Proofs.YtdmbfimjbmfbaaaGreatDoor
