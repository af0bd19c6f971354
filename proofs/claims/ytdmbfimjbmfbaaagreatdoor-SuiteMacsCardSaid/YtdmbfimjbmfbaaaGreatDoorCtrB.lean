/-
  Counters: the closure that tells block by block. Conditions as each says. The condition on the two tables, opened: they lie as the program's text lays them. No conditions. A row over two tables that lie as they are laid and one variable that no row names: the world's shape is kept beside the tables' condition. No conditions.
-/
import Derived.Test.YtdmbfimjbmfbaaaGreatDoorRows
import Derived.Test.YtdmbfimjbmfbaaaGreatDoorGhB
import Derived.Test.YtdmbfimjbmfbaaaGreatDoorGenSh
import Derived.ProofKit
import Derived.Test.YtdmbfimjbmfbaaaGreatDoorShaTab
import Derived.Test.YtdmbfimjbmfbaaaGreatDoorAesBackPlain
import Derived.Lib.LaidTab
import Derived.LaidMore
import Derived.Test.YtdmbfimjbmfbaaaGreatDoorCbcM
namespace Go.Proofs.YtdmbfimjbmfbaaaGreatDoor
open Go.RowKit
set_option linter.unusedSimpArgs false
set_option linter.unusedVariables false
set_option maxRecDepth 100000
set_option maxHeartbeats 1000000
namespace CtrBT
theorem mixed : Tryz.prog.follows .mixedOrders = true := by kernel_rfl
theorem sc3 : (Tryz.prog.underlying 3).map scal = some true := by rw [Tryz.underlying3]; rfl
theorem sc71 : (Tryz.prog.underlying 71).map scal = some true := by rw [Tryz.underlying71]; rfl
theorem sc9 : (Tryz.prog.underlying 9).map scal = some true := by rw [Tryz.underlying9]; rfl
theorem sz9 : (Tryz.prog.info? 9).map (·.size) = some 1 := by kernel_rfl
end CtrBT
theorem blk_c (p bc bs bw k : Nat) (key s : List (BitVec 8)) (d : Nat) (hok : Aes.okKey key.length) (hs : s.length = 16) (h1 : 1 ≤ d) (h16 : d ≤ 16) (n1 : bs ≠ bc) (n2 : bs ≠ bw) (w0 : World) (r_bc : Row w0 bc 71 1 (fun j => pt p 0)) (r_bs : Row w0 bs 9 1 (fun j => .string (str (Ct.nx s d k)))) (r_bw : Row w0 bw 3 1 (fun j => .int .i64 ((d : Nat) : Int))) (hc : CiphAt Aes.bk Aes.undo w0 p (Aes.words key)) : Calls Tryz.prog 121 #[pt bc 0, pt bs 0, pt bw 0] w0 fun e w' => e = .returned (.string (str (Aes.enc (Aes.words key) (Ct.nx s d k)))) ∧ Row w' bs 9 1 (fun j => .string (str (Ct.nx s d (k + 1)))) ∧ w0.grownBy w' (some bs) := by
 have aa := Ct.length_nx s d k hs
 refine enter (n := 23) Tryz.func121 rfl rfl rfl ?_
 have hk : w0.grownBy w0 (some bs) := grown_refl _ _
 have af := r_bc.lt
 have ah := r_bs.lt
 have ag := r_bw.lt
 refine sr (w_as (evc (.string (str ([] : List (BitVec 8))))) (nt (sr (w_val (v := pt p 0) (y_ld (ex (pt bc 0)) CtrBT.sc71 (r_bc.val om rfl)) (w_val (v := .string (str (Ct.nx s d k))) (y_ld (ex (pt bs 0)) CtrBT.sc9 (r_bs.val om rfl)) (w_call (Tryz.func31) kr rfl (m2 (ex (pt p 0)) es) (enc_l p key (Ct.nx s d k) w0 hok hc aa) ?_))))))
 rintro _ w1 ⟨rfl, ad⟩
 refine ⟨_, rfl, ?_⟩
 replace r_bc := r_bc.step ad
 replace r_bs := r_bs.step ad
 replace r_bw := r_bw.step ad
 replace hk := grown_thenB hk ad
 replace hc := hc.below ad
 refine w_mv (ex (.tuple #[.string (str (Aes.enc (Aes.words key) (Ct.nx s d k))), .int .i64 0])) (w_val ye (w_val ye (w_as es (w_as ei (nt (wp_seq (region_t 10 CtrBT.mixed kr ?_)))))))
 simp only [List.take_succ_cons, List.take_zero, List.drop_succ_cons, List.drop_zero]
 refine q_val (v := .string (str (Ct.nx s d k))) (fun w' hw' => y_ld (ex (pt bs 0)) CtrBT.sc9 (cls_cell (r_bs.val om rfl) r_bs.lt w' hw')) (q_val (v := .int .i64 ((d : Nat) : Int)) (fun w' hw' => y_ld (ex (pt bw 0)) CtrBT.sc3 (cls_cell (r_bw.val om rfl) r_bw.lt w' hw')) (q_val (fun w' hw' => y_bin Ev.c ei (b_sub om)) (q_val (v := .string (str ((Ct.nx s d k).take (16 - d)))) (fun w' hw' => y_sls (ex (.string (str (Ct.nx s d k)))) evo.no (evo.s ei) Tryz.underlying9 (bnd_h (h := (16 - d)) (by (try simp only [aa]); omega) (by (try simp only [aa]); omega))) (q_val (v := .string (str (Ct.nx s d k))) (fun w' hw' => y_ld (ex (pt bs 0)) CtrBT.sc9 (cls_cell (r_bs.val om rfl) r_bs.lt w' hw')) (q_val (v := .int .i64 ((d : Nat) : Int)) (fun w' hw' => y_ld (ex (pt bw 0)) CtrBT.sc3 (cls_cell (r_bw.val om rfl) r_bw.lt w' hw')) (q_val (fun w' hw' => y_bin Ev.c ei (b_sub om)) (q_val (v := .string (str ((Ct.nx s d k).drop (16 - d)))) (fun w' hw' => y_slf (ex (.string (str (Ct.nx s d k)))) (evo.s ei) Tryz.underlying9 (bnd_l (l := (16 - d)) (by (try simp only [aa]); omega) (by (try simp only [aa]); omega))) (q_call (v := .string (str (Oct.add ((Ct.nx s d k).drop (16 - d)) 1))) (Tryz.func113) kr rfl (m2 es (evc (U64 (1#64)))) (fun w' hw' => add_c ((Ct.nx s d k).drop (16 - d)) 1#64 (by rw [List.length_drop, aa]; omega) w') (q_val (fun w' hw' => y_bin es es (b_cat (by simp only [List.length_append, List.length_take, List.length_drop, Oct.length_add, aa]; omega))) (q_nil ?_))))))))))
 intro w3 ac
 replace r_bc := r_bc.step ac
 replace r_bs := r_bs.step ac
 replace r_bw := r_bw.step ac
 replace hk := grown_thenB hk ac
 replace hc := hc.below ac
 have ab := CiphAt.onward hc r_bs (by decide) (by decide)
 refine w_st (v := .string (str (((Ct.nx s d k).take (16 - d)) ++ (Oct.add ((Ct.nx s d k).drop (16 - d)) 1)))) (ex (pt bs 0)) es rfl rfl CtrBT.sz9 r_bs om ?_
 clear r_bs; intro w5 r_bs ae _
 replace r_bc := r_bc.stepG ae om
 replace r_bw := r_bw.stepG ae om
 replace hk := grown_thenG hk ae om
 replace hc := ab _ ae
 refine nt (sr (w_mv es (w_as es (nt (wp_ret (fin_ret1 rfl es ?_))))))
 exact ⟨rfl, r_bs.congr (fun j hj => by (try dsimp only); (try rw [if_pos om]); exact congrArg (fun l => Value.string (str l)) (Ct.nx_add s d k 1 hs)), hk⟩
end Go.Proofs.YtdmbfimjbmfbaaaGreatDoor
namespace Go.Proofs.YtdmbfimjbmfbaaaGreatDoor
open Go.RowKit Go.WideShapes Go.ChangeShapes
set_option linter.unusedVariables false
def laidL : List (String × DataW Unit) := [("pyxis/sha.small", Rows.laid_pyxis_sha_small), ("pyxis/sha.great", Rows.laid_pyxis_sha_great)]
theorem gSmall : Tryz.prog.globalNamed "pyxis/sha.small" = some 0 := by kernel_rfl
theorem gGreat : Tryz.prog.globalNamed "pyxis/sha.great" = some 1 := by kernel_rfl
theorem tSmall : (Tryz.prog.globals[(0 : Nat)]?).map (·.type) = some 145 := by kernel_rfl
theorem tGreat : (Tryz.prog.globals[(1 : Nat)]?).map (·.type) = some 148 := by kernel_rfl
def zSmall : List Int := (List.range 64).map fun i => ((Sha.k32 i).toNat : Int)
def zGreat : List Int := (List.range 80).map fun i => ((Sha.K false i).toNat : Int)
theorem dSmall : (Rows.laid_pyxis_sha_small : DataW Unit) = Lib.tabData .u32 zSmall := by kernel_rfl
theorem dGreat : (Rows.laid_pyxis_sha_great : DataW Unit) = Lib.tabData .u64 zGreat := by kernel_rfl
theorem tabs_of_laid {W : World} (h : laidMetH Tryz.prog laidL W) : Sha.Tabs W := by
  rw [MakeChecks.laidMetH_plain _ _ _ (by kernel_rfl)] at h
  obtain ⟨ps, ⟨g0, t0, cs0, f0, p0, q0, hg0, ht0, hv0, hd0, ⟨g1, t1, cs1, f1, p1, q1, hg1, ht1, hv1, hd1, _, _⟩, _⟩, _, _⟩ := h
  obtain rfl := Option.some.inj (gSmall.symm.trans hg0)
  obtain rfl := Option.some.inj (gGreat.symm.trans hg1)
  obtain rfl := Option.some.inj (tSmall.symm.trans ht0)
  obtain rfl := Option.some.inj (tGreat.symm.trans ht1)
  rw [dSmall] at hd0
  rw [dGreat] at hd1
  have e0 := Lib.cells_of_tab Tryz.underlying145 Tryz.underlying103 (by kernel_rfl) (by kernel_rfl) hd0
  have e1 := Lib.cells_of_tab Tryz.underlying148 Tryz.underlying92 (by kernel_rfl) (by kernel_rfl) hd1
  have h0 : ∀ i, i < 64 → W.cell? ⟨0, i, none⟩ = some (U32 (Sha.k32 i)) := fun i hi => by
    rw [World.var?_cell hg0 hv0 i, ← Array.getElem?_toList, e0]
    simp [zSmall, hi, U32]
  have h1 : ∀ i, i < 80 → W.cell? ⟨1, i, none⟩ = some (U64 (Sha.K false i)) := fun i hi => by
    rw [World.var?_cell hg1 hv1 i, ← Array.getElem?_toList, e1]
    simp [zGreat, hi, U64]
  exact ⟨h0, h1, World.block_lt_of_cell? W _ (h0 0 (by decide)), World.block_lt_of_cell? W _ (h1 0 (by decide))⟩
theorem door_met (os : Os) (args : Array Value) : laidMetH Tryz.prog laidL ((World.doorLaid Tryz.prog 400 os).forCall (fun _ _ => 0) ⟨#[], args, []⟩).memory :=
  laidMetH_of_parts3 (fuel := 8) (laidMet_of_run' 8 (by kernel_rfl) (by kernel_rfl)) (by kernel_rfl) (by kernel_rfl)
end Go.Proofs.YtdmbfimjbmfbaaaGreatDoor
namespace Go.Proofs.YtdmbfimjbmfbaaaGreatDoor
open Go.RowKit
set_option linter.unusedVariables false
variable {H : Type} {enc : TypeId × Value → H}
theorem handed_both {a : Assume} {C : Checked} {os : Os} {f : FuncId} {fn : Func} {s : ChangeSpec} {conds : List PathCond} {apart fresh handsOn again : Bool} {X : World → Array Value → Prop}
    (hX : ∀ (w w' : World) (args : Array Value), w.heap = w'.heap → X w args → X w' args)
    (own : ownKnob C.prog.godebug = none) (started : os.Started) (noInit : C.prog.inits.idxOf? f = none) (hfn : C.prog.funcs[f]? = some fn)
    (witness : ∃ (w : World) (tape : Tape) (i : Input), w.os = os ∧ (w.forCall tape i).Shaped C.prog ∧ i.vars = [] ∧ Input.okWide C.prog (w.forCall tape i) .any w.heap.size f i ∧
      ((s.pre enc C.prog fn conds apart (w.forCall tape i).memory i.args ∧ X (w.forCall tape i).memory i.args) ∧ sizedMet enc C.prog fn (OpenSpec.ofChange s) apart (w.forCall tape i).memory i.args) ∧ a.holds C.prog (lone (Frame.enter C.prog f i.args .normal) [] (w.forCall tape i)))
    (contract : ∀ (W : World) (base : Nat) (args : Array Value) (ds gs : List (DataW H)) (before : List MemPlace),
      (∀ (j : Nat) t v, fn.params[j]? = some t → args[j]? = some v → Value.okWide C.prog W .any base t v) →
      DataW.Whole enc C.prog fn.params.toList s.vars apart W args.toList ds gs before →
      conds.all (PathCond.test C.prog ⟨fn.params.toList, ds, s.plain.varTypes C.prog, gs⟩) = true →
      (DataW.weightsEach C.prog (fn.params.toList ++ s.plain.varTypes C.prog) (ds ++ gs)).all (· ≤ reachBytes) = true → X W args → W.ShapedOpen C.prog →
      Calls C.prog f args W fun e W' => ∃ v, e = .returned v ∧ s.post enc C.prog fn apart fresh handsOn again W args v W') :
    ReturnsInHanded a C os f .any (fun w args => (s.pre enc C.prog fn conds apart w args ∧ X w args) ∧ sizedMet enc C.prog fn (OpenSpec.ofChange s) apart w args) (s.post enc C.prog fn apart fresh handsOn again) := by
  refine returnsInHanded_of_calls own started noInit witness ?_
  intro w tape i _ hsh _ hok hpre _
  obtain ⟨_, _, _, fn', hfn', _, _, _, _, hval⟩ := hok
  obtain rfl : fn' = fn := Option.some.inj (hfn'.symm.trans hfn)
  obtain ⟨⟨⟨ds, gs, before, hw, hc⟩, hx⟩, hz⟩ := hpre
  refine (contract (w.forCall tape i) w.heap.size i.args ds gs before hval (DataW.Whole.of_heap (w' := w.forCall tape i) (by rfl) hw) hc (hz.weights hw) (hX _ _ _ (by rfl) hx) hsh).mono fun e W' ⟨v, he, hp⟩ => ?_
  subst he
  exact ChangeSpec.post_blind hp
end Go.Proofs.YtdmbfimjbmfbaaaGreatDoor
