/-
  Counters: the closure that tells block by block. Conditions as each says.
-/
import Derived.Test.YtdmbfimjbmfbaaaGreatRows
import Derived.Test.YtdmbfimjbmfbaaaGreatCtrA
import Derived.Test.YtdmbfimjbmfbaaaGreatGenSh
import Derived.ProofKit
namespace Go.Proofs.YtdmbfimjbmfbaaaGreat
open Go.RowKit
set_option linter.unusedSimpArgs false
set_option linter.unusedVariables false
set_option maxRecDepth 100000
set_option maxHeartbeats 1000000
namespace CtrBT
theorem mixed : Tryz.prog.follows .mixedOrders = true := by kernel_rfl
theorem sc3 : (Tryz.prog.underlying 3).map scal = some true := by rw [Tryz.underlying3]; rfl
theorem sc71 : (Tryz.prog.underlying 71).map scal = some true := by rw [Tryz.underlying71]; rfl
theorem sc9 : (Tryz.prog.underlying 9).map scal = some true := by rw [Tryz.underlying9]; rfl
theorem sz9 : (Tryz.prog.info? 9).map (·.size) = some 1 := by kernel_rfl
end CtrBT
theorem blk_c (p bc bs bw k : Nat) (key s : List (BitVec 8)) (d : Nat) (hok : Aes.okKey key.length) (hs : s.length = 16) (h1 : 1 ≤ d) (h16 : d ≤ 16) (n1 : bs ≠ bc) (n2 : bs ≠ bw) (w0 : World) (r_bc : Row w0 bc 71 1 (fun j => pt p 0)) (r_bs : Row w0 bs 9 1 (fun j => .string (str (Ct.nx s d k)))) (r_bw : Row w0 bw 3 1 (fun j => .int .i64 ((d : Nat) : Int))) (hc : CiphAt Aes.bk Aes.undo w0 p (Aes.words key)) : Calls Tryz.prog 75 #[pt bc 0, pt bs 0, pt bw 0] w0 fun e w' => e = .returned (.string (str (Aes.enc (Aes.words key) (Ct.nx s d k)))) ∧ Row w' bs 9 1 (fun j => .string (str (Ct.nx s d (k + 1)))) ∧ w0.grownBy w' (some bs) := by
 have hln := Ct.length_nx s d k hs
 refine enter (n := 23) Tryz.func75 rfl rfl rfl ?_
 have hk : w0.grownBy w0 (some bs) := grown_refl _ _
 have lt_bc := r_bc.lt
 have lt_bs := r_bs.lt
 have lt_bw := r_bw.lt
 refine sr (w_as (evc (.string (str ([] : List (BitVec 8))))) (nt (sr (w_val (v := pt p 0) (y_ld (ex (pt bc 0)) CtrBT.sc71 (r_bc.val om rfl)) (w_val (v := .string (str (Ct.nx s d k))) (y_ld (ex (pt bs 0)) CtrBT.sc9 (r_bs.val om rfl)) (w_call (Tryz.func36) kr rfl (m2 (ex (pt p 0)) es) (enc_l p key (Ct.nx s d k) w0 hok hc hln) ?_))))))
 rintro _ w1 ⟨rfl, hb2⟩
 refine ⟨_, rfl, ?_⟩
 replace r_bc := r_bc.step hb2
 replace r_bs := r_bs.step hb2
 replace r_bw := r_bw.step hb2
 replace hk := grown_thenB hk hb2
 replace hc := hc.below hb2
 refine w_mv (ex (.tuple #[.string (str (Aes.enc (Aes.words key) (Ct.nx s d k))), .int .i64 0])) (w_val ye (w_val ye (w_as es (w_as ei (nt (wp_seq (region_t 10 CtrBT.mixed kr ?_)))))))
 simp only [List.take_succ_cons, List.take_zero, List.drop_succ_cons, List.drop_zero]
 refine q_val (v := .string (str (Ct.nx s d k))) (fun w' hw' => y_ld (ex (pt bs 0)) CtrBT.sc9 (cls_cell (r_bs.val om rfl) r_bs.lt w' hw')) (q_val (v := .int .i64 ((d : Nat) : Int)) (fun w' hw' => y_ld (ex (pt bw 0)) CtrBT.sc3 (cls_cell (r_bw.val om rfl) r_bw.lt w' hw')) (q_val (fun w' hw' => y_bin Ev.c ei (b_sub om)) (q_val (v := .string (str ((Ct.nx s d k).take (16 - d)))) (fun w' hw' => y_sls (ex (.string (str (Ct.nx s d k)))) evo.no (evo.s ei) Tryz.underlying9 (bnd_h (h := (16 - d)) (by (try simp only [hln]); omega) (by (try simp only [hln]); omega))) (q_val (v := .string (str (Ct.nx s d k))) (fun w' hw' => y_ld (ex (pt bs 0)) CtrBT.sc9 (cls_cell (r_bs.val om rfl) r_bs.lt w' hw')) (q_val (v := .int .i64 ((d : Nat) : Int)) (fun w' hw' => y_ld (ex (pt bw 0)) CtrBT.sc3 (cls_cell (r_bw.val om rfl) r_bw.lt w' hw')) (q_val (fun w' hw' => y_bin Ev.c ei (b_sub om)) (q_val (v := .string (str ((Ct.nx s d k).drop (16 - d)))) (fun w' hw' => y_slf (ex (.string (str (Ct.nx s d k)))) (evo.s ei) Tryz.underlying9 (bnd_l (l := (16 - d)) (by (try simp only [hln]); omega) (by (try simp only [hln]); omega))) (q_call (v := .string (str (Oct.add ((Ct.nx s d k).drop (16 - d)) 1))) (Tryz.func63) kr rfl (m2 es (evc (U64 (1#64)))) (fun w' hw' => add_c ((Ct.nx s d k).drop (16 - d)) 1#64 (by rw [List.length_drop, hln]; omega) w') (q_val (fun w' hw' => y_bin es es (b_cat (by simp only [List.length_append, List.length_take, List.length_drop, Oct.length_add, hln]; omega))) (q_nil ?_))))))))))
 intro w3 hb4
 replace r_bc := r_bc.step hb4
 replace r_bs := r_bs.step hb4
 replace r_bw := r_bw.step hb4
 replace hk := grown_thenB hk hb4
 replace hc := hc.below hb4
 have hx_hc := CiphAt.onward hc r_bs (by decide) (by decide)
 refine w_st (v := .string (str (((Ct.nx s d k).take (16 - d)) ++ (Oct.add ((Ct.nx s d k).drop (16 - d)) 1)))) (ex (pt bs 0)) es rfl rfl CtrBT.sz9 r_bs om ?_
 clear r_bs; intro w5 r_bs hg6 _
 replace r_bc := r_bc.stepG hg6 om
 replace r_bw := r_bw.stepG hg6 om
 replace hk := grown_thenG hk hg6 om
 replace hc := hx_hc _ hg6
 refine nt (sr (w_mv es (w_as es (nt (wp_ret (fin_ret1 rfl es ?_))))))
 exact ⟨rfl, r_bs.congr (fun j hj => by (try dsimp only); (try rw [if_pos om]); exact congrArg (fun l => Value.string (str l)) (Ct.nx_add s d k 1 hs)), hk⟩
end Go.Proofs.YtdmbfimjbmfbaaaGreat
