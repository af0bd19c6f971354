/-
  Counters: the closure that tells block by block. Conditions as each says.
-/
import Derived.Test.YthmcoaadigaddaaRows
import Derived.Test.YthmcoaadigaddaaCtrA
import Derived.ProofKit
namespace Go.Proofs.Ythmcoaadigaddaa
open Go.RowKit
set_option linter.unusedSimpArgs false
set_option linter.unusedVariables false
namespace CtrBT
theorem mixed : Try.prog.follows .mixedOrders = true := by kernel_rfl
theorem sc3 : (Try.prog.underlying 3).map scal = some true := by rw [Try.underlying3]; rfl
theorem sc44 : (Try.prog.underlying 44).map scal = some true := by rw [Try.underlying44]; rfl
theorem sc9 : (Try.prog.underlying 9).map scal = some true := by rw [Try.underlying9]; rfl
theorem sz9 : (Try.prog.info? 9).map (·.size) = some 1 := by kernel_rfl
end CtrBT
set_option maxRecDepth 100000 in
set_option maxHeartbeats 1000000 in
theorem blk_c (p bc bs bw k : Nat) (key s : List (BitVec 8)) (d : Nat) (hok : Aes.okKey key.length) (hs : s.length = 16) (h1 : 1 ≤ d) (h16 : d ≤ 16) (n1 : bs ≠ bc) (n2 : bs ≠ bw) (w0 : World) (r_bc : Row w0 bc 44 1 (fun j => .pointer (some ⟨p, 0, none⟩))) (r_bs : Row w0 bs 9 1 (fun j => .string (str (Ct.nx s d k)))) (r_bw : Row w0 bw 3 1 (fun j => .int .i64 ((d : Nat) : Int))) (hc : CiphAt Aes.bk Aes.undo w0 p (Aes.words key)) : Calls Try.prog 55 #[.pointer (some ⟨bc, 0, none⟩), .pointer (some ⟨bs, 0, none⟩), .pointer (some ⟨bw, 0, none⟩)] w0 fun e w' => e = .returned (.string (str (Aes.enc (Aes.words key) (Ct.nx s d k)))) ∧ Row w' bs 9 1 (fun j => .string (str (Ct.nx s d (k + 1)))) ∧ w0.grownBy w' (some bs) := by
  have hln := Ct.length_nx s d k hs
  refine enter (n := 23) Try.func55 rfl rfl rfl ?_
  have hk : w0.grownBy w0 (some bs) := grown_refl _ _
  have lt_bc := r_bc.lt
  have lt_bs := r_bs.lt
  have lt_bw := r_bw.lt
  refine wp_seq ?_
  refine wp_region_lit ?_
  refine w_val (v := .string (str ([] : List (BitVec 8)))) (y_as (Ev.c (v := .string (str ([] : List (BitVec 8)))))) ?_
  refine wpList_nil ?_
  refine then_n ?_
  refine wp_seq ?_
  refine wp_region_lit ?_
  refine w_val (v := .pointer (some ⟨p, 0, none⟩)) (y_ld (Ev.t (v := .pointer (some ⟨bc, 0, none⟩)) rfl rfl) CtrBT.sc44 (r_bc.val (v := .pointer (some ⟨p, 0, none⟩)) (by omega) rfl)) ?_
  refine w_val (v := .string (str (Ct.nx s d k))) (y_ld (Ev.t (v := .pointer (some ⟨bs, 0, none⟩)) rfl rfl) CtrBT.sc9 (r_bs.val (v := .string (str (Ct.nx s d k))) (by omega) rfl)) ?_
  refine w_call (Try.func24) (by kernel_rfl) rfl (m2 (Ev.t (v := .pointer (some ⟨p, 0, none⟩)) rfl rfl) (Ev.t (v := .string (str (Ct.nx s d k))) rfl rfl)) (enc_l p key (Ct.nx s d k) w0 hok hc hln) ?_
  rintro _ w1 ⟨rfl, hb2⟩
  refine ⟨_, rfl, ?_⟩
  replace r_bc := r_bc.step hb2
  replace r_bs := r_bs.step hb2
  replace r_bw := r_bw.step hb2
  replace hk := grown_thenB hk hb2
  replace hc := hc.below hb2
  refine w_val (v := .tuple #[.string (str (Aes.enc (Aes.words key) (Ct.nx s d k))), .int .i64 0]) (y_mv (Ev.t (v := .tuple #[.string (str (Aes.enc (Aes.words key) (Ct.nx s d k))), .int .i64 0]) rfl rfl)) ?_
  refine w_val (v := .string (str (Aes.enc (Aes.words key) (Ct.nx s d k)))) (y_ext (v := .string (str (Aes.enc (Aes.words key) (Ct.nx s d k)))) (Ev.t (v := .tuple #[.string (str (Aes.enc (Aes.words key) (Ct.nx s d k))), .int .i64 0]) rfl rfl) rfl) ?_
  refine w_val (v := .int .i64 0) (y_ext (v := .int .i64 0) (Ev.t (v := .tuple #[.string (str (Aes.enc (Aes.words key) (Ct.nx s d k))), .int .i64 0]) rfl rfl) rfl) ?_
  refine w_val (v := .string (str (Aes.enc (Aes.words key) (Ct.nx s d k)))) (y_as (Ev.t (v := .string (str (Aes.enc (Aes.words key) (Ct.nx s d k)))) rfl rfl)) ?_
  refine w_val (v := .int .i64 0) (y_as (Ev.t (v := .int .i64 0) rfl rfl)) ?_
  refine wpList_nil ?_
  refine then_n ?_
  refine wp_seq ?_
  refine region_t 10 CtrBT.mixed (by kernel_rfl) ?_
  simp only [List.take_succ_cons, List.take_zero, List.drop_succ_cons, List.drop_zero]
  refine q_val (v := .string (str (Ct.nx s d k))) (fun w' hw' => y_ld (Ev.t (v := .pointer (some ⟨bs, 0, none⟩)) rfl rfl) CtrBT.sc9 (cls_cell (r_bs.val (v := .string (str (Ct.nx s d k))) (by omega) rfl) r_bs.lt w' hw')) ?_
  refine q_val (v := .int .i64 ((d : Nat) : Int)) (fun w' hw' => y_ld (Ev.t (v := .pointer (some ⟨bw, 0, none⟩)) rfl rfl) CtrBT.sc3 (cls_cell (r_bw.val (v := .int .i64 ((d : Nat) : Int)) (by omega) rfl) r_bw.lt w' hw')) ?_
  refine q_val (v := .int .i64 (16 - ((d : Nat) : Int))) (fun w' hw' => y_bin (Ev.c (v := .int .i64 16)) (Ev.t (v := .int .i64 ((d : Nat) : Int)) rfl rfl) (b_sub (by omega))) ?_
  refine q_val (v := .string (str ((Ct.nx s d k).take (16 - d)))) (fun w' hw' => y_sls (Ev.t (v := .string (str (Ct.nx s d k))) rfl rfl) evo.no (evo.s (Ev.t (v := .int .i64 (16 - ((d : Nat) : Int))) rfl rfl)) Try.underlying9 (bnd_h (h := (16 - d)) (by (try simp only [hln]); omega) (by (try simp only [hln]); omega))) ?_
  refine q_val (v := .string (str (Ct.nx s d k))) (fun w' hw' => y_ld (Ev.t (v := .pointer (some ⟨bs, 0, none⟩)) rfl rfl) CtrBT.sc9 (cls_cell (r_bs.val (v := .string (str (Ct.nx s d k))) (by omega) rfl) r_bs.lt w' hw')) ?_
  refine q_val (v := .int .i64 ((d : Nat) : Int)) (fun w' hw' => y_ld (Ev.t (v := .pointer (some ⟨bw, 0, none⟩)) rfl rfl) CtrBT.sc3 (cls_cell (r_bw.val (v := .int .i64 ((d : Nat) : Int)) (by omega) rfl) r_bw.lt w' hw')) ?_
  refine q_val (v := .int .i64 (16 - ((d : Nat) : Int))) (fun w' hw' => y_bin (Ev.c (v := .int .i64 16)) (Ev.t (v := .int .i64 ((d : Nat) : Int)) rfl rfl) (b_sub (by omega))) ?_
  refine q_val (v := .string (str ((Ct.nx s d k).drop (16 - d)))) (fun w' hw' => y_slf (Ev.t (v := .string (str (Ct.nx s d k))) rfl rfl) (evo.s (Ev.t (v := .int .i64 (16 - ((d : Nat) : Int))) rfl rfl)) Try.underlying9 (bnd_l (l := (16 - d)) (by (try simp only [hln]); omega) (by (try simp only [hln]); omega))) ?_
  refine q_call (v := .string (str (Oct.add ((Ct.nx s d k).drop (16 - d)) 1))) (Try.func36) (by kernel_rfl) rfl (m2 (Ev.t (v := .string (str ((Ct.nx s d k).drop (16 - d)))) rfl rfl) (Ev.c (v := U64 (1#64)))) (fun w' hw' => add_c ((Ct.nx s d k).drop (16 - d)) 1#64 (by rw [List.length_drop, hln]; omega) w') ?_
  refine q_val (v := .string (str (((Ct.nx s d k).take (16 - d)) ++ (Oct.add ((Ct.nx s d k).drop (16 - d)) 1)))) (fun w' hw' => y_bin (Ev.t (v := .string (str ((Ct.nx s d k).take (16 - d)))) rfl rfl) (Ev.t (v := .string (str (Oct.add ((Ct.nx s d k).drop (16 - d)) 1))) rfl rfl) (b_cat (by simp only [List.length_append, List.length_take, List.length_drop, Oct.length_add, hln]; omega))) ?_
  refine q_nil ?_
  intro w3 hb4
  replace r_bc := r_bc.step hb4
  replace r_bs := r_bs.step hb4
  replace r_bw := r_bw.step hb4
  replace hk := grown_thenB hk hb4
  replace hc := hc.below hb4
  have hx_hc := CiphAt.onward hc r_bs (by decide) (by decide)
  refine w_st (v := .string (str (((Ct.nx s d k).take (16 - d)) ++ (Oct.add ((Ct.nx s d k).drop (16 - d)) 1)))) (Ev.t (v := .pointer (some ⟨bs, 0, none⟩)) rfl rfl) (Ev.t (v := .string (str (((Ct.nx s d k).take (16 - d)) ++ (Oct.add ((Ct.nx s d k).drop (16 - d)) 1)))) rfl rfl) rfl rfl CtrBT.sz9 r_bs (by omega) ?_
  clear r_bs; intro w5 r_bs hg6 _
  replace r_bc := r_bc.stepG hg6 (by omega)
  replace r_bw := r_bw.stepG hg6 (by omega)
  replace hk := grown_thenG hk hg6 (by omega)
  replace hc := hx_hc _ hg6
  refine wpList_nil ?_
  refine then_n ?_
  refine wp_seq ?_
  refine wp_region_lit ?_
  refine w_val (v := .string (str (Aes.enc (Aes.words key) (Ct.nx s d k)))) (y_mv (Ev.t (v := .string (str (Aes.enc (Aes.words key) (Ct.nx s d k)))) rfl rfl)) ?_
  refine w_val (v := .string (str (Aes.enc (Aes.words key) (Ct.nx s d k)))) (y_as (Ev.t (v := .string (str (Aes.enc (Aes.words key) (Ct.nx s d k)))) rfl rfl)) ?_
  refine wpList_nil ?_
  refine then_n ?_
  refine wp_ret ?_
  refine fin_ret1 rfl (Ev.t (v := .string (str (Aes.enc (Aes.words key) (Ct.nx s d k)))) rfl rfl) ?_
  exact ⟨rfl, r_bs.congr (fun j hj => by (try dsimp only); (try rw [if_pos (by omega)]); exact congrArg (fun l => Value.string (str l)) (Ct.nx_add s d k 1 hs)), hk⟩
end Go.Proofs.Ythmcoaadigaddaa
