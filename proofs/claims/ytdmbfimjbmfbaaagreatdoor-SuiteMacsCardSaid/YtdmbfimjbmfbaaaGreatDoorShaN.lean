/-
  Numbers and roots of the reference. Conditions as each says.
-/
import Derived.Test.YtdmbfimjbmfbaaaGreatDoorRows
import Derived.Test.YtdmbfimjbmfbaaaGreatDoorGenMore
import Derived.Test.YtdmbfimjbmfbaaaGreatDoorShaRoot
import Derived.Test.YtdmbfimjbmfbaaaGreatDoorGenSh
import Derived.ProofKit
namespace Go.Proofs.YtdmbfimjbmfbaaaGreatDoor
open Go.RowKit
set_option linter.unusedSimpArgs false
set_option linter.unusedVariables false
set_option maxRecDepth 100000
set_option maxHeartbeats 1000000
namespace ShaNT
theorem mixed : Tryz.prog.follows .mixedOrders = true := by kernel_rfl
theorem ag132 : (Tryz.prog.underlying 132).map isAggD = some true := by rw [Tryz.underlying132]; rfl
theorem sc92 : (Tryz.prog.underlying 92).map scal = some true := by rw [Tryz.underlying92]; rfl
theorem so3 : (Tryz.prog.underlying 3).isSome = true := by rw [Tryz.underlying3]; rfl
theorem sz132 : (Tryz.prog.info? 132).map (·.size) = some 4 := by kernel_rfl
theorem sz92 : (Tryz.prog.info? 92).map (·.size) = some 1 := by kernel_rfl
end ShaNT
theorem half_c (X i : Nat) (hi : i < 8) (w0 : World) : Calls Tryz.prog 64 #[.agg (arr 4 (fun j => U64 (Sha.wn X j))), .int .i64 ((i : Nat) : Int)] w0 fun e w' => e = .returned (U64 (BitVec.ofNat 64 (Sha.hf X i))) ∧ Below w0.heap.size w0 w' := by
 refine enter (n := 18) Tryz.func64 rfl rfl rfl ?_
 have hk : Below w0.heap.size w0 w0 := Below.refl _ _
 refine sr (w_box (m := 4) (F := fun j => U64 (Sha.wn X j)) ea rfl ?_)
 intro ac w1 aa ab ae
 have ad := gb_ hk.size aa
 clear aa
 replace hk := thenB hk ae
 refine w_as (evc (U64 (0#64))) (nt (wp_seq (sr (w_mv ei (w_val (y_bin ei Ev.c (b_rem om)) (w_val (y_bin ei Ev.c b_eql) (nt ?_)))))))
 refine c_if (p := (((i : Nat) : Int) % 2) = 1) eb (fun hc3 => ?_) (fun hc3 => ?_)
 ·skip
  refine sr (w_mv ei (w_val (y_bin ei Ev.c (b_quo om)) (w_val (y_ia1z (i := (i / 2)) (ex (pt ac 0)) ei Tryz.underlying132 ShaNT.sz92 om om) (w_val (v := U64 (Sha.wn X (i / 2))) (y_ld (ex (pt ac (i / 2))) ShaNT.sc92 (ab.val om rfl)) (w_val (y_bin e6 (evc (.int .u64 32)) (shr64 (c := 32) rfl)) (w_as e6 (nt (wp_ret (then_r (fin_ret1 rfl e6 ?_))))))))))
  refine ⟨congrArg Ending.returned ?_, hk⟩
  show (U64 ((Sha.wn X (i / 2)) >>> 32) : Value) = U64 (BitVec.ofNat 64 (Sha.hf X i))
  first | exact congrArg U64 (Sha.half_hi X i _ om) | exact congrArg U64 (Sha.half_lo X i _ om)
 ·skip
  refine wp_skip (then_n (sr (w_mv ei (w_val (y_bin ei Ev.c (b_quo om)) (w_val (y_ia1z (i := (i / 2)) (ex (pt ac 0)) ei Tryz.underlying132 ShaNT.sz92 om om) (w_val (v := U64 (Sha.wn X (i / 2))) (y_ld (ex (pt ac (i / 2))) ShaNT.sc92 (ab.val om rfl)) (w_val (y_bin e6 (evc (U64 (4294967296#64))) (rem64 (by decide))) (w_as e6 (nt (wp_ret (fin_ret1 rfl e6 ?_)))))))))))
  refine ⟨congrArg Ending.returned ?_, hk⟩
  show (U64 ((Sha.wn X (i / 2)) % (4294967296#64)) : Value) = U64 (BitVec.ofNat 64 (Sha.hf X i))
  first | exact congrArg U64 (Sha.half_hi X i _ om) | exact congrArg U64 (Sha.half_lo X i _ om)

theorem times_c (X Y : Nat) (hX : X < 2 ^ 256) (w0 : World) : Calls Tryz.prog 55 #[.agg (arr 4 (fun j => U64 (Sha.wn X j))), .agg (arr 4 (fun j => U64 (Sha.wn Y j)))] w0 fun e w' => e = .returned (.agg (arr 4 (fun j => U64 (Sha.wn (X * Y) j)))) ∧ Below w0.heap.size w0 w' := by
 refine enter (n := 63) Tryz.func55 rfl rfl rfl ?_
 have hk : Below w0.heap.size w0 w0 := Below.refl _ _
 refine sr (w_box (m := 4) (F := fun j => U64 (Sha.wn X j)) ea rfl ?_)
 intro bj w1 am ab b5
 have bx := gb_ hk.size am
 clear am
 replace hk := thenB hk b5
 refine w_box (m := 4) (F := fun j => U64 (Sha.wn Y j)) ea rfl ?_
 intro bi w3 aj ac b3
 have bg := ab.nb aj
 have b1 := gb_ hk.size aj
 clear aj
 replace ab := ab.step b3
 replace hk := thenB hk b3
 refine w_alloc (m := 4) (F := fun j => U64 (0#64)) kr ?_
 intro a8 w5 ai ad bw
 have a9 := ab.nb ai
 have ba := ac.nb ai
 have b0 := gb_ hk.size ai
 clear ai
 replace ab := ab.step bw
 replace ac := ac.step bw
 replace hk := thenB hk bw
 refine nt (sr (w_alloc (m := 8) (F := fun j => U64 (0#64)) kr ?_))
 intro ag w7 ah aa bt
 have a1 := ab.nb ah
 have a5 := ac.nb ah
 have a6 := ad.nb ah
 have bq := gb_ hk.size ah
 clear ah
 replace ab := ab.step bt
 replace ac := ac.step bt
 replace ad := ad.step bt
 replace hk := thenB hk bt
 refine nt (wp_seq (sr (w_as Ev.c (nt (wp_block ?_)))))
 refine c_loop (fun dN aN wl => ∃ (i : Nat) (o : Nat → Nat), dN = (8 - i) ∧ ∃ f9, aN = fr 63 f9 ∧ (i ≤ 8) ∧ (∀ j, j < 8 → o j < 2 ^ 32) ∧ (Sha.s8 o = X % 2 ^ (32 * i) * Y % 2 ^ 256) ∧ f9 2 = pt bj 0 ∧ f9 3 = pt bi 0 ∧ f9 4 = pt a8 0 ∧ f9 5 = pt ag 0 ∧ f9 6 = .int .i64 ((i : Nat) : Int) ∧ Row wl bj 132 4 (fun j => U64 (Sha.wn X j)) ∧ Row wl bi 132 4 (fun j => U64 (Sha.wn Y j)) ∧ Row wl a8 132 4 (fun j => U64 (0#64)) ∧ Row wl ag 93 8 (fun j => U64 (BitVec.ofNat 64 (o j))) ∧ Below w0.heap.size w0 wl) (8 - 0) ?_ ?_
 · exact ⟨0, fun _ => 0, rfl, _, rfl, iv, (by intro j _; exact (by decide : 0 < 2 ^ 32)), (by simp [Sha.s8, Nat.mod_one]), rfl, rfl, rfl, rfl, ti, ab, ac, ad, (aa.congr (fun j hj => by rfl)), hk⟩
 ·skip
  clear ab ac ad aa hk
  rintro _ _ b8 ⟨i, o, rfl, f9, rfl, b4, bl, bo, bz, b2, bs, bp, bk, ab, ac, ad, aa, hk⟩
  refine wp_seq (sr (w_mv (ei bk) (w_val (y_bin ei Ev.c b_lss) (nt ?_))))
  refine c_if (p := ((i : Nat) : Int) < 8) eb (fun hc11 => ?_) (fun hc11 => ?_)
  ·skip
   refine wp_skip (then_n (wp_seq (wp_block (sr (w_as (evc (U64 (0#64))) (nt (sr (w_as Ev.c (nt (wp_block ?_))))))))))
   refine c_loop (fun dN aN wl => ∃ (k : Nat) (c : Nat) (o : Nat → Nat), dN = (8 - k) ∧ ∃ a3, aN = fr 63 a3 ∧ (i + k ≤ 8) ∧ (c < 2 ^ 32) ∧ (∀ j, j < 8 → o j < 2 ^ 32) ∧ ((Sha.s8 o + c * 2 ^ (32 * (i + k))) % 2 ^ 256 = (X % 2 ^ (32 * i) * Y + Sha.hf X i * 2 ^ (32 * i) * (Y % 2 ^ (32 * k))) % 2 ^ 256) ∧ a3 2 = pt bj 0 ∧ a3 3 = pt bi 0 ∧ a3 4 = pt a8 0 ∧ a3 5 = pt ag 0 ∧ a3 6 = .int .i64 ((i : Nat) : Int) ∧ a3 7 = U64 (BitVec.ofNat 64 c) ∧ a3 8 = .int .i64 ((k : Nat) : Int) ∧ Row wl bj 132 4 (fun j => U64 (Sha.wn X j)) ∧ Row wl bi 132 4 (fun j => U64 (Sha.wn Y j)) ∧ Row wl a8 132 4 (fun j => U64 (0#64)) ∧ Row wl ag 93 8 (fun j => U64 (BitVec.ofNat 64 (o j))) ∧ Below w0.heap.size w0 wl) (8 - 0) ?_ ?_
   · exact ⟨0, 0, o, rfl, _, rfl, iv, (by decide), (by exact bl), (by exact Sha.tm_first X Y i o bo), bz, b2, bs, bp, bk, (Eq.trans (b := U64 (0#64)) rfl (by rfl)), ti, ab, ac, ad, (aa.congr (fun j hj => by rfl)), hk⟩
   ·skip
    clear ab ac ad aa hk
    rintro _ _ ce ⟨k, c, o, rfl, a3, rfl, b7, bu, a4, br, bf, bc, bn, a2, an, bv, ax, ab, ac, ad, aa, hk⟩
    have bb : i + k < 8 → (Sha.hf X i * Sha.hf Y k + o (i + k) + c) < 2 ^ 64 := fun h => Sha.x_lt _ _ _ _ (Sha.hf_lt X i) (Sha.hf_lt Y k) (a4 (i + k) h) bu
    refine wp_seq (sr (w_mv (ei an) (w_mv (ei ax) (w_val (y_bin ei ei (b_add om)) (w_val (y_bin ei Ev.c b_lss) (nt ?_))))))
    refine c_if (p := (((i : Nat) : Int) + ((k : Nat) : Int)) < 8) eb (fun hc14 => ?_) (fun hc14 => ?_)
    ·skip
     refine wp_skip (then_n (wp_seq (wp_block (wp_seq ?_))))
     have bb := bb om
     refine region_q ShaNT.mixed kr (q_val (v := .agg (arr 4 (fun j => U64 (Sha.wn X j)))) (fun w' hw' => y_lda (ex (pt bj 0) bf) ShaNT.ag132 ShaNT.sz132 (fun j hj => by rw [Nat.zero_add]; exact (cls_cell (ab.cell om) ab.lt w' hw'))) (q_mv (ei an) (q_call (v := U64 (BitVec.ofNat 64 (Sha.hf X i))) (Tryz.func64) kr rfl (m2 ea ei) (fun w' hw' => half_c X i om w') (q_val (v := .agg (arr 4 (fun j => U64 (Sha.wn Y j)))) (fun w' hw' => y_lda (ex (pt bi 0) bc) ShaNT.ag132 ShaNT.sz132 (fun j hj => by rw [Nat.zero_add]; exact (cls_cell (ac.cell om) ac.lt w' hw'))) (q_mv (ei ax) (q_call (v := U64 (BitVec.ofNat 64 (Sha.hf Y k))) (Tryz.func64) kr rfl (m2 ea ei) (fun w' hw' => half_c Y k om w') (q_val (fun w' hw' => y_bin e6 e6 mul64) (q_mv (ei an) (q_mv (ei ax) (q_val (fun w' hw' => y_bin ei ei (b_add om)) (q_val (fun w' hw' => y_ia1z (i := (i + k)) (ex (pt ag 0) a2) ei Tryz.underlying93 ShaNT.sz92 om om) (q_val (v := U64 (BitVec.ofNat 64 (o (i + k)))) (fun w' hw' => y_ld (ex (pt ag (i + k))) ShaNT.sc92 (cls_cell (aa.val om rfl) aa.lt w' hw')) (q_val (fun w' hw' => y_bin e6 e6 add64) (q_mv (e6 bv) (q_val (fun w' hw' => y_bin e6 e6 add64) (q_as e6 (q_nil ?_)))))))))))))))))
     intro ch av
     replace ab := ab.step av
     replace ac := ac.step av
     replace ad := ad.step av
     replace aa := aa.step av
     replace hk := thenB hk av
     refine then_n (sr (w_mv (ei an) (w_mv (ei ax) (w_val (y_bin ei ei (b_add om)) (w_mv (ex (U64 (BitVec.ofNat 64 (Sha.hf X i * Sha.hf Y k + o (i + k) + c))) (Eq.trans (b := U64 ((((BitVec.ofNat 64 (Sha.hf X i)) * (BitVec.ofNat 64 (Sha.hf Y k))) + (BitVec.ofNat 64 (o (i + k)))) + (BitVec.ofNat 64 c))) rfl (by exact congrArg U64 (Sha.prod_word _ _ _ _ bb)))) (w_val (y_bin e6 (evc (U64 (4294967296#64))) (rem64 (by decide))) (w_val (y_ia1z (i := (i + k)) (ex (pt ag 0) a2) ei Tryz.underlying93 ShaNT.sz92 om om) (w_st (v := U64 ((BitVec.ofNat 64 (Sha.hf X i * Sha.hf Y k + o (i + k) + c)) % (4294967296#64))) (ex (pt ag (i + k))) e6 rfl rfl ShaNT.sz92 aa om ?_))))))))
     clear aa; intro cd aa a0 _
     replace ab := ab.stepG a0 om
     replace ac := ac.stepG a0 om
     replace ad := ad.stepG a0 om
     replace hk := thenG hk a0 om
     refine nt (wp_region_lit (w_mv (ex (U64 (BitVec.ofNat 64 (Sha.hf X i * Sha.hf Y k + o (i + k) + c))) (Eq.trans (b := U64 ((((BitVec.ofNat 64 (Sha.hf X i)) * (BitVec.ofNat 64 (Sha.hf Y k))) + (BitVec.ofNat 64 (o (i + k)))) + (BitVec.ofNat 64 c))) rfl (by exact congrArg U64 (Sha.prod_word _ _ _ _ bb)))) (w_val (y_bin e6 (evc (.int .u64 32)) (shr64 (c := 32) rfl)) (w_as e6 (wpList_nil (inb_n (then_n (wp_region_lit (w_mv (ei ax) (w_val (y_bin ei Ev.c (b_add om)) (w_as ei (wpList_nil ?_))))))))))))
     exact then_n ⟨_, om, k + 1, (Sha.hf X i * Sha.hf Y k + o (i + k) + c) / 2 ^ 32, fun j => if j = i + k then (Sha.hf X i * Sha.hf Y k + o (i + k) + c) % 2 ^ 32 else o j, rfl, _, rfl, iv, (by exact Nat.div_lt_of_lt_mul (by have := bb; omega)), (by intro j hj; (try dsimp only); split; exact Nat.mod_lt _ (by decide); exact a4 j hj), (by exact Sha.tm_step X Y i k c o om br), bf, bc, bn, a2, an, (Eq.trans (b := U64 ((BitVec.ofNat 64 (Sha.hf X i * Sha.hf Y k + o (i + k) + c)) >>> 32)) rfl (by exact congrArg U64 (Sha.high_word _ bb))), ti, ab, ac, ad, (aa.congr (fun j hj => by (try dsimp only); by_cases e : j = i + k; (rw [if_pos e, if_pos e]; exact congrArg U64 (Sha.low_word _ bb)); (rw [if_neg e, if_neg e]))), hk⟩
    ·skip
     refine wp_exit (then_x (then_x (inb_x (inb_n (then_n (wp_region_lit (w_mv (ei an) (w_val (y_bin ei Ev.c (b_add om)) (w_as ei (wpList_nil ?_))))))))))
     exact then_n ⟨_, om, i + 1, o, rfl, _, rfl, iv, (by exact a4), (by exact Sha.tm_row X Y i k c o om a4 br), bf, bc, bn, a2, ti, ab, ac, ad, aa, hk⟩
  ·skip
   refine wp_exit (then_x (then_x (inb_x (then_n (sr (w_alloc (m := 4) (F := fun j => U64 (0#64)) kr ?_))))))
   intro ak cb af ae ar
   have a7 := ab.nb af
   have az := ac.nb af
   have ay := ad.nb af
   have aw := aa.nb af
   have bm := gb_ hk.size af
   clear af
   replace ab := ab.step ar
   replace ac := ac.step ar
   replace ad := ad.step ar
   replace aa := aa.step ar
   replace hk := thenB hk ar
   refine nt (wp_seq (sr (w_as Ev.c (nt (wp_block ?_)))))
   refine c_loop (fun dN aN wl => ∃ (q : Nat), dN = (4 - q) ∧ ∃ bh, aN = fr 63 bh ∧ (q ≤ 4) ∧ bh 4 = pt a8 0 ∧ bh 5 = pt ag 0 ∧ bh 10 = pt ak 0 ∧ bh 11 = .int .i64 ((q : Nat) : Int) ∧ Row wl bj 132 4 (fun j => U64 (Sha.wn X j)) ∧ Row wl bi 132 4 (fun j => U64 (Sha.wn Y j)) ∧ Row wl a8 132 4 (fun j => U64 (0#64)) ∧ Row wl ag 93 8 (fun j => U64 (BitVec.ofNat 64 (o j))) ∧ Row wl ak 132 4 (fun j => if j < q then (fun j => U64 (Sha.wn (X * Y) j)) j else (fun j => U64 (0#64)) j) ∧ Below w0.heap.size w0 wl) (4 - 0) ?_ ?_
   · exact ⟨0, rfl, _, rfl, iv, bs, bp, rfl, ti, ab, ac, ad, aa, (ae.cg), hk⟩
   ·skip
    clear ab ac ad aa ae hk
    rintro _ _ ca ⟨q, rfl, bh, rfl, b6, bd, be, aq, al, ab, ac, ad, aa, ae, hk⟩
    refine wp_seq (sr (w_mv (ei al) (w_val (y_bin ei Ev.c b_lss) (nt ?_))))
    refine c_if (p := ((q : Nat) : Int) < 4) eb (fun hc23 => ?_) (fun hc23 => ?_)
    ·skip
     refine wp_skip (then_n (wp_seq (wp_block (region_t 13 ShaNT.mixed kr ?_))))
     simp only [List.take_succ_cons, List.take_zero, List.drop_succ_cons, List.drop_zero]
     refine q_mv (ei al) (q_mv (ei al) (q_val (fun w' hw' => y_bin Ev.c ei (b_mul om)) (q_val (fun w' hw' => y_ia1z (i := (2 * q)) (ex (pt ag 0) be) ei Tryz.underlying93 ShaNT.sz92 om om) (q_val (v := U64 (BitVec.ofNat 64 (o (2 * q)))) (fun w' hw' => y_ld (ex (pt ag (2 * q))) ShaNT.sc92 (cls_cell (aa.val om rfl) aa.lt w' hw')) (q_mv (ei al) (q_val (fun w' hw' => y_bin Ev.c ei (b_mul om)) (q_val (fun w' hw' => y_bin ei Ev.c (b_add om)) (q_val (fun w' hw' => y_ia1z (i := ((2 * q) + 1)) (ex (pt ag 0) be) ei Tryz.underlying93 ShaNT.sz92 om om) (q_val (v := U64 (BitVec.ofNat 64 (o ((2 * q) + 1)))) (fun w' hw' => y_ld (ex (pt ag ((2 * q) + 1))) ShaNT.sc92 (cls_cell (aa.val om rfl) aa.lt w' hw')) (q_val (fun w' hw' => y_bin e6 (evc (.int .u64 32)) (shl64 (c := 32) rfl)) (q_val (fun w' hw' => y_bin e6 e6 add64) (q_val (fun w' hw' => y_ia1z (i := q) (ex (pt ak 0) aq) ei Tryz.underlying132 ShaNT.sz92 om om) (q_nil ?_)))))))))))))
     intro cf ao
     replace ab := ab.step ao
     replace ac := ac.step ao
     replace ad := ad.step ao
     replace aa := aa.step ao
     replace ae := ae.step ao
     replace hk := thenB hk ao
     refine w_st (v := U64 ((BitVec.ofNat 64 (o (2 * q))) + ((BitVec.ofNat 64 (o ((2 * q) + 1))) <<< 32))) (ex (pt ak q)) e6 rfl rfl ShaNT.sz92 ae om ?_
     clear ae; intro cc ae au _
     replace ab := ab.stepG au om
     replace ac := ac.stepG au om
     replace ad := ad.stepG au om
     replace aa := aa.stepG au om
     replace hk := thenG hk au om
     refine wpList_nil (inb_n (then_n (wp_region_lit (w_mv (ei al) (w_val (y_bin ei Ev.c (b_add om)) (w_as ei (wpList_nil ?_)))))))
     exact then_n ⟨_, om, q + 1, rfl, _, rfl, iv, bd, be, aq, ti, ab, ac, ad, aa, (ae.congr (fun j hj => by (try dsimp only); by_cases e : j = q; (rw [if_pos e, if_pos om, e]; exact congrArg U64 (Sha.tm_word X Y q o om hX bl (by rw [bo, show i = 8 from by omega]))); (rw [if_neg e]; by_cases e2 : j < q; (rw [if_pos e2]; exact (if_pos om).symm); (rw [if_neg e2]; exact (if_neg om).symm)))), hk⟩
    ·skip
     refine wp_exit (then_x ?_)
     replace ae := ae.congr (g := fun j => U64 (Sha.wn (X * Y) j)) (fun j hj => by (try dsimp only); rw [if_pos om])
     refine then_x (inb_x (then_n (sr (w_val (v := .agg (arr 4 (fun j => U64 (Sha.wn (X * Y) j)))) (y_lda (ex (pt ak 0) aq) ShaNT.ag132 ShaNT.sz132 (fun j hj => by rw [Nat.zero_add]; exact (ae.cell om))) (w_sta (k := 4) (G := fun j => U64 (Sha.wn (X * Y) j)) (ex (pt a8 0) bd) ea oc ShaNT.sz132 ad om ?_)))))
     clear ad; intro b9 ad ap _
     replace ad := ad.congr (g := fun j => U64 (Sha.wn (X * Y) j)) (fun j hj => by rw [if_pos ⟨Nat.zero_le _, by omega⟩]; first | rfl | (simp only [Nat.sub_zero]))
     replace ab := ab.stepG ap om
     replace ac := ac.stepG ap om
     replace aa := aa.stepG ap om
     replace ae := ae.stepG ap om
     replace hk := thenG hk ap om
     refine nt (wp_ret (fin_arr (F := fun j => U64 (Sha.wn (X * Y) j)) rfl (ex (pt a8 0) bd) ShaNT.ag132 ShaNT.sz132 ad om ?_))
     exact ⟨rfl, hk⟩

theorem above_c (X Y : Nat) (hX : X < 2 ^ 256) (hY : Y < 2 ^ 256) (w0 : World) : Calls Tryz.prog 56 #[.agg (arr 4 (fun j => U64 (Sha.wn X j))), .agg (arr 4 (fun j => U64 (Sha.wn Y j)))] w0 fun e w' => e = .returned (.bool (decide (Y < X))) ∧ Below w0.heap.size w0 w' := by
 refine enter (n := 24) Tryz.func56 rfl rfl rfl ?_
 have hk : Below w0.heap.size w0 w0 := Below.refl _ _
 refine sr (w_box (m := 4) (F := fun j => U64 (Sha.wn X j)) ea rfl ?_)
 intro al w1 ae aa ar
 have an := gb_ hk.size ae
 clear ae
 replace hk := thenB hk ar
 refine w_box (m := 4) (F := fun j => U64 (Sha.wn Y j)) ea rfl ?_
 intro ak w3 ac ab ap
 have ag := aa.nb ac
 have ao := gb_ hk.size ac
 clear ac
 replace aa := aa.step ap
 replace hk := thenB hk ap
 refine w_as Ev.c (nt (wp_seq (sr (w_as Ev.c (nt (wp_block ?_))))))
 refine c_loop (fun dN aN wl => ∃ (k : Nat), dN = (4 - k) ∧ ∃ f5, aN = fr 24 f5 ∧ (k ≤ 4) ∧ (X / 2 ^ (64 * (4 - k)) = Y / 2 ^ (64 * (4 - k))) ∧ f5 2 = pt al 0 ∧ f5 3 = pt ak 0 ∧ f5 5 = .int .i64 (3 - ((k : Nat) : Int)) ∧ Row wl al 132 4 (fun j => U64 (Sha.wn X j)) ∧ Row wl ak 132 4 (fun j => U64 (Sha.wn Y j)) ∧ Below w0.heap.size w0 wl) (4 - 0) ?_ ?_
 · exact ⟨0, rfl, _, rfl, iv, (by rw [Nat.div_eq_of_lt (by exact hX), Nat.div_eq_of_lt (by exact hY)]), rfl, rfl, (Eq.trans (b := .int .i64 3) rfl (by rfl)), aa, ab, hk⟩
 ·skip
  clear aa ab hk
  rintro _ _ w6 ⟨k, rfl, f5, rfl, aq, ad, aj, ah, af, aa, ab, hk⟩
  refine wp_seq (sr (w_mv (ei af) (w_val (y_bin ei Ev.c b_geq) (nt ?_))))
  refine c_if (p := 0 ≤ (3 - ((k : Nat) : Int))) eb (fun hc7 => ?_) (fun hc7 => ?_)
  ·skip
   refine wp_skip (then_n (wp_seq (wp_block (wp_seq (region_q ShaNT.mixed kr (q_mv (ei af) (q_val (fun w' hw' => y_ia1z (i := (3 - k)) (ex (pt al 0) aj) ei Tryz.underlying132 ShaNT.sz92 om om) (q_val (v := U64 (Sha.wn X (3 - k))) (fun w' hw' => y_ld (ex (pt al (3 - k))) ShaNT.sc92 (cls_cell (aa.val om rfl) aa.lt w' hw')) (q_mv (ei af) (q_val (fun w' hw' => y_ia1z (i := (3 - k)) (ex (pt ak 0) ah) ei Tryz.underlying132 ShaNT.sz92 om om) (q_val (v := U64 (Sha.wn Y (3 - k))) (fun w' hw' => y_ld (ex (pt ak (3 - k))) ShaNT.sc92 (cls_cell (ab.val om rfl) ab.lt w' hw')) (q_val (fun w' hw' => y_bin e6 e6 neq64) (q_nil ?_)))))))))))))
   intro w8 am
   replace aa := aa.step am
   replace ab := ab.step am
   replace hk := thenB hk am
   refine then_n ?_
   refine c_if (p := (Sha.wn X (3 - k)) ≠ (Sha.wn Y (3 - k))) eb (fun hc10 => ?_) (fun hc10 => ?_)
   ·skip
    refine wp_seq (region_q ShaNT.mixed kr (q_mv (ei af) (q_val (fun w' hw' => y_ia1z (i := (3 - k)) (ex (pt al 0) aj) ei Tryz.underlying132 ShaNT.sz92 om om) (q_val (v := U64 (Sha.wn X (3 - k))) (fun w' hw' => y_ld (ex (pt al (3 - k))) ShaNT.sc92 (cls_cell (aa.val om rfl) aa.lt w' hw')) (q_mv (ei af) (q_val (fun w' hw' => y_ia1z (i := (3 - k)) (ex (pt ak 0) ah) ei Tryz.underlying132 ShaNT.sz92 om om) (q_val (v := U64 (Sha.wn Y (3 - k))) (fun w' hw' => y_ld (ex (pt ak (3 - k))) ShaNT.sc92 (cls_cell (ab.val om rfl) ab.lt w' hw')) (q_val (fun w' hw' => y_bin e6 e6 gtr64) (q_as eb (q_nil ?_))))))))))
    intro au ai
    replace aa := aa.step ai
    replace ab := ab.step ai
    replace hk := thenB hk ai
    refine then_n (wp_ret (inb_r (then_r (then_r (inb_r (then_r (fin_ret1 rfl eb ?_)))))))
    refine ⟨congrArg Ending.returned ?_, hk⟩
    show (.bool (decide ((Sha.wn Y (3 - k)).toNat < (Sha.wn X (3 - k)).toNat)) : Value) = .bool (decide (Y < X))
    first | exact congrArg Value.bool (decide_eq_decide.2 (Sha.ab_ne X Y (3 - k) (by rw [show 3 - k + 1 = 4 - k from by omega]; exact ad) (by assumption))) | exact congrArg Value.bool (decide_eq_false (by rw [show k = 4 from by omega] at ad; simp at ad; omega)).symm
   ·skip
    refine wp_skip (inb_n (then_n (wp_region_lit (w_mv (ei af) (w_val (y_bin ei Ev.c (b_sub om)) (w_as ei (wpList_nil ?_)))))))
    exact then_n ⟨_, om, k + 1, rfl, _, rfl, iv, (by exact Sha.ab_next X Y (4 - (k + 1)) (by rw [show 4 - (k + 1) + 1 = 4 - k from by omega]; exact ad) (by rw [show 4 - (k + 1) = 3 - k from by omega]; exact Classical.not_not.1 (by assumption))), aj, ah, (Eq.trans (b := .int .i64 ((3 - ((k : Nat) : Int)) - 1)) rfl (by congr 1; omega)), aa, ab, hk⟩
  ·skip
   refine wp_exit (then_x (then_x (inb_x (then_n (sr (w_as Ev.c (nt (wp_ret (fin_ret1 rfl eb ?_)))))))))
   refine ⟨congrArg Ending.returned ?_, hk⟩
   show (.bool false : Value) = .bool (decide (Y < X))
   first | exact congrArg Value.bool (decide_eq_decide.2 (Sha.ab_ne X Y (3 - k) (by rw [show 3 - k + 1 = 4 - k from by omega]; exact ad) (by assumption))) | exact congrArg Value.bool (decide_eq_false (by rw [show k = 4 from by omega] at ad; simp at ad; omega)).symm

theorem root_2 (p : Nat) (hp : p < 2 ^ 16) (w0 : World) : Calls Tryz.prog 40 #[U64 (BitVec.ofNat 64 p), .int .i64 2] w0 fun e w' => e = .returned (U64 (BitVec.ofNat 64 (Sha.rt p 2 69))) ∧ Below w0.heap.size w0 w' := by
 refine enter (n := 45) Tryz.func40 rfl rfl rfl ?_
 have hk : Below w0.heap.size w0 w0 := Below.refl _ _
 refine sr (w_as (evc (U64 (0#64))) (nt (sr (w_alloc (m := 4) (F := fun j => U64 (0#64)) kr ?_))))
 intro ag w1 ah aa bd
 have a5 := gb_ hk.size ah
 clear ah
 replace hk := thenB hk bd
 refine nt (sr (w_mv ei (w_mv e6 (w_val (y_ia1z (i := 2) (ex (pt ag 0)) ei Tryz.underlying132 ShaNT.sz92 om om) (w_st (v := U64 (BitVec.ofNat 64 p)) (ex (pt ag 2)) e6 rfl rfl ShaNT.sz92 aa om ?_)))))
 clear aa; intro w3 aa bg _
 replace hk := thenG hk bg om
 refine nt (wp_seq ?_)
 replace aa := aa.congr (g := fun j => U64 (Sha.wn (p * 2 ^ (64 * 2)) j)) (fun j hj => by rw [← Sha.want_row p 2 j om om hj]; (try dsimp only); by_cases e : j = 2; (rw [if_pos e, if_pos e]); (rw [if_neg e, if_neg e]))
 refine wp_region_lit (w_alloc (m := 4) (F := fun j => U64 (0#64)) kr ?_)
 intro a4 w5 ai ab ba
 have ao := aa.nb ai
 have a7 := gb_ hk.size ai
 clear ai
 replace aa := aa.step ba
 replace hk := thenB hk ba
 refine nt (wp_seq (sr (w_as Ev.c (nt (wp_block ?_)))))
 refine c_loop (fun dN aN wl => ∃ (k : Nat), dN = (69 - k) ∧ ∃ f7, aN = fr 45 f7 ∧ (k ≤ 69) ∧ f7 1 = .int .i64 2 ∧ f7 4 = U64 (0#64) ∧ f7 5 = pt ag 0 ∧ f7 6 = pt a4 0 ∧ f7 7 = .int .i64 (68 - ((k : Nat) : Int)) ∧ Row wl ag 132 4 (fun j => U64 (Sha.wn (p * 2 ^ (64 * 2)) j)) ∧ Row wl a4 132 4 (fun j => U64 (Sha.wn (Sha.rt p 2 k) j)) ∧ Below w0.heap.size w0 wl) (69 - 0) ?_ ?_
 · exact ⟨0, rfl, _, rfl, iv, rfl, rfl, rfl, rfl, (Eq.trans (b := .int .i64 68) rfl (by rfl)), aa, (ab.congr (fun j hj => by show U64 0#64 = U64 (Sha.wn 0 j); unfold Sha.wn; rw [Nat.zero_div])), hk⟩
 ·skip
  clear aa ab hk
  rintro _ _ w8 ⟨k, rfl, f7, rfl, bc, az, a6, aw, al, aj, aa, ab, hk⟩
  refine wp_seq (sr (w_mv (ei aj) (w_val (y_bin ei Ev.c b_geq) (nt ?_))))
  refine c_if (p := 0 ≤ (68 - ((k : Nat) : Int))) eb (fun hc9 => ?_) (fun hc9 => ?_)
  ·skip
   refine wp_skip (then_n (wp_seq (wp_block (sr (w_val (v := .agg (arr 4 (fun j => U64 (Sha.wn (Sha.rt p 2 k) j)))) (y_lda (ex (pt a4 0) al) ShaNT.ag132 ShaNT.sz132 (fun j hj => by rw [Nat.zero_add]; exact (ab.cell om))) (w_alloc (m := 4) (F := fun j => U64 (0#64)) kr ?_))))))
   intro av bj af ac a0
   have an := aa.nb af
   have a1 := ab.nb af
   have a8 := gb_ hk.size af
   clear af
   replace aa := aa.step a0
   replace ab := ab.step a0
   replace hk := thenB hk a0
   refine w_sta (k := 4) (G := fun j => U64 (Sha.wn (Sha.rt p 2 k) j)) (ex (pt av 0)) ea oc ShaNT.sz132 ac om ?_
   clear ac; intro bi ac ax _
   replace ac := ac.congr (g := fun j => U64 (Sha.wn (Sha.rt p 2 k) j)) (fun j hj => by rw [if_pos ⟨Nat.zero_le _, by omega⟩]; first | rfl | (simp only [Nat.sub_zero]))
   replace aa := aa.stepG ax om
   replace ab := ab.stepG ax om
   replace hk := thenG hk ax om
   refine nt (sr (w_mv (ei aj) (w_val (y_bin ei Ev.c (b_quo om)) (w_mv (ei aj) (w_val (y_bin ei Ev.c (b_quo om)) (w_val (y_ia1z (i := ((68 - k) / 64)) (ex (pt av 0)) ei Tryz.underlying132 ShaNT.sz92 om om) (w_val (v := U64 (Sha.wn (Sha.rt p 2 k) ((68 - k) / 64))) (y_ld (ex (pt av ((68 - k) / 64))) ShaNT.sc92 (ac.val om rfl)) (w_mv (ei aj) (w_val (y_bin ei Ev.c (b_rem om)) (w_val (y_nat_u64 (p := ((68 - k) % 64)) ei om ShaNT.so3 Tryz.underlying87) (w_val (y_bin (evc (U64 (1#64))) e6 (shl64 (c := ((68 - k) % 64)) (by rw [BitVec.toNat_ofNat]; omega))) (w_val (y_bin e6 e6 or64) (w_val (y_ia1z (i := ((68 - k) / 64)) (ex (pt av 0)) ei Tryz.underlying132 ShaNT.sz92 om om) (w_st (v := U64 ((Sha.wn (Sha.rt p 2 k) ((68 - k) / 64)) ||| ((1#64) <<< ((68 - k) % 64)))) (ex (pt av ((68 - k) / 64))) e6 rfl rfl ShaNT.sz92 ac om ?_))))))))))))))
   clear ac; intro be ac a2 _
   replace aa := aa.stepG a2 om
   replace ab := ab.stepG a2 om
   replace hk := thenG hk a2 om
   refine nt (wp_seq ?_)
   replace ac := ac.congr (g := fun j => U64 (Sha.wn (Sha.rt p 2 k + 2 ^ (68 - k)) j)) (fun j hj => by rw [← Sha.bit_row (Sha.rt p 2 k) (68 - k) j om hj (by rw [show 68 - k + 1 = 69 - k from by omega]; exact (Sha.rt_inv p 2 k om).1)]; (try dsimp only); by_cases e : j = (68 - k) / 64; (rw [if_pos e, if_pos e]); (rw [if_neg e, if_neg e]))
   have bh := Sha.rt_lt p 2 k om
   have bn := Sha.sq_lt (Sha.rt p 2 k + 2 ^ (68 - k)) (Sha.rt_lt p 2 k om)
   refine wp_region_lit (w_val (v := .agg (arr 4 (fun j => U64 (Sha.wn (Sha.rt p 2 k + 2 ^ (68 - k)) j)))) (y_lda (ex (pt av 0)) ShaNT.ag132 ShaNT.sz132 (fun j hj => by rw [Nat.zero_add]; exact (ac.cell om))) (w_val (v := .agg (arr 4 (fun j => U64 (Sha.wn (Sha.rt p 2 k + 2 ^ (68 - k)) j)))) (y_lda (ex (pt av 0)) ShaNT.ag132 ShaNT.sz132 (fun j hj => by rw [Nat.zero_add]; exact (ac.cell om))) (w_call (Tryz.func55) kr rfl (m2 ea ea) (times_c (Sha.rt p 2 k + 2 ^ (68 - k)) (Sha.rt p 2 k + 2 ^ (68 - k)) om be) ?_)))
   rintro _ bl ⟨rfl, au⟩
   refine ⟨_, rfl, ?_⟩
   replace aa := aa.step au
   replace ab := ab.step au
   replace ac := ac.step au
   replace hk := thenB hk au
   refine w_alloc (m := 4) (F := fun j => U64 (0#64)) kr ?_
   intro bb bm ae ad ap
   have am := aa.nb ae
   have a3 := ab.nb ae
   have ay := ac.nb ae
   have a9 := gb_ hk.size ae
   clear ae
   replace aa := aa.step ap
   replace ab := ab.step ap
   replace ac := ac.step ap
   replace hk := thenB hk ap
   refine w_sta (k := 4) (G := fun j => U64 (Sha.wn ((Sha.rt p 2 k + 2 ^ (68 - k)) * (Sha.rt p 2 k + 2 ^ (68 - k))) j)) (ex (pt bb 0)) ea oc ShaNT.sz132 ad om ?_
   clear ad; intro bf ad ar _
   replace ad := ad.congr (g := fun j => U64 (Sha.wn ((Sha.rt p 2 k + 2 ^ (68 - k)) * (Sha.rt p 2 k + 2 ^ (68 - k))) j)) (fun j hj => by rw [if_pos ⟨Nat.zero_le _, by omega⟩]; first | rfl | (simp only [Nat.sub_zero]))
   replace aa := aa.stepG ar om
   replace ab := ab.stepG ar om
   replace ac := ac.stepG ar om
   replace hk := thenG hk ar om
   refine nt (wp_seq (sr (w_mv (ei az) (w_val (y_bin ei Ev.c b_eql) (nt (c_ff eb (wp_skip (then_n (sr (w_val (v := .agg (arr 4 (fun j => U64 (Sha.wn ((Sha.rt p 2 k + 2 ^ (68 - k)) * (Sha.rt p 2 k + 2 ^ (68 - k))) j)))) (y_lda (ex (pt bb 0)) ShaNT.ag132 ShaNT.sz132 (fun j hj => by rw [Nat.zero_add]; exact (ad.cell om))) (w_val (v := .agg (arr 4 (fun j => U64 (Sha.wn (p * 2 ^ (64 * 2)) j)))) (y_lda (ex (pt ag 0) aw) ShaNT.ag132 ShaNT.sz132 (fun j hj => by rw [Nat.zero_add]; exact (aa.cell om))) (w_call (Tryz.func56) kr rfl (m2 ea ea) (above_c ((Sha.rt p 2 k + 2 ^ (68 - k)) * (Sha.rt p 2 k + 2 ^ (68 - k))) (p * 2 ^ (64 * 2)) om om bf) ?_))))))))))))
   rintro _ bo ⟨rfl, ak⟩
   refine ⟨_, rfl, ?_⟩
   replace aa := aa.step ak
   replace ab := ab.step ak
   replace ac := ac.step ak
   replace ad := ad.step ak
   replace hk := thenB hk ak
   refine w_val (y_notp eb) (nt ?_)
   refine c_if (p := ¬ ((p * 2 ^ (64 * 2)) < ((Sha.rt p 2 k + 2 ^ (68 - k)) * (Sha.rt p 2 k + 2 ^ (68 - k))))) eb (fun hc24 => ?_) (fun hc24 => ?_)
   ·skip
    refine wp_region_lit (w_val (v := .agg (arr 4 (fun j => U64 (Sha.wn (Sha.rt p 2 k + 2 ^ (68 - k)) j)))) (y_lda (ex (pt av 0)) ShaNT.ag132 ShaNT.sz132 (fun j hj => by rw [Nat.zero_add]; exact (ac.cell om))) (w_sta (k := 4) (G := fun j => U64 (Sha.wn (Sha.rt p 2 k + 2 ^ (68 - k)) j)) (ex (pt a4 0) al) ea oc ShaNT.sz132 ab om ?_))
    clear ab; intro bk ab aq _
    replace ab := ab.congr (g := fun j => U64 (Sha.wn (Sha.rt p 2 k + 2 ^ (68 - k)) j)) (fun j hj => by rw [if_pos ⟨Nat.zero_le _, by omega⟩]; first | rfl | (simp only [Nat.sub_zero]))
    replace aa := aa.stepG aq om
    replace ac := ac.stepG aq om
    replace ad := ad.stepG aq om
    replace hk := thenG hk aq om
    refine wpList_nil (inb_n (then_n (wp_region_lit (w_mv (ei aj) (w_val (y_bin ei Ev.c (b_sub om)) (w_as ei (wpList_nil ?_)))))))
    exact then_n ⟨_, om, k + 1, rfl, _, rfl, iv, az, a6, aw, al, (Eq.trans (b := .int .i64 ((68 - ((k : Nat) : Int)) - 1)) rfl (by congr 1; omega)), aa, (ab.congr (fun j hj => by first | exact congrArg U64 (congrArg (fun y => Sha.wn y j) (if_neg (by assumption)).symm) | exact congrArg U64 (congrArg (fun y => Sha.wn y j) (if_pos (Classical.not_not.1 (by assumption))).symm))), hk⟩
   ·skip
    refine wp_skip (inb_n (then_n (wp_region_lit (w_mv (ei aj) (w_val (y_bin ei Ev.c (b_sub om)) (w_as ei (wpList_nil ?_)))))))
    exact then_n ⟨_, om, k + 1, rfl, _, rfl, iv, az, a6, aw, al, (Eq.trans (b := .int .i64 ((68 - ((k : Nat) : Int)) - 1)) rfl (by congr 1; omega)), aa, (ab.congr (fun j hj => by first | exact congrArg U64 (congrArg (fun y => Sha.wn y j) (if_neg (by assumption)).symm) | exact congrArg U64 (congrArg (fun y => Sha.wn y j) (if_pos (Classical.not_not.1 (by assumption))).symm))), hk⟩
  ·skip
   refine wp_exit (then_x ?_)
   replace ab := ab.congr (g := fun j => U64 (Sha.wn (Sha.rt p 2 69) j)) (fun j hj => by rw [show k = 69 from by omega])
   refine then_x (inb_x (then_n (sr (w_val (y_ia1z (i := 0) (ex (pt a4 0) al) Ev.c Tryz.underlying132 ShaNT.sz92 om om) (w_val (v := U64 (Sha.wn (Sha.rt p 2 69) 0)) (y_ld (ex (pt a4 0)) ShaNT.sc92 (ab.val om rfl)) (w_as e6 (nt (wp_ret (fin_ret1 rfl e6 ?_)))))))))
   refine ⟨congrArg Ending.returned ?_, hk⟩
   show (U64 (Sha.wn (Sha.rt p 2 69) 0) : Value) = U64 (BitVec.ofNat 64 (Sha.rt p 2 69))
   unfold Sha.wn; simp

theorem root_3 (p : Nat) (hp : p < 2 ^ 16) (w0 : World) : Calls Tryz.prog 40 #[U64 (BitVec.ofNat 64 p), .int .i64 3] w0 fun e w' => e = .returned (U64 (BitVec.ofNat 64 (Sha.rt p 3 69))) ∧ Below w0.heap.size w0 w' := by
 refine enter (n := 45) Tryz.func40 rfl rfl rfl ?_
 have hk : Below w0.heap.size w0 w0 := Below.refl _ _
 refine sr (w_as (evc (U64 (0#64))) (nt (sr (w_alloc (m := 4) (F := fun j => U64 (0#64)) kr ?_))))
 intro ag w1 ah aa bf
 have a7 := gb_ hk.size ah
 clear ah
 replace hk := thenB hk bf
 refine nt (sr (w_mv ei (w_mv e6 (w_val (y_ia1z (i := 3) (ex (pt ag 0)) ei Tryz.underlying132 ShaNT.sz92 om om) (w_st (v := U64 (BitVec.ofNat 64 p)) (ex (pt ag 3)) e6 rfl rfl ShaNT.sz92 aa om ?_)))))
 clear aa; intro w3 aa bj _
 replace hk := thenG hk bj om
 refine nt (wp_seq ?_)
 replace aa := aa.congr (g := fun j => U64 (Sha.wn (p * 2 ^ (64 * 3)) j)) (fun j hj => by rw [← Sha.want_row p 3 j om om hj]; (try dsimp only); by_cases e : j = 3; (rw [if_pos e, if_pos e]); (rw [if_neg e, if_neg e]))
 refine wp_region_lit (w_alloc (m := 4) (F := fun j => U64 (0#64)) kr ?_)
 intro a6 w5 ai ab bd
 have ap := aa.nb ai
 have ba := gb_ hk.size ai
 clear ai
 replace aa := aa.step bd
 replace hk := thenB hk bd
 refine nt (wp_seq (sr (w_as Ev.c (nt (wp_block ?_)))))
 refine c_loop (fun dN aN wl => ∃ (k : Nat), dN = (69 - k) ∧ ∃ f7, aN = fr 45 f7 ∧ (k ≤ 69) ∧ f7 1 = .int .i64 3 ∧ f7 4 = U64 (0#64) ∧ f7 5 = pt ag 0 ∧ f7 6 = pt a6 0 ∧ f7 7 = .int .i64 (68 - ((k : Nat) : Int)) ∧ Row wl ag 132 4 (fun j => U64 (Sha.wn (p * 2 ^ (64 * 3)) j)) ∧ Row wl a6 132 4 (fun j => U64 (Sha.wn (Sha.rt p 3 k) j)) ∧ Below w0.heap.size w0 wl) (69 - 0) ?_ ?_
 · exact ⟨0, rfl, _, rfl, iv, rfl, rfl, rfl, rfl, (Eq.trans (b := .int .i64 68) rfl (by rfl)), aa, (ab.congr (fun j hj => by show U64 0#64 = U64 (Sha.wn 0 j); unfold Sha.wn; rw [Nat.zero_div])), hk⟩
 ·skip
  clear aa ab hk
  rintro _ _ w8 ⟨k, rfl, f7, rfl, be, a1, a8, ay, am, aj, aa, ab, hk⟩
  refine wp_seq (sr (w_mv (ei aj) (w_val (y_bin ei Ev.c b_geq) (nt ?_))))
  refine c_if (p := 0 ≤ (68 - ((k : Nat) : Int))) eb (fun hc9 => ?_) (fun hc9 => ?_)
  ·skip
   refine wp_skip (then_n (wp_seq (wp_block (sr (w_val (v := .agg (arr 4 (fun j => U64 (Sha.wn (Sha.rt p 3 k) j)))) (y_lda (ex (pt a6 0) am) ShaNT.ag132 ShaNT.sz132 (fun j hj => by rw [Nat.zero_add]; exact (ab.cell om))) (w_alloc (m := 4) (F := fun j => U64 (0#64)) kr ?_))))))
   intro ar bm af ac a2
   have ao := aa.nb af
   have a3 := ab.nb af
   have bb := gb_ hk.size af
   clear af
   replace aa := aa.step a2
   replace ab := ab.step a2
   replace hk := thenB hk a2
   refine w_sta (k := 4) (G := fun j => U64 (Sha.wn (Sha.rt p 3 k) j)) (ex (pt ar 0)) ea oc ShaNT.sz132 ac om ?_
   clear ac; intro bl ac az _
   replace ac := ac.congr (g := fun j => U64 (Sha.wn (Sha.rt p 3 k) j)) (fun j hj => by rw [if_pos ⟨Nat.zero_le _, by omega⟩]; first | rfl | (simp only [Nat.sub_zero]))
   replace aa := aa.stepG az om
   replace ab := ab.stepG az om
   replace hk := thenG hk az om
   refine nt (sr (w_mv (ei aj) (w_val (y_bin ei Ev.c (b_quo om)) (w_mv (ei aj) (w_val (y_bin ei Ev.c (b_quo om)) (w_val (y_ia1z (i := ((68 - k) / 64)) (ex (pt ar 0)) ei Tryz.underlying132 ShaNT.sz92 om om) (w_val (v := U64 (Sha.wn (Sha.rt p 3 k) ((68 - k) / 64))) (y_ld (ex (pt ar ((68 - k) / 64))) ShaNT.sc92 (ac.val om rfl)) (w_mv (ei aj) (w_val (y_bin ei Ev.c (b_rem om)) (w_val (y_nat_u64 (p := ((68 - k) % 64)) ei om ShaNT.so3 Tryz.underlying87) (w_val (y_bin (evc (U64 (1#64))) e6 (shl64 (c := ((68 - k) % 64)) (by rw [BitVec.toNat_ofNat]; omega))) (w_val (y_bin e6 e6 or64) (w_val (y_ia1z (i := ((68 - k) / 64)) (ex (pt ar 0)) ei Tryz.underlying132 ShaNT.sz92 om om) (w_st (v := U64 ((Sha.wn (Sha.rt p 3 k) ((68 - k) / 64)) ||| ((1#64) <<< ((68 - k) % 64)))) (ex (pt ar ((68 - k) / 64))) e6 rfl rfl ShaNT.sz92 ac om ?_))))))))))))))
   clear ac; intro bg ac a4 _
   replace aa := aa.stepG a4 om
   replace ab := ab.stepG a4 om
   replace hk := thenG hk a4 om
   refine nt (wp_seq ?_)
   replace ac := ac.congr (g := fun j => U64 (Sha.wn (Sha.rt p 3 k + 2 ^ (68 - k)) j)) (fun j hj => by rw [← Sha.bit_row (Sha.rt p 3 k) (68 - k) j om hj (by rw [show 68 - k + 1 = 69 - k from by omega]; exact (Sha.rt_inv p 3 k om).1)]; (try dsimp only); by_cases e : j = (68 - k) / 64; (rw [if_pos e, if_pos e]); (rw [if_neg e, if_neg e]))
   have bk := Sha.rt_lt p 3 k om
   have br := Sha.sq_lt (Sha.rt p 3 k + 2 ^ (68 - k)) (Sha.rt_lt p 3 k om)
   refine wp_region_lit (w_val (v := .agg (arr 4 (fun j => U64 (Sha.wn (Sha.rt p 3 k + 2 ^ (68 - k)) j)))) (y_lda (ex (pt ar 0)) ShaNT.ag132 ShaNT.sz132 (fun j hj => by rw [Nat.zero_add]; exact (ac.cell om))) (w_val (v := .agg (arr 4 (fun j => U64 (Sha.wn (Sha.rt p 3 k + 2 ^ (68 - k)) j)))) (y_lda (ex (pt ar 0)) ShaNT.ag132 ShaNT.sz132 (fun j hj => by rw [Nat.zero_add]; exact (ac.cell om))) (w_call (Tryz.func55) kr rfl (m2 ea ea) (times_c (Sha.rt p 3 k + 2 ^ (68 - k)) (Sha.rt p 3 k + 2 ^ (68 - k)) om bg) ?_)))
   rintro _ bp ⟨rfl, ax⟩
   refine ⟨_, rfl, ?_⟩
   replace aa := aa.step ax
   replace ab := ab.step ax
   replace ac := ac.step ax
   replace hk := thenB hk ax
   refine w_alloc (m := 4) (F := fun j => U64 (0#64)) kr ?_
   intro a9 bq ae ad aq
   have an := aa.nb ae
   have a5 := ab.nb ae
   have a0 := ac.nb ae
   have bc := gb_ hk.size ae
   clear ae
   replace aa := aa.step aq
   replace ab := ab.step aq
   replace ac := ac.step aq
   replace hk := thenB hk aq
   refine w_sta (k := 4) (G := fun j => U64 (Sha.wn ((Sha.rt p 3 k + 2 ^ (68 - k)) * (Sha.rt p 3 k + 2 ^ (68 - k))) j)) (ex (pt a9 0)) ea oc ShaNT.sz132 ad om ?_
   clear ad; intro bi ad av _
   replace ad := ad.congr (g := fun j => U64 (Sha.wn ((Sha.rt p 3 k + 2 ^ (68 - k)) * (Sha.rt p 3 k + 2 ^ (68 - k))) j)) (fun j hj => by rw [if_pos ⟨Nat.zero_le _, by omega⟩]; first | rfl | (simp only [Nat.sub_zero]))
   replace aa := aa.stepG av om
   replace ab := ab.stepG av om
   replace ac := ac.stepG av om
   replace hk := thenG hk av om
   refine nt (wp_seq (sr (w_mv (ei a1) (w_val (y_bin ei Ev.c b_eql) (nt (c_tt eb (wp_region_lit (w_val (v := .agg (arr 4 (fun j => U64 (Sha.wn ((Sha.rt p 3 k + 2 ^ (68 - k)) * (Sha.rt p 3 k + 2 ^ (68 - k))) j)))) (y_lda (ex (pt a9 0)) ShaNT.ag132 ShaNT.sz132 (fun j hj => by rw [Nat.zero_add]; exact (ad.cell om))) (w_val (v := .agg (arr 4 (fun j => U64 (Sha.wn (Sha.rt p 3 k + 2 ^ (68 - k)) j)))) (y_lda (ex (pt ar 0)) ShaNT.ag132 ShaNT.sz132 (fun j hj => by rw [Nat.zero_add]; exact (ac.cell om))) (w_call (Tryz.func55) kr rfl (m2 ea ea) (times_c ((Sha.rt p 3 k + 2 ^ (68 - k)) * (Sha.rt p 3 k + 2 ^ (68 - k))) (Sha.rt p 3 k + 2 ^ (68 - k)) om bi) ?_))))))))))
   rintro _ bs ⟨rfl, ak⟩
   refine ⟨_, rfl, ?_⟩
   replace aa := aa.step ak
   replace ab := ab.step ak
   replace ac := ac.step ak
   replace ad := ad.step ak
   replace hk := thenB hk ak
   refine w_sta (k := 4) (G := fun j => U64 (Sha.wn (((Sha.rt p 3 k + 2 ^ (68 - k)) * (Sha.rt p 3 k + 2 ^ (68 - k))) * (Sha.rt p 3 k + 2 ^ (68 - k))) j)) (ex (pt a9 0)) ea oc ShaNT.sz132 ad om ?_
   clear ad; intro bh ad aw _
   replace ad := ad.congr (g := fun j => U64 (Sha.wn (((Sha.rt p 3 k + 2 ^ (68 - k)) * (Sha.rt p 3 k + 2 ^ (68 - k))) * (Sha.rt p 3 k + 2 ^ (68 - k))) j)) (fun j hj => by rw [if_pos ⟨Nat.zero_le _, by omega⟩]; first | rfl | (simp only [Nat.sub_zero]))
   replace aa := aa.stepG aw om
   replace ab := ab.stepG aw om
   replace ac := ac.stepG aw om
   replace hk := thenG hk aw om
   refine nt (sr (w_val (v := .agg (arr 4 (fun j => U64 (Sha.wn (((Sha.rt p 3 k + 2 ^ (68 - k)) * (Sha.rt p 3 k + 2 ^ (68 - k))) * (Sha.rt p 3 k + 2 ^ (68 - k))) j)))) (y_lda (ex (pt a9 0)) ShaNT.ag132 ShaNT.sz132 (fun j hj => by rw [Nat.zero_add]; exact (ad.cell om))) (w_val (v := .agg (arr 4 (fun j => U64 (Sha.wn (p * 2 ^ (64 * 3)) j)))) (y_lda (ex (pt ag 0) ay) ShaNT.ag132 ShaNT.sz132 (fun j hj => by rw [Nat.zero_add]; exact (aa.cell om))) (w_call (Tryz.func56) kr rfl (m2 ea ea) (above_c (((Sha.rt p 3 k + 2 ^ (68 - k)) * (Sha.rt p 3 k + 2 ^ (68 - k))) * (Sha.rt p 3 k + 2 ^ (68 - k))) (p * 2 ^ (64 * 3)) om om bh) ?_))))
   rintro _ bn ⟨rfl, al⟩
   refine ⟨_, rfl, ?_⟩
   replace aa := aa.step al
   replace ab := ab.step al
   replace ac := ac.step al
   replace ad := ad.step al
   replace hk := thenB hk al
   refine w_val (y_notp eb) (nt ?_)
   refine c_if (p := ¬ ((p * 2 ^ (64 * 3)) < (((Sha.rt p 3 k + 2 ^ (68 - k)) * (Sha.rt p 3 k + 2 ^ (68 - k))) * (Sha.rt p 3 k + 2 ^ (68 - k))))) eb (fun hc28 => ?_) (fun hc28 => ?_)
   ·skip
    refine wp_region_lit (w_val (v := .agg (arr 4 (fun j => U64 (Sha.wn (Sha.rt p 3 k + 2 ^ (68 - k)) j)))) (y_lda (ex (pt ar 0)) ShaNT.ag132 ShaNT.sz132 (fun j hj => by rw [Nat.zero_add]; exact (ac.cell om))) (w_sta (k := 4) (G := fun j => U64 (Sha.wn (Sha.rt p 3 k + 2 ^ (68 - k)) j)) (ex (pt a6 0) am) ea oc ShaNT.sz132 ab om ?_))
    clear ab; intro bo ab au _
    replace ab := ab.congr (g := fun j => U64 (Sha.wn (Sha.rt p 3 k + 2 ^ (68 - k)) j)) (fun j hj => by rw [if_pos ⟨Nat.zero_le _, by omega⟩]; first | rfl | (simp only [Nat.sub_zero]))
    replace aa := aa.stepG au om
    replace ac := ac.stepG au om
    replace ad := ad.stepG au om
    replace hk := thenG hk au om
    refine wpList_nil (inb_n (then_n (wp_region_lit (w_mv (ei aj) (w_val (y_bin ei Ev.c (b_sub om)) (w_as ei (wpList_nil ?_)))))))
    exact then_n ⟨_, om, k + 1, rfl, _, rfl, iv, a1, a8, ay, am, (Eq.trans (b := .int .i64 ((68 - ((k : Nat) : Int)) - 1)) rfl (by congr 1; omega)), aa, (ab.congr (fun j hj => by first | exact congrArg U64 (congrArg (fun y => Sha.wn y j) (if_neg (by assumption)).symm) | exact congrArg U64 (congrArg (fun y => Sha.wn y j) (if_pos (Classical.not_not.1 (by assumption))).symm))), hk⟩
   ·skip
    refine wp_skip (inb_n (then_n (wp_region_lit (w_mv (ei aj) (w_val (y_bin ei Ev.c (b_sub om)) (w_as ei (wpList_nil ?_)))))))
    exact then_n ⟨_, om, k + 1, rfl, _, rfl, iv, a1, a8, ay, am, (Eq.trans (b := .int .i64 ((68 - ((k : Nat) : Int)) - 1)) rfl (by congr 1; omega)), aa, (ab.congr (fun j hj => by first | exact congrArg U64 (congrArg (fun y => Sha.wn y j) (if_neg (by assumption)).symm) | exact congrArg U64 (congrArg (fun y => Sha.wn y j) (if_pos (Classical.not_not.1 (by assumption))).symm))), hk⟩
  ·skip
   refine wp_exit (then_x ?_)
   replace ab := ab.congr (g := fun j => U64 (Sha.wn (Sha.rt p 3 69) j)) (fun j hj => by rw [show k = 69 from by omega])
   refine then_x (inb_x (then_n (sr (w_val (y_ia1z (i := 0) (ex (pt a6 0) am) Ev.c Tryz.underlying132 ShaNT.sz92 om om) (w_val (v := U64 (Sha.wn (Sha.rt p 3 69) 0)) (y_ld (ex (pt a6 0)) ShaNT.sc92 (ab.val om rfl)) (w_as e6 (nt (wp_ret (fin_ret1 rfl e6 ?_)))))))))
   refine ⟨congrArg Ending.returned ?_, hk⟩
   show (U64 (Sha.wn (Sha.rt p 3 69) 0) : Value) = U64 (BitVec.ofNat 64 (Sha.rt p 3 69))
   unfold Sha.wn; simp
end Go.Proofs.YtdmbfimjbmfbaaaGreatDoor
