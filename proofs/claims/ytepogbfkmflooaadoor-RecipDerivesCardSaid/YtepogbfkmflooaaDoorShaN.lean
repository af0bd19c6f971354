/-
  Numbers and roots of the reference. Conditions as each says.
-/
import Derived.Test.YtepogbfkmflooaaDoorRows
import Derived.Test.YtepogbfkmflooaaDoorGenMore
import Derived.Test.YtepogbfkmflooaaDoorShaRoot
import Derived.Test.YtepogbfkmflooaaDoorGenSh
import Derived.ProofKit
namespace Go.Proofs.YtepogbfkmflooaaDoor
open Go.RowKit
set_option linter.unusedSimpArgs false
set_option linter.unusedVariables false
set_option maxRecDepth 100000
set_option maxHeartbeats 1000000
namespace ShaNT
theorem mixed : Tryd.prog.follows .mixedOrders = true := by kernel_rfl
theorem ag139 : (Tryd.prog.underlying 139).map isAggD = some true := by rw [Tryd.underlying139]; rfl
theorem sc58 : (Tryd.prog.underlying 58).map scal = some true := by rw [Tryd.underlying58]; rfl
theorem so3 : (Tryd.prog.underlying 3).isSome = true := by rw [Tryd.underlying3]; rfl
theorem sz139 : (Tryd.prog.info? 139).map (·.size) = some 4 := by kernel_rfl
theorem sz58 : (Tryd.prog.info? 58).map (·.size) = some 1 := by kernel_rfl
end ShaNT
theorem half_c (X i : Nat) (hi : i < 8) (w0 : World) : Calls Tryd.prog 92 #[.agg (arr 4 (fun j => U64 (Sha.wn X j))), .int .i64 ((i : Nat) : Int)] w0 fun e w' => e = .returned (U64 (BitVec.ofNat 64 (Sha.hf X i))) ∧ Below w0.heap.size w0 w' := by
 refine enter (n := 18) Tryd.func92 rfl rfl rfl ?_
 have hk : Below w0.heap.size w0 w0 := Below.refl _ _
 refine sr (w_box (m := 4) (F := fun j => U64 (Sha.wn X j)) ea rfl ?_)
 intro b_a w1 hbe_b_a r_b_a hb2
 have ge_b_a := gb_ hk.size hbe_b_a
 clear hbe_b_a
 replace hk := thenB hk hb2
 refine w_as (evc (U64 (0#64))) (nt (wp_seq (sr (w_mv ei (w_val (y_bin ei Ev.c (b_rem om)) (w_val (y_bin ei Ev.c b_eql) (nt ?_)))))))
 refine c_if (p := (((i : Nat) : Int) % 2) = 1) eb (fun hc3 => ?_) (fun hc3 => ?_)
 ·skip
  refine sr (w_mv ei (w_val (y_bin ei Ev.c (b_quo om)) (w_val (y_ia1z (i := (i / 2)) (ex (pt b_a 0)) ei Tryd.underlying139 ShaNT.sz58 om om) (w_val (v := U64 (Sha.wn X (i / 2))) (y_ld (ex (pt b_a (i / 2))) ShaNT.sc58 (r_b_a.val om rfl)) (w_val (y_bin e6 (evc (.int .u64 32)) (shr64 (c := 32) rfl)) (w_as e6 (nt (wp_ret (then_r (fin_ret1 rfl e6 ?_))))))))))
  refine ⟨congrArg Ending.returned ?_, hk⟩
  show (U64 ((Sha.wn X (i / 2)) >>> 32) : Value) = U64 (BitVec.ofNat 64 (Sha.hf X i))
  first | exact congrArg U64 (Sha.half_hi X i _ om) | exact congrArg U64 (Sha.half_lo X i _ om)
 ·skip
  refine wp_skip (then_n (sr (w_mv ei (w_val (y_bin ei Ev.c (b_quo om)) (w_val (y_ia1z (i := (i / 2)) (ex (pt b_a 0)) ei Tryd.underlying139 ShaNT.sz58 om om) (w_val (v := U64 (Sha.wn X (i / 2))) (y_ld (ex (pt b_a (i / 2))) ShaNT.sc58 (r_b_a.val om rfl)) (w_val (y_bin e6 (evc (U64 (4294967296#64))) (rem64 (by decide))) (w_as e6 (nt (wp_ret (fin_ret1 rfl e6 ?_)))))))))))
  refine ⟨congrArg Ending.returned ?_, hk⟩
  show (U64 ((Sha.wn X (i / 2)) % (4294967296#64)) : Value) = U64 (BitVec.ofNat 64 (Sha.hf X i))
  first | exact congrArg U64 (Sha.half_hi X i _ om) | exact congrArg U64 (Sha.half_lo X i _ om)

theorem times_c (X Y : Nat) (hX : X < 2 ^ 256) (w0 : World) : Calls Tryd.prog 76 #[.agg (arr 4 (fun j => U64 (Sha.wn X j))), .agg (arr 4 (fun j => U64 (Sha.wn Y j)))] w0 fun e w' => e = .returned (.agg (arr 4 (fun j => U64 (Sha.wn (X * Y) j)))) ∧ Below w0.heap.size w0 w' := by
 refine enter (n := 63) Tryd.func76 rfl rfl rfl ?_
 have hk : Below w0.heap.size w0 w0 := Below.refl _ _
 refine sr (w_box (m := 4) (F := fun j => U64 (Sha.wn X j)) ea rfl ?_)
 intro b_a w1 hbe_b_a r_b_a hb2
 have ge_b_a := gb_ hk.size hbe_b_a
 clear hbe_b_a
 replace hk := thenB hk hb2
 refine w_box (m := 4) (F := fun j => U64 (Sha.wn Y j)) ea rfl ?_
 intro b_b w3 hbe_b_b r_b_b hb4
 have ne_b_a_b_b := r_b_a.nb hbe_b_b
 have ge_b_b := gb_ hk.size hbe_b_b
 clear hbe_b_b
 replace r_b_a := r_b_a.step hb4
 replace hk := thenB hk hb4
 refine w_alloc (m := 4) (F := fun j => U64 (0#64)) kr ?_
 intro b_4 w5 hbe_b_4 r_b_4 hb6
 have ne_b_a_b_4 := r_b_a.nb hbe_b_4
 have ne_b_b_b_4 := r_b_b.nb hbe_b_4
 have ge_b_4 := gb_ hk.size hbe_b_4
 clear hbe_b_4
 replace r_b_a := r_b_a.step hb6
 replace r_b_b := r_b_b.step hb6
 replace hk := thenB hk hb6
 refine nt (sr (w_alloc (m := 8) (F := fun j => U64 (0#64)) kr ?_))
 intro b_out w7 hbe_b_out r_b_out hb8
 have ne_b_a_b_out := r_b_a.nb hbe_b_out
 have ne_b_b_b_out := r_b_b.nb hbe_b_out
 have ne_b_4_b_out := r_b_4.nb hbe_b_out
 have ge_b_out := gb_ hk.size hbe_b_out
 clear hbe_b_out
 replace r_b_a := r_b_a.step hb8
 replace r_b_b := r_b_b.step hb8
 replace r_b_4 := r_b_4.step hb8
 replace hk := thenB hk hb8
 refine nt (wp_seq (sr (w_as Ev.c (nt (wp_block ?_)))))
 refine c_loop (fun dN aN wl => ∃ (i : Nat) (o : Nat → Nat), dN = (8 - i) ∧ ∃ f9, aN = fr 63 f9 ∧ (i ≤ 8) ∧ (∀ j, j < 8 → o j < 2 ^ 32) ∧ (Sha.s8 o = X % 2 ^ (32 * i) * Y % 2 ^ 256) ∧ f9 2 = pt b_a 0 ∧ f9 3 = pt b_b 0 ∧ f9 4 = pt b_4 0 ∧ f9 5 = pt b_out 0 ∧ f9 6 = .int .i64 ((i : Nat) : Int) ∧ Row wl b_a 139 4 (fun j => U64 (Sha.wn X j)) ∧ Row wl b_b 139 4 (fun j => U64 (Sha.wn Y j)) ∧ Row wl b_4 139 4 (fun j => U64 (0#64)) ∧ Row wl b_out 88 8 (fun j => U64 (BitVec.ofNat 64 (o j))) ∧ Below w0.heap.size w0 wl) (8 - 0) ?_ ?_
 · exact ⟨0, fun _ => 0, rfl, _, rfl, iv, (by intro j _; exact (by decide : 0 < 2 ^ 32)), (by simp [Sha.s8, Nat.mod_one]), rfl, rfl, rfl, rfl, ti, r_b_a, r_b_b, r_b_4, (r_b_out.congr (fun j hj => by rfl)), hk⟩
 ·skip
  clear r_b_a r_b_b r_b_4 r_b_out hk
  rintro _ _ w10 ⟨i, o, rfl, f9, rfl, i1_0, i1_1, i1_2, s1_2, s1_3, s1_4, s1_5, s1_6, r_b_a, r_b_b, r_b_4, r_b_out, hk⟩
  refine wp_seq (sr (w_mv (ei s1_6) (w_val (y_bin ei Ev.c b_lss) (nt ?_))))
  refine c_if (p := ((i : Nat) : Int) < 8) eb (fun hc11 => ?_) (fun hc11 => ?_)
  ·skip
   refine wp_skip (then_n (wp_seq (wp_block (sr (w_as (evc (U64 (0#64))) (nt (sr (w_as Ev.c (nt (wp_block ?_))))))))))
   refine c_loop (fun dN aN wl => ∃ (k : Nat) (c : Nat) (o : Nat → Nat), dN = (8 - k) ∧ ∃ f12, aN = fr 63 f12 ∧ (i + k ≤ 8) ∧ (c < 2 ^ 32) ∧ (∀ j, j < 8 → o j < 2 ^ 32) ∧ ((Sha.s8 o + c * 2 ^ (32 * (i + k))) % 2 ^ 256 = (X % 2 ^ (32 * i) * Y + Sha.hf X i * 2 ^ (32 * i) * (Y % 2 ^ (32 * k))) % 2 ^ 256) ∧ f12 2 = pt b_a 0 ∧ f12 3 = pt b_b 0 ∧ f12 4 = pt b_4 0 ∧ f12 5 = pt b_out 0 ∧ f12 6 = .int .i64 ((i : Nat) : Int) ∧ f12 7 = U64 (BitVec.ofNat 64 c) ∧ f12 8 = .int .i64 ((k : Nat) : Int) ∧ Row wl b_a 139 4 (fun j => U64 (Sha.wn X j)) ∧ Row wl b_b 139 4 (fun j => U64 (Sha.wn Y j)) ∧ Row wl b_4 139 4 (fun j => U64 (0#64)) ∧ Row wl b_out 88 8 (fun j => U64 (BitVec.ofNat 64 (o j))) ∧ Below w0.heap.size w0 wl) (8 - 0) ?_ ?_
   · exact ⟨0, 0, o, rfl, _, rfl, iv, (by decide), (by exact i1_1), (by exact Sha.tm_first X Y i o i1_2), s1_2, s1_3, s1_4, s1_5, s1_6, (Eq.trans (b := U64 (0#64)) rfl (by rfl)), ti, r_b_a, r_b_b, r_b_4, (r_b_out.congr (fun j hj => by rfl)), hk⟩
   ·skip
    clear r_b_a r_b_b r_b_4 r_b_out hk
    rintro _ _ w13 ⟨k, c, o, rfl, f12, rfl, i2_0, i2_1, i2_2, i2_3, s2_2, s2_3, s2_4, s2_5, s2_6, s2_7, s2_8, r_b_a, r_b_b, r_b_4, r_b_out, hk⟩
    have hxl : i + k < 8 → (Sha.hf X i * Sha.hf Y k + o (i + k) + c) < 2 ^ 64 := fun h => Sha.x_lt _ _ _ _ (Sha.hf_lt X i) (Sha.hf_lt Y k) (i2_2 (i + k) h) i2_1
    refine wp_seq (sr (w_mv (ei s2_6) (w_mv (ei s2_8) (w_val (y_bin ei ei (b_add om)) (w_val (y_bin ei Ev.c b_lss) (nt ?_))))))
    refine c_if (p := (((i : Nat) : Int) + ((k : Nat) : Int)) < 8) eb (fun hc14 => ?_) (fun hc14 => ?_)
    ·skip
     refine wp_skip (then_n (wp_seq (wp_block (wp_seq ?_))))
     have hxl := hxl om
     refine region_q ShaNT.mixed kr (q_val (v := .agg (arr 4 (fun j => U64 (Sha.wn X j)))) (fun w' hw' => y_lda (ex (pt b_a 0) s2_2) ShaNT.ag139 ShaNT.sz139 (fun j hj => by rw [Nat.zero_add]; exact (cls_cell (r_b_a.cell om) r_b_a.lt w' hw'))) (q_mv (ei s2_6) (q_call (v := U64 (BitVec.ofNat 64 (Sha.hf X i))) (Tryd.func92) kr rfl (m2 ea ei) (fun w' hw' => half_c X i om w') (q_val (v := .agg (arr 4 (fun j => U64 (Sha.wn Y j)))) (fun w' hw' => y_lda (ex (pt b_b 0) s2_3) ShaNT.ag139 ShaNT.sz139 (fun j hj => by rw [Nat.zero_add]; exact (cls_cell (r_b_b.cell om) r_b_b.lt w' hw'))) (q_mv (ei s2_8) (q_call (v := U64 (BitVec.ofNat 64 (Sha.hf Y k))) (Tryd.func92) kr rfl (m2 ea ei) (fun w' hw' => half_c Y k om w') (q_val (fun w' hw' => y_bin e6 e6 mul64) (q_mv (ei s2_6) (q_mv (ei s2_8) (q_val (fun w' hw' => y_bin ei ei (b_add om)) (q_val (fun w' hw' => y_ia1z (i := (i + k)) (ex (pt b_out 0) s2_5) ei Tryd.underlying88 ShaNT.sz58 om om) (q_val (v := U64 (BitVec.ofNat 64 (o (i + k)))) (fun w' hw' => y_ld (ex (pt b_out (i + k))) ShaNT.sc58 (cls_cell (r_b_out.val om rfl) r_b_out.lt w' hw')) (q_val (fun w' hw' => y_bin e6 e6 add64) (q_mv (e6 s2_7) (q_val (fun w' hw' => y_bin e6 e6 add64) (q_as e6 (q_nil ?_)))))))))))))))))
     intro w15 hb16
     replace r_b_a := r_b_a.step hb16
     replace r_b_b := r_b_b.step hb16
     replace r_b_4 := r_b_4.step hb16
     replace r_b_out := r_b_out.step hb16
     replace hk := thenB hk hb16
     refine then_n (sr (w_mv (ei s2_6) (w_mv (ei s2_8) (w_val (y_bin ei ei (b_add om)) (w_mv (ex (U64 (BitVec.ofNat 64 (Sha.hf X i * Sha.hf Y k + o (i + k) + c))) (Eq.trans (b := U64 ((((BitVec.ofNat 64 (Sha.hf X i)) * (BitVec.ofNat 64 (Sha.hf Y k))) + (BitVec.ofNat 64 (o (i + k)))) + (BitVec.ofNat 64 c))) rfl (by exact congrArg U64 (Sha.prod_word _ _ _ _ hxl)))) (w_val (y_bin e6 (evc (U64 (4294967296#64))) (rem64 (by decide))) (w_val (y_ia1z (i := (i + k)) (ex (pt b_out 0) s2_5) ei Tryd.underlying88 ShaNT.sz58 om om) (w_st (v := U64 ((BitVec.ofNat 64 (Sha.hf X i * Sha.hf Y k + o (i + k) + c)) % (4294967296#64))) (ex (pt b_out (i + k))) e6 rfl rfl ShaNT.sz58 r_b_out om ?_))))))))
     clear r_b_out; intro w17 r_b_out hg18 _
     replace r_b_a := r_b_a.stepG hg18 om
     replace r_b_b := r_b_b.stepG hg18 om
     replace r_b_4 := r_b_4.stepG hg18 om
     replace hk := thenG hk hg18 om
     refine nt (wp_region_lit (w_mv (ex (U64 (BitVec.ofNat 64 (Sha.hf X i * Sha.hf Y k + o (i + k) + c))) (Eq.trans (b := U64 ((((BitVec.ofNat 64 (Sha.hf X i)) * (BitVec.ofNat 64 (Sha.hf Y k))) + (BitVec.ofNat 64 (o (i + k)))) + (BitVec.ofNat 64 c))) rfl (by exact congrArg U64 (Sha.prod_word _ _ _ _ hxl)))) (w_val (y_bin e6 (evc (.int .u64 32)) (shr64 (c := 32) rfl)) (w_as e6 (wpList_nil (inb_n (then_n (wp_region_lit (w_mv (ei s2_8) (w_val (y_bin ei Ev.c (b_add om)) (w_as ei (wpList_nil ?_))))))))))))
     exact then_n ⟨_, om, k + 1, (Sha.hf X i * Sha.hf Y k + o (i + k) + c) / 2 ^ 32, fun j => if j = i + k then (Sha.hf X i * Sha.hf Y k + o (i + k) + c) % 2 ^ 32 else o j, rfl, _, rfl, iv, (by exact Nat.div_lt_of_lt_mul (by have := hxl; omega)), (by intro j hj; (try dsimp only); split; exact Nat.mod_lt _ (by decide); exact i2_2 j hj), (by exact Sha.tm_step X Y i k c o om i2_3), s2_2, s2_3, s2_4, s2_5, s2_6, (Eq.trans (b := U64 ((BitVec.ofNat 64 (Sha.hf X i * Sha.hf Y k + o (i + k) + c)) >>> 32)) rfl (by exact congrArg U64 (Sha.high_word _ hxl))), ti, r_b_a, r_b_b, r_b_4, (r_b_out.congr (fun j hj => by (try dsimp only); by_cases e : j = i + k; (rw [if_pos e, if_pos e]; exact congrArg U64 (Sha.low_word _ hxl)); (rw [if_neg e, if_neg e]))), hk⟩
    ·skip
     refine wp_exit (then_x (then_x (inb_x (inb_n (then_n (wp_region_lit (w_mv (ei s2_6) (w_val (y_bin ei Ev.c (b_add om)) (w_as ei (wpList_nil ?_))))))))))
     exact then_n ⟨_, om, i + 1, o, rfl, _, rfl, iv, (by exact i2_2), (by exact Sha.tm_row X Y i k c o om i2_2 i2_3), s2_2, s2_3, s2_4, s2_5, ti, r_b_a, r_b_b, r_b_4, r_b_out, hk⟩
  ·skip
   refine wp_exit (then_x (then_x (inb_x (then_n (sr (w_alloc (m := 4) (F := fun j => U64 (0#64)) kr ?_))))))
   intro b_all w19 hbe_b_all r_b_all hb20
   have ne_b_a_b_all := r_b_a.nb hbe_b_all
   have ne_b_b_b_all := r_b_b.nb hbe_b_all
   have ne_b_4_b_all := r_b_4.nb hbe_b_all
   have ne_b_out_b_all := r_b_out.nb hbe_b_all
   have ge_b_all := gb_ hk.size hbe_b_all
   clear hbe_b_all
   replace r_b_a := r_b_a.step hb20
   replace r_b_b := r_b_b.step hb20
   replace r_b_4 := r_b_4.step hb20
   replace r_b_out := r_b_out.step hb20
   replace hk := thenB hk hb20
   refine nt (wp_seq (sr (w_as Ev.c (nt (wp_block ?_)))))
   refine c_loop (fun dN aN wl => ∃ (q : Nat), dN = (4 - q) ∧ ∃ f21, aN = fr 63 f21 ∧ (q ≤ 4) ∧ f21 4 = pt b_4 0 ∧ f21 5 = pt b_out 0 ∧ f21 10 = pt b_all 0 ∧ f21 11 = .int .i64 ((q : Nat) : Int) ∧ Row wl b_a 139 4 (fun j => U64 (Sha.wn X j)) ∧ Row wl b_b 139 4 (fun j => U64 (Sha.wn Y j)) ∧ Row wl b_4 139 4 (fun j => U64 (0#64)) ∧ Row wl b_out 88 8 (fun j => U64 (BitVec.ofNat 64 (o j))) ∧ Row wl b_all 139 4 (fun j => if j < q then (fun j => U64 (Sha.wn (X * Y) j)) j else (fun j => U64 (0#64)) j) ∧ Below w0.heap.size w0 wl) (4 - 0) ?_ ?_
   · exact ⟨0, rfl, _, rfl, iv, s1_4, s1_5, rfl, ti, r_b_a, r_b_b, r_b_4, r_b_out, (r_b_all.cg), hk⟩
   ·skip
    clear r_b_a r_b_b r_b_4 r_b_out r_b_all hk
    rintro _ _ w22 ⟨q, rfl, f21, rfl, i3_0, s3_4, s3_5, s3_10, s3_11, r_b_a, r_b_b, r_b_4, r_b_out, r_b_all, hk⟩
    refine wp_seq (sr (w_mv (ei s3_11) (w_val (y_bin ei Ev.c b_lss) (nt ?_))))
    refine c_if (p := ((q : Nat) : Int) < 4) eb (fun hc23 => ?_) (fun hc23 => ?_)
    ·skip
     refine wp_skip (then_n (wp_seq (wp_block (region_t 13 ShaNT.mixed kr ?_))))
     simp only [List.take_succ_cons, List.take_zero, List.drop_succ_cons, List.drop_zero]
     refine q_mv (ei s3_11) (q_mv (ei s3_11) (q_val (fun w' hw' => y_bin Ev.c ei (b_mul om)) (q_val (fun w' hw' => y_ia1z (i := (2 * q)) (ex (pt b_out 0) s3_5) ei Tryd.underlying88 ShaNT.sz58 om om) (q_val (v := U64 (BitVec.ofNat 64 (o (2 * q)))) (fun w' hw' => y_ld (ex (pt b_out (2 * q))) ShaNT.sc58 (cls_cell (r_b_out.val om rfl) r_b_out.lt w' hw')) (q_mv (ei s3_11) (q_val (fun w' hw' => y_bin Ev.c ei (b_mul om)) (q_val (fun w' hw' => y_bin ei Ev.c (b_add om)) (q_val (fun w' hw' => y_ia1z (i := ((2 * q) + 1)) (ex (pt b_out 0) s3_5) ei Tryd.underlying88 ShaNT.sz58 om om) (q_val (v := U64 (BitVec.ofNat 64 (o ((2 * q) + 1)))) (fun w' hw' => y_ld (ex (pt b_out ((2 * q) + 1))) ShaNT.sc58 (cls_cell (r_b_out.val om rfl) r_b_out.lt w' hw')) (q_val (fun w' hw' => y_bin e6 (evc (.int .u64 32)) (shl64 (c := 32) rfl)) (q_val (fun w' hw' => y_bin e6 e6 add64) (q_val (fun w' hw' => y_ia1z (i := q) (ex (pt b_all 0) s3_10) ei Tryd.underlying139 ShaNT.sz58 om om) (q_nil ?_)))))))))))))
     intro w24 hb25
     replace r_b_a := r_b_a.step hb25
     replace r_b_b := r_b_b.step hb25
     replace r_b_4 := r_b_4.step hb25
     replace r_b_out := r_b_out.step hb25
     replace r_b_all := r_b_all.step hb25
     replace hk := thenB hk hb25
     refine w_st (v := U64 ((BitVec.ofNat 64 (o (2 * q))) + ((BitVec.ofNat 64 (o ((2 * q) + 1))) <<< 32))) (ex (pt b_all q)) e6 rfl rfl ShaNT.sz58 r_b_all om ?_
     clear r_b_all; intro w26 r_b_all hg27 _
     replace r_b_a := r_b_a.stepG hg27 om
     replace r_b_b := r_b_b.stepG hg27 om
     replace r_b_4 := r_b_4.stepG hg27 om
     replace r_b_out := r_b_out.stepG hg27 om
     replace hk := thenG hk hg27 om
     refine wpList_nil (inb_n (then_n (wp_region_lit (w_mv (ei s3_11) (w_val (y_bin ei Ev.c (b_add om)) (w_as ei (wpList_nil ?_)))))))
     exact then_n ⟨_, om, q + 1, rfl, _, rfl, iv, s3_4, s3_5, s3_10, ti, r_b_a, r_b_b, r_b_4, r_b_out, (r_b_all.congr (fun j hj => by (try dsimp only); by_cases e : j = q; (rw [if_pos e, if_pos om, e]; exact congrArg U64 (Sha.tm_word X Y q o om hX i1_1 (by rw [i1_2, show i = 8 from by omega]))); (rw [if_neg e]; by_cases e2 : j < q; (rw [if_pos e2]; exact (if_pos om).symm); (rw [if_neg e2]; exact (if_neg om).symm)))), hk⟩
    ·skip
     refine wp_exit (then_x ?_)
     replace r_b_all := r_b_all.congr (g := fun j => U64 (Sha.wn (X * Y) j)) (fun j hj => by (try dsimp only); rw [if_pos om])
     refine then_x (inb_x (then_n (sr (w_val (v := .agg (arr 4 (fun j => U64 (Sha.wn (X * Y) j)))) (y_lda (ex (pt b_all 0) s3_10) ShaNT.ag139 ShaNT.sz139 (fun j hj => by rw [Nat.zero_add]; exact (r_b_all.cell om))) (w_sta (k := 4) (G := fun j => U64 (Sha.wn (X * Y) j)) (ex (pt b_4 0) s3_4) ea oc ShaNT.sz139 r_b_4 om ?_)))))
     clear r_b_4; intro w28 r_b_4 hg29 _
     replace r_b_4 := r_b_4.congr (g := fun j => U64 (Sha.wn (X * Y) j)) (fun j hj => by rw [if_pos ⟨Nat.zero_le _, by omega⟩]; first | rfl | (simp only [Nat.sub_zero]))
     replace r_b_a := r_b_a.stepG hg29 om
     replace r_b_b := r_b_b.stepG hg29 om
     replace r_b_out := r_b_out.stepG hg29 om
     replace r_b_all := r_b_all.stepG hg29 om
     replace hk := thenG hk hg29 om
     refine nt (wp_ret (fin_arr (F := fun j => U64 (Sha.wn (X * Y) j)) rfl (ex (pt b_4 0) s3_4) ShaNT.ag139 ShaNT.sz139 r_b_4 om ?_))
     exact ⟨rfl, hk⟩

theorem above_c (X Y : Nat) (hX : X < 2 ^ 256) (hY : Y < 2 ^ 256) (w0 : World) : Calls Tryd.prog 77 #[.agg (arr 4 (fun j => U64 (Sha.wn X j))), .agg (arr 4 (fun j => U64 (Sha.wn Y j)))] w0 fun e w' => e = .returned (.bool (decide (Y < X))) ∧ Below w0.heap.size w0 w' := by
 refine enter (n := 24) Tryd.func77 rfl rfl rfl ?_
 have hk : Below w0.heap.size w0 w0 := Below.refl _ _
 refine sr (w_box (m := 4) (F := fun j => U64 (Sha.wn X j)) ea rfl ?_)
 intro b_a w1 hbe_b_a r_b_a hb2
 have ge_b_a := gb_ hk.size hbe_b_a
 clear hbe_b_a
 replace hk := thenB hk hb2
 refine w_box (m := 4) (F := fun j => U64 (Sha.wn Y j)) ea rfl ?_
 intro b_b w3 hbe_b_b r_b_b hb4
 have ne_b_a_b_b := r_b_a.nb hbe_b_b
 have ge_b_b := gb_ hk.size hbe_b_b
 clear hbe_b_b
 replace r_b_a := r_b_a.step hb4
 replace hk := thenB hk hb4
 refine w_as Ev.c (nt (wp_seq (sr (w_as Ev.c (nt (wp_block ?_))))))
 refine c_loop (fun dN aN wl => ∃ (k : Nat), dN = (4 - k) ∧ ∃ f5, aN = fr 24 f5 ∧ (k ≤ 4) ∧ (X / 2 ^ (64 * (4 - k)) = Y / 2 ^ (64 * (4 - k))) ∧ f5 2 = pt b_a 0 ∧ f5 3 = pt b_b 0 ∧ f5 5 = .int .i64 (3 - ((k : Nat) : Int)) ∧ Row wl b_a 139 4 (fun j => U64 (Sha.wn X j)) ∧ Row wl b_b 139 4 (fun j => U64 (Sha.wn Y j)) ∧ Below w0.heap.size w0 wl) (4 - 0) ?_ ?_
 · exact ⟨0, rfl, _, rfl, iv, (by rw [Nat.div_eq_of_lt (by exact hX), Nat.div_eq_of_lt (by exact hY)]), rfl, rfl, (Eq.trans (b := .int .i64 3) rfl (by rfl)), r_b_a, r_b_b, hk⟩
 ·skip
  clear r_b_a r_b_b hk
  rintro _ _ w6 ⟨k, rfl, f5, rfl, i1_0, i1_1, s1_2, s1_3, s1_5, r_b_a, r_b_b, hk⟩
  refine wp_seq (sr (w_mv (ei s1_5) (w_val (y_bin ei Ev.c b_geq) (nt ?_))))
  refine c_if (p := 0 ≤ (3 - ((k : Nat) : Int))) eb (fun hc7 => ?_) (fun hc7 => ?_)
  ·skip
   refine wp_skip (then_n (wp_seq (wp_block (wp_seq (region_q ShaNT.mixed kr (q_mv (ei s1_5) (q_val (fun w' hw' => y_ia1z (i := (3 - k)) (ex (pt b_a 0) s1_2) ei Tryd.underlying139 ShaNT.sz58 om om) (q_val (v := U64 (Sha.wn X (3 - k))) (fun w' hw' => y_ld (ex (pt b_a (3 - k))) ShaNT.sc58 (cls_cell (r_b_a.val om rfl) r_b_a.lt w' hw')) (q_mv (ei s1_5) (q_val (fun w' hw' => y_ia1z (i := (3 - k)) (ex (pt b_b 0) s1_3) ei Tryd.underlying139 ShaNT.sz58 om om) (q_val (v := U64 (Sha.wn Y (3 - k))) (fun w' hw' => y_ld (ex (pt b_b (3 - k))) ShaNT.sc58 (cls_cell (r_b_b.val om rfl) r_b_b.lt w' hw')) (q_val (fun w' hw' => y_bin e6 e6 neq64) (q_nil ?_)))))))))))))
   intro w8 hb9
   replace r_b_a := r_b_a.step hb9
   replace r_b_b := r_b_b.step hb9
   replace hk := thenB hk hb9
   refine then_n ?_
   refine c_if (p := (Sha.wn X (3 - k)) ≠ (Sha.wn Y (3 - k))) eb (fun hc10 => ?_) (fun hc10 => ?_)
   ·skip
    refine wp_seq (region_q ShaNT.mixed kr (q_mv (ei s1_5) (q_val (fun w' hw' => y_ia1z (i := (3 - k)) (ex (pt b_a 0) s1_2) ei Tryd.underlying139 ShaNT.sz58 om om) (q_val (v := U64 (Sha.wn X (3 - k))) (fun w' hw' => y_ld (ex (pt b_a (3 - k))) ShaNT.sc58 (cls_cell (r_b_a.val om rfl) r_b_a.lt w' hw')) (q_mv (ei s1_5) (q_val (fun w' hw' => y_ia1z (i := (3 - k)) (ex (pt b_b 0) s1_3) ei Tryd.underlying139 ShaNT.sz58 om om) (q_val (v := U64 (Sha.wn Y (3 - k))) (fun w' hw' => y_ld (ex (pt b_b (3 - k))) ShaNT.sc58 (cls_cell (r_b_b.val om rfl) r_b_b.lt w' hw')) (q_val (fun w' hw' => y_bin e6 e6 gtr64) (q_as eb (q_nil ?_))))))))))
    intro w11 hb12
    replace r_b_a := r_b_a.step hb12
    replace r_b_b := r_b_b.step hb12
    replace hk := thenB hk hb12
    refine then_n (wp_ret (inb_r (then_r (then_r (inb_r (then_r (fin_ret1 rfl eb ?_)))))))
    refine ⟨congrArg Ending.returned ?_, hk⟩
    show (.bool (decide ((Sha.wn Y (3 - k)).toNat < (Sha.wn X (3 - k)).toNat)) : Value) = .bool (decide (Y < X))
    first | exact congrArg Value.bool (decide_eq_decide.2 (Sha.ab_ne X Y (3 - k) (by rw [show 3 - k + 1 = 4 - k from by omega]; exact i1_1) (by assumption))) | exact congrArg Value.bool (decide_eq_false (by rw [show k = 4 from by omega] at i1_1; simp at i1_1; omega)).symm
   ·skip
    refine wp_skip (inb_n (then_n (wp_region_lit (w_mv (ei s1_5) (w_val (y_bin ei Ev.c (b_sub om)) (w_as ei (wpList_nil ?_)))))))
    exact then_n ⟨_, om, k + 1, rfl, _, rfl, iv, (by exact Sha.ab_next X Y (4 - (k + 1)) (by rw [show 4 - (k + 1) + 1 = 4 - k from by omega]; exact i1_1) (by rw [show 4 - (k + 1) = 3 - k from by omega]; exact Classical.not_not.1 (by assumption))), s1_2, s1_3, (Eq.trans (b := .int .i64 ((3 - ((k : Nat) : Int)) - 1)) rfl (by congr 1; omega)), r_b_a, r_b_b, hk⟩
  ·skip
   refine wp_exit (then_x (then_x (inb_x (then_n (sr (w_as Ev.c (nt (wp_ret (fin_ret1 rfl eb ?_)))))))))
   refine ⟨congrArg Ending.returned ?_, hk⟩
   show (.bool false : Value) = .bool (decide (Y < X))
   first | exact congrArg Value.bool (decide_eq_decide.2 (Sha.ab_ne X Y (3 - k) (by rw [show 3 - k + 1 = 4 - k from by omega]; exact i1_1) (by assumption))) | exact congrArg Value.bool (decide_eq_false (by rw [show k = 4 from by omega] at i1_1; simp at i1_1; omega)).symm

theorem root_2 (p : Nat) (hp : p < 2 ^ 16) (w0 : World) : Calls Tryd.prog 56 #[U64 (BitVec.ofNat 64 p), .int .i64 2] w0 fun e w' => e = .returned (U64 (BitVec.ofNat 64 (Sha.rt p 2 69))) ∧ Below w0.heap.size w0 w' := by
 refine enter (n := 45) Tryd.func56 rfl rfl rfl ?_
 have hk : Below w0.heap.size w0 w0 := Below.refl _ _
 refine sr (w_as (evc (U64 (0#64))) (nt (sr (w_alloc (m := 4) (F := fun j => U64 (0#64)) kr ?_))))
 intro b_want w1 hbe_b_want r_b_want hb2
 have ge_b_want := gb_ hk.size hbe_b_want
 clear hbe_b_want
 replace hk := thenB hk hb2
 refine nt (sr (w_mv ei (w_mv e6 (w_val (y_ia1z (i := 2) (ex (pt b_want 0)) ei Tryd.underlying139 ShaNT.sz58 om om) (w_st (v := U64 (BitVec.ofNat 64 p)) (ex (pt b_want 2)) e6 rfl rfl ShaNT.sz58 r_b_want om ?_)))))
 clear r_b_want; intro w3 r_b_want hg4 _
 replace hk := thenG hk hg4 om
 refine nt (wp_seq ?_)
 replace r_b_want := r_b_want.congr (g := fun j => U64 (Sha.wn (p * 2 ^ (64 * 2)) j)) (fun j hj => by rw [← Sha.want_row p 2 j om om hj]; (try dsimp only); by_cases e : j = 2; (rw [if_pos e, if_pos e]); (rw [if_neg e, if_neg e]))
 refine wp_region_lit (w_alloc (m := 4) (F := fun j => U64 (0#64)) kr ?_)
 intro b_x w5 hbe_b_x r_b_x hb6
 have ne_b_want_b_x := r_b_want.nb hbe_b_x
 have ge_b_x := gb_ hk.size hbe_b_x
 clear hbe_b_x
 replace r_b_want := r_b_want.step hb6
 replace hk := thenB hk hb6
 refine nt (wp_seq (sr (w_as Ev.c (nt (wp_block ?_)))))
 refine c_loop (fun dN aN wl => ∃ (k : Nat), dN = (69 - k) ∧ ∃ f7, aN = fr 45 f7 ∧ (k ≤ 69) ∧ f7 1 = .int .i64 2 ∧ f7 4 = U64 (0#64) ∧ f7 5 = pt b_want 0 ∧ f7 6 = pt b_x 0 ∧ f7 7 = .int .i64 (68 - ((k : Nat) : Int)) ∧ Row wl b_want 139 4 (fun j => U64 (Sha.wn (p * 2 ^ (64 * 2)) j)) ∧ Row wl b_x 139 4 (fun j => U64 (Sha.wn (Sha.rt p 2 k) j)) ∧ Below w0.heap.size w0 wl) (69 - 0) ?_ ?_
 · exact ⟨0, rfl, _, rfl, iv, rfl, rfl, rfl, rfl, (Eq.trans (b := .int .i64 68) rfl (by rfl)), r_b_want, (r_b_x.congr (fun j hj => by show U64 0#64 = U64 (Sha.wn 0 j); unfold Sha.wn; rw [Nat.zero_div])), hk⟩
 ·skip
  clear r_b_want r_b_x hk
  rintro _ _ w8 ⟨k, rfl, f7, rfl, i1_0, s1_1, s1_4, s1_5, s1_6, s1_7, r_b_want, r_b_x, hk⟩
  refine wp_seq (sr (w_mv (ei s1_7) (w_val (y_bin ei Ev.c b_geq) (nt ?_))))
  refine c_if (p := 0 ≤ (68 - ((k : Nat) : Int))) eb (fun hc9 => ?_) (fun hc9 => ?_)
  ·skip
   refine wp_skip (then_n (wp_seq (wp_block (sr (w_val (v := .agg (arr 4 (fun j => U64 (Sha.wn (Sha.rt p 2 k) j)))) (y_lda (ex (pt b_x 0) s1_6) ShaNT.ag139 ShaNT.sz139 (fun j hj => by rw [Nat.zero_add]; exact (r_b_x.cell om))) (w_alloc (m := 4) (F := fun j => U64 (0#64)) kr ?_))))))
   intro b_y w10 hbe_b_y r_b_y hb11
   have ne_b_want_b_y := r_b_want.nb hbe_b_y
   have ne_b_x_b_y := r_b_x.nb hbe_b_y
   have ge_b_y := gb_ hk.size hbe_b_y
   clear hbe_b_y
   replace r_b_want := r_b_want.step hb11
   replace r_b_x := r_b_x.step hb11
   replace hk := thenB hk hb11
   refine w_sta (k := 4) (G := fun j => U64 (Sha.wn (Sha.rt p 2 k) j)) (ex (pt b_y 0)) ea oc ShaNT.sz139 r_b_y om ?_
   clear r_b_y; intro w12 r_b_y hg13 _
   replace r_b_y := r_b_y.congr (g := fun j => U64 (Sha.wn (Sha.rt p 2 k) j)) (fun j hj => by rw [if_pos ⟨Nat.zero_le _, by omega⟩]; first | rfl | (simp only [Nat.sub_zero]))
   replace r_b_want := r_b_want.stepG hg13 om
   replace r_b_x := r_b_x.stepG hg13 om
   replace hk := thenG hk hg13 om
   refine nt (sr (w_mv (ei s1_7) (w_val (y_bin ei Ev.c (b_quo om)) (w_mv (ei s1_7) (w_val (y_bin ei Ev.c (b_quo om)) (w_val (y_ia1z (i := ((68 - k) / 64)) (ex (pt b_y 0)) ei Tryd.underlying139 ShaNT.sz58 om om) (w_val (v := U64 (Sha.wn (Sha.rt p 2 k) ((68 - k) / 64))) (y_ld (ex (pt b_y ((68 - k) / 64))) ShaNT.sc58 (r_b_y.val om rfl)) (w_mv (ei s1_7) (w_val (y_bin ei Ev.c (b_rem om)) (w_val (y_nat_u64 (p := ((68 - k) % 64)) ei om ShaNT.so3 Tryd.underlying85) (w_val (y_bin (evc (U64 (1#64))) e6 (shl64 (c := ((68 - k) % 64)) (by rw [BitVec.toNat_ofNat]; omega))) (w_val (y_bin e6 e6 or64) (w_val (y_ia1z (i := ((68 - k) / 64)) (ex (pt b_y 0)) ei Tryd.underlying139 ShaNT.sz58 om om) (w_st (v := U64 ((Sha.wn (Sha.rt p 2 k) ((68 - k) / 64)) ||| ((1#64) <<< ((68 - k) % 64)))) (ex (pt b_y ((68 - k) / 64))) e6 rfl rfl ShaNT.sz58 r_b_y om ?_))))))))))))))
   clear r_b_y; intro w14 r_b_y hg15 _
   replace r_b_want := r_b_want.stepG hg15 om
   replace r_b_x := r_b_x.stepG hg15 om
   replace hk := thenG hk hg15 om
   refine nt (wp_seq ?_)
   replace r_b_y := r_b_y.congr (g := fun j => U64 (Sha.wn (Sha.rt p 2 k + 2 ^ (68 - k)) j)) (fun j hj => by rw [← Sha.bit_row (Sha.rt p 2 k) (68 - k) j om hj (by rw [show 68 - k + 1 = 69 - k from by omega]; exact (Sha.rt_inv p 2 k om).1)]; (try dsimp only); by_cases e : j = (68 - k) / 64; (rw [if_pos e, if_pos e]); (rw [if_neg e, if_neg e]))
   have hrl := Sha.rt_lt p 2 k om
   have hsq := Sha.sq_lt (Sha.rt p 2 k + 2 ^ (68 - k)) (Sha.rt_lt p 2 k om)
   refine wp_region_lit (w_val (v := .agg (arr 4 (fun j => U64 (Sha.wn (Sha.rt p 2 k + 2 ^ (68 - k)) j)))) (y_lda (ex (pt b_y 0)) ShaNT.ag139 ShaNT.sz139 (fun j hj => by rw [Nat.zero_add]; exact (r_b_y.cell om))) (w_val (v := .agg (arr 4 (fun j => U64 (Sha.wn (Sha.rt p 2 k + 2 ^ (68 - k)) j)))) (y_lda (ex (pt b_y 0)) ShaNT.ag139 ShaNT.sz139 (fun j hj => by rw [Nat.zero_add]; exact (r_b_y.cell om))) (w_call (Tryd.func76) kr rfl (m2 ea ea) (times_c (Sha.rt p 2 k + 2 ^ (68 - k)) (Sha.rt p 2 k + 2 ^ (68 - k)) om w14) ?_)))
   rintro _ w16 ⟨rfl, hb17⟩
   refine ⟨_, rfl, ?_⟩
   replace r_b_want := r_b_want.step hb17
   replace r_b_x := r_b_x.step hb17
   replace r_b_y := r_b_y.step hb17
   replace hk := thenB hk hb17
   refine w_alloc (m := 4) (F := fun j => U64 (0#64)) kr ?_
   intro b_z w18 hbe_b_z r_b_z hb19
   have ne_b_want_b_z := r_b_want.nb hbe_b_z
   have ne_b_x_b_z := r_b_x.nb hbe_b_z
   have ne_b_y_b_z := r_b_y.nb hbe_b_z
   have ge_b_z := gb_ hk.size hbe_b_z
   clear hbe_b_z
   replace r_b_want := r_b_want.step hb19
   replace r_b_x := r_b_x.step hb19
   replace r_b_y := r_b_y.step hb19
   replace hk := thenB hk hb19
   refine w_sta (k := 4) (G := fun j => U64 (Sha.wn ((Sha.rt p 2 k + 2 ^ (68 - k)) * (Sha.rt p 2 k + 2 ^ (68 - k))) j)) (ex (pt b_z 0)) ea oc ShaNT.sz139 r_b_z om ?_
   clear r_b_z; intro w20 r_b_z hg21 _
   replace r_b_z := r_b_z.congr (g := fun j => U64 (Sha.wn ((Sha.rt p 2 k + 2 ^ (68 - k)) * (Sha.rt p 2 k + 2 ^ (68 - k))) j)) (fun j hj => by rw [if_pos ⟨Nat.zero_le _, by omega⟩]; first | rfl | (simp only [Nat.sub_zero]))
   replace r_b_want := r_b_want.stepG hg21 om
   replace r_b_x := r_b_x.stepG hg21 om
   replace r_b_y := r_b_y.stepG hg21 om
   replace hk := thenG hk hg21 om
   refine nt (wp_seq (sr (w_mv (ei s1_1) (w_val (y_bin ei Ev.c b_eql) (nt (c_ff eb (wp_skip (then_n (sr (w_val (v := .agg (arr 4 (fun j => U64 (Sha.wn ((Sha.rt p 2 k + 2 ^ (68 - k)) * (Sha.rt p 2 k + 2 ^ (68 - k))) j)))) (y_lda (ex (pt b_z 0)) ShaNT.ag139 ShaNT.sz139 (fun j hj => by rw [Nat.zero_add]; exact (r_b_z.cell om))) (w_val (v := .agg (arr 4 (fun j => U64 (Sha.wn (p * 2 ^ (64 * 2)) j)))) (y_lda (ex (pt b_want 0) s1_5) ShaNT.ag139 ShaNT.sz139 (fun j hj => by rw [Nat.zero_add]; exact (r_b_want.cell om))) (w_call (Tryd.func77) kr rfl (m2 ea ea) (above_c ((Sha.rt p 2 k + 2 ^ (68 - k)) * (Sha.rt p 2 k + 2 ^ (68 - k))) (p * 2 ^ (64 * 2)) om om w20) ?_))))))))))))
   rintro _ w22 ⟨rfl, hb23⟩
   refine ⟨_, rfl, ?_⟩
   replace r_b_want := r_b_want.step hb23
   replace r_b_x := r_b_x.step hb23
   replace r_b_y := r_b_y.step hb23
   replace r_b_z := r_b_z.step hb23
   replace hk := thenB hk hb23
   refine w_val (y_notp eb) (nt ?_)
   refine c_if (p := ¬ ((p * 2 ^ (64 * 2)) < ((Sha.rt p 2 k + 2 ^ (68 - k)) * (Sha.rt p 2 k + 2 ^ (68 - k))))) eb (fun hc24 => ?_) (fun hc24 => ?_)
   ·skip
    refine wp_region_lit (w_val (v := .agg (arr 4 (fun j => U64 (Sha.wn (Sha.rt p 2 k + 2 ^ (68 - k)) j)))) (y_lda (ex (pt b_y 0)) ShaNT.ag139 ShaNT.sz139 (fun j hj => by rw [Nat.zero_add]; exact (r_b_y.cell om))) (w_sta (k := 4) (G := fun j => U64 (Sha.wn (Sha.rt p 2 k + 2 ^ (68 - k)) j)) (ex (pt b_x 0) s1_6) ea oc ShaNT.sz139 r_b_x om ?_))
    clear r_b_x; intro w25 r_b_x hg26 _
    replace r_b_x := r_b_x.congr (g := fun j => U64 (Sha.wn (Sha.rt p 2 k + 2 ^ (68 - k)) j)) (fun j hj => by rw [if_pos ⟨Nat.zero_le _, by omega⟩]; first | rfl | (simp only [Nat.sub_zero]))
    replace r_b_want := r_b_want.stepG hg26 om
    replace r_b_y := r_b_y.stepG hg26 om
    replace r_b_z := r_b_z.stepG hg26 om
    replace hk := thenG hk hg26 om
    refine wpList_nil (inb_n (then_n (wp_region_lit (w_mv (ei s1_7) (w_val (y_bin ei Ev.c (b_sub om)) (w_as ei (wpList_nil ?_)))))))
    exact then_n ⟨_, om, k + 1, rfl, _, rfl, iv, s1_1, s1_4, s1_5, s1_6, (Eq.trans (b := .int .i64 ((68 - ((k : Nat) : Int)) - 1)) rfl (by congr 1; omega)), r_b_want, (r_b_x.congr (fun j hj => by first | exact congrArg U64 (congrArg (fun y => Sha.wn y j) (if_neg (by assumption)).symm) | exact congrArg U64 (congrArg (fun y => Sha.wn y j) (if_pos (Classical.not_not.1 (by assumption))).symm))), hk⟩
   ·skip
    refine wp_skip (inb_n (then_n (wp_region_lit (w_mv (ei s1_7) (w_val (y_bin ei Ev.c (b_sub om)) (w_as ei (wpList_nil ?_)))))))
    exact then_n ⟨_, om, k + 1, rfl, _, rfl, iv, s1_1, s1_4, s1_5, s1_6, (Eq.trans (b := .int .i64 ((68 - ((k : Nat) : Int)) - 1)) rfl (by congr 1; omega)), r_b_want, (r_b_x.congr (fun j hj => by first | exact congrArg U64 (congrArg (fun y => Sha.wn y j) (if_neg (by assumption)).symm) | exact congrArg U64 (congrArg (fun y => Sha.wn y j) (if_pos (Classical.not_not.1 (by assumption))).symm))), hk⟩
  ·skip
   refine wp_exit (then_x ?_)
   replace r_b_x := r_b_x.congr (g := fun j => U64 (Sha.wn (Sha.rt p 2 69) j)) (fun j hj => by rw [show k = 69 from by omega])
   refine then_x (inb_x (then_n (sr (w_val (y_ia1z (i := 0) (ex (pt b_x 0) s1_6) Ev.c Tryd.underlying139 ShaNT.sz58 om om) (w_val (v := U64 (Sha.wn (Sha.rt p 2 69) 0)) (y_ld (ex (pt b_x 0)) ShaNT.sc58 (r_b_x.val om rfl)) (w_as e6 (nt (wp_ret (fin_ret1 rfl e6 ?_)))))))))
   refine ⟨congrArg Ending.returned ?_, hk⟩
   show (U64 (Sha.wn (Sha.rt p 2 69) 0) : Value) = U64 (BitVec.ofNat 64 (Sha.rt p 2 69))
   unfold Sha.wn; simp

theorem root_3 (p : Nat) (hp : p < 2 ^ 16) (w0 : World) : Calls Tryd.prog 56 #[U64 (BitVec.ofNat 64 p), .int .i64 3] w0 fun e w' => e = .returned (U64 (BitVec.ofNat 64 (Sha.rt p 3 69))) ∧ Below w0.heap.size w0 w' := by
 refine enter (n := 45) Tryd.func56 rfl rfl rfl ?_
 have hk : Below w0.heap.size w0 w0 := Below.refl _ _
 refine sr (w_as (evc (U64 (0#64))) (nt (sr (w_alloc (m := 4) (F := fun j => U64 (0#64)) kr ?_))))
 intro b_want w1 hbe_b_want r_b_want hb2
 have ge_b_want := gb_ hk.size hbe_b_want
 clear hbe_b_want
 replace hk := thenB hk hb2
 refine nt (sr (w_mv ei (w_mv e6 (w_val (y_ia1z (i := 3) (ex (pt b_want 0)) ei Tryd.underlying139 ShaNT.sz58 om om) (w_st (v := U64 (BitVec.ofNat 64 p)) (ex (pt b_want 3)) e6 rfl rfl ShaNT.sz58 r_b_want om ?_)))))
 clear r_b_want; intro w3 r_b_want hg4 _
 replace hk := thenG hk hg4 om
 refine nt (wp_seq ?_)
 replace r_b_want := r_b_want.congr (g := fun j => U64 (Sha.wn (p * 2 ^ (64 * 3)) j)) (fun j hj => by rw [← Sha.want_row p 3 j om om hj]; (try dsimp only); by_cases e : j = 3; (rw [if_pos e, if_pos e]); (rw [if_neg e, if_neg e]))
 refine wp_region_lit (w_alloc (m := 4) (F := fun j => U64 (0#64)) kr ?_)
 intro b_x w5 hbe_b_x r_b_x hb6
 have ne_b_want_b_x := r_b_want.nb hbe_b_x
 have ge_b_x := gb_ hk.size hbe_b_x
 clear hbe_b_x
 replace r_b_want := r_b_want.step hb6
 replace hk := thenB hk hb6
 refine nt (wp_seq (sr (w_as Ev.c (nt (wp_block ?_)))))
 refine c_loop (fun dN aN wl => ∃ (k : Nat), dN = (69 - k) ∧ ∃ f7, aN = fr 45 f7 ∧ (k ≤ 69) ∧ f7 1 = .int .i64 3 ∧ f7 4 = U64 (0#64) ∧ f7 5 = pt b_want 0 ∧ f7 6 = pt b_x 0 ∧ f7 7 = .int .i64 (68 - ((k : Nat) : Int)) ∧ Row wl b_want 139 4 (fun j => U64 (Sha.wn (p * 2 ^ (64 * 3)) j)) ∧ Row wl b_x 139 4 (fun j => U64 (Sha.wn (Sha.rt p 3 k) j)) ∧ Below w0.heap.size w0 wl) (69 - 0) ?_ ?_
 · exact ⟨0, rfl, _, rfl, iv, rfl, rfl, rfl, rfl, (Eq.trans (b := .int .i64 68) rfl (by rfl)), r_b_want, (r_b_x.congr (fun j hj => by show U64 0#64 = U64 (Sha.wn 0 j); unfold Sha.wn; rw [Nat.zero_div])), hk⟩
 ·skip
  clear r_b_want r_b_x hk
  rintro _ _ w8 ⟨k, rfl, f7, rfl, i1_0, s1_1, s1_4, s1_5, s1_6, s1_7, r_b_want, r_b_x, hk⟩
  refine wp_seq (sr (w_mv (ei s1_7) (w_val (y_bin ei Ev.c b_geq) (nt ?_))))
  refine c_if (p := 0 ≤ (68 - ((k : Nat) : Int))) eb (fun hc9 => ?_) (fun hc9 => ?_)
  ·skip
   refine wp_skip (then_n (wp_seq (wp_block (sr (w_val (v := .agg (arr 4 (fun j => U64 (Sha.wn (Sha.rt p 3 k) j)))) (y_lda (ex (pt b_x 0) s1_6) ShaNT.ag139 ShaNT.sz139 (fun j hj => by rw [Nat.zero_add]; exact (r_b_x.cell om))) (w_alloc (m := 4) (F := fun j => U64 (0#64)) kr ?_))))))
   intro b_y w10 hbe_b_y r_b_y hb11
   have ne_b_want_b_y := r_b_want.nb hbe_b_y
   have ne_b_x_b_y := r_b_x.nb hbe_b_y
   have ge_b_y := gb_ hk.size hbe_b_y
   clear hbe_b_y
   replace r_b_want := r_b_want.step hb11
   replace r_b_x := r_b_x.step hb11
   replace hk := thenB hk hb11
   refine w_sta (k := 4) (G := fun j => U64 (Sha.wn (Sha.rt p 3 k) j)) (ex (pt b_y 0)) ea oc ShaNT.sz139 r_b_y om ?_
   clear r_b_y; intro w12 r_b_y hg13 _
   replace r_b_y := r_b_y.congr (g := fun j => U64 (Sha.wn (Sha.rt p 3 k) j)) (fun j hj => by rw [if_pos ⟨Nat.zero_le _, by omega⟩]; first | rfl | (simp only [Nat.sub_zero]))
   replace r_b_want := r_b_want.stepG hg13 om
   replace r_b_x := r_b_x.stepG hg13 om
   replace hk := thenG hk hg13 om
   refine nt (sr (w_mv (ei s1_7) (w_val (y_bin ei Ev.c (b_quo om)) (w_mv (ei s1_7) (w_val (y_bin ei Ev.c (b_quo om)) (w_val (y_ia1z (i := ((68 - k) / 64)) (ex (pt b_y 0)) ei Tryd.underlying139 ShaNT.sz58 om om) (w_val (v := U64 (Sha.wn (Sha.rt p 3 k) ((68 - k) / 64))) (y_ld (ex (pt b_y ((68 - k) / 64))) ShaNT.sc58 (r_b_y.val om rfl)) (w_mv (ei s1_7) (w_val (y_bin ei Ev.c (b_rem om)) (w_val (y_nat_u64 (p := ((68 - k) % 64)) ei om ShaNT.so3 Tryd.underlying85) (w_val (y_bin (evc (U64 (1#64))) e6 (shl64 (c := ((68 - k) % 64)) (by rw [BitVec.toNat_ofNat]; omega))) (w_val (y_bin e6 e6 or64) (w_val (y_ia1z (i := ((68 - k) / 64)) (ex (pt b_y 0)) ei Tryd.underlying139 ShaNT.sz58 om om) (w_st (v := U64 ((Sha.wn (Sha.rt p 3 k) ((68 - k) / 64)) ||| ((1#64) <<< ((68 - k) % 64)))) (ex (pt b_y ((68 - k) / 64))) e6 rfl rfl ShaNT.sz58 r_b_y om ?_))))))))))))))
   clear r_b_y; intro w14 r_b_y hg15 _
   replace r_b_want := r_b_want.stepG hg15 om
   replace r_b_x := r_b_x.stepG hg15 om
   replace hk := thenG hk hg15 om
   refine nt (wp_seq ?_)
   replace r_b_y := r_b_y.congr (g := fun j => U64 (Sha.wn (Sha.rt p 3 k + 2 ^ (68 - k)) j)) (fun j hj => by rw [← Sha.bit_row (Sha.rt p 3 k) (68 - k) j om hj (by rw [show 68 - k + 1 = 69 - k from by omega]; exact (Sha.rt_inv p 3 k om).1)]; (try dsimp only); by_cases e : j = (68 - k) / 64; (rw [if_pos e, if_pos e]); (rw [if_neg e, if_neg e]))
   have hrl := Sha.rt_lt p 3 k om
   have hsq := Sha.sq_lt (Sha.rt p 3 k + 2 ^ (68 - k)) (Sha.rt_lt p 3 k om)
   refine wp_region_lit (w_val (v := .agg (arr 4 (fun j => U64 (Sha.wn (Sha.rt p 3 k + 2 ^ (68 - k)) j)))) (y_lda (ex (pt b_y 0)) ShaNT.ag139 ShaNT.sz139 (fun j hj => by rw [Nat.zero_add]; exact (r_b_y.cell om))) (w_val (v := .agg (arr 4 (fun j => U64 (Sha.wn (Sha.rt p 3 k + 2 ^ (68 - k)) j)))) (y_lda (ex (pt b_y 0)) ShaNT.ag139 ShaNT.sz139 (fun j hj => by rw [Nat.zero_add]; exact (r_b_y.cell om))) (w_call (Tryd.func76) kr rfl (m2 ea ea) (times_c (Sha.rt p 3 k + 2 ^ (68 - k)) (Sha.rt p 3 k + 2 ^ (68 - k)) om w14) ?_)))
   rintro _ w16 ⟨rfl, hb17⟩
   refine ⟨_, rfl, ?_⟩
   replace r_b_want := r_b_want.step hb17
   replace r_b_x := r_b_x.step hb17
   replace r_b_y := r_b_y.step hb17
   replace hk := thenB hk hb17
   refine w_alloc (m := 4) (F := fun j => U64 (0#64)) kr ?_
   intro b_z w18 hbe_b_z r_b_z hb19
   have ne_b_want_b_z := r_b_want.nb hbe_b_z
   have ne_b_x_b_z := r_b_x.nb hbe_b_z
   have ne_b_y_b_z := r_b_y.nb hbe_b_z
   have ge_b_z := gb_ hk.size hbe_b_z
   clear hbe_b_z
   replace r_b_want := r_b_want.step hb19
   replace r_b_x := r_b_x.step hb19
   replace r_b_y := r_b_y.step hb19
   replace hk := thenB hk hb19
   refine w_sta (k := 4) (G := fun j => U64 (Sha.wn ((Sha.rt p 3 k + 2 ^ (68 - k)) * (Sha.rt p 3 k + 2 ^ (68 - k))) j)) (ex (pt b_z 0)) ea oc ShaNT.sz139 r_b_z om ?_
   clear r_b_z; intro w20 r_b_z hg21 _
   replace r_b_z := r_b_z.congr (g := fun j => U64 (Sha.wn ((Sha.rt p 3 k + 2 ^ (68 - k)) * (Sha.rt p 3 k + 2 ^ (68 - k))) j)) (fun j hj => by rw [if_pos ⟨Nat.zero_le _, by omega⟩]; first | rfl | (simp only [Nat.sub_zero]))
   replace r_b_want := r_b_want.stepG hg21 om
   replace r_b_x := r_b_x.stepG hg21 om
   replace r_b_y := r_b_y.stepG hg21 om
   replace hk := thenG hk hg21 om
   refine nt (wp_seq (sr (w_mv (ei s1_1) (w_val (y_bin ei Ev.c b_eql) (nt (c_tt eb (wp_region_lit (w_val (v := .agg (arr 4 (fun j => U64 (Sha.wn ((Sha.rt p 3 k + 2 ^ (68 - k)) * (Sha.rt p 3 k + 2 ^ (68 - k))) j)))) (y_lda (ex (pt b_z 0)) ShaNT.ag139 ShaNT.sz139 (fun j hj => by rw [Nat.zero_add]; exact (r_b_z.cell om))) (w_val (v := .agg (arr 4 (fun j => U64 (Sha.wn (Sha.rt p 3 k + 2 ^ (68 - k)) j)))) (y_lda (ex (pt b_y 0)) ShaNT.ag139 ShaNT.sz139 (fun j hj => by rw [Nat.zero_add]; exact (r_b_y.cell om))) (w_call (Tryd.func76) kr rfl (m2 ea ea) (times_c ((Sha.rt p 3 k + 2 ^ (68 - k)) * (Sha.rt p 3 k + 2 ^ (68 - k))) (Sha.rt p 3 k + 2 ^ (68 - k)) om w20) ?_))))))))))
   rintro _ w22 ⟨rfl, hb23⟩
   refine ⟨_, rfl, ?_⟩
   replace r_b_want := r_b_want.step hb23
   replace r_b_x := r_b_x.step hb23
   replace r_b_y := r_b_y.step hb23
   replace r_b_z := r_b_z.step hb23
   replace hk := thenB hk hb23
   refine w_sta (k := 4) (G := fun j => U64 (Sha.wn (((Sha.rt p 3 k + 2 ^ (68 - k)) * (Sha.rt p 3 k + 2 ^ (68 - k))) * (Sha.rt p 3 k + 2 ^ (68 - k))) j)) (ex (pt b_z 0)) ea oc ShaNT.sz139 r_b_z om ?_
   clear r_b_z; intro w24 r_b_z hg25 _
   replace r_b_z := r_b_z.congr (g := fun j => U64 (Sha.wn (((Sha.rt p 3 k + 2 ^ (68 - k)) * (Sha.rt p 3 k + 2 ^ (68 - k))) * (Sha.rt p 3 k + 2 ^ (68 - k))) j)) (fun j hj => by rw [if_pos ⟨Nat.zero_le _, by omega⟩]; first | rfl | (simp only [Nat.sub_zero]))
   replace r_b_want := r_b_want.stepG hg25 om
   replace r_b_x := r_b_x.stepG hg25 om
   replace r_b_y := r_b_y.stepG hg25 om
   replace hk := thenG hk hg25 om
   refine nt (sr (w_val (v := .agg (arr 4 (fun j => U64 (Sha.wn (((Sha.rt p 3 k + 2 ^ (68 - k)) * (Sha.rt p 3 k + 2 ^ (68 - k))) * (Sha.rt p 3 k + 2 ^ (68 - k))) j)))) (y_lda (ex (pt b_z 0)) ShaNT.ag139 ShaNT.sz139 (fun j hj => by rw [Nat.zero_add]; exact (r_b_z.cell om))) (w_val (v := .agg (arr 4 (fun j => U64 (Sha.wn (p * 2 ^ (64 * 3)) j)))) (y_lda (ex (pt b_want 0) s1_5) ShaNT.ag139 ShaNT.sz139 (fun j hj => by rw [Nat.zero_add]; exact (r_b_want.cell om))) (w_call (Tryd.func77) kr rfl (m2 ea ea) (above_c (((Sha.rt p 3 k + 2 ^ (68 - k)) * (Sha.rt p 3 k + 2 ^ (68 - k))) * (Sha.rt p 3 k + 2 ^ (68 - k))) (p * 2 ^ (64 * 3)) om om w24) ?_))))
   rintro _ w26 ⟨rfl, hb27⟩
   refine ⟨_, rfl, ?_⟩
   replace r_b_want := r_b_want.step hb27
   replace r_b_x := r_b_x.step hb27
   replace r_b_y := r_b_y.step hb27
   replace r_b_z := r_b_z.step hb27
   replace hk := thenB hk hb27
   refine w_val (y_notp eb) (nt ?_)
   refine c_if (p := ¬ ((p * 2 ^ (64 * 3)) < (((Sha.rt p 3 k + 2 ^ (68 - k)) * (Sha.rt p 3 k + 2 ^ (68 - k))) * (Sha.rt p 3 k + 2 ^ (68 - k))))) eb (fun hc28 => ?_) (fun hc28 => ?_)
   ·skip
    refine wp_region_lit (w_val (v := .agg (arr 4 (fun j => U64 (Sha.wn (Sha.rt p 3 k + 2 ^ (68 - k)) j)))) (y_lda (ex (pt b_y 0)) ShaNT.ag139 ShaNT.sz139 (fun j hj => by rw [Nat.zero_add]; exact (r_b_y.cell om))) (w_sta (k := 4) (G := fun j => U64 (Sha.wn (Sha.rt p 3 k + 2 ^ (68 - k)) j)) (ex (pt b_x 0) s1_6) ea oc ShaNT.sz139 r_b_x om ?_))
    clear r_b_x; intro w29 r_b_x hg30 _
    replace r_b_x := r_b_x.congr (g := fun j => U64 (Sha.wn (Sha.rt p 3 k + 2 ^ (68 - k)) j)) (fun j hj => by rw [if_pos ⟨Nat.zero_le _, by omega⟩]; first | rfl | (simp only [Nat.sub_zero]))
    replace r_b_want := r_b_want.stepG hg30 om
    replace r_b_y := r_b_y.stepG hg30 om
    replace r_b_z := r_b_z.stepG hg30 om
    replace hk := thenG hk hg30 om
    refine wpList_nil (inb_n (then_n (wp_region_lit (w_mv (ei s1_7) (w_val (y_bin ei Ev.c (b_sub om)) (w_as ei (wpList_nil ?_)))))))
    exact then_n ⟨_, om, k + 1, rfl, _, rfl, iv, s1_1, s1_4, s1_5, s1_6, (Eq.trans (b := .int .i64 ((68 - ((k : Nat) : Int)) - 1)) rfl (by congr 1; omega)), r_b_want, (r_b_x.congr (fun j hj => by first | exact congrArg U64 (congrArg (fun y => Sha.wn y j) (if_neg (by assumption)).symm) | exact congrArg U64 (congrArg (fun y => Sha.wn y j) (if_pos (Classical.not_not.1 (by assumption))).symm))), hk⟩
   ·skip
    refine wp_skip (inb_n (then_n (wp_region_lit (w_mv (ei s1_7) (w_val (y_bin ei Ev.c (b_sub om)) (w_as ei (wpList_nil ?_)))))))
    exact then_n ⟨_, om, k + 1, rfl, _, rfl, iv, s1_1, s1_4, s1_5, s1_6, (Eq.trans (b := .int .i64 ((68 - ((k : Nat) : Int)) - 1)) rfl (by congr 1; omega)), r_b_want, (r_b_x.congr (fun j hj => by first | exact congrArg U64 (congrArg (fun y => Sha.wn y j) (if_neg (by assumption)).symm) | exact congrArg U64 (congrArg (fun y => Sha.wn y j) (if_pos (Classical.not_not.1 (by assumption))).symm))), hk⟩
  ·skip
   refine wp_exit (then_x ?_)
   replace r_b_x := r_b_x.congr (g := fun j => U64 (Sha.wn (Sha.rt p 3 69) j)) (fun j hj => by rw [show k = 69 from by omega])
   refine then_x (inb_x (then_n (sr (w_val (y_ia1z (i := 0) (ex (pt b_x 0) s1_6) Ev.c Tryd.underlying139 ShaNT.sz58 om om) (w_val (v := U64 (Sha.wn (Sha.rt p 3 69) 0)) (y_ld (ex (pt b_x 0)) ShaNT.sc58 (r_b_x.val om rfl)) (w_as e6 (nt (wp_ret (fin_ret1 rfl e6 ?_)))))))))
   refine ⟨congrArg Ending.returned ?_, hk⟩
   show (U64 (Sha.wn (Sha.rt p 3 69) 0) : Value) = U64 (BitVec.ofNat 64 (Sha.rt p 3 69))
   unfold Sha.wn; simp
end Go.Proofs.YtepogbfkmflooaaDoor
