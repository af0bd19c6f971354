/-
  Digests: a block of small words, a block of great ones. Conditions as each says.
-/
import Derived.Test.YtepogbfkmflooaaDoorRows
import Derived.Test.YtepogbfkmflooaaDoorShaA
import Derived.Test.YtepogbfkmflooaaDoorGenSh
import Derived.ProofKit
namespace Go.Proofs.YtepogbfkmflooaaDoor
open Go.RowKit
set_option linter.unusedSimpArgs false
set_option linter.unusedVariables false
set_option maxRecDepth 100000
set_option maxHeartbeats 1000000
namespace ShaBT
theorem mixed : Tryd.prog.follows .mixedOrders = true := by kernel_rfl
theorem ag88 : (Tryd.prog.underlying 88).map isAggD = some true := by rw [Tryd.underlying88]; rfl
theorem fa134_1 (g off : Nat) : ∀ w, (Instr.fieldAt 134 (.pointer (some ⟨g, off, none⟩)) 1).run Tryd.prog w = .ok (.pointer (some ⟨g, off + 1, none⟩)) w := fun w => by kernel_rfl
theorem fa134_2 (g off : Nat) : ∀ w, (Instr.fieldAt 134 (.pointer (some ⟨g, off, none⟩)) 2).run Tryd.prog w = .ok (.pointer (some ⟨g, off + 9, none⟩)) w := fun w => by kernel_rfl
theorem sc102 : (Tryd.prog.underlying 102).map scal = some true := by rw [Tryd.underlying102]; rfl
theorem sc5 : (Tryd.prog.underlying 5).map scal = some true := by rw [Tryd.underlying5]; rfl
theorem sc58 : (Tryd.prog.underlying 58).map scal = some true := by rw [Tryd.underlying58]; rfl
theorem so102 : (Tryd.prog.underlying 102).isSome = true := by rw [Tryd.underlying102]; rfl
theorem so3 : (Tryd.prog.underlying 3).isSome = true := by rw [Tryd.underlying3]; rfl
theorem so5 : (Tryd.prog.underlying 5).isSome = true := by rw [Tryd.underlying5]; rfl
theorem so58 : (Tryd.prog.underlying 58).isSome = true := by rw [Tryd.underlying58]; rfl
theorem sz102 : (Tryd.prog.info? 102).map (·.size) = some 1 := by kernel_rfl
theorem sz160 : (Tryd.prog.info? 160).map (·.size) = some 8 := by kernel_rfl
theorem sz5 : (Tryd.prog.info? 5).map (·.size) = some 1 := by kernel_rfl
theorem sz58 : (Tryd.prog.info? 58).map (·.size) = some 1 := by kernel_rfl
theorem sz88 : (Tryd.prog.info? 88).map (·.size) = some 8 := by kernel_rfl
end ShaBT
theorem few_c (h n : Nat) (h1 : 0 < h ∧ 1 < h) (kd : Int) (hh : Nat → BitVec 64) (rr : Nat → BitVec 8) (al : BitVec 64) (hs : ∀ j, hh j = ((hh j).setWidth 32).setWidth 64) (w0 : World) (r_h : Row w0 h 134 139 (Sha.hrow (.int .i64 kd) hh rr (.int .i64 ((n : Nat) : Int)) (U64 al))) (hT : Sha.Tabs w0) : Calls Tryd.prog 88 #[pt h 0] w0 fun e w' => e = .returned (.tuple #[]) ∧ Row w' h 134 139 (Sha.hrow (.int .i64 kd) (Sha.comp true rr hh) rr (.int .i64 ((n : Nat) : Int)) (U64 al)) ∧ w0.grownBy w' (some h) := by
 have hT0 := hT.lt
 refine enter (n := 211) Tryd.func88 rfl rfl rfl ?_
 have hk : w0.grownBy w0 (some h) := grown_refl _ _
 have lt_h := r_h.lt
 refine sr (w_alloc (m := 64) (F := fun j => U32 (0#32)) kr ?_)
 intro b_w w1 hbe_b_w r_b_w hb2
 have ne_h_b_w := r_h.nb hbe_b_w
 have ge_b_w := gb_ hk.size hbe_b_w
 clear hbe_b_w
 replace r_h := r_h.step hb2
 replace hk := grown_thenB hk hb2
 replace hT := Sha.Tabs.below hT hb2
 refine nt (wp_seq (sr (w_mv Ev.c (nt (wp_block ?_)))))
 refine c_loop (fun dN aN wl => ∃ (k : Nat), dN = (64 - k) ∧ ∃ f3, aN = fr 211 f3 ∧ (k ≤ 64) ∧ f3 0 = pt h 0 ∧ f3 2 = pt b_w 0 ∧ f3 14 = .int .i64 ((k : Nat) : Int) ∧ Row wl h 134 139 (Sha.hrow (.int .i64 kd) hh rr (.int .i64 ((n : Nat) : Int)) (U64 al)) ∧ Row wl b_w 158 64 (fun j => if j < k then (fun j => U32 (Sha.w32 rr j)) j else (fun j => U32 (0#32)) j) ∧ Sha.Tabs wl ∧ w0.grownBy wl (some h)) (64 - 0) ?_ ?_
 · exact ⟨0, rfl, _, rfl, iv, rfl, rfl, ti, r_h, (r_b_w.cg), hT, hk⟩
 ·skip
  clear r_h r_b_w hT hk
  rintro _ _ w4 ⟨k, rfl, f3, rfl, i1_0, s1_0, s1_2, s1_14, r_h, r_b_w, hT, hk⟩
  refine sr (w_val (y_bin (ei s1_14) Ev.c b_lss) (nt (wp_seq ?_)))
  refine c_if (p := ((k : Nat) : Int) < 64) eb (fun hc5 => ?_) (fun hc5 => ?_)
  ·skip
   refine wp_skip (then_n (wp_seq (wp_block (sr (w_mv (ei s1_14) (w_as ei (nt (wp_seq (sr (w_mv ei (w_val (y_bin ei Ev.c b_lss) (nt ?_))))))))))))
   refine c_if (p := ((k : Nat) : Int) < 16) eb (fun hc6 => ?_) (fun hc6 => ?_)
   ·skip
    refine wp_seq (region_t 43 ShaBT.mixed kr ?_)
    simp only [List.take_succ_cons, List.take_zero, List.drop_succ_cons, List.drop_zero]
    refine q_mv ei (q_mv (ex (pt h 0) s1_0) (q_mv ei (q_val (fun w' hw' => y_bin Ev.c ei (b_mul om)) (q_val (fun w' hw' => y_nc (ex (pt h 0))) (q_val (v := pt h 9) (fun w' hw' => y_off (y_fa (ex (pt h 0)) (ShaBT.fa134_2 _ _)) ro) (q_val (v := pt h (9 + (4 * k))) (fun w' hw' => y_off (y_ia1 (i := (4 * k)) (ex (pt h 9)) ei Tryd.underlying132 ShaBT.sz5 om om) ro) (q_val (v := U8 (rr (4 * k))) (fun w' hw' => y_ld (ex (pt h (9 + (4 * k)))) ShaBT.sc5 (cls_cell (r_h.val om (ng (ng pz))) r_h.lt w' hw')) (q_val (fun w' hw' => y_u8_u32 e8 ShaBT.so5 Tryd.underlying102) (q_val (fun w' hw' => y_bin e3 (evc (.int .u64 24)) (shl32 (c := 24) rfl)) (q_mv (ex (pt h 0) s1_0) (q_mv ei (q_val (fun w' hw' => y_bin Ev.c ei (b_mul om)) (q_val (fun w' hw' => y_bin ei Ev.c (b_add om)) (q_val (fun w' hw' => y_nc (ex (pt h 0))) (q_val (v := pt h 9) (fun w' hw' => y_off (y_fa (ex (pt h 0)) (ShaBT.fa134_2 _ _)) ro) (q_val (v := pt h (9 + ((4 * k) + 1))) (fun w' hw' => y_off (y_ia1 (i := ((4 * k) + 1)) (ex (pt h 9)) ei Tryd.underlying132 ShaBT.sz5 om om) ro) (q_val (v := U8 (rr ((4 * k) + 1))) (fun w' hw' => y_ld (ex (pt h (9 + ((4 * k) + 1)))) ShaBT.sc5 (cls_cell (r_h.val om (ng (ng pz))) r_h.lt w' hw')) (q_val (fun w' hw' => y_u8_u32 e8 ShaBT.so5 Tryd.underlying102) (q_val (fun w' hw' => y_bin e3 (evc (.int .u64 16)) (shl32 (c := 16) rfl)) (q_val (fun w' hw' => y_bin e3 e3 or32) (q_mv (ex (pt h 0) s1_0) (q_mv ei (q_val (fun w' hw' => y_bin Ev.c ei (b_mul om)) (q_val (fun w' hw' => y_bin ei Ev.c (b_add om)) (q_val (fun w' hw' => y_nc (ex (pt h 0))) (q_val (v := pt h 9) (fun w' hw' => y_off (y_fa (ex (pt h 0)) (ShaBT.fa134_2 _ _)) ro) (q_val (v := pt h (9 + ((4 * k) + 2))) (fun w' hw' => y_off (y_ia1 (i := ((4 * k) + 2)) (ex (pt h 9)) ei Tryd.underlying132 ShaBT.sz5 om om) ro) (q_val (v := U8 (rr ((4 * k) + 2))) (fun w' hw' => y_ld (ex (pt h (9 + ((4 * k) + 2)))) ShaBT.sc5 (cls_cell (r_h.val om (ng (ng pz))) r_h.lt w' hw')) (q_val (fun w' hw' => y_u8_u32 e8 ShaBT.so5 Tryd.underlying102) (q_val (fun w' hw' => y_bin e3 (evc (.int .u64 8)) (shl32 (c := 8) rfl)) (q_val (fun w' hw' => y_bin e3 e3 or32) (q_mv (ex (pt h 0) s1_0) (q_mv ei (q_val (fun w' hw' => y_bin Ev.c ei (b_mul om)) (q_val (fun w' hw' => y_bin ei Ev.c (b_add om)) (q_val (fun w' hw' => y_nc (ex (pt h 0))) (q_val (v := pt h 9) (fun w' hw' => y_off (y_fa (ex (pt h 0)) (ShaBT.fa134_2 _ _)) ro) (q_val (v := pt h (9 + ((4 * k) + 3))) (fun w' hw' => y_off (y_ia1 (i := ((4 * k) + 3)) (ex (pt h 9)) ei Tryd.underlying132 ShaBT.sz5 om om) ro) (q_val (v := U8 (rr ((4 * k) + 3))) (fun w' hw' => y_ld (ex (pt h (9 + ((4 * k) + 3)))) ShaBT.sc5 (cls_cell (r_h.val om (ng (ng pz))) r_h.lt w' hw')) ?_)))))))))))))))))))))))))))))))))))))))
    refine q_val (fun w' hw' => y_u8_u32 e8 ShaBT.so5 Tryd.underlying102) (q_val (fun w' hw' => y_bin e3 e3 or32) (q_val (fun w' hw' => y_ia1z (i := k) (ex (pt b_w 0) s1_2) ei Tryd.underlying158 ShaBT.sz102 om om) (q_nil ?_)))
    intro w7 hb8
    replace r_h := r_h.step hb8
    replace r_b_w := r_b_w.step hb8
    replace hk := grown_thenB hk hb8
    replace hT := Sha.Tabs.below hT hb8
    refine w_st (v := U32 ((((((rr (4 * k)).setWidth 32) <<< 24) ||| (((rr ((4 * k) + 1)).setWidth 32) <<< 16)) ||| (((rr ((4 * k) + 2)).setWidth 32) <<< 8)) ||| ((rr ((4 * k) + 3)).setWidth 32))) (ex (pt b_w k)) e3 rfl rfl ShaBT.sz102 r_b_w om ?_
    clear r_b_w; intro w9 r_b_w hg10 _
    replace r_h := r_h.stepG hg10 om
    replace hk := grown_thenG hk hg10 om
    replace hT := Sha.Tabs.grown hT hg10 om om
    refine nt (wp_exit (then_x (inb_x (then_n (wp_region_lit (w_val (y_bin (ei s1_14) Ev.c (b_add om)) (w_mv ei (wpList_nil ?_))))))))
    exact then_n ⟨_, om, k + 1, rfl, _, rfl, iv, s1_0, s1_2, ti, r_h, (r_b_w.congr (fun j hj => by (try dsimp only); by_cases e : j = k; (rw [if_pos e, if_pos om, e]; exact congrArg U32 (by first | exact (Sha.w32_lo rr k om).symm | exact (Sha.w32_hi rr k om).symm)); (rw [if_neg e]; by_cases e2 : j < k; (rw [if_pos e2, if_pos om]); (rw [if_neg e2, if_neg om])))), hT, hk⟩
   ·skip
    refine wp_skip (then_n (wp_seq (region_q ShaBT.mixed kr (q_mv ei (q_val (fun w' hw' => y_bin ei Ev.c (b_sub om)) (q_val (fun w' hw' => y_ia1z (i := (k - 15)) (ex (pt b_w 0) s1_2) ei Tryd.underlying158 ShaBT.sz102 om om) (q_val (v := U32 (Sha.w32 rr (k - 15))) (fun w' hw' => y_ld (ex (pt b_w (k - 15))) ShaBT.sc102 (cls_cell (r_b_w.val om ((if_pos om).trans rfl)) r_b_w.lt w' hw')) (q_mv ei (q_val (fun w' hw' => y_bin ei Ev.c (b_sub om)) (q_val (fun w' hw' => y_ia1z (i := (k - 2)) (ex (pt b_w 0) s1_2) ei Tryd.underlying158 ShaBT.sz102 om om) (q_val (v := U32 (Sha.w32 rr (k - 2))) (fun w' hw' => y_ld (ex (pt b_w (k - 2))) ShaBT.sc102 (cls_cell (r_b_w.val om ((if_pos om).trans rfl)) r_b_w.lt w' hw')) (q_as e3 (q_as e3 (q_nil ?_))))))))))))))
    intro w11 hb12
    replace r_h := r_h.step hb12
    replace r_b_w := r_b_w.step hb12
    replace hk := grown_thenB hk hb12
    replace hT := Sha.Tabs.below hT hb12
    refine then_n (region_t 29 ShaBT.mixed kr ?_)
    simp only [List.take_succ_cons, List.take_zero, List.drop_succ_cons, List.drop_zero]
    refine q_mv ei (q_mv ei (q_val (fun w' hw' => y_bin ei Ev.c (b_sub om)) (q_val (fun w' hw' => y_ia1z (i := (k - 16)) (ex (pt b_w 0) s1_2) ei Tryd.underlying158 ShaBT.sz102 om om) (q_val (v := U32 (Sha.w32 rr (k - 16))) (fun w' hw' => y_ld (ex (pt b_w (k - 16))) ShaBT.sc102 (cls_cell (r_b_w.val om ((if_pos om).trans rfl)) r_b_w.lt w' hw')) (q_mv e3 (q_call (v := U32 (Sha.rl32 (Sha.w32 rr (k - 15)) (-7))) (Tryd.func97) kr rfl (m2 e3 Ev.c) (fun w' hw' => rotl32_c (Sha.w32 rr (k - 15)) (-7) w') (q_mv e3 (q_call (v := U32 (Sha.rl32 (Sha.w32 rr (k - 15)) (-18))) (Tryd.func97) kr rfl (m2 e3 Ev.c) (fun w' hw' => rotl32_c (Sha.w32 rr (k - 15)) (-18) w') (q_val (fun w' hw' => y_bin e3 e3 xor32) (q_mv e3 (q_val (fun w' hw' => y_bin e3 (evc (.int .u64 3)) (shr32 (c := 3) rfl)) (q_val (fun w' hw' => y_bin e3 e3 xor32) (q_val (fun w' hw' => y_bin e3 e3 add32) (q_mv ei (q_val (fun w' hw' => y_bin ei Ev.c (b_sub om)) (q_val (fun w' hw' => y_ia1z (i := (k - 7)) (ex (pt b_w 0) s1_2) ei Tryd.underlying158 ShaBT.sz102 om om) (q_val (v := U32 (Sha.w32 rr (k - 7))) (fun w' hw' => y_ld (ex (pt b_w (k - 7))) ShaBT.sc102 (cls_cell (r_b_w.val om ((if_pos om).trans rfl)) r_b_w.lt w' hw')) (q_val (fun w' hw' => y_bin e3 e3 add32) (q_mv e3 (q_call (v := U32 (Sha.rl32 (Sha.w32 rr (k - 2)) (-17))) (Tryd.func97) kr rfl (m2 e3 Ev.c) (fun w' hw' => rotl32_c (Sha.w32 rr (k - 2)) (-17) w') (q_mv e3 (q_call (v := U32 (Sha.rl32 (Sha.w32 rr (k - 2)) (-19))) (Tryd.func97) kr rfl (m2 e3 Ev.c) (fun w' hw' => rotl32_c (Sha.w32 rr (k - 2)) (-19) w') (q_val (fun w' hw' => y_bin e3 e3 xor32) (q_mv e3 (q_val (fun w' hw' => y_bin e3 (evc (.int .u64 10)) (shr32 (c := 10) rfl)) (q_val (fun w' hw' => y_bin e3 e3 xor32) (q_val (fun w' hw' => y_bin e3 e3 add32) (q_val (fun w' hw' => y_ia1z (i := k) (ex (pt b_w 0) s1_2) ei Tryd.underlying158 ShaBT.sz102 om om) (q_nil ?_)))))))))))))))))))))))))))))
    intro w13 hb14
    replace r_h := r_h.step hb14
    replace r_b_w := r_b_w.step hb14
    replace hk := grown_thenB hk hb14
    replace hT := Sha.Tabs.below hT hb14
    refine w_st (v := U32 ((((Sha.w32 rr (k - 16)) + (((Sha.rl32 (Sha.w32 rr (k - 15)) (-7)) ^^^ (Sha.rl32 (Sha.w32 rr (k - 15)) (-18))) ^^^ ((Sha.w32 rr (k - 15)) >>> 3))) + (Sha.w32 rr (k - 7))) + (((Sha.rl32 (Sha.w32 rr (k - 2)) (-17)) ^^^ (Sha.rl32 (Sha.w32 rr (k - 2)) (-19))) ^^^ ((Sha.w32 rr (k - 2)) >>> 10)))) (ex (pt b_w k)) e3 rfl rfl ShaBT.sz102 r_b_w om ?_
    clear r_b_w; intro w15 r_b_w hg16 _
    replace r_h := r_h.stepG hg16 om
    replace hk := grown_thenG hk hg16 om
    replace hT := Sha.Tabs.grown hT hg16 om om
    refine wpList_nil (inb_n (then_n (wp_region_lit (w_val (y_bin (ei s1_14) Ev.c (b_add om)) (w_mv ei (wpList_nil ?_))))))
    exact then_n ⟨_, om, k + 1, rfl, _, rfl, iv, s1_0, s1_2, ti, r_h, (r_b_w.congr (fun j hj => by (try dsimp only); by_cases e : j = k; (rw [if_pos e, if_pos om, e]; exact congrArg U32 (by first | exact (Sha.w32_lo rr k om).symm | exact (Sha.w32_hi rr k om).symm)); (rw [if_neg e]; by_cases e2 : j < k; (rw [if_pos e2, if_pos om]); (rw [if_neg e2, if_neg om])))), hT, hk⟩
  ·skip
   refine wp_exit (then_x ?_)
   replace r_b_w := r_b_w.congr (g := fun j => U32 (Sha.w32 rr j)) (fun j hj => by (try dsimp only); rw [if_pos om])
   refine then_x (inb_x (then_n (sr (w_alloc (m := 8) (F := fun j => U32 (0#32)) kr ?_))))
   intro b_v w17 hbe_b_v r_b_v hb18
   have ne_h_b_v := r_h.nb hbe_b_v
   have ne_b_w_b_v := r_b_w.nb hbe_b_v
   have ge_b_v := gb_ hk.size hbe_b_v
   clear hbe_b_v
   replace r_h := r_h.step hb18
   replace r_b_w := r_b_w.step hb18
   replace hk := grown_thenB hk hb18
   replace hT := Sha.Tabs.below hT hb18
   refine nt (wp_seq (sr (w_mv Ev.c (nt (wp_block ?_)))))
   refine c_loop (fun dN aN wl => ∃ (k2 : Nat), dN = (8 - k2) ∧ ∃ f19, aN = fr 211 f19 ∧ (k2 ≤ 8) ∧ f19 0 = pt h 0 ∧ f19 2 = pt b_w 0 ∧ f19 6 = pt b_v 0 ∧ f19 100 = .int .i64 ((k2 : Nat) : Int) ∧ Row wl h 134 139 (Sha.hrow (.int .i64 kd) hh rr (.int .i64 ((n : Nat) : Int)) (U64 al)) ∧ Row wl b_w 158 64 (fun j => U32 (Sha.w32 rr j)) ∧ Row wl b_v 160 8 (fun j => if j < k2 then (fun j => U32 (Sha.v32 rr (fun j => (hh j).setWidth 32) 0 j)) j else (fun j => U32 (0#32)) j) ∧ Sha.Tabs wl ∧ w0.grownBy wl (some h)) (8 - 0) ?_ ?_
   · exact ⟨0, rfl, _, rfl, iv, s1_0, s1_2, rfl, ti, r_h, r_b_w, (r_b_v.cg), hT, hk⟩
   ·skip
    clear r_h r_b_w r_b_v hT hk
    rintro _ _ w20 ⟨k2, rfl, f19, rfl, i2_0, s2_0, s2_2, s2_6, s2_100, r_h, r_b_w, r_b_v, hT, hk⟩
    refine sr (w_val (y_bin (ei s2_100) Ev.c b_lss) (nt (wp_seq ?_)))
    refine c_if (p := ((k2 : Nat) : Int) < 8) eb (fun hc21 => ?_) (fun hc21 => ?_)
    ·skip
     refine wp_skip (then_n (wp_seq (wp_block (sr (w_mv (ei s2_100) (w_as ei (nt (wp_region_lit (w_mv ei (w_mv (ex (pt h 0) s2_0) (w_mv ei (w_val (y_nc (ex (pt h 0))) (w_val (v := pt h 1) (y_off (y_fa (ex (pt h 0)) (ShaBT.fa134_1 _ _)) ro) (w_val (v := pt h (1 + k2)) (y_off (y_ia1 (i := k2) (ex (pt h 1)) ei Tryd.underlying88 ShaBT.sz58 om om) ro) (w_val (v := U64 (hh k2)) (y_ld (ex (pt h (1 + k2))) ShaBT.sc58 (r_h.val om (ng pz))) (w_val (y_u64_u32 e6 ShaBT.so58 Tryd.underlying102) (w_val (y_ia1z (i := k2) (ex (pt b_v 0) s2_6) ei Tryd.underlying160 ShaBT.sz102 om om) (w_st (v := U32 ((hh k2).setWidth 32)) (ex (pt b_v k2)) e3 rfl rfl ShaBT.sz102 r_b_v om ?_))))))))))))))))))
     clear r_b_v; intro w22 r_b_v hg23 _
     replace r_h := r_h.stepG hg23 om
     replace r_b_w := r_b_w.stepG hg23 om
     replace hk := grown_thenG hk hg23 om
     replace hT := Sha.Tabs.grown hT hg23 om om
     refine wpList_nil (inb_n (then_n (wp_region_lit (w_val (y_bin (ei s2_100) Ev.c (b_add om)) (w_mv ei (wpList_nil ?_))))))
     exact then_n ⟨_, om, k2 + 1, rfl, _, rfl, iv, s2_0, s2_2, s2_6, ti, r_h, r_b_w, (r_b_v.congr (fun j hj => by (try dsimp only); by_cases e : j = k2; (rw [if_pos e, if_pos om, e]; exact congrArg U32 (rfl)); (rw [if_neg e]; by_cases e2 : j < k2; (rw [if_pos e2, if_pos om]); (rw [if_neg e2, if_neg om])))), hT, hk⟩
    ·skip
     refine wp_exit (then_x ?_)
     replace r_b_v := r_b_v.congr (g := fun j => U32 (Sha.v32 rr (fun j => (hh j).setWidth 32) 0 j)) (fun j hj => by (try dsimp only); rw [if_pos om])
     refine then_x (inb_x (then_n (wp_seq (sr (w_mv Ev.c (nt (wp_block ?_)))))))
     refine c_loop (fun dN aN wl => ∃ (i : Nat), dN = (64 - i) ∧ ∃ f24, aN = fr 211 f24 ∧ (i ≤ 64) ∧ f24 0 = pt h 0 ∧ f24 2 = pt b_w 0 ∧ f24 6 = pt b_v 0 ∧ f24 113 = .int .i64 ((i : Nat) : Int) ∧ Row wl h 134 139 (Sha.hrow (.int .i64 kd) hh rr (.int .i64 ((n : Nat) : Int)) (U64 al)) ∧ Row wl b_w 158 64 (fun j => U32 (Sha.w32 rr j)) ∧ Row wl b_v 160 8 (fun j => U32 (Sha.v32 rr (fun j => (hh j).setWidth 32) i j)) ∧ Sha.Tabs wl ∧ w0.grownBy wl (some h)) (64 - 0) ?_ ?_
     · exact ⟨0, rfl, _, rfl, iv, s2_0, s2_2, s2_6, ti, r_h, r_b_w, (r_b_v.congr (fun j hj => by rfl)), hT, hk⟩
     ·skip
      clear r_h r_b_w r_b_v hT hk
      rintro _ _ w25 ⟨i, rfl, f24, rfl, i3_0, s3_0, s3_2, s3_6, s3_113, r_h, r_b_w, r_b_v, hT, hk⟩
      refine sr (w_val (y_bin (ei s3_113) Ev.c b_lss) (nt (wp_seq ?_)))
      refine c_if (p := ((i : Nat) : Int) < 64) eb (fun hc26 => ?_) (fun hc26 => ?_)
      ·skip
       refine wp_skip (then_n (wp_seq (wp_block (sr (w_mv (ei s3_113) (w_as ei (nt (wp_seq (region_q ShaBT.mixed kr (q_val (fun w' hw' => y_ia1z (i := 4) (ex (pt b_v 0) s3_6) Ev.c Tryd.underlying160 ShaBT.sz102 om om) (q_val (v := U32 (Sha.v32 rr (fun j => (hh j).setWidth 32) i 4)) (fun w' hw' => y_ld (ex (pt b_v 4)) ShaBT.sc102 (cls_cell (r_b_v.val om rfl) r_b_v.lt w' hw')) (q_val (fun w' hw' => y_ia1z (i := 0) (ex (pt b_v 0) s3_6) Ev.c Tryd.underlying160 ShaBT.sz102 om om) (q_val (v := U32 (Sha.v32 rr (fun j => (hh j).setWidth 32) i 0)) (fun w' hw' => y_ld (ex (pt b_v 0)) ShaBT.sc102 (cls_cell (r_b_v.val om rfl) r_b_v.lt w' hw')) (q_as e3 (q_as e3 (q_nil ?_))))))))))))))))
       intro w27 hb28
       replace r_h := r_h.step hb28
       replace r_b_w := r_b_w.step hb28
       replace r_b_v := r_b_v.step hb28
       replace hk := grown_thenB hk hb28
       replace hT := Sha.Tabs.below hT hb28
       refine then_n (wp_seq (region_q ShaBT.mixed kr (q_val (fun w' hw' => y_ia1z (i := 7) (ex (pt b_v 0) s3_6) Ev.c Tryd.underlying160 ShaBT.sz102 om om) (q_val (v := U32 (Sha.v32 rr (fun j => (hh j).setWidth 32) i 7)) (fun w' hw' => y_ld (ex (pt b_v 7)) ShaBT.sc102 (cls_cell (r_b_v.val om rfl) r_b_v.lt w' hw')) (q_mv e3 (q_call (v := U32 (Sha.rl32 (Sha.v32 rr (fun j => (hh j).setWidth 32) i 4) (-6))) (Tryd.func97) kr rfl (m2 e3 Ev.c) (fun w' hw' => rotl32_c (Sha.v32 rr (fun j => (hh j).setWidth 32) i 4) (-6) w') (q_mv e3 (q_call (v := U32 (Sha.rl32 (Sha.v32 rr (fun j => (hh j).setWidth 32) i 4) (-11))) (Tryd.func97) kr rfl (m2 e3 Ev.c) (fun w' hw' => rotl32_c (Sha.v32 rr (fun j => (hh j).setWidth 32) i 4) (-11) w') (q_val (fun w' hw' => y_bin e3 e3 xor32) (q_mv e3 (q_call (v := U32 (Sha.rl32 (Sha.v32 rr (fun j => (hh j).setWidth 32) i 4) (-25))) (Tryd.func97) kr rfl (m2 e3 Ev.c) (fun w' hw' => rotl32_c (Sha.v32 rr (fun j => (hh j).setWidth 32) i 4) (-25) w') (q_val (fun w' hw' => y_bin e3 e3 xor32) (q_val (fun w' hw' => y_bin e3 e3 add32) (q_val (fun w' hw' => y_ia1z (i := 6) (ex (pt b_v 0) s3_6) Ev.c Tryd.underlying160 ShaBT.sz102 om om) (q_val (v := U32 (Sha.v32 rr (fun j => (hh j).setWidth 32) i 6)) (fun w' hw' => y_ld (ex (pt b_v 6)) ShaBT.sc102 (cls_cell (r_b_v.val om rfl) r_b_v.lt w' hw')) (q_mv e3 (q_val (fun w' hw' => y_ia1z (i := 5) (ex (pt b_v 0) s3_6) Ev.c Tryd.underlying160 ShaBT.sz102 om om) (q_val (v := U32 (Sha.v32 rr (fun j => (hh j).setWidth 32) i 5)) (fun w' hw' => y_ld (ex (pt b_v 5)) ShaBT.sc102 (cls_cell (r_b_v.val om rfl) r_b_v.lt w' hw')) (q_val (fun w' hw' => y_ia1z (i := 6) (ex (pt b_v 0) s3_6) Ev.c Tryd.underlying160 ShaBT.sz102 om om) (q_val (v := U32 (Sha.v32 rr (fun j => (hh j).setWidth 32) i 6)) (fun w' hw' => y_ld (ex (pt b_v 6)) ShaBT.sc102 (cls_cell (r_b_v.val om rfl) r_b_v.lt w' hw')) (q_val (fun w' hw' => y_bin e3 e3 xor32) (q_val (fun w' hw' => y_bin e3 e3 and32) (q_val (fun w' hw' => y_bin e3 e3 xor32) (q_val (fun w' hw' => y_bin e3 e3 add32) (q_mv ei (q_val (fun w' hw' => y_ia1z (i := i) Ev.g ei Tryd.underlying158 ShaBT.sz102 om om) (q_val (v := U32 (Sha.k32 i)) (fun w' hw' => y_ld (ex (pt 0 i)) ShaBT.sc102 ((Sha.Tabs.below hT hw').small om)) (q_val (fun w' hw' => y_bin e3 e3 add32) (q_mv ei (q_val (fun w' hw' => y_ia1z (i := i) (ex (pt b_w 0) s3_2) ei Tryd.underlying158 ShaBT.sz102 om om) (q_val (v := U32 (Sha.w32 rr i)) (fun w' hw' => y_ld (ex (pt b_w i)) ShaBT.sc102 (cls_cell (r_b_w.val om rfl) r_b_w.lt w' hw')) (q_val (fun w' hw' => y_bin e3 e3 add32) (q_as e3 (q_nil ?_))))))))))))))))))))))))))))))))))
       intro w29 hb30
       replace r_h := r_h.step hb30
       replace r_b_w := r_b_w.step hb30
       replace r_b_v := r_b_v.step hb30
       replace hk := grown_thenB hk hb30
       replace hT := Sha.Tabs.below hT hb30
       refine then_n (wp_seq (region_q ShaBT.mixed kr (q_mv e3 (q_call (v := U32 (Sha.rl32 (Sha.v32 rr (fun j => (hh j).setWidth 32) i 0) (-2))) (Tryd.func97) kr rfl (m2 e3 Ev.c) (fun w' hw' => rotl32_c (Sha.v32 rr (fun j => (hh j).setWidth 32) i 0) (-2) w') (q_mv e3 (q_call (v := U32 (Sha.rl32 (Sha.v32 rr (fun j => (hh j).setWidth 32) i 0) (-13))) (Tryd.func97) kr rfl (m2 e3 Ev.c) (fun w' hw' => rotl32_c (Sha.v32 rr (fun j => (hh j).setWidth 32) i 0) (-13) w') (q_val (fun w' hw' => y_bin e3 e3 xor32) (q_mv e3 (q_call (v := U32 (Sha.rl32 (Sha.v32 rr (fun j => (hh j).setWidth 32) i 0) (-22))) (Tryd.func97) kr rfl (m2 e3 Ev.c) (fun w' hw' => rotl32_c (Sha.v32 rr (fun j => (hh j).setWidth 32) i 0) (-22) w') (q_val (fun w' hw' => y_bin e3 e3 xor32) (q_mv e3 (q_val (fun w' hw' => y_ia1z (i := 1) (ex (pt b_v 0) s3_6) Ev.c Tryd.underlying160 ShaBT.sz102 om om) (q_val (v := U32 (Sha.v32 rr (fun j => (hh j).setWidth 32) i 1)) (fun w' hw' => y_ld (ex (pt b_v 1)) ShaBT.sc102 (cls_cell (r_b_v.val om rfl) r_b_v.lt w' hw')) (q_val (fun w' hw' => y_bin e3 e3 and32) (q_val (fun w' hw' => y_ia1z (i := 2) (ex (pt b_v 0) s3_6) Ev.c Tryd.underlying160 ShaBT.sz102 om om) (q_val (v := U32 (Sha.v32 rr (fun j => (hh j).setWidth 32) i 2)) (fun w' hw' => y_ld (ex (pt b_v 2)) ShaBT.sc102 (cls_cell (r_b_v.val om rfl) r_b_v.lt w' hw')) (q_mv e3 (q_val (fun w' hw' => y_ia1z (i := 1) (ex (pt b_v 0) s3_6) Ev.c Tryd.underlying160 ShaBT.sz102 om om) (q_val (v := U32 (Sha.v32 rr (fun j => (hh j).setWidth 32) i 1)) (fun w' hw' => y_ld (ex (pt b_v 1)) ShaBT.sc102 (cls_cell (r_b_v.val om rfl) r_b_v.lt w' hw')) (q_val (fun w' hw' => y_bin e3 e3 or32) (q_val (fun w' hw' => y_bin e3 e3 and32) (q_val (fun w' hw' => y_bin e3 e3 or32) (q_val (fun w' hw' => y_bin e3 e3 add32) (q_as e3 (q_nil ?_)))))))))))))))))))))))))
       intro w31 hb32
       replace r_h := r_h.step hb32
       replace r_b_w := r_b_w.step hb32
       replace r_b_v := r_b_v.step hb32
       replace hk := grown_thenB hk hb32
       replace hT := Sha.Tabs.below hT hb32
       refine then_n (wp_region_lit (w_mv e3 (w_mv e3 (w_val (y_bin e3 e3 add32) (w_mv e3 (w_val (y_ia1z (i := 1) (ex (pt b_v 0) s3_6) Ev.c Tryd.underlying160 ShaBT.sz102 om om) (w_val (v := U32 (Sha.v32 rr (fun j => (hh j).setWidth 32) i 1)) (y_ld (ex (pt b_v 1)) ShaBT.sc102 (r_b_v.val om rfl)) (w_val (y_ia1z (i := 2) (ex (pt b_v 0) s3_6) Ev.c Tryd.underlying160 ShaBT.sz102 om om) (w_val (v := U32 (Sha.v32 rr (fun j => (hh j).setWidth 32) i 2)) (y_ld (ex (pt b_v 2)) ShaBT.sc102 (r_b_v.val om rfl)) (w_val (y_ia1z (i := 3) (ex (pt b_v 0) s3_6) Ev.c Tryd.underlying160 ShaBT.sz102 om om) (w_val (v := U32 (Sha.v32 rr (fun j => (hh j).setWidth 32) i 3)) (y_ld (ex (pt b_v 3)) ShaBT.sc102 (r_b_v.val om rfl)) (w_mv e3 (w_val (y_bin e3 e3 add32) (w_mv e3 (w_val (y_ia1z (i := 5) (ex (pt b_v 0) s3_6) Ev.c Tryd.underlying160 ShaBT.sz102 om om) (w_val (v := U32 (Sha.v32 rr (fun j => (hh j).setWidth 32) i 5)) (y_ld (ex (pt b_v 5)) ShaBT.sc102 (r_b_v.val om rfl)) (w_val (y_ia1z (i := 6) (ex (pt b_v 0) s3_6) Ev.c Tryd.underlying160 ShaBT.sz102 om om) (w_val (v := U32 (Sha.v32 rr (fun j => (hh j).setWidth 32) i 6)) (y_ld (ex (pt b_v 6)) ShaBT.sc102 (r_b_v.val om rfl)) (w_val (v := .agg (arr 8 (fun j => if j < 1 then U32 ((((((Sha.v32 rr (fun j => (hh j).setWidth 32) i 7) + (((Sha.rl32 (Sha.v32 rr (fun j => (hh j).setWidth 32) i 4) (-6)) ^^^ (Sha.rl32 (Sha.v32 rr (fun j => (hh j).setWidth 32) i 4) (-11))) ^^^ (Sha.rl32 (Sha.v32 rr (fun j => (hh j).setWidth 32) i 4) (-25)))) + ((Sha.v32 rr (fun j => (hh j).setWidth 32) i 6) ^^^ ((Sha.v32 rr (fun j => (hh j).setWidth 32) i 4) &&& ((Sha.v32 rr (fun j => (hh j).setWidth 32) i 5) ^^^ (Sha.v32 rr (fun j => (hh j).setWidth 32) i 6))))) + (Sha.k32 i)) + (Sha.w32 rr i)) + ((((Sha.rl32 (Sha.v32 rr (fun j => (hh j).setWidth 32) i 0) (-2)) ^^^ (Sha.rl32 (Sha.v32 rr (fun j => (hh j).setWidth 32) i 0) (-13))) ^^^ (Sha.rl32 (Sha.v32 rr (fun j => (hh j).setWidth 32) i 0) (-22))) + (((Sha.v32 rr (fun j => (hh j).setWidth 32) i 0) &&& (Sha.v32 rr (fun j => (hh j).setWidth 32) i 1)) ||| ((Sha.v32 rr (fun j => (hh j).setWidth 32) i 2) &&& ((Sha.v32 rr (fun j => (hh j).setWidth 32) i 0) ||| (Sha.v32 rr (fun j => (hh j).setWidth 32) i 1)))))) else if j < 2 then U32 (Sha.v32 rr (fun j => (hh j).setWidth 32) i 0) else if j < 3 then U32 (Sha.v32 rr (fun j => (hh j).setWidth 32) i 1) else if j < 4 then U32 (Sha.v32 rr (fun j => (hh j).setWidth 32) i 2) else if j < 5 then U32 ((Sha.v32 rr (fun j => (hh j).setWidth 32) i 3) + (((((Sha.v32 rr (fun j => (hh j).setWidth 32) i 7) + (((Sha.rl32 (Sha.v32 rr (fun j => (hh j).setWidth 32) i 4) (-6)) ^^^ (Sha.rl32 (Sha.v32 rr (fun j => (hh j).setWidth 32) i 4) (-11))) ^^^ (Sha.rl32 (Sha.v32 rr (fun j => (hh j).setWidth 32) i 4) (-25)))) + ((Sha.v32 rr (fun j => (hh j).setWidth 32) i 6) ^^^ ((Sha.v32 rr (fun j => (hh j).setWidth 32) i 4) &&& ((Sha.v32 rr (fun j => (hh j).setWidth 32) i 5) ^^^ (Sha.v32 rr (fun j => (hh j).setWidth 32) i 6))))) + (Sha.k32 i)) + (Sha.w32 rr i))) else if j < 6 then U32 (Sha.v32 rr (fun j => (hh j).setWidth 32) i 4) else if j < 7 then U32 (Sha.v32 rr (fun j => (hh j).setWidth 32) i 5) else U32 (Sha.v32 rr (fun j => (hh j).setWidth 32) i 6)))) (y_build (vs := #[(0, U32 ((((((Sha.v32 rr (fun j => (hh j).setWidth 32) i 7) + (((Sha.rl32 (Sha.v32 rr (fun j => (hh j).setWidth 32) i 4) (-6)) ^^^ (Sha.rl32 (Sha.v32 rr (fun j => (hh j).setWidth 32) i 4) (-11))) ^^^ (Sha.rl32 (Sha.v32 rr (fun j => (hh j).setWidth 32) i 4) (-25)))) + ((Sha.v32 rr (fun j => (hh j).setWidth 32) i 6) ^^^ ((Sha.v32 rr (fun j => (hh j).setWidth 32) i 4) &&& ((Sha.v32 rr (fun j => (hh j).setWidth 32) i 5) ^^^ (Sha.v32 rr (fun j => (hh j).setWidth 32) i 6))))) + (Sha.k32 i)) + (Sha.w32 rr i)) + ((((Sha.rl32 (Sha.v32 rr (fun j => (hh j).setWidth 32) i 0) (-2)) ^^^ (Sha.rl32 (Sha.v32 rr (fun j => (hh j).setWidth 32) i 0) (-13))) ^^^ (Sha.rl32 (Sha.v32 rr (fun j => (hh j).setWidth 32) i 0) (-22))) + (((Sha.v32 rr (fun j => (hh j).setWidth 32) i 0) &&& (Sha.v32 rr (fun j => (hh j).setWidth 32) i 1)) ||| ((Sha.v32 rr (fun j => (hh j).setWidth 32) i 2) &&& ((Sha.v32 rr (fun j => (hh j).setWidth 32) i 0) ||| (Sha.v32 rr (fun j => (hh j).setWidth 32) i 1))))))), (1, U32 (Sha.v32 rr (fun j => (hh j).setWidth 32) i 0)), (2, U32 (Sha.v32 rr (fun j => (hh j).setWidth 32) i 1)), (3, U32 (Sha.v32 rr (fun j => (hh j).setWidth 32) i 2)), (4, U32 ((Sha.v32 rr (fun j => (hh j).setWidth 32) i 3) + (((((Sha.v32 rr (fun j => (hh j).setWidth 32) i 7) + (((Sha.rl32 (Sha.v32 rr (fun j => (hh j).setWidth 32) i 4) (-6)) ^^^ (Sha.rl32 (Sha.v32 rr (fun j => (hh j).setWidth 32) i 4) (-11))) ^^^ (Sha.rl32 (Sha.v32 rr (fun j => (hh j).setWidth 32) i 4) (-25)))) + ((Sha.v32 rr (fun j => (hh j).setWidth 32) i 6) ^^^ ((Sha.v32 rr (fun j => (hh j).setWidth 32) i 4) &&& ((Sha.v32 rr (fun j => (hh j).setWidth 32) i 5) ^^^ (Sha.v32 rr (fun j => (hh j).setWidth 32) i 6))))) + (Sha.k32 i)) + (Sha.w32 rr i)))), (5, U32 (Sha.v32 rr (fun j => (hh j).setWidth 32) i 4)), (6, U32 (Sha.v32 rr (fun j => (hh j).setWidth 32) i 5)), (7, U32 (Sha.v32 rr (fun j => (hh j).setWidth 32) i 6))]) (mp_cons e3 (mp_cons e3 (mp_cons e3 (mp_cons e3 (mp_cons e3 (mp_cons e3 (mp_cons e3 (mp_cons e3 mp0)))))))) (fun w => by kernel_rfl)) (w_sta (k := 8) (G := fun j => if j < 1 then U32 ((((((Sha.v32 rr (fun j => (hh j).setWidth 32) i 7) + (((Sha.rl32 (Sha.v32 rr (fun j => (hh j).setWidth 32) i 4) (-6)) ^^^ (Sha.rl32 (Sha.v32 rr (fun j => (hh j).setWidth 32) i 4) (-11))) ^^^ (Sha.rl32 (Sha.v32 rr (fun j => (hh j).setWidth 32) i 4) (-25)))) + ((Sha.v32 rr (fun j => (hh j).setWidth 32) i 6) ^^^ ((Sha.v32 rr (fun j => (hh j).setWidth 32) i 4) &&& ((Sha.v32 rr (fun j => (hh j).setWidth 32) i 5) ^^^ (Sha.v32 rr (fun j => (hh j).setWidth 32) i 6))))) + (Sha.k32 i)) + (Sha.w32 rr i)) + ((((Sha.rl32 (Sha.v32 rr (fun j => (hh j).setWidth 32) i 0) (-2)) ^^^ (Sha.rl32 (Sha.v32 rr (fun j => (hh j).setWidth 32) i 0) (-13))) ^^^ (Sha.rl32 (Sha.v32 rr (fun j => (hh j).setWidth 32) i 0) (-22))) + (((Sha.v32 rr (fun j => (hh j).setWidth 32) i 0) &&& (Sha.v32 rr (fun j => (hh j).setWidth 32) i 1)) ||| ((Sha.v32 rr (fun j => (hh j).setWidth 32) i 2) &&& ((Sha.v32 rr (fun j => (hh j).setWidth 32) i 0) ||| (Sha.v32 rr (fun j => (hh j).setWidth 32) i 1)))))) else if j < 2 then U32 (Sha.v32 rr (fun j => (hh j).setWidth 32) i 0) else if j < 3 then U32 (Sha.v32 rr (fun j => (hh j).setWidth 32) i 1) else if j < 4 then U32 (Sha.v32 rr (fun j => (hh j).setWidth 32) i 2) else if j < 5 then U32 ((Sha.v32 rr (fun j => (hh j).setWidth 32) i 3) + (((((Sha.v32 rr (fun j => (hh j).setWidth 32) i 7) + (((Sha.rl32 (Sha.v32 rr (fun j => (hh j).setWidth 32) i 4) (-6)) ^^^ (Sha.rl32 (Sha.v32 rr (fun j => (hh j).setWidth 32) i 4) (-11))) ^^^ (Sha.rl32 (Sha.v32 rr (fun j => (hh j).setWidth 32) i 4) (-25)))) + ((Sha.v32 rr (fun j => (hh j).setWidth 32) i 6) ^^^ ((Sha.v32 rr (fun j => (hh j).setWidth 32) i 4) &&& ((Sha.v32 rr (fun j => (hh j).setWidth 32) i 5) ^^^ (Sha.v32 rr (fun j => (hh j).setWidth 32) i 6))))) + (Sha.k32 i)) + (Sha.w32 rr i))) else if j < 6 then U32 (Sha.v32 rr (fun j => (hh j).setWidth 32) i 4) else if j < 7 then U32 (Sha.v32 rr (fun j => (hh j).setWidth 32) i 5) else U32 (Sha.v32 rr (fun j => (hh j).setWidth 32) i 6)) (ex (pt b_v 0) s3_6) ea oc ShaBT.sz160 r_b_v om ?_))))))))))))))))))))
       clear r_b_v; intro w33 r_b_v hg34 _
       replace r_b_v := r_b_v.congr (g := fun j => if j < 1 then U32 ((((((Sha.v32 rr (fun j => (hh j).setWidth 32) i 7) + (((Sha.rl32 (Sha.v32 rr (fun j => (hh j).setWidth 32) i 4) (-6)) ^^^ (Sha.rl32 (Sha.v32 rr (fun j => (hh j).setWidth 32) i 4) (-11))) ^^^ (Sha.rl32 (Sha.v32 rr (fun j => (hh j).setWidth 32) i 4) (-25)))) + ((Sha.v32 rr (fun j => (hh j).setWidth 32) i 6) ^^^ ((Sha.v32 rr (fun j => (hh j).setWidth 32) i 4) &&& ((Sha.v32 rr (fun j => (hh j).setWidth 32) i 5) ^^^ (Sha.v32 rr (fun j => (hh j).setWidth 32) i 6))))) + (Sha.k32 i)) + (Sha.w32 rr i)) + ((((Sha.rl32 (Sha.v32 rr (fun j => (hh j).setWidth 32) i 0) (-2)) ^^^ (Sha.rl32 (Sha.v32 rr (fun j => (hh j).setWidth 32) i 0) (-13))) ^^^ (Sha.rl32 (Sha.v32 rr (fun j => (hh j).setWidth 32) i 0) (-22))) + (((Sha.v32 rr (fun j => (hh j).setWidth 32) i 0) &&& (Sha.v32 rr (fun j => (hh j).setWidth 32) i 1)) ||| ((Sha.v32 rr (fun j => (hh j).setWidth 32) i 2) &&& ((Sha.v32 rr (fun j => (hh j).setWidth 32) i 0) ||| (Sha.v32 rr (fun j => (hh j).setWidth 32) i 1)))))) else if j < 2 then U32 (Sha.v32 rr (fun j => (hh j).setWidth 32) i 0) else if j < 3 then U32 (Sha.v32 rr (fun j => (hh j).setWidth 32) i 1) else if j < 4 then U32 (Sha.v32 rr (fun j => (hh j).setWidth 32) i 2) else if j < 5 then U32 ((Sha.v32 rr (fun j => (hh j).setWidth 32) i 3) + (((((Sha.v32 rr (fun j => (hh j).setWidth 32) i 7) + (((Sha.rl32 (Sha.v32 rr (fun j => (hh j).setWidth 32) i 4) (-6)) ^^^ (Sha.rl32 (Sha.v32 rr (fun j => (hh j).setWidth 32) i 4) (-11))) ^^^ (Sha.rl32 (Sha.v32 rr (fun j => (hh j).setWidth 32) i 4) (-25)))) + ((Sha.v32 rr (fun j => (hh j).setWidth 32) i 6) ^^^ ((Sha.v32 rr (fun j => (hh j).setWidth 32) i 4) &&& ((Sha.v32 rr (fun j => (hh j).setWidth 32) i 5) ^^^ (Sha.v32 rr (fun j => (hh j).setWidth 32) i 6))))) + (Sha.k32 i)) + (Sha.w32 rr i))) else if j < 6 then U32 (Sha.v32 rr (fun j => (hh j).setWidth 32) i 4) else if j < 7 then U32 (Sha.v32 rr (fun j => (hh j).setWidth 32) i 5) else U32 (Sha.v32 rr (fun j => (hh j).setWidth 32) i 6)) (fun j hj => by rw [if_pos ⟨Nat.zero_le _, by omega⟩]; first | rfl | (simp only [Nat.sub_zero]))
       replace r_h := r_h.stepG hg34 om
       replace r_b_w := r_b_w.stepG hg34 om
       replace hk := grown_thenG hk hg34 om
       replace hT := Sha.Tabs.grown hT hg34 om om
       refine wpList_nil (inb_n (then_n (wp_region_lit (w_val (y_bin (ei s3_113) Ev.c (b_add om)) (w_mv ei (wpList_nil ?_))))))
       exact then_n ⟨_, om, i + 1, rfl, _, rfl, iv, s3_0, s3_2, s3_6, ti, r_h, r_b_w, (r_b_v.congr (fun j hj => by exact Sha.eight_row32 rr _ i j hj)), hT, hk⟩
      ·skip
       refine wp_exit (then_x ?_)
       replace r_b_v := r_b_v.congr (g := fun j => U32 (Sha.v32 rr (fun j => (hh j).setWidth 32) 64 j)) (fun j hj => by (try dsimp only); rw [show i = 64 from by omega])
       refine then_x (inb_x (then_n (sr (w_mv Ev.c (nt (wp_block ?_))))))
       refine c_loop (fun dN aN wl => ∃ (k4 : Nat), dN = (8 - k4) ∧ ∃ f35, aN = fr 211 f35 ∧ (k4 ≤ 8) ∧ f35 0 = pt h 0 ∧ f35 6 = pt b_v 0 ∧ f35 190 = .int .i64 ((k4 : Nat) : Int) ∧ Row wl h 134 139 (Sha.hrow (.int .i64 kd) (fun i => if i < k4 then Sha.comp true rr hh i else hh i) rr (.int .i64 ((n : Nat) : Int)) (U64 al)) ∧ Row wl b_w 158 64 (fun j => U32 (Sha.w32 rr j)) ∧ Row wl b_v 160 8 (fun j => U32 (Sha.v32 rr (fun j => (hh j).setWidth 32) 64 j)) ∧ Sha.Tabs wl ∧ w0.grownBy wl (some h)) (8 - 0) ?_ ?_
       · exact ⟨0, rfl, _, rfl, iv, s3_0, s3_6, ti, (r_h.congr (fun j hj => by exact Sha.words_init _ _ _ _ _ _ j)), r_b_w, r_b_v, hT, hk⟩
       ·skip
        clear r_h r_b_w r_b_v hT hk
        rintro _ _ w36 ⟨k4, rfl, f35, rfl, i4_0, s4_0, s4_6, s4_190, r_h, r_b_w, r_b_v, hT, hk⟩
        refine sr (w_val (y_bin (ei s4_190) Ev.c b_lss) (nt (wp_seq ?_)))
        refine c_if (p := ((k4 : Nat) : Int) < 8) eb (fun hc37 => ?_) (fun hc37 => ?_)
        ·skip
         refine wp_skip (then_n (wp_seq (wp_block (sr (w_mv (ei s4_190) (w_as ei (nt (region_t 17 ShaBT.mixed kr ?_))))))))
         simp only [List.take_succ_cons, List.take_zero, List.drop_succ_cons, List.drop_zero]
         refine q_mv (ex (pt h 0) s4_0) (q_mv ei (q_mv (ex (pt h 0) s4_0) (q_mv ei (q_val (fun w' hw' => y_nc (ex (pt h 0))) (q_val (v := pt h 1) (fun w' hw' => y_off (y_fa (ex (pt h 0)) (ShaBT.fa134_1 _ _)) ro) (q_val (v := pt h (1 + k4)) (fun w' hw' => y_off (y_ia1 (i := k4) (ex (pt h 1)) ei Tryd.underlying88 ShaBT.sz58 om om) ro) (q_val (v := U64 ((fun i => if i < k4 then Sha.comp true rr hh i else hh i) k4)) (fun w' hw' => y_ld (ex (pt h (1 + k4))) ShaBT.sc58 (cls_cell (r_h.val om (ng pz)) r_h.lt w' hw')) (q_val (fun w' hw' => y_u64_u32 e6 ShaBT.so58 Tryd.underlying102) (q_mv ei (q_val (fun w' hw' => y_ia1z (i := k4) (ex (pt b_v 0) s4_6) ei Tryd.underlying160 ShaBT.sz102 om om) (q_val (v := U32 (Sha.v32 rr (fun j => (hh j).setWidth 32) 64 k4)) (fun w' hw' => y_ld (ex (pt b_v k4)) ShaBT.sc102 (cls_cell (r_b_v.val om rfl) r_b_v.lt w' hw')) (q_val (fun w' hw' => y_bin e3 e3 add32) (q_val (fun w' hw' => y_u32_u64 e3 ShaBT.so102 Tryd.underlying58) (q_val (fun w' hw' => y_nc (ex (pt h 0))) (q_val (v := pt h 1) (fun w' hw' => y_off (y_fa (ex (pt h 0)) (ShaBT.fa134_1 _ _)) ro) (q_val (v := pt h (1 + k4)) (fun w' hw' => y_off (y_ia1 (i := k4) (ex (pt h 1)) ei Tryd.underlying88 ShaBT.sz58 om om) ro) (q_nil ?_)))))))))))))))))
         intro w38 hb39
         replace r_h := r_h.step hb39
         replace r_b_w := r_b_w.step hb39
         replace r_b_v := r_b_v.step hb39
         replace hk := grown_thenB hk hb39
         replace hT := Sha.Tabs.below hT hb39
         refine w_st (v := U64 (((((fun i => if i < k4 then Sha.comp true rr hh i else hh i) k4).setWidth 32) + (Sha.v32 rr (fun j => (hh j).setWidth 32) 64 k4)).setWidth 64)) (ex (pt h (1 + k4))) e6 rfl rfl ShaBT.sz58 r_h om ?_
         clear r_h; intro w40 r_h hg41 _
         replace r_b_w := r_b_w.stepG hg41 om
         replace r_b_v := r_b_v.stepG hg41 om
         replace hk := grown_thenG hk hg41 om
         replace hT := Sha.Tabs.grown hT hg41 om om
         refine wpList_nil (inb_n (then_n (wp_region_lit (w_val (y_bin (ei s4_190) Ev.c (b_add om)) (w_mv ei (wpList_nil ?_))))))
         exact then_n ⟨_, om, k4 + 1, rfl, _, rfl, iv, s4_0, s4_6, ti, (r_h.congr (fun j hj => by exact Sha.words_step _ _ _ _ _ _ _ k4 j om (by (try dsimp only); rw [if_neg (Nat.lt_irrefl k4)]; exact Sha.few_eq rr hh k4 hs))), r_b_w, r_b_v, hT, hk⟩
        ·skip
         refine wp_exit (then_x ?_)
         replace r_h := r_h.congr (g := Sha.hrow (.int .i64 kd) (Sha.comp true rr hh) rr (.int .i64 ((n : Nat) : Int)) (U64 al)) (fun j hj => by exact Sha.words_done _ _ _ _ _ _ j hj om)
         refine then_x (inb_x (fin_end0 rfl ?_))
         exact ⟨rfl, r_h, hk⟩

theorem many_c (h n : Nat) (h1 : 0 < h ∧ 1 < h) (kd : Int) (hh : Nat → BitVec 64) (rr : Nat → BitVec 8) (al : BitVec 64) (w0 : World) (r_h : Row w0 h 134 139 (Sha.hrow (.int .i64 kd) hh rr (.int .i64 ((n : Nat) : Int)) (U64 al))) (hT : Sha.Tabs w0) : Calls Tryd.prog 89 #[pt h 0] w0 fun e w' => e = .returned (.tuple #[]) ∧ Row w' h 134 139 (Sha.hrow (.int .i64 kd) (Sha.comp false rr hh) rr (.int .i64 ((n : Nat) : Int)) (U64 al)) ∧ w0.grownBy w' (some h) := by
 have hT0 := hT.lt
 refine enter (n := 176) Tryd.func89 rfl rfl rfl ?_
 have hk : w0.grownBy w0 (some h) := grown_refl _ _
 have lt_h := r_h.lt
 refine sr (w_alloc (m := 80) (F := fun j => U64 (0#64)) kr ?_)
 intro b_w w1 hbe_b_w r_b_w hb2
 have ne_h_b_w := r_h.nb hbe_b_w
 have ge_b_w := gb_ hk.size hbe_b_w
 clear hbe_b_w
 replace r_h := r_h.step hb2
 replace hk := grown_thenB hk hb2
 replace hT := Sha.Tabs.below hT hb2
 refine nt (wp_seq (sr (w_mv Ev.c (nt (wp_block ?_)))))
 refine c_loop (fun dN aN wl => ∃ (k : Nat), dN = (80 - k) ∧ ∃ f3, aN = fr 176 f3 ∧ (k ≤ 80) ∧ f3 0 = pt h 0 ∧ f3 2 = pt b_w 0 ∧ f3 14 = .int .i64 ((k : Nat) : Int) ∧ Row wl h 134 139 (Sha.hrow (.int .i64 kd) hh rr (.int .i64 ((n : Nat) : Int)) (U64 al)) ∧ Row wl b_w 161 80 (fun j => if j < k then (fun j => U64 (Sha.w false rr j)) j else (fun j => U64 (0#64)) j) ∧ Sha.Tabs wl ∧ w0.grownBy wl (some h)) (80 - 0) ?_ ?_
 · exact ⟨0, rfl, _, rfl, iv, rfl, rfl, ti, r_h, (r_b_w.cg), hT, hk⟩
 ·skip
  clear r_h r_b_w hT hk
  rintro _ _ w4 ⟨k, rfl, f3, rfl, i1_0, s1_0, s1_2, s1_14, r_h, r_b_w, hT, hk⟩
  refine sr (w_val (y_bin (ei s1_14) Ev.c b_lss) (nt (wp_seq ?_)))
  refine c_if (p := ((k : Nat) : Int) < 80) eb (fun hc5 => ?_) (fun hc5 => ?_)
  ·skip
   refine wp_skip (then_n (wp_seq (wp_block (sr (w_mv (ei s1_14) (w_as ei (nt (wp_seq (sr (w_mv ei (w_val (y_bin ei Ev.c b_lss) (nt ?_))))))))))))
   refine c_if (p := ((k : Nat) : Int) < 16) eb (fun hc6 => ?_) (fun hc6 => ?_)
   ·skip
    refine wp_seq (sr (w_mv Ev.c (nt (wp_block ?_))))
    refine c_loop (fun dN aN wl => ∃ (q : Nat), dN = (8 - q) ∧ ∃ f7, aN = fr 176 f7 ∧ (q ≤ 8) ∧ f7 0 = pt h 0 ∧ f7 2 = pt b_w 0 ∧ f7 3 = .int .i64 ((k : Nat) : Int) ∧ f7 14 = .int .i64 ((k : Nat) : Int) ∧ f7 19 = .int .i64 ((q : Nat) : Int) ∧ Row wl h 134 139 (Sha.hrow (.int .i64 kd) hh rr (.int .i64 ((n : Nat) : Int)) (U64 al)) ∧ Row wl b_w 161 80 (fun j => if j < k then (fun j => U64 (Sha.w false rr j)) j else (fun j => if j = k then U64 (Sha.bw (fun i => rr (8 * k + i)) q) else (fun j => U64 (0#64)) j) j) ∧ Sha.Tabs wl ∧ w0.grownBy wl (some h)) (8 - 0) ?_ ?_
    · exact ⟨0, rfl, _, rfl, iv, s1_0, s1_2, rfl, s1_14, ti, r_h, (r_b_w.congr (fun j hj => by exact Sha.bytes_init rr k j)), hT, hk⟩
    ·skip
     clear r_h r_b_w hT hk
     rintro _ _ w8 ⟨q, rfl, f7, rfl, i2_0, s2_0, s2_2, s2_3, s2_14, s2_19, r_h, r_b_w, hT, hk⟩
     refine sr (w_val (y_bin (ei s2_19) Ev.c b_lss) (nt (wp_seq ?_)))
     refine c_if (p := ((q : Nat) : Int) < 8) eb (fun hc9 => ?_) (fun hc9 => ?_)
     ·skip
      refine wp_skip (then_n (wp_seq (wp_block (sr (w_mv (ei s2_19) (w_as ei (nt (region_t 17 ShaBT.mixed kr ?_))))))))
      simp only [List.take_succ_cons, List.take_zero, List.drop_succ_cons, List.drop_zero]
      refine q_mv (ei s2_3) (q_mv (ei s2_3) (q_val (fun w' hw' => y_ia1z (i := k) (ex (pt b_w 0) s2_2) ei Tryd.underlying161 ShaBT.sz58 om om) (q_val (v := U64 (Sha.bw (fun i => rr (8 * k + i)) q)) (fun w' hw' => y_ld (ex (pt b_w k)) ShaBT.sc58 (cls_cell (r_b_w.val om (ng (if_pos rfl))) r_b_w.lt w' hw')) (q_val (fun w' hw' => y_bin e6 (evc (.int .u64 8)) (shl64 (c := 8) rfl)) (q_mv (ex (pt h 0) s2_0) (q_mv (ei s2_3) (q_val (fun w' hw' => y_bin Ev.c ei (b_mul om)) (q_mv ei (q_val (fun w' hw' => y_bin ei ei (b_add om)) (q_val (fun w' hw' => y_nc (ex (pt h 0))) (q_val (v := pt h 9) (fun w' hw' => y_off (y_fa (ex (pt h 0)) (ShaBT.fa134_2 _ _)) ro) (q_val (v := pt h (9 + ((8 * k) + q))) (fun w' hw' => y_off (y_ia1 (i := ((8 * k) + q)) (ex (pt h 9)) ei Tryd.underlying132 ShaBT.sz5 om om) ro) (q_val (v := U8 (rr ((8 * k) + q))) (fun w' hw' => y_ld (ex (pt h (9 + ((8 * k) + q)))) ShaBT.sc5 (cls_cell (r_h.val om (ng (ng pz))) r_h.lt w' hw')) (q_val (fun w' hw' => y_u8_u64 e8 ShaBT.so5 Tryd.underlying58) (q_val (fun w' hw' => y_bin e6 e6 or64) (q_val (fun w' hw' => y_ia1z (i := k) (ex (pt b_w 0) s2_2) ei Tryd.underlying161 ShaBT.sz58 om om) (q_nil ?_)))))))))))))))))
      intro w10 hb11
      replace r_h := r_h.step hb11
      replace r_b_w := r_b_w.step hb11
      replace hk := grown_thenB hk hb11
      replace hT := Sha.Tabs.below hT hb11
      refine w_st (v := U64 (((Sha.bw (fun i => rr (8 * k + i)) q) <<< 8) ||| ((rr ((8 * k) + q)).setWidth 64))) (ex (pt b_w k)) e6 rfl rfl ShaBT.sz58 r_b_w om ?_
      clear r_b_w; intro w12 r_b_w hg13 _
      replace r_h := r_h.stepG hg13 om
      replace hk := grown_thenG hk hg13 om
      replace hT := Sha.Tabs.grown hT hg13 om om
      refine wpList_nil (inb_n (then_n (wp_region_lit (w_val (y_bin (ei s2_19) Ev.c (b_add om)) (w_mv ei (wpList_nil ?_))))))
      exact then_n ⟨_, om, q + 1, rfl, _, rfl, iv, s2_0, s2_2, s2_3, s2_14, ti, r_h, (r_b_w.congr (fun j hj => by exact Sha.bytes_step rr k q j)), hT, hk⟩
     ·skip
      refine wp_exit (then_x (then_x (inb_x (then_n (wp_exit (then_x (inb_x (then_n (wp_region_lit (w_val (y_bin (ei s2_14) Ev.c (b_add om)) (w_mv ei (wpList_nil ?_))))))))))))
      exact then_n ⟨_, om, k + 1, rfl, _, rfl, iv, s2_0, s2_2, ti, r_h, (r_b_w.congr (fun j hj => by first | ((try dsimp only); by_cases e : j = k; (rw [if_pos e, if_pos om, e]; exact congrArg U64 (by first | exact (Sha.w64_hi rr k om).symm)); (rw [if_neg e]; by_cases e2 : j < k; (rw [if_pos e2, if_pos om]); (rw [if_neg e2, if_neg om]))) | exact Sha.bytes_done rr k j om om)), hT, hk⟩
   ·skip
    refine wp_skip (then_n (wp_seq (region_q ShaBT.mixed kr (q_mv ei (q_val (fun w' hw' => y_bin ei Ev.c (b_sub om)) (q_val (fun w' hw' => y_ia1z (i := (k - 15)) (ex (pt b_w 0) s1_2) ei Tryd.underlying161 ShaBT.sz58 om om) (q_val (v := U64 (Sha.w false rr (k - 15))) (fun w' hw' => y_ld (ex (pt b_w (k - 15))) ShaBT.sc58 (cls_cell (r_b_w.val om ((if_pos om).trans rfl)) r_b_w.lt w' hw')) (q_mv ei (q_val (fun w' hw' => y_bin ei Ev.c (b_sub om)) (q_val (fun w' hw' => y_ia1z (i := (k - 2)) (ex (pt b_w 0) s1_2) ei Tryd.underlying161 ShaBT.sz58 om om) (q_val (v := U64 (Sha.w false rr (k - 2))) (fun w' hw' => y_ld (ex (pt b_w (k - 2))) ShaBT.sc58 (cls_cell (r_b_w.val om ((if_pos om).trans rfl)) r_b_w.lt w' hw')) (q_as e6 (q_as e6 (q_nil ?_))))))))))))))
    intro w14 hb15
    replace r_h := r_h.step hb15
    replace r_b_w := r_b_w.step hb15
    replace hk := grown_thenB hk hb15
    replace hT := Sha.Tabs.below hT hb15
    refine then_n (region_t 29 ShaBT.mixed kr ?_)
    simp only [List.take_succ_cons, List.take_zero, List.drop_succ_cons, List.drop_zero]
    refine q_mv ei (q_mv ei (q_val (fun w' hw' => y_bin ei Ev.c (b_sub om)) (q_val (fun w' hw' => y_ia1z (i := (k - 16)) (ex (pt b_w 0) s1_2) ei Tryd.underlying161 ShaBT.sz58 om om) (q_val (v := U64 (Sha.w false rr (k - 16))) (fun w' hw' => y_ld (ex (pt b_w (k - 16))) ShaBT.sc58 (cls_cell (r_b_w.val om ((if_pos om).trans rfl)) r_b_w.lt w' hw')) (q_mv e6 (q_call (v := U64 (Sha.rl64 (Sha.w false rr (k - 15)) (-1))) (Tryd.func98) kr rfl (m2 e6 Ev.c) (fun w' hw' => rotl64_c (Sha.w false rr (k - 15)) (-1) w') (q_mv e6 (q_call (v := U64 (Sha.rl64 (Sha.w false rr (k - 15)) (-8))) (Tryd.func98) kr rfl (m2 e6 Ev.c) (fun w' hw' => rotl64_c (Sha.w false rr (k - 15)) (-8) w') (q_val (fun w' hw' => y_bin e6 e6 xor64) (q_mv e6 (q_val (fun w' hw' => y_bin e6 (evc (.int .u64 7)) (shr64 (c := 7) rfl)) (q_val (fun w' hw' => y_bin e6 e6 xor64) (q_val (fun w' hw' => y_bin e6 e6 add64) (q_mv ei (q_val (fun w' hw' => y_bin ei Ev.c (b_sub om)) (q_val (fun w' hw' => y_ia1z (i := (k - 7)) (ex (pt b_w 0) s1_2) ei Tryd.underlying161 ShaBT.sz58 om om) (q_val (v := U64 (Sha.w false rr (k - 7))) (fun w' hw' => y_ld (ex (pt b_w (k - 7))) ShaBT.sc58 (cls_cell (r_b_w.val om ((if_pos om).trans rfl)) r_b_w.lt w' hw')) (q_val (fun w' hw' => y_bin e6 e6 add64) (q_mv e6 (q_call (v := U64 (Sha.rl64 (Sha.w false rr (k - 2)) (-19))) (Tryd.func98) kr rfl (m2 e6 Ev.c) (fun w' hw' => rotl64_c (Sha.w false rr (k - 2)) (-19) w') (q_mv e6 (q_call (v := U64 (Sha.rl64 (Sha.w false rr (k - 2)) (-61))) (Tryd.func98) kr rfl (m2 e6 Ev.c) (fun w' hw' => rotl64_c (Sha.w false rr (k - 2)) (-61) w') (q_val (fun w' hw' => y_bin e6 e6 xor64) (q_mv e6 (q_val (fun w' hw' => y_bin e6 (evc (.int .u64 6)) (shr64 (c := 6) rfl)) (q_val (fun w' hw' => y_bin e6 e6 xor64) (q_val (fun w' hw' => y_bin e6 e6 add64) (q_val (fun w' hw' => y_ia1z (i := k) (ex (pt b_w 0) s1_2) ei Tryd.underlying161 ShaBT.sz58 om om) (q_nil ?_)))))))))))))))))))))))))))))
    intro w16 hb17
    replace r_h := r_h.step hb17
    replace r_b_w := r_b_w.step hb17
    replace hk := grown_thenB hk hb17
    replace hT := Sha.Tabs.below hT hb17
    refine w_st (v := U64 ((((Sha.w false rr (k - 16)) + (((Sha.rl64 (Sha.w false rr (k - 15)) (-1)) ^^^ (Sha.rl64 (Sha.w false rr (k - 15)) (-8))) ^^^ ((Sha.w false rr (k - 15)) >>> 7))) + (Sha.w false rr (k - 7))) + (((Sha.rl64 (Sha.w false rr (k - 2)) (-19)) ^^^ (Sha.rl64 (Sha.w false rr (k - 2)) (-61))) ^^^ ((Sha.w false rr (k - 2)) >>> 6)))) (ex (pt b_w k)) e6 rfl rfl ShaBT.sz58 r_b_w om ?_
    clear r_b_w; intro w18 r_b_w hg19 _
    replace r_h := r_h.stepG hg19 om
    replace hk := grown_thenG hk hg19 om
    replace hT := Sha.Tabs.grown hT hg19 om om
    refine wpList_nil (inb_n (then_n (wp_region_lit (w_val (y_bin (ei s1_14) Ev.c (b_add om)) (w_mv ei (wpList_nil ?_))))))
    exact then_n ⟨_, om, k + 1, rfl, _, rfl, iv, s1_0, s1_2, ti, r_h, (r_b_w.congr (fun j hj => by first | ((try dsimp only); by_cases e : j = k; (rw [if_pos e, if_pos om, e]; exact congrArg U64 (by first | exact (Sha.w64_hi rr k om).symm)); (rw [if_neg e]; by_cases e2 : j < k; (rw [if_pos e2, if_pos om]); (rw [if_neg e2, if_neg om]))) | exact Sha.bytes_done rr k j om om)), hT, hk⟩
  ·skip
   refine wp_exit (then_x ?_)
   replace r_b_w := r_b_w.congr (g := fun j => U64 (Sha.w false rr j)) (fun j hj => by (try dsimp only); rw [if_pos om])
   refine then_x (inb_x (then_n (sr (w_mv (ex (pt h 0) s1_0) (w_val (y_nc (ex (pt h 0))) (w_val (v := pt h 1) (y_off (y_fa (ex (pt h 0)) (ShaBT.fa134_1 _ _)) ro) (w_val (v := .agg (arr 8 (fun j => U64 (hh j)))) (y_lda (ex (pt h 1)) ShaBT.ag88 ShaBT.sz88 (fun j hj => (r_h.val om (by first | with_reducible rfl | exact (ng pz))))) (w_alloc (m := 8) (F := fun j => U64 (0#64)) kr ?_))))))))
   intro b_v w20 hbe_b_v r_b_v hb21
   have ne_h_b_v := r_h.nb hbe_b_v
   have ne_b_w_b_v := r_b_w.nb hbe_b_v
   have ge_b_v := gb_ hk.size hbe_b_v
   clear hbe_b_v
   replace r_h := r_h.step hb21
   replace r_b_w := r_b_w.step hb21
   replace hk := grown_thenB hk hb21
   replace hT := Sha.Tabs.below hT hb21
   refine w_sta (k := 8) (G := fun j => U64 (hh j)) (ex (pt b_v 0)) ea oc ShaBT.sz88 r_b_v om ?_
   clear r_b_v; intro w22 r_b_v hg23 _
   replace r_b_v := r_b_v.congr (g := fun j => U64 (hh j)) (fun j hj => by rw [if_pos ⟨Nat.zero_le _, by omega⟩]; first | rfl | (simp only [Nat.sub_zero]))
   replace r_h := r_h.stepG hg23 om
   replace r_b_w := r_b_w.stepG hg23 om
   replace hk := grown_thenG hk hg23 om
   replace hT := Sha.Tabs.grown hT hg23 om om
   refine nt (wp_seq (sr (w_mv Ev.c (nt (wp_block ?_)))))
   refine c_loop (fun dN aN wl => ∃ (i : Nat), dN = (80 - i) ∧ ∃ f24, aN = fr 176 f24 ∧ (i ≤ 80) ∧ f24 0 = pt h 0 ∧ f24 2 = pt b_w 0 ∧ f24 7 = pt b_v 0 ∧ f24 82 = .int .i64 ((i : Nat) : Int) ∧ Row wl h 134 139 (Sha.hrow (.int .i64 kd) hh rr (.int .i64 ((n : Nat) : Int)) (U64 al)) ∧ Row wl b_w 161 80 (fun j => U64 (Sha.w false rr j)) ∧ Row wl b_v 88 8 (fun j => U64 (Sha.vs false rr hh i j)) ∧ Sha.Tabs wl ∧ w0.grownBy wl (some h)) (80 - 0) ?_ ?_
   · exact ⟨0, rfl, _, rfl, iv, s1_0, s1_2, rfl, ti, r_h, r_b_w, (r_b_v.congr (fun j hj => by (try dsimp only); first | rfl | exact Sha.words_of _ _ _ _ _ j hj)), hT, hk⟩
   ·skip
    clear r_h r_b_w r_b_v hT hk
    rintro _ _ w25 ⟨i, rfl, f24, rfl, i3_0, s3_0, s3_2, s3_7, s3_82, r_h, r_b_w, r_b_v, hT, hk⟩
    refine sr (w_val (y_bin (ei s3_82) Ev.c b_lss) (nt (wp_seq ?_)))
    refine c_if (p := ((i : Nat) : Int) < 80) eb (fun hc26 => ?_) (fun hc26 => ?_)
    ·skip
     refine wp_skip (then_n (wp_seq (wp_block (sr (w_mv (ei s3_82) (w_as ei (nt (wp_seq (region_q ShaBT.mixed kr (q_val (fun w' hw' => y_ia1z (i := 4) (ex (pt b_v 0) s3_7) Ev.c Tryd.underlying88 ShaBT.sz58 om om) (q_val (v := U64 (Sha.vs false rr hh i 4)) (fun w' hw' => y_ld (ex (pt b_v 4)) ShaBT.sc58 (cls_cell (r_b_v.val om rfl) r_b_v.lt w' hw')) (q_val (fun w' hw' => y_ia1z (i := 0) (ex (pt b_v 0) s3_7) Ev.c Tryd.underlying88 ShaBT.sz58 om om) (q_val (v := U64 (Sha.vs false rr hh i 0)) (fun w' hw' => y_ld (ex (pt b_v 0)) ShaBT.sc58 (cls_cell (r_b_v.val om rfl) r_b_v.lt w' hw')) (q_as e6 (q_as e6 (q_nil ?_))))))))))))))))
     intro w27 hb28
     replace r_h := r_h.step hb28
     replace r_b_w := r_b_w.step hb28
     replace r_b_v := r_b_v.step hb28
     replace hk := grown_thenB hk hb28
     replace hT := Sha.Tabs.below hT hb28
     refine then_n (wp_seq (region_q ShaBT.mixed kr (q_val (fun w' hw' => y_ia1z (i := 7) (ex (pt b_v 0) s3_7) Ev.c Tryd.underlying88 ShaBT.sz58 om om) (q_val (v := U64 (Sha.vs false rr hh i 7)) (fun w' hw' => y_ld (ex (pt b_v 7)) ShaBT.sc58 (cls_cell (r_b_v.val om rfl) r_b_v.lt w' hw')) (q_mv e6 (q_call (v := U64 (Sha.rl64 (Sha.vs false rr hh i 4) (-14))) (Tryd.func98) kr rfl (m2 e6 Ev.c) (fun w' hw' => rotl64_c (Sha.vs false rr hh i 4) (-14) w') (q_mv e6 (q_call (v := U64 (Sha.rl64 (Sha.vs false rr hh i 4) (-18))) (Tryd.func98) kr rfl (m2 e6 Ev.c) (fun w' hw' => rotl64_c (Sha.vs false rr hh i 4) (-18) w') (q_val (fun w' hw' => y_bin e6 e6 xor64) (q_mv e6 (q_call (v := U64 (Sha.rl64 (Sha.vs false rr hh i 4) (-41))) (Tryd.func98) kr rfl (m2 e6 Ev.c) (fun w' hw' => rotl64_c (Sha.vs false rr hh i 4) (-41) w') (q_val (fun w' hw' => y_bin e6 e6 xor64) (q_val (fun w' hw' => y_bin e6 e6 add64) (q_val (fun w' hw' => y_ia1z (i := 6) (ex (pt b_v 0) s3_7) Ev.c Tryd.underlying88 ShaBT.sz58 om om) (q_val (v := U64 (Sha.vs false rr hh i 6)) (fun w' hw' => y_ld (ex (pt b_v 6)) ShaBT.sc58 (cls_cell (r_b_v.val om rfl) r_b_v.lt w' hw')) (q_mv e6 (q_val (fun w' hw' => y_ia1z (i := 5) (ex (pt b_v 0) s3_7) Ev.c Tryd.underlying88 ShaBT.sz58 om om) (q_val (v := U64 (Sha.vs false rr hh i 5)) (fun w' hw' => y_ld (ex (pt b_v 5)) ShaBT.sc58 (cls_cell (r_b_v.val om rfl) r_b_v.lt w' hw')) (q_val (fun w' hw' => y_ia1z (i := 6) (ex (pt b_v 0) s3_7) Ev.c Tryd.underlying88 ShaBT.sz58 om om) (q_val (v := U64 (Sha.vs false rr hh i 6)) (fun w' hw' => y_ld (ex (pt b_v 6)) ShaBT.sc58 (cls_cell (r_b_v.val om rfl) r_b_v.lt w' hw')) (q_val (fun w' hw' => y_bin e6 e6 xor64) (q_val (fun w' hw' => y_bin e6 e6 and64) (q_val (fun w' hw' => y_bin e6 e6 xor64) (q_val (fun w' hw' => y_bin e6 e6 add64) (q_mv ei (q_val (fun w' hw' => y_ia1z (i := i) Ev.g ei Tryd.underlying161 ShaBT.sz58 om om) (q_val (v := U64 (Sha.K false i)) (fun w' hw' => y_ld (ex (pt 1 i)) ShaBT.sc58 ((Sha.Tabs.below hT hw').great om)) (q_val (fun w' hw' => y_bin e6 e6 add64) (q_mv ei (q_val (fun w' hw' => y_ia1z (i := i) (ex (pt b_w 0) s3_2) ei Tryd.underlying161 ShaBT.sz58 om om) (q_val (v := U64 (Sha.w false rr i)) (fun w' hw' => y_ld (ex (pt b_w i)) ShaBT.sc58 (cls_cell (r_b_w.val om rfl) r_b_w.lt w' hw')) (q_val (fun w' hw' => y_bin e6 e6 add64) (q_as e6 (q_nil ?_))))))))))))))))))))))))))))))))))
     intro w29 hb30
     replace r_h := r_h.step hb30
     replace r_b_w := r_b_w.step hb30
     replace r_b_v := r_b_v.step hb30
     replace hk := grown_thenB hk hb30
     replace hT := Sha.Tabs.below hT hb30
     refine then_n (wp_seq (region_q ShaBT.mixed kr (q_mv e6 (q_call (v := U64 (Sha.rl64 (Sha.vs false rr hh i 0) (-28))) (Tryd.func98) kr rfl (m2 e6 Ev.c) (fun w' hw' => rotl64_c (Sha.vs false rr hh i 0) (-28) w') (q_mv e6 (q_call (v := U64 (Sha.rl64 (Sha.vs false rr hh i 0) (-34))) (Tryd.func98) kr rfl (m2 e6 Ev.c) (fun w' hw' => rotl64_c (Sha.vs false rr hh i 0) (-34) w') (q_val (fun w' hw' => y_bin e6 e6 xor64) (q_mv e6 (q_call (v := U64 (Sha.rl64 (Sha.vs false rr hh i 0) (-39))) (Tryd.func98) kr rfl (m2 e6 Ev.c) (fun w' hw' => rotl64_c (Sha.vs false rr hh i 0) (-39) w') (q_val (fun w' hw' => y_bin e6 e6 xor64) (q_mv e6 (q_val (fun w' hw' => y_ia1z (i := 1) (ex (pt b_v 0) s3_7) Ev.c Tryd.underlying88 ShaBT.sz58 om om) (q_val (v := U64 (Sha.vs false rr hh i 1)) (fun w' hw' => y_ld (ex (pt b_v 1)) ShaBT.sc58 (cls_cell (r_b_v.val om rfl) r_b_v.lt w' hw')) (q_val (fun w' hw' => y_bin e6 e6 and64) (q_val (fun w' hw' => y_ia1z (i := 2) (ex (pt b_v 0) s3_7) Ev.c Tryd.underlying88 ShaBT.sz58 om om) (q_val (v := U64 (Sha.vs false rr hh i 2)) (fun w' hw' => y_ld (ex (pt b_v 2)) ShaBT.sc58 (cls_cell (r_b_v.val om rfl) r_b_v.lt w' hw')) (q_mv e6 (q_val (fun w' hw' => y_ia1z (i := 1) (ex (pt b_v 0) s3_7) Ev.c Tryd.underlying88 ShaBT.sz58 om om) (q_val (v := U64 (Sha.vs false rr hh i 1)) (fun w' hw' => y_ld (ex (pt b_v 1)) ShaBT.sc58 (cls_cell (r_b_v.val om rfl) r_b_v.lt w' hw')) (q_val (fun w' hw' => y_bin e6 e6 or64) (q_val (fun w' hw' => y_bin e6 e6 and64) (q_val (fun w' hw' => y_bin e6 e6 or64) (q_val (fun w' hw' => y_bin e6 e6 add64) (q_as e6 (q_nil ?_)))))))))))))))))))))))))
     intro w31 hb32
     replace r_h := r_h.step hb32
     replace r_b_w := r_b_w.step hb32
     replace r_b_v := r_b_v.step hb32
     replace hk := grown_thenB hk hb32
     replace hT := Sha.Tabs.below hT hb32
     refine then_n (wp_region_lit (w_mv e6 (w_mv e6 (w_val (y_bin e6 e6 add64) (w_mv e6 (w_val (y_ia1z (i := 1) (ex (pt b_v 0) s3_7) Ev.c Tryd.underlying88 ShaBT.sz58 om om) (w_val (v := U64 (Sha.vs false rr hh i 1)) (y_ld (ex (pt b_v 1)) ShaBT.sc58 (r_b_v.val om rfl)) (w_val (y_ia1z (i := 2) (ex (pt b_v 0) s3_7) Ev.c Tryd.underlying88 ShaBT.sz58 om om) (w_val (v := U64 (Sha.vs false rr hh i 2)) (y_ld (ex (pt b_v 2)) ShaBT.sc58 (r_b_v.val om rfl)) (w_val (y_ia1z (i := 3) (ex (pt b_v 0) s3_7) Ev.c Tryd.underlying88 ShaBT.sz58 om om) (w_val (v := U64 (Sha.vs false rr hh i 3)) (y_ld (ex (pt b_v 3)) ShaBT.sc58 (r_b_v.val om rfl)) (w_mv e6 (w_val (y_bin e6 e6 add64) (w_mv e6 (w_val (y_ia1z (i := 5) (ex (pt b_v 0) s3_7) Ev.c Tryd.underlying88 ShaBT.sz58 om om) (w_val (v := U64 (Sha.vs false rr hh i 5)) (y_ld (ex (pt b_v 5)) ShaBT.sc58 (r_b_v.val om rfl)) (w_val (y_ia1z (i := 6) (ex (pt b_v 0) s3_7) Ev.c Tryd.underlying88 ShaBT.sz58 om om) (w_val (v := U64 (Sha.vs false rr hh i 6)) (y_ld (ex (pt b_v 6)) ShaBT.sc58 (r_b_v.val om rfl)) (w_val (v := .agg (arr 8 (fun j => if j < 1 then U64 ((((((Sha.vs false rr hh i 7) + (((Sha.rl64 (Sha.vs false rr hh i 4) (-14)) ^^^ (Sha.rl64 (Sha.vs false rr hh i 4) (-18))) ^^^ (Sha.rl64 (Sha.vs false rr hh i 4) (-41)))) + ((Sha.vs false rr hh i 6) ^^^ ((Sha.vs false rr hh i 4) &&& ((Sha.vs false rr hh i 5) ^^^ (Sha.vs false rr hh i 6))))) + (Sha.K false i)) + (Sha.w false rr i)) + ((((Sha.rl64 (Sha.vs false rr hh i 0) (-28)) ^^^ (Sha.rl64 (Sha.vs false rr hh i 0) (-34))) ^^^ (Sha.rl64 (Sha.vs false rr hh i 0) (-39))) + (((Sha.vs false rr hh i 0) &&& (Sha.vs false rr hh i 1)) ||| ((Sha.vs false rr hh i 2) &&& ((Sha.vs false rr hh i 0) ||| (Sha.vs false rr hh i 1)))))) else if j < 2 then U64 (Sha.vs false rr hh i 0) else if j < 3 then U64 (Sha.vs false rr hh i 1) else if j < 4 then U64 (Sha.vs false rr hh i 2) else if j < 5 then U64 ((Sha.vs false rr hh i 3) + (((((Sha.vs false rr hh i 7) + (((Sha.rl64 (Sha.vs false rr hh i 4) (-14)) ^^^ (Sha.rl64 (Sha.vs false rr hh i 4) (-18))) ^^^ (Sha.rl64 (Sha.vs false rr hh i 4) (-41)))) + ((Sha.vs false rr hh i 6) ^^^ ((Sha.vs false rr hh i 4) &&& ((Sha.vs false rr hh i 5) ^^^ (Sha.vs false rr hh i 6))))) + (Sha.K false i)) + (Sha.w false rr i))) else if j < 6 then U64 (Sha.vs false rr hh i 4) else if j < 7 then U64 (Sha.vs false rr hh i 5) else U64 (Sha.vs false rr hh i 6)))) (y_build (vs := #[(0, U64 ((((((Sha.vs false rr hh i 7) + (((Sha.rl64 (Sha.vs false rr hh i 4) (-14)) ^^^ (Sha.rl64 (Sha.vs false rr hh i 4) (-18))) ^^^ (Sha.rl64 (Sha.vs false rr hh i 4) (-41)))) + ((Sha.vs false rr hh i 6) ^^^ ((Sha.vs false rr hh i 4) &&& ((Sha.vs false rr hh i 5) ^^^ (Sha.vs false rr hh i 6))))) + (Sha.K false i)) + (Sha.w false rr i)) + ((((Sha.rl64 (Sha.vs false rr hh i 0) (-28)) ^^^ (Sha.rl64 (Sha.vs false rr hh i 0) (-34))) ^^^ (Sha.rl64 (Sha.vs false rr hh i 0) (-39))) + (((Sha.vs false rr hh i 0) &&& (Sha.vs false rr hh i 1)) ||| ((Sha.vs false rr hh i 2) &&& ((Sha.vs false rr hh i 0) ||| (Sha.vs false rr hh i 1))))))), (1, U64 (Sha.vs false rr hh i 0)), (2, U64 (Sha.vs false rr hh i 1)), (3, U64 (Sha.vs false rr hh i 2)), (4, U64 ((Sha.vs false rr hh i 3) + (((((Sha.vs false rr hh i 7) + (((Sha.rl64 (Sha.vs false rr hh i 4) (-14)) ^^^ (Sha.rl64 (Sha.vs false rr hh i 4) (-18))) ^^^ (Sha.rl64 (Sha.vs false rr hh i 4) (-41)))) + ((Sha.vs false rr hh i 6) ^^^ ((Sha.vs false rr hh i 4) &&& ((Sha.vs false rr hh i 5) ^^^ (Sha.vs false rr hh i 6))))) + (Sha.K false i)) + (Sha.w false rr i)))), (5, U64 (Sha.vs false rr hh i 4)), (6, U64 (Sha.vs false rr hh i 5)), (7, U64 (Sha.vs false rr hh i 6))]) (mp_cons e6 (mp_cons e6 (mp_cons e6 (mp_cons e6 (mp_cons e6 (mp_cons e6 (mp_cons e6 (mp_cons e6 mp0)))))))) (fun w => by kernel_rfl)) (w_sta (k := 8) (G := fun j => if j < 1 then U64 ((((((Sha.vs false rr hh i 7) + (((Sha.rl64 (Sha.vs false rr hh i 4) (-14)) ^^^ (Sha.rl64 (Sha.vs false rr hh i 4) (-18))) ^^^ (Sha.rl64 (Sha.vs false rr hh i 4) (-41)))) + ((Sha.vs false rr hh i 6) ^^^ ((Sha.vs false rr hh i 4) &&& ((Sha.vs false rr hh i 5) ^^^ (Sha.vs false rr hh i 6))))) + (Sha.K false i)) + (Sha.w false rr i)) + ((((Sha.rl64 (Sha.vs false rr hh i 0) (-28)) ^^^ (Sha.rl64 (Sha.vs false rr hh i 0) (-34))) ^^^ (Sha.rl64 (Sha.vs false rr hh i 0) (-39))) + (((Sha.vs false rr hh i 0) &&& (Sha.vs false rr hh i 1)) ||| ((Sha.vs false rr hh i 2) &&& ((Sha.vs false rr hh i 0) ||| (Sha.vs false rr hh i 1)))))) else if j < 2 then U64 (Sha.vs false rr hh i 0) else if j < 3 then U64 (Sha.vs false rr hh i 1) else if j < 4 then U64 (Sha.vs false rr hh i 2) else if j < 5 then U64 ((Sha.vs false rr hh i 3) + (((((Sha.vs false rr hh i 7) + (((Sha.rl64 (Sha.vs false rr hh i 4) (-14)) ^^^ (Sha.rl64 (Sha.vs false rr hh i 4) (-18))) ^^^ (Sha.rl64 (Sha.vs false rr hh i 4) (-41)))) + ((Sha.vs false rr hh i 6) ^^^ ((Sha.vs false rr hh i 4) &&& ((Sha.vs false rr hh i 5) ^^^ (Sha.vs false rr hh i 6))))) + (Sha.K false i)) + (Sha.w false rr i))) else if j < 6 then U64 (Sha.vs false rr hh i 4) else if j < 7 then U64 (Sha.vs false rr hh i 5) else U64 (Sha.vs false rr hh i 6)) (ex (pt b_v 0) s3_7) ea oc ShaBT.sz88 r_b_v om ?_))))))))))))))))))))
     clear r_b_v; intro w33 r_b_v hg34 _
     replace r_b_v := r_b_v.congr (g := fun j => if j < 1 then U64 ((((((Sha.vs false rr hh i 7) + (((Sha.rl64 (Sha.vs false rr hh i 4) (-14)) ^^^ (Sha.rl64 (Sha.vs false rr hh i 4) (-18))) ^^^ (Sha.rl64 (Sha.vs false rr hh i 4) (-41)))) + ((Sha.vs false rr hh i 6) ^^^ ((Sha.vs false rr hh i 4) &&& ((Sha.vs false rr hh i 5) ^^^ (Sha.vs false rr hh i 6))))) + (Sha.K false i)) + (Sha.w false rr i)) + ((((Sha.rl64 (Sha.vs false rr hh i 0) (-28)) ^^^ (Sha.rl64 (Sha.vs false rr hh i 0) (-34))) ^^^ (Sha.rl64 (Sha.vs false rr hh i 0) (-39))) + (((Sha.vs false rr hh i 0) &&& (Sha.vs false rr hh i 1)) ||| ((Sha.vs false rr hh i 2) &&& ((Sha.vs false rr hh i 0) ||| (Sha.vs false rr hh i 1)))))) else if j < 2 then U64 (Sha.vs false rr hh i 0) else if j < 3 then U64 (Sha.vs false rr hh i 1) else if j < 4 then U64 (Sha.vs false rr hh i 2) else if j < 5 then U64 ((Sha.vs false rr hh i 3) + (((((Sha.vs false rr hh i 7) + (((Sha.rl64 (Sha.vs false rr hh i 4) (-14)) ^^^ (Sha.rl64 (Sha.vs false rr hh i 4) (-18))) ^^^ (Sha.rl64 (Sha.vs false rr hh i 4) (-41)))) + ((Sha.vs false rr hh i 6) ^^^ ((Sha.vs false rr hh i 4) &&& ((Sha.vs false rr hh i 5) ^^^ (Sha.vs false rr hh i 6))))) + (Sha.K false i)) + (Sha.w false rr i))) else if j < 6 then U64 (Sha.vs false rr hh i 4) else if j < 7 then U64 (Sha.vs false rr hh i 5) else U64 (Sha.vs false rr hh i 6)) (fun j hj => by rw [if_pos ⟨Nat.zero_le _, by omega⟩]; first | rfl | (simp only [Nat.sub_zero]))
     replace r_h := r_h.stepG hg34 om
     replace r_b_w := r_b_w.stepG hg34 om
     replace hk := grown_thenG hk hg34 om
     replace hT := Sha.Tabs.grown hT hg34 om om
     refine wpList_nil (inb_n (then_n (wp_region_lit (w_val (y_bin (ei s3_82) Ev.c (b_add om)) (w_mv ei (wpList_nil ?_))))))
     exact then_n ⟨_, om, i + 1, rfl, _, rfl, iv, s3_0, s3_2, s3_7, ti, r_h, r_b_w, (r_b_v.congr (fun j hj => by exact Sha.eight_row64 rr _ i j hj)), hT, hk⟩
    ·skip
     refine wp_exit (then_x ?_)
     replace r_b_v := r_b_v.congr (g := fun j => U64 (Sha.vs false rr hh 80 j)) (fun j hj => by (try dsimp only); rw [show i = 80 from by omega])
     refine then_x (inb_x (then_n (sr (w_mv Ev.c (nt (wp_block ?_))))))
     refine c_loop (fun dN aN wl => ∃ (k4 : Nat), dN = (8 - k4) ∧ ∃ f35, aN = fr 176 f35 ∧ (k4 ≤ 8) ∧ f35 0 = pt h 0 ∧ f35 7 = pt b_v 0 ∧ f35 159 = .int .i64 ((k4 : Nat) : Int) ∧ Row wl h 134 139 (Sha.hrow (.int .i64 kd) (fun i => if i < k4 then Sha.comp false rr hh i else hh i) rr (.int .i64 ((n : Nat) : Int)) (U64 al)) ∧ Row wl b_w 161 80 (fun j => U64 (Sha.w false rr j)) ∧ Row wl b_v 88 8 (fun j => U64 (Sha.vs false rr hh 80 j)) ∧ Sha.Tabs wl ∧ w0.grownBy wl (some h)) (8 - 0) ?_ ?_
     · exact ⟨0, rfl, _, rfl, iv, s3_0, s3_7, ti, (r_h.congr (fun j hj => by exact Sha.words_init _ _ _ _ _ _ j)), r_b_w, r_b_v, hT, hk⟩
     ·skip
      clear r_h r_b_w r_b_v hT hk
      rintro _ _ w36 ⟨k4, rfl, f35, rfl, i4_0, s4_0, s4_7, s4_159, r_h, r_b_w, r_b_v, hT, hk⟩
      refine sr (w_val (y_bin (ei s4_159) Ev.c b_lss) (nt (wp_seq ?_)))
      refine c_if (p := ((k4 : Nat) : Int) < 8) eb (fun hc37 => ?_) (fun hc37 => ?_)
      ·skip
       refine wp_skip (then_n (wp_seq (wp_block (sr (w_mv (ei s4_159) (w_as ei (nt (region_t 13 ShaBT.mixed kr ?_))))))))
       simp only [List.take_succ_cons, List.take_zero, List.drop_succ_cons, List.drop_zero]
       refine q_mv (ex (pt h 0) s4_0) (q_mv ei (q_val (fun w' hw' => y_nc (ex (pt h 0))) (q_val (v := pt h 1) (fun w' hw' => y_off (y_fa (ex (pt h 0)) (ShaBT.fa134_1 _ _)) ro) (q_val (v := pt h (1 + k4)) (fun w' hw' => y_off (y_ia1 (i := k4) (ex (pt h 1)) ei Tryd.underlying88 ShaBT.sz58 om om) ro) (q_val (v := U64 ((fun i => if i < k4 then Sha.comp false rr hh i else hh i) k4)) (fun w' hw' => y_ld (ex (pt h (1 + k4))) ShaBT.sc58 (cls_cell (r_h.val om (ng pz)) r_h.lt w' hw')) (q_mv ei (q_val (fun w' hw' => y_ia1z (i := k4) (ex (pt b_v 0) s4_7) ei Tryd.underlying88 ShaBT.sz58 om om) (q_val (v := U64 (Sha.vs false rr hh 80 k4)) (fun w' hw' => y_ld (ex (pt b_v k4)) ShaBT.sc58 (cls_cell (r_b_v.val om rfl) r_b_v.lt w' hw')) (q_val (fun w' hw' => y_bin e6 e6 add64) (q_val (fun w' hw' => y_nc (ex (pt h 0))) (q_val (v := pt h 1) (fun w' hw' => y_off (y_fa (ex (pt h 0)) (ShaBT.fa134_1 _ _)) ro) (q_val (v := pt h (1 + k4)) (fun w' hw' => y_off (y_ia1 (i := k4) (ex (pt h 1)) ei Tryd.underlying88 ShaBT.sz58 om om) ro) (q_nil ?_)))))))))))))
       intro w38 hb39
       replace r_h := r_h.step hb39
       replace r_b_w := r_b_w.step hb39
       replace r_b_v := r_b_v.step hb39
       replace hk := grown_thenB hk hb39
       replace hT := Sha.Tabs.below hT hb39
       refine w_st (v := U64 (((fun i => if i < k4 then Sha.comp false rr hh i else hh i) k4) + (Sha.vs false rr hh 80 k4))) (ex (pt h (1 + k4))) e6 rfl rfl ShaBT.sz58 r_h om ?_
       clear r_h; intro w40 r_h hg41 _
       replace r_b_w := r_b_w.stepG hg41 om
       replace r_b_v := r_b_v.stepG hg41 om
       replace hk := grown_thenG hk hg41 om
       replace hT := Sha.Tabs.grown hT hg41 om om
       refine wpList_nil (inb_n (then_n (wp_region_lit (w_val (y_bin (ei s4_159) Ev.c (b_add om)) (w_mv ei (wpList_nil ?_))))))
       exact then_n ⟨_, om, k4 + 1, rfl, _, rfl, iv, s4_0, s4_7, ti, (r_h.congr (fun j hj => by exact Sha.words_step _ _ _ _ _ _ _ k4 j om (by (try dsimp only); rw [if_neg (Nat.lt_irrefl k4)]; rfl))), r_b_w, r_b_v, hT, hk⟩
      ·skip
       refine wp_exit (then_x ?_)
       replace r_h := r_h.congr (g := Sha.hrow (.int .i64 kd) (Sha.comp false rr hh) rr (.int .i64 ((n : Nat) : Int)) (U64 al)) (fun j hj => by exact Sha.words_done _ _ _ _ _ _ j hj om)
       refine then_x (inb_x (fin_end0 rfl ?_))
       exact ⟨rfl, r_h, hk⟩
end Go.Proofs.YtepogbfkmflooaaDoor
