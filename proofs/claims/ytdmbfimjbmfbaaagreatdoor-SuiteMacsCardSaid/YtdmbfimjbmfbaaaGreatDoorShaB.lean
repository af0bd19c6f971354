/-
  Digests: a block of small words, a block of great ones. Conditions as each says.
-/
import Derived.Test.YtdmbfimjbmfbaaaGreatDoorRows
import Derived.Test.YtdmbfimjbmfbaaaGreatDoorShaA
import Derived.Test.YtdmbfimjbmfbaaaGreatDoorGenSh
import Derived.ProofKit
namespace Go.Proofs.YtdmbfimjbmfbaaaGreatDoor
open Go.RowKit
set_option linter.unusedSimpArgs false
set_option linter.unusedVariables false
set_option maxRecDepth 100000
set_option maxHeartbeats 1000000
namespace ShaBT
theorem mixed : Tryz.prog.follows .mixedOrders = true := by kernel_rfl
theorem ag93 : (Tryz.prog.underlying 93).map isAggD = some true := by rw [Tryz.underlying93]; rfl
theorem fa139_1 (g off : Nat) : ∀ w, (Instr.fieldAt 139 (.pointer (some ⟨g, off, none⟩)) 1).run Tryz.prog w = .ok (.pointer (some ⟨g, off + 1, none⟩)) w := fun w => by kernel_rfl
theorem fa139_2 (g off : Nat) : ∀ w, (Instr.fieldAt 139 (.pointer (some ⟨g, off, none⟩)) 2).run Tryz.prog w = .ok (.pointer (some ⟨g, off + 9, none⟩)) w := fun w => by kernel_rfl
theorem sc103 : (Tryz.prog.underlying 103).map scal = some true := by rw [Tryz.underlying103]; rfl
theorem sc5 : (Tryz.prog.underlying 5).map scal = some true := by rw [Tryz.underlying5]; rfl
theorem sc92 : (Tryz.prog.underlying 92).map scal = some true := by rw [Tryz.underlying92]; rfl
theorem so103 : (Tryz.prog.underlying 103).isSome = true := by rw [Tryz.underlying103]; rfl
theorem so3 : (Tryz.prog.underlying 3).isSome = true := by rw [Tryz.underlying3]; rfl
theorem so5 : (Tryz.prog.underlying 5).isSome = true := by rw [Tryz.underlying5]; rfl
theorem so92 : (Tryz.prog.underlying 92).isSome = true := by rw [Tryz.underlying92]; rfl
theorem sz103 : (Tryz.prog.info? 103).map (·.size) = some 1 := by kernel_rfl
theorem sz147 : (Tryz.prog.info? 147).map (·.size) = some 8 := by kernel_rfl
theorem sz5 : (Tryz.prog.info? 5).map (·.size) = some 1 := by kernel_rfl
theorem sz92 : (Tryz.prog.info? 92).map (·.size) = some 1 := by kernel_rfl
theorem sz93 : (Tryz.prog.info? 93).map (·.size) = some 8 := by kernel_rfl
end ShaBT
theorem few_c (h n : Nat) (h1 : 0 < h ∧ 1 < h) (kd : Int) (hh : Nat → BitVec 64) (rr : Nat → BitVec 8) (al : BitVec 64) (hs : ∀ j, hh j = ((hh j).setWidth 32).setWidth 64) (w0 : World) (r_h : Row w0 h 139 139 (Sha.hrow (.int .i64 kd) hh rr (.int .i64 ((n : Nat) : Int)) (U64 al))) (hT : Sha.Tabs w0) : Calls Tryz.prog 65 #[pt h 0] w0 fun e w' => e = .returned (.tuple #[]) ∧ Row w' h 139 139 (Sha.hrow (.int .i64 kd) (Sha.comp true rr hh) rr (.int .i64 ((n : Nat) : Int)) (U64 al)) ∧ w0.grownBy w' (some h) := by
 have b0 := hT.lt
 refine enter (n := 211) Tryz.func65 rfl rfl rfl ?_
 have hk : w0.grownBy w0 (some h) := grown_refl _ _
 have bl := r_h.lt
 refine sr (w_alloc (m := 64) (F := fun j => U32 (0#32)) kr ?_)
 intro af w1 ah ab bg
 have bc := r_h.nb ah
 have bh := gb_ hk.size ah
 clear ah
 replace r_h := r_h.step bg
 replace hk := grown_thenB hk bg
 replace hT := Sha.Tabs.below hT bg
 refine nt (wp_seq (sr (w_mv Ev.c (nt (wp_block ?_)))))
 refine c_loop (fun dN aN wl => ∃ (k : Nat), dN = (64 - k) ∧ ∃ f3, aN = fr 211 f3 ∧ (k ≤ 64) ∧ f3 0 = pt h 0 ∧ f3 2 = pt af 0 ∧ f3 14 = .int .i64 ((k : Nat) : Int) ∧ Row wl h 139 139 (Sha.hrow (.int .i64 kd) hh rr (.int .i64 ((n : Nat) : Int)) (U64 al)) ∧ Row wl af 145 64 (fun j => if j < k then (fun j => U32 (Sha.w32 rr j)) j else (fun j => U32 (0#32)) j) ∧ Sha.Tabs wl ∧ w0.grownBy wl (some h)) (64 - 0) ?_ ?_
 · exact ⟨0, rfl, _, rfl, iv, rfl, rfl, ti, r_h, (ab.cg), hT, hk⟩
 ·skip
  clear r_h ab hT hk
  rintro _ _ w4 ⟨k, rfl, f3, rfl, bj, am, ag, an, r_h, ab, hT, hk⟩
  refine sr (w_val (y_bin (ei an) Ev.c b_lss) (nt (wp_seq ?_)))
  refine c_if (p := ((k : Nat) : Int) < 64) eb (fun hc5 => ?_) (fun hc5 => ?_)
  ·skip
   refine wp_skip (then_n (wp_seq (wp_block (sr (w_mv (ei an) (w_as ei (nt (wp_seq (sr (w_mv ei (w_val (y_bin ei Ev.c b_lss) (nt ?_))))))))))))
   refine c_if (p := ((k : Nat) : Int) < 16) eb (fun hc6 => ?_) (fun hc6 => ?_)
   ·skip
    refine wp_seq (region_t 43 ShaBT.mixed kr ?_)
    simp only [List.take_succ_cons, List.take_zero, List.drop_succ_cons, List.drop_zero]
    refine q_mv ei (q_mv (ex (pt h 0) am) (q_mv ei (q_val (fun w' hw' => y_bin Ev.c ei (b_mul om)) (q_val (fun w' hw' => y_nc (ex (pt h 0))) (q_val (v := pt h 9) (fun w' hw' => y_off (y_fa (ex (pt h 0)) (ShaBT.fa139_2 _ _)) ro) (q_val (v := pt h (9 + (4 * k))) (fun w' hw' => y_off (y_ia1 (i := (4 * k)) (ex (pt h 9)) ei Tryz.underlying137 ShaBT.sz5 om om) ro) (q_val (v := U8 (rr (4 * k))) (fun w' hw' => y_ld (ex (pt h (9 + (4 * k)))) ShaBT.sc5 (cls_cell (r_h.val om (ng (ng pz))) r_h.lt w' hw')) (q_val (fun w' hw' => y_u8_u32 e8 ShaBT.so5 Tryz.underlying103) (q_val (fun w' hw' => y_bin e3 (evc (.int .u64 24)) (shl32 (c := 24) rfl)) (q_mv (ex (pt h 0) am) (q_mv ei (q_val (fun w' hw' => y_bin Ev.c ei (b_mul om)) (q_val (fun w' hw' => y_bin ei Ev.c (b_add om)) (q_val (fun w' hw' => y_nc (ex (pt h 0))) (q_val (v := pt h 9) (fun w' hw' => y_off (y_fa (ex (pt h 0)) (ShaBT.fa139_2 _ _)) ro) (q_val (v := pt h (9 + ((4 * k) + 1))) (fun w' hw' => y_off (y_ia1 (i := ((4 * k) + 1)) (ex (pt h 9)) ei Tryz.underlying137 ShaBT.sz5 om om) ro) (q_val (v := U8 (rr ((4 * k) + 1))) (fun w' hw' => y_ld (ex (pt h (9 + ((4 * k) + 1)))) ShaBT.sc5 (cls_cell (r_h.val om (ng (ng pz))) r_h.lt w' hw')) (q_val (fun w' hw' => y_u8_u32 e8 ShaBT.so5 Tryz.underlying103) (q_val (fun w' hw' => y_bin e3 (evc (.int .u64 16)) (shl32 (c := 16) rfl)) (q_val (fun w' hw' => y_bin e3 e3 or32) (q_mv (ex (pt h 0) am) (q_mv ei (q_val (fun w' hw' => y_bin Ev.c ei (b_mul om)) (q_val (fun w' hw' => y_bin ei Ev.c (b_add om)) (q_val (fun w' hw' => y_nc (ex (pt h 0))) (q_val (v := pt h 9) (fun w' hw' => y_off (y_fa (ex (pt h 0)) (ShaBT.fa139_2 _ _)) ro) (q_val (v := pt h (9 + ((4 * k) + 2))) (fun w' hw' => y_off (y_ia1 (i := ((4 * k) + 2)) (ex (pt h 9)) ei Tryz.underlying137 ShaBT.sz5 om om) ro) (q_val (v := U8 (rr ((4 * k) + 2))) (fun w' hw' => y_ld (ex (pt h (9 + ((4 * k) + 2)))) ShaBT.sc5 (cls_cell (r_h.val om (ng (ng pz))) r_h.lt w' hw')) (q_val (fun w' hw' => y_u8_u32 e8 ShaBT.so5 Tryz.underlying103) (q_val (fun w' hw' => y_bin e3 (evc (.int .u64 8)) (shl32 (c := 8) rfl)) (q_val (fun w' hw' => y_bin e3 e3 or32) (q_mv (ex (pt h 0) am) (q_mv ei (q_val (fun w' hw' => y_bin Ev.c ei (b_mul om)) (q_val (fun w' hw' => y_bin ei Ev.c (b_add om)) (q_val (fun w' hw' => y_nc (ex (pt h 0))) (q_val (v := pt h 9) (fun w' hw' => y_off (y_fa (ex (pt h 0)) (ShaBT.fa139_2 _ _)) ro) (q_val (v := pt h (9 + ((4 * k) + 3))) (fun w' hw' => y_off (y_ia1 (i := ((4 * k) + 3)) (ex (pt h 9)) ei Tryz.underlying137 ShaBT.sz5 om om) ro) (q_val (v := U8 (rr ((4 * k) + 3))) (fun w' hw' => y_ld (ex (pt h (9 + ((4 * k) + 3)))) ShaBT.sc5 (cls_cell (r_h.val om (ng (ng pz))) r_h.lt w' hw')) ?_)))))))))))))))))))))))))))))))))))))))
    refine q_val (fun w' hw' => y_u8_u32 e8 ShaBT.so5 Tryz.underlying103) (q_val (fun w' hw' => y_bin e3 e3 or32) (q_val (fun w' hw' => y_ia1z (i := k) (ex (pt af 0) ag) ei Tryz.underlying145 ShaBT.sz103 om om) (q_nil ?_)))
    intro w7 bf
    replace r_h := r_h.step bf
    replace ab := ab.step bf
    replace hk := grown_thenB hk bf
    replace hT := Sha.Tabs.below hT bf
    refine w_st (v := U32 ((((((rr (4 * k)).setWidth 32) <<< 24) ||| (((rr ((4 * k) + 1)).setWidth 32) <<< 16)) ||| (((rr ((4 * k) + 2)).setWidth 32) <<< 8)) ||| ((rr ((4 * k) + 3)).setWidth 32))) (ex (pt af k)) e3 rfl rfl ShaBT.sz103 ab om ?_
    clear ab; intro w9 ab a3 _
    replace r_h := r_h.stepG a3 om
    replace hk := grown_thenG hk a3 om
    replace hT := Sha.Tabs.grown hT a3 om om
    refine nt (wp_exit (then_x (inb_x (then_n (wp_region_lit (w_val (y_bin (ei an) Ev.c (b_add om)) (w_mv ei (wpList_nil ?_))))))))
    exact then_n ⟨_, om, k + 1, rfl, _, rfl, iv, am, ag, ti, r_h, (ab.congr (fun j hj => by (try dsimp only); by_cases e : j = k; (rw [if_pos e, if_pos om, e]; exact congrArg U32 (by first | exact (Sha.w32_lo rr k om).symm | exact (Sha.w32_hi rr k om).symm)); (rw [if_neg e]; by_cases e2 : j < k; (rw [if_pos e2, if_pos om]); (rw [if_neg e2, if_neg om])))), hT, hk⟩
   ·skip
    refine wp_skip (then_n (wp_seq (region_q ShaBT.mixed kr (q_mv ei (q_val (fun w' hw' => y_bin ei Ev.c (b_sub om)) (q_val (fun w' hw' => y_ia1z (i := (k - 15)) (ex (pt af 0) ag) ei Tryz.underlying145 ShaBT.sz103 om om) (q_val (v := U32 (Sha.w32 rr (k - 15))) (fun w' hw' => y_ld (ex (pt af (k - 15))) ShaBT.sc103 (cls_cell (ab.val om ((if_pos om).trans rfl)) ab.lt w' hw')) (q_mv ei (q_val (fun w' hw' => y_bin ei Ev.c (b_sub om)) (q_val (fun w' hw' => y_ia1z (i := (k - 2)) (ex (pt af 0) ag) ei Tryz.underlying145 ShaBT.sz103 om om) (q_val (v := U32 (Sha.w32 rr (k - 2))) (fun w' hw' => y_ld (ex (pt af (k - 2))) ShaBT.sc103 (cls_cell (ab.val om ((if_pos om).trans rfl)) ab.lt w' hw')) (q_as e3 (q_as e3 (q_nil ?_))))))))))))))
    intro bp ay
    replace r_h := r_h.step ay
    replace ab := ab.step ay
    replace hk := grown_thenB hk ay
    replace hT := Sha.Tabs.below hT ay
    refine then_n (region_t 29 ShaBT.mixed kr ?_)
    simp only [List.take_succ_cons, List.take_zero, List.drop_succ_cons, List.drop_zero]
    refine q_mv ei (q_mv ei (q_val (fun w' hw' => y_bin ei Ev.c (b_sub om)) (q_val (fun w' hw' => y_ia1z (i := (k - 16)) (ex (pt af 0) ag) ei Tryz.underlying145 ShaBT.sz103 om om) (q_val (v := U32 (Sha.w32 rr (k - 16))) (fun w' hw' => y_ld (ex (pt af (k - 16))) ShaBT.sc103 (cls_cell (ab.val om ((if_pos om).trans rfl)) ab.lt w' hw')) (q_mv e3 (q_call (v := U32 (Sha.rl32 (Sha.w32 rr (k - 15)) (-7))) (Tryz.func68) kr rfl (m2 e3 Ev.c) (fun w' hw' => rotl32_c (Sha.w32 rr (k - 15)) (-7) w') (q_mv e3 (q_call (v := U32 (Sha.rl32 (Sha.w32 rr (k - 15)) (-18))) (Tryz.func68) kr rfl (m2 e3 Ev.c) (fun w' hw' => rotl32_c (Sha.w32 rr (k - 15)) (-18) w') (q_val (fun w' hw' => y_bin e3 e3 xor32) (q_mv e3 (q_val (fun w' hw' => y_bin e3 (evc (.int .u64 3)) (shr32 (c := 3) rfl)) (q_val (fun w' hw' => y_bin e3 e3 xor32) (q_val (fun w' hw' => y_bin e3 e3 add32) (q_mv ei (q_val (fun w' hw' => y_bin ei Ev.c (b_sub om)) (q_val (fun w' hw' => y_ia1z (i := (k - 7)) (ex (pt af 0) ag) ei Tryz.underlying145 ShaBT.sz103 om om) (q_val (v := U32 (Sha.w32 rr (k - 7))) (fun w' hw' => y_ld (ex (pt af (k - 7))) ShaBT.sc103 (cls_cell (ab.val om ((if_pos om).trans rfl)) ab.lt w' hw')) (q_val (fun w' hw' => y_bin e3 e3 add32) (q_mv e3 (q_call (v := U32 (Sha.rl32 (Sha.w32 rr (k - 2)) (-17))) (Tryz.func68) kr rfl (m2 e3 Ev.c) (fun w' hw' => rotl32_c (Sha.w32 rr (k - 2)) (-17) w') (q_mv e3 (q_call (v := U32 (Sha.rl32 (Sha.w32 rr (k - 2)) (-19))) (Tryz.func68) kr rfl (m2 e3 Ev.c) (fun w' hw' => rotl32_c (Sha.w32 rr (k - 2)) (-19) w') (q_val (fun w' hw' => y_bin e3 e3 xor32) (q_mv e3 (q_val (fun w' hw' => y_bin e3 (evc (.int .u64 10)) (shr32 (c := 10) rfl)) (q_val (fun w' hw' => y_bin e3 e3 xor32) (q_val (fun w' hw' => y_bin e3 e3 add32) (q_val (fun w' hw' => y_ia1z (i := k) (ex (pt af 0) ag) ei Tryz.underlying145 ShaBT.sz103 om om) (q_nil ?_)))))))))))))))))))))))))))))
    intro bu az
    replace r_h := r_h.step az
    replace ab := ab.step az
    replace hk := grown_thenB hk az
    replace hT := Sha.Tabs.below hT az
    refine w_st (v := U32 ((((Sha.w32 rr (k - 16)) + (((Sha.rl32 (Sha.w32 rr (k - 15)) (-7)) ^^^ (Sha.rl32 (Sha.w32 rr (k - 15)) (-18))) ^^^ ((Sha.w32 rr (k - 15)) >>> 3))) + (Sha.w32 rr (k - 7))) + (((Sha.rl32 (Sha.w32 rr (k - 2)) (-17)) ^^^ (Sha.rl32 (Sha.w32 rr (k - 2)) (-19))) ^^^ ((Sha.w32 rr (k - 2)) >>> 10)))) (ex (pt af k)) e3 rfl rfl ShaBT.sz103 ab om ?_
    clear ab; intro b3 ab a0 _
    replace r_h := r_h.stepG a0 om
    replace hk := grown_thenG hk a0 om
    replace hT := Sha.Tabs.grown hT a0 om om
    refine wpList_nil (inb_n (then_n (wp_region_lit (w_val (y_bin (ei an) Ev.c (b_add om)) (w_mv ei (wpList_nil ?_))))))
    exact then_n ⟨_, om, k + 1, rfl, _, rfl, iv, am, ag, ti, r_h, (ab.congr (fun j hj => by (try dsimp only); by_cases e : j = k; (rw [if_pos e, if_pos om, e]; exact congrArg U32 (by first | exact (Sha.w32_lo rr k om).symm | exact (Sha.w32_hi rr k om).symm)); (rw [if_neg e]; by_cases e2 : j < k; (rw [if_pos e2, if_pos om]); (rw [if_neg e2, if_neg om])))), hT, hk⟩
  ·skip
   refine wp_exit (then_x ?_)
   replace ab := ab.congr (g := fun j => U32 (Sha.w32 rr j)) (fun j hj => by (try dsimp only); rw [if_pos om])
   refine then_x (inb_x (then_n (sr (w_alloc (m := 8) (F := fun j => U32 (0#32)) kr ?_))))
   intro ac b1 ae aa au
   have a9 := r_h.nb ae
   have a4 := ab.nb ae
   have bi := gb_ hk.size ae
   clear ae
   replace r_h := r_h.step au
   replace ab := ab.step au
   replace hk := grown_thenB hk au
   replace hT := Sha.Tabs.below hT au
   refine nt (wp_seq (sr (w_mv Ev.c (nt (wp_block ?_)))))
   refine c_loop (fun dN aN wl => ∃ (k2 : Nat), dN = (8 - k2) ∧ ∃ a6, aN = fr 211 a6 ∧ (k2 ≤ 8) ∧ a6 0 = pt h 0 ∧ a6 2 = pt af 0 ∧ a6 6 = pt ac 0 ∧ a6 100 = .int .i64 ((k2 : Nat) : Int) ∧ Row wl h 139 139 (Sha.hrow (.int .i64 kd) hh rr (.int .i64 ((n : Nat) : Int)) (U64 al)) ∧ Row wl af 145 64 (fun j => U32 (Sha.w32 rr j)) ∧ Row wl ac 147 8 (fun j => if j < k2 then (fun j => U32 (Sha.v32 rr (fun j => (hh j).setWidth 32) 0 j)) j else (fun j => U32 (0#32)) j) ∧ Sha.Tabs wl ∧ w0.grownBy wl (some h)) (8 - 0) ?_ ?_
   · exact ⟨0, rfl, _, rfl, iv, am, ag, rfl, ti, r_h, ab, (aa.cg), hT, hk⟩
   ·skip
    clear r_h ab aa hT hk
    rintro _ _ bw ⟨k2, rfl, a6, rfl, bn, a2, ba, a1, ai, r_h, ab, aa, hT, hk⟩
    refine sr (w_val (y_bin (ei ai) Ev.c b_lss) (nt (wp_seq ?_)))
    refine c_if (p := ((k2 : Nat) : Int) < 8) eb (fun hc21 => ?_) (fun hc21 => ?_)
    ·skip
     refine wp_skip (then_n (wp_seq (wp_block (sr (w_mv (ei ai) (w_as ei (nt (wp_region_lit (w_mv ei (w_mv (ex (pt h 0) a2) (w_mv ei (w_val (y_nc (ex (pt h 0))) (w_val (v := pt h 1) (y_off (y_fa (ex (pt h 0)) (ShaBT.fa139_1 _ _)) ro) (w_val (v := pt h (1 + k2)) (y_off (y_ia1 (i := k2) (ex (pt h 1)) ei Tryz.underlying93 ShaBT.sz92 om om) ro) (w_val (v := U64 (hh k2)) (y_ld (ex (pt h (1 + k2))) ShaBT.sc92 (r_h.val om (ng pz))) (w_val (y_u64_u32 e6 ShaBT.so92 Tryz.underlying103) (w_val (y_ia1z (i := k2) (ex (pt ac 0) a1) ei Tryz.underlying147 ShaBT.sz103 om om) (w_st (v := U32 ((hh k2).setWidth 32)) (ex (pt ac k2)) e3 rfl rfl ShaBT.sz103 aa om ?_))))))))))))))))))
     clear aa; intro bz aa av _
     replace r_h := r_h.stepG av om
     replace ab := ab.stepG av om
     replace hk := grown_thenG hk av om
     replace hT := Sha.Tabs.grown hT av om om
     refine wpList_nil (inb_n (then_n (wp_region_lit (w_val (y_bin (ei ai) Ev.c (b_add om)) (w_mv ei (wpList_nil ?_))))))
     exact then_n ⟨_, om, k2 + 1, rfl, _, rfl, iv, a2, ba, a1, ti, r_h, ab, (aa.congr (fun j hj => by (try dsimp only); by_cases e : j = k2; (rw [if_pos e, if_pos om, e]; exact congrArg U32 (rfl)); (rw [if_neg e]; by_cases e2 : j < k2; (rw [if_pos e2, if_pos om]); (rw [if_neg e2, if_neg om])))), hT, hk⟩
    ·skip
     refine wp_exit (then_x ?_)
     replace aa := aa.congr (g := fun j => U32 (Sha.v32 rr (fun j => (hh j).setWidth 32) 0 j)) (fun j hj => by (try dsimp only); rw [if_pos om])
     refine then_x (inb_x (then_n (wp_seq (sr (w_mv Ev.c (nt (wp_block ?_)))))))
     refine c_loop (fun dN aN wl => ∃ (i : Nat), dN = (64 - i) ∧ ∃ a7, aN = fr 211 a7 ∧ (i ≤ 64) ∧ a7 0 = pt h 0 ∧ a7 2 = pt af 0 ∧ a7 6 = pt ac 0 ∧ a7 113 = .int .i64 ((i : Nat) : Int) ∧ Row wl h 139 139 (Sha.hrow (.int .i64 kd) hh rr (.int .i64 ((n : Nat) : Int)) (U64 al)) ∧ Row wl af 145 64 (fun j => U32 (Sha.w32 rr j)) ∧ Row wl ac 147 8 (fun j => U32 (Sha.v32 rr (fun j => (hh j).setWidth 32) i j)) ∧ Sha.Tabs wl ∧ w0.grownBy wl (some h)) (64 - 0) ?_ ?_
     · exact ⟨0, rfl, _, rfl, iv, a2, ba, a1, ti, r_h, ab, (aa.congr (fun j hj => by rfl)), hT, hk⟩
     ·skip
      clear r_h ab aa hT hk
      rintro _ _ bs ⟨i, rfl, a7, rfl, bk, bb, a8, ad, aj, r_h, ab, aa, hT, hk⟩
      refine sr (w_val (y_bin (ei aj) Ev.c b_lss) (nt (wp_seq ?_)))
      refine c_if (p := ((i : Nat) : Int) < 64) eb (fun hc26 => ?_) (fun hc26 => ?_)
      ·skip
       refine wp_skip (then_n (wp_seq (wp_block (sr (w_mv (ei aj) (w_as ei (nt (wp_seq (region_q ShaBT.mixed kr (q_val (fun w' hw' => y_ia1z (i := 4) (ex (pt ac 0) ad) Ev.c Tryz.underlying147 ShaBT.sz103 om om) (q_val (v := U32 (Sha.v32 rr (fun j => (hh j).setWidth 32) i 4)) (fun w' hw' => y_ld (ex (pt ac 4)) ShaBT.sc103 (cls_cell (aa.val om rfl) aa.lt w' hw')) (q_val (fun w' hw' => y_ia1z (i := 0) (ex (pt ac 0) ad) Ev.c Tryz.underlying147 ShaBT.sz103 om om) (q_val (v := U32 (Sha.v32 rr (fun j => (hh j).setWidth 32) i 0)) (fun w' hw' => y_ld (ex (pt ac 0)) ShaBT.sc103 (cls_cell (aa.val om rfl) aa.lt w' hw')) (q_as e3 (q_as e3 (q_nil ?_))))))))))))))))
       intro bv ap
       replace r_h := r_h.step ap
       replace ab := ab.step ap
       replace aa := aa.step ap
       replace hk := grown_thenB hk ap
       replace hT := Sha.Tabs.below hT ap
       refine then_n (wp_seq (region_q ShaBT.mixed kr (q_val (fun w' hw' => y_ia1z (i := 7) (ex (pt ac 0) ad) Ev.c Tryz.underlying147 ShaBT.sz103 om om) (q_val (v := U32 (Sha.v32 rr (fun j => (hh j).setWidth 32) i 7)) (fun w' hw' => y_ld (ex (pt ac 7)) ShaBT.sc103 (cls_cell (aa.val om rfl) aa.lt w' hw')) (q_mv e3 (q_call (v := U32 (Sha.rl32 (Sha.v32 rr (fun j => (hh j).setWidth 32) i 4) (-6))) (Tryz.func68) kr rfl (m2 e3 Ev.c) (fun w' hw' => rotl32_c (Sha.v32 rr (fun j => (hh j).setWidth 32) i 4) (-6) w') (q_mv e3 (q_call (v := U32 (Sha.rl32 (Sha.v32 rr (fun j => (hh j).setWidth 32) i 4) (-11))) (Tryz.func68) kr rfl (m2 e3 Ev.c) (fun w' hw' => rotl32_c (Sha.v32 rr (fun j => (hh j).setWidth 32) i 4) (-11) w') (q_val (fun w' hw' => y_bin e3 e3 xor32) (q_mv e3 (q_call (v := U32 (Sha.rl32 (Sha.v32 rr (fun j => (hh j).setWidth 32) i 4) (-25))) (Tryz.func68) kr rfl (m2 e3 Ev.c) (fun w' hw' => rotl32_c (Sha.v32 rr (fun j => (hh j).setWidth 32) i 4) (-25) w') (q_val (fun w' hw' => y_bin e3 e3 xor32) (q_val (fun w' hw' => y_bin e3 e3 add32) (q_val (fun w' hw' => y_ia1z (i := 6) (ex (pt ac 0) ad) Ev.c Tryz.underlying147 ShaBT.sz103 om om) (q_val (v := U32 (Sha.v32 rr (fun j => (hh j).setWidth 32) i 6)) (fun w' hw' => y_ld (ex (pt ac 6)) ShaBT.sc103 (cls_cell (aa.val om rfl) aa.lt w' hw')) (q_mv e3 (q_val (fun w' hw' => y_ia1z (i := 5) (ex (pt ac 0) ad) Ev.c Tryz.underlying147 ShaBT.sz103 om om) (q_val (v := U32 (Sha.v32 rr (fun j => (hh j).setWidth 32) i 5)) (fun w' hw' => y_ld (ex (pt ac 5)) ShaBT.sc103 (cls_cell (aa.val om rfl) aa.lt w' hw')) (q_val (fun w' hw' => y_ia1z (i := 6) (ex (pt ac 0) ad) Ev.c Tryz.underlying147 ShaBT.sz103 om om) (q_val (v := U32 (Sha.v32 rr (fun j => (hh j).setWidth 32) i 6)) (fun w' hw' => y_ld (ex (pt ac 6)) ShaBT.sc103 (cls_cell (aa.val om rfl) aa.lt w' hw')) (q_val (fun w' hw' => y_bin e3 e3 xor32) (q_val (fun w' hw' => y_bin e3 e3 and32) (q_val (fun w' hw' => y_bin e3 e3 xor32) (q_val (fun w' hw' => y_bin e3 e3 add32) (q_mv ei (q_val (fun w' hw' => y_ia1z (i := i) Ev.g ei Tryz.underlying145 ShaBT.sz103 om om) (q_val (v := U32 (Sha.k32 i)) (fun w' hw' => y_ld (ex (pt 0 i)) ShaBT.sc103 ((Sha.Tabs.below hT hw').small om)) (q_val (fun w' hw' => y_bin e3 e3 add32) (q_mv ei (q_val (fun w' hw' => y_ia1z (i := i) (ex (pt af 0) a8) ei Tryz.underlying145 ShaBT.sz103 om om) (q_val (v := U32 (Sha.w32 rr i)) (fun w' hw' => y_ld (ex (pt af i)) ShaBT.sc103 (cls_cell (ab.val om rfl) ab.lt w' hw')) (q_val (fun w' hw' => y_bin e3 e3 add32) (q_as e3 (q_nil ?_))))))))))))))))))))))))))))))))))
       intro bt ao
       replace r_h := r_h.step ao
       replace ab := ab.step ao
       replace aa := aa.step ao
       replace hk := grown_thenB hk ao
       replace hT := Sha.Tabs.below hT ao
       refine then_n (wp_seq (region_q ShaBT.mixed kr (q_mv e3 (q_call (v := U32 (Sha.rl32 (Sha.v32 rr (fun j => (hh j).setWidth 32) i 0) (-2))) (Tryz.func68) kr rfl (m2 e3 Ev.c) (fun w' hw' => rotl32_c (Sha.v32 rr (fun j => (hh j).setWidth 32) i 0) (-2) w') (q_mv e3 (q_call (v := U32 (Sha.rl32 (Sha.v32 rr (fun j => (hh j).setWidth 32) i 0) (-13))) (Tryz.func68) kr rfl (m2 e3 Ev.c) (fun w' hw' => rotl32_c (Sha.v32 rr (fun j => (hh j).setWidth 32) i 0) (-13) w') (q_val (fun w' hw' => y_bin e3 e3 xor32) (q_mv e3 (q_call (v := U32 (Sha.rl32 (Sha.v32 rr (fun j => (hh j).setWidth 32) i 0) (-22))) (Tryz.func68) kr rfl (m2 e3 Ev.c) (fun w' hw' => rotl32_c (Sha.v32 rr (fun j => (hh j).setWidth 32) i 0) (-22) w') (q_val (fun w' hw' => y_bin e3 e3 xor32) (q_mv e3 (q_val (fun w' hw' => y_ia1z (i := 1) (ex (pt ac 0) ad) Ev.c Tryz.underlying147 ShaBT.sz103 om om) (q_val (v := U32 (Sha.v32 rr (fun j => (hh j).setWidth 32) i 1)) (fun w' hw' => y_ld (ex (pt ac 1)) ShaBT.sc103 (cls_cell (aa.val om rfl) aa.lt w' hw')) (q_val (fun w' hw' => y_bin e3 e3 and32) (q_val (fun w' hw' => y_ia1z (i := 2) (ex (pt ac 0) ad) Ev.c Tryz.underlying147 ShaBT.sz103 om om) (q_val (v := U32 (Sha.v32 rr (fun j => (hh j).setWidth 32) i 2)) (fun w' hw' => y_ld (ex (pt ac 2)) ShaBT.sc103 (cls_cell (aa.val om rfl) aa.lt w' hw')) (q_mv e3 (q_val (fun w' hw' => y_ia1z (i := 1) (ex (pt ac 0) ad) Ev.c Tryz.underlying147 ShaBT.sz103 om om) (q_val (v := U32 (Sha.v32 rr (fun j => (hh j).setWidth 32) i 1)) (fun w' hw' => y_ld (ex (pt ac 1)) ShaBT.sc103 (cls_cell (aa.val om rfl) aa.lt w' hw')) (q_val (fun w' hw' => y_bin e3 e3 or32) (q_val (fun w' hw' => y_bin e3 e3 and32) (q_val (fun w' hw' => y_bin e3 e3 or32) (q_val (fun w' hw' => y_bin e3 e3 add32) (q_as e3 (q_nil ?_)))))))))))))))))))))))))
       intro b2 aq
       replace r_h := r_h.step aq
       replace ab := ab.step aq
       replace aa := aa.step aq
       replace hk := grown_thenB hk aq
       replace hT := Sha.Tabs.below hT aq
       refine then_n (wp_region_lit (w_mv e3 (w_mv e3 (w_val (y_bin e3 e3 add32) (w_mv e3 (w_val (y_ia1z (i := 1) (ex (pt ac 0) ad) Ev.c Tryz.underlying147 ShaBT.sz103 om om) (w_val (v := U32 (Sha.v32 rr (fun j => (hh j).setWidth 32) i 1)) (y_ld (ex (pt ac 1)) ShaBT.sc103 (aa.val om rfl)) (w_val (y_ia1z (i := 2) (ex (pt ac 0) ad) Ev.c Tryz.underlying147 ShaBT.sz103 om om) (w_val (v := U32 (Sha.v32 rr (fun j => (hh j).setWidth 32) i 2)) (y_ld (ex (pt ac 2)) ShaBT.sc103 (aa.val om rfl)) (w_val (y_ia1z (i := 3) (ex (pt ac 0) ad) Ev.c Tryz.underlying147 ShaBT.sz103 om om) (w_val (v := U32 (Sha.v32 rr (fun j => (hh j).setWidth 32) i 3)) (y_ld (ex (pt ac 3)) ShaBT.sc103 (aa.val om rfl)) (w_mv e3 (w_val (y_bin e3 e3 add32) (w_mv e3 (w_val (y_ia1z (i := 5) (ex (pt ac 0) ad) Ev.c Tryz.underlying147 ShaBT.sz103 om om) (w_val (v := U32 (Sha.v32 rr (fun j => (hh j).setWidth 32) i 5)) (y_ld (ex (pt ac 5)) ShaBT.sc103 (aa.val om rfl)) (w_val (y_ia1z (i := 6) (ex (pt ac 0) ad) Ev.c Tryz.underlying147 ShaBT.sz103 om om) (w_val (v := U32 (Sha.v32 rr (fun j => (hh j).setWidth 32) i 6)) (y_ld (ex (pt ac 6)) ShaBT.sc103 (aa.val om rfl)) (w_val (v := .agg (arr 8 (fun j => if j < 1 then U32 ((((((Sha.v32 rr (fun j => (hh j).setWidth 32) i 7) + (((Sha.rl32 (Sha.v32 rr (fun j => (hh j).setWidth 32) i 4) (-6)) ^^^ (Sha.rl32 (Sha.v32 rr (fun j => (hh j).setWidth 32) i 4) (-11))) ^^^ (Sha.rl32 (Sha.v32 rr (fun j => (hh j).setWidth 32) i 4) (-25)))) + ((Sha.v32 rr (fun j => (hh j).setWidth 32) i 6) ^^^ ((Sha.v32 rr (fun j => (hh j).setWidth 32) i 4) &&& ((Sha.v32 rr (fun j => (hh j).setWidth 32) i 5) ^^^ (Sha.v32 rr (fun j => (hh j).setWidth 32) i 6))))) + (Sha.k32 i)) + (Sha.w32 rr i)) + ((((Sha.rl32 (Sha.v32 rr (fun j => (hh j).setWidth 32) i 0) (-2)) ^^^ (Sha.rl32 (Sha.v32 rr (fun j => (hh j).setWidth 32) i 0) (-13))) ^^^ (Sha.rl32 (Sha.v32 rr (fun j => (hh j).setWidth 32) i 0) (-22))) + (((Sha.v32 rr (fun j => (hh j).setWidth 32) i 0) &&& (Sha.v32 rr (fun j => (hh j).setWidth 32) i 1)) ||| ((Sha.v32 rr (fun j => (hh j).setWidth 32) i 2) &&& ((Sha.v32 rr (fun j => (hh j).setWidth 32) i 0) ||| (Sha.v32 rr (fun j => (hh j).setWidth 32) i 1)))))) else if j < 2 then U32 (Sha.v32 rr (fun j => (hh j).setWidth 32) i 0) else if j < 3 then U32 (Sha.v32 rr (fun j => (hh j).setWidth 32) i 1) else if j < 4 then U32 (Sha.v32 rr (fun j => (hh j).setWidth 32) i 2) else if j < 5 then U32 ((Sha.v32 rr (fun j => (hh j).setWidth 32) i 3) + (((((Sha.v32 rr (fun j => (hh j).setWidth 32) i 7) + (((Sha.rl32 (Sha.v32 rr (fun j => (hh j).setWidth 32) i 4) (-6)) ^^^ (Sha.rl32 (Sha.v32 rr (fun j => (hh j).setWidth 32) i 4) (-11))) ^^^ (Sha.rl32 (Sha.v32 rr (fun j => (hh j).setWidth 32) i 4) (-25)))) + ((Sha.v32 rr (fun j => (hh j).setWidth 32) i 6) ^^^ ((Sha.v32 rr (fun j => (hh j).setWidth 32) i 4) &&& ((Sha.v32 rr (fun j => (hh j).setWidth 32) i 5) ^^^ (Sha.v32 rr (fun j => (hh j).setWidth 32) i 6))))) + (Sha.k32 i)) + (Sha.w32 rr i))) else if j < 6 then U32 (Sha.v32 rr (fun j => (hh j).setWidth 32) i 4) else if j < 7 then U32 (Sha.v32 rr (fun j => (hh j).setWidth 32) i 5) else U32 (Sha.v32 rr (fun j => (hh j).setWidth 32) i 6)))) (y_build (vs := #[(0, U32 ((((((Sha.v32 rr (fun j => (hh j).setWidth 32) i 7) + (((Sha.rl32 (Sha.v32 rr (fun j => (hh j).setWidth 32) i 4) (-6)) ^^^ (Sha.rl32 (Sha.v32 rr (fun j => (hh j).setWidth 32) i 4) (-11))) ^^^ (Sha.rl32 (Sha.v32 rr (fun j => (hh j).setWidth 32) i 4) (-25)))) + ((Sha.v32 rr (fun j => (hh j).setWidth 32) i 6) ^^^ ((Sha.v32 rr (fun j => (hh j).setWidth 32) i 4) &&& ((Sha.v32 rr (fun j => (hh j).setWidth 32) i 5) ^^^ (Sha.v32 rr (fun j => (hh j).setWidth 32) i 6))))) + (Sha.k32 i)) + (Sha.w32 rr i)) + ((((Sha.rl32 (Sha.v32 rr (fun j => (hh j).setWidth 32) i 0) (-2)) ^^^ (Sha.rl32 (Sha.v32 rr (fun j => (hh j).setWidth 32) i 0) (-13))) ^^^ (Sha.rl32 (Sha.v32 rr (fun j => (hh j).setWidth 32) i 0) (-22))) + (((Sha.v32 rr (fun j => (hh j).setWidth 32) i 0) &&& (Sha.v32 rr (fun j => (hh j).setWidth 32) i 1)) ||| ((Sha.v32 rr (fun j => (hh j).setWidth 32) i 2) &&& ((Sha.v32 rr (fun j => (hh j).setWidth 32) i 0) ||| (Sha.v32 rr (fun j => (hh j).setWidth 32) i 1))))))), (1, U32 (Sha.v32 rr (fun j => (hh j).setWidth 32) i 0)), (2, U32 (Sha.v32 rr (fun j => (hh j).setWidth 32) i 1)), (3, U32 (Sha.v32 rr (fun j => (hh j).setWidth 32) i 2)), (4, U32 ((Sha.v32 rr (fun j => (hh j).setWidth 32) i 3) + (((((Sha.v32 rr (fun j => (hh j).setWidth 32) i 7) + (((Sha.rl32 (Sha.v32 rr (fun j => (hh j).setWidth 32) i 4) (-6)) ^^^ (Sha.rl32 (Sha.v32 rr (fun j => (hh j).setWidth 32) i 4) (-11))) ^^^ (Sha.rl32 (Sha.v32 rr (fun j => (hh j).setWidth 32) i 4) (-25)))) + ((Sha.v32 rr (fun j => (hh j).setWidth 32) i 6) ^^^ ((Sha.v32 rr (fun j => (hh j).setWidth 32) i 4) &&& ((Sha.v32 rr (fun j => (hh j).setWidth 32) i 5) ^^^ (Sha.v32 rr (fun j => (hh j).setWidth 32) i 6))))) + (Sha.k32 i)) + (Sha.w32 rr i)))), (5, U32 (Sha.v32 rr (fun j => (hh j).setWidth 32) i 4)), (6, U32 (Sha.v32 rr (fun j => (hh j).setWidth 32) i 5)), (7, U32 (Sha.v32 rr (fun j => (hh j).setWidth 32) i 6))]) (mp_cons e3 (mp_cons e3 (mp_cons e3 (mp_cons e3 (mp_cons e3 (mp_cons e3 (mp_cons e3 (mp_cons e3 mp0)))))))) (fun w => by kernel_rfl)) (w_sta (k := 8) (G := fun j => if j < 1 then U32 ((((((Sha.v32 rr (fun j => (hh j).setWidth 32) i 7) + (((Sha.rl32 (Sha.v32 rr (fun j => (hh j).setWidth 32) i 4) (-6)) ^^^ (Sha.rl32 (Sha.v32 rr (fun j => (hh j).setWidth 32) i 4) (-11))) ^^^ (Sha.rl32 (Sha.v32 rr (fun j => (hh j).setWidth 32) i 4) (-25)))) + ((Sha.v32 rr (fun j => (hh j).setWidth 32) i 6) ^^^ ((Sha.v32 rr (fun j => (hh j).setWidth 32) i 4) &&& ((Sha.v32 rr (fun j => (hh j).setWidth 32) i 5) ^^^ (Sha.v32 rr (fun j => (hh j).setWidth 32) i 6))))) + (Sha.k32 i)) + (Sha.w32 rr i)) + ((((Sha.rl32 (Sha.v32 rr (fun j => (hh j).setWidth 32) i 0) (-2)) ^^^ (Sha.rl32 (Sha.v32 rr (fun j => (hh j).setWidth 32) i 0) (-13))) ^^^ (Sha.rl32 (Sha.v32 rr (fun j => (hh j).setWidth 32) i 0) (-22))) + (((Sha.v32 rr (fun j => (hh j).setWidth 32) i 0) &&& (Sha.v32 rr (fun j => (hh j).setWidth 32) i 1)) ||| ((Sha.v32 rr (fun j => (hh j).setWidth 32) i 2) &&& ((Sha.v32 rr (fun j => (hh j).setWidth 32) i 0) ||| (Sha.v32 rr (fun j => (hh j).setWidth 32) i 1)))))) else if j < 2 then U32 (Sha.v32 rr (fun j => (hh j).setWidth 32) i 0) else if j < 3 then U32 (Sha.v32 rr (fun j => (hh j).setWidth 32) i 1) else if j < 4 then U32 (Sha.v32 rr (fun j => (hh j).setWidth 32) i 2) else if j < 5 then U32 ((Sha.v32 rr (fun j => (hh j).setWidth 32) i 3) + (((((Sha.v32 rr (fun j => (hh j).setWidth 32) i 7) + (((Sha.rl32 (Sha.v32 rr (fun j => (hh j).setWidth 32) i 4) (-6)) ^^^ (Sha.rl32 (Sha.v32 rr (fun j => (hh j).setWidth 32) i 4) (-11))) ^^^ (Sha.rl32 (Sha.v32 rr (fun j => (hh j).setWidth 32) i 4) (-25)))) + ((Sha.v32 rr (fun j => (hh j).setWidth 32) i 6) ^^^ ((Sha.v32 rr (fun j => (hh j).setWidth 32) i 4) &&& ((Sha.v32 rr (fun j => (hh j).setWidth 32) i 5) ^^^ (Sha.v32 rr (fun j => (hh j).setWidth 32) i 6))))) + (Sha.k32 i)) + (Sha.w32 rr i))) else if j < 6 then U32 (Sha.v32 rr (fun j => (hh j).setWidth 32) i 4) else if j < 7 then U32 (Sha.v32 rr (fun j => (hh j).setWidth 32) i 5) else U32 (Sha.v32 rr (fun j => (hh j).setWidth 32) i 6)) (ex (pt ac 0) ad) ea oc ShaBT.sz147 aa om ?_))))))))))))))))))))
       clear aa; intro bq aa aw _
       replace aa := aa.congr (g := fun j => if j < 1 then U32 ((((((Sha.v32 rr (fun j => (hh j).setWidth 32) i 7) + (((Sha.rl32 (Sha.v32 rr (fun j => (hh j).setWidth 32) i 4) (-6)) ^^^ (Sha.rl32 (Sha.v32 rr (fun j => (hh j).setWidth 32) i 4) (-11))) ^^^ (Sha.rl32 (Sha.v32 rr (fun j => (hh j).setWidth 32) i 4) (-25)))) + ((Sha.v32 rr (fun j => (hh j).setWidth 32) i 6) ^^^ ((Sha.v32 rr (fun j => (hh j).setWidth 32) i 4) &&& ((Sha.v32 rr (fun j => (hh j).setWidth 32) i 5) ^^^ (Sha.v32 rr (fun j => (hh j).setWidth 32) i 6))))) + (Sha.k32 i)) + (Sha.w32 rr i)) + ((((Sha.rl32 (Sha.v32 rr (fun j => (hh j).setWidth 32) i 0) (-2)) ^^^ (Sha.rl32 (Sha.v32 rr (fun j => (hh j).setWidth 32) i 0) (-13))) ^^^ (Sha.rl32 (Sha.v32 rr (fun j => (hh j).setWidth 32) i 0) (-22))) + (((Sha.v32 rr (fun j => (hh j).setWidth 32) i 0) &&& (Sha.v32 rr (fun j => (hh j).setWidth 32) i 1)) ||| ((Sha.v32 rr (fun j => (hh j).setWidth 32) i 2) &&& ((Sha.v32 rr (fun j => (hh j).setWidth 32) i 0) ||| (Sha.v32 rr (fun j => (hh j).setWidth 32) i 1)))))) else if j < 2 then U32 (Sha.v32 rr (fun j => (hh j).setWidth 32) i 0) else if j < 3 then U32 (Sha.v32 rr (fun j => (hh j).setWidth 32) i 1) else if j < 4 then U32 (Sha.v32 rr (fun j => (hh j).setWidth 32) i 2) else if j < 5 then U32 ((Sha.v32 rr (fun j => (hh j).setWidth 32) i 3) + (((((Sha.v32 rr (fun j => (hh j).setWidth 32) i 7) + (((Sha.rl32 (Sha.v32 rr (fun j => (hh j).setWidth 32) i 4) (-6)) ^^^ (Sha.rl32 (Sha.v32 rr (fun j => (hh j).setWidth 32) i 4) (-11))) ^^^ (Sha.rl32 (Sha.v32 rr (fun j => (hh j).setWidth 32) i 4) (-25)))) + ((Sha.v32 rr (fun j => (hh j).setWidth 32) i 6) ^^^ ((Sha.v32 rr (fun j => (hh j).setWidth 32) i 4) &&& ((Sha.v32 rr (fun j => (hh j).setWidth 32) i 5) ^^^ (Sha.v32 rr (fun j => (hh j).setWidth 32) i 6))))) + (Sha.k32 i)) + (Sha.w32 rr i))) else if j < 6 then U32 (Sha.v32 rr (fun j => (hh j).setWidth 32) i 4) else if j < 7 then U32 (Sha.v32 rr (fun j => (hh j).setWidth 32) i 5) else U32 (Sha.v32 rr (fun j => (hh j).setWidth 32) i 6)) (fun j hj => by rw [if_pos ⟨Nat.zero_le _, by omega⟩]; first | rfl | (simp only [Nat.sub_zero]))
       replace r_h := r_h.stepG aw om
       replace ab := ab.stepG aw om
       replace hk := grown_thenG hk aw om
       replace hT := Sha.Tabs.grown hT aw om om
       refine wpList_nil (inb_n (then_n (wp_region_lit (w_val (y_bin (ei aj) Ev.c (b_add om)) (w_mv ei (wpList_nil ?_))))))
       exact then_n ⟨_, om, i + 1, rfl, _, rfl, iv, bb, a8, ad, ti, r_h, ab, (aa.congr (fun j hj => by exact Sha.eight_row32 rr _ i j hj)), hT, hk⟩
      ·skip
       refine wp_exit (then_x ?_)
       replace aa := aa.congr (g := fun j => U32 (Sha.v32 rr (fun j => (hh j).setWidth 32) 64 j)) (fun j hj => by (try dsimp only); rw [show i = 64 from by omega])
       refine then_x (inb_x (then_n (sr (w_mv Ev.c (nt (wp_block ?_))))))
       refine c_loop (fun dN aN wl => ∃ (k4 : Nat), dN = (8 - k4) ∧ ∃ be, aN = fr 211 be ∧ (k4 ≤ 8) ∧ be 0 = pt h 0 ∧ be 6 = pt ac 0 ∧ be 190 = .int .i64 ((k4 : Nat) : Int) ∧ Row wl h 139 139 (Sha.hrow (.int .i64 kd) (fun i => if i < k4 then Sha.comp true rr hh i else hh i) rr (.int .i64 ((n : Nat) : Int)) (U64 al)) ∧ Row wl af 145 64 (fun j => U32 (Sha.w32 rr j)) ∧ Row wl ac 147 8 (fun j => U32 (Sha.v32 rr (fun j => (hh j).setWidth 32) 64 j)) ∧ Sha.Tabs wl ∧ w0.grownBy wl (some h)) (8 - 0) ?_ ?_
       · exact ⟨0, rfl, _, rfl, iv, bb, ad, ti, (r_h.congr (fun j hj => by exact Sha.words_init _ _ _ _ _ _ j)), ab, aa, hT, hk⟩
       ·skip
        clear r_h ab aa hT hk
        rintro _ _ br ⟨k4, rfl, be, rfl, bm, a5, bd, ak, r_h, ab, aa, hT, hk⟩
        refine sr (w_val (y_bin (ei ak) Ev.c b_lss) (nt (wp_seq ?_)))
        refine c_if (p := ((k4 : Nat) : Int) < 8) eb (fun hc37 => ?_) (fun hc37 => ?_)
        ·skip
         refine wp_skip (then_n (wp_seq (wp_block (sr (w_mv (ei ak) (w_as ei (nt (region_t 17 ShaBT.mixed kr ?_))))))))
         simp only [List.take_succ_cons, List.take_zero, List.drop_succ_cons, List.drop_zero]
         refine q_mv (ex (pt h 0) a5) (q_mv ei (q_mv (ex (pt h 0) a5) (q_mv ei (q_val (fun w' hw' => y_nc (ex (pt h 0))) (q_val (v := pt h 1) (fun w' hw' => y_off (y_fa (ex (pt h 0)) (ShaBT.fa139_1 _ _)) ro) (q_val (v := pt h (1 + k4)) (fun w' hw' => y_off (y_ia1 (i := k4) (ex (pt h 1)) ei Tryz.underlying93 ShaBT.sz92 om om) ro) (q_val (v := U64 ((fun i => if i < k4 then Sha.comp true rr hh i else hh i) k4)) (fun w' hw' => y_ld (ex (pt h (1 + k4))) ShaBT.sc92 (cls_cell (r_h.val om (ng pz)) r_h.lt w' hw')) (q_val (fun w' hw' => y_u64_u32 e6 ShaBT.so92 Tryz.underlying103) (q_mv ei (q_val (fun w' hw' => y_ia1z (i := k4) (ex (pt ac 0) bd) ei Tryz.underlying147 ShaBT.sz103 om om) (q_val (v := U32 (Sha.v32 rr (fun j => (hh j).setWidth 32) 64 k4)) (fun w' hw' => y_ld (ex (pt ac k4)) ShaBT.sc103 (cls_cell (aa.val om rfl) aa.lt w' hw')) (q_val (fun w' hw' => y_bin e3 e3 add32) (q_val (fun w' hw' => y_u32_u64 e3 ShaBT.so103 Tryz.underlying92) (q_val (fun w' hw' => y_nc (ex (pt h 0))) (q_val (v := pt h 1) (fun w' hw' => y_off (y_fa (ex (pt h 0)) (ShaBT.fa139_1 _ _)) ro) (q_val (v := pt h (1 + k4)) (fun w' hw' => y_off (y_ia1 (i := k4) (ex (pt h 1)) ei Tryz.underlying93 ShaBT.sz92 om om) ro) (q_nil ?_)))))))))))))))))
         intro bo ar
         replace r_h := r_h.step ar
         replace ab := ab.step ar
         replace aa := aa.step ar
         replace hk := grown_thenB hk ar
         replace hT := Sha.Tabs.below hT ar
         refine w_st (v := U64 (((((fun i => if i < k4 then Sha.comp true rr hh i else hh i) k4).setWidth 32) + (Sha.v32 rr (fun j => (hh j).setWidth 32) 64 k4)).setWidth 64)) (ex (pt h (1 + k4))) e6 rfl rfl ShaBT.sz92 r_h om ?_
         clear r_h; intro bx r_h ax _
         replace ab := ab.stepG ax om
         replace aa := aa.stepG ax om
         replace hk := grown_thenG hk ax om
         replace hT := Sha.Tabs.grown hT ax om om
         refine wpList_nil (inb_n (then_n (wp_region_lit (w_val (y_bin (ei ak) Ev.c (b_add om)) (w_mv ei (wpList_nil ?_))))))
         exact then_n ⟨_, om, k4 + 1, rfl, _, rfl, iv, a5, bd, ti, (r_h.congr (fun j hj => by exact Sha.words_step _ _ _ _ _ _ _ k4 j om (by (try dsimp only); rw [if_neg (Nat.lt_irrefl k4)]; exact Sha.few_eq rr hh k4 hs))), ab, aa, hT, hk⟩
        ·skip
         refine wp_exit (then_x ?_)
         replace r_h := r_h.congr (g := Sha.hrow (.int .i64 kd) (Sha.comp true rr hh) rr (.int .i64 ((n : Nat) : Int)) (U64 al)) (fun j hj => by exact Sha.words_done _ _ _ _ _ _ j hj om)
         refine then_x (inb_x (fin_end0 rfl ?_))
         exact ⟨rfl, r_h, hk⟩

theorem many_c (h n : Nat) (h1 : 0 < h ∧ 1 < h) (kd : Int) (hh : Nat → BitVec 64) (rr : Nat → BitVec 8) (al : BitVec 64) (w0 : World) (r_h : Row w0 h 139 139 (Sha.hrow (.int .i64 kd) hh rr (.int .i64 ((n : Nat) : Int)) (U64 al))) (hT : Sha.Tabs w0) : Calls Tryz.prog 66 #[pt h 0] w0 fun e w' => e = .returned (.tuple #[]) ∧ Row w' h 139 139 (Sha.hrow (.int .i64 kd) (Sha.comp false rr hh) rr (.int .i64 ((n : Nat) : Int)) (U64 al)) ∧ w0.grownBy w' (some h) := by
 have b3 := hT.lt
 refine enter (n := 176) Tryz.func66 rfl rfl rfl ?_
 have hk : w0.grownBy w0 (some h) := grown_refl _ _
 have bl := r_h.lt
 refine sr (w_alloc (m := 80) (F := fun j => U64 (0#64)) kr ?_)
 intro af w1 ag aa bg
 have bc := r_h.nb ag
 have bh := gb_ hk.size ag
 clear ag
 replace r_h := r_h.step bg
 replace hk := grown_thenB hk bg
 replace hT := Sha.Tabs.below hT bg
 refine nt (wp_seq (sr (w_mv Ev.c (nt (wp_block ?_)))))
 refine c_loop (fun dN aN wl => ∃ (k : Nat), dN = (80 - k) ∧ ∃ f3, aN = fr 176 f3 ∧ (k ≤ 80) ∧ f3 0 = pt h 0 ∧ f3 2 = pt af 0 ∧ f3 14 = .int .i64 ((k : Nat) : Int) ∧ Row wl h 139 139 (Sha.hrow (.int .i64 kd) hh rr (.int .i64 ((n : Nat) : Int)) (U64 al)) ∧ Row wl af 148 80 (fun j => if j < k then (fun j => U64 (Sha.w false rr j)) j else (fun j => U64 (0#64)) j) ∧ Sha.Tabs wl ∧ w0.grownBy wl (some h)) (80 - 0) ?_ ?_
 · exact ⟨0, rfl, _, rfl, iv, rfl, rfl, ti, r_h, (aa.cg), hT, hk⟩
 ·skip
  clear r_h aa hT hk
  rintro _ _ w4 ⟨k, rfl, f3, rfl, bj, a1, ah, aj, r_h, aa, hT, hk⟩
  refine sr (w_val (y_bin (ei aj) Ev.c b_lss) (nt (wp_seq ?_)))
  refine c_if (p := ((k : Nat) : Int) < 80) eb (fun hc5 => ?_) (fun hc5 => ?_)
  ·skip
   refine wp_skip (then_n (wp_seq (wp_block (sr (w_mv (ei aj) (w_as ei (nt (wp_seq (sr (w_mv ei (w_val (y_bin ei Ev.c b_lss) (nt ?_))))))))))))
   refine c_if (p := ((k : Nat) : Int) < 16) eb (fun hc6 => ?_) (fun hc6 => ?_)
   ·skip
    refine wp_seq (sr (w_mv Ev.c (nt (wp_block ?_))))
    refine c_loop (fun dN aN wl => ∃ (q : Nat), dN = (8 - q) ∧ ∃ f7, aN = fr 176 f7 ∧ (q ≤ 8) ∧ f7 0 = pt h 0 ∧ f7 2 = pt af 0 ∧ f7 3 = .int .i64 ((k : Nat) : Int) ∧ f7 14 = .int .i64 ((k : Nat) : Int) ∧ f7 19 = .int .i64 ((q : Nat) : Int) ∧ Row wl h 139 139 (Sha.hrow (.int .i64 kd) hh rr (.int .i64 ((n : Nat) : Int)) (U64 al)) ∧ Row wl af 148 80 (fun j => if j < k then (fun j => U64 (Sha.w false rr j)) j else (fun j => if j = k then U64 (Sha.bw (fun i => rr (8 * k + i)) q) else (fun j => U64 (0#64)) j) j) ∧ Sha.Tabs wl ∧ w0.grownBy wl (some h)) (8 - 0) ?_ ?_
    · exact ⟨0, rfl, _, rfl, iv, a1, ah, rfl, aj, ti, r_h, (aa.congr (fun j hj => by exact Sha.bytes_init rr k j)), hT, hk⟩
    ·skip
     clear r_h aa hT hk
     rintro _ _ w8 ⟨q, rfl, f7, rfl, bn, a4, aw, a0, a3, am, r_h, aa, hT, hk⟩
     refine sr (w_val (y_bin (ei am) Ev.c b_lss) (nt (wp_seq ?_)))
     refine c_if (p := ((q : Nat) : Int) < 8) eb (fun hc9 => ?_) (fun hc9 => ?_)
     ·skip
      refine wp_skip (then_n (wp_seq (wp_block (sr (w_mv (ei am) (w_as ei (nt (region_t 17 ShaBT.mixed kr ?_))))))))
      simp only [List.take_succ_cons, List.take_zero, List.drop_succ_cons, List.drop_zero]
      refine q_mv (ei a0) (q_mv (ei a0) (q_val (fun w' hw' => y_ia1z (i := k) (ex (pt af 0) aw) ei Tryz.underlying148 ShaBT.sz92 om om) (q_val (v := U64 (Sha.bw (fun i => rr (8 * k + i)) q)) (fun w' hw' => y_ld (ex (pt af k)) ShaBT.sc92 (cls_cell (aa.val om (ng (if_pos rfl))) aa.lt w' hw')) (q_val (fun w' hw' => y_bin e6 (evc (.int .u64 8)) (shl64 (c := 8) rfl)) (q_mv (ex (pt h 0) a4) (q_mv (ei a0) (q_val (fun w' hw' => y_bin Ev.c ei (b_mul om)) (q_mv ei (q_val (fun w' hw' => y_bin ei ei (b_add om)) (q_val (fun w' hw' => y_nc (ex (pt h 0))) (q_val (v := pt h 9) (fun w' hw' => y_off (y_fa (ex (pt h 0)) (ShaBT.fa139_2 _ _)) ro) (q_val (v := pt h (9 + ((8 * k) + q))) (fun w' hw' => y_off (y_ia1 (i := ((8 * k) + q)) (ex (pt h 9)) ei Tryz.underlying137 ShaBT.sz5 om om) ro) (q_val (v := U8 (rr ((8 * k) + q))) (fun w' hw' => y_ld (ex (pt h (9 + ((8 * k) + q)))) ShaBT.sc5 (cls_cell (r_h.val om (ng (ng pz))) r_h.lt w' hw')) (q_val (fun w' hw' => y_u8_u64 e8 ShaBT.so5 Tryz.underlying92) (q_val (fun w' hw' => y_bin e6 e6 or64) (q_val (fun w' hw' => y_ia1z (i := k) (ex (pt af 0) aw) ei Tryz.underlying148 ShaBT.sz92 om om) (q_nil ?_)))))))))))))))))
      intro bu ay
      replace r_h := r_h.step ay
      replace aa := aa.step ay
      replace hk := grown_thenB hk ay
      replace hT := Sha.Tabs.below hT ay
      refine w_st (v := U64 (((Sha.bw (fun i => rr (8 * k + i)) q) <<< 8) ||| ((rr ((8 * k) + q)).setWidth 64))) (ex (pt af k)) e6 rfl rfl ShaBT.sz92 aa om ?_
      clear aa; intro b2 aa a5 _
      replace r_h := r_h.stepG a5 om
      replace hk := grown_thenG hk a5 om
      replace hT := Sha.Tabs.grown hT a5 om om
      refine wpList_nil (inb_n (then_n (wp_region_lit (w_val (y_bin (ei am) Ev.c (b_add om)) (w_mv ei (wpList_nil ?_))))))
      exact then_n ⟨_, om, q + 1, rfl, _, rfl, iv, a4, aw, a0, a3, ti, r_h, (aa.congr (fun j hj => by exact Sha.bytes_step rr k q j)), hT, hk⟩
     ·skip
      refine wp_exit (then_x (then_x (inb_x (then_n (wp_exit (then_x (inb_x (then_n (wp_region_lit (w_val (y_bin (ei a3) Ev.c (b_add om)) (w_mv ei (wpList_nil ?_))))))))))))
      exact then_n ⟨_, om, k + 1, rfl, _, rfl, iv, a4, aw, ti, r_h, (aa.congr (fun j hj => by first | ((try dsimp only); by_cases e : j = k; (rw [if_pos e, if_pos om, e]; exact congrArg U64 (by first | exact (Sha.w64_hi rr k om).symm)); (rw [if_neg e]; by_cases e2 : j < k; (rw [if_pos e2, if_pos om]); (rw [if_neg e2, if_neg om]))) | exact Sha.bytes_done rr k j om om)), hT, hk⟩
   ·skip
    refine wp_skip (then_n (wp_seq (region_q ShaBT.mixed kr (q_mv ei (q_val (fun w' hw' => y_bin ei Ev.c (b_sub om)) (q_val (fun w' hw' => y_ia1z (i := (k - 15)) (ex (pt af 0) ah) ei Tryz.underlying148 ShaBT.sz92 om om) (q_val (v := U64 (Sha.w false rr (k - 15))) (fun w' hw' => y_ld (ex (pt af (k - 15))) ShaBT.sc92 (cls_cell (aa.val om ((if_pos om).trans rfl)) aa.lt w' hw')) (q_mv ei (q_val (fun w' hw' => y_bin ei Ev.c (b_sub om)) (q_val (fun w' hw' => y_ia1z (i := (k - 2)) (ex (pt af 0) ah) ei Tryz.underlying148 ShaBT.sz92 om om) (q_val (v := U64 (Sha.w false rr (k - 2))) (fun w' hw' => y_ld (ex (pt af (k - 2))) ShaBT.sc92 (cls_cell (aa.val om ((if_pos om).trans rfl)) aa.lt w' hw')) (q_as e6 (q_as e6 (q_nil ?_))))))))))))))
    intro b5 ax
    replace r_h := r_h.step ax
    replace aa := aa.step ax
    replace hk := grown_thenB hk ax
    replace hT := Sha.Tabs.below hT ax
    refine then_n (region_t 29 ShaBT.mixed kr ?_)
    simp only [List.take_succ_cons, List.take_zero, List.drop_succ_cons, List.drop_zero]
    refine q_mv ei (q_mv ei (q_val (fun w' hw' => y_bin ei Ev.c (b_sub om)) (q_val (fun w' hw' => y_ia1z (i := (k - 16)) (ex (pt af 0) ah) ei Tryz.underlying148 ShaBT.sz92 om om) (q_val (v := U64 (Sha.w false rr (k - 16))) (fun w' hw' => y_ld (ex (pt af (k - 16))) ShaBT.sc92 (cls_cell (aa.val om ((if_pos om).trans rfl)) aa.lt w' hw')) (q_mv e6 (q_call (v := U64 (Sha.rl64 (Sha.w false rr (k - 15)) (-1))) (Tryz.func69) kr rfl (m2 e6 Ev.c) (fun w' hw' => rotl64_c (Sha.w false rr (k - 15)) (-1) w') (q_mv e6 (q_call (v := U64 (Sha.rl64 (Sha.w false rr (k - 15)) (-8))) (Tryz.func69) kr rfl (m2 e6 Ev.c) (fun w' hw' => rotl64_c (Sha.w false rr (k - 15)) (-8) w') (q_val (fun w' hw' => y_bin e6 e6 xor64) (q_mv e6 (q_val (fun w' hw' => y_bin e6 (evc (.int .u64 7)) (shr64 (c := 7) rfl)) (q_val (fun w' hw' => y_bin e6 e6 xor64) (q_val (fun w' hw' => y_bin e6 e6 add64) (q_mv ei (q_val (fun w' hw' => y_bin ei Ev.c (b_sub om)) (q_val (fun w' hw' => y_ia1z (i := (k - 7)) (ex (pt af 0) ah) ei Tryz.underlying148 ShaBT.sz92 om om) (q_val (v := U64 (Sha.w false rr (k - 7))) (fun w' hw' => y_ld (ex (pt af (k - 7))) ShaBT.sc92 (cls_cell (aa.val om ((if_pos om).trans rfl)) aa.lt w' hw')) (q_val (fun w' hw' => y_bin e6 e6 add64) (q_mv e6 (q_call (v := U64 (Sha.rl64 (Sha.w false rr (k - 2)) (-19))) (Tryz.func69) kr rfl (m2 e6 Ev.c) (fun w' hw' => rotl64_c (Sha.w false rr (k - 2)) (-19) w') (q_mv e6 (q_call (v := U64 (Sha.rl64 (Sha.w false rr (k - 2)) (-61))) (Tryz.func69) kr rfl (m2 e6 Ev.c) (fun w' hw' => rotl64_c (Sha.w false rr (k - 2)) (-61) w') (q_val (fun w' hw' => y_bin e6 e6 xor64) (q_mv e6 (q_val (fun w' hw' => y_bin e6 (evc (.int .u64 6)) (shr64 (c := 6) rfl)) (q_val (fun w' hw' => y_bin e6 e6 xor64) (q_val (fun w' hw' => y_bin e6 e6 add64) (q_val (fun w' hw' => y_ia1z (i := k) (ex (pt af 0) ah) ei Tryz.underlying148 ShaBT.sz92 om om) (q_nil ?_)))))))))))))))))))))))))))))
    intro bv a2
    replace r_h := r_h.step a2
    replace aa := aa.step a2
    replace hk := grown_thenB hk a2
    replace hT := Sha.Tabs.below hT a2
    refine w_st (v := U64 ((((Sha.w false rr (k - 16)) + (((Sha.rl64 (Sha.w false rr (k - 15)) (-1)) ^^^ (Sha.rl64 (Sha.w false rr (k - 15)) (-8))) ^^^ ((Sha.w false rr (k - 15)) >>> 7))) + (Sha.w false rr (k - 7))) + (((Sha.rl64 (Sha.w false rr (k - 2)) (-19)) ^^^ (Sha.rl64 (Sha.w false rr (k - 2)) (-61))) ^^^ ((Sha.w false rr (k - 2)) >>> 6)))) (ex (pt af k)) e6 rfl rfl ShaBT.sz92 aa om ?_
    clear aa; intro bx aa a6 _
    replace r_h := r_h.stepG a6 om
    replace hk := grown_thenG hk a6 om
    replace hT := Sha.Tabs.grown hT a6 om om
    refine wpList_nil (inb_n (then_n (wp_region_lit (w_val (y_bin (ei aj) Ev.c (b_add om)) (w_mv ei (wpList_nil ?_))))))
    exact then_n ⟨_, om, k + 1, rfl, _, rfl, iv, a1, ah, ti, r_h, (aa.congr (fun j hj => by first | ((try dsimp only); by_cases e : j = k; (rw [if_pos e, if_pos om, e]; exact congrArg U64 (by first | exact (Sha.w64_hi rr k om).symm)); (rw [if_neg e]; by_cases e2 : j < k; (rw [if_pos e2, if_pos om]); (rw [if_neg e2, if_neg om]))) | exact Sha.bytes_done rr k j om om)), hT, hk⟩
  ·skip
   refine wp_exit (then_x ?_)
   replace aa := aa.congr (g := fun j => U64 (Sha.w false rr j)) (fun j hj => by (try dsimp only); rw [if_pos om])
   refine then_x (inb_x (then_n (sr (w_mv (ex (pt h 0) a1) (w_val (y_nc (ex (pt h 0))) (w_val (v := pt h 1) (y_off (y_fa (ex (pt h 0)) (ShaBT.fa139_1 _ _)) ro) (w_val (v := .agg (arr 8 (fun j => U64 (hh j)))) (y_lda (ex (pt h 1)) ShaBT.ag93 ShaBT.sz93 (fun j hj => (r_h.val om (by first | with_reducible rfl | exact (ng pz))))) (w_alloc (m := 8) (F := fun j => U64 (0#64)) kr ?_))))))))
   intro ac bz ae ab az
   have ba := r_h.nb ae
   have a7 := aa.nb ae
   have bi := gb_ hk.size ae
   clear ae
   replace r_h := r_h.step az
   replace aa := aa.step az
   replace hk := grown_thenB hk az
   replace hT := Sha.Tabs.below hT az
   refine w_sta (k := 8) (G := fun j => U64 (hh j)) (ex (pt ac 0)) ea oc ShaBT.sz93 ab om ?_
   clear ab; intro b1 ab ar _
   replace ab := ab.congr (g := fun j => U64 (hh j)) (fun j hj => by rw [if_pos ⟨Nat.zero_le _, by omega⟩]; first | rfl | (simp only [Nat.sub_zero]))
   replace r_h := r_h.stepG ar om
   replace aa := aa.stepG ar om
   replace hk := grown_thenG hk ar om
   replace hT := Sha.Tabs.grown hT ar om om
   refine nt (wp_seq (sr (w_mv Ev.c (nt (wp_block ?_)))))
   refine c_loop (fun dN aN wl => ∃ (i : Nat), dN = (80 - i) ∧ ∃ a8, aN = fr 176 a8 ∧ (i ≤ 80) ∧ a8 0 = pt h 0 ∧ a8 2 = pt af 0 ∧ a8 7 = pt ac 0 ∧ a8 82 = .int .i64 ((i : Nat) : Int) ∧ Row wl h 139 139 (Sha.hrow (.int .i64 kd) hh rr (.int .i64 ((n : Nat) : Int)) (U64 al)) ∧ Row wl af 148 80 (fun j => U64 (Sha.w false rr j)) ∧ Row wl ac 93 8 (fun j => U64 (Sha.vs false rr hh i j)) ∧ Sha.Tabs wl ∧ w0.grownBy wl (some h)) (80 - 0) ?_ ?_
   · exact ⟨0, rfl, _, rfl, iv, a1, ah, rfl, ti, r_h, aa, (ab.congr (fun j hj => by (try dsimp only); first | rfl | exact Sha.words_of _ _ _ _ _ j hj)), hT, hk⟩
   ·skip
    clear r_h aa ab hT hk
    rintro _ _ br ⟨i, rfl, a8, rfl, bk, bb, a9, ad, ao, r_h, aa, ab, hT, hk⟩
    refine sr (w_val (y_bin (ei ao) Ev.c b_lss) (nt (wp_seq ?_)))
    refine c_if (p := ((i : Nat) : Int) < 80) eb (fun hc26 => ?_) (fun hc26 => ?_)
    ·skip
     refine wp_skip (then_n (wp_seq (wp_block (sr (w_mv (ei ao) (w_as ei (nt (wp_seq (region_q ShaBT.mixed kr (q_val (fun w' hw' => y_ia1z (i := 4) (ex (pt ac 0) ad) Ev.c Tryz.underlying93 ShaBT.sz92 om om) (q_val (v := U64 (Sha.vs false rr hh i 4)) (fun w' hw' => y_ld (ex (pt ac 4)) ShaBT.sc92 (cls_cell (ab.val om rfl) ab.lt w' hw')) (q_val (fun w' hw' => y_ia1z (i := 0) (ex (pt ac 0) ad) Ev.c Tryz.underlying93 ShaBT.sz92 om om) (q_val (v := U64 (Sha.vs false rr hh i 0)) (fun w' hw' => y_ld (ex (pt ac 0)) ShaBT.sc92 (cls_cell (ab.val om rfl) ab.lt w' hw')) (q_as e6 (q_as e6 (q_nil ?_))))))))))))))))
     intro bt an
     replace r_h := r_h.step an
     replace aa := aa.step an
     replace ab := ab.step an
     replace hk := grown_thenB hk an
     replace hT := Sha.Tabs.below hT an
     refine then_n (wp_seq (region_q ShaBT.mixed kr (q_val (fun w' hw' => y_ia1z (i := 7) (ex (pt ac 0) ad) Ev.c Tryz.underlying93 ShaBT.sz92 om om) (q_val (v := U64 (Sha.vs false rr hh i 7)) (fun w' hw' => y_ld (ex (pt ac 7)) ShaBT.sc92 (cls_cell (ab.val om rfl) ab.lt w' hw')) (q_mv e6 (q_call (v := U64 (Sha.rl64 (Sha.vs false rr hh i 4) (-14))) (Tryz.func69) kr rfl (m2 e6 Ev.c) (fun w' hw' => rotl64_c (Sha.vs false rr hh i 4) (-14) w') (q_mv e6 (q_call (v := U64 (Sha.rl64 (Sha.vs false rr hh i 4) (-18))) (Tryz.func69) kr rfl (m2 e6 Ev.c) (fun w' hw' => rotl64_c (Sha.vs false rr hh i 4) (-18) w') (q_val (fun w' hw' => y_bin e6 e6 xor64) (q_mv e6 (q_call (v := U64 (Sha.rl64 (Sha.vs false rr hh i 4) (-41))) (Tryz.func69) kr rfl (m2 e6 Ev.c) (fun w' hw' => rotl64_c (Sha.vs false rr hh i 4) (-41) w') (q_val (fun w' hw' => y_bin e6 e6 xor64) (q_val (fun w' hw' => y_bin e6 e6 add64) (q_val (fun w' hw' => y_ia1z (i := 6) (ex (pt ac 0) ad) Ev.c Tryz.underlying93 ShaBT.sz92 om om) (q_val (v := U64 (Sha.vs false rr hh i 6)) (fun w' hw' => y_ld (ex (pt ac 6)) ShaBT.sc92 (cls_cell (ab.val om rfl) ab.lt w' hw')) (q_mv e6 (q_val (fun w' hw' => y_ia1z (i := 5) (ex (pt ac 0) ad) Ev.c Tryz.underlying93 ShaBT.sz92 om om) (q_val (v := U64 (Sha.vs false rr hh i 5)) (fun w' hw' => y_ld (ex (pt ac 5)) ShaBT.sc92 (cls_cell (ab.val om rfl) ab.lt w' hw')) (q_val (fun w' hw' => y_ia1z (i := 6) (ex (pt ac 0) ad) Ev.c Tryz.underlying93 ShaBT.sz92 om om) (q_val (v := U64 (Sha.vs false rr hh i 6)) (fun w' hw' => y_ld (ex (pt ac 6)) ShaBT.sc92 (cls_cell (ab.val om rfl) ab.lt w' hw')) (q_val (fun w' hw' => y_bin e6 e6 xor64) (q_val (fun w' hw' => y_bin e6 e6 and64) (q_val (fun w' hw' => y_bin e6 e6 xor64) (q_val (fun w' hw' => y_bin e6 e6 add64) (q_mv ei (q_val (fun w' hw' => y_ia1z (i := i) Ev.g ei Tryz.underlying148 ShaBT.sz92 om om) (q_val (v := U64 (Sha.K false i)) (fun w' hw' => y_ld (ex (pt 1 i)) ShaBT.sc92 ((Sha.Tabs.below hT hw').great om)) (q_val (fun w' hw' => y_bin e6 e6 add64) (q_mv ei (q_val (fun w' hw' => y_ia1z (i := i) (ex (pt af 0) a9) ei Tryz.underlying148 ShaBT.sz92 om om) (q_val (v := U64 (Sha.w false rr i)) (fun w' hw' => y_ld (ex (pt af i)) ShaBT.sc92 (cls_cell (aa.val om rfl) aa.lt w' hw')) (q_val (fun w' hw' => y_bin e6 e6 add64) (q_as e6 (q_nil ?_))))))))))))))))))))))))))))))))))
     intro bs ak
     replace r_h := r_h.step ak
     replace aa := aa.step ak
     replace ab := ab.step ak
     replace hk := grown_thenB hk ak
     replace hT := Sha.Tabs.below hT ak
     refine then_n (wp_seq (region_q ShaBT.mixed kr (q_mv e6 (q_call (v := U64 (Sha.rl64 (Sha.vs false rr hh i 0) (-28))) (Tryz.func69) kr rfl (m2 e6 Ev.c) (fun w' hw' => rotl64_c (Sha.vs false rr hh i 0) (-28) w') (q_mv e6 (q_call (v := U64 (Sha.rl64 (Sha.vs false rr hh i 0) (-34))) (Tryz.func69) kr rfl (m2 e6 Ev.c) (fun w' hw' => rotl64_c (Sha.vs false rr hh i 0) (-34) w') (q_val (fun w' hw' => y_bin e6 e6 xor64) (q_mv e6 (q_call (v := U64 (Sha.rl64 (Sha.vs false rr hh i 0) (-39))) (Tryz.func69) kr rfl (m2 e6 Ev.c) (fun w' hw' => rotl64_c (Sha.vs false rr hh i 0) (-39) w') (q_val (fun w' hw' => y_bin e6 e6 xor64) (q_mv e6 (q_val (fun w' hw' => y_ia1z (i := 1) (ex (pt ac 0) ad) Ev.c Tryz.underlying93 ShaBT.sz92 om om) (q_val (v := U64 (Sha.vs false rr hh i 1)) (fun w' hw' => y_ld (ex (pt ac 1)) ShaBT.sc92 (cls_cell (ab.val om rfl) ab.lt w' hw')) (q_val (fun w' hw' => y_bin e6 e6 and64) (q_val (fun w' hw' => y_ia1z (i := 2) (ex (pt ac 0) ad) Ev.c Tryz.underlying93 ShaBT.sz92 om om) (q_val (v := U64 (Sha.vs false rr hh i 2)) (fun w' hw' => y_ld (ex (pt ac 2)) ShaBT.sc92 (cls_cell (ab.val om rfl) ab.lt w' hw')) (q_mv e6 (q_val (fun w' hw' => y_ia1z (i := 1) (ex (pt ac 0) ad) Ev.c Tryz.underlying93 ShaBT.sz92 om om) (q_val (v := U64 (Sha.vs false rr hh i 1)) (fun w' hw' => y_ld (ex (pt ac 1)) ShaBT.sc92 (cls_cell (ab.val om rfl) ab.lt w' hw')) (q_val (fun w' hw' => y_bin e6 e6 or64) (q_val (fun w' hw' => y_bin e6 e6 and64) (q_val (fun w' hw' => y_bin e6 e6 or64) (q_val (fun w' hw' => y_bin e6 e6 add64) (q_as e6 (q_nil ?_)))))))))))))))))))))))))
     intro b4 ap
     replace r_h := r_h.step ap
     replace aa := aa.step ap
     replace ab := ab.step ap
     replace hk := grown_thenB hk ap
     replace hT := Sha.Tabs.below hT ap
     refine then_n (wp_region_lit (w_mv e6 (w_mv e6 (w_val (y_bin e6 e6 add64) (w_mv e6 (w_val (y_ia1z (i := 1) (ex (pt ac 0) ad) Ev.c Tryz.underlying93 ShaBT.sz92 om om) (w_val (v := U64 (Sha.vs false rr hh i 1)) (y_ld (ex (pt ac 1)) ShaBT.sc92 (ab.val om rfl)) (w_val (y_ia1z (i := 2) (ex (pt ac 0) ad) Ev.c Tryz.underlying93 ShaBT.sz92 om om) (w_val (v := U64 (Sha.vs false rr hh i 2)) (y_ld (ex (pt ac 2)) ShaBT.sc92 (ab.val om rfl)) (w_val (y_ia1z (i := 3) (ex (pt ac 0) ad) Ev.c Tryz.underlying93 ShaBT.sz92 om om) (w_val (v := U64 (Sha.vs false rr hh i 3)) (y_ld (ex (pt ac 3)) ShaBT.sc92 (ab.val om rfl)) (w_mv e6 (w_val (y_bin e6 e6 add64) (w_mv e6 (w_val (y_ia1z (i := 5) (ex (pt ac 0) ad) Ev.c Tryz.underlying93 ShaBT.sz92 om om) (w_val (v := U64 (Sha.vs false rr hh i 5)) (y_ld (ex (pt ac 5)) ShaBT.sc92 (ab.val om rfl)) (w_val (y_ia1z (i := 6) (ex (pt ac 0) ad) Ev.c Tryz.underlying93 ShaBT.sz92 om om) (w_val (v := U64 (Sha.vs false rr hh i 6)) (y_ld (ex (pt ac 6)) ShaBT.sc92 (ab.val om rfl)) (w_val (v := .agg (arr 8 (fun j => if j < 1 then U64 ((((((Sha.vs false rr hh i 7) + (((Sha.rl64 (Sha.vs false rr hh i 4) (-14)) ^^^ (Sha.rl64 (Sha.vs false rr hh i 4) (-18))) ^^^ (Sha.rl64 (Sha.vs false rr hh i 4) (-41)))) + ((Sha.vs false rr hh i 6) ^^^ ((Sha.vs false rr hh i 4) &&& ((Sha.vs false rr hh i 5) ^^^ (Sha.vs false rr hh i 6))))) + (Sha.K false i)) + (Sha.w false rr i)) + ((((Sha.rl64 (Sha.vs false rr hh i 0) (-28)) ^^^ (Sha.rl64 (Sha.vs false rr hh i 0) (-34))) ^^^ (Sha.rl64 (Sha.vs false rr hh i 0) (-39))) + (((Sha.vs false rr hh i 0) &&& (Sha.vs false rr hh i 1)) ||| ((Sha.vs false rr hh i 2) &&& ((Sha.vs false rr hh i 0) ||| (Sha.vs false rr hh i 1)))))) else if j < 2 then U64 (Sha.vs false rr hh i 0) else if j < 3 then U64 (Sha.vs false rr hh i 1) else if j < 4 then U64 (Sha.vs false rr hh i 2) else if j < 5 then U64 ((Sha.vs false rr hh i 3) + (((((Sha.vs false rr hh i 7) + (((Sha.rl64 (Sha.vs false rr hh i 4) (-14)) ^^^ (Sha.rl64 (Sha.vs false rr hh i 4) (-18))) ^^^ (Sha.rl64 (Sha.vs false rr hh i 4) (-41)))) + ((Sha.vs false rr hh i 6) ^^^ ((Sha.vs false rr hh i 4) &&& ((Sha.vs false rr hh i 5) ^^^ (Sha.vs false rr hh i 6))))) + (Sha.K false i)) + (Sha.w false rr i))) else if j < 6 then U64 (Sha.vs false rr hh i 4) else if j < 7 then U64 (Sha.vs false rr hh i 5) else U64 (Sha.vs false rr hh i 6)))) (y_build (vs := #[(0, U64 ((((((Sha.vs false rr hh i 7) + (((Sha.rl64 (Sha.vs false rr hh i 4) (-14)) ^^^ (Sha.rl64 (Sha.vs false rr hh i 4) (-18))) ^^^ (Sha.rl64 (Sha.vs false rr hh i 4) (-41)))) + ((Sha.vs false rr hh i 6) ^^^ ((Sha.vs false rr hh i 4) &&& ((Sha.vs false rr hh i 5) ^^^ (Sha.vs false rr hh i 6))))) + (Sha.K false i)) + (Sha.w false rr i)) + ((((Sha.rl64 (Sha.vs false rr hh i 0) (-28)) ^^^ (Sha.rl64 (Sha.vs false rr hh i 0) (-34))) ^^^ (Sha.rl64 (Sha.vs false rr hh i 0) (-39))) + (((Sha.vs false rr hh i 0) &&& (Sha.vs false rr hh i 1)) ||| ((Sha.vs false rr hh i 2) &&& ((Sha.vs false rr hh i 0) ||| (Sha.vs false rr hh i 1))))))), (1, U64 (Sha.vs false rr hh i 0)), (2, U64 (Sha.vs false rr hh i 1)), (3, U64 (Sha.vs false rr hh i 2)), (4, U64 ((Sha.vs false rr hh i 3) + (((((Sha.vs false rr hh i 7) + (((Sha.rl64 (Sha.vs false rr hh i 4) (-14)) ^^^ (Sha.rl64 (Sha.vs false rr hh i 4) (-18))) ^^^ (Sha.rl64 (Sha.vs false rr hh i 4) (-41)))) + ((Sha.vs false rr hh i 6) ^^^ ((Sha.vs false rr hh i 4) &&& ((Sha.vs false rr hh i 5) ^^^ (Sha.vs false rr hh i 6))))) + (Sha.K false i)) + (Sha.w false rr i)))), (5, U64 (Sha.vs false rr hh i 4)), (6, U64 (Sha.vs false rr hh i 5)), (7, U64 (Sha.vs false rr hh i 6))]) (mp_cons e6 (mp_cons e6 (mp_cons e6 (mp_cons e6 (mp_cons e6 (mp_cons e6 (mp_cons e6 (mp_cons e6 mp0)))))))) (fun w => by kernel_rfl)) (w_sta (k := 8) (G := fun j => if j < 1 then U64 ((((((Sha.vs false rr hh i 7) + (((Sha.rl64 (Sha.vs false rr hh i 4) (-14)) ^^^ (Sha.rl64 (Sha.vs false rr hh i 4) (-18))) ^^^ (Sha.rl64 (Sha.vs false rr hh i 4) (-41)))) + ((Sha.vs false rr hh i 6) ^^^ ((Sha.vs false rr hh i 4) &&& ((Sha.vs false rr hh i 5) ^^^ (Sha.vs false rr hh i 6))))) + (Sha.K false i)) + (Sha.w false rr i)) + ((((Sha.rl64 (Sha.vs false rr hh i 0) (-28)) ^^^ (Sha.rl64 (Sha.vs false rr hh i 0) (-34))) ^^^ (Sha.rl64 (Sha.vs false rr hh i 0) (-39))) + (((Sha.vs false rr hh i 0) &&& (Sha.vs false rr hh i 1)) ||| ((Sha.vs false rr hh i 2) &&& ((Sha.vs false rr hh i 0) ||| (Sha.vs false rr hh i 1)))))) else if j < 2 then U64 (Sha.vs false rr hh i 0) else if j < 3 then U64 (Sha.vs false rr hh i 1) else if j < 4 then U64 (Sha.vs false rr hh i 2) else if j < 5 then U64 ((Sha.vs false rr hh i 3) + (((((Sha.vs false rr hh i 7) + (((Sha.rl64 (Sha.vs false rr hh i 4) (-14)) ^^^ (Sha.rl64 (Sha.vs false rr hh i 4) (-18))) ^^^ (Sha.rl64 (Sha.vs false rr hh i 4) (-41)))) + ((Sha.vs false rr hh i 6) ^^^ ((Sha.vs false rr hh i 4) &&& ((Sha.vs false rr hh i 5) ^^^ (Sha.vs false rr hh i 6))))) + (Sha.K false i)) + (Sha.w false rr i))) else if j < 6 then U64 (Sha.vs false rr hh i 4) else if j < 7 then U64 (Sha.vs false rr hh i 5) else U64 (Sha.vs false rr hh i 6)) (ex (pt ac 0) ad) ea oc ShaBT.sz93 ab om ?_))))))))))))))))))))
     clear ab; intro bp ab au _
     replace ab := ab.congr (g := fun j => if j < 1 then U64 ((((((Sha.vs false rr hh i 7) + (((Sha.rl64 (Sha.vs false rr hh i 4) (-14)) ^^^ (Sha.rl64 (Sha.vs false rr hh i 4) (-18))) ^^^ (Sha.rl64 (Sha.vs false rr hh i 4) (-41)))) + ((Sha.vs false rr hh i 6) ^^^ ((Sha.vs false rr hh i 4) &&& ((Sha.vs false rr hh i 5) ^^^ (Sha.vs false rr hh i 6))))) + (Sha.K false i)) + (Sha.w false rr i)) + ((((Sha.rl64 (Sha.vs false rr hh i 0) (-28)) ^^^ (Sha.rl64 (Sha.vs false rr hh i 0) (-34))) ^^^ (Sha.rl64 (Sha.vs false rr hh i 0) (-39))) + (((Sha.vs false rr hh i 0) &&& (Sha.vs false rr hh i 1)) ||| ((Sha.vs false rr hh i 2) &&& ((Sha.vs false rr hh i 0) ||| (Sha.vs false rr hh i 1)))))) else if j < 2 then U64 (Sha.vs false rr hh i 0) else if j < 3 then U64 (Sha.vs false rr hh i 1) else if j < 4 then U64 (Sha.vs false rr hh i 2) else if j < 5 then U64 ((Sha.vs false rr hh i 3) + (((((Sha.vs false rr hh i 7) + (((Sha.rl64 (Sha.vs false rr hh i 4) (-14)) ^^^ (Sha.rl64 (Sha.vs false rr hh i 4) (-18))) ^^^ (Sha.rl64 (Sha.vs false rr hh i 4) (-41)))) + ((Sha.vs false rr hh i 6) ^^^ ((Sha.vs false rr hh i 4) &&& ((Sha.vs false rr hh i 5) ^^^ (Sha.vs false rr hh i 6))))) + (Sha.K false i)) + (Sha.w false rr i))) else if j < 6 then U64 (Sha.vs false rr hh i 4) else if j < 7 then U64 (Sha.vs false rr hh i 5) else U64 (Sha.vs false rr hh i 6)) (fun j hj => by rw [if_pos ⟨Nat.zero_le _, by omega⟩]; first | rfl | (simp only [Nat.sub_zero]))
     replace r_h := r_h.stepG au om
     replace aa := aa.stepG au om
     replace hk := grown_thenG hk au om
     replace hT := Sha.Tabs.grown hT au om om
     refine wpList_nil (inb_n (then_n (wp_region_lit (w_val (y_bin (ei ao) Ev.c (b_add om)) (w_mv ei (wpList_nil ?_))))))
     exact then_n ⟨_, om, i + 1, rfl, _, rfl, iv, bb, a9, ad, ti, r_h, aa, (ab.congr (fun j hj => by exact Sha.eight_row64 rr _ i j hj)), hT, hk⟩
    ·skip
     refine wp_exit (then_x ?_)
     replace ab := ab.congr (g := fun j => U64 (Sha.vs false rr hh 80 j)) (fun j hj => by (try dsimp only); rw [show i = 80 from by omega])
     refine then_x (inb_x (then_n (sr (w_mv Ev.c (nt (wp_block ?_))))))
     refine c_loop (fun dN aN wl => ∃ (k4 : Nat), dN = (8 - k4) ∧ ∃ be, aN = fr 176 be ∧ (k4 ≤ 8) ∧ be 0 = pt h 0 ∧ be 7 = pt ac 0 ∧ be 159 = .int .i64 ((k4 : Nat) : Int) ∧ Row wl h 139 139 (Sha.hrow (.int .i64 kd) (fun i => if i < k4 then Sha.comp false rr hh i else hh i) rr (.int .i64 ((n : Nat) : Int)) (U64 al)) ∧ Row wl af 148 80 (fun j => U64 (Sha.w false rr j)) ∧ Row wl ac 93 8 (fun j => U64 (Sha.vs false rr hh 80 j)) ∧ Sha.Tabs wl ∧ w0.grownBy wl (some h)) (8 - 0) ?_ ?_
     · exact ⟨0, rfl, _, rfl, iv, bb, ad, ti, (r_h.congr (fun j hj => by exact Sha.words_init _ _ _ _ _ _ j)), aa, ab, hT, hk⟩
     ·skip
      clear r_h aa ab hT hk
      rintro _ _ bq ⟨k4, rfl, be, rfl, bm, bf, bd, ai, r_h, aa, ab, hT, hk⟩
      refine sr (w_val (y_bin (ei ai) Ev.c b_lss) (nt (wp_seq ?_)))
      refine c_if (p := ((k4 : Nat) : Int) < 8) eb (fun hc37 => ?_) (fun hc37 => ?_)
      ·skip
       refine wp_skip (then_n (wp_seq (wp_block (sr (w_mv (ei ai) (w_as ei (nt (region_t 13 ShaBT.mixed kr ?_))))))))
       simp only [List.take_succ_cons, List.take_zero, List.drop_succ_cons, List.drop_zero]
       refine q_mv (ex (pt h 0) bf) (q_mv ei (q_val (fun w' hw' => y_nc (ex (pt h 0))) (q_val (v := pt h 1) (fun w' hw' => y_off (y_fa (ex (pt h 0)) (ShaBT.fa139_1 _ _)) ro) (q_val (v := pt h (1 + k4)) (fun w' hw' => y_off (y_ia1 (i := k4) (ex (pt h 1)) ei Tryz.underlying93 ShaBT.sz92 om om) ro) (q_val (v := U64 ((fun i => if i < k4 then Sha.comp false rr hh i else hh i) k4)) (fun w' hw' => y_ld (ex (pt h (1 + k4))) ShaBT.sc92 (cls_cell (r_h.val om (ng pz)) r_h.lt w' hw')) (q_mv ei (q_val (fun w' hw' => y_ia1z (i := k4) (ex (pt ac 0) bd) ei Tryz.underlying93 ShaBT.sz92 om om) (q_val (v := U64 (Sha.vs false rr hh 80 k4)) (fun w' hw' => y_ld (ex (pt ac k4)) ShaBT.sc92 (cls_cell (ab.val om rfl) ab.lt w' hw')) (q_val (fun w' hw' => y_bin e6 e6 add64) (q_val (fun w' hw' => y_nc (ex (pt h 0))) (q_val (v := pt h 1) (fun w' hw' => y_off (y_fa (ex (pt h 0)) (ShaBT.fa139_1 _ _)) ro) (q_val (v := pt h (1 + k4)) (fun w' hw' => y_off (y_ia1 (i := k4) (ex (pt h 1)) ei Tryz.underlying93 ShaBT.sz92 om om) ro) (q_nil ?_)))))))))))))
       intro bo aq
       replace r_h := r_h.step aq
       replace aa := aa.step aq
       replace ab := ab.step aq
       replace hk := grown_thenB hk aq
       replace hT := Sha.Tabs.below hT aq
       refine w_st (v := U64 (((fun i => if i < k4 then Sha.comp false rr hh i else hh i) k4) + (Sha.vs false rr hh 80 k4))) (ex (pt h (1 + k4))) e6 rfl rfl ShaBT.sz92 r_h om ?_
       clear r_h; intro b0 r_h av _
       replace aa := aa.stepG av om
       replace ab := ab.stepG av om
       replace hk := grown_thenG hk av om
       replace hT := Sha.Tabs.grown hT av om om
       refine wpList_nil (inb_n (then_n (wp_region_lit (w_val (y_bin (ei ai) Ev.c (b_add om)) (w_mv ei (wpList_nil ?_))))))
       exact then_n ⟨_, om, k4 + 1, rfl, _, rfl, iv, bf, bd, ti, (r_h.congr (fun j hj => by exact Sha.words_step _ _ _ _ _ _ _ k4 j om (by (try dsimp only); rw [if_neg (Nat.lt_irrefl k4)]; rfl))), aa, ab, hT, hk⟩
      ·skip
       refine wp_exit (then_x ?_)
       replace r_h := r_h.congr (g := Sha.hrow (.int .i64 kd) (Sha.comp false rr hh) rr (.int .i64 ((n : Nat) : Int)) (U64 al)) (fun j hj => by exact Sha.words_done _ _ _ _ _ _ j hj om)
       refine then_x (inb_x (fin_end0 rfl ?_))
       exact ⟨rfl, r_h, hk⟩
end Go.Proofs.YtdmbfimjbmfbaaaGreatDoor
