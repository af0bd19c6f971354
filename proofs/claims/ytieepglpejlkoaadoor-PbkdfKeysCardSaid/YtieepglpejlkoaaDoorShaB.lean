/-
  Digests: a block of small words, a block of great ones. Conditions as each says.
-/
import Derived.Test.YtieepglpejlkoaaDoorRows
import Derived.Test.YtieepglpejlkoaaDoorShaA
import Derived.ProofKit
namespace Go.Proofs.YtieepglpejlkoaaDoor
open Go.RowKit
set_option linter.unusedSimpArgs false
set_option linter.unusedVariables false
namespace ShaBT
theorem mixed : Tryd.prog.follows .mixedOrders = true := by kernel_rfl
theorem ag40 : (Tryd.prog.underlying 40).map isAggD = some true := by rw [Tryd.underlying40]; rfl
theorem fa53_1 (g off : Nat) : ∀ w, (Instr.fieldAt 53 (.pointer (some ⟨g, off, none⟩)) 1).run Tryd.prog w = .ok (.pointer (some ⟨g, off + 1, none⟩)) w := fun w => by kernel_rfl
theorem fa53_2 (g off : Nat) : ∀ w, (Instr.fieldAt 53 (.pointer (some ⟨g, off, none⟩)) 2).run Tryd.prog w = .ok (.pointer (some ⟨g, off + 9, none⟩)) w := fun w => by kernel_rfl
theorem sc39 : (Tryd.prog.underlying 39).map scal = some true := by rw [Tryd.underlying39]; rfl
theorem sc5 : (Tryd.prog.underlying 5).map scal = some true := by rw [Tryd.underlying5]; rfl
theorem sc93 : (Tryd.prog.underlying 93).map scal = some true := by rw [Tryd.underlying93]; rfl
theorem so3 : (Tryd.prog.underlying 3).isSome = true := by rw [Tryd.underlying3]; rfl
theorem so39 : (Tryd.prog.underlying 39).isSome = true := by rw [Tryd.underlying39]; rfl
theorem so5 : (Tryd.prog.underlying 5).isSome = true := by rw [Tryd.underlying5]; rfl
theorem so93 : (Tryd.prog.underlying 93).isSome = true := by rw [Tryd.underlying93]; rfl
theorem sz39 : (Tryd.prog.info? 39).map (·.size) = some 1 := by kernel_rfl
theorem sz40 : (Tryd.prog.info? 40).map (·.size) = some 8 := by kernel_rfl
theorem sz5 : (Tryd.prog.info? 5).map (·.size) = some 1 := by kernel_rfl
theorem sz93 : (Tryd.prog.info? 93).map (·.size) = some 1 := by kernel_rfl
theorem sz96 : (Tryd.prog.info? 96).map (·.size) = some 8 := by kernel_rfl
end ShaBT
set_option maxRecDepth 100000 in
set_option maxHeartbeats 1000000 in
theorem few_c (h n : Nat) (h1 : 0 < h ∧ 1 < h) (kd : Int) (hh : Nat → BitVec 64) (rr : Nat → BitVec 8) (al : BitVec 64) (hs : ∀ j, hh j = ((hh j).setWidth 32).setWidth 64) (w0 : World) (r_h : Row w0 h 53 139 (Sha.hrow (.int .i64 kd) hh rr (.int .i64 ((n : Nat) : Int)) (U64 al))) (hT : Sha.Tabs w0) : Calls Tryd.prog 49 #[pt h 0] w0 fun e w' => e = .returned (.tuple #[]) ∧ Row w' h 53 139 (Sha.hrow (.int .i64 kd) (Sha.comp true rr hh) rr (.int .i64 ((n : Nat) : Int)) (U64 al)) ∧ w0.grownBy w' (some h) := by
 have hT0 := hT.lt
 refine enter (n := 211) Tryd.func49 rfl rfl rfl ?_
 have hk : w0.grownBy w0 (some h) := grown_refl _ _
 have lt_h := r_h.lt
 refine sr ?_
 refine w_alloc (m := 64) (F := fun j => U32 (0#32)) (by kernel_rfl) ?_
 intro b_w w1 hbe_b_w r_b_w hb2
 have ne_h_b_w : h ≠ b_w := by have := r_h.lt; omega
 have ge_b_w : w0.heap.size ≤ b_w := by have := hk.size; omega
 clear hbe_b_w
 replace r_h := r_h.step hb2
 replace hk := grown_thenB hk hb2
 replace hT := Sha.Tabs.below hT hb2
 refine nt ?_
 refine wp_seq ?_
 refine sr ?_
 refine w_mv (evc (.int .i64 0)) ?_
 refine nt ?_
 refine wp_block ?_
 refine c_loop (fun dN aN wl => ∃ (k : Nat), dN = (64 - k) ∧ ∃ f3, aN = fr 211 f3 ∧ (k ≤ 64) ∧ f3 0 = pt h 0 ∧ f3 2 = pt b_w 0 ∧ f3 14 = .int .i64 ((k : Nat) : Int) ∧ Row wl h 53 139 (Sha.hrow (.int .i64 kd) hh rr (.int .i64 ((n : Nat) : Int)) (U64 al)) ∧ Row wl b_w 94 64 (fun j => if j < k then (fun j => U32 (Sha.w32 rr j)) j else (fun j => U32 (0#32)) j) ∧ Sha.Tabs wl ∧ w0.grownBy wl (some h)) (64 - 0) ?_ ?_
 · exact ⟨0, rfl, _, rfl, iv, rfl, rfl, (etv (b := .int .i64 0) rfl), r_h, (r_b_w.cg), hT, hk⟩
 ·skip
  clear r_h r_b_w hT hk
  rintro _ _ w4 ⟨k, rfl, f3, rfl, i1_0, s1_0, s1_2, s1_14, r_h, r_b_w, hT, hk⟩
  refine sr ?_
  refine w_val (y_bin (ev (.int .i64 ((k : Nat) : Int)) s1_14 rfl) (evc (.int .i64 64)) b_lss) ?_
  refine nt ?_
  refine wp_seq ?_
  refine c_if (p := ((k : Nat) : Int) < 64) (ev (.bool (decide (((k : Nat) : Int) < 64))) rfl rfl) (fun hc5 => ?_) (fun hc5 => ?_)
  ·skip
   refine wp_skip ?_
   refine then_n ?_
   refine wp_seq ?_
   refine wp_block ?_
   refine sr ?_
   refine w_mv (ev (.int .i64 ((k : Nat) : Int)) s1_14 rfl) ?_
   refine w_as (ev (.int .i64 ((k : Nat) : Int)) rfl rfl) ?_
   refine nt ?_
   refine wp_seq ?_
   refine sr ?_
   refine w_mv (ev (.int .i64 ((k : Nat) : Int)) rfl rfl) ?_
   refine w_val (y_bin (ev (.int .i64 ((k : Nat) : Int)) rfl rfl) (evc (.int .i64 16)) b_lss) ?_
   refine nt ?_
   refine c_if (p := ((k : Nat) : Int) < 16) (ev (.bool (decide (((k : Nat) : Int) < 16))) rfl rfl) (fun hc6 => ?_) (fun hc6 => ?_)
   ·skip
    refine wp_seq ?_
    refine region_t 43 ShaBT.mixed (by kernel_rfl) ?_
    simp only [List.take_succ_cons, List.take_zero, List.drop_succ_cons, List.drop_zero]
    refine q_mv (ev (.int .i64 ((k : Nat) : Int)) rfl rfl) ?_
    refine q_mv (ev (pt h 0) s1_0 rfl) ?_
    refine q_mv (ev (.int .i64 ((k : Nat) : Int)) rfl rfl) ?_
    refine q_val (fun w' hw' => y_bin (evc (.int .i64 4)) (ev (.int .i64 ((k : Nat) : Int)) rfl rfl) (b_mul (by omega))) ?_
    refine q_val (fun w' hw' => y_nc (ev (pt h 0) rfl rfl)) ?_
    refine q_val (v := pt h 9) (fun w' hw' => y_off (y_fa (ev (pt h 0) rfl rfl) (ShaBT.fa53_2 _ _)) (by first | rfl | omega)) ?_
    refine q_val (v := pt h (9 + (4 * k))) (fun w' hw' => y_off (y_ia1 (i := (4 * k)) (ev (pt h 9) rfl rfl) (ev (.int .i64 (4 * ((k : Nat) : Int))) rfl rfl) Tryd.underlying51 ShaBT.sz5 (by omega) (by omega)) (by first | rfl | omega)) ?_
    refine q_val (v := U8 (rr (4 * k))) (fun w' hw' => y_ld (ev (pt h (9 + (4 * k))) rfl rfl) ShaBT.sc5 (cls_cell (r_h.val (by omega) ((if_neg (by omega)).trans ((if_neg (by omega)).trans (etv (if_pos (by omega)))))) r_h.lt w' hw')) ?_
    refine q_val (fun w' hw' => y_u8_u32 (ev (U8 (rr (4 * k))) rfl rfl) ShaBT.so5 Tryd.underlying93) ?_
    refine q_val (fun w' hw' => y_bin (ev (U32 ((rr (4 * k)).setWidth 32)) rfl rfl) (evc (.int .u64 24)) (shl32 (c := 24) rfl)) ?_
    refine q_mv (ev (pt h 0) s1_0 rfl) ?_
    refine q_mv (ev (.int .i64 ((k : Nat) : Int)) rfl rfl) ?_
    refine q_val (fun w' hw' => y_bin (evc (.int .i64 4)) (ev (.int .i64 ((k : Nat) : Int)) rfl rfl) (b_mul (by omega))) ?_
    refine q_val (fun w' hw' => y_bin (ev (.int .i64 (4 * ((k : Nat) : Int))) rfl rfl) (evc (.int .i64 1)) (b_add (by omega))) ?_
    refine q_val (fun w' hw' => y_nc (ev (pt h 0) rfl rfl)) ?_
    refine q_val (v := pt h 9) (fun w' hw' => y_off (y_fa (ev (pt h 0) rfl rfl) (ShaBT.fa53_2 _ _)) (by first | rfl | omega)) ?_
    refine q_val (v := pt h (9 + ((4 * k) + 1))) (fun w' hw' => y_off (y_ia1 (i := ((4 * k) + 1)) (ev (pt h 9) rfl rfl) (ev (.int .i64 ((4 * ((k : Nat) : Int)) + 1)) rfl rfl) Tryd.underlying51 ShaBT.sz5 (by omega) (by omega)) (by first | rfl | omega)) ?_
    refine q_val (v := U8 (rr ((4 * k) + 1))) (fun w' hw' => y_ld (ev (pt h (9 + ((4 * k) + 1))) rfl rfl) ShaBT.sc5 (cls_cell (r_h.val (by omega) ((if_neg (by omega)).trans ((if_neg (by omega)).trans (etv (if_pos (by omega)))))) r_h.lt w' hw')) ?_
    refine q_val (fun w' hw' => y_u8_u32 (ev (U8 (rr ((4 * k) + 1))) rfl rfl) ShaBT.so5 Tryd.underlying93) ?_
    refine q_val (fun w' hw' => y_bin (ev (U32 ((rr ((4 * k) + 1)).setWidth 32)) rfl rfl) (evc (.int .u64 16)) (shl32 (c := 16) rfl)) ?_
    refine q_val (fun w' hw' => y_bin (ev (U32 (((rr (4 * k)).setWidth 32) <<< 24)) rfl rfl) (ev (U32 (((rr ((4 * k) + 1)).setWidth 32) <<< 16)) rfl rfl) or32) ?_
    refine q_mv (ev (pt h 0) s1_0 rfl) ?_
    refine q_mv (ev (.int .i64 ((k : Nat) : Int)) rfl rfl) ?_
    refine q_val (fun w' hw' => y_bin (evc (.int .i64 4)) (ev (.int .i64 ((k : Nat) : Int)) rfl rfl) (b_mul (by omega))) ?_
    refine q_val (fun w' hw' => y_bin (ev (.int .i64 (4 * ((k : Nat) : Int))) rfl rfl) (evc (.int .i64 2)) (b_add (by omega))) ?_
    refine q_val (fun w' hw' => y_nc (ev (pt h 0) rfl rfl)) ?_
    refine q_val (v := pt h 9) (fun w' hw' => y_off (y_fa (ev (pt h 0) rfl rfl) (ShaBT.fa53_2 _ _)) (by first | rfl | omega)) ?_
    refine q_val (v := pt h (9 + ((4 * k) + 2))) (fun w' hw' => y_off (y_ia1 (i := ((4 * k) + 2)) (ev (pt h 9) rfl rfl) (ev (.int .i64 ((4 * ((k : Nat) : Int)) + 2)) rfl rfl) Tryd.underlying51 ShaBT.sz5 (by omega) (by omega)) (by first | rfl | omega)) ?_
    refine q_val (v := U8 (rr ((4 * k) + 2))) (fun w' hw' => y_ld (ev (pt h (9 + ((4 * k) + 2))) rfl rfl) ShaBT.sc5 (cls_cell (r_h.val (by omega) ((if_neg (by omega)).trans ((if_neg (by omega)).trans (etv (if_pos (by omega)))))) r_h.lt w' hw')) ?_
    refine q_val (fun w' hw' => y_u8_u32 (ev (U8 (rr ((4 * k) + 2))) rfl rfl) ShaBT.so5 Tryd.underlying93) ?_
    refine q_val (fun w' hw' => y_bin (ev (U32 ((rr ((4 * k) + 2)).setWidth 32)) rfl rfl) (evc (.int .u64 8)) (shl32 (c := 8) rfl)) ?_
    refine q_val (fun w' hw' => y_bin (ev (U32 ((((rr (4 * k)).setWidth 32) <<< 24) ||| (((rr ((4 * k) + 1)).setWidth 32) <<< 16))) rfl rfl) (ev (U32 (((rr ((4 * k) + 2)).setWidth 32) <<< 8)) rfl rfl) or32) ?_
    refine q_mv (ev (pt h 0) s1_0 rfl) ?_
    refine q_mv (ev (.int .i64 ((k : Nat) : Int)) rfl rfl) ?_
    refine q_val (fun w' hw' => y_bin (evc (.int .i64 4)) (ev (.int .i64 ((k : Nat) : Int)) rfl rfl) (b_mul (by omega))) ?_
    refine q_val (fun w' hw' => y_bin (ev (.int .i64 (4 * ((k : Nat) : Int))) rfl rfl) (evc (.int .i64 3)) (b_add (by omega))) ?_
    refine q_val (fun w' hw' => y_nc (ev (pt h 0) rfl rfl)) ?_
    refine q_val (v := pt h 9) (fun w' hw' => y_off (y_fa (ev (pt h 0) rfl rfl) (ShaBT.fa53_2 _ _)) (by first | rfl | omega)) ?_
    refine q_val (v := pt h (9 + ((4 * k) + 3))) (fun w' hw' => y_off (y_ia1 (i := ((4 * k) + 3)) (ev (pt h 9) rfl rfl) (ev (.int .i64 ((4 * ((k : Nat) : Int)) + 3)) rfl rfl) Tryd.underlying51 ShaBT.sz5 (by omega) (by omega)) (by first | rfl | omega)) ?_
    refine q_val (v := U8 (rr ((4 * k) + 3))) (fun w' hw' => y_ld (ev (pt h (9 + ((4 * k) + 3))) rfl rfl) ShaBT.sc5 (cls_cell (r_h.val (by omega) ((if_neg (by omega)).trans ((if_neg (by omega)).trans (etv (if_pos (by omega)))))) r_h.lt w' hw')) ?_
    refine q_val (fun w' hw' => y_u8_u32 (ev (U8 (rr ((4 * k) + 3))) rfl rfl) ShaBT.so5 Tryd.underlying93) ?_
    refine q_val (fun w' hw' => y_bin (ev (U32 (((((rr (4 * k)).setWidth 32) <<< 24) ||| (((rr ((4 * k) + 1)).setWidth 32) <<< 16)) ||| (((rr ((4 * k) + 2)).setWidth 32) <<< 8))) rfl rfl) (ev (U32 ((rr ((4 * k) + 3)).setWidth 32)) rfl rfl) or32) ?_
    refine q_val (fun w' hw' => y_ia1z (i := k) (ev (pt b_w 0) s1_2 rfl) (ev (.int .i64 ((k : Nat) : Int)) rfl rfl) Tryd.underlying94 ShaBT.sz93 (by omega) (by omega)) ?_
    refine q_nil ?_
    intro w7 hb8
    replace r_h := r_h.step hb8
    replace r_b_w := r_b_w.step hb8
    replace hk := grown_thenB hk hb8
    replace hT := Sha.Tabs.below hT hb8
    refine w_st (v := U32 ((((((rr (4 * k)).setWidth 32) <<< 24) ||| (((rr ((4 * k) + 1)).setWidth 32) <<< 16)) ||| (((rr ((4 * k) + 2)).setWidth 32) <<< 8)) ||| ((rr ((4 * k) + 3)).setWidth 32))) (ev (pt b_w k) rfl rfl) (ev (U32 ((((((rr (4 * k)).setWidth 32) <<< 24) ||| (((rr ((4 * k) + 1)).setWidth 32) <<< 16)) ||| (((rr ((4 * k) + 2)).setWidth 32) <<< 8)) ||| ((rr ((4 * k) + 3)).setWidth 32))) rfl rfl) rfl rfl ShaBT.sz93 r_b_w (by omega) ?_
    clear r_b_w; intro w9 r_b_w hg10 _
    replace r_h := r_h.stepG hg10 (by omega)
    replace hk := grown_thenG hk hg10 (by omega)
    replace hT := Sha.Tabs.grown hT hg10 (by omega) (by omega)
    refine nt ?_
    refine wp_exit ?_
    refine then_x ?_
    refine inb_x ?_
    refine then_n ?_
    refine wp_region_lit ?_
    refine w_val (y_bin (ev (.int .i64 ((k : Nat) : Int)) s1_14 rfl) (evc (.int .i64 1)) (b_add (by omega))) ?_
    refine w_mv (ev (.int .i64 (((k : Nat) : Int) + 1)) rfl rfl) ?_
    refine wpList_nil ?_
    exact then_n ⟨_, (by omega), k + 1, rfl, _, rfl, iv, s1_0, s1_2, (etv (b := .int .i64 (((k : Nat) : Int) + 1)) rfl), r_h, (r_b_w.congr (fun j hj => by (try dsimp only); by_cases e : j = k; (rw [if_pos e, if_pos (by omega), e]; exact congrArg U32 (by first | exact (Sha.w32_lo rr k (by omega)).symm | exact (Sha.w32_hi rr k (by omega)).symm)); (rw [if_neg e]; by_cases e2 : j < k; (rw [if_pos e2, if_pos (by omega)]); (rw [if_neg e2, if_neg (by omega)])))), hT, hk⟩
   ·skip
    refine wp_skip ?_
    refine then_n ?_
    refine wp_seq ?_
    refine region_q ShaBT.mixed (by kernel_rfl) ?_
    refine q_mv (ev (.int .i64 ((k : Nat) : Int)) rfl rfl) ?_
    refine q_val (fun w' hw' => y_bin (ev (.int .i64 ((k : Nat) : Int)) rfl rfl) (evc (.int .i64 15)) (b_sub (by omega))) ?_
    refine q_val (fun w' hw' => y_ia1z (i := (k - 15)) (ev (pt b_w 0) s1_2 rfl) (ev (.int .i64 (((k : Nat) : Int) - 15)) rfl rfl) Tryd.underlying94 ShaBT.sz93 (by omega) (by omega)) ?_
    refine q_val (v := U32 (Sha.w32 rr (k - 15))) (fun w' hw' => y_ld (ev (pt b_w (k - 15)) rfl rfl) ShaBT.sc93 (cls_cell (r_b_w.val (by omega) ((if_pos (by omega)).trans rfl)) r_b_w.lt w' hw')) ?_
    refine q_mv (ev (.int .i64 ((k : Nat) : Int)) rfl rfl) ?_
    refine q_val (fun w' hw' => y_bin (ev (.int .i64 ((k : Nat) : Int)) rfl rfl) (evc (.int .i64 2)) (b_sub (by omega))) ?_
    refine q_val (fun w' hw' => y_ia1z (i := (k - 2)) (ev (pt b_w 0) s1_2 rfl) (ev (.int .i64 (((k : Nat) : Int) - 2)) rfl rfl) Tryd.underlying94 ShaBT.sz93 (by omega) (by omega)) ?_
    refine q_val (v := U32 (Sha.w32 rr (k - 2))) (fun w' hw' => y_ld (ev (pt b_w (k - 2)) rfl rfl) ShaBT.sc93 (cls_cell (r_b_w.val (by omega) ((if_pos (by omega)).trans rfl)) r_b_w.lt w' hw')) ?_
    refine q_as (ev (U32 (Sha.w32 rr (k - 15))) rfl rfl) ?_
    refine q_as (ev (U32 (Sha.w32 rr (k - 2))) rfl rfl) ?_
    refine q_nil ?_
    intro w11 hb12
    replace r_h := r_h.step hb12
    replace r_b_w := r_b_w.step hb12
    replace hk := grown_thenB hk hb12
    replace hT := Sha.Tabs.below hT hb12
    refine then_n ?_
    refine region_t 29 ShaBT.mixed (by kernel_rfl) ?_
    simp only [List.take_succ_cons, List.take_zero, List.drop_succ_cons, List.drop_zero]
    refine q_mv (ev (.int .i64 ((k : Nat) : Int)) rfl rfl) ?_
    refine q_mv (ev (.int .i64 ((k : Nat) : Int)) rfl rfl) ?_
    refine q_val (fun w' hw' => y_bin (ev (.int .i64 ((k : Nat) : Int)) rfl rfl) (evc (.int .i64 16)) (b_sub (by omega))) ?_
    refine q_val (fun w' hw' => y_ia1z (i := (k - 16)) (ev (pt b_w 0) s1_2 rfl) (ev (.int .i64 (((k : Nat) : Int) - 16)) rfl rfl) Tryd.underlying94 ShaBT.sz93 (by omega) (by omega)) ?_
    refine q_val (v := U32 (Sha.w32 rr (k - 16))) (fun w' hw' => y_ld (ev (pt b_w (k - 16)) rfl rfl) ShaBT.sc93 (cls_cell (r_b_w.val (by omega) ((if_pos (by omega)).trans rfl)) r_b_w.lt w' hw')) ?_
    refine q_mv (ev (U32 (Sha.w32 rr (k - 15))) rfl rfl) ?_
    refine q_call (v := U32 (Sha.rl32 (Sha.w32 rr (k - 15)) (-7))) (Tryd.func56) (by kernel_rfl) rfl (m2 (ev (U32 (Sha.w32 rr (k - 15))) rfl rfl) (evc (.int .i64 (-7)))) (fun w' hw' => rotl32_c (Sha.w32 rr (k - 15)) (-7) w') ?_
    refine q_mv (ev (U32 (Sha.w32 rr (k - 15))) rfl rfl) ?_
    refine q_call (v := U32 (Sha.rl32 (Sha.w32 rr (k - 15)) (-18))) (Tryd.func56) (by kernel_rfl) rfl (m2 (ev (U32 (Sha.w32 rr (k - 15))) rfl rfl) (evc (.int .i64 (-18)))) (fun w' hw' => rotl32_c (Sha.w32 rr (k - 15)) (-18) w') ?_
    refine q_val (fun w' hw' => y_bin (ev (U32 (Sha.rl32 (Sha.w32 rr (k - 15)) (-7))) rfl rfl) (ev (U32 (Sha.rl32 (Sha.w32 rr (k - 15)) (-18))) rfl rfl) xor32) ?_
    refine q_mv (ev (U32 (Sha.w32 rr (k - 15))) rfl rfl) ?_
    refine q_val (fun w' hw' => y_bin (ev (U32 (Sha.w32 rr (k - 15))) rfl rfl) (evc (.int .u64 3)) (shr32 (c := 3) rfl)) ?_
    refine q_val (fun w' hw' => y_bin (ev (U32 ((Sha.rl32 (Sha.w32 rr (k - 15)) (-7)) ^^^ (Sha.rl32 (Sha.w32 rr (k - 15)) (-18)))) rfl rfl) (ev (U32 ((Sha.w32 rr (k - 15)) >>> 3)) rfl rfl) xor32) ?_
    refine q_val (fun w' hw' => y_bin (ev (U32 (Sha.w32 rr (k - 16))) rfl rfl) (ev (U32 (((Sha.rl32 (Sha.w32 rr (k - 15)) (-7)) ^^^ (Sha.rl32 (Sha.w32 rr (k - 15)) (-18))) ^^^ ((Sha.w32 rr (k - 15)) >>> 3))) rfl rfl) add32) ?_
    refine q_mv (ev (.int .i64 ((k : Nat) : Int)) rfl rfl) ?_
    refine q_val (fun w' hw' => y_bin (ev (.int .i64 ((k : Nat) : Int)) rfl rfl) (evc (.int .i64 7)) (b_sub (by omega))) ?_
    refine q_val (fun w' hw' => y_ia1z (i := (k - 7)) (ev (pt b_w 0) s1_2 rfl) (ev (.int .i64 (((k : Nat) : Int) - 7)) rfl rfl) Tryd.underlying94 ShaBT.sz93 (by omega) (by omega)) ?_
    refine q_val (v := U32 (Sha.w32 rr (k - 7))) (fun w' hw' => y_ld (ev (pt b_w (k - 7)) rfl rfl) ShaBT.sc93 (cls_cell (r_b_w.val (by omega) ((if_pos (by omega)).trans rfl)) r_b_w.lt w' hw')) ?_
    refine q_val (fun w' hw' => y_bin (ev (U32 ((Sha.w32 rr (k - 16)) + (((Sha.rl32 (Sha.w32 rr (k - 15)) (-7)) ^^^ (Sha.rl32 (Sha.w32 rr (k - 15)) (-18))) ^^^ ((Sha.w32 rr (k - 15)) >>> 3)))) rfl rfl) (ev (U32 (Sha.w32 rr (k - 7))) rfl rfl) add32) ?_
    refine q_mv (ev (U32 (Sha.w32 rr (k - 2))) rfl rfl) ?_
    refine q_call (v := U32 (Sha.rl32 (Sha.w32 rr (k - 2)) (-17))) (Tryd.func56) (by kernel_rfl) rfl (m2 (ev (U32 (Sha.w32 rr (k - 2))) rfl rfl) (evc (.int .i64 (-17)))) (fun w' hw' => rotl32_c (Sha.w32 rr (k - 2)) (-17) w') ?_
    refine q_mv (ev (U32 (Sha.w32 rr (k - 2))) rfl rfl) ?_
    refine q_call (v := U32 (Sha.rl32 (Sha.w32 rr (k - 2)) (-19))) (Tryd.func56) (by kernel_rfl) rfl (m2 (ev (U32 (Sha.w32 rr (k - 2))) rfl rfl) (evc (.int .i64 (-19)))) (fun w' hw' => rotl32_c (Sha.w32 rr (k - 2)) (-19) w') ?_
    refine q_val (fun w' hw' => y_bin (ev (U32 (Sha.rl32 (Sha.w32 rr (k - 2)) (-17))) rfl rfl) (ev (U32 (Sha.rl32 (Sha.w32 rr (k - 2)) (-19))) rfl rfl) xor32) ?_
    refine q_mv (ev (U32 (Sha.w32 rr (k - 2))) rfl rfl) ?_
    refine q_val (fun w' hw' => y_bin (ev (U32 (Sha.w32 rr (k - 2))) rfl rfl) (evc (.int .u64 10)) (shr32 (c := 10) rfl)) ?_
    refine q_val (fun w' hw' => y_bin (ev (U32 ((Sha.rl32 (Sha.w32 rr (k - 2)) (-17)) ^^^ (Sha.rl32 (Sha.w32 rr (k - 2)) (-19)))) rfl rfl) (ev (U32 ((Sha.w32 rr (k - 2)) >>> 10)) rfl rfl) xor32) ?_
    refine q_val (fun w' hw' => y_bin (ev (U32 (((Sha.w32 rr (k - 16)) + (((Sha.rl32 (Sha.w32 rr (k - 15)) (-7)) ^^^ (Sha.rl32 (Sha.w32 rr (k - 15)) (-18))) ^^^ ((Sha.w32 rr (k - 15)) >>> 3))) + (Sha.w32 rr (k - 7)))) rfl rfl) (ev (U32 (((Sha.rl32 (Sha.w32 rr (k - 2)) (-17)) ^^^ (Sha.rl32 (Sha.w32 rr (k - 2)) (-19))) ^^^ ((Sha.w32 rr (k - 2)) >>> 10))) rfl rfl) add32) ?_
    refine q_val (fun w' hw' => y_ia1z (i := k) (ev (pt b_w 0) s1_2 rfl) (ev (.int .i64 ((k : Nat) : Int)) rfl rfl) Tryd.underlying94 ShaBT.sz93 (by omega) (by omega)) ?_
    refine q_nil ?_
    intro w13 hb14
    replace r_h := r_h.step hb14
    replace r_b_w := r_b_w.step hb14
    replace hk := grown_thenB hk hb14
    replace hT := Sha.Tabs.below hT hb14
    refine w_st (v := U32 ((((Sha.w32 rr (k - 16)) + (((Sha.rl32 (Sha.w32 rr (k - 15)) (-7)) ^^^ (Sha.rl32 (Sha.w32 rr (k - 15)) (-18))) ^^^ ((Sha.w32 rr (k - 15)) >>> 3))) + (Sha.w32 rr (k - 7))) + (((Sha.rl32 (Sha.w32 rr (k - 2)) (-17)) ^^^ (Sha.rl32 (Sha.w32 rr (k - 2)) (-19))) ^^^ ((Sha.w32 rr (k - 2)) >>> 10)))) (ev (pt b_w k) rfl rfl) (ev (U32 ((((Sha.w32 rr (k - 16)) + (((Sha.rl32 (Sha.w32 rr (k - 15)) (-7)) ^^^ (Sha.rl32 (Sha.w32 rr (k - 15)) (-18))) ^^^ ((Sha.w32 rr (k - 15)) >>> 3))) + (Sha.w32 rr (k - 7))) + (((Sha.rl32 (Sha.w32 rr (k - 2)) (-17)) ^^^ (Sha.rl32 (Sha.w32 rr (k - 2)) (-19))) ^^^ ((Sha.w32 rr (k - 2)) >>> 10)))) rfl rfl) rfl rfl ShaBT.sz93 r_b_w (by omega) ?_
    clear r_b_w; intro w15 r_b_w hg16 _
    replace r_h := r_h.stepG hg16 (by omega)
    replace hk := grown_thenG hk hg16 (by omega)
    replace hT := Sha.Tabs.grown hT hg16 (by omega) (by omega)
    refine wpList_nil ?_
    refine inb_n ?_
    refine then_n ?_
    refine wp_region_lit ?_
    refine w_val (y_bin (ev (.int .i64 ((k : Nat) : Int)) s1_14 rfl) (evc (.int .i64 1)) (b_add (by omega))) ?_
    refine w_mv (ev (.int .i64 (((k : Nat) : Int) + 1)) rfl rfl) ?_
    refine wpList_nil ?_
    exact then_n ⟨_, (by omega), k + 1, rfl, _, rfl, iv, s1_0, s1_2, (etv (b := .int .i64 (((k : Nat) : Int) + 1)) rfl), r_h, (r_b_w.congr (fun j hj => by (try dsimp only); by_cases e : j = k; (rw [if_pos e, if_pos (by omega), e]; exact congrArg U32 (by first | exact (Sha.w32_lo rr k (by omega)).symm | exact (Sha.w32_hi rr k (by omega)).symm)); (rw [if_neg e]; by_cases e2 : j < k; (rw [if_pos e2, if_pos (by omega)]); (rw [if_neg e2, if_neg (by omega)])))), hT, hk⟩
  ·skip
   refine wp_exit ?_
   refine then_x ?_
   replace r_b_w := r_b_w.congr (g := fun j => U32 (Sha.w32 rr j)) (fun j hj => by (try dsimp only); rw [if_pos (by omega)])
   refine then_x ?_
   refine inb_x ?_
   refine then_n ?_
   refine sr ?_
   refine w_alloc (m := 8) (F := fun j => U32 (0#32)) (by kernel_rfl) ?_
   intro b_v w17 hbe_b_v r_b_v hb18
   have ne_h_b_v : h ≠ b_v := by have := r_h.lt; omega
   have ne_b_w_b_v : b_w ≠ b_v := by have := r_b_w.lt; omega
   have ge_b_v : w0.heap.size ≤ b_v := by have := hk.size; omega
   clear hbe_b_v
   replace r_h := r_h.step hb18
   replace r_b_w := r_b_w.step hb18
   replace hk := grown_thenB hk hb18
   replace hT := Sha.Tabs.below hT hb18
   refine nt ?_
   refine wp_seq ?_
   refine sr ?_
   refine w_mv (evc (.int .i64 0)) ?_
   refine nt ?_
   refine wp_block ?_
   refine c_loop (fun dN aN wl => ∃ (k2 : Nat), dN = (8 - k2) ∧ ∃ f19, aN = fr 211 f19 ∧ (k2 ≤ 8) ∧ f19 0 = pt h 0 ∧ f19 2 = pt b_w 0 ∧ f19 6 = pt b_v 0 ∧ f19 14 = .int .i64 ((k : Nat) : Int) ∧ f19 100 = .int .i64 ((k2 : Nat) : Int) ∧ Row wl h 53 139 (Sha.hrow (.int .i64 kd) hh rr (.int .i64 ((n : Nat) : Int)) (U64 al)) ∧ Row wl b_w 94 64 (fun j => U32 (Sha.w32 rr j)) ∧ Row wl b_v 96 8 (fun j => if j < k2 then (fun j => U32 (Sha.v32 rr (fun j => (hh j).setWidth 32) 0 j)) j else (fun j => U32 (0#32)) j) ∧ Sha.Tabs wl ∧ w0.grownBy wl (some h)) (8 - 0) ?_ ?_
   · exact ⟨0, rfl, _, rfl, iv, s1_0, s1_2, rfl, s1_14, (etv (b := .int .i64 0) rfl), r_h, r_b_w, (r_b_v.cg), hT, hk⟩
   ·skip
    clear r_h r_b_w r_b_v hT hk
    rintro _ _ w20 ⟨k2, rfl, f19, rfl, i2_0, s2_0, s2_2, s2_6, s2_14, s2_100, r_h, r_b_w, r_b_v, hT, hk⟩
    refine sr ?_
    refine w_val (y_bin (ev (.int .i64 ((k2 : Nat) : Int)) s2_100 rfl) (evc (.int .i64 8)) b_lss) ?_
    refine nt ?_
    refine wp_seq ?_
    refine c_if (p := ((k2 : Nat) : Int) < 8) (ev (.bool (decide (((k2 : Nat) : Int) < 8))) rfl rfl) (fun hc21 => ?_) (fun hc21 => ?_)
    ·skip
     refine wp_skip ?_
     refine then_n ?_
     refine wp_seq ?_
     refine wp_block ?_
     refine sr ?_
     refine w_mv (ev (.int .i64 ((k2 : Nat) : Int)) s2_100 rfl) ?_
     refine w_as (ev (.int .i64 ((k2 : Nat) : Int)) rfl rfl) ?_
     refine nt ?_
     refine wp_region_lit ?_
     refine w_mv (ev (.int .i64 ((k2 : Nat) : Int)) rfl rfl) ?_
     refine w_mv (ev (pt h 0) s2_0 rfl) ?_
     refine w_mv (ev (.int .i64 ((k2 : Nat) : Int)) rfl rfl) ?_
     refine w_val (y_nc (ev (pt h 0) rfl rfl)) ?_
     refine w_val (v := pt h 1) (y_off (y_fa (ev (pt h 0) rfl rfl) (ShaBT.fa53_1 _ _)) (by first | rfl | omega)) ?_
     refine w_val (v := pt h (1 + k2)) (y_off (y_ia1 (i := k2) (ev (pt h 1) rfl rfl) (ev (.int .i64 ((k2 : Nat) : Int)) rfl rfl) Tryd.underlying40 ShaBT.sz39 (by omega) (by omega)) (by first | rfl | omega)) ?_
     refine w_val (v := U64 (hh k2)) (y_ld (ev (pt h (1 + k2)) rfl rfl) ShaBT.sc39 (r_h.val (by omega) ((if_neg (by omega)).trans (etv (if_pos (by omega)))))) ?_
     refine w_val (y_u64_u32 (ev (U64 (hh k2)) rfl rfl) ShaBT.so39 Tryd.underlying93) ?_
     refine w_val (y_ia1z (i := k2) (ev (pt b_v 0) s2_6 rfl) (ev (.int .i64 ((k2 : Nat) : Int)) rfl rfl) Tryd.underlying96 ShaBT.sz93 (by omega) (by omega)) ?_
     refine w_st (v := U32 ((hh k2).setWidth 32)) (ev (pt b_v k2) rfl rfl) (ev (U32 ((hh k2).setWidth 32)) rfl rfl) rfl rfl ShaBT.sz93 r_b_v (by omega) ?_
     clear r_b_v; intro w22 r_b_v hg23 _
     replace r_h := r_h.stepG hg23 (by omega)
     replace r_b_w := r_b_w.stepG hg23 (by omega)
     replace hk := grown_thenG hk hg23 (by omega)
     replace hT := Sha.Tabs.grown hT hg23 (by omega) (by omega)
     refine wpList_nil ?_
     refine inb_n ?_
     refine then_n ?_
     refine wp_region_lit ?_
     refine w_val (y_bin (ev (.int .i64 ((k2 : Nat) : Int)) s2_100 rfl) (evc (.int .i64 1)) (b_add (by omega))) ?_
     refine w_mv (ev (.int .i64 (((k2 : Nat) : Int) + 1)) rfl rfl) ?_
     refine wpList_nil ?_
     exact then_n ⟨_, (by omega), k2 + 1, rfl, _, rfl, iv, s2_0, s2_2, s2_6, s2_14, (etv (b := .int .i64 (((k2 : Nat) : Int) + 1)) rfl), r_h, r_b_w, (r_b_v.congr (fun j hj => by (try dsimp only); by_cases e : j = k2; (rw [if_pos e, if_pos (by omega), e]; exact congrArg U32 (rfl)); (rw [if_neg e]; by_cases e2 : j < k2; (rw [if_pos e2, if_pos (by omega)]); (rw [if_neg e2, if_neg (by omega)])))), hT, hk⟩
    ·skip
     refine wp_exit ?_
     refine then_x ?_
     replace r_b_v := r_b_v.congr (g := fun j => U32 (Sha.v32 rr (fun j => (hh j).setWidth 32) 0 j)) (fun j hj => by (try dsimp only); rw [if_pos (by omega)])
     refine then_x ?_
     refine inb_x ?_
     refine then_n ?_
     refine wp_seq ?_
     refine sr ?_
     refine w_mv (evc (.int .i64 0)) ?_
     refine nt ?_
     refine wp_block ?_
     refine c_loop (fun dN aN wl => ∃ (i : Nat), dN = (64 - i) ∧ ∃ f24, aN = fr 211 f24 ∧ (i ≤ 64) ∧ f24 0 = pt h 0 ∧ f24 2 = pt b_w 0 ∧ f24 6 = pt b_v 0 ∧ f24 14 = .int .i64 ((k : Nat) : Int) ∧ f24 100 = .int .i64 ((k2 : Nat) : Int) ∧ f24 113 = .int .i64 ((i : Nat) : Int) ∧ Row wl h 53 139 (Sha.hrow (.int .i64 kd) hh rr (.int .i64 ((n : Nat) : Int)) (U64 al)) ∧ Row wl b_w 94 64 (fun j => U32 (Sha.w32 rr j)) ∧ Row wl b_v 96 8 (fun j => U32 (Sha.v32 rr (fun j => (hh j).setWidth 32) i j)) ∧ Sha.Tabs wl ∧ w0.grownBy wl (some h)) (64 - 0) ?_ ?_
     · exact ⟨0, rfl, _, rfl, iv, s2_0, s2_2, s2_6, s2_14, s2_100, (etv (b := .int .i64 0) rfl), r_h, r_b_w, (r_b_v.congr (fun j hj => by rfl)), hT, hk⟩
     ·skip
      clear r_h r_b_w r_b_v hT hk
      rintro _ _ w25 ⟨i, rfl, f24, rfl, i3_0, s3_0, s3_2, s3_6, s3_14, s3_100, s3_113, r_h, r_b_w, r_b_v, hT, hk⟩
      refine sr ?_
      refine w_val (y_bin (ev (.int .i64 ((i : Nat) : Int)) s3_113 rfl) (evc (.int .i64 64)) b_lss) ?_
      refine nt ?_
      refine wp_seq ?_
      refine c_if (p := ((i : Nat) : Int) < 64) (ev (.bool (decide (((i : Nat) : Int) < 64))) rfl rfl) (fun hc26 => ?_) (fun hc26 => ?_)
      ·skip
       refine wp_skip ?_
       refine then_n ?_
       refine wp_seq ?_
       refine wp_block ?_
       refine sr ?_
       refine w_mv (ev (.int .i64 ((i : Nat) : Int)) s3_113 rfl) ?_
       refine w_as (ev (.int .i64 ((i : Nat) : Int)) rfl rfl) ?_
       refine nt ?_
       refine wp_seq ?_
       refine region_q ShaBT.mixed (by kernel_rfl) ?_
       refine q_val (fun w' hw' => y_ia1z (i := 4) (ev (pt b_v 0) s3_6 rfl) (evc (.int .i64 4)) Tryd.underlying96 ShaBT.sz93 (by omega) (by omega)) ?_
       refine q_val (v := U32 (Sha.v32 rr (fun j => (hh j).setWidth 32) i 4)) (fun w' hw' => y_ld (ev (pt b_v 4) rfl rfl) ShaBT.sc93 (cls_cell (r_b_v.val (by omega) rfl) r_b_v.lt w' hw')) ?_
       refine q_val (fun w' hw' => y_ia1z (i := 0) (ev (pt b_v 0) s3_6 rfl) (evc (.int .i64 0)) Tryd.underlying96 ShaBT.sz93 (by omega) (by omega)) ?_
       refine q_val (v := U32 (Sha.v32 rr (fun j => (hh j).setWidth 32) i 0)) (fun w' hw' => y_ld (ev (pt b_v 0) rfl rfl) ShaBT.sc93 (cls_cell (r_b_v.val (by omega) rfl) r_b_v.lt w' hw')) ?_
       refine q_as (ev (U32 (Sha.v32 rr (fun j => (hh j).setWidth 32) i 4)) rfl rfl) ?_
       refine q_as (ev (U32 (Sha.v32 rr (fun j => (hh j).setWidth 32) i 0)) rfl rfl) ?_
       refine q_nil ?_
       intro w27 hb28
       replace r_h := r_h.step hb28
       replace r_b_w := r_b_w.step hb28
       replace r_b_v := r_b_v.step hb28
       replace hk := grown_thenB hk hb28
       replace hT := Sha.Tabs.below hT hb28
       refine then_n ?_
       refine wp_seq ?_
       refine region_q ShaBT.mixed (by kernel_rfl) ?_
       refine q_val (fun w' hw' => y_ia1z (i := 7) (ev (pt b_v 0) s3_6 rfl) (evc (.int .i64 7)) Tryd.underlying96 ShaBT.sz93 (by omega) (by omega)) ?_
       refine q_val (v := U32 (Sha.v32 rr (fun j => (hh j).setWidth 32) i 7)) (fun w' hw' => y_ld (ev (pt b_v 7) rfl rfl) ShaBT.sc93 (cls_cell (r_b_v.val (by omega) rfl) r_b_v.lt w' hw')) ?_
       refine q_mv (ev (U32 (Sha.v32 rr (fun j => (hh j).setWidth 32) i 4)) rfl rfl) ?_
       refine q_call (v := U32 (Sha.rl32 (Sha.v32 rr (fun j => (hh j).setWidth 32) i 4) (-6))) (Tryd.func56) (by kernel_rfl) rfl (m2 (ev (U32 (Sha.v32 rr (fun j => (hh j).setWidth 32) i 4)) rfl rfl) (evc (.int .i64 (-6)))) (fun w' hw' => rotl32_c (Sha.v32 rr (fun j => (hh j).setWidth 32) i 4) (-6) w') ?_
       refine q_mv (ev (U32 (Sha.v32 rr (fun j => (hh j).setWidth 32) i 4)) rfl rfl) ?_
       refine q_call (v := U32 (Sha.rl32 (Sha.v32 rr (fun j => (hh j).setWidth 32) i 4) (-11))) (Tryd.func56) (by kernel_rfl) rfl (m2 (ev (U32 (Sha.v32 rr (fun j => (hh j).setWidth 32) i 4)) rfl rfl) (evc (.int .i64 (-11)))) (fun w' hw' => rotl32_c (Sha.v32 rr (fun j => (hh j).setWidth 32) i 4) (-11) w') ?_
       refine q_val (fun w' hw' => y_bin (ev (U32 (Sha.rl32 (Sha.v32 rr (fun j => (hh j).setWidth 32) i 4) (-6))) rfl rfl) (ev (U32 (Sha.rl32 (Sha.v32 rr (fun j => (hh j).setWidth 32) i 4) (-11))) rfl rfl) xor32) ?_
       refine q_mv (ev (U32 (Sha.v32 rr (fun j => (hh j).setWidth 32) i 4)) rfl rfl) ?_
       refine q_call (v := U32 (Sha.rl32 (Sha.v32 rr (fun j => (hh j).setWidth 32) i 4) (-25))) (Tryd.func56) (by kernel_rfl) rfl (m2 (ev (U32 (Sha.v32 rr (fun j => (hh j).setWidth 32) i 4)) rfl rfl) (evc (.int .i64 (-25)))) (fun w' hw' => rotl32_c (Sha.v32 rr (fun j => (hh j).setWidth 32) i 4) (-25) w') ?_
       refine q_val (fun w' hw' => y_bin (ev (U32 ((Sha.rl32 (Sha.v32 rr (fun j => (hh j).setWidth 32) i 4) (-6)) ^^^ (Sha.rl32 (Sha.v32 rr (fun j => (hh j).setWidth 32) i 4) (-11)))) rfl rfl) (ev (U32 (Sha.rl32 (Sha.v32 rr (fun j => (hh j).setWidth 32) i 4) (-25))) rfl rfl) xor32) ?_
       refine q_val (fun w' hw' => y_bin (ev (U32 (Sha.v32 rr (fun j => (hh j).setWidth 32) i 7)) rfl rfl) (ev (U32 (((Sha.rl32 (Sha.v32 rr (fun j => (hh j).setWidth 32) i 4) (-6)) ^^^ (Sha.rl32 (Sha.v32 rr (fun j => (hh j).setWidth 32) i 4) (-11))) ^^^ (Sha.rl32 (Sha.v32 rr (fun j => (hh j).setWidth 32) i 4) (-25)))) rfl rfl) add32) ?_
       refine q_val (fun w' hw' => y_ia1z (i := 6) (ev (pt b_v 0) s3_6 rfl) (evc (.int .i64 6)) Tryd.underlying96 ShaBT.sz93 (by omega) (by omega)) ?_
       refine q_val (v := U32 (Sha.v32 rr (fun j => (hh j).setWidth 32) i 6)) (fun w' hw' => y_ld (ev (pt b_v 6) rfl rfl) ShaBT.sc93 (cls_cell (r_b_v.val (by omega) rfl) r_b_v.lt w' hw')) ?_
       refine q_mv (ev (U32 (Sha.v32 rr (fun j => (hh j).setWidth 32) i 4)) rfl rfl) ?_
       refine q_val (fun w' hw' => y_ia1z (i := 5) (ev (pt b_v 0) s3_6 rfl) (evc (.int .i64 5)) Tryd.underlying96 ShaBT.sz93 (by omega) (by omega)) ?_
       refine q_val (v := U32 (Sha.v32 rr (fun j => (hh j).setWidth 32) i 5)) (fun w' hw' => y_ld (ev (pt b_v 5) rfl rfl) ShaBT.sc93 (cls_cell (r_b_v.val (by omega) rfl) r_b_v.lt w' hw')) ?_
       refine q_val (fun w' hw' => y_ia1z (i := 6) (ev (pt b_v 0) s3_6 rfl) (evc (.int .i64 6)) Tryd.underlying96 ShaBT.sz93 (by omega) (by omega)) ?_
       refine q_val (v := U32 (Sha.v32 rr (fun j => (hh j).setWidth 32) i 6)) (fun w' hw' => y_ld (ev (pt b_v 6) rfl rfl) ShaBT.sc93 (cls_cell (r_b_v.val (by omega) rfl) r_b_v.lt w' hw')) ?_
       refine q_val (fun w' hw' => y_bin (ev (U32 (Sha.v32 rr (fun j => (hh j).setWidth 32) i 5)) rfl rfl) (ev (U32 (Sha.v32 rr (fun j => (hh j).setWidth 32) i 6)) rfl rfl) xor32) ?_
       refine q_val (fun w' hw' => y_bin (ev (U32 (Sha.v32 rr (fun j => (hh j).setWidth 32) i 4)) rfl rfl) (ev (U32 ((Sha.v32 rr (fun j => (hh j).setWidth 32) i 5) ^^^ (Sha.v32 rr (fun j => (hh j).setWidth 32) i 6))) rfl rfl) and32) ?_
       refine q_val (fun w' hw' => y_bin (ev (U32 (Sha.v32 rr (fun j => (hh j).setWidth 32) i 6)) rfl rfl) (ev (U32 ((Sha.v32 rr (fun j => (hh j).setWidth 32) i 4) &&& ((Sha.v32 rr (fun j => (hh j).setWidth 32) i 5) ^^^ (Sha.v32 rr (fun j => (hh j).setWidth 32) i 6)))) rfl rfl) xor32) ?_
       refine q_val (fun w' hw' => y_bin (ev (U32 ((Sha.v32 rr (fun j => (hh j).setWidth 32) i 7) + (((Sha.rl32 (Sha.v32 rr (fun j => (hh j).setWidth 32) i 4) (-6)) ^^^ (Sha.rl32 (Sha.v32 rr (fun j => (hh j).setWidth 32) i 4) (-11))) ^^^ (Sha.rl32 (Sha.v32 rr (fun j => (hh j).setWidth 32) i 4) (-25))))) rfl rfl) (ev (U32 ((Sha.v32 rr (fun j => (hh j).setWidth 32) i 6) ^^^ ((Sha.v32 rr (fun j => (hh j).setWidth 32) i 4) &&& ((Sha.v32 rr (fun j => (hh j).setWidth 32) i 5) ^^^ (Sha.v32 rr (fun j => (hh j).setWidth 32) i 6))))) rfl rfl) add32) ?_
       refine q_mv (ev (.int .i64 ((i : Nat) : Int)) rfl rfl) ?_
       refine q_val (fun w' hw' => y_ia1z (i := i) Ev.g (ev (.int .i64 ((i : Nat) : Int)) rfl rfl) Tryd.underlying94 ShaBT.sz93 (by omega) (by omega)) ?_
       refine q_val (v := U32 (Sha.k32 i)) (fun w' hw' => y_ld (ev (pt 0 i) rfl rfl) ShaBT.sc93 ((Sha.Tabs.below hT hw').small (by omega))) ?_
       refine q_val (fun w' hw' => y_bin (ev (U32 (((Sha.v32 rr (fun j => (hh j).setWidth 32) i 7) + (((Sha.rl32 (Sha.v32 rr (fun j => (hh j).setWidth 32) i 4) (-6)) ^^^ (Sha.rl32 (Sha.v32 rr (fun j => (hh j).setWidth 32) i 4) (-11))) ^^^ (Sha.rl32 (Sha.v32 rr (fun j => (hh j).setWidth 32) i 4) (-25)))) + ((Sha.v32 rr (fun j => (hh j).setWidth 32) i 6) ^^^ ((Sha.v32 rr (fun j => (hh j).setWidth 32) i 4) &&& ((Sha.v32 rr (fun j => (hh j).setWidth 32) i 5) ^^^ (Sha.v32 rr (fun j => (hh j).setWidth 32) i 6)))))) rfl rfl) (ev (U32 (Sha.k32 i)) rfl rfl) add32) ?_
       refine q_mv (ev (.int .i64 ((i : Nat) : Int)) rfl rfl) ?_
       refine q_val (fun w' hw' => y_ia1z (i := i) (ev (pt b_w 0) s3_2 rfl) (ev (.int .i64 ((i : Nat) : Int)) rfl rfl) Tryd.underlying94 ShaBT.sz93 (by omega) (by omega)) ?_
       refine q_val (v := U32 (Sha.w32 rr i)) (fun w' hw' => y_ld (ev (pt b_w i) rfl rfl) ShaBT.sc93 (cls_cell (r_b_w.val (by omega) rfl) r_b_w.lt w' hw')) ?_
       refine q_val (fun w' hw' => y_bin (ev (U32 ((((Sha.v32 rr (fun j => (hh j).setWidth 32) i 7) + (((Sha.rl32 (Sha.v32 rr (fun j => (hh j).setWidth 32) i 4) (-6)) ^^^ (Sha.rl32 (Sha.v32 rr (fun j => (hh j).setWidth 32) i 4) (-11))) ^^^ (Sha.rl32 (Sha.v32 rr (fun j => (hh j).setWidth 32) i 4) (-25)))) + ((Sha.v32 rr (fun j => (hh j).setWidth 32) i 6) ^^^ ((Sha.v32 rr (fun j => (hh j).setWidth 32) i 4) &&& ((Sha.v32 rr (fun j => (hh j).setWidth 32) i 5) ^^^ (Sha.v32 rr (fun j => (hh j).setWidth 32) i 6))))) + (Sha.k32 i))) rfl rfl) (ev (U32 (Sha.w32 rr i)) rfl rfl) add32) ?_
       refine q_as (ev (U32 (((((Sha.v32 rr (fun j => (hh j).setWidth 32) i 7) + (((Sha.rl32 (Sha.v32 rr (fun j => (hh j).setWidth 32) i 4) (-6)) ^^^ (Sha.rl32 (Sha.v32 rr (fun j => (hh j).setWidth 32) i 4) (-11))) ^^^ (Sha.rl32 (Sha.v32 rr (fun j => (hh j).setWidth 32) i 4) (-25)))) + ((Sha.v32 rr (fun j => (hh j).setWidth 32) i 6) ^^^ ((Sha.v32 rr (fun j => (hh j).setWidth 32) i 4) &&& ((Sha.v32 rr (fun j => (hh j).setWidth 32) i 5) ^^^ (Sha.v32 rr (fun j => (hh j).setWidth 32) i 6))))) + (Sha.k32 i)) + (Sha.w32 rr i))) rfl rfl) ?_
       refine q_nil ?_
       intro w29 hb30
       replace r_h := r_h.step hb30
       replace r_b_w := r_b_w.step hb30
       replace r_b_v := r_b_v.step hb30
       replace hk := grown_thenB hk hb30
       replace hT := Sha.Tabs.below hT hb30
       refine then_n ?_
       refine wp_seq ?_
       refine region_q ShaBT.mixed (by kernel_rfl) ?_
       refine q_mv (ev (U32 (Sha.v32 rr (fun j => (hh j).setWidth 32) i 0)) rfl rfl) ?_
       refine q_call (v := U32 (Sha.rl32 (Sha.v32 rr (fun j => (hh j).setWidth 32) i 0) (-2))) (Tryd.func56) (by kernel_rfl) rfl (m2 (ev (U32 (Sha.v32 rr (fun j => (hh j).setWidth 32) i 0)) rfl rfl) (evc (.int .i64 (-2)))) (fun w' hw' => rotl32_c (Sha.v32 rr (fun j => (hh j).setWidth 32) i 0) (-2) w') ?_
       refine q_mv (ev (U32 (Sha.v32 rr (fun j => (hh j).setWidth 32) i 0)) rfl rfl) ?_
       refine q_call (v := U32 (Sha.rl32 (Sha.v32 rr (fun j => (hh j).setWidth 32) i 0) (-13))) (Tryd.func56) (by kernel_rfl) rfl (m2 (ev (U32 (Sha.v32 rr (fun j => (hh j).setWidth 32) i 0)) rfl rfl) (evc (.int .i64 (-13)))) (fun w' hw' => rotl32_c (Sha.v32 rr (fun j => (hh j).setWidth 32) i 0) (-13) w') ?_
       refine q_val (fun w' hw' => y_bin (ev (U32 (Sha.rl32 (Sha.v32 rr (fun j => (hh j).setWidth 32) i 0) (-2))) rfl rfl) (ev (U32 (Sha.rl32 (Sha.v32 rr (fun j => (hh j).setWidth 32) i 0) (-13))) rfl rfl) xor32) ?_
       refine q_mv (ev (U32 (Sha.v32 rr (fun j => (hh j).setWidth 32) i 0)) rfl rfl) ?_
       refine q_call (v := U32 (Sha.rl32 (Sha.v32 rr (fun j => (hh j).setWidth 32) i 0) (-22))) (Tryd.func56) (by kernel_rfl) rfl (m2 (ev (U32 (Sha.v32 rr (fun j => (hh j).setWidth 32) i 0)) rfl rfl) (evc (.int .i64 (-22)))) (fun w' hw' => rotl32_c (Sha.v32 rr (fun j => (hh j).setWidth 32) i 0) (-22) w') ?_
       refine q_val (fun w' hw' => y_bin (ev (U32 ((Sha.rl32 (Sha.v32 rr (fun j => (hh j).setWidth 32) i 0) (-2)) ^^^ (Sha.rl32 (Sha.v32 rr (fun j => (hh j).setWidth 32) i 0) (-13)))) rfl rfl) (ev (U32 (Sha.rl32 (Sha.v32 rr (fun j => (hh j).setWidth 32) i 0) (-22))) rfl rfl) xor32) ?_
       refine q_mv (ev (U32 (Sha.v32 rr (fun j => (hh j).setWidth 32) i 0)) rfl rfl) ?_
       refine q_val (fun w' hw' => y_ia1z (i := 1) (ev (pt b_v 0) s3_6 rfl) (evc (.int .i64 1)) Tryd.underlying96 ShaBT.sz93 (by omega) (by omega)) ?_
       refine q_val (v := U32 (Sha.v32 rr (fun j => (hh j).setWidth 32) i 1)) (fun w' hw' => y_ld (ev (pt b_v 1) rfl rfl) ShaBT.sc93 (cls_cell (r_b_v.val (by omega) rfl) r_b_v.lt w' hw')) ?_
       refine q_val (fun w' hw' => y_bin (ev (U32 (Sha.v32 rr (fun j => (hh j).setWidth 32) i 0)) rfl rfl) (ev (U32 (Sha.v32 rr (fun j => (hh j).setWidth 32) i 1)) rfl rfl) and32) ?_
       refine q_val (fun w' hw' => y_ia1z (i := 2) (ev (pt b_v 0) s3_6 rfl) (evc (.int .i64 2)) Tryd.underlying96 ShaBT.sz93 (by omega) (by omega)) ?_
       refine q_val (v := U32 (Sha.v32 rr (fun j => (hh j).setWidth 32) i 2)) (fun w' hw' => y_ld (ev (pt b_v 2) rfl rfl) ShaBT.sc93 (cls_cell (r_b_v.val (by omega) rfl) r_b_v.lt w' hw')) ?_
       refine q_mv (ev (U32 (Sha.v32 rr (fun j => (hh j).setWidth 32) i 0)) rfl rfl) ?_
       refine q_val (fun w' hw' => y_ia1z (i := 1) (ev (pt b_v 0) s3_6 rfl) (evc (.int .i64 1)) Tryd.underlying96 ShaBT.sz93 (by omega) (by omega)) ?_
       refine q_val (v := U32 (Sha.v32 rr (fun j => (hh j).setWidth 32) i 1)) (fun w' hw' => y_ld (ev (pt b_v 1) rfl rfl) ShaBT.sc93 (cls_cell (r_b_v.val (by omega) rfl) r_b_v.lt w' hw')) ?_
       refine q_val (fun w' hw' => y_bin (ev (U32 (Sha.v32 rr (fun j => (hh j).setWidth 32) i 0)) rfl rfl) (ev (U32 (Sha.v32 rr (fun j => (hh j).setWidth 32) i 1)) rfl rfl) or32) ?_
       refine q_val (fun w' hw' => y_bin (ev (U32 (Sha.v32 rr (fun j => (hh j).setWidth 32) i 2)) rfl rfl) (ev (U32 ((Sha.v32 rr (fun j => (hh j).setWidth 32) i 0) ||| (Sha.v32 rr (fun j => (hh j).setWidth 32) i 1))) rfl rfl) and32) ?_
       refine q_val (fun w' hw' => y_bin (ev (U32 ((Sha.v32 rr (fun j => (hh j).setWidth 32) i 0) &&& (Sha.v32 rr (fun j => (hh j).setWidth 32) i 1))) rfl rfl) (ev (U32 ((Sha.v32 rr (fun j => (hh j).setWidth 32) i 2) &&& ((Sha.v32 rr (fun j => (hh j).setWidth 32) i 0) ||| (Sha.v32 rr (fun j => (hh j).setWidth 32) i 1)))) rfl rfl) or32) ?_
       refine q_val (fun w' hw' => y_bin (ev (U32 (((Sha.rl32 (Sha.v32 rr (fun j => (hh j).setWidth 32) i 0) (-2)) ^^^ (Sha.rl32 (Sha.v32 rr (fun j => (hh j).setWidth 32) i 0) (-13))) ^^^ (Sha.rl32 (Sha.v32 rr (fun j => (hh j).setWidth 32) i 0) (-22)))) rfl rfl) (ev (U32 (((Sha.v32 rr (fun j => (hh j).setWidth 32) i 0) &&& (Sha.v32 rr (fun j => (hh j).setWidth 32) i 1)) ||| ((Sha.v32 rr (fun j => (hh j).setWidth 32) i 2) &&& ((Sha.v32 rr (fun j => (hh j).setWidth 32) i 0) ||| (Sha.v32 rr (fun j => (hh j).setWidth 32) i 1))))) rfl rfl) add32) ?_
       refine q_as (ev (U32 ((((Sha.rl32 (Sha.v32 rr (fun j => (hh j).setWidth 32) i 0) (-2)) ^^^ (Sha.rl32 (Sha.v32 rr (fun j => (hh j).setWidth 32) i 0) (-13))) ^^^ (Sha.rl32 (Sha.v32 rr (fun j => (hh j).setWidth 32) i 0) (-22))) + (((Sha.v32 rr (fun j => (hh j).setWidth 32) i 0) &&& (Sha.v32 rr (fun j => (hh j).setWidth 32) i 1)) ||| ((Sha.v32 rr (fun j => (hh j).setWidth 32) i 2) &&& ((Sha.v32 rr (fun j => (hh j).setWidth 32) i 0) ||| (Sha.v32 rr (fun j => (hh j).setWidth 32) i 1)))))) rfl rfl) ?_
       refine q_nil ?_
       intro w31 hb32
       replace r_h := r_h.step hb32
       replace r_b_w := r_b_w.step hb32
       replace r_b_v := r_b_v.step hb32
       replace hk := grown_thenB hk hb32
       replace hT := Sha.Tabs.below hT hb32
       refine then_n ?_
       refine wp_region_lit ?_
       refine w_mv (ev (U32 (((((Sha.v32 rr (fun j => (hh j).setWidth 32) i 7) + (((Sha.rl32 (Sha.v32 rr (fun j => (hh j).setWidth 32) i 4) (-6)) ^^^ (Sha.rl32 (Sha.v32 rr (fun j => (hh j).setWidth 32) i 4) (-11))) ^^^ (Sha.rl32 (Sha.v32 rr (fun j => (hh j).setWidth 32) i 4) (-25)))) + ((Sha.v32 rr (fun j => (hh j).setWidth 32) i 6) ^^^ ((Sha.v32 rr (fun j => (hh j).setWidth 32) i 4) &&& ((Sha.v32 rr (fun j => (hh j).setWidth 32) i 5) ^^^ (Sha.v32 rr (fun j => (hh j).setWidth 32) i 6))))) + (Sha.k32 i)) + (Sha.w32 rr i))) rfl rfl) ?_
       refine w_mv (ev (U32 ((((Sha.rl32 (Sha.v32 rr (fun j => (hh j).setWidth 32) i 0) (-2)) ^^^ (Sha.rl32 (Sha.v32 rr (fun j => (hh j).setWidth 32) i 0) (-13))) ^^^ (Sha.rl32 (Sha.v32 rr (fun j => (hh j).setWidth 32) i 0) (-22))) + (((Sha.v32 rr (fun j => (hh j).setWidth 32) i 0) &&& (Sha.v32 rr (fun j => (hh j).setWidth 32) i 1)) ||| ((Sha.v32 rr (fun j => (hh j).setWidth 32) i 2) &&& ((Sha.v32 rr (fun j => (hh j).setWidth 32) i 0) ||| (Sha.v32 rr (fun j => (hh j).setWidth 32) i 1)))))) rfl rfl) ?_
       refine w_val (y_bin (ev (U32 (((((Sha.v32 rr (fun j => (hh j).setWidth 32) i 7) + (((Sha.rl32 (Sha.v32 rr (fun j => (hh j).setWidth 32) i 4) (-6)) ^^^ (Sha.rl32 (Sha.v32 rr (fun j => (hh j).setWidth 32) i 4) (-11))) ^^^ (Sha.rl32 (Sha.v32 rr (fun j => (hh j).setWidth 32) i 4) (-25)))) + ((Sha.v32 rr (fun j => (hh j).setWidth 32) i 6) ^^^ ((Sha.v32 rr (fun j => (hh j).setWidth 32) i 4) &&& ((Sha.v32 rr (fun j => (hh j).setWidth 32) i 5) ^^^ (Sha.v32 rr (fun j => (hh j).setWidth 32) i 6))))) + (Sha.k32 i)) + (Sha.w32 rr i))) rfl rfl) (ev (U32 ((((Sha.rl32 (Sha.v32 rr (fun j => (hh j).setWidth 32) i 0) (-2)) ^^^ (Sha.rl32 (Sha.v32 rr (fun j => (hh j).setWidth 32) i 0) (-13))) ^^^ (Sha.rl32 (Sha.v32 rr (fun j => (hh j).setWidth 32) i 0) (-22))) + (((Sha.v32 rr (fun j => (hh j).setWidth 32) i 0) &&& (Sha.v32 rr (fun j => (hh j).setWidth 32) i 1)) ||| ((Sha.v32 rr (fun j => (hh j).setWidth 32) i 2) &&& ((Sha.v32 rr (fun j => (hh j).setWidth 32) i 0) ||| (Sha.v32 rr (fun j => (hh j).setWidth 32) i 1)))))) rfl rfl) add32) ?_
       refine w_mv (ev (U32 (Sha.v32 rr (fun j => (hh j).setWidth 32) i 0)) rfl rfl) ?_
       refine w_val (y_ia1z (i := 1) (ev (pt b_v 0) s3_6 rfl) (evc (.int .i64 1)) Tryd.underlying96 ShaBT.sz93 (by omega) (by omega)) ?_
       refine w_val (v := U32 (Sha.v32 rr (fun j => (hh j).setWidth 32) i 1)) (y_ld (ev (pt b_v 1) rfl rfl) ShaBT.sc93 (r_b_v.val (by omega) rfl)) ?_
       refine w_val (y_ia1z (i := 2) (ev (pt b_v 0) s3_6 rfl) (evc (.int .i64 2)) Tryd.underlying96 ShaBT.sz93 (by omega) (by omega)) ?_
       refine w_val (v := U32 (Sha.v32 rr (fun j => (hh j).setWidth 32) i 2)) (y_ld (ev (pt b_v 2) rfl rfl) ShaBT.sc93 (r_b_v.val (by omega) rfl)) ?_
       refine w_val (y_ia1z (i := 3) (ev (pt b_v 0) s3_6 rfl) (evc (.int .i64 3)) Tryd.underlying96 ShaBT.sz93 (by omega) (by omega)) ?_
       refine w_val (v := U32 (Sha.v32 rr (fun j => (hh j).setWidth 32) i 3)) (y_ld (ev (pt b_v 3) rfl rfl) ShaBT.sc93 (r_b_v.val (by omega) rfl)) ?_
       refine w_mv (ev (U32 (((((Sha.v32 rr (fun j => (hh j).setWidth 32) i 7) + (((Sha.rl32 (Sha.v32 rr (fun j => (hh j).setWidth 32) i 4) (-6)) ^^^ (Sha.rl32 (Sha.v32 rr (fun j => (hh j).setWidth 32) i 4) (-11))) ^^^ (Sha.rl32 (Sha.v32 rr (fun j => (hh j).setWidth 32) i 4) (-25)))) + ((Sha.v32 rr (fun j => (hh j).setWidth 32) i 6) ^^^ ((Sha.v32 rr (fun j => (hh j).setWidth 32) i 4) &&& ((Sha.v32 rr (fun j => (hh j).setWidth 32) i 5) ^^^ (Sha.v32 rr (fun j => (hh j).setWidth 32) i 6))))) + (Sha.k32 i)) + (Sha.w32 rr i))) rfl rfl) ?_
       refine w_val (y_bin (ev (U32 (Sha.v32 rr (fun j => (hh j).setWidth 32) i 3)) rfl rfl) (ev (U32 (((((Sha.v32 rr (fun j => (hh j).setWidth 32) i 7) + (((Sha.rl32 (Sha.v32 rr (fun j => (hh j).setWidth 32) i 4) (-6)) ^^^ (Sha.rl32 (Sha.v32 rr (fun j => (hh j).setWidth 32) i 4) (-11))) ^^^ (Sha.rl32 (Sha.v32 rr (fun j => (hh j).setWidth 32) i 4) (-25)))) + ((Sha.v32 rr (fun j => (hh j).setWidth 32) i 6) ^^^ ((Sha.v32 rr (fun j => (hh j).setWidth 32) i 4) &&& ((Sha.v32 rr (fun j => (hh j).setWidth 32) i 5) ^^^ (Sha.v32 rr (fun j => (hh j).setWidth 32) i 6))))) + (Sha.k32 i)) + (Sha.w32 rr i))) rfl rfl) add32) ?_
       refine w_mv (ev (U32 (Sha.v32 rr (fun j => (hh j).setWidth 32) i 4)) rfl rfl) ?_
       refine w_val (y_ia1z (i := 5) (ev (pt b_v 0) s3_6 rfl) (evc (.int .i64 5)) Tryd.underlying96 ShaBT.sz93 (by omega) (by omega)) ?_
       refine w_val (v := U32 (Sha.v32 rr (fun j => (hh j).setWidth 32) i 5)) (y_ld (ev (pt b_v 5) rfl rfl) ShaBT.sc93 (r_b_v.val (by omega) rfl)) ?_
       refine w_val (y_ia1z (i := 6) (ev (pt b_v 0) s3_6 rfl) (evc (.int .i64 6)) Tryd.underlying96 ShaBT.sz93 (by omega) (by omega)) ?_
       refine w_val (v := U32 (Sha.v32 rr (fun j => (hh j).setWidth 32) i 6)) (y_ld (ev (pt b_v 6) rfl rfl) ShaBT.sc93 (r_b_v.val (by omega) rfl)) ?_
       refine w_val (v := .agg (arr 8 (fun j => if j < 1 then U32 ((((((Sha.v32 rr (fun j => (hh j).setWidth 32) i 7) + (((Sha.rl32 (Sha.v32 rr (fun j => (hh j).setWidth 32) i 4) (-6)) ^^^ (Sha.rl32 (Sha.v32 rr (fun j => (hh j).setWidth 32) i 4) (-11))) ^^^ (Sha.rl32 (Sha.v32 rr (fun j => (hh j).setWidth 32) i 4) (-25)))) + ((Sha.v32 rr (fun j => (hh j).setWidth 32) i 6) ^^^ ((Sha.v32 rr (fun j => (hh j).setWidth 32) i 4) &&& ((Sha.v32 rr (fun j => (hh j).setWidth 32) i 5) ^^^ (Sha.v32 rr (fun j => (hh j).setWidth 32) i 6))))) + (Sha.k32 i)) + (Sha.w32 rr i)) + ((((Sha.rl32 (Sha.v32 rr (fun j => (hh j).setWidth 32) i 0) (-2)) ^^^ (Sha.rl32 (Sha.v32 rr (fun j => (hh j).setWidth 32) i 0) (-13))) ^^^ (Sha.rl32 (Sha.v32 rr (fun j => (hh j).setWidth 32) i 0) (-22))) + (((Sha.v32 rr (fun j => (hh j).setWidth 32) i 0) &&& (Sha.v32 rr (fun j => (hh j).setWidth 32) i 1)) ||| ((Sha.v32 rr (fun j => (hh j).setWidth 32) i 2) &&& ((Sha.v32 rr (fun j => (hh j).setWidth 32) i 0) ||| (Sha.v32 rr (fun j => (hh j).setWidth 32) i 1)))))) else if j < 2 then U32 (Sha.v32 rr (fun j => (hh j).setWidth 32) i 0) else if j < 3 then U32 (Sha.v32 rr (fun j => (hh j).setWidth 32) i 1) else if j < 4 then U32 (Sha.v32 rr (fun j => (hh j).setWidth 32) i 2) else if j < 5 then U32 ((Sha.v32 rr (fun j => (hh j).setWidth 32) i 3) + (((((Sha.v32 rr (fun j => (hh j).setWidth 32) i 7) + (((Sha.rl32 (Sha.v32 rr (fun j => (hh j).setWidth 32) i 4) (-6)) ^^^ (Sha.rl32 (Sha.v32 rr (fun j => (hh j).setWidth 32) i 4) (-11))) ^^^ (Sha.rl32 (Sha.v32 rr (fun j => (hh j).setWidth 32) i 4) (-25)))) + ((Sha.v32 rr (fun j => (hh j).setWidth 32) i 6) ^^^ ((Sha.v32 rr (fun j => (hh j).setWidth 32) i 4) &&& ((Sha.v32 rr (fun j => (hh j).setWidth 32) i 5) ^^^ (Sha.v32 rr (fun j => (hh j).setWidth 32) i 6))))) + (Sha.k32 i)) + (Sha.w32 rr i))) else if j < 6 then U32 (Sha.v32 rr (fun j => (hh j).setWidth 32) i 4) else if j < 7 then U32 (Sha.v32 rr (fun j => (hh j).setWidth 32) i 5) else U32 (Sha.v32 rr (fun j => (hh j).setWidth 32) i 6)))) (y_build (vs := #[(0, U32 ((((((Sha.v32 rr (fun j => (hh j).setWidth 32) i 7) + (((Sha.rl32 (Sha.v32 rr (fun j => (hh j).setWidth 32) i 4) (-6)) ^^^ (Sha.rl32 (Sha.v32 rr (fun j => (hh j).setWidth 32) i 4) (-11))) ^^^ (Sha.rl32 (Sha.v32 rr (fun j => (hh j).setWidth 32) i 4) (-25)))) + ((Sha.v32 rr (fun j => (hh j).setWidth 32) i 6) ^^^ ((Sha.v32 rr (fun j => (hh j).setWidth 32) i 4) &&& ((Sha.v32 rr (fun j => (hh j).setWidth 32) i 5) ^^^ (Sha.v32 rr (fun j => (hh j).setWidth 32) i 6))))) + (Sha.k32 i)) + (Sha.w32 rr i)) + ((((Sha.rl32 (Sha.v32 rr (fun j => (hh j).setWidth 32) i 0) (-2)) ^^^ (Sha.rl32 (Sha.v32 rr (fun j => (hh j).setWidth 32) i 0) (-13))) ^^^ (Sha.rl32 (Sha.v32 rr (fun j => (hh j).setWidth 32) i 0) (-22))) + (((Sha.v32 rr (fun j => (hh j).setWidth 32) i 0) &&& (Sha.v32 rr (fun j => (hh j).setWidth 32) i 1)) ||| ((Sha.v32 rr (fun j => (hh j).setWidth 32) i 2) &&& ((Sha.v32 rr (fun j => (hh j).setWidth 32) i 0) ||| (Sha.v32 rr (fun j => (hh j).setWidth 32) i 1))))))), (1, U32 (Sha.v32 rr (fun j => (hh j).setWidth 32) i 0)), (2, U32 (Sha.v32 rr (fun j => (hh j).setWidth 32) i 1)), (3, U32 (Sha.v32 rr (fun j => (hh j).setWidth 32) i 2)), (4, U32 ((Sha.v32 rr (fun j => (hh j).setWidth 32) i 3) + (((((Sha.v32 rr (fun j => (hh j).setWidth 32) i 7) + (((Sha.rl32 (Sha.v32 rr (fun j => (hh j).setWidth 32) i 4) (-6)) ^^^ (Sha.rl32 (Sha.v32 rr (fun j => (hh j).setWidth 32) i 4) (-11))) ^^^ (Sha.rl32 (Sha.v32 rr (fun j => (hh j).setWidth 32) i 4) (-25)))) + ((Sha.v32 rr (fun j => (hh j).setWidth 32) i 6) ^^^ ((Sha.v32 rr (fun j => (hh j).setWidth 32) i 4) &&& ((Sha.v32 rr (fun j => (hh j).setWidth 32) i 5) ^^^ (Sha.v32 rr (fun j => (hh j).setWidth 32) i 6))))) + (Sha.k32 i)) + (Sha.w32 rr i)))), (5, U32 (Sha.v32 rr (fun j => (hh j).setWidth 32) i 4)), (6, U32 (Sha.v32 rr (fun j => (hh j).setWidth 32) i 5)), (7, U32 (Sha.v32 rr (fun j => (hh j).setWidth 32) i 6))]) (mp_cons (ev (U32 ((((((Sha.v32 rr (fun j => (hh j).setWidth 32) i 7) + (((Sha.rl32 (Sha.v32 rr (fun j => (hh j).setWidth 32) i 4) (-6)) ^^^ (Sha.rl32 (Sha.v32 rr (fun j => (hh j).setWidth 32) i 4) (-11))) ^^^ (Sha.rl32 (Sha.v32 rr (fun j => (hh j).setWidth 32) i 4) (-25)))) + ((Sha.v32 rr (fun j => (hh j).setWidth 32) i 6) ^^^ ((Sha.v32 rr (fun j => (hh j).setWidth 32) i 4) &&& ((Sha.v32 rr (fun j => (hh j).setWidth 32) i 5) ^^^ (Sha.v32 rr (fun j => (hh j).setWidth 32) i 6))))) + (Sha.k32 i)) + (Sha.w32 rr i)) + ((((Sha.rl32 (Sha.v32 rr (fun j => (hh j).setWidth 32) i 0) (-2)) ^^^ (Sha.rl32 (Sha.v32 rr (fun j => (hh j).setWidth 32) i 0) (-13))) ^^^ (Sha.rl32 (Sha.v32 rr (fun j => (hh j).setWidth 32) i 0) (-22))) + (((Sha.v32 rr (fun j => (hh j).setWidth 32) i 0) &&& (Sha.v32 rr (fun j => (hh j).setWidth 32) i 1)) ||| ((Sha.v32 rr (fun j => (hh j).setWidth 32) i 2) &&& ((Sha.v32 rr (fun j => (hh j).setWidth 32) i 0) ||| (Sha.v32 rr (fun j => (hh j).setWidth 32) i 1))))))) rfl rfl) (mp_cons (ev (U32 (Sha.v32 rr (fun j => (hh j).setWidth 32) i 0)) rfl rfl) (mp_cons (ev (U32 (Sha.v32 rr (fun j => (hh j).setWidth 32) i 1)) rfl rfl) (mp_cons (ev (U32 (Sha.v32 rr (fun j => (hh j).setWidth 32) i 2)) rfl rfl) (mp_cons (ev (U32 ((Sha.v32 rr (fun j => (hh j).setWidth 32) i 3) + (((((Sha.v32 rr (fun j => (hh j).setWidth 32) i 7) + (((Sha.rl32 (Sha.v32 rr (fun j => (hh j).setWidth 32) i 4) (-6)) ^^^ (Sha.rl32 (Sha.v32 rr (fun j => (hh j).setWidth 32) i 4) (-11))) ^^^ (Sha.rl32 (Sha.v32 rr (fun j => (hh j).setWidth 32) i 4) (-25)))) + ((Sha.v32 rr (fun j => (hh j).setWidth 32) i 6) ^^^ ((Sha.v32 rr (fun j => (hh j).setWidth 32) i 4) &&& ((Sha.v32 rr (fun j => (hh j).setWidth 32) i 5) ^^^ (Sha.v32 rr (fun j => (hh j).setWidth 32) i 6))))) + (Sha.k32 i)) + (Sha.w32 rr i)))) rfl rfl) (mp_cons (ev (U32 (Sha.v32 rr (fun j => (hh j).setWidth 32) i 4)) rfl rfl) (mp_cons (ev (U32 (Sha.v32 rr (fun j => (hh j).setWidth 32) i 5)) rfl rfl) (mp_cons (ev (U32 (Sha.v32 rr (fun j => (hh j).setWidth 32) i 6)) rfl rfl) mp0)))))))) (fun w => by kernel_rfl)) ?_
       refine w_sta (k := 8) (G := fun j => if j < 1 then U32 ((((((Sha.v32 rr (fun j => (hh j).setWidth 32) i 7) + (((Sha.rl32 (Sha.v32 rr (fun j => (hh j).setWidth 32) i 4) (-6)) ^^^ (Sha.rl32 (Sha.v32 rr (fun j => (hh j).setWidth 32) i 4) (-11))) ^^^ (Sha.rl32 (Sha.v32 rr (fun j => (hh j).setWidth 32) i 4) (-25)))) + ((Sha.v32 rr (fun j => (hh j).setWidth 32) i 6) ^^^ ((Sha.v32 rr (fun j => (hh j).setWidth 32) i 4) &&& ((Sha.v32 rr (fun j => (hh j).setWidth 32) i 5) ^^^ (Sha.v32 rr (fun j => (hh j).setWidth 32) i 6))))) + (Sha.k32 i)) + (Sha.w32 rr i)) + ((((Sha.rl32 (Sha.v32 rr (fun j => (hh j).setWidth 32) i 0) (-2)) ^^^ (Sha.rl32 (Sha.v32 rr (fun j => (hh j).setWidth 32) i 0) (-13))) ^^^ (Sha.rl32 (Sha.v32 rr (fun j => (hh j).setWidth 32) i 0) (-22))) + (((Sha.v32 rr (fun j => (hh j).setWidth 32) i 0) &&& (Sha.v32 rr (fun j => (hh j).setWidth 32) i 1)) ||| ((Sha.v32 rr (fun j => (hh j).setWidth 32) i 2) &&& ((Sha.v32 rr (fun j => (hh j).setWidth 32) i 0) ||| (Sha.v32 rr (fun j => (hh j).setWidth 32) i 1)))))) else if j < 2 then U32 (Sha.v32 rr (fun j => (hh j).setWidth 32) i 0) else if j < 3 then U32 (Sha.v32 rr (fun j => (hh j).setWidth 32) i 1) else if j < 4 then U32 (Sha.v32 rr (fun j => (hh j).setWidth 32) i 2) else if j < 5 then U32 ((Sha.v32 rr (fun j => (hh j).setWidth 32) i 3) + (((((Sha.v32 rr (fun j => (hh j).setWidth 32) i 7) + (((Sha.rl32 (Sha.v32 rr (fun j => (hh j).setWidth 32) i 4) (-6)) ^^^ (Sha.rl32 (Sha.v32 rr (fun j => (hh j).setWidth 32) i 4) (-11))) ^^^ (Sha.rl32 (Sha.v32 rr (fun j => (hh j).setWidth 32) i 4) (-25)))) + ((Sha.v32 rr (fun j => (hh j).setWidth 32) i 6) ^^^ ((Sha.v32 rr (fun j => (hh j).setWidth 32) i 4) &&& ((Sha.v32 rr (fun j => (hh j).setWidth 32) i 5) ^^^ (Sha.v32 rr (fun j => (hh j).setWidth 32) i 6))))) + (Sha.k32 i)) + (Sha.w32 rr i))) else if j < 6 then U32 (Sha.v32 rr (fun j => (hh j).setWidth 32) i 4) else if j < 7 then U32 (Sha.v32 rr (fun j => (hh j).setWidth 32) i 5) else U32 (Sha.v32 rr (fun j => (hh j).setWidth 32) i 6)) (ev (pt b_v 0) s3_6 rfl) (ev (.agg (arr 8 (fun j => if j < 1 then U32 ((((((Sha.v32 rr (fun j => (hh j).setWidth 32) i 7) + (((Sha.rl32 (Sha.v32 rr (fun j => (hh j).setWidth 32) i 4) (-6)) ^^^ (Sha.rl32 (Sha.v32 rr (fun j => (hh j).setWidth 32) i 4) (-11))) ^^^ (Sha.rl32 (Sha.v32 rr (fun j => (hh j).setWidth 32) i 4) (-25)))) + ((Sha.v32 rr (fun j => (hh j).setWidth 32) i 6) ^^^ ((Sha.v32 rr (fun j => (hh j).setWidth 32) i 4) &&& ((Sha.v32 rr (fun j => (hh j).setWidth 32) i 5) ^^^ (Sha.v32 rr (fun j => (hh j).setWidth 32) i 6))))) + (Sha.k32 i)) + (Sha.w32 rr i)) + ((((Sha.rl32 (Sha.v32 rr (fun j => (hh j).setWidth 32) i 0) (-2)) ^^^ (Sha.rl32 (Sha.v32 rr (fun j => (hh j).setWidth 32) i 0) (-13))) ^^^ (Sha.rl32 (Sha.v32 rr (fun j => (hh j).setWidth 32) i 0) (-22))) + (((Sha.v32 rr (fun j => (hh j).setWidth 32) i 0) &&& (Sha.v32 rr (fun j => (hh j).setWidth 32) i 1)) ||| ((Sha.v32 rr (fun j => (hh j).setWidth 32) i 2) &&& ((Sha.v32 rr (fun j => (hh j).setWidth 32) i 0) ||| (Sha.v32 rr (fun j => (hh j).setWidth 32) i 1)))))) else if j < 2 then U32 (Sha.v32 rr (fun j => (hh j).setWidth 32) i 0) else if j < 3 then U32 (Sha.v32 rr (fun j => (hh j).setWidth 32) i 1) else if j < 4 then U32 (Sha.v32 rr (fun j => (hh j).setWidth 32) i 2) else if j < 5 then U32 ((Sha.v32 rr (fun j => (hh j).setWidth 32) i 3) + (((((Sha.v32 rr (fun j => (hh j).setWidth 32) i 7) + (((Sha.rl32 (Sha.v32 rr (fun j => (hh j).setWidth 32) i 4) (-6)) ^^^ (Sha.rl32 (Sha.v32 rr (fun j => (hh j).setWidth 32) i 4) (-11))) ^^^ (Sha.rl32 (Sha.v32 rr (fun j => (hh j).setWidth 32) i 4) (-25)))) + ((Sha.v32 rr (fun j => (hh j).setWidth 32) i 6) ^^^ ((Sha.v32 rr (fun j => (hh j).setWidth 32) i 4) &&& ((Sha.v32 rr (fun j => (hh j).setWidth 32) i 5) ^^^ (Sha.v32 rr (fun j => (hh j).setWidth 32) i 6))))) + (Sha.k32 i)) + (Sha.w32 rr i))) else if j < 6 then U32 (Sha.v32 rr (fun j => (hh j).setWidth 32) i 4) else if j < 7 then U32 (Sha.v32 rr (fun j => (hh j).setWidth 32) i 5) else U32 (Sha.v32 rr (fun j => (hh j).setWidth 32) i 6)))) rfl rfl) oc ShaBT.sz96 r_b_v (by omega) ?_
       clear r_b_v; intro w33 r_b_v hg34 _
       replace r_b_v := r_b_v.congr (g := fun j => if j < 1 then U32 ((((((Sha.v32 rr (fun j => (hh j).setWidth 32) i 7) + (((Sha.rl32 (Sha.v32 rr (fun j => (hh j).setWidth 32) i 4) (-6)) ^^^ (Sha.rl32 (Sha.v32 rr (fun j => (hh j).setWidth 32) i 4) (-11))) ^^^ (Sha.rl32 (Sha.v32 rr (fun j => (hh j).setWidth 32) i 4) (-25)))) + ((Sha.v32 rr (fun j => (hh j).setWidth 32) i 6) ^^^ ((Sha.v32 rr (fun j => (hh j).setWidth 32) i 4) &&& ((Sha.v32 rr (fun j => (hh j).setWidth 32) i 5) ^^^ (Sha.v32 rr (fun j => (hh j).setWidth 32) i 6))))) + (Sha.k32 i)) + (Sha.w32 rr i)) + ((((Sha.rl32 (Sha.v32 rr (fun j => (hh j).setWidth 32) i 0) (-2)) ^^^ (Sha.rl32 (Sha.v32 rr (fun j => (hh j).setWidth 32) i 0) (-13))) ^^^ (Sha.rl32 (Sha.v32 rr (fun j => (hh j).setWidth 32) i 0) (-22))) + (((Sha.v32 rr (fun j => (hh j).setWidth 32) i 0) &&& (Sha.v32 rr (fun j => (hh j).setWidth 32) i 1)) ||| ((Sha.v32 rr (fun j => (hh j).setWidth 32) i 2) &&& ((Sha.v32 rr (fun j => (hh j).setWidth 32) i 0) ||| (Sha.v32 rr (fun j => (hh j).setWidth 32) i 1)))))) else if j < 2 then U32 (Sha.v32 rr (fun j => (hh j).setWidth 32) i 0) else if j < 3 then U32 (Sha.v32 rr (fun j => (hh j).setWidth 32) i 1) else if j < 4 then U32 (Sha.v32 rr (fun j => (hh j).setWidth 32) i 2) else if j < 5 then U32 ((Sha.v32 rr (fun j => (hh j).setWidth 32) i 3) + (((((Sha.v32 rr (fun j => (hh j).setWidth 32) i 7) + (((Sha.rl32 (Sha.v32 rr (fun j => (hh j).setWidth 32) i 4) (-6)) ^^^ (Sha.rl32 (Sha.v32 rr (fun j => (hh j).setWidth 32) i 4) (-11))) ^^^ (Sha.rl32 (Sha.v32 rr (fun j => (hh j).setWidth 32) i 4) (-25)))) + ((Sha.v32 rr (fun j => (hh j).setWidth 32) i 6) ^^^ ((Sha.v32 rr (fun j => (hh j).setWidth 32) i 4) &&& ((Sha.v32 rr (fun j => (hh j).setWidth 32) i 5) ^^^ (Sha.v32 rr (fun j => (hh j).setWidth 32) i 6))))) + (Sha.k32 i)) + (Sha.w32 rr i))) else if j < 6 then U32 (Sha.v32 rr (fun j => (hh j).setWidth 32) i 4) else if j < 7 then U32 (Sha.v32 rr (fun j => (hh j).setWidth 32) i 5) else U32 (Sha.v32 rr (fun j => (hh j).setWidth 32) i 6)) (fun j hj => by rw [if_pos ⟨Nat.zero_le _, by omega⟩]; first | rfl | (simp only [Nat.sub_zero]))
       replace r_h := r_h.stepG hg34 (by omega)
       replace r_b_w := r_b_w.stepG hg34 (by omega)
       replace hk := grown_thenG hk hg34 (by omega)
       replace hT := Sha.Tabs.grown hT hg34 (by omega) (by omega)
       refine wpList_nil ?_
       refine inb_n ?_
       refine then_n ?_
       refine wp_region_lit ?_
       refine w_val (y_bin (ev (.int .i64 ((i : Nat) : Int)) s3_113 rfl) (evc (.int .i64 1)) (b_add (by omega))) ?_
       refine w_mv (ev (.int .i64 (((i : Nat) : Int) + 1)) rfl rfl) ?_
       refine wpList_nil ?_
       exact then_n ⟨_, (by omega), i + 1, rfl, _, rfl, iv, s3_0, s3_2, s3_6, s3_14, s3_100, (etv (b := .int .i64 (((i : Nat) : Int) + 1)) rfl), r_h, r_b_w, (r_b_v.congr (fun j hj => by exact Sha.eight_row32 rr _ i j hj)), hT, hk⟩
      ·skip
       refine wp_exit ?_
       refine then_x ?_
       replace r_b_v := r_b_v.congr (g := fun j => U32 (Sha.v32 rr (fun j => (hh j).setWidth 32) 64 j)) (fun j hj => by (try dsimp only); rw [show i = 64 from by omega])
       refine then_x ?_
       refine inb_x ?_
       refine then_n ?_
       refine sr ?_
       refine w_mv (evc (.int .i64 0)) ?_
       refine nt ?_
       refine wp_block ?_
       refine c_loop (fun dN aN wl => ∃ (k4 : Nat), dN = (8 - k4) ∧ ∃ f35, aN = fr 211 f35 ∧ (k4 ≤ 8) ∧ f35 0 = pt h 0 ∧ f35 2 = pt b_w 0 ∧ f35 6 = pt b_v 0 ∧ f35 14 = .int .i64 ((k : Nat) : Int) ∧ f35 100 = .int .i64 ((k2 : Nat) : Int) ∧ f35 113 = .int .i64 ((i : Nat) : Int) ∧ f35 190 = .int .i64 ((k4 : Nat) : Int) ∧ Row wl h 53 139 (Sha.hrow (.int .i64 kd) (fun i => if i < k4 then Sha.comp true rr hh i else hh i) rr (.int .i64 ((n : Nat) : Int)) (U64 al)) ∧ Row wl b_w 94 64 (fun j => U32 (Sha.w32 rr j)) ∧ Row wl b_v 96 8 (fun j => U32 (Sha.v32 rr (fun j => (hh j).setWidth 32) 64 j)) ∧ Sha.Tabs wl ∧ w0.grownBy wl (some h)) (8 - 0) ?_ ?_
       · exact ⟨0, rfl, _, rfl, iv, s3_0, s3_2, s3_6, s3_14, s3_100, s3_113, (etv (b := .int .i64 0) rfl), (r_h.congr (fun j hj => by exact Sha.words_init _ _ _ _ _ _ j)), r_b_w, r_b_v, hT, hk⟩
       ·skip
        clear r_h r_b_w r_b_v hT hk
        rintro _ _ w36 ⟨k4, rfl, f35, rfl, i4_0, s4_0, s4_2, s4_6, s4_14, s4_100, s4_113, s4_190, r_h, r_b_w, r_b_v, hT, hk⟩
        refine sr ?_
        refine w_val (y_bin (ev (.int .i64 ((k4 : Nat) : Int)) s4_190 rfl) (evc (.int .i64 8)) b_lss) ?_
        refine nt ?_
        refine wp_seq ?_
        refine c_if (p := ((k4 : Nat) : Int) < 8) (ev (.bool (decide (((k4 : Nat) : Int) < 8))) rfl rfl) (fun hc37 => ?_) (fun hc37 => ?_)
        ·skip
         refine wp_skip ?_
         refine then_n ?_
         refine wp_seq ?_
         refine wp_block ?_
         refine sr ?_
         refine w_mv (ev (.int .i64 ((k4 : Nat) : Int)) s4_190 rfl) ?_
         refine w_as (ev (.int .i64 ((k4 : Nat) : Int)) rfl rfl) ?_
         refine nt ?_
         refine region_t 17 ShaBT.mixed (by kernel_rfl) ?_
         simp only [List.take_succ_cons, List.take_zero, List.drop_succ_cons, List.drop_zero]
         refine q_mv (ev (pt h 0) s4_0 rfl) ?_
         refine q_mv (ev (.int .i64 ((k4 : Nat) : Int)) rfl rfl) ?_
         refine q_mv (ev (pt h 0) s4_0 rfl) ?_
         refine q_mv (ev (.int .i64 ((k4 : Nat) : Int)) rfl rfl) ?_
         refine q_val (fun w' hw' => y_nc (ev (pt h 0) rfl rfl)) ?_
         refine q_val (v := pt h 1) (fun w' hw' => y_off (y_fa (ev (pt h 0) rfl rfl) (ShaBT.fa53_1 _ _)) (by first | rfl | omega)) ?_
         refine q_val (v := pt h (1 + k4)) (fun w' hw' => y_off (y_ia1 (i := k4) (ev (pt h 1) rfl rfl) (ev (.int .i64 ((k4 : Nat) : Int)) rfl rfl) Tryd.underlying40 ShaBT.sz39 (by omega) (by omega)) (by first | rfl | omega)) ?_
         refine q_val (v := U64 ((fun i => if i < k4 then Sha.comp true rr hh i else hh i) k4)) (fun w' hw' => y_ld (ev (pt h (1 + k4)) rfl rfl) ShaBT.sc39 (cls_cell (r_h.val (by omega) ((if_neg (by omega)).trans (etv (if_pos (by omega))))) r_h.lt w' hw')) ?_
         refine q_val (fun w' hw' => y_u64_u32 (ev (U64 ((fun i => if i < k4 then Sha.comp true rr hh i else hh i) k4)) rfl rfl) ShaBT.so39 Tryd.underlying93) ?_
         refine q_mv (ev (.int .i64 ((k4 : Nat) : Int)) rfl rfl) ?_
         refine q_val (fun w' hw' => y_ia1z (i := k4) (ev (pt b_v 0) s4_6 rfl) (ev (.int .i64 ((k4 : Nat) : Int)) rfl rfl) Tryd.underlying96 ShaBT.sz93 (by omega) (by omega)) ?_
         refine q_val (v := U32 (Sha.v32 rr (fun j => (hh j).setWidth 32) 64 k4)) (fun w' hw' => y_ld (ev (pt b_v k4) rfl rfl) ShaBT.sc93 (cls_cell (r_b_v.val (by omega) rfl) r_b_v.lt w' hw')) ?_
         refine q_val (fun w' hw' => y_bin (ev (U32 (((fun i => if i < k4 then Sha.comp true rr hh i else hh i) k4).setWidth 32)) rfl rfl) (ev (U32 (Sha.v32 rr (fun j => (hh j).setWidth 32) 64 k4)) rfl rfl) add32) ?_
         refine q_val (fun w' hw' => y_u32_u64 (ev (U32 ((((fun i => if i < k4 then Sha.comp true rr hh i else hh i) k4).setWidth 32) + (Sha.v32 rr (fun j => (hh j).setWidth 32) 64 k4))) rfl rfl) ShaBT.so93 Tryd.underlying39) ?_
         refine q_val (fun w' hw' => y_nc (ev (pt h 0) rfl rfl)) ?_
         refine q_val (v := pt h 1) (fun w' hw' => y_off (y_fa (ev (pt h 0) rfl rfl) (ShaBT.fa53_1 _ _)) (by first | rfl | omega)) ?_
         refine q_val (v := pt h (1 + k4)) (fun w' hw' => y_off (y_ia1 (i := k4) (ev (pt h 1) rfl rfl) (ev (.int .i64 ((k4 : Nat) : Int)) rfl rfl) Tryd.underlying40 ShaBT.sz39 (by omega) (by omega)) (by first | rfl | omega)) ?_
         refine q_nil ?_
         intro w38 hb39
         replace r_h := r_h.step hb39
         replace r_b_w := r_b_w.step hb39
         replace r_b_v := r_b_v.step hb39
         replace hk := grown_thenB hk hb39
         replace hT := Sha.Tabs.below hT hb39
         refine w_st (v := U64 (((((fun i => if i < k4 then Sha.comp true rr hh i else hh i) k4).setWidth 32) + (Sha.v32 rr (fun j => (hh j).setWidth 32) 64 k4)).setWidth 64)) (ev (pt h (1 + k4)) rfl rfl) (ev (U64 (((((fun i => if i < k4 then Sha.comp true rr hh i else hh i) k4).setWidth 32) + (Sha.v32 rr (fun j => (hh j).setWidth 32) 64 k4)).setWidth 64)) rfl rfl) rfl rfl ShaBT.sz39 r_h (by omega) ?_
         clear r_h; intro w40 r_h hg41 _
         replace r_b_w := r_b_w.stepG hg41 (by omega)
         replace r_b_v := r_b_v.stepG hg41 (by omega)
         replace hk := grown_thenG hk hg41 (by omega)
         replace hT := Sha.Tabs.grown hT hg41 (by omega) (by omega)
         refine wpList_nil ?_
         refine inb_n ?_
         refine then_n ?_
         refine wp_region_lit ?_
         refine w_val (y_bin (ev (.int .i64 ((k4 : Nat) : Int)) s4_190 rfl) (evc (.int .i64 1)) (b_add (by omega))) ?_
         refine w_mv (ev (.int .i64 (((k4 : Nat) : Int) + 1)) rfl rfl) ?_
         refine wpList_nil ?_
         exact then_n ⟨_, (by omega), k4 + 1, rfl, _, rfl, iv, s4_0, s4_2, s4_6, s4_14, s4_100, s4_113, (etv (b := .int .i64 (((k4 : Nat) : Int) + 1)) rfl), (r_h.congr (fun j hj => by exact Sha.words_step _ _ _ _ _ _ _ k4 j (by omega) (by (try dsimp only); rw [if_neg (Nat.lt_irrefl k4)]; exact Sha.few_eq rr hh k4 hs))), r_b_w, r_b_v, hT, hk⟩
        ·skip
         refine wp_exit ?_
         refine then_x ?_
         replace r_h := r_h.congr (g := Sha.hrow (.int .i64 kd) (Sha.comp true rr hh) rr (.int .i64 ((n : Nat) : Int)) (U64 al)) (fun j hj => by exact Sha.words_done _ _ _ _ _ _ j hj (by omega))
         refine then_x ?_
         refine inb_x ?_
         refine fin_end0 rfl ?_
         exact ⟨rfl, r_h, hk⟩

set_option maxRecDepth 100000 in
set_option maxHeartbeats 1000000 in
theorem many_c (h n : Nat) (h1 : 0 < h ∧ 1 < h) (kd : Int) (hh : Nat → BitVec 64) (rr : Nat → BitVec 8) (al : BitVec 64) (w0 : World) (r_h : Row w0 h 53 139 (Sha.hrow (.int .i64 kd) hh rr (.int .i64 ((n : Nat) : Int)) (U64 al))) (hT : Sha.Tabs w0) : Calls Tryd.prog 50 #[pt h 0] w0 fun e w' => e = .returned (.tuple #[]) ∧ Row w' h 53 139 (Sha.hrow (.int .i64 kd) (Sha.comp false rr hh) rr (.int .i64 ((n : Nat) : Int)) (U64 al)) ∧ w0.grownBy w' (some h) := by
 have hT0 := hT.lt
 refine enter (n := 176) Tryd.func50 rfl rfl rfl ?_
 have hk : w0.grownBy w0 (some h) := grown_refl _ _
 have lt_h := r_h.lt
 refine sr ?_
 refine w_alloc (m := 80) (F := fun j => U64 (0#64)) (by kernel_rfl) ?_
 intro b_w w1 hbe_b_w r_b_w hb2
 have ne_h_b_w : h ≠ b_w := by have := r_h.lt; omega
 have ge_b_w : w0.heap.size ≤ b_w := by have := hk.size; omega
 clear hbe_b_w
 replace r_h := r_h.step hb2
 replace hk := grown_thenB hk hb2
 replace hT := Sha.Tabs.below hT hb2
 refine nt ?_
 refine wp_seq ?_
 refine sr ?_
 refine w_mv (evc (.int .i64 0)) ?_
 refine nt ?_
 refine wp_block ?_
 refine c_loop (fun dN aN wl => ∃ (k : Nat), dN = (80 - k) ∧ ∃ f3, aN = fr 176 f3 ∧ (k ≤ 80) ∧ f3 0 = pt h 0 ∧ f3 2 = pt b_w 0 ∧ f3 14 = .int .i64 ((k : Nat) : Int) ∧ Row wl h 53 139 (Sha.hrow (.int .i64 kd) hh rr (.int .i64 ((n : Nat) : Int)) (U64 al)) ∧ Row wl b_w 97 80 (fun j => if j < k then (fun j => U64 (Sha.w false rr j)) j else (fun j => U64 (0#64)) j) ∧ Sha.Tabs wl ∧ w0.grownBy wl (some h)) (80 - 0) ?_ ?_
 · exact ⟨0, rfl, _, rfl, iv, rfl, rfl, (etv (b := .int .i64 0) rfl), r_h, (r_b_w.cg), hT, hk⟩
 ·skip
  clear r_h r_b_w hT hk
  rintro _ _ w4 ⟨k, rfl, f3, rfl, i1_0, s1_0, s1_2, s1_14, r_h, r_b_w, hT, hk⟩
  refine sr ?_
  refine w_val (y_bin (ev (.int .i64 ((k : Nat) : Int)) s1_14 rfl) (evc (.int .i64 80)) b_lss) ?_
  refine nt ?_
  refine wp_seq ?_
  refine c_if (p := ((k : Nat) : Int) < 80) (ev (.bool (decide (((k : Nat) : Int) < 80))) rfl rfl) (fun hc5 => ?_) (fun hc5 => ?_)
  ·skip
   refine wp_skip ?_
   refine then_n ?_
   refine wp_seq ?_
   refine wp_block ?_
   refine sr ?_
   refine w_mv (ev (.int .i64 ((k : Nat) : Int)) s1_14 rfl) ?_
   refine w_as (ev (.int .i64 ((k : Nat) : Int)) rfl rfl) ?_
   refine nt ?_
   refine wp_seq ?_
   refine sr ?_
   refine w_mv (ev (.int .i64 ((k : Nat) : Int)) rfl rfl) ?_
   refine w_val (y_bin (ev (.int .i64 ((k : Nat) : Int)) rfl rfl) (evc (.int .i64 16)) b_lss) ?_
   refine nt ?_
   refine c_if (p := ((k : Nat) : Int) < 16) (ev (.bool (decide (((k : Nat) : Int) < 16))) rfl rfl) (fun hc6 => ?_) (fun hc6 => ?_)
   ·skip
    refine wp_seq ?_
    refine sr ?_
    refine w_mv (evc (.int .i64 0)) ?_
    refine nt ?_
    refine wp_block ?_
    refine c_loop (fun dN aN wl => ∃ (q : Nat), dN = (8 - q) ∧ ∃ f7, aN = fr 176 f7 ∧ (q ≤ 8) ∧ f7 0 = pt h 0 ∧ f7 2 = pt b_w 0 ∧ f7 3 = .int .i64 ((k : Nat) : Int) ∧ f7 14 = .int .i64 ((k : Nat) : Int) ∧ f7 19 = .int .i64 ((q : Nat) : Int) ∧ Row wl h 53 139 (Sha.hrow (.int .i64 kd) hh rr (.int .i64 ((n : Nat) : Int)) (U64 al)) ∧ Row wl b_w 97 80 (fun j => if j < k then (fun j => U64 (Sha.w false rr j)) j else (fun j => if j = k then U64 (Sha.bw (fun i => rr (8 * k + i)) q) else (fun j => U64 (0#64)) j) j) ∧ Sha.Tabs wl ∧ w0.grownBy wl (some h)) (8 - 0) ?_ ?_
    · exact ⟨0, rfl, _, rfl, iv, s1_0, s1_2, rfl, s1_14, (etv (b := .int .i64 0) rfl), r_h, (r_b_w.congr (fun j hj => by exact Sha.bytes_init rr k j)), hT, hk⟩
    ·skip
     clear r_h r_b_w hT hk
     rintro _ _ w8 ⟨q, rfl, f7, rfl, i2_0, s2_0, s2_2, s2_3, s2_14, s2_19, r_h, r_b_w, hT, hk⟩
     refine sr ?_
     refine w_val (y_bin (ev (.int .i64 ((q : Nat) : Int)) s2_19 rfl) (evc (.int .i64 8)) b_lss) ?_
     refine nt ?_
     refine wp_seq ?_
     refine c_if (p := ((q : Nat) : Int) < 8) (ev (.bool (decide (((q : Nat) : Int) < 8))) rfl rfl) (fun hc9 => ?_) (fun hc9 => ?_)
     ·skip
      refine wp_skip ?_
      refine then_n ?_
      refine wp_seq ?_
      refine wp_block ?_
      refine sr ?_
      refine w_mv (ev (.int .i64 ((q : Nat) : Int)) s2_19 rfl) ?_
      refine w_as (ev (.int .i64 ((q : Nat) : Int)) rfl rfl) ?_
      refine nt ?_
      refine region_t 17 ShaBT.mixed (by kernel_rfl) ?_
      simp only [List.take_succ_cons, List.take_zero, List.drop_succ_cons, List.drop_zero]
      refine q_mv (ev (.int .i64 ((k : Nat) : Int)) s2_3 rfl) ?_
      refine q_mv (ev (.int .i64 ((k : Nat) : Int)) s2_3 rfl) ?_
      refine q_val (fun w' hw' => y_ia1z (i := k) (ev (pt b_w 0) s2_2 rfl) (ev (.int .i64 ((k : Nat) : Int)) rfl rfl) Tryd.underlying97 ShaBT.sz39 (by omega) (by omega)) ?_
      refine q_val (v := U64 (Sha.bw (fun i => rr (8 * k + i)) q)) (fun w' hw' => y_ld (ev (pt b_w k) rfl rfl) ShaBT.sc39 (cls_cell (r_b_w.val (by omega) ((if_neg (by omega)).trans (if_pos rfl))) r_b_w.lt w' hw')) ?_
      refine q_val (fun w' hw' => y_bin (ev (U64 (Sha.bw (fun i => rr (8 * k + i)) q)) rfl rfl) (evc (.int .u64 8)) (shl64 (c := 8) rfl)) ?_
      refine q_mv (ev (pt h 0) s2_0 rfl) ?_
      refine q_mv (ev (.int .i64 ((k : Nat) : Int)) s2_3 rfl) ?_
      refine q_val (fun w' hw' => y_bin (evc (.int .i64 8)) (ev (.int .i64 ((k : Nat) : Int)) rfl rfl) (b_mul (by omega))) ?_
      refine q_mv (ev (.int .i64 ((q : Nat) : Int)) rfl rfl) ?_
      refine q_val (fun w' hw' => y_bin (ev (.int .i64 (8 * ((k : Nat) : Int))) rfl rfl) (ev (.int .i64 ((q : Nat) : Int)) rfl rfl) (b_add (by omega))) ?_
      refine q_val (fun w' hw' => y_nc (ev (pt h 0) rfl rfl)) ?_
      refine q_val (v := pt h 9) (fun w' hw' => y_off (y_fa (ev (pt h 0) rfl rfl) (ShaBT.fa53_2 _ _)) (by first | rfl | omega)) ?_
      refine q_val (v := pt h (9 + ((8 * k) + q))) (fun w' hw' => y_off (y_ia1 (i := ((8 * k) + q)) (ev (pt h 9) rfl rfl) (ev (.int .i64 ((8 * ((k : Nat) : Int)) + ((q : Nat) : Int))) rfl rfl) Tryd.underlying51 ShaBT.sz5 (by omega) (by omega)) (by first | rfl | omega)) ?_
      refine q_val (v := U8 (rr ((8 * k) + q))) (fun w' hw' => y_ld (ev (pt h (9 + ((8 * k) + q))) rfl rfl) ShaBT.sc5 (cls_cell (r_h.val (by omega) ((if_neg (by omega)).trans ((if_neg (by omega)).trans (etv (if_pos (by omega)))))) r_h.lt w' hw')) ?_
      refine q_val (fun w' hw' => y_u8_u64 (ev (U8 (rr ((8 * k) + q))) rfl rfl) ShaBT.so5 Tryd.underlying39) ?_
      refine q_val (fun w' hw' => y_bin (ev (U64 ((Sha.bw (fun i => rr (8 * k + i)) q) <<< 8)) rfl rfl) (ev (U64 ((rr ((8 * k) + q)).setWidth 64)) rfl rfl) or64) ?_
      refine q_val (fun w' hw' => y_ia1z (i := k) (ev (pt b_w 0) s2_2 rfl) (ev (.int .i64 ((k : Nat) : Int)) rfl rfl) Tryd.underlying97 ShaBT.sz39 (by omega) (by omega)) ?_
      refine q_nil ?_
      intro w10 hb11
      replace r_h := r_h.step hb11
      replace r_b_w := r_b_w.step hb11
      replace hk := grown_thenB hk hb11
      replace hT := Sha.Tabs.below hT hb11
      refine w_st (v := U64 (((Sha.bw (fun i => rr (8 * k + i)) q) <<< 8) ||| ((rr ((8 * k) + q)).setWidth 64))) (ev (pt b_w k) rfl rfl) (ev (U64 (((Sha.bw (fun i => rr (8 * k + i)) q) <<< 8) ||| ((rr ((8 * k) + q)).setWidth 64))) rfl rfl) rfl rfl ShaBT.sz39 r_b_w (by omega) ?_
      clear r_b_w; intro w12 r_b_w hg13 _
      replace r_h := r_h.stepG hg13 (by omega)
      replace hk := grown_thenG hk hg13 (by omega)
      replace hT := Sha.Tabs.grown hT hg13 (by omega) (by omega)
      refine wpList_nil ?_
      refine inb_n ?_
      refine then_n ?_
      refine wp_region_lit ?_
      refine w_val (y_bin (ev (.int .i64 ((q : Nat) : Int)) s2_19 rfl) (evc (.int .i64 1)) (b_add (by omega))) ?_
      refine w_mv (ev (.int .i64 (((q : Nat) : Int) + 1)) rfl rfl) ?_
      refine wpList_nil ?_
      exact then_n ⟨_, (by omega), q + 1, rfl, _, rfl, iv, s2_0, s2_2, s2_3, s2_14, (etv (b := .int .i64 (((q : Nat) : Int) + 1)) rfl), r_h, (r_b_w.congr (fun j hj => by exact Sha.bytes_step rr k q j)), hT, hk⟩
     ·skip
      refine wp_exit ?_
      refine then_x ?_
      refine then_x ?_
      refine inb_x ?_
      refine then_n ?_
      refine wp_exit ?_
      refine then_x ?_
      refine inb_x ?_
      refine then_n ?_
      refine wp_region_lit ?_
      refine w_val (y_bin (ev (.int .i64 ((k : Nat) : Int)) s2_14 rfl) (evc (.int .i64 1)) (b_add (by omega))) ?_
      refine w_mv (ev (.int .i64 (((k : Nat) : Int) + 1)) rfl rfl) ?_
      refine wpList_nil ?_
      exact then_n ⟨_, (by omega), k + 1, rfl, _, rfl, iv, s2_0, s2_2, (etv (b := .int .i64 (((k : Nat) : Int) + 1)) rfl), r_h, (r_b_w.congr (fun j hj => by first | ((try dsimp only); by_cases e : j = k; (rw [if_pos e, if_pos (by omega), e]; exact congrArg U64 (by first | exact (Sha.w64_hi rr k (by omega)).symm)); (rw [if_neg e]; by_cases e2 : j < k; (rw [if_pos e2, if_pos (by omega)]); (rw [if_neg e2, if_neg (by omega)]))) | exact Sha.bytes_done rr k j (by omega) (by omega))), hT, hk⟩
   ·skip
    refine wp_skip ?_
    refine then_n ?_
    refine wp_seq ?_
    refine region_q ShaBT.mixed (by kernel_rfl) ?_
    refine q_mv (ev (.int .i64 ((k : Nat) : Int)) rfl rfl) ?_
    refine q_val (fun w' hw' => y_bin (ev (.int .i64 ((k : Nat) : Int)) rfl rfl) (evc (.int .i64 15)) (b_sub (by omega))) ?_
    refine q_val (fun w' hw' => y_ia1z (i := (k - 15)) (ev (pt b_w 0) s1_2 rfl) (ev (.int .i64 (((k : Nat) : Int) - 15)) rfl rfl) Tryd.underlying97 ShaBT.sz39 (by omega) (by omega)) ?_
    refine q_val (v := U64 (Sha.w false rr (k - 15))) (fun w' hw' => y_ld (ev (pt b_w (k - 15)) rfl rfl) ShaBT.sc39 (cls_cell (r_b_w.val (by omega) ((if_pos (by omega)).trans rfl)) r_b_w.lt w' hw')) ?_
    refine q_mv (ev (.int .i64 ((k : Nat) : Int)) rfl rfl) ?_
    refine q_val (fun w' hw' => y_bin (ev (.int .i64 ((k : Nat) : Int)) rfl rfl) (evc (.int .i64 2)) (b_sub (by omega))) ?_
    refine q_val (fun w' hw' => y_ia1z (i := (k - 2)) (ev (pt b_w 0) s1_2 rfl) (ev (.int .i64 (((k : Nat) : Int) - 2)) rfl rfl) Tryd.underlying97 ShaBT.sz39 (by omega) (by omega)) ?_
    refine q_val (v := U64 (Sha.w false rr (k - 2))) (fun w' hw' => y_ld (ev (pt b_w (k - 2)) rfl rfl) ShaBT.sc39 (cls_cell (r_b_w.val (by omega) ((if_pos (by omega)).trans rfl)) r_b_w.lt w' hw')) ?_
    refine q_as (ev (U64 (Sha.w false rr (k - 15))) rfl rfl) ?_
    refine q_as (ev (U64 (Sha.w false rr (k - 2))) rfl rfl) ?_
    refine q_nil ?_
    intro w14 hb15
    replace r_h := r_h.step hb15
    replace r_b_w := r_b_w.step hb15
    replace hk := grown_thenB hk hb15
    replace hT := Sha.Tabs.below hT hb15
    refine then_n ?_
    refine region_t 29 ShaBT.mixed (by kernel_rfl) ?_
    simp only [List.take_succ_cons, List.take_zero, List.drop_succ_cons, List.drop_zero]
    refine q_mv (ev (.int .i64 ((k : Nat) : Int)) rfl rfl) ?_
    refine q_mv (ev (.int .i64 ((k : Nat) : Int)) rfl rfl) ?_
    refine q_val (fun w' hw' => y_bin (ev (.int .i64 ((k : Nat) : Int)) rfl rfl) (evc (.int .i64 16)) (b_sub (by omega))) ?_
    refine q_val (fun w' hw' => y_ia1z (i := (k - 16)) (ev (pt b_w 0) s1_2 rfl) (ev (.int .i64 (((k : Nat) : Int) - 16)) rfl rfl) Tryd.underlying97 ShaBT.sz39 (by omega) (by omega)) ?_
    refine q_val (v := U64 (Sha.w false rr (k - 16))) (fun w' hw' => y_ld (ev (pt b_w (k - 16)) rfl rfl) ShaBT.sc39 (cls_cell (r_b_w.val (by omega) ((if_pos (by omega)).trans rfl)) r_b_w.lt w' hw')) ?_
    refine q_mv (ev (U64 (Sha.w false rr (k - 15))) rfl rfl) ?_
    refine q_call (v := U64 (Sha.rl64 (Sha.w false rr (k - 15)) (-1))) (Tryd.func57) (by kernel_rfl) rfl (m2 (ev (U64 (Sha.w false rr (k - 15))) rfl rfl) (evc (.int .i64 (-1)))) (fun w' hw' => rotl64_c (Sha.w false rr (k - 15)) (-1) w') ?_
    refine q_mv (ev (U64 (Sha.w false rr (k - 15))) rfl rfl) ?_
    refine q_call (v := U64 (Sha.rl64 (Sha.w false rr (k - 15)) (-8))) (Tryd.func57) (by kernel_rfl) rfl (m2 (ev (U64 (Sha.w false rr (k - 15))) rfl rfl) (evc (.int .i64 (-8)))) (fun w' hw' => rotl64_c (Sha.w false rr (k - 15)) (-8) w') ?_
    refine q_val (fun w' hw' => y_bin (ev (U64 (Sha.rl64 (Sha.w false rr (k - 15)) (-1))) rfl rfl) (ev (U64 (Sha.rl64 (Sha.w false rr (k - 15)) (-8))) rfl rfl) xor64) ?_
    refine q_mv (ev (U64 (Sha.w false rr (k - 15))) rfl rfl) ?_
    refine q_val (fun w' hw' => y_bin (ev (U64 (Sha.w false rr (k - 15))) rfl rfl) (evc (.int .u64 7)) (shr64 (c := 7) rfl)) ?_
    refine q_val (fun w' hw' => y_bin (ev (U64 ((Sha.rl64 (Sha.w false rr (k - 15)) (-1)) ^^^ (Sha.rl64 (Sha.w false rr (k - 15)) (-8)))) rfl rfl) (ev (U64 ((Sha.w false rr (k - 15)) >>> 7)) rfl rfl) xor64) ?_
    refine q_val (fun w' hw' => y_bin (ev (U64 (Sha.w false rr (k - 16))) rfl rfl) (ev (U64 (((Sha.rl64 (Sha.w false rr (k - 15)) (-1)) ^^^ (Sha.rl64 (Sha.w false rr (k - 15)) (-8))) ^^^ ((Sha.w false rr (k - 15)) >>> 7))) rfl rfl) add64) ?_
    refine q_mv (ev (.int .i64 ((k : Nat) : Int)) rfl rfl) ?_
    refine q_val (fun w' hw' => y_bin (ev (.int .i64 ((k : Nat) : Int)) rfl rfl) (evc (.int .i64 7)) (b_sub (by omega))) ?_
    refine q_val (fun w' hw' => y_ia1z (i := (k - 7)) (ev (pt b_w 0) s1_2 rfl) (ev (.int .i64 (((k : Nat) : Int) - 7)) rfl rfl) Tryd.underlying97 ShaBT.sz39 (by omega) (by omega)) ?_
    refine q_val (v := U64 (Sha.w false rr (k - 7))) (fun w' hw' => y_ld (ev (pt b_w (k - 7)) rfl rfl) ShaBT.sc39 (cls_cell (r_b_w.val (by omega) ((if_pos (by omega)).trans rfl)) r_b_w.lt w' hw')) ?_
    refine q_val (fun w' hw' => y_bin (ev (U64 ((Sha.w false rr (k - 16)) + (((Sha.rl64 (Sha.w false rr (k - 15)) (-1)) ^^^ (Sha.rl64 (Sha.w false rr (k - 15)) (-8))) ^^^ ((Sha.w false rr (k - 15)) >>> 7)))) rfl rfl) (ev (U64 (Sha.w false rr (k - 7))) rfl rfl) add64) ?_
    refine q_mv (ev (U64 (Sha.w false rr (k - 2))) rfl rfl) ?_
    refine q_call (v := U64 (Sha.rl64 (Sha.w false rr (k - 2)) (-19))) (Tryd.func57) (by kernel_rfl) rfl (m2 (ev (U64 (Sha.w false rr (k - 2))) rfl rfl) (evc (.int .i64 (-19)))) (fun w' hw' => rotl64_c (Sha.w false rr (k - 2)) (-19) w') ?_
    refine q_mv (ev (U64 (Sha.w false rr (k - 2))) rfl rfl) ?_
    refine q_call (v := U64 (Sha.rl64 (Sha.w false rr (k - 2)) (-61))) (Tryd.func57) (by kernel_rfl) rfl (m2 (ev (U64 (Sha.w false rr (k - 2))) rfl rfl) (evc (.int .i64 (-61)))) (fun w' hw' => rotl64_c (Sha.w false rr (k - 2)) (-61) w') ?_
    refine q_val (fun w' hw' => y_bin (ev (U64 (Sha.rl64 (Sha.w false rr (k - 2)) (-19))) rfl rfl) (ev (U64 (Sha.rl64 (Sha.w false rr (k - 2)) (-61))) rfl rfl) xor64) ?_
    refine q_mv (ev (U64 (Sha.w false rr (k - 2))) rfl rfl) ?_
    refine q_val (fun w' hw' => y_bin (ev (U64 (Sha.w false rr (k - 2))) rfl rfl) (evc (.int .u64 6)) (shr64 (c := 6) rfl)) ?_
    refine q_val (fun w' hw' => y_bin (ev (U64 ((Sha.rl64 (Sha.w false rr (k - 2)) (-19)) ^^^ (Sha.rl64 (Sha.w false rr (k - 2)) (-61)))) rfl rfl) (ev (U64 ((Sha.w false rr (k - 2)) >>> 6)) rfl rfl) xor64) ?_
    refine q_val (fun w' hw' => y_bin (ev (U64 (((Sha.w false rr (k - 16)) + (((Sha.rl64 (Sha.w false rr (k - 15)) (-1)) ^^^ (Sha.rl64 (Sha.w false rr (k - 15)) (-8))) ^^^ ((Sha.w false rr (k - 15)) >>> 7))) + (Sha.w false rr (k - 7)))) rfl rfl) (ev (U64 (((Sha.rl64 (Sha.w false rr (k - 2)) (-19)) ^^^ (Sha.rl64 (Sha.w false rr (k - 2)) (-61))) ^^^ ((Sha.w false rr (k - 2)) >>> 6))) rfl rfl) add64) ?_
    refine q_val (fun w' hw' => y_ia1z (i := k) (ev (pt b_w 0) s1_2 rfl) (ev (.int .i64 ((k : Nat) : Int)) rfl rfl) Tryd.underlying97 ShaBT.sz39 (by omega) (by omega)) ?_
    refine q_nil ?_
    intro w16 hb17
    replace r_h := r_h.step hb17
    replace r_b_w := r_b_w.step hb17
    replace hk := grown_thenB hk hb17
    replace hT := Sha.Tabs.below hT hb17
    refine w_st (v := U64 ((((Sha.w false rr (k - 16)) + (((Sha.rl64 (Sha.w false rr (k - 15)) (-1)) ^^^ (Sha.rl64 (Sha.w false rr (k - 15)) (-8))) ^^^ ((Sha.w false rr (k - 15)) >>> 7))) + (Sha.w false rr (k - 7))) + (((Sha.rl64 (Sha.w false rr (k - 2)) (-19)) ^^^ (Sha.rl64 (Sha.w false rr (k - 2)) (-61))) ^^^ ((Sha.w false rr (k - 2)) >>> 6)))) (ev (pt b_w k) rfl rfl) (ev (U64 ((((Sha.w false rr (k - 16)) + (((Sha.rl64 (Sha.w false rr (k - 15)) (-1)) ^^^ (Sha.rl64 (Sha.w false rr (k - 15)) (-8))) ^^^ ((Sha.w false rr (k - 15)) >>> 7))) + (Sha.w false rr (k - 7))) + (((Sha.rl64 (Sha.w false rr (k - 2)) (-19)) ^^^ (Sha.rl64 (Sha.w false rr (k - 2)) (-61))) ^^^ ((Sha.w false rr (k - 2)) >>> 6)))) rfl rfl) rfl rfl ShaBT.sz39 r_b_w (by omega) ?_
    clear r_b_w; intro w18 r_b_w hg19 _
    replace r_h := r_h.stepG hg19 (by omega)
    replace hk := grown_thenG hk hg19 (by omega)
    replace hT := Sha.Tabs.grown hT hg19 (by omega) (by omega)
    refine wpList_nil ?_
    refine inb_n ?_
    refine then_n ?_
    refine wp_region_lit ?_
    refine w_val (y_bin (ev (.int .i64 ((k : Nat) : Int)) s1_14 rfl) (evc (.int .i64 1)) (b_add (by omega))) ?_
    refine w_mv (ev (.int .i64 (((k : Nat) : Int) + 1)) rfl rfl) ?_
    refine wpList_nil ?_
    exact then_n ⟨_, (by omega), k + 1, rfl, _, rfl, iv, s1_0, s1_2, (etv (b := .int .i64 (((k : Nat) : Int) + 1)) rfl), r_h, (r_b_w.congr (fun j hj => by first | ((try dsimp only); by_cases e : j = k; (rw [if_pos e, if_pos (by omega), e]; exact congrArg U64 (by first | exact (Sha.w64_hi rr k (by omega)).symm)); (rw [if_neg e]; by_cases e2 : j < k; (rw [if_pos e2, if_pos (by omega)]); (rw [if_neg e2, if_neg (by omega)]))) | exact Sha.bytes_done rr k j (by omega) (by omega))), hT, hk⟩
  ·skip
   refine wp_exit ?_
   refine then_x ?_
   replace r_b_w := r_b_w.congr (g := fun j => U64 (Sha.w false rr j)) (fun j hj => by (try dsimp only); rw [if_pos (by omega)])
   refine then_x ?_
   refine inb_x ?_
   refine then_n ?_
   refine sr ?_
   refine w_mv (ev (pt h 0) s1_0 rfl) ?_
   refine w_val (y_nc (ev (pt h 0) rfl rfl)) ?_
   refine w_val (v := pt h 1) (y_off (y_fa (ev (pt h 0) rfl rfl) (ShaBT.fa53_1 _ _)) (by first | rfl | omega)) ?_
   refine w_val (v := .agg (arr 8 (fun j => U64 (hh j)))) (y_lda (ev (pt h 1) rfl rfl) ShaBT.ag40 ShaBT.sz40 (fun j hj => (r_h.val (by omega) (by first | with_reducible rfl | exact ((if_neg (by omega)).trans (etv (if_pos (by omega)))))))) ?_
   refine w_alloc (m := 8) (F := fun j => U64 (0#64)) (by kernel_rfl) ?_
   intro b_v w20 hbe_b_v r_b_v hb21
   have ne_h_b_v : h ≠ b_v := by have := r_h.lt; omega
   have ne_b_w_b_v : b_w ≠ b_v := by have := r_b_w.lt; omega
   have ge_b_v : w0.heap.size ≤ b_v := by have := hk.size; omega
   clear hbe_b_v
   replace r_h := r_h.step hb21
   replace r_b_w := r_b_w.step hb21
   replace hk := grown_thenB hk hb21
   replace hT := Sha.Tabs.below hT hb21
   refine w_sta (k := 8) (G := fun j => U64 (hh j)) (ev (pt b_v 0) rfl rfl) (ev (.agg (arr 8 (fun j => U64 (hh j)))) rfl rfl) oc ShaBT.sz40 r_b_v (by omega) ?_
   clear r_b_v; intro w22 r_b_v hg23 _
   replace r_b_v := r_b_v.congr (g := fun j => U64 (hh j)) (fun j hj => by rw [if_pos ⟨Nat.zero_le _, by omega⟩]; first | rfl | (simp only [Nat.sub_zero]))
   replace r_h := r_h.stepG hg23 (by omega)
   replace r_b_w := r_b_w.stepG hg23 (by omega)
   replace hk := grown_thenG hk hg23 (by omega)
   replace hT := Sha.Tabs.grown hT hg23 (by omega) (by omega)
   refine nt ?_
   refine wp_seq ?_
   refine sr ?_
   refine w_mv (evc (.int .i64 0)) ?_
   refine nt ?_
   refine wp_block ?_
   refine c_loop (fun dN aN wl => ∃ (i : Nat), dN = (80 - i) ∧ ∃ f24, aN = fr 176 f24 ∧ (i ≤ 80) ∧ f24 0 = pt h 0 ∧ f24 2 = pt b_w 0 ∧ f24 7 = pt b_v 0 ∧ f24 14 = .int .i64 ((k : Nat) : Int) ∧ f24 82 = .int .i64 ((i : Nat) : Int) ∧ Row wl h 53 139 (Sha.hrow (.int .i64 kd) hh rr (.int .i64 ((n : Nat) : Int)) (U64 al)) ∧ Row wl b_w 97 80 (fun j => U64 (Sha.w false rr j)) ∧ Row wl b_v 40 8 (fun j => U64 (Sha.vs false rr hh i j)) ∧ Sha.Tabs wl ∧ w0.grownBy wl (some h)) (80 - 0) ?_ ?_
   · exact ⟨0, rfl, _, rfl, iv, s1_0, s1_2, rfl, s1_14, (etv (b := .int .i64 0) rfl), r_h, r_b_w, (r_b_v.congr (fun j hj => by (try dsimp only); first | rfl | exact Sha.words_of _ _ _ _ _ j hj)), hT, hk⟩
   ·skip
    clear r_h r_b_w r_b_v hT hk
    rintro _ _ w25 ⟨i, rfl, f24, rfl, i3_0, s3_0, s3_2, s3_7, s3_14, s3_82, r_h, r_b_w, r_b_v, hT, hk⟩
    refine sr ?_
    refine w_val (y_bin (ev (.int .i64 ((i : Nat) : Int)) s3_82 rfl) (evc (.int .i64 80)) b_lss) ?_
    refine nt ?_
    refine wp_seq ?_
    refine c_if (p := ((i : Nat) : Int) < 80) (ev (.bool (decide (((i : Nat) : Int) < 80))) rfl rfl) (fun hc26 => ?_) (fun hc26 => ?_)
    ·skip
     refine wp_skip ?_
     refine then_n ?_
     refine wp_seq ?_
     refine wp_block ?_
     refine sr ?_
     refine w_mv (ev (.int .i64 ((i : Nat) : Int)) s3_82 rfl) ?_
     refine w_as (ev (.int .i64 ((i : Nat) : Int)) rfl rfl) ?_
     refine nt ?_
     refine wp_seq ?_
     refine region_q ShaBT.mixed (by kernel_rfl) ?_
     refine q_val (fun w' hw' => y_ia1z (i := 4) (ev (pt b_v 0) s3_7 rfl) (evc (.int .i64 4)) Tryd.underlying40 ShaBT.sz39 (by omega) (by omega)) ?_
     refine q_val (v := U64 (Sha.vs false rr hh i 4)) (fun w' hw' => y_ld (ev (pt b_v 4) rfl rfl) ShaBT.sc39 (cls_cell (r_b_v.val (by omega) rfl) r_b_v.lt w' hw')) ?_
     refine q_val (fun w' hw' => y_ia1z (i := 0) (ev (pt b_v 0) s3_7 rfl) (evc (.int .i64 0)) Tryd.underlying40 ShaBT.sz39 (by omega) (by omega)) ?_
     refine q_val (v := U64 (Sha.vs false rr hh i 0)) (fun w' hw' => y_ld (ev (pt b_v 0) rfl rfl) ShaBT.sc39 (cls_cell (r_b_v.val (by omega) rfl) r_b_v.lt w' hw')) ?_
     refine q_as (ev (U64 (Sha.vs false rr hh i 4)) rfl rfl) ?_
     refine q_as (ev (U64 (Sha.vs false rr hh i 0)) rfl rfl) ?_
     refine q_nil ?_
     intro w27 hb28
     replace r_h := r_h.step hb28
     replace r_b_w := r_b_w.step hb28
     replace r_b_v := r_b_v.step hb28
     replace hk := grown_thenB hk hb28
     replace hT := Sha.Tabs.below hT hb28
     refine then_n ?_
     refine wp_seq ?_
     refine region_q ShaBT.mixed (by kernel_rfl) ?_
     refine q_val (fun w' hw' => y_ia1z (i := 7) (ev (pt b_v 0) s3_7 rfl) (evc (.int .i64 7)) Tryd.underlying40 ShaBT.sz39 (by omega) (by omega)) ?_
     refine q_val (v := U64 (Sha.vs false rr hh i 7)) (fun w' hw' => y_ld (ev (pt b_v 7) rfl rfl) ShaBT.sc39 (cls_cell (r_b_v.val (by omega) rfl) r_b_v.lt w' hw')) ?_
     refine q_mv (ev (U64 (Sha.vs false rr hh i 4)) rfl rfl) ?_
     refine q_call (v := U64 (Sha.rl64 (Sha.vs false rr hh i 4) (-14))) (Tryd.func57) (by kernel_rfl) rfl (m2 (ev (U64 (Sha.vs false rr hh i 4)) rfl rfl) (evc (.int .i64 (-14)))) (fun w' hw' => rotl64_c (Sha.vs false rr hh i 4) (-14) w') ?_
     refine q_mv (ev (U64 (Sha.vs false rr hh i 4)) rfl rfl) ?_
     refine q_call (v := U64 (Sha.rl64 (Sha.vs false rr hh i 4) (-18))) (Tryd.func57) (by kernel_rfl) rfl (m2 (ev (U64 (Sha.vs false rr hh i 4)) rfl rfl) (evc (.int .i64 (-18)))) (fun w' hw' => rotl64_c (Sha.vs false rr hh i 4) (-18) w') ?_
     refine q_val (fun w' hw' => y_bin (ev (U64 (Sha.rl64 (Sha.vs false rr hh i 4) (-14))) rfl rfl) (ev (U64 (Sha.rl64 (Sha.vs false rr hh i 4) (-18))) rfl rfl) xor64) ?_
     refine q_mv (ev (U64 (Sha.vs false rr hh i 4)) rfl rfl) ?_
     refine q_call (v := U64 (Sha.rl64 (Sha.vs false rr hh i 4) (-41))) (Tryd.func57) (by kernel_rfl) rfl (m2 (ev (U64 (Sha.vs false rr hh i 4)) rfl rfl) (evc (.int .i64 (-41)))) (fun w' hw' => rotl64_c (Sha.vs false rr hh i 4) (-41) w') ?_
     refine q_val (fun w' hw' => y_bin (ev (U64 ((Sha.rl64 (Sha.vs false rr hh i 4) (-14)) ^^^ (Sha.rl64 (Sha.vs false rr hh i 4) (-18)))) rfl rfl) (ev (U64 (Sha.rl64 (Sha.vs false rr hh i 4) (-41))) rfl rfl) xor64) ?_
     refine q_val (fun w' hw' => y_bin (ev (U64 (Sha.vs false rr hh i 7)) rfl rfl) (ev (U64 (((Sha.rl64 (Sha.vs false rr hh i 4) (-14)) ^^^ (Sha.rl64 (Sha.vs false rr hh i 4) (-18))) ^^^ (Sha.rl64 (Sha.vs false rr hh i 4) (-41)))) rfl rfl) add64) ?_
     refine q_val (fun w' hw' => y_ia1z (i := 6) (ev (pt b_v 0) s3_7 rfl) (evc (.int .i64 6)) Tryd.underlying40 ShaBT.sz39 (by omega) (by omega)) ?_
     refine q_val (v := U64 (Sha.vs false rr hh i 6)) (fun w' hw' => y_ld (ev (pt b_v 6) rfl rfl) ShaBT.sc39 (cls_cell (r_b_v.val (by omega) rfl) r_b_v.lt w' hw')) ?_
     refine q_mv (ev (U64 (Sha.vs false rr hh i 4)) rfl rfl) ?_
     refine q_val (fun w' hw' => y_ia1z (i := 5) (ev (pt b_v 0) s3_7 rfl) (evc (.int .i64 5)) Tryd.underlying40 ShaBT.sz39 (by omega) (by omega)) ?_
     refine q_val (v := U64 (Sha.vs false rr hh i 5)) (fun w' hw' => y_ld (ev (pt b_v 5) rfl rfl) ShaBT.sc39 (cls_cell (r_b_v.val (by omega) rfl) r_b_v.lt w' hw')) ?_
     refine q_val (fun w' hw' => y_ia1z (i := 6) (ev (pt b_v 0) s3_7 rfl) (evc (.int .i64 6)) Tryd.underlying40 ShaBT.sz39 (by omega) (by omega)) ?_
     refine q_val (v := U64 (Sha.vs false rr hh i 6)) (fun w' hw' => y_ld (ev (pt b_v 6) rfl rfl) ShaBT.sc39 (cls_cell (r_b_v.val (by omega) rfl) r_b_v.lt w' hw')) ?_
     refine q_val (fun w' hw' => y_bin (ev (U64 (Sha.vs false rr hh i 5)) rfl rfl) (ev (U64 (Sha.vs false rr hh i 6)) rfl rfl) xor64) ?_
     refine q_val (fun w' hw' => y_bin (ev (U64 (Sha.vs false rr hh i 4)) rfl rfl) (ev (U64 ((Sha.vs false rr hh i 5) ^^^ (Sha.vs false rr hh i 6))) rfl rfl) and64) ?_
     refine q_val (fun w' hw' => y_bin (ev (U64 (Sha.vs false rr hh i 6)) rfl rfl) (ev (U64 ((Sha.vs false rr hh i 4) &&& ((Sha.vs false rr hh i 5) ^^^ (Sha.vs false rr hh i 6)))) rfl rfl) xor64) ?_
     refine q_val (fun w' hw' => y_bin (ev (U64 ((Sha.vs false rr hh i 7) + (((Sha.rl64 (Sha.vs false rr hh i 4) (-14)) ^^^ (Sha.rl64 (Sha.vs false rr hh i 4) (-18))) ^^^ (Sha.rl64 (Sha.vs false rr hh i 4) (-41))))) rfl rfl) (ev (U64 ((Sha.vs false rr hh i 6) ^^^ ((Sha.vs false rr hh i 4) &&& ((Sha.vs false rr hh i 5) ^^^ (Sha.vs false rr hh i 6))))) rfl rfl) add64) ?_
     refine q_mv (ev (.int .i64 ((i : Nat) : Int)) rfl rfl) ?_
     refine q_val (fun w' hw' => y_ia1z (i := i) Ev.g (ev (.int .i64 ((i : Nat) : Int)) rfl rfl) Tryd.underlying97 ShaBT.sz39 (by omega) (by omega)) ?_
     refine q_val (v := U64 (Sha.K false i)) (fun w' hw' => y_ld (ev (pt 1 i) rfl rfl) ShaBT.sc39 ((Sha.Tabs.below hT hw').great (by omega))) ?_
     refine q_val (fun w' hw' => y_bin (ev (U64 (((Sha.vs false rr hh i 7) + (((Sha.rl64 (Sha.vs false rr hh i 4) (-14)) ^^^ (Sha.rl64 (Sha.vs false rr hh i 4) (-18))) ^^^ (Sha.rl64 (Sha.vs false rr hh i 4) (-41)))) + ((Sha.vs false rr hh i 6) ^^^ ((Sha.vs false rr hh i 4) &&& ((Sha.vs false rr hh i 5) ^^^ (Sha.vs false rr hh i 6)))))) rfl rfl) (ev (U64 (Sha.K false i)) rfl rfl) add64) ?_
     refine q_mv (ev (.int .i64 ((i : Nat) : Int)) rfl rfl) ?_
     refine q_val (fun w' hw' => y_ia1z (i := i) (ev (pt b_w 0) s3_2 rfl) (ev (.int .i64 ((i : Nat) : Int)) rfl rfl) Tryd.underlying97 ShaBT.sz39 (by omega) (by omega)) ?_
     refine q_val (v := U64 (Sha.w false rr i)) (fun w' hw' => y_ld (ev (pt b_w i) rfl rfl) ShaBT.sc39 (cls_cell (r_b_w.val (by omega) rfl) r_b_w.lt w' hw')) ?_
     refine q_val (fun w' hw' => y_bin (ev (U64 ((((Sha.vs false rr hh i 7) + (((Sha.rl64 (Sha.vs false rr hh i 4) (-14)) ^^^ (Sha.rl64 (Sha.vs false rr hh i 4) (-18))) ^^^ (Sha.rl64 (Sha.vs false rr hh i 4) (-41)))) + ((Sha.vs false rr hh i 6) ^^^ ((Sha.vs false rr hh i 4) &&& ((Sha.vs false rr hh i 5) ^^^ (Sha.vs false rr hh i 6))))) + (Sha.K false i))) rfl rfl) (ev (U64 (Sha.w false rr i)) rfl rfl) add64) ?_
     refine q_as (ev (U64 (((((Sha.vs false rr hh i 7) + (((Sha.rl64 (Sha.vs false rr hh i 4) (-14)) ^^^ (Sha.rl64 (Sha.vs false rr hh i 4) (-18))) ^^^ (Sha.rl64 (Sha.vs false rr hh i 4) (-41)))) + ((Sha.vs false rr hh i 6) ^^^ ((Sha.vs false rr hh i 4) &&& ((Sha.vs false rr hh i 5) ^^^ (Sha.vs false rr hh i 6))))) + (Sha.K false i)) + (Sha.w false rr i))) rfl rfl) ?_
     refine q_nil ?_
     intro w29 hb30
     replace r_h := r_h.step hb30
     replace r_b_w := r_b_w.step hb30
     replace r_b_v := r_b_v.step hb30
     replace hk := grown_thenB hk hb30
     replace hT := Sha.Tabs.below hT hb30
     refine then_n ?_
     refine wp_seq ?_
     refine region_q ShaBT.mixed (by kernel_rfl) ?_
     refine q_mv (ev (U64 (Sha.vs false rr hh i 0)) rfl rfl) ?_
     refine q_call (v := U64 (Sha.rl64 (Sha.vs false rr hh i 0) (-28))) (Tryd.func57) (by kernel_rfl) rfl (m2 (ev (U64 (Sha.vs false rr hh i 0)) rfl rfl) (evc (.int .i64 (-28)))) (fun w' hw' => rotl64_c (Sha.vs false rr hh i 0) (-28) w') ?_
     refine q_mv (ev (U64 (Sha.vs false rr hh i 0)) rfl rfl) ?_
     refine q_call (v := U64 (Sha.rl64 (Sha.vs false rr hh i 0) (-34))) (Tryd.func57) (by kernel_rfl) rfl (m2 (ev (U64 (Sha.vs false rr hh i 0)) rfl rfl) (evc (.int .i64 (-34)))) (fun w' hw' => rotl64_c (Sha.vs false rr hh i 0) (-34) w') ?_
     refine q_val (fun w' hw' => y_bin (ev (U64 (Sha.rl64 (Sha.vs false rr hh i 0) (-28))) rfl rfl) (ev (U64 (Sha.rl64 (Sha.vs false rr hh i 0) (-34))) rfl rfl) xor64) ?_
     refine q_mv (ev (U64 (Sha.vs false rr hh i 0)) rfl rfl) ?_
     refine q_call (v := U64 (Sha.rl64 (Sha.vs false rr hh i 0) (-39))) (Tryd.func57) (by kernel_rfl) rfl (m2 (ev (U64 (Sha.vs false rr hh i 0)) rfl rfl) (evc (.int .i64 (-39)))) (fun w' hw' => rotl64_c (Sha.vs false rr hh i 0) (-39) w') ?_
     refine q_val (fun w' hw' => y_bin (ev (U64 ((Sha.rl64 (Sha.vs false rr hh i 0) (-28)) ^^^ (Sha.rl64 (Sha.vs false rr hh i 0) (-34)))) rfl rfl) (ev (U64 (Sha.rl64 (Sha.vs false rr hh i 0) (-39))) rfl rfl) xor64) ?_
     refine q_mv (ev (U64 (Sha.vs false rr hh i 0)) rfl rfl) ?_
     refine q_val (fun w' hw' => y_ia1z (i := 1) (ev (pt b_v 0) s3_7 rfl) (evc (.int .i64 1)) Tryd.underlying40 ShaBT.sz39 (by omega) (by omega)) ?_
     refine q_val (v := U64 (Sha.vs false rr hh i 1)) (fun w' hw' => y_ld (ev (pt b_v 1) rfl rfl) ShaBT.sc39 (cls_cell (r_b_v.val (by omega) rfl) r_b_v.lt w' hw')) ?_
     refine q_val (fun w' hw' => y_bin (ev (U64 (Sha.vs false rr hh i 0)) rfl rfl) (ev (U64 (Sha.vs false rr hh i 1)) rfl rfl) and64) ?_
     refine q_val (fun w' hw' => y_ia1z (i := 2) (ev (pt b_v 0) s3_7 rfl) (evc (.int .i64 2)) Tryd.underlying40 ShaBT.sz39 (by omega) (by omega)) ?_
     refine q_val (v := U64 (Sha.vs false rr hh i 2)) (fun w' hw' => y_ld (ev (pt b_v 2) rfl rfl) ShaBT.sc39 (cls_cell (r_b_v.val (by omega) rfl) r_b_v.lt w' hw')) ?_
     refine q_mv (ev (U64 (Sha.vs false rr hh i 0)) rfl rfl) ?_
     refine q_val (fun w' hw' => y_ia1z (i := 1) (ev (pt b_v 0) s3_7 rfl) (evc (.int .i64 1)) Tryd.underlying40 ShaBT.sz39 (by omega) (by omega)) ?_
     refine q_val (v := U64 (Sha.vs false rr hh i 1)) (fun w' hw' => y_ld (ev (pt b_v 1) rfl rfl) ShaBT.sc39 (cls_cell (r_b_v.val (by omega) rfl) r_b_v.lt w' hw')) ?_
     refine q_val (fun w' hw' => y_bin (ev (U64 (Sha.vs false rr hh i 0)) rfl rfl) (ev (U64 (Sha.vs false rr hh i 1)) rfl rfl) or64) ?_
     refine q_val (fun w' hw' => y_bin (ev (U64 (Sha.vs false rr hh i 2)) rfl rfl) (ev (U64 ((Sha.vs false rr hh i 0) ||| (Sha.vs false rr hh i 1))) rfl rfl) and64) ?_
     refine q_val (fun w' hw' => y_bin (ev (U64 ((Sha.vs false rr hh i 0) &&& (Sha.vs false rr hh i 1))) rfl rfl) (ev (U64 ((Sha.vs false rr hh i 2) &&& ((Sha.vs false rr hh i 0) ||| (Sha.vs false rr hh i 1)))) rfl rfl) or64) ?_
     refine q_val (fun w' hw' => y_bin (ev (U64 (((Sha.rl64 (Sha.vs false rr hh i 0) (-28)) ^^^ (Sha.rl64 (Sha.vs false rr hh i 0) (-34))) ^^^ (Sha.rl64 (Sha.vs false rr hh i 0) (-39)))) rfl rfl) (ev (U64 (((Sha.vs false rr hh i 0) &&& (Sha.vs false rr hh i 1)) ||| ((Sha.vs false rr hh i 2) &&& ((Sha.vs false rr hh i 0) ||| (Sha.vs false rr hh i 1))))) rfl rfl) add64) ?_
     refine q_as (ev (U64 ((((Sha.rl64 (Sha.vs false rr hh i 0) (-28)) ^^^ (Sha.rl64 (Sha.vs false rr hh i 0) (-34))) ^^^ (Sha.rl64 (Sha.vs false rr hh i 0) (-39))) + (((Sha.vs false rr hh i 0) &&& (Sha.vs false rr hh i 1)) ||| ((Sha.vs false rr hh i 2) &&& ((Sha.vs false rr hh i 0) ||| (Sha.vs false rr hh i 1)))))) rfl rfl) ?_
     refine q_nil ?_
     intro w31 hb32
     replace r_h := r_h.step hb32
     replace r_b_w := r_b_w.step hb32
     replace r_b_v := r_b_v.step hb32
     replace hk := grown_thenB hk hb32
     replace hT := Sha.Tabs.below hT hb32
     refine then_n ?_
     refine wp_region_lit ?_
     refine w_mv (ev (U64 (((((Sha.vs false rr hh i 7) + (((Sha.rl64 (Sha.vs false rr hh i 4) (-14)) ^^^ (Sha.rl64 (Sha.vs false rr hh i 4) (-18))) ^^^ (Sha.rl64 (Sha.vs false rr hh i 4) (-41)))) + ((Sha.vs false rr hh i 6) ^^^ ((Sha.vs false rr hh i 4) &&& ((Sha.vs false rr hh i 5) ^^^ (Sha.vs false rr hh i 6))))) + (Sha.K false i)) + (Sha.w false rr i))) rfl rfl) ?_
     refine w_mv (ev (U64 ((((Sha.rl64 (Sha.vs false rr hh i 0) (-28)) ^^^ (Sha.rl64 (Sha.vs false rr hh i 0) (-34))) ^^^ (Sha.rl64 (Sha.vs false rr hh i 0) (-39))) + (((Sha.vs false rr hh i 0) &&& (Sha.vs false rr hh i 1)) ||| ((Sha.vs false rr hh i 2) &&& ((Sha.vs false rr hh i 0) ||| (Sha.vs false rr hh i 1)))))) rfl rfl) ?_
     refine w_val (y_bin (ev (U64 (((((Sha.vs false rr hh i 7) + (((Sha.rl64 (Sha.vs false rr hh i 4) (-14)) ^^^ (Sha.rl64 (Sha.vs false rr hh i 4) (-18))) ^^^ (Sha.rl64 (Sha.vs false rr hh i 4) (-41)))) + ((Sha.vs false rr hh i 6) ^^^ ((Sha.vs false rr hh i 4) &&& ((Sha.vs false rr hh i 5) ^^^ (Sha.vs false rr hh i 6))))) + (Sha.K false i)) + (Sha.w false rr i))) rfl rfl) (ev (U64 ((((Sha.rl64 (Sha.vs false rr hh i 0) (-28)) ^^^ (Sha.rl64 (Sha.vs false rr hh i 0) (-34))) ^^^ (Sha.rl64 (Sha.vs false rr hh i 0) (-39))) + (((Sha.vs false rr hh i 0) &&& (Sha.vs false rr hh i 1)) ||| ((Sha.vs false rr hh i 2) &&& ((Sha.vs false rr hh i 0) ||| (Sha.vs false rr hh i 1)))))) rfl rfl) add64) ?_
     refine w_mv (ev (U64 (Sha.vs false rr hh i 0)) rfl rfl) ?_
     refine w_val (y_ia1z (i := 1) (ev (pt b_v 0) s3_7 rfl) (evc (.int .i64 1)) Tryd.underlying40 ShaBT.sz39 (by omega) (by omega)) ?_
     refine w_val (v := U64 (Sha.vs false rr hh i 1)) (y_ld (ev (pt b_v 1) rfl rfl) ShaBT.sc39 (r_b_v.val (by omega) rfl)) ?_
     refine w_val (y_ia1z (i := 2) (ev (pt b_v 0) s3_7 rfl) (evc (.int .i64 2)) Tryd.underlying40 ShaBT.sz39 (by omega) (by omega)) ?_
     refine w_val (v := U64 (Sha.vs false rr hh i 2)) (y_ld (ev (pt b_v 2) rfl rfl) ShaBT.sc39 (r_b_v.val (by omega) rfl)) ?_
     refine w_val (y_ia1z (i := 3) (ev (pt b_v 0) s3_7 rfl) (evc (.int .i64 3)) Tryd.underlying40 ShaBT.sz39 (by omega) (by omega)) ?_
     refine w_val (v := U64 (Sha.vs false rr hh i 3)) (y_ld (ev (pt b_v 3) rfl rfl) ShaBT.sc39 (r_b_v.val (by omega) rfl)) ?_
     refine w_mv (ev (U64 (((((Sha.vs false rr hh i 7) + (((Sha.rl64 (Sha.vs false rr hh i 4) (-14)) ^^^ (Sha.rl64 (Sha.vs false rr hh i 4) (-18))) ^^^ (Sha.rl64 (Sha.vs false rr hh i 4) (-41)))) + ((Sha.vs false rr hh i 6) ^^^ ((Sha.vs false rr hh i 4) &&& ((Sha.vs false rr hh i 5) ^^^ (Sha.vs false rr hh i 6))))) + (Sha.K false i)) + (Sha.w false rr i))) rfl rfl) ?_
     refine w_val (y_bin (ev (U64 (Sha.vs false rr hh i 3)) rfl rfl) (ev (U64 (((((Sha.vs false rr hh i 7) + (((Sha.rl64 (Sha.vs false rr hh i 4) (-14)) ^^^ (Sha.rl64 (Sha.vs false rr hh i 4) (-18))) ^^^ (Sha.rl64 (Sha.vs false rr hh i 4) (-41)))) + ((Sha.vs false rr hh i 6) ^^^ ((Sha.vs false rr hh i 4) &&& ((Sha.vs false rr hh i 5) ^^^ (Sha.vs false rr hh i 6))))) + (Sha.K false i)) + (Sha.w false rr i))) rfl rfl) add64) ?_
     refine w_mv (ev (U64 (Sha.vs false rr hh i 4)) rfl rfl) ?_
     refine w_val (y_ia1z (i := 5) (ev (pt b_v 0) s3_7 rfl) (evc (.int .i64 5)) Tryd.underlying40 ShaBT.sz39 (by omega) (by omega)) ?_
     refine w_val (v := U64 (Sha.vs false rr hh i 5)) (y_ld (ev (pt b_v 5) rfl rfl) ShaBT.sc39 (r_b_v.val (by omega) rfl)) ?_
     refine w_val (y_ia1z (i := 6) (ev (pt b_v 0) s3_7 rfl) (evc (.int .i64 6)) Tryd.underlying40 ShaBT.sz39 (by omega) (by omega)) ?_
     refine w_val (v := U64 (Sha.vs false rr hh i 6)) (y_ld (ev (pt b_v 6) rfl rfl) ShaBT.sc39 (r_b_v.val (by omega) rfl)) ?_
     refine w_val (v := .agg (arr 8 (fun j => if j < 1 then U64 ((((((Sha.vs false rr hh i 7) + (((Sha.rl64 (Sha.vs false rr hh i 4) (-14)) ^^^ (Sha.rl64 (Sha.vs false rr hh i 4) (-18))) ^^^ (Sha.rl64 (Sha.vs false rr hh i 4) (-41)))) + ((Sha.vs false rr hh i 6) ^^^ ((Sha.vs false rr hh i 4) &&& ((Sha.vs false rr hh i 5) ^^^ (Sha.vs false rr hh i 6))))) + (Sha.K false i)) + (Sha.w false rr i)) + ((((Sha.rl64 (Sha.vs false rr hh i 0) (-28)) ^^^ (Sha.rl64 (Sha.vs false rr hh i 0) (-34))) ^^^ (Sha.rl64 (Sha.vs false rr hh i 0) (-39))) + (((Sha.vs false rr hh i 0) &&& (Sha.vs false rr hh i 1)) ||| ((Sha.vs false rr hh i 2) &&& ((Sha.vs false rr hh i 0) ||| (Sha.vs false rr hh i 1)))))) else if j < 2 then U64 (Sha.vs false rr hh i 0) else if j < 3 then U64 (Sha.vs false rr hh i 1) else if j < 4 then U64 (Sha.vs false rr hh i 2) else if j < 5 then U64 ((Sha.vs false rr hh i 3) + (((((Sha.vs false rr hh i 7) + (((Sha.rl64 (Sha.vs false rr hh i 4) (-14)) ^^^ (Sha.rl64 (Sha.vs false rr hh i 4) (-18))) ^^^ (Sha.rl64 (Sha.vs false rr hh i 4) (-41)))) + ((Sha.vs false rr hh i 6) ^^^ ((Sha.vs false rr hh i 4) &&& ((Sha.vs false rr hh i 5) ^^^ (Sha.vs false rr hh i 6))))) + (Sha.K false i)) + (Sha.w false rr i))) else if j < 6 then U64 (Sha.vs false rr hh i 4) else if j < 7 then U64 (Sha.vs false rr hh i 5) else U64 (Sha.vs false rr hh i 6)))) (y_build (vs := #[(0, U64 ((((((Sha.vs false rr hh i 7) + (((Sha.rl64 (Sha.vs false rr hh i 4) (-14)) ^^^ (Sha.rl64 (Sha.vs false rr hh i 4) (-18))) ^^^ (Sha.rl64 (Sha.vs false rr hh i 4) (-41)))) + ((Sha.vs false rr hh i 6) ^^^ ((Sha.vs false rr hh i 4) &&& ((Sha.vs false rr hh i 5) ^^^ (Sha.vs false rr hh i 6))))) + (Sha.K false i)) + (Sha.w false rr i)) + ((((Sha.rl64 (Sha.vs false rr hh i 0) (-28)) ^^^ (Sha.rl64 (Sha.vs false rr hh i 0) (-34))) ^^^ (Sha.rl64 (Sha.vs false rr hh i 0) (-39))) + (((Sha.vs false rr hh i 0) &&& (Sha.vs false rr hh i 1)) ||| ((Sha.vs false rr hh i 2) &&& ((Sha.vs false rr hh i 0) ||| (Sha.vs false rr hh i 1))))))), (1, U64 (Sha.vs false rr hh i 0)), (2, U64 (Sha.vs false rr hh i 1)), (3, U64 (Sha.vs false rr hh i 2)), (4, U64 ((Sha.vs false rr hh i 3) + (((((Sha.vs false rr hh i 7) + (((Sha.rl64 (Sha.vs false rr hh i 4) (-14)) ^^^ (Sha.rl64 (Sha.vs false rr hh i 4) (-18))) ^^^ (Sha.rl64 (Sha.vs false rr hh i 4) (-41)))) + ((Sha.vs false rr hh i 6) ^^^ ((Sha.vs false rr hh i 4) &&& ((Sha.vs false rr hh i 5) ^^^ (Sha.vs false rr hh i 6))))) + (Sha.K false i)) + (Sha.w false rr i)))), (5, U64 (Sha.vs false rr hh i 4)), (6, U64 (Sha.vs false rr hh i 5)), (7, U64 (Sha.vs false rr hh i 6))]) (mp_cons (ev (U64 ((((((Sha.vs false rr hh i 7) + (((Sha.rl64 (Sha.vs false rr hh i 4) (-14)) ^^^ (Sha.rl64 (Sha.vs false rr hh i 4) (-18))) ^^^ (Sha.rl64 (Sha.vs false rr hh i 4) (-41)))) + ((Sha.vs false rr hh i 6) ^^^ ((Sha.vs false rr hh i 4) &&& ((Sha.vs false rr hh i 5) ^^^ (Sha.vs false rr hh i 6))))) + (Sha.K false i)) + (Sha.w false rr i)) + ((((Sha.rl64 (Sha.vs false rr hh i 0) (-28)) ^^^ (Sha.rl64 (Sha.vs false rr hh i 0) (-34))) ^^^ (Sha.rl64 (Sha.vs false rr hh i 0) (-39))) + (((Sha.vs false rr hh i 0) &&& (Sha.vs false rr hh i 1)) ||| ((Sha.vs false rr hh i 2) &&& ((Sha.vs false rr hh i 0) ||| (Sha.vs false rr hh i 1))))))) rfl rfl) (mp_cons (ev (U64 (Sha.vs false rr hh i 0)) rfl rfl) (mp_cons (ev (U64 (Sha.vs false rr hh i 1)) rfl rfl) (mp_cons (ev (U64 (Sha.vs false rr hh i 2)) rfl rfl) (mp_cons (ev (U64 ((Sha.vs false rr hh i 3) + (((((Sha.vs false rr hh i 7) + (((Sha.rl64 (Sha.vs false rr hh i 4) (-14)) ^^^ (Sha.rl64 (Sha.vs false rr hh i 4) (-18))) ^^^ (Sha.rl64 (Sha.vs false rr hh i 4) (-41)))) + ((Sha.vs false rr hh i 6) ^^^ ((Sha.vs false rr hh i 4) &&& ((Sha.vs false rr hh i 5) ^^^ (Sha.vs false rr hh i 6))))) + (Sha.K false i)) + (Sha.w false rr i)))) rfl rfl) (mp_cons (ev (U64 (Sha.vs false rr hh i 4)) rfl rfl) (mp_cons (ev (U64 (Sha.vs false rr hh i 5)) rfl rfl) (mp_cons (ev (U64 (Sha.vs false rr hh i 6)) rfl rfl) mp0)))))))) (fun w => by kernel_rfl)) ?_
     refine w_sta (k := 8) (G := fun j => if j < 1 then U64 ((((((Sha.vs false rr hh i 7) + (((Sha.rl64 (Sha.vs false rr hh i 4) (-14)) ^^^ (Sha.rl64 (Sha.vs false rr hh i 4) (-18))) ^^^ (Sha.rl64 (Sha.vs false rr hh i 4) (-41)))) + ((Sha.vs false rr hh i 6) ^^^ ((Sha.vs false rr hh i 4) &&& ((Sha.vs false rr hh i 5) ^^^ (Sha.vs false rr hh i 6))))) + (Sha.K false i)) + (Sha.w false rr i)) + ((((Sha.rl64 (Sha.vs false rr hh i 0) (-28)) ^^^ (Sha.rl64 (Sha.vs false rr hh i 0) (-34))) ^^^ (Sha.rl64 (Sha.vs false rr hh i 0) (-39))) + (((Sha.vs false rr hh i 0) &&& (Sha.vs false rr hh i 1)) ||| ((Sha.vs false rr hh i 2) &&& ((Sha.vs false rr hh i 0) ||| (Sha.vs false rr hh i 1)))))) else if j < 2 then U64 (Sha.vs false rr hh i 0) else if j < 3 then U64 (Sha.vs false rr hh i 1) else if j < 4 then U64 (Sha.vs false rr hh i 2) else if j < 5 then U64 ((Sha.vs false rr hh i 3) + (((((Sha.vs false rr hh i 7) + (((Sha.rl64 (Sha.vs false rr hh i 4) (-14)) ^^^ (Sha.rl64 (Sha.vs false rr hh i 4) (-18))) ^^^ (Sha.rl64 (Sha.vs false rr hh i 4) (-41)))) + ((Sha.vs false rr hh i 6) ^^^ ((Sha.vs false rr hh i 4) &&& ((Sha.vs false rr hh i 5) ^^^ (Sha.vs false rr hh i 6))))) + (Sha.K false i)) + (Sha.w false rr i))) else if j < 6 then U64 (Sha.vs false rr hh i 4) else if j < 7 then U64 (Sha.vs false rr hh i 5) else U64 (Sha.vs false rr hh i 6)) (ev (pt b_v 0) s3_7 rfl) (ev (.agg (arr 8 (fun j => if j < 1 then U64 ((((((Sha.vs false rr hh i 7) + (((Sha.rl64 (Sha.vs false rr hh i 4) (-14)) ^^^ (Sha.rl64 (Sha.vs false rr hh i 4) (-18))) ^^^ (Sha.rl64 (Sha.vs false rr hh i 4) (-41)))) + ((Sha.vs false rr hh i 6) ^^^ ((Sha.vs false rr hh i 4) &&& ((Sha.vs false rr hh i 5) ^^^ (Sha.vs false rr hh i 6))))) + (Sha.K false i)) + (Sha.w false rr i)) + ((((Sha.rl64 (Sha.vs false rr hh i 0) (-28)) ^^^ (Sha.rl64 (Sha.vs false rr hh i 0) (-34))) ^^^ (Sha.rl64 (Sha.vs false rr hh i 0) (-39))) + (((Sha.vs false rr hh i 0) &&& (Sha.vs false rr hh i 1)) ||| ((Sha.vs false rr hh i 2) &&& ((Sha.vs false rr hh i 0) ||| (Sha.vs false rr hh i 1)))))) else if j < 2 then U64 (Sha.vs false rr hh i 0) else if j < 3 then U64 (Sha.vs false rr hh i 1) else if j < 4 then U64 (Sha.vs false rr hh i 2) else if j < 5 then U64 ((Sha.vs false rr hh i 3) + (((((Sha.vs false rr hh i 7) + (((Sha.rl64 (Sha.vs false rr hh i 4) (-14)) ^^^ (Sha.rl64 (Sha.vs false rr hh i 4) (-18))) ^^^ (Sha.rl64 (Sha.vs false rr hh i 4) (-41)))) + ((Sha.vs false rr hh i 6) ^^^ ((Sha.vs false rr hh i 4) &&& ((Sha.vs false rr hh i 5) ^^^ (Sha.vs false rr hh i 6))))) + (Sha.K false i)) + (Sha.w false rr i))) else if j < 6 then U64 (Sha.vs false rr hh i 4) else if j < 7 then U64 (Sha.vs false rr hh i 5) else U64 (Sha.vs false rr hh i 6)))) rfl rfl) oc ShaBT.sz40 r_b_v (by omega) ?_
     clear r_b_v; intro w33 r_b_v hg34 _
     replace r_b_v := r_b_v.congr (g := fun j => if j < 1 then U64 ((((((Sha.vs false rr hh i 7) + (((Sha.rl64 (Sha.vs false rr hh i 4) (-14)) ^^^ (Sha.rl64 (Sha.vs false rr hh i 4) (-18))) ^^^ (Sha.rl64 (Sha.vs false rr hh i 4) (-41)))) + ((Sha.vs false rr hh i 6) ^^^ ((Sha.vs false rr hh i 4) &&& ((Sha.vs false rr hh i 5) ^^^ (Sha.vs false rr hh i 6))))) + (Sha.K false i)) + (Sha.w false rr i)) + ((((Sha.rl64 (Sha.vs false rr hh i 0) (-28)) ^^^ (Sha.rl64 (Sha.vs false rr hh i 0) (-34))) ^^^ (Sha.rl64 (Sha.vs false rr hh i 0) (-39))) + (((Sha.vs false rr hh i 0) &&& (Sha.vs false rr hh i 1)) ||| ((Sha.vs false rr hh i 2) &&& ((Sha.vs false rr hh i 0) ||| (Sha.vs false rr hh i 1)))))) else if j < 2 then U64 (Sha.vs false rr hh i 0) else if j < 3 then U64 (Sha.vs false rr hh i 1) else if j < 4 then U64 (Sha.vs false rr hh i 2) else if j < 5 then U64 ((Sha.vs false rr hh i 3) + (((((Sha.vs false rr hh i 7) + (((Sha.rl64 (Sha.vs false rr hh i 4) (-14)) ^^^ (Sha.rl64 (Sha.vs false rr hh i 4) (-18))) ^^^ (Sha.rl64 (Sha.vs false rr hh i 4) (-41)))) + ((Sha.vs false rr hh i 6) ^^^ ((Sha.vs false rr hh i 4) &&& ((Sha.vs false rr hh i 5) ^^^ (Sha.vs false rr hh i 6))))) + (Sha.K false i)) + (Sha.w false rr i))) else if j < 6 then U64 (Sha.vs false rr hh i 4) else if j < 7 then U64 (Sha.vs false rr hh i 5) else U64 (Sha.vs false rr hh i 6)) (fun j hj => by rw [if_pos ⟨Nat.zero_le _, by omega⟩]; first | rfl | (simp only [Nat.sub_zero]))
     replace r_h := r_h.stepG hg34 (by omega)
     replace r_b_w := r_b_w.stepG hg34 (by omega)
     replace hk := grown_thenG hk hg34 (by omega)
     replace hT := Sha.Tabs.grown hT hg34 (by omega) (by omega)
     refine wpList_nil ?_
     refine inb_n ?_
     refine then_n ?_
     refine wp_region_lit ?_
     refine w_val (y_bin (ev (.int .i64 ((i : Nat) : Int)) s3_82 rfl) (evc (.int .i64 1)) (b_add (by omega))) ?_
     refine w_mv (ev (.int .i64 (((i : Nat) : Int) + 1)) rfl rfl) ?_
     refine wpList_nil ?_
     exact then_n ⟨_, (by omega), i + 1, rfl, _, rfl, iv, s3_0, s3_2, s3_7, s3_14, (etv (b := .int .i64 (((i : Nat) : Int) + 1)) rfl), r_h, r_b_w, (r_b_v.congr (fun j hj => by exact Sha.eight_row64 rr _ i j hj)), hT, hk⟩
    ·skip
     refine wp_exit ?_
     refine then_x ?_
     replace r_b_v := r_b_v.congr (g := fun j => U64 (Sha.vs false rr hh 80 j)) (fun j hj => by (try dsimp only); rw [show i = 80 from by omega])
     refine then_x ?_
     refine inb_x ?_
     refine then_n ?_
     refine sr ?_
     refine w_mv (evc (.int .i64 0)) ?_
     refine nt ?_
     refine wp_block ?_
     refine c_loop (fun dN aN wl => ∃ (k4 : Nat), dN = (8 - k4) ∧ ∃ f35, aN = fr 176 f35 ∧ (k4 ≤ 8) ∧ f35 0 = pt h 0 ∧ f35 2 = pt b_w 0 ∧ f35 7 = pt b_v 0 ∧ f35 14 = .int .i64 ((k : Nat) : Int) ∧ f35 82 = .int .i64 ((i : Nat) : Int) ∧ f35 159 = .int .i64 ((k4 : Nat) : Int) ∧ Row wl h 53 139 (Sha.hrow (.int .i64 kd) (fun i => if i < k4 then Sha.comp false rr hh i else hh i) rr (.int .i64 ((n : Nat) : Int)) (U64 al)) ∧ Row wl b_w 97 80 (fun j => U64 (Sha.w false rr j)) ∧ Row wl b_v 40 8 (fun j => U64 (Sha.vs false rr hh 80 j)) ∧ Sha.Tabs wl ∧ w0.grownBy wl (some h)) (8 - 0) ?_ ?_
     · exact ⟨0, rfl, _, rfl, iv, s3_0, s3_2, s3_7, s3_14, s3_82, (etv (b := .int .i64 0) rfl), (r_h.congr (fun j hj => by exact Sha.words_init _ _ _ _ _ _ j)), r_b_w, r_b_v, hT, hk⟩
     ·skip
      clear r_h r_b_w r_b_v hT hk
      rintro _ _ w36 ⟨k4, rfl, f35, rfl, i4_0, s4_0, s4_2, s4_7, s4_14, s4_82, s4_159, r_h, r_b_w, r_b_v, hT, hk⟩
      refine sr ?_
      refine w_val (y_bin (ev (.int .i64 ((k4 : Nat) : Int)) s4_159 rfl) (evc (.int .i64 8)) b_lss) ?_
      refine nt ?_
      refine wp_seq ?_
      refine c_if (p := ((k4 : Nat) : Int) < 8) (ev (.bool (decide (((k4 : Nat) : Int) < 8))) rfl rfl) (fun hc37 => ?_) (fun hc37 => ?_)
      ·skip
       refine wp_skip ?_
       refine then_n ?_
       refine wp_seq ?_
       refine wp_block ?_
       refine sr ?_
       refine w_mv (ev (.int .i64 ((k4 : Nat) : Int)) s4_159 rfl) ?_
       refine w_as (ev (.int .i64 ((k4 : Nat) : Int)) rfl rfl) ?_
       refine nt ?_
       refine region_t 13 ShaBT.mixed (by kernel_rfl) ?_
       simp only [List.take_succ_cons, List.take_zero, List.drop_succ_cons, List.drop_zero]
       refine q_mv (ev (pt h 0) s4_0 rfl) ?_
       refine q_mv (ev (.int .i64 ((k4 : Nat) : Int)) rfl rfl) ?_
       refine q_val (fun w' hw' => y_nc (ev (pt h 0) rfl rfl)) ?_
       refine q_val (v := pt h 1) (fun w' hw' => y_off (y_fa (ev (pt h 0) rfl rfl) (ShaBT.fa53_1 _ _)) (by first | rfl | omega)) ?_
       refine q_val (v := pt h (1 + k4)) (fun w' hw' => y_off (y_ia1 (i := k4) (ev (pt h 1) rfl rfl) (ev (.int .i64 ((k4 : Nat) : Int)) rfl rfl) Tryd.underlying40 ShaBT.sz39 (by omega) (by omega)) (by first | rfl | omega)) ?_
       refine q_val (v := U64 ((fun i => if i < k4 then Sha.comp false rr hh i else hh i) k4)) (fun w' hw' => y_ld (ev (pt h (1 + k4)) rfl rfl) ShaBT.sc39 (cls_cell (r_h.val (by omega) ((if_neg (by omega)).trans (etv (if_pos (by omega))))) r_h.lt w' hw')) ?_
       refine q_mv (ev (.int .i64 ((k4 : Nat) : Int)) rfl rfl) ?_
       refine q_val (fun w' hw' => y_ia1z (i := k4) (ev (pt b_v 0) s4_7 rfl) (ev (.int .i64 ((k4 : Nat) : Int)) rfl rfl) Tryd.underlying40 ShaBT.sz39 (by omega) (by omega)) ?_
       refine q_val (v := U64 (Sha.vs false rr hh 80 k4)) (fun w' hw' => y_ld (ev (pt b_v k4) rfl rfl) ShaBT.sc39 (cls_cell (r_b_v.val (by omega) rfl) r_b_v.lt w' hw')) ?_
       refine q_val (fun w' hw' => y_bin (ev (U64 ((fun i => if i < k4 then Sha.comp false rr hh i else hh i) k4)) rfl rfl) (ev (U64 (Sha.vs false rr hh 80 k4)) rfl rfl) add64) ?_
       refine q_val (fun w' hw' => y_nc (ev (pt h 0) rfl rfl)) ?_
       refine q_val (v := pt h 1) (fun w' hw' => y_off (y_fa (ev (pt h 0) rfl rfl) (ShaBT.fa53_1 _ _)) (by first | rfl | omega)) ?_
       refine q_val (v := pt h (1 + k4)) (fun w' hw' => y_off (y_ia1 (i := k4) (ev (pt h 1) rfl rfl) (ev (.int .i64 ((k4 : Nat) : Int)) rfl rfl) Tryd.underlying40 ShaBT.sz39 (by omega) (by omega)) (by first | rfl | omega)) ?_
       refine q_nil ?_
       intro w38 hb39
       replace r_h := r_h.step hb39
       replace r_b_w := r_b_w.step hb39
       replace r_b_v := r_b_v.step hb39
       replace hk := grown_thenB hk hb39
       replace hT := Sha.Tabs.below hT hb39
       refine w_st (v := U64 (((fun i => if i < k4 then Sha.comp false rr hh i else hh i) k4) + (Sha.vs false rr hh 80 k4))) (ev (pt h (1 + k4)) rfl rfl) (ev (U64 (((fun i => if i < k4 then Sha.comp false rr hh i else hh i) k4) + (Sha.vs false rr hh 80 k4))) rfl rfl) rfl rfl ShaBT.sz39 r_h (by omega) ?_
       clear r_h; intro w40 r_h hg41 _
       replace r_b_w := r_b_w.stepG hg41 (by omega)
       replace r_b_v := r_b_v.stepG hg41 (by omega)
       replace hk := grown_thenG hk hg41 (by omega)
       replace hT := Sha.Tabs.grown hT hg41 (by omega) (by omega)
       refine wpList_nil ?_
       refine inb_n ?_
       refine then_n ?_
       refine wp_region_lit ?_
       refine w_val (y_bin (ev (.int .i64 ((k4 : Nat) : Int)) s4_159 rfl) (evc (.int .i64 1)) (b_add (by omega))) ?_
       refine w_mv (ev (.int .i64 (((k4 : Nat) : Int) + 1)) rfl rfl) ?_
       refine wpList_nil ?_
       exact then_n ⟨_, (by omega), k4 + 1, rfl, _, rfl, iv, s4_0, s4_2, s4_7, s4_14, s4_82, (etv (b := .int .i64 (((k4 : Nat) : Int) + 1)) rfl), (r_h.congr (fun j hj => by exact Sha.words_step _ _ _ _ _ _ _ k4 j (by omega) (by (try dsimp only); rw [if_neg (Nat.lt_irrefl k4)]; rfl))), r_b_w, r_b_v, hT, hk⟩
      ·skip
       refine wp_exit ?_
       refine then_x ?_
       replace r_h := r_h.congr (g := Sha.hrow (.int .i64 kd) (Sha.comp false rr hh) rr (.int .i64 ((n : Nat) : Int)) (U64 al)) (fun j hj => by exact Sha.words_done _ _ _ _ _ _ j hj (by omega))
       refine then_x ?_
       refine inb_x ?_
       refine fin_end0 rfl ?_
       exact ⟨rfl, r_h, hk⟩
end Go.Proofs.YtieepglpejlkoaaDoor
