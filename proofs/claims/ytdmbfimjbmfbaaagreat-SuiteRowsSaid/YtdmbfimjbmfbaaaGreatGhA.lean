/-
  Sums over the field: the program's elements, their multiples and products. Conditions as each says.
-/
import Derived.Test.YtdmbfimjbmfbaaaGreatRows
import Derived.Test.YtdmbfimjbmfbaaaGreatGenIx
import Derived.Test.YtdmbfimjbmfbaaaGreatGhMul
import Derived.Test.YtdmbfimjbmfbaaaGreatGenMore
import Derived.Test.YtdmbfimjbmfbaaaGreatGenSh
import Derived.ProofKit
namespace Go.Proofs.YtdmbfimjbmfbaaaGreat
open Go.RowKit
set_option linter.unusedSimpArgs false
set_option linter.unusedVariables false
set_option maxRecDepth 100000
set_option maxHeartbeats 1000000
namespace GhAT
theorem mixed : Tryz.prog.follows .mixedOrders = true := by kernel_rfl
theorem ag120 : (Tryz.prog.underlying 120).map isAggD = some true := by rw [Tryz.underlying120]; rfl
theorem ag121 : (Tryz.prog.underlying 121).map isAggD = some true := by rw [Tryz.underlying121]; rfl
theorem fa120_0 (g off : Nat) : ∀ w, (Instr.fieldAt 120 (.pointer (some ⟨g, off, none⟩)) 0).run Tryz.prog w = .ok (.pointer (some ⟨g, off + 0, none⟩)) w := fun w => by kernel_rfl
theorem fa120_1 (g off : Nat) : ∀ w, (Instr.fieldAt 120 (.pointer (some ⟨g, off, none⟩)) 1).run Tryz.prog w = .ok (.pointer (some ⟨g, off + 1, none⟩)) w := fun w => by kernel_rfl
theorem sc83 : (Tryz.prog.underlying 83).map scal = some true := by rw [Tryz.underlying83]; rfl
theorem so5 : (Tryz.prog.underlying 5).isSome = true := by rw [Tryz.underlying5]; rfl
theorem so83 : (Tryz.prog.underlying 83).isSome = true := by rw [Tryz.underlying83]; rfl
theorem sz120 : (Tryz.prog.info? 120).map (·.size) = some 2 := by kernel_rfl
theorem sz121 : (Tryz.prog.info? 121).map (·.size) = some 32 := by kernel_rfl
theorem sz5 : (Tryz.prog.info? 5).map (·.size) = some 1 := by kernel_rfl
theorem sz83 : (Tryz.prog.info? 83).map (·.size) = some 1 := by kernel_rfl
end GhAT
theorem ghLoad (s : List (BitVec 8)) (hs : s.length = 16) (w0 : World) : Calls Tryz.prog 58 #[.string (str s)] w0 fun e w' => e = .returned (.agg (arr 2 (fun j => U64 (Gh.cl (Gh.lw s) j)))) ∧ Below w0.heap.size w0 w' := by
 refine enter (n := 28) Tryz.func58 rfl rfl rfl ?_
 have hk : Below w0.heap.size w0 w0 := Below.refl _ _
 refine sr (w_alloc (m := 2) (F := fun j => if j < 1 then U64 (0#64) else U64 (0#64)) kr ?_)
 intro b_p w1 hbe_b_p r_b_p hb2
 have ge_b_p := gb_ hk.size hbe_b_p
 clear hbe_b_p
 replace hk := thenB hk hb2
 refine nt (wp_seq (sr (w_mv Ev.c (nt (wp_block ?_)))))
 refine c_loop (fun dN aN wl => ∃ (i : Nat), dN = (8 - i) ∧ ∃ f3, aN = fr 28 f3 ∧ (i ≤ 8) ∧ f3 0 = .string (str s) ∧ f3 2 = pt b_p 0 ∧ f3 4 = .int .i64 ((i : Nat) : Int) ∧ Row wl b_p 120 2 (fun j => U64 (Gh.cl (Gh.lp s i) j)) ∧ Below w0.heap.size w0 wl) (8 - 0) ?_ ?_
 · exact ⟨0, rfl, _, rfl, iv, rfl, rfl, ti, (r_b_p.congr (fun j hj => by exact Gh.lp_0 s j hj)), hk⟩
 ·skip
  clear r_b_p hk
  rintro _ _ w4 ⟨i, rfl, f3, rfl, i1_0, s1_0, s1_2, s1_4, r_b_p, hk⟩
  refine sr (w_val (y_bin (ei s1_4) Ev.c b_lss) (nt (wp_seq ?_)))
  refine c_if (p := ((i : Nat) : Int) < 8) eb (fun hc5 => ?_) (fun hc5 => ?_)
  ·skip
   refine wp_skip (then_n (wp_seq (wp_block (sr (w_mv (ei s1_4) (w_as ei (nt (wp_seq (region_t 9 GhAT.mixed kr ?_)))))))))
   simp only [List.take_succ_cons, List.take_zero, List.drop_succ_cons, List.drop_zero]
   refine q_val (v := pt b_p 0) (fun w' hw' => y_off (y_fa (ex (pt b_p 0) s1_2) (GhAT.fa120_0 _ _)) ro) (q_val (v := U64 (Gh.cl (Gh.lp s i) 0)) (fun w' hw' => y_ld (ex (pt b_p 0)) GhAT.sc83 (cls_cell (r_b_p.val om rfl) r_b_p.lt w' hw')) (q_val (fun w' hw' => y_bin e6 (evc (.int .u64 8)) (shl64 (c := 8) rfl)) (q_mv (es s1_0) (q_mv ei (q_val (v := U8 (gb s i)) (fun w' hw' => y_idx (ex (.string (str s))) ei Tryz.underlying9 om om) (q_val (fun w' hw' => y_u8_u64 e8 GhAT.so5 Tryz.underlying83) (q_val (fun w' hw' => y_bin e6 e6 or64) (q_val (v := pt b_p 0) (fun w' hw' => y_off (y_fa (ex (pt b_p 0) s1_2) (GhAT.fa120_0 _ _)) ro) (q_nil ?_)))))))))
   intro w6 hb7
   replace r_b_p := r_b_p.step hb7
   replace hk := thenB hk hb7
   refine w_st (v := U64 (((Gh.cl (Gh.lp s i) 0) <<< 8) ||| ((gb s i).setWidth 64))) (ex (pt b_p 0)) e6 rfl rfl GhAT.sz83 r_b_p om ?_
   clear r_b_p; intro w8 r_b_p hg9 _
   replace hk := thenG hk hg9 om
   refine nt (region_t 10 GhAT.mixed kr ?_)
   simp only [List.take_succ_cons, List.take_zero, List.drop_succ_cons, List.drop_zero]
   refine q_val (v := pt b_p 1) (fun w' hw' => y_off (y_fa (ex (pt b_p 0) s1_2) (GhAT.fa120_1 _ _)) ro) (q_val (v := U64 (Gh.cl (Gh.lp s i) 1)) (fun w' hw' => y_ld (ex (pt b_p 1)) GhAT.sc83 (cls_cell (r_b_p.val om (ng rfl)) r_b_p.lt w' hw')) (q_val (fun w' hw' => y_bin e6 (evc (.int .u64 8)) (shl64 (c := 8) rfl)) (q_mv (es s1_0) (q_mv ei (q_val (fun w' hw' => y_bin Ev.c ei (b_add om)) (q_val (v := U8 (gb s (8 + i))) (fun w' hw' => y_idx (ex (.string (str s))) ei Tryz.underlying9 om om) (q_val (fun w' hw' => y_u8_u64 e8 GhAT.so5 Tryz.underlying83) (q_val (fun w' hw' => y_bin e6 e6 or64) (q_val (v := pt b_p 1) (fun w' hw' => y_off (y_fa (ex (pt b_p 0) s1_2) (GhAT.fa120_1 _ _)) ro) (q_nil ?_))))))))))
   intro w10 hb11
   replace r_b_p := r_b_p.step hb11
   replace hk := thenB hk hb11
   refine w_st (v := U64 (((Gh.cl (Gh.lp s i) 1) <<< 8) ||| ((gb s (8 + i)).setWidth 64))) (ex (pt b_p 1)) e6 rfl rfl GhAT.sz83 r_b_p om ?_
   clear r_b_p; intro w12 r_b_p hg13 _
   replace hk := thenG hk hg13 om
   refine wpList_nil (inb_n (then_n (wp_region_lit (w_val (y_bin (ei s1_4) Ev.c (b_add om)) (w_mv ei (wpList_nil ?_))))))
   exact then_n ⟨_, om, i + 1, rfl, _, rfl, iv, s1_0, s1_2, ti, (r_b_p.congr (fun j hj => by exact Gh.lp_step s i j hj)), hk⟩
  ·skip
   refine wp_exit (then_x ?_)
   replace r_b_p := r_b_p.congr (g := fun j => U64 (Gh.cl (Gh.lw s) j)) (fun j hj => by obtain rfl : i = 8 := om; rfl)
   refine then_x (inb_x (then_n (sr (w_val (v := .agg (arr 2 (fun j => U64 (Gh.cl (Gh.lw s) j)))) (y_lda (ex (pt b_p 0) s1_2) GhAT.ag120 GhAT.sz120 (fun j hj => by rw [Nat.zero_add]; exact (r_b_p.cell om))) (w_sta (k := 2) (G := fun j => U64 (Gh.cl (Gh.lw s) j)) (ex (pt b_p 0) s1_2) ea oc GhAT.sz120 r_b_p om ?_)))))
   clear r_b_p; intro w14 r_b_p hg15 _
   replace r_b_p := r_b_p.congr (g := fun j => U64 (Gh.cl (Gh.lw s) j)) (fun j hj => by rw [if_pos ⟨Nat.zero_le _, by omega⟩]; first | rfl | (simp only [Nat.sub_zero]))
   replace hk := thenG hk hg15 om
   refine nt (wp_ret (fin_arr (F := fun j => U64 (Gh.cl (Gh.lw s) j)) rfl (ex (pt b_p 0) s1_2) GhAT.ag120 GhAT.sz120 r_b_p om ?_))
   exact ⟨rfl, hk⟩

theorem ghStore (p : Gh.W2) (w0 : World) : Calls Tryz.prog 60 #[.agg (arr 2 (fun j => U64 (Gh.cl p j)))] w0 fun e w' => e = .returned (.string (str (Gh.st p))) ∧ Below w0.heap.size w0 w' := by
 have hst := Gh.st_len p
 refine enter (n := 30) Tryz.func60 rfl rfl rfl ?_
 have hk : Below w0.heap.size w0 w0 := Below.refl _ _
 refine sr (w_box (m := 2) (F := fun j => U64 (Gh.cl p j)) ea rfl ?_)
 intro b_p w1 hbe_b_p r_b_p hb2
 have ge_b_p := gb_ hk.size hbe_b_p
 clear hbe_b_p
 replace hk := thenB hk hb2
 refine w_as (evc (.string (str ([] : List (BitVec 8))))) (nt (sr (w_alloc (m := 16) (F := fun j => U8 (0#8)) kr ?_)))
 intro b_out w3 hbe_b_out r_b_out hb4
 have ne_b_p_b_out := r_b_p.nb hbe_b_out
 have ge_b_out := gb_ hk.size hbe_b_out
 clear hbe_b_out
 replace r_b_p := r_b_p.step hb4
 replace hk := thenB hk hb4
 refine nt (wp_seq (sr (w_mv Ev.c (nt (wp_block ?_)))))
 refine c_loop (fun dN aN wl => ∃ (i : Nat), dN = (8 - i) ∧ ∃ f5, aN = fr 30 f5 ∧ (i ≤ 8) ∧ f5 1 = pt b_p 0 ∧ f5 2 = .string (str ([] : List (BitVec 8))) ∧ f5 3 = pt b_out 0 ∧ f5 5 = .int .i64 ((i : Nat) : Int) ∧ Row wl b_p 120 2 (fun j => U64 (Gh.cl p j)) ∧ Row wl b_out 133 16 (fun j => if j < i ∨ 8 ≤ j ∧ j < 8 + i then (fun j => U8 (Gh.sb p j)) j else (fun j => U8 (0#8)) j) ∧ Below w0.heap.size w0 wl) (8 - 0) ?_ ?_
 · exact ⟨0, rfl, _, rfl, iv, rfl, rfl, rfl, ti, r_b_p, (r_b_out.congr (fun j hj => by rw [if_neg om])), hk⟩
 ·skip
  clear r_b_p r_b_out hk
  rintro _ _ w6 ⟨i, rfl, f5, rfl, i1_0, s1_1, s1_2, s1_3, s1_5, r_b_p, r_b_out, hk⟩
  refine sr (w_val (y_bin (ei s1_5) Ev.c b_lss) (nt (wp_seq ?_)))
  refine c_if (p := ((i : Nat) : Int) < 8) eb (fun hc7 => ?_) (fun hc7 => ?_)
  ·skip
   refine wp_skip (then_n (wp_seq (wp_block (sr (w_mv (ei s1_5) (w_as ei (nt (sr (w_mv ei (w_val (v := pt b_p 0) (y_off (y_fa (ex (pt b_p 0) s1_1) (GhAT.fa120_0 _ _)) ro) (w_val (v := U64 (Gh.cl p 0)) (y_ld (ex (pt b_p 0)) GhAT.sc83 (r_b_p.val om rfl)) (w_mv ei (w_val (y_bin Ev.c ei (b_mul om)) (w_val (y_bin Ev.c ei (b_sub om)) (w_val (y_bin e6 ei (shr64 (c := (56 - (8 * i))) om)) (w_val (y_u64_u8 e6 GhAT.so83 Tryz.underlying5) (w_val (y_ia1z (i := i) (ex (pt b_out 0) s1_3) ei Tryz.underlying133 GhAT.sz5 om om) (w_st (v := U8 (((Gh.cl p 0) >>> (56 - (8 * i))).setWidth 8)) (ex (pt b_out i)) e8 rfl rfl GhAT.sz5 r_b_out om ?_))))))))))))))))))
   clear r_b_out; intro w8 r_b_out hg9 _
   replace r_b_p := r_b_p.stepG hg9 om
   replace hk := thenG hk hg9 om
   refine nt (wp_region_lit (w_mv ei (w_val (y_bin Ev.c ei (b_add om)) (w_val (v := pt b_p 1) (y_off (y_fa (ex (pt b_p 0) s1_1) (GhAT.fa120_1 _ _)) ro) (w_val (v := U64 (Gh.cl p 1)) (y_ld (ex (pt b_p 1)) GhAT.sc83 (r_b_p.val om rfl)) (w_mv ei (w_val (y_bin Ev.c ei (b_mul om)) (w_val (y_bin Ev.c ei (b_sub om)) (w_val (y_bin e6 ei (shr64 (c := (56 - (8 * i))) om)) (w_val (y_u64_u8 e6 GhAT.so83 Tryz.underlying5) (w_val (y_ia1z (i := (8 + i)) (ex (pt b_out 0) s1_3) ei Tryz.underlying133 GhAT.sz5 om om) (w_st (v := U8 (((Gh.cl p 1) >>> (56 - (8 * i))).setWidth 8)) (ex (pt b_out (8 + i))) e8 rfl rfl GhAT.sz5 r_b_out om ?_))))))))))))
   clear r_b_out; intro w10 r_b_out hg11 _
   replace r_b_p := r_b_p.stepG hg11 om
   replace hk := thenG hk hg11 om
   refine wpList_nil (inb_n (then_n (wp_region_lit (w_val (y_bin (ei s1_5) Ev.c (b_add om)) (w_mv ei (wpList_nil ?_))))))
   exact then_n ⟨_, om, i + 1, rfl, _, rfl, iv, s1_1, s1_2, s1_3, ti, r_b_p, (r_b_out.congr (fun j hj => by exact Gh.sb_step p i j om hj)), hk⟩
  ·skip
   refine wp_exit (then_x ?_)
   replace r_b_out := r_b_out.congr (g := fun j => U8 (gb (Gh.st p) j)) (fun j hj => by (try dsimp only); rw [if_pos om, Gh.gb_st p j om])
   refine then_x (inb_x (then_n (sr (w_val (v := .slice (some ⟨b_out, 0, none⟩) 16 16) (y_sloff (y_slp (ex (pt b_out 0) s1_3) evo.no evo.no Tryz.underlying133 GhAT.sz5 bnd_ om) ro rfl) (w_val (y_str (l := Gh.st p) el (by first | rfl | assumption | (simp; omega) | omega) Tryz.underlying111 Tryz.underlying5 Tryz.underlying9 (fun j hj => by rw [Nat.zero_add]; exact (r_b_out.cell om))) (w_as es (nt (wp_ret (fin_ret1 rfl es ?_)))))))))
   exact ⟨rfl, hk⟩

theorem ghTimes (p : Gh.W2) (w0 : World) : Calls Tryz.prog 74 #[.agg (arr 2 (fun j => U64 (Gh.cl p j)))] w0 fun e w' => e = .returned (.agg (arr 2 (fun j => U64 (Gh.cl (Gh.tmw p) j)))) ∧ Below w0.heap.size w0 w' := by
 refine enter (n := 24) Tryz.func74 rfl rfl rfl ?_
 have hk : Below w0.heap.size w0 w0 := Below.refl _ _
 refine sr (w_box (m := 2) (F := fun j => U64 (Gh.cl p j)) ea rfl ?_)
 intro b_p w1 hbe_b_p r_b_p hb2
 have ge_b_p := gb_ hk.size hbe_b_p
 clear hbe_b_p
 replace hk := thenB hk hb2
 refine w_alloc (m := 2) (F := fun j => if j < 1 then U64 (0#64) else U64 (0#64)) kr ?_
 intro b_2 w3 hbe_b_2 r_b_2 hb4
 have ne_b_p_b_2 := r_b_p.nb hbe_b_2
 have ge_b_2 := gb_ hk.size hbe_b_2
 clear hbe_b_2
 replace r_b_p := r_b_p.step hb4
 replace hk := thenB hk hb4
 refine nt (sr (w_val (v := pt b_p 0) (y_off (y_fa (ex (pt b_p 0)) (GhAT.fa120_0 _ _)) ro) (w_val (v := U64 (Gh.cl p 0)) (y_ld (ex (pt b_p 0)) GhAT.sc83 (r_b_p.val om rfl)) (w_val (y_bin e6 (evc (.int .u64 1)) (shr64 (c := 1) rfl)) (w_val (v := pt b_p 1) (y_off (y_fa (ex (pt b_p 0)) (GhAT.fa120_1 _ _)) ro) (w_val (v := U64 (Gh.cl p 1)) (y_ld (ex (pt b_p 1)) GhAT.sc83 (r_b_p.val om rfl)) (w_val (y_bin e6 (evc (.int .u64 1)) (shr64 (c := 1) rfl)) (w_val (v := pt b_p 0) (y_off (y_fa (ex (pt b_p 0)) (GhAT.fa120_0 _ _)) ro) (w_val (v := U64 (Gh.cl p 0)) (y_ld (ex (pt b_p 0)) GhAT.sc83 (r_b_p.val om rfl)) (w_val (y_bin e6 (evc (.int .u64 63)) (shl64 (c := 63) rfl)) (w_val (y_bin e6 e6 or64) (w_val (v := .agg (arr 2 (fun j => if j < 1 then U64 ((Gh.cl p 0) >>> 1) else U64 (((Gh.cl p 1) >>> 1) ||| ((Gh.cl p 0) <<< 63))))) (y_build (vs := #[(0, U64 ((Gh.cl p 0) >>> 1)), (1, U64 (((Gh.cl p 1) >>> 1) ||| ((Gh.cl p 0) <<< 63)))]) (mp_cons e6 (mp_cons e6 mp0)) (fun w => by kernel_rfl)) (w_alloc (m := 2) (F := fun j => if j < 1 then U64 (0#64) else U64 (0#64)) kr ?_)))))))))))))
 intro b_out w5 hbe_b_out r_b_out hb6
 have ne_b_p_b_out := r_b_p.nb hbe_b_out
 have ne_b_2_b_out := r_b_2.nb hbe_b_out
 have ge_b_out := gb_ hk.size hbe_b_out
 clear hbe_b_out
 replace r_b_p := r_b_p.step hb6
 replace r_b_2 := r_b_2.step hb6
 replace hk := thenB hk hb6
 refine w_sta (k := 2) (G := fun j => if j < 1 then U64 ((Gh.cl p 0) >>> 1) else U64 (((Gh.cl p 1) >>> 1) ||| ((Gh.cl p 0) <<< 63))) (ex (pt b_out 0)) ea oc GhAT.sz120 r_b_out om ?_
 clear r_b_out; intro w7 r_b_out hg8 _
 replace r_b_out := r_b_out.congr (g := fun j => if j < 1 then U64 ((Gh.cl p 0) >>> 1) else U64 (((Gh.cl p 1) >>> 1) ||| ((Gh.cl p 0) <<< 63))) (fun j hj => by rw [if_pos ⟨Nat.zero_le _, by omega⟩]; first | rfl | (simp only [Nat.sub_zero]))
 replace r_b_p := r_b_p.stepG hg8 om
 replace r_b_2 := r_b_2.stepG hg8 om
 replace hk := thenG hk hg8 om
 refine nt (wp_seq (sr (w_val (v := pt b_p 1) (y_off (y_fa (ex (pt b_p 0)) (GhAT.fa120_1 _ _)) ro) (w_val (v := U64 (Gh.cl p 1)) (y_ld (ex (pt b_p 1)) GhAT.sc83 (r_b_p.val om rfl)) (w_val (y_bin e6 (evc (U64 (1#64))) and64) (w_val (y_bin e6 (evc (U64 (1#64))) eql64) (nt ?_)))))))
 refine c_if (p := ((Gh.cl p 1) &&& (1#64)) = (1#64)) eb (fun hc9 => ?_) (fun hc9 => ?_)
 ·skip
  refine wp_region_lit (w_val (v := pt b_out 0) (y_off (y_fa (ex (pt b_out 0)) (GhAT.fa120_0 _ _)) ro) (w_val (v := U64 ((Gh.cl p 0) >>> 1)) (y_ld (ex (pt b_out 0)) GhAT.sc83 (r_b_out.val om pz)) (w_val (y_bin e6 (evc (U64 (16212958658533785600#64))) xor64) (w_val (v := pt b_out 0) (y_off (y_fa (ex (pt b_out 0)) (GhAT.fa120_0 _ _)) ro) (w_st (v := U64 (((Gh.cl p 0) >>> 1) ^^^ (16212958658533785600#64))) (ex (pt b_out 0)) e6 rfl rfl GhAT.sz83 r_b_out om ?_)))))
  clear r_b_out; intro w10 r_b_out hg11 _
  replace r_b_p := r_b_p.stepG hg11 om
  replace r_b_2 := r_b_2.stepG hg11 om
  replace hk := thenG hk hg11 om
  refine nt (sr (w_val (v := .agg (arr 2 (fun j => if j = 0 then U64 (((Gh.cl p 0) >>> 1) ^^^ (16212958658533785600#64)) else (fun j => if j < 1 then U64 ((Gh.cl p 0) >>> 1) else U64 (((Gh.cl p 1) >>> 1) ||| ((Gh.cl p 0) <<< 63))) j))) (y_lda (ex (pt b_out 0)) GhAT.ag120 GhAT.sz120 (fun j hj => by rw [Nat.zero_add]; exact (r_b_out.cell om))) (w_sta (k := 2) (G := fun j => if j = 0 then U64 (((Gh.cl p 0) >>> 1) ^^^ (16212958658533785600#64)) else (fun j => if j < 1 then U64 ((Gh.cl p 0) >>> 1) else U64 (((Gh.cl p 1) >>> 1) ||| ((Gh.cl p 0) <<< 63))) j) (ex (pt b_2 0)) ea oc GhAT.sz120 r_b_2 om ?_)))
  clear r_b_2; intro w12 r_b_2 hg13 _
  replace r_b_2 := r_b_2.congr (g := fun j => if j = 0 then U64 (((Gh.cl p 0) >>> 1) ^^^ (16212958658533785600#64)) else (fun j => if j < 1 then U64 ((Gh.cl p 0) >>> 1) else U64 (((Gh.cl p 1) >>> 1) ||| ((Gh.cl p 0) <<< 63))) j) (fun j hj => by rw [if_pos ⟨Nat.zero_le _, by omega⟩]; first | rfl | (simp only [Nat.sub_zero]))
  replace r_b_p := r_b_p.stepG hg13 om
  replace r_b_out := r_b_out.stepG hg13 om
  replace hk := thenG hk hg13 om
  refine nt (wp_ret (fin_arr (F := fun j => if j = 0 then U64 (((Gh.cl p 0) >>> 1) ^^^ (16212958658533785600#64)) else (fun j => if j < 1 then U64 ((Gh.cl p 0) >>> 1) else U64 (((Gh.cl p 1) >>> 1) ||| ((Gh.cl p 0) <<< 63))) j) rfl (ex (pt b_2 0)) GhAT.ag120 GhAT.sz120 r_b_2 om ?_))
  refine ⟨congrArg Ending.returned ?_, hk⟩
  show (.agg (arr 2 (fun j => if j = 0 then U64 (((Gh.cl p 0) >>> 1) ^^^ (16212958658533785600#64)) else (fun j => if j < 1 then U64 ((Gh.cl p 0) >>> 1) else U64 (((Gh.cl p 1) >>> 1) ||| ((Gh.cl p 0) <<< 63))) j)) : Value) = .agg (arr 2 (fun j => U64 (Gh.cl (Gh.tmw p) j)))
  exact congrArg Value.agg (arr_congr (fun j hj => by first | exact Gh.tm_yes p j hj (by assumption) | exact Gh.tm_no p j hj (by assumption)))
 ·skip
  refine wp_skip (then_n (sr (w_val (v := .agg (arr 2 (fun j => if j < 1 then U64 ((Gh.cl p 0) >>> 1) else U64 (((Gh.cl p 1) >>> 1) ||| ((Gh.cl p 0) <<< 63))))) (y_lda (ex (pt b_out 0)) GhAT.ag120 GhAT.sz120 (fun j hj => by rw [Nat.zero_add]; exact (r_b_out.cell om))) (w_sta (k := 2) (G := fun j => if j < 1 then U64 ((Gh.cl p 0) >>> 1) else U64 (((Gh.cl p 1) >>> 1) ||| ((Gh.cl p 0) <<< 63))) (ex (pt b_2 0)) ea oc GhAT.sz120 r_b_2 om ?_))))
  clear r_b_2; intro w14 r_b_2 hg15 _
  replace r_b_2 := r_b_2.congr (g := fun j => if j < 1 then U64 ((Gh.cl p 0) >>> 1) else U64 (((Gh.cl p 1) >>> 1) ||| ((Gh.cl p 0) <<< 63))) (fun j hj => by rw [if_pos ⟨Nat.zero_le _, by omega⟩]; first | rfl | (simp only [Nat.sub_zero]))
  replace r_b_p := r_b_p.stepG hg15 om
  replace r_b_out := r_b_out.stepG hg15 om
  replace hk := thenG hk hg15 om
  refine nt (wp_ret (fin_arr (F := fun j => if j < 1 then U64 ((Gh.cl p 0) >>> 1) else U64 (((Gh.cl p 1) >>> 1) ||| ((Gh.cl p 0) <<< 63))) rfl (ex (pt b_2 0)) GhAT.ag120 GhAT.sz120 r_b_2 om ?_))
  refine ⟨congrArg Ending.returned ?_, hk⟩
  show (.agg (arr 2 (fun j => if j < 1 then U64 ((Gh.cl p 0) >>> 1) else U64 (((Gh.cl p 1) >>> 1) ||| ((Gh.cl p 0) <<< 63)))) : Value) = .agg (arr 2 (fun j => U64 (Gh.cl (Gh.tmw p) j)))
  exact congrArg Value.agg (arr_congr (fun j hj => by first | exact Gh.tm_yes p j hj (by assumption) | exact Gh.tm_no p j hj (by assumption)))

theorem ghMultiples (b : Gh.W2) (w0 : World) : Calls Tryz.prog 57 #[.agg (arr 2 (fun j => U64 (Gh.cl b j)))] w0 fun e w' => e = .returned (.agg (arr 32 (fun j => U64 (Gh.cl (Gh.mw b (j / 2)) (j % 2))))) ∧ Below w0.heap.size w0 w' := by
 refine enter (n := 55) Tryz.func57 rfl rfl rfl ?_
 have hk : Below w0.heap.size w0 w0 := Below.refl _ _
 refine sr (w_box (m := 2) (F := fun j => U64 (Gh.cl b j)) ea rfl ?_)
 intro b_p w1 hbe_b_p r_b_p hb2
 have ge_b_p := gb_ hk.size hbe_b_p
 clear hbe_b_p
 replace hk := thenB hk hb2
 refine w_alloc (m := 32) (F := fun j => U64 (0#64)) kr ?_
 intro b_out w3 hbe_b_out r_b_out hb4
 have ne_b_p_b_out := r_b_p.nb hbe_b_out
 have ge_b_out := gb_ hk.size hbe_b_out
 clear hbe_b_out
 replace r_b_p := r_b_p.step hb4
 replace hk := thenB hk hb4
 refine nt (wp_seq (sr (w_as Ev.c (nt (wp_block ?_)))))
 refine c_loop (fun dN aN wl => ∃ (n : Nat), dN = (2 * n) ∧ ∃ f5, aN = fr 55 f5 ∧ (n = 8 ∨ n = 4 ∨ n = 2 ∨ n = 1 ∨ n = 0) ∧ f5 1 = pt b_p 0 ∧ f5 2 = pt b_out 0 ∧ f5 3 = .int .i64 ((n : Nat) : Int) ∧ Row wl b_p 120 2 (fun j => U64 (Gh.cl (Gh.pw b n) j)) ∧ Row wl b_out 121 32 (fun j => U64 (Gh.cl (Gh.mA b n (j / 2)) (j % 2))) ∧ Below w0.heap.size w0 wl) (2 * 8) ?_ ?_
 · exact ⟨8, rfl, _, rfl, iv, rfl, rfl, ti, (r_b_p.cg), (r_b_out.congr (fun j hj => by exact Gh.cA_8 b j)), hk⟩
 ·skip
  clear r_b_p r_b_out hk
  rintro _ _ w6 ⟨n, rfl, f5, rfl, i1_0, s1_1, s1_2, s1_3, r_b_p, r_b_out, hk⟩
  refine wp_seq (sr (w_mv (ei s1_3) (w_val (y_bin ei Ev.c b_gtr) (nt ?_))))
  refine c_if (p := 0 < ((n : Nat) : Int)) eb (fun hc7 => ?_) (fun hc7 => ?_)
  ·skip
   refine wp_skip (then_n (wp_seq (wp_block (wp_seq ?_))))
   have hn_ : n = 8 ∨ n = 4 ∨ n = 2 ∨ n = 1 := by omega
   refine wp_region_lit (w_mv (ei s1_3) (w_val (v := .agg (arr 2 (fun j => U64 (Gh.cl (Gh.pw b n) j)))) (y_lda (ex (pt b_p 0) s1_1) GhAT.ag120 GhAT.sz120 (fun j hj => by rw [Nat.zero_add]; exact (r_b_p.cell om))) (w_val (v := pt b_out (n * 2)) (y_off (y_ia (i := n) (ex (pt b_out 0) s1_2) ei Tryz.underlying121 GhAT.sz120 om om) ro) (w_sta (k := 2) (G := fun j => U64 (Gh.cl (Gh.pw b n) j)) (ex (pt b_out (n * 2))) ea oc GhAT.sz120 r_b_out om ?_))))
   clear r_b_out; intro w8 r_b_out hg9 _
   replace r_b_p := r_b_p.stepG hg9 om
   replace hk := thenG hk hg9 om
   refine nt (wp_region_lit (w_val (v := .agg (arr 2 (fun j => U64 (Gh.cl (Gh.pw b n) j)))) (y_lda (ex (pt b_p 0) s1_1) GhAT.ag120 GhAT.sz120 (fun j hj => by rw [Nat.zero_add]; exact (r_b_p.cell om))) (w_call (Tryz.func74) kr rfl (m1 ea) (ghTimes (Gh.pw b n) w8) ?_)))
   rintro _ w10 ⟨rfl, hb11⟩
   refine ⟨_, rfl, ?_⟩
   replace r_b_p := r_b_p.step hb11
   replace r_b_out := r_b_out.step hb11
   replace hk := thenB hk hb11
   refine w_sta (k := 2) (G := fun j => U64 (Gh.cl (Gh.tmw (Gh.pw b n)) j)) (ex (pt b_p 0) s1_1) ea oc GhAT.sz120 r_b_p om ?_
   clear r_b_p; intro w12 r_b_p hg13 _
   replace r_b_p := r_b_p.congr (g := fun j => U64 (Gh.cl (Gh.tmw (Gh.pw b n)) j)) (fun j hj => by rw [if_pos ⟨Nat.zero_le _, by omega⟩]; first | rfl | (simp only [Nat.sub_zero]))
   replace r_b_out := r_b_out.stepG hg13 om
   replace hk := thenG hk hg13 om
   refine wpList_nil (inb_n (then_n (wp_region_lit (w_mv (ei s1_3) (w_val (y_bin ei (evc (.int .u64 1)) (b_shr (c := 1) rfl om)) (w_as ei (wpList_nil ?_)))))))
   exact then_n ⟨_, om, n / 2, rfl, _, rfl, iv, s1_1, s1_2, (Eq.trans (b := .int .i64 (((n : Nat) : Int) / 2 ^ 1)) rfl (by rcases hn_ with rfl | rfl | rfl | rfl <;> rfl)), (r_b_p.congr (fun j hj => by rw [Gh.pw_step b n hn_])), (r_b_out.congr (fun j hj => by exact Gh.cA_step b n j hn_)), hk⟩
  ·skip
   refine wp_exit (then_x ?_)
   replace r_b_out := r_b_out.congr (g := fun j => U64 (Gh.cl (Gh.m0 b 0 (j / 2)) (j % 2))) (fun j hj => by obtain rfl : n = 0 := om; rfl)
   refine then_x (inb_x (then_n (wp_seq (sr (w_mv Ev.c (nt (wp_block ?_)))))))
   refine c_loop (fun dN aN wl => ∃ (i : Nat), dN = (16 - i) ∧ ∃ f14, aN = fr 55 f14 ∧ (i ≤ 16) ∧ f14 2 = pt b_out 0 ∧ f14 15 = .int .i64 ((i : Nat) : Int) ∧ Row wl b_out 121 32 (fun j => U64 (Gh.cl (Gh.m0 b i (j / 2)) (j % 2))) ∧ Below w0.heap.size w0 wl) (16 - 0) ?_ ?_
   · exact ⟨0, rfl, _, rfl, iv, s1_2, ti, (r_b_out.congr (fun j hj => by rfl)), hk⟩
   ·skip
    clear r_b_out hk
    clear r_b_p
    rintro _ _ w15 ⟨i, rfl, f14, rfl, i2_0, s2_2, s2_15, r_b_out, hk⟩
    refine sr (w_val (y_bin (ei s2_15) Ev.c b_lss) (nt (wp_seq ?_)))
    refine c_if (p := ((i : Nat) : Int) < 16) eb (fun hc16 => ?_) (fun hc16 => ?_)
    ·skip
     refine wp_skip (then_n (wp_seq (wp_block (sr (w_mv (ei s2_15) (w_as ei (nt (sr (w_as Ev.c (nt (wp_block ?_)))))))))))
     refine c_loop (fun dN aN wl => ∃ (m : Nat), dN = (2 * m) ∧ ∃ f17, aN = fr 55 f17 ∧ (m = 8 ∨ m = 4 ∨ m = 2 ∨ m = 1 ∨ m = 0) ∧ f17 2 = pt b_out 0 ∧ f17 4 = .int .i64 ((i : Nat) : Int) ∧ f17 5 = .int .i64 ((m : Nat) : Int) ∧ f17 15 = .int .i64 ((i : Nat) : Int) ∧ Row wl b_out 121 32 (fun j => U64 (Gh.cl (Gh.mR b i m (j / 2)) (j % 2))) ∧ Below w0.heap.size w0 wl) (2 * 8) ?_ ?_
     · exact ⟨8, rfl, _, rfl, iv, s2_2, rfl, ti, s2_15, (r_b_out.congr (fun j hj => by exact Gh.cR_8 b i j om)), hk⟩
     ·skip
      clear r_b_out hk
      rintro _ _ w18 ⟨m, rfl, f17, rfl, i3_0, s3_2, s3_4, s3_5, s3_15, r_b_out, hk⟩
      refine wp_seq (sr (w_mv (ei s3_5) (w_val (y_bin ei Ev.c b_gtr) (nt ?_))))
      refine c_if (p := 0 < ((m : Nat) : Int)) eb (fun hc19 => ?_) (fun hc19 => ?_)
      ·skip
       refine wp_skip (then_n (wp_seq (wp_block (wp_seq ?_))))
       have hn_ : m = 8 ∨ m = 4 ∨ m = 2 ∨ m = 1 := by omega
       refine wp_region_lit (w_mv (ei s3_4) (w_mv (ei s3_5) (w_val (y_bin ei ei (b_and (p := i) (q := m) om om om om)) (w_val (y_bin ei Ev.c b_neq) (w_mv eb ?_)))))
       by_cases hc20 : (((i &&& m) : Nat) : Int) ≠ 0
       ·skip
        refine w_val_g (v := .int .i64 ((i : Nat) : Int)) (wy rfl rfl (eb (dt hc20))) (y_mv (ei s3_4)) (w_val_g (v := .int .i64 ((m : Nat) : Int)) (wy rfl rfl (eb (dt hc20))) (y_mv (ei s3_5)) (w_val_g (wy rfl rfl (eb (dt hc20))) (y_bin ei ei b_neq) (w_val (y_pick_t (eb (dt hc20)) eb) (nt ?_))))
        refine c_if (p := ((i : Nat) : Int) ≠ ((m : Nat) : Int)) eb (fun hc21 => ?_) (fun hc21 => ?_)
        ·skip
         refine wp_seq (region_t 11 GhAT.mixed kr ?_)
         simp only [List.take_succ_cons, List.take_zero, List.drop_succ_cons, List.drop_zero]
         refine q_mv (ei s3_4) (q_val (v := pt b_out (i * 2)) (fun w' hw' => y_off (y_ia (i := i) (ex (pt b_out 0) s3_2) ei Tryz.underlying121 GhAT.sz120 om om) ro) (q_val (v := pt b_out (i * 2)) (fun w' hw' => y_off (y_fa (ex (pt b_out (i * 2))) (GhAT.fa120_0 _ _)) ro) (q_val (v := U64 (Gh.cl (Gh.mR b i m i) 0)) (fun w' hw' => y_ld (ex (pt b_out (i * 2))) GhAT.sc83 (cls_cell (r_b_out.val om (by (try dsimp only); rw [show (i * 2) / 2 = i from by omega, show (i * 2) % 2 = 0 from by omega])) r_b_out.lt w' hw')) (q_mv (ei s3_5) (q_val (v := pt b_out (m * 2)) (fun w' hw' => y_off (y_ia (i := m) (ex (pt b_out 0) s3_2) ei Tryz.underlying121 GhAT.sz120 om om) ro) (q_val (v := pt b_out (m * 2)) (fun w' hw' => y_off (y_fa (ex (pt b_out (m * 2))) (GhAT.fa120_0 _ _)) ro) (q_val (v := U64 (Gh.cl (Gh.mR b i m m) 0)) (fun w' hw' => y_ld (ex (pt b_out (m * 2))) GhAT.sc83 (cls_cell (r_b_out.val om (by (try dsimp only); rw [show (m * 2) / 2 = m from by omega, show (m * 2) % 2 = 0 from by omega])) r_b_out.lt w' hw')) (q_val (fun w' hw' => y_bin e6 e6 xor64) (q_val (v := pt b_out (i * 2)) (fun w' hw' => y_off (y_ia (i := i) (ex (pt b_out 0) s3_2) ei Tryz.underlying121 GhAT.sz120 om om) ro) (q_val (v := pt b_out (i * 2)) (fun w' hw' => y_off (y_fa (ex (pt b_out (i * 2))) (GhAT.fa120_0 _ _)) ro) (q_nil ?_)))))))))))
         intro w22 hb23
         replace r_b_out := r_b_out.step hb23
         replace hk := thenB hk hb23
         refine w_st (v := U64 ((Gh.cl (Gh.mR b i m i) 0) ^^^ (Gh.cl (Gh.mR b i m m) 0))) (ex (pt b_out (i * 2))) e6 rfl rfl GhAT.sz83 r_b_out om ?_
         clear r_b_out; intro w24 r_b_out hg25 _
         replace hk := thenG hk hg25 om
         refine nt (region_t 11 GhAT.mixed kr ?_)
         simp only [List.take_succ_cons, List.take_zero, List.drop_succ_cons, List.drop_zero]
         refine q_mv (ei s3_4) (q_val (v := pt b_out (i * 2)) (fun w' hw' => y_off (y_ia (i := i) (ex (pt b_out 0) s3_2) ei Tryz.underlying121 GhAT.sz120 om om) ro) (q_val (v := pt b_out ((i * 2) + 1)) (fun w' hw' => y_off (y_fa (ex (pt b_out (i * 2))) (GhAT.fa120_1 _ _)) ro) (q_val (v := U64 (Gh.cl (Gh.mR b i m i) 1)) (fun w' hw' => y_ld (ex (pt b_out ((i * 2) + 1))) GhAT.sc83 (cls_cell (r_b_out.val om (ng (by (try dsimp only); rw [show ((i * 2) + 1) / 2 = i from by omega, show ((i * 2) + 1) % 2 = 1 from by omega]))) r_b_out.lt w' hw')) (q_mv (ei s3_5) (q_val (v := pt b_out (m * 2)) (fun w' hw' => y_off (y_ia (i := m) (ex (pt b_out 0) s3_2) ei Tryz.underlying121 GhAT.sz120 om om) ro) (q_val (v := pt b_out ((m * 2) + 1)) (fun w' hw' => y_off (y_fa (ex (pt b_out (m * 2))) (GhAT.fa120_1 _ _)) ro) (q_val (v := U64 (Gh.cl (Gh.mR b i m m) 1)) (fun w' hw' => y_ld (ex (pt b_out ((m * 2) + 1))) GhAT.sc83 (cls_cell (r_b_out.val om (ng (by (try dsimp only); rw [show ((m * 2) + 1) / 2 = m from by omega, show ((m * 2) + 1) % 2 = 1 from by omega]))) r_b_out.lt w' hw')) (q_val (fun w' hw' => y_bin e6 e6 xor64) (q_val (v := pt b_out (i * 2)) (fun w' hw' => y_off (y_ia (i := i) (ex (pt b_out 0) s3_2) ei Tryz.underlying121 GhAT.sz120 om om) ro) (q_val (v := pt b_out ((i * 2) + 1)) (fun w' hw' => y_off (y_fa (ex (pt b_out (i * 2))) (GhAT.fa120_1 _ _)) ro) (q_nil ?_)))))))))))
         intro w26 hb27
         replace r_b_out := r_b_out.step hb27
         replace hk := thenB hk hb27
         refine w_st (v := U64 ((Gh.cl (Gh.mR b i m i) 1) ^^^ (Gh.cl (Gh.mR b i m m) 1))) (ex (pt b_out ((i * 2) + 1))) e6 rfl rfl GhAT.sz83 r_b_out om ?_
         clear r_b_out; intro w28 r_b_out hg29 _
         replace hk := thenG hk hg29 om
         refine wpList_nil (inb_n (then_n (wp_region_lit (w_mv (ei s3_5) (w_val (y_bin ei (evc (.int .u64 1)) (b_shr (c := 1) rfl om)) (w_as ei (wpList_nil ?_)))))))
         exact then_n ⟨_, om, m / 2, rfl, _, rfl, iv, s3_2, s3_4, (Eq.trans (b := .int .i64 (((m : Nat) : Int) / 2 ^ 1)) rfl (by rcases hn_ with rfl | rfl | rfl | rfl <;> rfl)), s3_15, (r_b_out.congr (fun j hj => by first | exact Gh.cR_yes b i m j om hn_ om om | exact Gh.cR_no b i m j om hn_ om)), hk⟩
        ·skip
         refine wp_skip (inb_n (then_n (wp_region_lit (w_mv (ei s3_5) (w_val (y_bin ei (evc (.int .u64 1)) (b_shr (c := 1) rfl om)) (w_as ei (wpList_nil ?_)))))))
         exact then_n ⟨_, om, m / 2, rfl, _, rfl, iv, s3_2, s3_4, (Eq.trans (b := .int .i64 (((m : Nat) : Int) / 2 ^ 1)) rfl (by rcases hn_ with rfl | rfl | rfl | rfl <;> rfl)), s3_15, (r_b_out.congr (fun j hj => by first | exact Gh.cR_yes b i m j om hn_ om om | exact Gh.cR_no b i m j om hn_ om)), hk⟩
       ·skip
        with_reducible refine w_skip ?_ ?_
        exact wn rfl rfl (eb (df hc20))
        with_reducible refine w_skip ?_ ?_
        exact wn rfl rfl (eb (df hc20))
        with_reducible refine w_skip ?_ ?_
        exact wn rfl rfl (eb (df hc20))
        refine w_val (y_pick_f (eb (df hc20)) Ev.c) (nt (c_ff eb (wp_skip (inb_n (then_n (wp_region_lit (w_mv (ei s3_5) (w_val (y_bin ei (evc (.int .u64 1)) (b_shr (c := 1) rfl om)) (w_as ei (wpList_nil ?_))))))))))
        exact then_n ⟨_, om, m / 2, rfl, _, rfl, iv, s3_2, s3_4, (Eq.trans (b := .int .i64 (((m : Nat) : Int) / 2 ^ 1)) rfl (by rcases hn_ with rfl | rfl | rfl | rfl <;> rfl)), s3_15, (r_b_out.congr (fun j hj => by first | exact Gh.cR_yes b i m j om hn_ om om | exact Gh.cR_no b i m j om hn_ om)), hk⟩
      ·skip
       refine wp_exit (then_x (then_x (inb_x (inb_n (then_n (wp_region_lit (w_val (y_bin (ei s3_15) Ev.c (b_add om)) (w_mv ei (wpList_nil ?_)))))))))
       exact then_n ⟨_, om, i + 1, rfl, _, rfl, iv, s3_2, ti, (r_b_out.congr (fun j hj => by obtain rfl : m = 0 := om; exact Gh.cR_0 b i j om)), hk⟩
    ·skip
     refine wp_exit (then_x ?_)
     replace r_b_out := r_b_out.congr (g := fun j => U64 (Gh.cl (Gh.mw b (j / 2)) (j % 2))) (fun j hj => by obtain rfl : i = 16 := om; exact Gh.c0_16 b j hj)
     refine then_x (inb_x (then_n (sr (w_val (v := .agg (arr 32 (fun j => U64 (Gh.cl (Gh.mw b (j / 2)) (j % 2))))) (y_lda (ex (pt b_out 0) s2_2) GhAT.ag121 GhAT.sz121 (fun j hj => by rw [Nat.zero_add]; exact (r_b_out.cell om))) (w_sta (k := 32) (G := fun j => U64 (Gh.cl (Gh.mw b (j / 2)) (j % 2))) (ex (pt b_out 0) s2_2) ea oc GhAT.sz121 r_b_out om ?_)))))
     clear r_b_out; intro w30 r_b_out hg31 _
     replace r_b_out := r_b_out.congr (g := fun j => U64 (Gh.cl (Gh.mw b (j / 2)) (j % 2))) (fun j hj => by rw [if_pos ⟨Nat.zero_le _, by omega⟩]; first | rfl | (simp only [Nat.sub_zero]))
     replace hk := thenG hk hg31 om
     refine nt (wp_ret (fin_arr (F := fun j => U64 (Gh.cl (Gh.mw b (j / 2)) (j % 2))) rfl (ex (pt b_out 0) s2_2) GhAT.ag121 GhAT.sz121 r_b_out om ?_))
     exact ⟨rfl, hk⟩

theorem ghBy (f : Nat → BitVec 64) (a b : Gh.W2) (m : Nat) (w0 : World) (r_m : Row w0 m 121 32 (fun j => U64 (Gh.cl (Gh.mw b (j / 2)) (j % 2)))) (hF : Gh.Fold w0 f) : Calls Tryz.prog 59 #[.agg (arr 2 (fun j => U64 (Gh.cl a j))), pt m 0] w0 fun e w' => e = .returned (.agg (arr 2 (fun j => U64 (Gh.cl (Gh.byw f a b) j)))) ∧ Below w0.heap.size w0 w' := by
 refine enter (n := 68) Tryz.func59 rfl rfl rfl ?_
 have hk : Below w0.heap.size w0 w0 := Below.refl _ _
 have lt_m := r_m.lt
 refine sr (w_box (m := 2) (F := fun j => U64 (Gh.cl a j)) ea rfl ?_)
 intro b_p w1 hbe_b_p r_b_p hb2
 have ne_m_b_p := r_m.nb hbe_b_p
 have ge_b_p := gb_ hk.size hbe_b_p
 clear hbe_b_p
 replace r_m := r_m.step hb2
 replace hk := thenB hk hb2
 replace hF := Gh.Fold.below hF hb2
 refine w_alloc (m := 2) (F := fun j => if j < 1 then U64 (0#64) else U64 (0#64)) kr ?_
 intro b_4 w3 hbe_b_4 r_b_4 hb4
 have ne_m_b_4 := r_m.nb hbe_b_4
 have ne_b_p_b_4 := r_b_p.nb hbe_b_4
 have ge_b_4 := gb_ hk.size hbe_b_4
 clear hbe_b_4
 replace r_m := r_m.step hb4
 replace r_b_p := r_b_p.step hb4
 replace hk := thenB hk hb4
 replace hF := Gh.Fold.below hF hb4
 refine nt (sr (w_alloc (m := 2) (F := fun j => if j < 1 then U64 (0#64) else U64 (0#64)) kr ?_))
 intro b_z w5 hbe_b_z r_b_z hb6
 have ne_m_b_z := r_m.nb hbe_b_z
 have ne_b_p_b_z := r_b_p.nb hbe_b_z
 have ne_b_4_b_z := r_b_4.nb hbe_b_z
 have ge_b_z := gb_ hk.size hbe_b_z
 clear hbe_b_z
 replace r_m := r_m.step hb6
 replace r_b_p := r_b_p.step hb6
 replace r_b_4 := r_b_4.step hb6
 replace hk := thenB hk hb6
 replace hF := Gh.Fold.below hF hb6
 refine nt (wp_seq (sr (w_val (v := pt b_p 1) (y_off (y_fa (ex (pt b_p 0)) (GhAT.fa120_1 _ _)) ro) (w_val (v := U64 (Gh.cl a 1)) (y_ld (ex (pt b_p 1)) GhAT.sc83 (r_b_p.val om rfl)) (w_val (v := pt b_p 0) (y_off (y_fa (ex (pt b_p 0)) (GhAT.fa120_0 _ _)) ro) (w_val (v := U64 (Gh.cl a 0)) (y_ld (ex (pt b_p 0)) GhAT.sc83 (r_b_p.val om rfl)) (w_val (v := .agg (arr 2 (fun j => U64 (Gh.wq a j)))) (y_build (vs := #[(0, U64 (Gh.cl a 1)), (1, U64 (Gh.cl a 0))]) (mp_cons e6 (mp_cons e6 mp0)) (fun w => by kernel_rfl)) (w_mv Ev.c (nt (wp_block ?_))))))))))
 refine c_loop (fun dN aN wl => ∃ (q : Nat), dN = (2 - q) ∧ ∃ f7, aN = fr 68 f7 ∧ (q ≤ 2) ∧ f7 1 = pt m 0 ∧ f7 4 = pt b_4 0 ∧ f7 5 = pt b_z 0 ∧ f7 13 = .agg (arr 2 (fun j => U64 (Gh.wq a j))) ∧ f7 14 = .int .i64 ((q : Nat) : Int) ∧ Row wl m 121 32 (fun j => U64 (Gh.cl (Gh.mw b (j / 2)) (j % 2))) ∧ Row wl b_p 120 2 (fun j => U64 (Gh.cl a j)) ∧ Row wl b_4 120 2 (fun j => if j < 1 then U64 (0#64) else U64 (0#64)) ∧ Row wl b_z 120 2 (fun j => U64 (Gh.cl (Gh.zz f a b q) j)) ∧ Gh.Fold wl f ∧ Below w0.heap.size w0 wl) (2 - 0) ?_ ?_
 · exact ⟨0, rfl, _, rfl, iv, rfl, rfl, rfl, rfl, ti, r_m, r_b_p, r_b_4, (r_b_z.congr (fun j hj => by exact Gh.zz_0 f a b j hj)), hF, hk⟩
 ·skip
  clear r_m r_b_p r_b_4 r_b_z hF hk
  rintro _ _ w8 ⟨q, rfl, f7, rfl, i1_0, s1_1, s1_4, s1_5, s1_13, s1_14, r_m, r_b_p, r_b_4, r_b_z, hF, hk⟩
  refine sr (w_val (y_bin (ei s1_14) Ev.c b_lss) (nt (wp_seq ?_)))
  refine c_if (p := ((q : Nat) : Int) < 2) eb (fun hc9 => ?_) (fun hc9 => ?_)
  ·skip
   refine wp_skip (then_n (wp_seq (wp_block (sr (w_val (v := U64 (Gh.wq a q)) (y_idxa (m := 2) (F := fun j => U64 (Gh.wq a j)) (i := q) (ea s1_13) (ei s1_14) Tryz.underlying139 GhAT.sc83 GhAT.sz83 om om) (w_as e6 (nt (sr (w_mv Ev.c (nt (wp_block ?_)))))))))))
   refine c_loop (fun dN aN wl => ∃ (k : Nat), dN = (16 - k) ∧ ∃ f10, aN = fr 68 f10 ∧ (k ≤ 16) ∧ f10 1 = pt m 0 ∧ f10 4 = pt b_4 0 ∧ f10 5 = pt b_z 0 ∧ f10 7 = U64 (Gh.wq a q >>> (4 * k)) ∧ f10 13 = .agg (arr 2 (fun j => U64 (Gh.wq a j))) ∧ f10 14 = .int .i64 ((q : Nat) : Int) ∧ f10 17 = .int .i64 ((k : Nat) : Int) ∧ Row wl m 121 32 (fun j => U64 (Gh.cl (Gh.mw b (j / 2)) (j % 2))) ∧ Row wl b_p 120 2 (fun j => U64 (Gh.cl a j)) ∧ Row wl b_4 120 2 (fun j => if j < 1 then U64 (0#64) else U64 (0#64)) ∧ Row wl b_z 120 2 (fun j => U64 (Gh.cl (Gh.bh f b (Gh.wq a q) (Gh.zz f a b q) k) j)) ∧ Gh.Fold wl f ∧ Below w0.heap.size w0 wl) (16 - 0) ?_ ?_
   · exact ⟨0, rfl, _, rfl, iv, s1_1, s1_4, s1_5, (Eq.trans (b := U64 (Gh.wq a q)) rfl (by exact congrArg U64 (BitVec.ushiftRight_zero _).symm)), s1_13, s1_14, ti, r_m, r_b_p, r_b_4, (r_b_z.congr (fun j hj => by rfl)), hF, hk⟩
   ·skip
    clear r_m r_b_p r_b_4 r_b_z hF hk
    rintro _ _ w11 ⟨k, rfl, f10, rfl, i2_0, s2_1, s2_4, s2_5, s2_7, s2_13, s2_14, s2_17, r_m, r_b_p, r_b_4, r_b_z, hF, hk⟩
    refine sr (w_val (y_bin (ei s2_17) Ev.c b_lss) (nt (wp_seq ?_)))
    refine c_if (p := ((k : Nat) : Int) < 16) eb (fun hc12 => ?_) (fun hc12 => ?_)
    ·skip
     refine wp_skip (then_n (wp_seq (wp_block (sr (w_val (v := pt b_z 1) (y_off (y_fa (ex (pt b_z 0) s2_5) (GhAT.fa120_1 _ _)) ro) (w_val (v := U64 (Gh.cl (Gh.bh f b (Gh.wq a q) (Gh.zz f a b q) k) 1)) (y_ld (ex (pt b_z 1)) GhAT.sc83 (r_b_z.val om rfl)) (w_val (y_bin e6 (evc (U64 (15#64))) and64) (w_as e6 (nt (sr (w_val (v := pt b_z 0) (y_off (y_fa (ex (pt b_z 0) s2_5) (GhAT.fa120_0 _ _)) ro) (w_val (v := U64 (Gh.cl (Gh.bh f b (Gh.wq a q) (Gh.zz f a b q) k) 0)) (y_ld (ex (pt b_z 0)) GhAT.sc83 (r_b_z.val om rfl)) (w_val (y_bin e6 (evc (.int .u64 4)) (shr64 (c := 4) rfl)) (w_val (v := pt b_z 1) (y_off (y_fa (ex (pt b_z 0) s2_5) (GhAT.fa120_1 _ _)) ro) (w_val (v := U64 (Gh.cl (Gh.bh f b (Gh.wq a q) (Gh.zz f a b q) k) 1)) (y_ld (ex (pt b_z 1)) GhAT.sc83 (r_b_z.val om rfl)) (w_val (y_bin e6 (evc (.int .u64 4)) (shr64 (c := 4) rfl)) (w_val (v := pt b_z 0) (y_off (y_fa (ex (pt b_z 0) s2_5) (GhAT.fa120_0 _ _)) ro) (w_val (v := U64 (Gh.cl (Gh.bh f b (Gh.wq a q) (Gh.zz f a b q) k) 0)) (y_ld (ex (pt b_z 0)) GhAT.sc83 (r_b_z.val om rfl)) (w_val (y_bin e6 (evc (.int .u64 60)) (shl64 (c := 60) rfl)) (w_val (y_bin e6 e6 or64) (w_val (v := .agg (arr 2 (fun j => if j < 1 then U64 ((Gh.cl (Gh.bh f b (Gh.wq a q) (Gh.zz f a b q) k) 0) >>> 4) else U64 (((Gh.cl (Gh.bh f b (Gh.wq a q) (Gh.zz f a b q) k) 1) >>> 4) ||| ((Gh.cl (Gh.bh f b (Gh.wq a q) (Gh.zz f a b q) k) 0) <<< 60))))) (y_build (vs := #[(0, U64 ((Gh.cl (Gh.bh f b (Gh.wq a q) (Gh.zz f a b q) k) 0) >>> 4)), (1, U64 (((Gh.cl (Gh.bh f b (Gh.wq a q) (Gh.zz f a b q) k) 1) >>> 4) ||| ((Gh.cl (Gh.bh f b (Gh.wq a q) (Gh.zz f a b q) k) 0) <<< 60)))]) (mp_cons e6 (mp_cons e6 mp0)) (fun w => by kernel_rfl)) (w_sta (k := 2) (G := fun j => if j < 1 then U64 ((Gh.cl (Gh.bh f b (Gh.wq a q) (Gh.zz f a b q) k) 0) >>> 4) else U64 (((Gh.cl (Gh.bh f b (Gh.wq a q) (Gh.zz f a b q) k) 1) >>> 4) ||| ((Gh.cl (Gh.bh f b (Gh.wq a q) (Gh.zz f a b q) k) 0) <<< 60))) (ex (pt b_z 0) s2_5) ea oc GhAT.sz120 r_b_z om ?_))))))))))))))))))))))
     clear r_b_z; intro w13 r_b_z hg14 _
     replace r_b_z := r_b_z.congr (g := fun j => if j < 1 then U64 ((Gh.cl (Gh.bh f b (Gh.wq a q) (Gh.zz f a b q) k) 0) >>> 4) else U64 (((Gh.cl (Gh.bh f b (Gh.wq a q) (Gh.zz f a b q) k) 1) >>> 4) ||| ((Gh.cl (Gh.bh f b (Gh.wq a q) (Gh.zz f a b q) k) 0) <<< 60))) (fun j hj => by rw [if_pos ⟨Nat.zero_le _, by omega⟩]; first | rfl | (simp only [Nat.sub_zero]))
     replace r_m := r_m.stepG hg14 om
     replace r_b_p := r_b_p.stepG hg14 om
     replace r_b_4 := r_b_4.stepG hg14 om
     replace hk := thenG hk hg14 om
     replace hF := Gh.Fold.grown hF hg14 om
     refine nt (wp_seq (region_t 8 GhAT.mixed kr ?_))
     simp only [List.take_succ_cons, List.take_zero, List.drop_succ_cons, List.drop_zero]
     refine q_val (v := pt b_z 0) (fun w' hw' => y_off (y_fa (ex (pt b_z 0) s2_5) (GhAT.fa120_0 _ _)) ro) (q_val (v := U64 ((Gh.cl (Gh.bh f b (Gh.wq a q) (Gh.zz f a b q) k) 0) >>> 4)) (fun w' hw' => y_ld (ex (pt b_z 0)) GhAT.sc83 (cls_cell (r_b_z.val om pz) r_b_z.lt w' hw')) (q_mv e6 (q_val (fun w' hw' => y_ia1z (i := (((Gh.cl (Gh.bh f b (Gh.wq a q) (Gh.zz f a b q) k) 1) &&& (15#64)).toNat)) Ev.g (ex (.int .u64 (((Gh.cl (Gh.bh f b (Gh.wq a q) (Gh.zz f a b q) k) 1) &&& (15#64)).toNat : Int))) Tryz.underlying140 GhAT.sz83 rfl (by exact Gh.nib_lt _)) (q_val (v := U64 (f (((Gh.cl (Gh.bh f b (Gh.wq a q) (Gh.zz f a b q) k) 1) &&& (15#64)).toNat))) (fun w' hw' => y_ld (ex (pt 0 (((Gh.cl (Gh.bh f b (Gh.wq a q) (Gh.zz f a b q) k) 1) &&& (15#64)).toNat))) GhAT.sc83 ((Gh.Fold.below hF hw').at_ (by exact Gh.nib_lt _))) (q_val (fun w' hw' => y_bin e6 (evc (.int .u64 48)) (shl64 (c := 48) rfl)) (q_val (fun w' hw' => y_bin e6 e6 xor64) (q_val (v := pt b_z 0) (fun w' hw' => y_off (y_fa (ex (pt b_z 0) s2_5) (GhAT.fa120_0 _ _)) ro) (q_nil ?_))))))))
     intro w15 hb16
     replace r_m := r_m.step hb16
     replace r_b_p := r_b_p.step hb16
     replace r_b_4 := r_b_4.step hb16
     replace r_b_z := r_b_z.step hb16
     replace hk := thenB hk hb16
     replace hF := Gh.Fold.below hF hb16
     refine w_st (v := U64 (((Gh.cl (Gh.bh f b (Gh.wq a q) (Gh.zz f a b q) k) 0) >>> 4) ^^^ ((f (((Gh.cl (Gh.bh f b (Gh.wq a q) (Gh.zz f a b q) k) 1) &&& (15#64)).toNat)) <<< 48))) (ex (pt b_z 0)) e6 rfl rfl GhAT.sz83 r_b_z om ?_
     clear r_b_z; intro w17 r_b_z hg18 _
     replace r_m := r_m.stepG hg18 om
     replace r_b_p := r_b_p.stepG hg18 om
     replace r_b_4 := r_b_4.stepG hg18 om
     replace hk := thenG hk hg18 om
     replace hF := Gh.Fold.grown hF hg18 om
     refine nt (wp_seq (region_t 11 GhAT.mixed kr ?_))
     simp only [List.take_succ_cons, List.take_zero, List.drop_succ_cons, List.drop_zero]
     refine q_val (v := pt b_z 0) (fun w' hw' => y_off (y_fa (ex (pt b_z 0) s2_5) (GhAT.fa120_0 _ _)) ro) (q_val (v := U64 (((Gh.cl (Gh.bh f b (Gh.wq a q) (Gh.zz f a b q) k) 0) >>> 4) ^^^ ((f (((Gh.cl (Gh.bh f b (Gh.wq a q) (Gh.zz f a b q) k) 1) &&& (15#64)).toNat)) <<< 48))) (fun w' hw' => y_ld (ex (pt b_z 0)) GhAT.sc83 (cls_cell (r_b_z.val om (if_pos rfl)) r_b_z.lt w' hw')) (q_mv (ex (pt m 0) s2_1) (q_mv (e6 s2_7) (q_val (fun w' hw' => y_bin e6 (evc (U64 (15#64))) and64) (q_val (fun w' hw' => y_nc (ex (pt m 0))) (q_val (v := pt m (((Gh.wq a q >>> (4 * k)) &&& (15#64)).toNat * 2)) (fun w' hw' => y_off (y_ia (i := (((Gh.wq a q >>> (4 * k)) &&& (15#64)).toNat)) (ex (pt m 0)) (ex (.int .u64 (((Gh.wq a q >>> (4 * k)) &&& (15#64)).toNat : Int))) Tryz.underlying121 GhAT.sz120 rfl (by exact Gh.nib_lt _)) ro) (q_val (v := pt m (((Gh.wq a q >>> (4 * k)) &&& (15#64)).toNat * 2)) (fun w' hw' => y_off (y_fa (ex (pt m (((Gh.wq a q >>> (4 * k)) &&& (15#64)).toNat * 2))) (GhAT.fa120_0 _ _)) ro) ?_)))))))
     have hn1 := Gh.nib_lt (Gh.wq a q >>> (4 * k))
     refine q_val (v := U64 (Gh.cl (Gh.mw b (((Gh.wq a q >>> (4 * k)) &&& (15#64)).toNat)) 0)) (fun w' hw' => y_ld (ex (pt m (((Gh.wq a q >>> (4 * k)) &&& (15#64)).toNat * 2))) GhAT.sc83 (cls_cell (r_m.val om (by (try dsimp only); rw [show (((Gh.wq a q >>> (4 * k)) &&& (15#64)).toNat * 2) / 2 = ((Gh.wq a q >>> (4 * k)) &&& (15#64)).toNat from by omega, show (((Gh.wq a q >>> (4 * k)) &&& (15#64)).toNat * 2) % 2 = 0 from by omega])) r_m.lt w' hw')) (q_val (fun w' hw' => y_bin e6 e6 xor64) (q_val (v := pt b_z 0) (fun w' hw' => y_off (y_fa (ex (pt b_z 0) s2_5) (GhAT.fa120_0 _ _)) ro) (q_nil ?_)))
     intro w19 hb20
     replace r_m := r_m.step hb20
     replace r_b_p := r_b_p.step hb20
     replace r_b_4 := r_b_4.step hb20
     replace r_b_z := r_b_z.step hb20
     replace hk := thenB hk hb20
     replace hF := Gh.Fold.below hF hb20
     refine w_st (v := U64 ((((Gh.cl (Gh.bh f b (Gh.wq a q) (Gh.zz f a b q) k) 0) >>> 4) ^^^ ((f (((Gh.cl (Gh.bh f b (Gh.wq a q) (Gh.zz f a b q) k) 1) &&& (15#64)).toNat)) <<< 48)) ^^^ (Gh.cl (Gh.mw b (((Gh.wq a q >>> (4 * k)) &&& (15#64)).toNat)) 0))) (ex (pt b_z 0)) e6 rfl rfl GhAT.sz83 r_b_z om ?_
     clear r_b_z; intro w21 r_b_z hg22 _
     replace r_m := r_m.stepG hg22 om
     replace r_b_p := r_b_p.stepG hg22 om
     replace r_b_4 := r_b_4.stepG hg22 om
     replace hk := thenG hk hg22 om
     replace hF := Gh.Fold.grown hF hg22 om
     refine nt (wp_seq (region_t 11 GhAT.mixed kr ?_))
     simp only [List.take_succ_cons, List.take_zero, List.drop_succ_cons, List.drop_zero]
     refine q_val (v := pt b_z 1) (fun w' hw' => y_off (y_fa (ex (pt b_z 0) s2_5) (GhAT.fa120_1 _ _)) ro) (q_val (v := U64 (((Gh.cl (Gh.bh f b (Gh.wq a q) (Gh.zz f a b q) k) 1) >>> 4) ||| ((Gh.cl (Gh.bh f b (Gh.wq a q) (Gh.zz f a b q) k) 0) <<< 60))) (fun w' hw' => y_ld (ex (pt b_z 1)) GhAT.sc83 (cls_cell (r_b_z.val om (ng (ng (ng dv)))) r_b_z.lt w' hw')) (q_mv (ex (pt m 0) s2_1) (q_mv (e6 s2_7) (q_val (fun w' hw' => y_bin e6 (evc (U64 (15#64))) and64) (q_val (fun w' hw' => y_nc (ex (pt m 0))) (q_val (v := pt m (((Gh.wq a q >>> (4 * k)) &&& (15#64)).toNat * 2)) (fun w' hw' => y_off (y_ia (i := (((Gh.wq a q >>> (4 * k)) &&& (15#64)).toNat)) (ex (pt m 0)) (ex (.int .u64 (((Gh.wq a q >>> (4 * k)) &&& (15#64)).toNat : Int))) Tryz.underlying121 GhAT.sz120 rfl (by exact Gh.nib_lt _)) ro) (q_val (v := pt m ((((Gh.wq a q >>> (4 * k)) &&& (15#64)).toNat * 2) + 1)) (fun w' hw' => y_off (y_fa (ex (pt m (((Gh.wq a q >>> (4 * k)) &&& (15#64)).toNat * 2))) (GhAT.fa120_1 _ _)) ro) ?_)))))))
     have hn2 := Gh.nib_lt (Gh.wq a q >>> (4 * k))
     refine q_val (v := U64 (Gh.cl (Gh.mw b (((Gh.wq a q >>> (4 * k)) &&& (15#64)).toNat)) 1)) (fun w' hw' => y_ld (ex (pt m ((((Gh.wq a q >>> (4 * k)) &&& (15#64)).toNat * 2) + 1))) GhAT.sc83 (cls_cell (r_m.val om (by (try dsimp only); rw [show ((((Gh.wq a q >>> (4 * k)) &&& (15#64)).toNat * 2) + 1) / 2 = ((Gh.wq a q >>> (4 * k)) &&& (15#64)).toNat from by omega, show ((((Gh.wq a q >>> (4 * k)) &&& (15#64)).toNat * 2) + 1) % 2 = 1 from by omega])) r_m.lt w' hw')) (q_val (fun w' hw' => y_bin e6 e6 xor64) (q_val (v := pt b_z 1) (fun w' hw' => y_off (y_fa (ex (pt b_z 0) s2_5) (GhAT.fa120_1 _ _)) ro) (q_nil ?_)))
     intro w23 hb24
     replace r_m := r_m.step hb24
     replace r_b_p := r_b_p.step hb24
     replace r_b_4 := r_b_4.step hb24
     replace r_b_z := r_b_z.step hb24
     replace hk := thenB hk hb24
     replace hF := Gh.Fold.below hF hb24
     refine w_st (v := U64 ((((Gh.cl (Gh.bh f b (Gh.wq a q) (Gh.zz f a b q) k) 1) >>> 4) ||| ((Gh.cl (Gh.bh f b (Gh.wq a q) (Gh.zz f a b q) k) 0) <<< 60)) ^^^ (Gh.cl (Gh.mw b (((Gh.wq a q >>> (4 * k)) &&& (15#64)).toNat)) 1))) (ex (pt b_z 1)) e6 rfl rfl GhAT.sz83 r_b_z om ?_
     clear r_b_z; intro w25 r_b_z hg26 _
     replace r_m := r_m.stepG hg26 om
     replace r_b_p := r_b_p.stepG hg26 om
     replace r_b_4 := r_b_4.stepG hg26 om
     replace hk := thenG hk hg26 om
     replace hF := Gh.Fold.grown hF hg26 om
     refine nt (wp_region_lit (w_mv (e6 s2_7) (w_val (y_bin e6 (evc (.int .u64 4)) (shr64 (c := 4) rfl)) (w_as e6 (wpList_nil (inb_n (then_n (wp_region_lit (w_val (y_bin (ei s2_17) Ev.c (b_add om)) (w_mv ei (wpList_nil ?_)))))))))))
     exact then_n ⟨_, om, k + 1, rfl, _, rfl, iv, s2_1, s2_4, s2_5, (Eq.trans (b := U64 ((Gh.wq a q >>> (4 * k)) >>> 4)) rfl (by exact congrArg U64 (BitVec.shiftRight_add _ _ _).symm)), s2_13, s2_14, ti, r_m, r_b_p, r_b_4, (r_b_z.congr (fun j hj => by exact Gh.bh_row f b (Gh.wq a q) (Gh.zz f a b q) k j hj)), hF, hk⟩
    ·skip
     refine wp_exit (then_x (then_x (inb_x (inb_n (then_n (wp_region_lit (w_val (y_bin (ei s2_14) Ev.c (b_add om)) (w_mv ei (wpList_nil ?_)))))))))
     exact then_n ⟨_, om, q + 1, rfl, _, rfl, iv, s2_1, s2_4, s2_5, s2_13, ti, r_m, r_b_p, r_b_4, (r_b_z.congr (fun j hj => by obtain rfl : k = 16 := om; rfl)), hF, hk⟩
  ·skip
   refine wp_exit (then_x ?_)
   replace r_b_z := r_b_z.congr (g := fun j => U64 (Gh.cl (Gh.byw f a b) j)) (fun j hj => by obtain rfl : q = 2 := om; rfl)
   refine then_x (inb_x (then_n (sr (w_val (v := .agg (arr 2 (fun j => U64 (Gh.cl (Gh.byw f a b) j)))) (y_lda (ex (pt b_z 0) s1_5) GhAT.ag120 GhAT.sz120 (fun j hj => by rw [Nat.zero_add]; exact (r_b_z.cell om))) (w_sta (k := 2) (G := fun j => U64 (Gh.cl (Gh.byw f a b) j)) (ex (pt b_4 0) s1_4) ea oc GhAT.sz120 r_b_4 om ?_)))))
   clear r_b_4; intro w27 r_b_4 hg28 _
   replace r_b_4 := r_b_4.congr (g := fun j => U64 (Gh.cl (Gh.byw f a b) j)) (fun j hj => by rw [if_pos ⟨Nat.zero_le _, by omega⟩]; first | rfl | (simp only [Nat.sub_zero]))
   replace r_m := r_m.stepG hg28 om
   replace r_b_p := r_b_p.stepG hg28 om
   replace r_b_z := r_b_z.stepG hg28 om
   replace hk := thenG hk hg28 om
   replace hF := Gh.Fold.grown hF hg28 om
   refine nt (wp_ret (fin_arr (F := fun j => U64 (Gh.cl (Gh.byw f a b) j)) rfl (ex (pt b_4 0) s1_4) GhAT.ag120 GhAT.sz120 r_b_4 om ?_))
   exact ⟨rfl, hk⟩
end Go.Proofs.YtdmbfimjbmfbaaaGreat
