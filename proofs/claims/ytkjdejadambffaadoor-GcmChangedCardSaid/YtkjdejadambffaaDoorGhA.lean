/-
  Sums over the field: the program's elements, their multiples and products. Conditions as each says.
-/
import Derived.Test.YtkjdejadambffaaDoorRows
import Derived.Test.YtkjdejadambffaaDoorGen
import Derived.Test.YtkjdejadambffaaDoorGhPlain
import Derived.ProofKit
namespace Go.Proofs.YtkjdejadambffaaDoor
open Go.RowKit
set_option linter.unusedSimpArgs false
set_option linter.unusedVariables false
set_option maxRecDepth 100000
set_option maxHeartbeats 1000000
namespace GhAT
theorem mixed : Tryd.prog.follows .mixedOrders = true := by kernel_rfl
theorem ag115 : (Tryd.prog.underlying 115).map isAggD = some true := by rw [Tryd.underlying115]; rfl
theorem ag116 : (Tryd.prog.underlying 116).map isAggD = some true := by rw [Tryd.underlying116]; rfl
theorem fa115_0 (g off : Nat) : ∀ w, (Instr.fieldAt 115 (.pointer (some ⟨g, off, none⟩)) 0).run Tryd.prog w = .ok (.pointer (some ⟨g, off + 0, none⟩)) w := fun w => by kernel_rfl
theorem fa115_1 (g off : Nat) : ∀ w, (Instr.fieldAt 115 (.pointer (some ⟨g, off, none⟩)) 1).run Tryd.prog w = .ok (.pointer (some ⟨g, off + 1, none⟩)) w := fun w => by kernel_rfl
theorem sc62 : (Tryd.prog.underlying 62).map scal = some true := by rw [Tryd.underlying62]; rfl
theorem so5 : (Tryd.prog.underlying 5).isSome = true := by rw [Tryd.underlying5]; rfl
theorem so62 : (Tryd.prog.underlying 62).isSome = true := by rw [Tryd.underlying62]; rfl
theorem sz115 : (Tryd.prog.info? 115).map (·.size) = some 2 := by kernel_rfl
theorem sz116 : (Tryd.prog.info? 116).map (·.size) = some 32 := by kernel_rfl
theorem sz5 : (Tryd.prog.info? 5).map (·.size) = some 1 := by kernel_rfl
theorem sz62 : (Tryd.prog.info? 62).map (·.size) = some 1 := by kernel_rfl
end GhAT
theorem ghLoad (s : List (BitVec 8)) (hs : s.length = 16) (w0 : World) : Calls Tryd.prog 62 #[.string (str s)] w0 fun e w' => e = .returned (.agg (arr 2 (fun j => U64 (Gh.cl (Gh.lw s) j)))) ∧ Below w0.heap.size w0 w' := by
 refine enter (n := 28) Tryd.func62 rfl rfl rfl ?_
 have hk : Below w0.heap.size w0 w0 := Below.refl _ _
 refine sr ?_
 refine w_alloc (m := 2) (F := fun j => if j < 1 then U64 (0#64) else U64 (0#64)) (by kernel_rfl) ?_
 intro b_p w1 hbe_b_p r_b_p hb2
 have ge_b_p := gb_ hk.size hbe_b_p
 clear hbe_b_p
 replace hk := thenB hk hb2
 refine nt ?_
 refine wp_seq ?_
 refine sr ?_
 refine w_mv Ev.c ?_
 refine nt ?_
 refine wp_block ?_
 refine c_loop (fun dN aN wl => ∃ (i : Nat), dN = (8 - i) ∧ ∃ f3, aN = fr 28 f3 ∧ (i ≤ 8) ∧ f3 0 = .string (str s) ∧ f3 2 = pt b_p 0 ∧ f3 4 = .int .i64 ((i : Nat) : Int) ∧ Row wl b_p 115 2 (fun j => U64 (Gh.cl (Gh.lp s i) j)) ∧ Below w0.heap.size w0 wl) (8 - 0) ?_ ?_
 · exact ⟨0, rfl, _, rfl, iv, rfl, rfl, ti, (r_b_p.congr (fun j hj => by exact Gh.lp_0 s j hj)), hk⟩
 ·skip
  clear r_b_p hk
  rintro _ _ w4 ⟨i, rfl, f3, rfl, i1_0, s1_0, s1_2, s1_4, r_b_p, hk⟩
  refine sr ?_
  refine w_val (y_bin (ei s1_4) Ev.c b_lss) ?_
  refine nt ?_
  refine wp_seq ?_
  refine c_if (p := ((i : Nat) : Int) < 8) eb (fun hc5 => ?_) (fun hc5 => ?_)
  ·skip
   refine wp_skip ?_
   refine then_n ?_
   refine wp_seq ?_
   refine wp_block ?_
   refine sr ?_
   refine w_mv (ei s1_4) ?_
   refine w_as ei ?_
   refine nt ?_
   refine wp_seq ?_
   refine region_t 9 GhAT.mixed (by kernel_rfl) ?_
   simp only [List.take_succ_cons, List.take_zero, List.drop_succ_cons, List.drop_zero]
   refine q_val (v := pt b_p 0) (fun w' hw' => y_off (y_fa (ex (pt b_p 0) s1_2) (GhAT.fa115_0 _ _)) (by first | rfl | omega)) ?_
   refine q_val (v := U64 (Gh.cl (Gh.lp s i) 0)) (fun w' hw' => y_ld (ex (pt b_p 0)) GhAT.sc62 (cls_cell (r_b_p.val (by omega) rfl) r_b_p.lt w' hw')) ?_
   refine q_val (fun w' hw' => y_bin e6 (evc (.int .u64 8)) (shl64 (c := 8) rfl)) ?_
   refine q_mv (es s1_0) ?_
   refine q_mv ei ?_
   refine q_val (v := U8 (gb s i)) (fun w' hw' => y_idx (ex (.string (str s))) ei Tryd.underlying9 (by omega) (by omega)) ?_
   refine q_val (fun w' hw' => y_u8_u64 e8 GhAT.so5 Tryd.underlying62) ?_
   refine q_val (fun w' hw' => y_bin e6 e6 or64) ?_
   refine q_val (v := pt b_p 0) (fun w' hw' => y_off (y_fa (ex (pt b_p 0) s1_2) (GhAT.fa115_0 _ _)) (by first | rfl | omega)) ?_
   refine q_nil ?_
   intro w6 hb7
   replace r_b_p := r_b_p.step hb7
   replace hk := thenB hk hb7
   refine w_st (v := U64 (((Gh.cl (Gh.lp s i) 0) <<< 8) ||| ((gb s i).setWidth 64))) (ex (pt b_p 0)) e6 rfl rfl GhAT.sz62 r_b_p (by omega) ?_
   clear r_b_p; intro w8 r_b_p hg9 _
   replace hk := thenG hk hg9 (by omega)
   refine nt ?_
   refine region_t 10 GhAT.mixed (by kernel_rfl) ?_
   simp only [List.take_succ_cons, List.take_zero, List.drop_succ_cons, List.drop_zero]
   refine q_val (v := pt b_p 1) (fun w' hw' => y_off (y_fa (ex (pt b_p 0) s1_2) (GhAT.fa115_1 _ _)) (by first | rfl | omega)) ?_
   refine q_val (v := U64 (Gh.cl (Gh.lp s i) 1)) (fun w' hw' => y_ld (ex (pt b_p 1)) GhAT.sc62 (cls_cell (r_b_p.val (by omega) ((if_neg (by omega)).trans rfl)) r_b_p.lt w' hw')) ?_
   refine q_val (fun w' hw' => y_bin e6 (evc (.int .u64 8)) (shl64 (c := 8) rfl)) ?_
   refine q_mv (es s1_0) ?_
   refine q_mv ei ?_
   refine q_val (fun w' hw' => y_bin Ev.c ei (b_add (by omega))) ?_
   refine q_val (v := U8 (gb s (8 + i))) (fun w' hw' => y_idx (ex (.string (str s))) ei Tryd.underlying9 (by omega) (by omega)) ?_
   refine q_val (fun w' hw' => y_u8_u64 e8 GhAT.so5 Tryd.underlying62) ?_
   refine q_val (fun w' hw' => y_bin e6 e6 or64) ?_
   refine q_val (v := pt b_p 1) (fun w' hw' => y_off (y_fa (ex (pt b_p 0) s1_2) (GhAT.fa115_1 _ _)) (by first | rfl | omega)) ?_
   refine q_nil ?_
   intro w10 hb11
   replace r_b_p := r_b_p.step hb11
   replace hk := thenB hk hb11
   refine w_st (v := U64 (((Gh.cl (Gh.lp s i) 1) <<< 8) ||| ((gb s (8 + i)).setWidth 64))) (ex (pt b_p 1)) e6 rfl rfl GhAT.sz62 r_b_p (by omega) ?_
   clear r_b_p; intro w12 r_b_p hg13 _
   replace hk := thenG hk hg13 (by omega)
   refine wpList_nil ?_
   refine inb_n ?_
   refine then_n ?_
   refine wp_region_lit ?_
   refine w_val (y_bin (ei s1_4) Ev.c (b_add (by omega))) ?_
   refine w_mv ei ?_
   refine wpList_nil ?_
   exact then_n ⟨_, (by omega), i + 1, rfl, _, rfl, iv, s1_0, s1_2, ti, (r_b_p.congr (fun j hj => by exact Gh.lp_step s i j hj)), hk⟩
  ·skip
   refine wp_exit ?_
   refine then_x ?_
   replace r_b_p := r_b_p.congr (g := fun j => U64 (Gh.cl (Gh.lw s) j)) (fun j hj => by obtain rfl : i = 8 := (by omega); rfl)
   refine then_x ?_
   refine inb_x ?_
   refine then_n ?_
   refine sr ?_
   refine w_val (v := .agg (arr 2 (fun j => U64 (Gh.cl (Gh.lw s) j)))) (y_lda (ex (pt b_p 0) s1_2) GhAT.ag115 GhAT.sz115 (fun j hj => by rw [Nat.zero_add]; exact (r_b_p.cell (by omega)))) ?_
   refine w_sta (k := 2) (G := fun j => U64 (Gh.cl (Gh.lw s) j)) (ex (pt b_p 0) s1_2) ea oc GhAT.sz115 r_b_p (by omega) ?_
   clear r_b_p; intro w14 r_b_p hg15 _
   replace r_b_p := r_b_p.congr (g := fun j => U64 (Gh.cl (Gh.lw s) j)) (fun j hj => by rw [if_pos ⟨Nat.zero_le _, by omega⟩]; first | rfl | (simp only [Nat.sub_zero]))
   replace hk := thenG hk hg15 (by omega)
   refine nt ?_
   refine wp_ret ?_
   refine fin_arr (F := fun j => U64 (Gh.cl (Gh.lw s) j)) rfl (ex (pt b_p 0) s1_2) GhAT.ag115 GhAT.sz115 r_b_p (by omega) ?_
   exact ⟨rfl, hk⟩

theorem ghStore (p : Gh.W2) (w0 : World) : Calls Tryd.prog 64 #[.agg (arr 2 (fun j => U64 (Gh.cl p j)))] w0 fun e w' => e = .returned (.string (str (Gh.st p))) ∧ Below w0.heap.size w0 w' := by
 have hst := Gh.st_len p
 refine enter (n := 30) Tryd.func64 rfl rfl rfl ?_
 have hk : Below w0.heap.size w0 w0 := Below.refl _ _
 refine sr ?_
 refine w_box (m := 2) (F := fun j => U64 (Gh.cl p j)) ea rfl ?_
 intro b_p w1 hbe_b_p r_b_p hb2
 have ge_b_p := gb_ hk.size hbe_b_p
 clear hbe_b_p
 replace hk := thenB hk hb2
 refine w_as (evc (.string (str ([] : List (BitVec 8))))) ?_
 refine nt ?_
 refine sr ?_
 refine w_alloc (m := 16) (F := fun j => U8 (0#8)) (by kernel_rfl) ?_
 intro b_out w3 hbe_b_out r_b_out hb4
 have ne_b_p_b_out := r_b_p.nb hbe_b_out
 have ge_b_out := gb_ hk.size hbe_b_out
 clear hbe_b_out
 replace r_b_p := r_b_p.step hb4
 replace hk := thenB hk hb4
 refine nt ?_
 refine wp_seq ?_
 refine sr ?_
 refine w_mv Ev.c ?_
 refine nt ?_
 refine wp_block ?_
 refine c_loop (fun dN aN wl => ∃ (i : Nat), dN = (8 - i) ∧ ∃ f5, aN = fr 30 f5 ∧ (i ≤ 8) ∧ f5 1 = pt b_p 0 ∧ f5 2 = .string (str ([] : List (BitVec 8))) ∧ f5 3 = pt b_out 0 ∧ f5 5 = .int .i64 ((i : Nat) : Int) ∧ Row wl b_p 115 2 (fun j => U64 (Gh.cl p j)) ∧ Row wl b_out 74 16 (fun j => if j < i ∨ 8 ≤ j ∧ j < 8 + i then (fun j => U8 (Gh.sb p j)) j else (fun j => U8 (0#8)) j) ∧ Below w0.heap.size w0 wl) (8 - 0) ?_ ?_
 · exact ⟨0, rfl, _, rfl, iv, rfl, rfl, rfl, ti, r_b_p, (r_b_out.congr (fun j hj => by rw [if_neg (by omega)])), hk⟩
 ·skip
  clear r_b_p r_b_out hk
  rintro _ _ w6 ⟨i, rfl, f5, rfl, i1_0, s1_1, s1_2, s1_3, s1_5, r_b_p, r_b_out, hk⟩
  refine sr ?_
  refine w_val (y_bin (ei s1_5) Ev.c b_lss) ?_
  refine nt ?_
  refine wp_seq ?_
  refine c_if (p := ((i : Nat) : Int) < 8) eb (fun hc7 => ?_) (fun hc7 => ?_)
  ·skip
   refine wp_skip ?_
   refine then_n ?_
   refine wp_seq ?_
   refine wp_block ?_
   refine sr ?_
   refine w_mv (ei s1_5) ?_
   refine w_as ei ?_
   refine nt ?_
   refine sr ?_
   refine w_mv ei ?_
   refine w_val (v := pt b_p 0) (y_off (y_fa (ex (pt b_p 0) s1_1) (GhAT.fa115_0 _ _)) (by first | rfl | omega)) ?_
   refine w_val (v := U64 (Gh.cl p 0)) (y_ld (ex (pt b_p 0)) GhAT.sc62 (r_b_p.val (by omega) rfl)) ?_
   refine w_mv ei ?_
   refine w_val (y_bin Ev.c ei (b_mul (by omega))) ?_
   refine w_val (y_bin Ev.c ei (b_sub (by omega))) ?_
   refine w_val (y_bin e6 ei (shr64 (c := (56 - (8 * i))) (by omega))) ?_
   refine w_val (y_u64_u8 e6 GhAT.so62 Tryd.underlying5) ?_
   refine w_val (y_ia1z (i := i) (ex (pt b_out 0) s1_3) ei Tryd.underlying74 GhAT.sz5 (by omega) (by omega)) ?_
   refine w_st (v := U8 (((Gh.cl p 0) >>> (56 - (8 * i))).setWidth 8)) (ex (pt b_out i)) e8 rfl rfl GhAT.sz5 r_b_out (by omega) ?_
   clear r_b_out; intro w8 r_b_out hg9 _
   replace r_b_p := r_b_p.stepG hg9 (by omega)
   replace hk := thenG hk hg9 (by omega)
   refine nt ?_
   refine wp_region_lit ?_
   refine w_mv ei ?_
   refine w_val (y_bin Ev.c ei (b_add (by omega))) ?_
   refine w_val (v := pt b_p 1) (y_off (y_fa (ex (pt b_p 0) s1_1) (GhAT.fa115_1 _ _)) (by first | rfl | omega)) ?_
   refine w_val (v := U64 (Gh.cl p 1)) (y_ld (ex (pt b_p 1)) GhAT.sc62 (r_b_p.val (by omega) rfl)) ?_
   refine w_mv ei ?_
   refine w_val (y_bin Ev.c ei (b_mul (by omega))) ?_
   refine w_val (y_bin Ev.c ei (b_sub (by omega))) ?_
   refine w_val (y_bin e6 ei (shr64 (c := (56 - (8 * i))) (by omega))) ?_
   refine w_val (y_u64_u8 e6 GhAT.so62 Tryd.underlying5) ?_
   refine w_val (y_ia1z (i := (8 + i)) (ex (pt b_out 0) s1_3) ei Tryd.underlying74 GhAT.sz5 (by omega) (by omega)) ?_
   refine w_st (v := U8 (((Gh.cl p 1) >>> (56 - (8 * i))).setWidth 8)) (ex (pt b_out (8 + i))) e8 rfl rfl GhAT.sz5 r_b_out (by omega) ?_
   clear r_b_out; intro w10 r_b_out hg11 _
   replace r_b_p := r_b_p.stepG hg11 (by omega)
   replace hk := thenG hk hg11 (by omega)
   refine wpList_nil ?_
   refine inb_n ?_
   refine then_n ?_
   refine wp_region_lit ?_
   refine w_val (y_bin (ei s1_5) Ev.c (b_add (by omega))) ?_
   refine w_mv ei ?_
   refine wpList_nil ?_
   exact then_n ⟨_, (by omega), i + 1, rfl, _, rfl, iv, s1_1, s1_2, s1_3, ti, r_b_p, (r_b_out.congr (fun j hj => by exact Gh.sb_step p i j (by omega) hj)), hk⟩
  ·skip
   refine wp_exit ?_
   refine then_x ?_
   replace r_b_out := r_b_out.congr (g := fun j => U8 (gb (Gh.st p) j)) (fun j hj => by (try dsimp only); rw [if_pos (by omega), Gh.gb_st p j (by omega)])
   refine then_x ?_
   refine inb_x ?_
   refine then_n ?_
   refine sr ?_
   refine w_val (v := .slice (some ⟨b_out, 0, none⟩) 16 16) (y_sloff (y_slp (ex (pt b_out 0) s1_3) evo.no evo.no Tryd.underlying74 GhAT.sz5 bnd_ (by omega)) (by first | rfl | omega) rfl) ?_
   refine w_val (y_str (l := Gh.st p) el (by first | rfl | assumption | (simp; omega) | omega) Tryd.underlying50 Tryd.underlying5 Tryd.underlying9 (fun j hj => by rw [Nat.zero_add]; exact (r_b_out.cell (by omega)))) ?_
   refine w_as es ?_
   refine nt ?_
   refine wp_ret ?_
   refine fin_ret1 rfl es ?_
   exact ⟨rfl, hk⟩

theorem ghTimes (p : Gh.W2) (w0 : World) : Calls Tryd.prog 83 #[.agg (arr 2 (fun j => U64 (Gh.cl p j)))] w0 fun e w' => e = .returned (.agg (arr 2 (fun j => U64 (Gh.cl (Gh.tmw p) j)))) ∧ Below w0.heap.size w0 w' := by
 refine enter (n := 24) Tryd.func83 rfl rfl rfl ?_
 have hk : Below w0.heap.size w0 w0 := Below.refl _ _
 refine sr ?_
 refine w_box (m := 2) (F := fun j => U64 (Gh.cl p j)) ea rfl ?_
 intro b_p w1 hbe_b_p r_b_p hb2
 have ge_b_p := gb_ hk.size hbe_b_p
 clear hbe_b_p
 replace hk := thenB hk hb2
 refine w_alloc (m := 2) (F := fun j => if j < 1 then U64 (0#64) else U64 (0#64)) (by kernel_rfl) ?_
 intro b_2 w3 hbe_b_2 r_b_2 hb4
 have ne_b_p_b_2 := r_b_p.nb hbe_b_2
 have ge_b_2 := gb_ hk.size hbe_b_2
 clear hbe_b_2
 replace r_b_p := r_b_p.step hb4
 replace hk := thenB hk hb4
 refine nt ?_
 refine sr ?_
 refine w_val (v := pt b_p 0) (y_off (y_fa (ex (pt b_p 0)) (GhAT.fa115_0 _ _)) (by first | rfl | omega)) ?_
 refine w_val (v := U64 (Gh.cl p 0)) (y_ld (ex (pt b_p 0)) GhAT.sc62 (r_b_p.val (by omega) rfl)) ?_
 refine w_val (y_bin e6 (evc (.int .u64 1)) (shr64 (c := 1) rfl)) ?_
 refine w_val (v := pt b_p 1) (y_off (y_fa (ex (pt b_p 0)) (GhAT.fa115_1 _ _)) (by first | rfl | omega)) ?_
 refine w_val (v := U64 (Gh.cl p 1)) (y_ld (ex (pt b_p 1)) GhAT.sc62 (r_b_p.val (by omega) rfl)) ?_
 refine w_val (y_bin e6 (evc (.int .u64 1)) (shr64 (c := 1) rfl)) ?_
 refine w_val (v := pt b_p 0) (y_off (y_fa (ex (pt b_p 0)) (GhAT.fa115_0 _ _)) (by first | rfl | omega)) ?_
 refine w_val (v := U64 (Gh.cl p 0)) (y_ld (ex (pt b_p 0)) GhAT.sc62 (r_b_p.val (by omega) rfl)) ?_
 refine w_val (y_bin e6 (evc (.int .u64 63)) (shl64 (c := 63) rfl)) ?_
 refine w_val (y_bin e6 e6 or64) ?_
 refine w_val (v := .agg (arr 2 (fun j => if j < 1 then U64 ((Gh.cl p 0) >>> 1) else U64 (((Gh.cl p 1) >>> 1) ||| ((Gh.cl p 0) <<< 63))))) (y_build (vs := #[(0, U64 ((Gh.cl p 0) >>> 1)), (1, U64 (((Gh.cl p 1) >>> 1) ||| ((Gh.cl p 0) <<< 63)))]) (mp_cons e6 (mp_cons e6 mp0)) (fun w => by kernel_rfl)) ?_
 refine w_alloc (m := 2) (F := fun j => if j < 1 then U64 (0#64) else U64 (0#64)) (by kernel_rfl) ?_
 intro b_out w5 hbe_b_out r_b_out hb6
 have ne_b_p_b_out := r_b_p.nb hbe_b_out
 have ne_b_2_b_out := r_b_2.nb hbe_b_out
 have ge_b_out := gb_ hk.size hbe_b_out
 clear hbe_b_out
 replace r_b_p := r_b_p.step hb6
 replace r_b_2 := r_b_2.step hb6
 replace hk := thenB hk hb6
 refine w_sta (k := 2) (G := fun j => if j < 1 then U64 ((Gh.cl p 0) >>> 1) else U64 (((Gh.cl p 1) >>> 1) ||| ((Gh.cl p 0) <<< 63))) (ex (pt b_out 0)) ea oc GhAT.sz115 r_b_out (by omega) ?_
 clear r_b_out; intro w7 r_b_out hg8 _
 replace r_b_out := r_b_out.congr (g := fun j => if j < 1 then U64 ((Gh.cl p 0) >>> 1) else U64 (((Gh.cl p 1) >>> 1) ||| ((Gh.cl p 0) <<< 63))) (fun j hj => by rw [if_pos ⟨Nat.zero_le _, by omega⟩]; first | rfl | (simp only [Nat.sub_zero]))
 replace r_b_p := r_b_p.stepG hg8 (by omega)
 replace r_b_2 := r_b_2.stepG hg8 (by omega)
 replace hk := thenG hk hg8 (by omega)
 refine nt ?_
 refine wp_seq ?_
 refine sr ?_
 refine w_val (v := pt b_p 1) (y_off (y_fa (ex (pt b_p 0)) (GhAT.fa115_1 _ _)) (by first | rfl | omega)) ?_
 refine w_val (v := U64 (Gh.cl p 1)) (y_ld (ex (pt b_p 1)) GhAT.sc62 (r_b_p.val (by omega) rfl)) ?_
 refine w_val (y_bin e6 (evc (U64 (1#64))) and64) ?_
 refine w_val (y_bin e6 (evc (U64 (1#64))) eql64) ?_
 refine nt ?_
 refine c_if (p := ((Gh.cl p 1) &&& (1#64)) = (1#64)) eb (fun hc9 => ?_) (fun hc9 => ?_)
 ·skip
  refine wp_region_lit ?_
  refine w_val (v := pt b_out 0) (y_off (y_fa (ex (pt b_out 0)) (GhAT.fa115_0 _ _)) (by first | rfl | omega)) ?_
  refine w_val (v := U64 ((Gh.cl p 0) >>> 1)) (y_ld (ex (pt b_out 0)) GhAT.sc62 (r_b_out.val (by omega) (etv (if_pos (by omega))))) ?_
  refine w_val (y_bin e6 (evc (U64 (16212958658533785600#64))) xor64) ?_
  refine w_val (v := pt b_out 0) (y_off (y_fa (ex (pt b_out 0)) (GhAT.fa115_0 _ _)) (by first | rfl | omega)) ?_
  refine w_st (v := U64 (((Gh.cl p 0) >>> 1) ^^^ (16212958658533785600#64))) (ex (pt b_out 0)) e6 rfl rfl GhAT.sz62 r_b_out (by omega) ?_
  clear r_b_out; intro w10 r_b_out hg11 _
  replace r_b_p := r_b_p.stepG hg11 (by omega)
  replace r_b_2 := r_b_2.stepG hg11 (by omega)
  replace hk := thenG hk hg11 (by omega)
  refine nt ?_
  refine sr ?_
  refine w_val (v := .agg (arr 2 (fun j => if j = 0 then U64 (((Gh.cl p 0) >>> 1) ^^^ (16212958658533785600#64)) else (fun j => if j < 1 then U64 ((Gh.cl p 0) >>> 1) else U64 (((Gh.cl p 1) >>> 1) ||| ((Gh.cl p 0) <<< 63))) j))) (y_lda (ex (pt b_out 0)) GhAT.ag115 GhAT.sz115 (fun j hj => by rw [Nat.zero_add]; exact (r_b_out.cell (by omega)))) ?_
  refine w_sta (k := 2) (G := fun j => if j = 0 then U64 (((Gh.cl p 0) >>> 1) ^^^ (16212958658533785600#64)) else (fun j => if j < 1 then U64 ((Gh.cl p 0) >>> 1) else U64 (((Gh.cl p 1) >>> 1) ||| ((Gh.cl p 0) <<< 63))) j) (ex (pt b_2 0)) ea oc GhAT.sz115 r_b_2 (by omega) ?_
  clear r_b_2; intro w12 r_b_2 hg13 _
  replace r_b_2 := r_b_2.congr (g := fun j => if j = 0 then U64 (((Gh.cl p 0) >>> 1) ^^^ (16212958658533785600#64)) else (fun j => if j < 1 then U64 ((Gh.cl p 0) >>> 1) else U64 (((Gh.cl p 1) >>> 1) ||| ((Gh.cl p 0) <<< 63))) j) (fun j hj => by rw [if_pos ⟨Nat.zero_le _, by omega⟩]; first | rfl | (simp only [Nat.sub_zero]))
  replace r_b_p := r_b_p.stepG hg13 (by omega)
  replace r_b_out := r_b_out.stepG hg13 (by omega)
  replace hk := thenG hk hg13 (by omega)
  refine nt ?_
  refine wp_ret ?_
  refine fin_arr (F := fun j => if j = 0 then U64 (((Gh.cl p 0) >>> 1) ^^^ (16212958658533785600#64)) else (fun j => if j < 1 then U64 ((Gh.cl p 0) >>> 1) else U64 (((Gh.cl p 1) >>> 1) ||| ((Gh.cl p 0) <<< 63))) j) rfl (ex (pt b_2 0)) GhAT.ag115 GhAT.sz115 r_b_2 (by omega) ?_
  refine ⟨congrArg Ending.returned ?_, hk⟩
  show (.agg (arr 2 (fun j => if j = 0 then U64 (((Gh.cl p 0) >>> 1) ^^^ (16212958658533785600#64)) else (fun j => if j < 1 then U64 ((Gh.cl p 0) >>> 1) else U64 (((Gh.cl p 1) >>> 1) ||| ((Gh.cl p 0) <<< 63))) j)) : Value) = .agg (arr 2 (fun j => U64 (Gh.cl (Gh.tmw p) j)))
  exact congrArg Value.agg (arr_congr (fun j hj => by first | exact Gh.tm_yes p j hj (by assumption) | exact Gh.tm_no p j hj (by assumption)))
 ·skip
  refine wp_skip ?_
  refine then_n ?_
  refine sr ?_
  refine w_val (v := .agg (arr 2 (fun j => if j < 1 then U64 ((Gh.cl p 0) >>> 1) else U64 (((Gh.cl p 1) >>> 1) ||| ((Gh.cl p 0) <<< 63))))) (y_lda (ex (pt b_out 0)) GhAT.ag115 GhAT.sz115 (fun j hj => by rw [Nat.zero_add]; exact (r_b_out.cell (by omega)))) ?_
  refine w_sta (k := 2) (G := fun j => if j < 1 then U64 ((Gh.cl p 0) >>> 1) else U64 (((Gh.cl p 1) >>> 1) ||| ((Gh.cl p 0) <<< 63))) (ex (pt b_2 0)) ea oc GhAT.sz115 r_b_2 (by omega) ?_
  clear r_b_2; intro w14 r_b_2 hg15 _
  replace r_b_2 := r_b_2.congr (g := fun j => if j < 1 then U64 ((Gh.cl p 0) >>> 1) else U64 (((Gh.cl p 1) >>> 1) ||| ((Gh.cl p 0) <<< 63))) (fun j hj => by rw [if_pos ⟨Nat.zero_le _, by omega⟩]; first | rfl | (simp only [Nat.sub_zero]))
  replace r_b_p := r_b_p.stepG hg15 (by omega)
  replace r_b_out := r_b_out.stepG hg15 (by omega)
  replace hk := thenG hk hg15 (by omega)
  refine nt ?_
  refine wp_ret ?_
  refine fin_arr (F := fun j => if j < 1 then U64 ((Gh.cl p 0) >>> 1) else U64 (((Gh.cl p 1) >>> 1) ||| ((Gh.cl p 0) <<< 63))) rfl (ex (pt b_2 0)) GhAT.ag115 GhAT.sz115 r_b_2 (by omega) ?_
  refine ⟨congrArg Ending.returned ?_, hk⟩
  show (.agg (arr 2 (fun j => if j < 1 then U64 ((Gh.cl p 0) >>> 1) else U64 (((Gh.cl p 1) >>> 1) ||| ((Gh.cl p 0) <<< 63)))) : Value) = .agg (arr 2 (fun j => U64 (Gh.cl (Gh.tmw p) j)))
  exact congrArg Value.agg (arr_congr (fun j hj => by first | exact Gh.tm_yes p j hj (by assumption) | exact Gh.tm_no p j hj (by assumption)))

theorem ghMultiples (b : Gh.W2) (w0 : World) : Calls Tryd.prog 61 #[.agg (arr 2 (fun j => U64 (Gh.cl b j)))] w0 fun e w' => e = .returned (.agg (arr 32 (fun j => U64 (Gh.cl (Gh.mw b (j / 2)) (j % 2))))) ∧ Below w0.heap.size w0 w' := by
 refine enter (n := 55) Tryd.func61 rfl rfl rfl ?_
 have hk : Below w0.heap.size w0 w0 := Below.refl _ _
 refine sr ?_
 refine w_box (m := 2) (F := fun j => U64 (Gh.cl b j)) ea rfl ?_
 intro b_p w1 hbe_b_p r_b_p hb2
 have ge_b_p := gb_ hk.size hbe_b_p
 clear hbe_b_p
 replace hk := thenB hk hb2
 refine w_alloc (m := 32) (F := fun j => U64 (0#64)) (by kernel_rfl) ?_
 intro b_out w3 hbe_b_out r_b_out hb4
 have ne_b_p_b_out := r_b_p.nb hbe_b_out
 have ge_b_out := gb_ hk.size hbe_b_out
 clear hbe_b_out
 replace r_b_p := r_b_p.step hb4
 replace hk := thenB hk hb4
 refine nt ?_
 refine wp_seq ?_
 refine sr ?_
 refine w_as Ev.c ?_
 refine nt ?_
 refine wp_block ?_
 refine c_loop (fun dN aN wl => ∃ (n : Nat), dN = (2 * n) ∧ ∃ f5, aN = fr 55 f5 ∧ (n = 8 ∨ n = 4 ∨ n = 2 ∨ n = 1 ∨ n = 0) ∧ f5 1 = pt b_p 0 ∧ f5 2 = pt b_out 0 ∧ f5 3 = .int .i64 ((n : Nat) : Int) ∧ Row wl b_p 115 2 (fun j => U64 (Gh.cl (Gh.pw b n) j)) ∧ Row wl b_out 116 32 (fun j => U64 (Gh.cl (Gh.mA b n (j / 2)) (j % 2))) ∧ Below w0.heap.size w0 wl) (2 * 8) ?_ ?_
 · exact ⟨8, rfl, _, rfl, iv, rfl, rfl, ti, (r_b_p.cg), (r_b_out.congr (fun j hj => by exact Gh.cA_8 b j)), hk⟩
 ·skip
  clear r_b_p r_b_out hk
  rintro _ _ w6 ⟨n, rfl, f5, rfl, i1_0, s1_1, s1_2, s1_3, r_b_p, r_b_out, hk⟩
  refine wp_seq ?_
  refine sr ?_
  refine w_mv (ei s1_3) ?_
  refine w_val (y_bin ei Ev.c b_gtr) ?_
  refine nt ?_
  refine c_if (p := 0 < ((n : Nat) : Int)) eb (fun hc7 => ?_) (fun hc7 => ?_)
  ·skip
   refine wp_skip ?_
   refine then_n ?_
   refine wp_seq ?_
   refine wp_block ?_
   refine wp_seq ?_
   have hn_ : n = 8 ∨ n = 4 ∨ n = 2 ∨ n = 1 := by omega
   refine wp_region_lit ?_
   refine w_mv (ei s1_3) ?_
   refine w_val (v := .agg (arr 2 (fun j => U64 (Gh.cl (Gh.pw b n) j)))) (y_lda (ex (pt b_p 0) s1_1) GhAT.ag115 GhAT.sz115 (fun j hj => by rw [Nat.zero_add]; exact (r_b_p.cell (by omega)))) ?_
   refine w_val (v := pt b_out (n * 2)) (y_off (y_ia (i := n) (ex (pt b_out 0) s1_2) ei Tryd.underlying116 GhAT.sz115 (by omega) (by omega)) (by first | rfl | omega)) ?_
   refine w_sta (k := 2) (G := fun j => U64 (Gh.cl (Gh.pw b n) j)) (ex (pt b_out (n * 2))) ea oc GhAT.sz115 r_b_out (by omega) ?_
   clear r_b_out; intro w8 r_b_out hg9 _
   replace r_b_p := r_b_p.stepG hg9 (by omega)
   replace hk := thenG hk hg9 (by omega)
   refine nt ?_
   refine wp_region_lit ?_
   refine w_val (v := .agg (arr 2 (fun j => U64 (Gh.cl (Gh.pw b n) j)))) (y_lda (ex (pt b_p 0) s1_1) GhAT.ag115 GhAT.sz115 (fun j hj => by rw [Nat.zero_add]; exact (r_b_p.cell (by omega)))) ?_
   refine w_call (Tryd.func83) (by kernel_rfl) rfl (m1 ea) (ghTimes (Gh.pw b n) w8) ?_
   rintro _ w10 ⟨rfl, hb11⟩
   refine ⟨_, rfl, ?_⟩
   replace r_b_p := r_b_p.step hb11
   replace r_b_out := r_b_out.step hb11
   replace hk := thenB hk hb11
   refine w_sta (k := 2) (G := fun j => U64 (Gh.cl (Gh.tmw (Gh.pw b n)) j)) (ex (pt b_p 0) s1_1) ea oc GhAT.sz115 r_b_p (by omega) ?_
   clear r_b_p; intro w12 r_b_p hg13 _
   replace r_b_p := r_b_p.congr (g := fun j => U64 (Gh.cl (Gh.tmw (Gh.pw b n)) j)) (fun j hj => by rw [if_pos ⟨Nat.zero_le _, by omega⟩]; first | rfl | (simp only [Nat.sub_zero]))
   replace r_b_out := r_b_out.stepG hg13 (by omega)
   replace hk := thenG hk hg13 (by omega)
   refine wpList_nil ?_
   refine inb_n ?_
   refine then_n ?_
   refine wp_region_lit ?_
   refine w_mv (ei s1_3) ?_
   refine w_val (y_bin ei (evc (.int .u64 1)) (b_shr (c := 1) rfl (by omega))) ?_
   refine w_as ei ?_
   refine wpList_nil ?_
   exact then_n ⟨_, (by omega), n / 2, rfl, _, rfl, iv, s1_1, s1_2, (Eq.trans (b := .int .i64 (((n : Nat) : Int) / 2 ^ 1)) rfl (by rcases hn_ with rfl | rfl | rfl | rfl <;> rfl)), (r_b_p.congr (fun j hj => by rw [Gh.pw_step b n hn_])), (r_b_out.congr (fun j hj => by exact Gh.cA_step b n j hn_)), hk⟩
  ·skip
   refine wp_exit ?_
   refine then_x ?_
   replace r_b_out := r_b_out.congr (g := fun j => U64 (Gh.cl (Gh.m0 b 0 (j / 2)) (j % 2))) (fun j hj => by obtain rfl : n = 0 := (by omega); rfl)
   refine then_x ?_
   refine inb_x ?_
   refine then_n ?_
   refine wp_seq ?_
   refine sr ?_
   refine w_mv Ev.c ?_
   refine nt ?_
   refine wp_block ?_
   refine c_loop (fun dN aN wl => ∃ (i : Nat), dN = (16 - i) ∧ ∃ f14, aN = fr 55 f14 ∧ (i ≤ 16) ∧ f14 2 = pt b_out 0 ∧ f14 15 = .int .i64 ((i : Nat) : Int) ∧ Row wl b_out 116 32 (fun j => U64 (Gh.cl (Gh.m0 b i (j / 2)) (j % 2))) ∧ Below w0.heap.size w0 wl) (16 - 0) ?_ ?_
   · exact ⟨0, rfl, _, rfl, iv, s1_2, ti, (r_b_out.congr (fun j hj => by rfl)), hk⟩
   ·skip
    clear r_b_out hk
    clear r_b_p
    rintro _ _ w15 ⟨i, rfl, f14, rfl, i2_0, s2_2, s2_15, r_b_out, hk⟩
    refine sr ?_
    refine w_val (y_bin (ei s2_15) Ev.c b_lss) ?_
    refine nt ?_
    refine wp_seq ?_
    refine c_if (p := ((i : Nat) : Int) < 16) eb (fun hc16 => ?_) (fun hc16 => ?_)
    ·skip
     refine wp_skip ?_
     refine then_n ?_
     refine wp_seq ?_
     refine wp_block ?_
     refine sr ?_
     refine w_mv (ei s2_15) ?_
     refine w_as ei ?_
     refine nt ?_
     refine sr ?_
     refine w_as Ev.c ?_
     refine nt ?_
     refine wp_block ?_
     refine c_loop (fun dN aN wl => ∃ (m : Nat), dN = (2 * m) ∧ ∃ f17, aN = fr 55 f17 ∧ (m = 8 ∨ m = 4 ∨ m = 2 ∨ m = 1 ∨ m = 0) ∧ f17 2 = pt b_out 0 ∧ f17 4 = .int .i64 ((i : Nat) : Int) ∧ f17 5 = .int .i64 ((m : Nat) : Int) ∧ f17 15 = .int .i64 ((i : Nat) : Int) ∧ Row wl b_out 116 32 (fun j => U64 (Gh.cl (Gh.mR b i m (j / 2)) (j % 2))) ∧ Below w0.heap.size w0 wl) (2 * 8) ?_ ?_
     · exact ⟨8, rfl, _, rfl, iv, s2_2, rfl, ti, s2_15, (r_b_out.congr (fun j hj => by exact Gh.cR_8 b i j (by omega))), hk⟩
     ·skip
      clear r_b_out hk
      rintro _ _ w18 ⟨m, rfl, f17, rfl, i3_0, s3_2, s3_4, s3_5, s3_15, r_b_out, hk⟩
      refine wp_seq ?_
      refine sr ?_
      refine w_mv (ei s3_5) ?_
      refine w_val (y_bin ei Ev.c b_gtr) ?_
      refine nt ?_
      refine c_if (p := 0 < ((m : Nat) : Int)) eb (fun hc19 => ?_) (fun hc19 => ?_)
      ·skip
       refine wp_skip ?_
       refine then_n ?_
       refine wp_seq ?_
       refine wp_block ?_
       refine wp_seq ?_
       have hn_ : m = 8 ∨ m = 4 ∨ m = 2 ∨ m = 1 := by omega
       refine wp_region_lit ?_
       refine w_mv (ei s3_4) ?_
       refine w_mv (ei s3_5) ?_
       refine w_val (y_bin ei ei (b_and (p := i) (q := m) (by omega) (by omega) (by omega) (by omega))) ?_
       refine w_val (y_bin ei Ev.c b_neq) ?_
       refine w_mv eb ?_
       by_cases hc20 : (((i &&& m) : Nat) : Int) ≠ 0
       ·skip
        refine w_val_g (v := .int .i64 ((i : Nat) : Int)) (wy rfl rfl (eb (dt hc20))) (y_mv (ei s3_4)) ?_
        refine w_val_g (v := .int .i64 ((m : Nat) : Int)) (wy rfl rfl (eb (dt hc20))) (y_mv (ei s3_5)) ?_
        refine w_val_g (wy rfl rfl (eb (dt hc20))) (y_bin ei ei b_neq) ?_
        refine w_val (y_pick_t (eb (dt hc20)) eb) ?_
        refine nt ?_
        refine c_if (p := ((i : Nat) : Int) ≠ ((m : Nat) : Int)) eb (fun hc21 => ?_) (fun hc21 => ?_)
        ·skip
         refine wp_seq ?_
         refine region_t 11 GhAT.mixed (by kernel_rfl) ?_
         simp only [List.take_succ_cons, List.take_zero, List.drop_succ_cons, List.drop_zero]
         refine q_mv (ei s3_4) ?_
         refine q_val (v := pt b_out (i * 2)) (fun w' hw' => y_off (y_ia (i := i) (ex (pt b_out 0) s3_2) ei Tryd.underlying116 GhAT.sz115 (by omega) (by omega)) (by first | rfl | omega)) ?_
         refine q_val (v := pt b_out (i * 2)) (fun w' hw' => y_off (y_fa (ex (pt b_out (i * 2))) (GhAT.fa115_0 _ _)) (by first | rfl | omega)) ?_
         refine q_val (v := U64 (Gh.cl (Gh.mR b i m i) 0)) (fun w' hw' => y_ld (ex (pt b_out (i * 2))) GhAT.sc62 (cls_cell (r_b_out.val (by omega) (by (try dsimp only); rw [show (i * 2) / 2 = i from by omega, show (i * 2) % 2 = 0 from by omega])) r_b_out.lt w' hw')) ?_
         refine q_mv (ei s3_5) ?_
         refine q_val (v := pt b_out (m * 2)) (fun w' hw' => y_off (y_ia (i := m) (ex (pt b_out 0) s3_2) ei Tryd.underlying116 GhAT.sz115 (by omega) (by omega)) (by first | rfl | omega)) ?_
         refine q_val (v := pt b_out (m * 2)) (fun w' hw' => y_off (y_fa (ex (pt b_out (m * 2))) (GhAT.fa115_0 _ _)) (by first | rfl | omega)) ?_
         refine q_val (v := U64 (Gh.cl (Gh.mR b i m m) 0)) (fun w' hw' => y_ld (ex (pt b_out (m * 2))) GhAT.sc62 (cls_cell (r_b_out.val (by omega) (by (try dsimp only); rw [show (m * 2) / 2 = m from by omega, show (m * 2) % 2 = 0 from by omega])) r_b_out.lt w' hw')) ?_
         refine q_val (fun w' hw' => y_bin e6 e6 xor64) ?_
         refine q_val (v := pt b_out (i * 2)) (fun w' hw' => y_off (y_ia (i := i) (ex (pt b_out 0) s3_2) ei Tryd.underlying116 GhAT.sz115 (by omega) (by omega)) (by first | rfl | omega)) ?_
         refine q_val (v := pt b_out (i * 2)) (fun w' hw' => y_off (y_fa (ex (pt b_out (i * 2))) (GhAT.fa115_0 _ _)) (by first | rfl | omega)) ?_
         refine q_nil ?_
         intro w22 hb23
         replace r_b_out := r_b_out.step hb23
         replace hk := thenB hk hb23
         refine w_st (v := U64 ((Gh.cl (Gh.mR b i m i) 0) ^^^ (Gh.cl (Gh.mR b i m m) 0))) (ex (pt b_out (i * 2))) e6 rfl rfl GhAT.sz62 r_b_out (by omega) ?_
         clear r_b_out; intro w24 r_b_out hg25 _
         replace hk := thenG hk hg25 (by omega)
         refine nt ?_
         refine region_t 11 GhAT.mixed (by kernel_rfl) ?_
         simp only [List.take_succ_cons, List.take_zero, List.drop_succ_cons, List.drop_zero]
         refine q_mv (ei s3_4) ?_
         refine q_val (v := pt b_out (i * 2)) (fun w' hw' => y_off (y_ia (i := i) (ex (pt b_out 0) s3_2) ei Tryd.underlying116 GhAT.sz115 (by omega) (by omega)) (by first | rfl | omega)) ?_
         refine q_val (v := pt b_out ((i * 2) + 1)) (fun w' hw' => y_off (y_fa (ex (pt b_out (i * 2))) (GhAT.fa115_1 _ _)) (by first | rfl | omega)) ?_
         refine q_val (v := U64 (Gh.cl (Gh.mR b i m i) 1)) (fun w' hw' => y_ld (ex (pt b_out ((i * 2) + 1))) GhAT.sc62 (cls_cell (r_b_out.val (by omega) ((if_neg (by omega)).trans (by (try dsimp only); rw [show ((i * 2) + 1) / 2 = i from by omega, show ((i * 2) + 1) % 2 = 1 from by omega]))) r_b_out.lt w' hw')) ?_
         refine q_mv (ei s3_5) ?_
         refine q_val (v := pt b_out (m * 2)) (fun w' hw' => y_off (y_ia (i := m) (ex (pt b_out 0) s3_2) ei Tryd.underlying116 GhAT.sz115 (by omega) (by omega)) (by first | rfl | omega)) ?_
         refine q_val (v := pt b_out ((m * 2) + 1)) (fun w' hw' => y_off (y_fa (ex (pt b_out (m * 2))) (GhAT.fa115_1 _ _)) (by first | rfl | omega)) ?_
         refine q_val (v := U64 (Gh.cl (Gh.mR b i m m) 1)) (fun w' hw' => y_ld (ex (pt b_out ((m * 2) + 1))) GhAT.sc62 (cls_cell (r_b_out.val (by omega) ((if_neg (by omega)).trans (by (try dsimp only); rw [show ((m * 2) + 1) / 2 = m from by omega, show ((m * 2) + 1) % 2 = 1 from by omega]))) r_b_out.lt w' hw')) ?_
         refine q_val (fun w' hw' => y_bin e6 e6 xor64) ?_
         refine q_val (v := pt b_out (i * 2)) (fun w' hw' => y_off (y_ia (i := i) (ex (pt b_out 0) s3_2) ei Tryd.underlying116 GhAT.sz115 (by omega) (by omega)) (by first | rfl | omega)) ?_
         refine q_val (v := pt b_out ((i * 2) + 1)) (fun w' hw' => y_off (y_fa (ex (pt b_out (i * 2))) (GhAT.fa115_1 _ _)) (by first | rfl | omega)) ?_
         refine q_nil ?_
         intro w26 hb27
         replace r_b_out := r_b_out.step hb27
         replace hk := thenB hk hb27
         refine w_st (v := U64 ((Gh.cl (Gh.mR b i m i) 1) ^^^ (Gh.cl (Gh.mR b i m m) 1))) (ex (pt b_out ((i * 2) + 1))) e6 rfl rfl GhAT.sz62 r_b_out (by omega) ?_
         clear r_b_out; intro w28 r_b_out hg29 _
         replace hk := thenG hk hg29 (by omega)
         refine wpList_nil ?_
         refine inb_n ?_
         refine then_n ?_
         refine wp_region_lit ?_
         refine w_mv (ei s3_5) ?_
         refine w_val (y_bin ei (evc (.int .u64 1)) (b_shr (c := 1) rfl (by omega))) ?_
         refine w_as ei ?_
         refine wpList_nil ?_
         exact then_n ⟨_, (by omega), m / 2, rfl, _, rfl, iv, s3_2, s3_4, (Eq.trans (b := .int .i64 (((m : Nat) : Int) / 2 ^ 1)) rfl (by rcases hn_ with rfl | rfl | rfl | rfl <;> rfl)), s3_15, (r_b_out.congr (fun j hj => by first | exact Gh.cR_yes b i m j (by omega) hn_ (by omega) (by omega) | exact Gh.cR_no b i m j (by omega) hn_ (by omega))), hk⟩
        ·skip
         refine wp_skip ?_
         refine inb_n ?_
         refine then_n ?_
         refine wp_region_lit ?_
         refine w_mv (ei s3_5) ?_
         refine w_val (y_bin ei (evc (.int .u64 1)) (b_shr (c := 1) rfl (by omega))) ?_
         refine w_as ei ?_
         refine wpList_nil ?_
         exact then_n ⟨_, (by omega), m / 2, rfl, _, rfl, iv, s3_2, s3_4, (Eq.trans (b := .int .i64 (((m : Nat) : Int) / 2 ^ 1)) rfl (by rcases hn_ with rfl | rfl | rfl | rfl <;> rfl)), s3_15, (r_b_out.congr (fun j hj => by first | exact Gh.cR_yes b i m j (by omega) hn_ (by omega) (by omega) | exact Gh.cR_no b i m j (by omega) hn_ (by omega))), hk⟩
       ·skip
        with_reducible refine w_skip ?_ ?_
        exact wn rfl rfl (eb (df hc20))
        with_reducible refine w_skip ?_ ?_
        exact wn rfl rfl (eb (df hc20))
        with_reducible refine w_skip ?_ ?_
        exact wn rfl rfl (eb (df hc20))
        refine w_val (y_pick_f (eb (df hc20)) Ev.c) ?_
        refine nt ?_
        refine c_ff eb ?_
        refine wp_skip ?_
        refine inb_n ?_
        refine then_n ?_
        refine wp_region_lit ?_
        refine w_mv (ei s3_5) ?_
        refine w_val (y_bin ei (evc (.int .u64 1)) (b_shr (c := 1) rfl (by omega))) ?_
        refine w_as ei ?_
        refine wpList_nil ?_
        exact then_n ⟨_, (by omega), m / 2, rfl, _, rfl, iv, s3_2, s3_4, (Eq.trans (b := .int .i64 (((m : Nat) : Int) / 2 ^ 1)) rfl (by rcases hn_ with rfl | rfl | rfl | rfl <;> rfl)), s3_15, (r_b_out.congr (fun j hj => by first | exact Gh.cR_yes b i m j (by omega) hn_ (by omega) (by omega) | exact Gh.cR_no b i m j (by omega) hn_ (by omega))), hk⟩
      ·skip
       refine wp_exit ?_
       refine then_x ?_
       refine then_x ?_
       refine inb_x ?_
       refine inb_n ?_
       refine then_n ?_
       refine wp_region_lit ?_
       refine w_val (y_bin (ei s3_15) Ev.c (b_add (by omega))) ?_
       refine w_mv ei ?_
       refine wpList_nil ?_
       exact then_n ⟨_, (by omega), i + 1, rfl, _, rfl, iv, s3_2, ti, (r_b_out.congr (fun j hj => by obtain rfl : m = 0 := (by omega); exact Gh.cR_0 b i j (by omega))), hk⟩
    ·skip
     refine wp_exit ?_
     refine then_x ?_
     replace r_b_out := r_b_out.congr (g := fun j => U64 (Gh.cl (Gh.mw b (j / 2)) (j % 2))) (fun j hj => by obtain rfl : i = 16 := (by omega); exact Gh.c0_16 b j hj)
     refine then_x ?_
     refine inb_x ?_
     refine then_n ?_
     refine sr ?_
     refine w_val (v := .agg (arr 32 (fun j => U64 (Gh.cl (Gh.mw b (j / 2)) (j % 2))))) (y_lda (ex (pt b_out 0) s2_2) GhAT.ag116 GhAT.sz116 (fun j hj => by rw [Nat.zero_add]; exact (r_b_out.cell (by omega)))) ?_
     refine w_sta (k := 32) (G := fun j => U64 (Gh.cl (Gh.mw b (j / 2)) (j % 2))) (ex (pt b_out 0) s2_2) ea oc GhAT.sz116 r_b_out (by omega) ?_
     clear r_b_out; intro w30 r_b_out hg31 _
     replace r_b_out := r_b_out.congr (g := fun j => U64 (Gh.cl (Gh.mw b (j / 2)) (j % 2))) (fun j hj => by rw [if_pos ⟨Nat.zero_le _, by omega⟩]; first | rfl | (simp only [Nat.sub_zero]))
     replace hk := thenG hk hg31 (by omega)
     refine nt ?_
     refine wp_ret ?_
     refine fin_arr (F := fun j => U64 (Gh.cl (Gh.mw b (j / 2)) (j % 2))) rfl (ex (pt b_out 0) s2_2) GhAT.ag116 GhAT.sz116 r_b_out (by omega) ?_
     exact ⟨rfl, hk⟩

theorem ghBy (f : Nat → BitVec 64) (a b : Gh.W2) (m : Nat) (w0 : World) (r_m : Row w0 m 116 32 (fun j => U64 (Gh.cl (Gh.mw b (j / 2)) (j % 2)))) (hF : Gh.Fold w0 f) : Calls Tryd.prog 63 #[.agg (arr 2 (fun j => U64 (Gh.cl a j))), pt m 0] w0 fun e w' => e = .returned (.agg (arr 2 (fun j => U64 (Gh.cl (Gh.byw f a b) j)))) ∧ Below w0.heap.size w0 w' := by
 refine enter (n := 68) Tryd.func63 rfl rfl rfl ?_
 have hk : Below w0.heap.size w0 w0 := Below.refl _ _
 have lt_m := r_m.lt
 refine sr ?_
 refine w_box (m := 2) (F := fun j => U64 (Gh.cl a j)) ea rfl ?_
 intro b_p w1 hbe_b_p r_b_p hb2
 have ne_m_b_p := r_m.nb hbe_b_p
 have ge_b_p := gb_ hk.size hbe_b_p
 clear hbe_b_p
 replace r_m := r_m.step hb2
 replace hk := thenB hk hb2
 replace hF := Gh.Fold.below hF hb2
 refine w_alloc (m := 2) (F := fun j => if j < 1 then U64 (0#64) else U64 (0#64)) (by kernel_rfl) ?_
 intro b_4 w3 hbe_b_4 r_b_4 hb4
 have ne_m_b_4 := r_m.nb hbe_b_4
 have ne_b_p_b_4 := r_b_p.nb hbe_b_4
 have ge_b_4 := gb_ hk.size hbe_b_4
 clear hbe_b_4
 replace r_m := r_m.step hb4
 replace r_b_p := r_b_p.step hb4
 replace hk := thenB hk hb4
 replace hF := Gh.Fold.below hF hb4
 refine nt ?_
 refine sr ?_
 refine w_alloc (m := 2) (F := fun j => if j < 1 then U64 (0#64) else U64 (0#64)) (by kernel_rfl) ?_
 intro b_z w5 hbe_b_z r_b_z hb6
 have ne_m_b_z := r_m.nb hbe_b_z
 have ne_b_p_b_z := r_b_p.nb hbe_b_z
 have ne_b_4_b_z := r_b_4.nb hbe_b_z
 have ge_b_z := gb_ hk.size hbe_b_z
 clear hbe_b_z
 replace r_m := r_m.step hb6
 replace r_b_p := r_b_p.step hb6
 replace r_b_4 := r_b_4.step hb6
 replace hk := thenB hk hb6
 replace hF := Gh.Fold.below hF hb6
 refine nt ?_
 refine wp_seq ?_
 refine sr ?_
 refine w_val (v := pt b_p 1) (y_off (y_fa (ex (pt b_p 0)) (GhAT.fa115_1 _ _)) (by first | rfl | omega)) ?_
 refine w_val (v := U64 (Gh.cl a 1)) (y_ld (ex (pt b_p 1)) GhAT.sc62 (r_b_p.val (by omega) rfl)) ?_
 refine w_val (v := pt b_p 0) (y_off (y_fa (ex (pt b_p 0)) (GhAT.fa115_0 _ _)) (by first | rfl | omega)) ?_
 refine w_val (v := U64 (Gh.cl a 0)) (y_ld (ex (pt b_p 0)) GhAT.sc62 (r_b_p.val (by omega) rfl)) ?_
 refine w_val (v := .agg (arr 2 (fun j => U64 (Gh.wq a j)))) (y_build (vs := #[(0, U64 (Gh.cl a 1)), (1, U64 (Gh.cl a 0))]) (mp_cons e6 (mp_cons e6 mp0)) (fun w => by kernel_rfl)) ?_
 refine w_mv Ev.c ?_
 refine nt ?_
 refine wp_block ?_
 refine c_loop (fun dN aN wl => ∃ (q : Nat), dN = (2 - q) ∧ ∃ f7, aN = fr 68 f7 ∧ (q ≤ 2) ∧ f7 1 = pt m 0 ∧ f7 4 = pt b_4 0 ∧ f7 5 = pt b_z 0 ∧ f7 13 = .agg (arr 2 (fun j => U64 (Gh.wq a j))) ∧ f7 14 = .int .i64 ((q : Nat) : Int) ∧ Row wl m 116 32 (fun j => U64 (Gh.cl (Gh.mw b (j / 2)) (j % 2))) ∧ Row wl b_p 115 2 (fun j => U64 (Gh.cl a j)) ∧ Row wl b_4 115 2 (fun j => if j < 1 then U64 (0#64) else U64 (0#64)) ∧ Row wl b_z 115 2 (fun j => U64 (Gh.cl (Gh.zz f a b q) j)) ∧ Gh.Fold wl f ∧ Below w0.heap.size w0 wl) (2 - 0) ?_ ?_
 · exact ⟨0, rfl, _, rfl, iv, rfl, rfl, rfl, rfl, ti, r_m, r_b_p, r_b_4, (r_b_z.congr (fun j hj => by exact Gh.zz_0 f a b j hj)), hF, hk⟩
 ·skip
  clear r_m r_b_p r_b_4 r_b_z hF hk
  rintro _ _ w8 ⟨q, rfl, f7, rfl, i1_0, s1_1, s1_4, s1_5, s1_13, s1_14, r_m, r_b_p, r_b_4, r_b_z, hF, hk⟩
  refine sr ?_
  refine w_val (y_bin (ei s1_14) Ev.c b_lss) ?_
  refine nt ?_
  refine wp_seq ?_
  refine c_if (p := ((q : Nat) : Int) < 2) eb (fun hc9 => ?_) (fun hc9 => ?_)
  ·skip
   refine wp_skip ?_
   refine then_n ?_
   refine wp_seq ?_
   refine wp_block ?_
   refine sr ?_
   refine w_val (v := U64 (Gh.wq a q)) (y_idxa (m := 2) (F := fun j => U64 (Gh.wq a j)) (i := q) (ea s1_13) (ei s1_14) Tryd.underlying139 GhAT.sc62 GhAT.sz62 (by omega) (by omega)) ?_
   refine w_as e6 ?_
   refine nt ?_
   refine sr ?_
   refine w_mv Ev.c ?_
   refine nt ?_
   refine wp_block ?_
   refine c_loop (fun dN aN wl => ∃ (k : Nat), dN = (16 - k) ∧ ∃ f10, aN = fr 68 f10 ∧ (k ≤ 16) ∧ f10 1 = pt m 0 ∧ f10 4 = pt b_4 0 ∧ f10 5 = pt b_z 0 ∧ f10 7 = U64 (Gh.wq a q >>> (4 * k)) ∧ f10 13 = .agg (arr 2 (fun j => U64 (Gh.wq a j))) ∧ f10 14 = .int .i64 ((q : Nat) : Int) ∧ f10 17 = .int .i64 ((k : Nat) : Int) ∧ Row wl m 116 32 (fun j => U64 (Gh.cl (Gh.mw b (j / 2)) (j % 2))) ∧ Row wl b_p 115 2 (fun j => U64 (Gh.cl a j)) ∧ Row wl b_4 115 2 (fun j => if j < 1 then U64 (0#64) else U64 (0#64)) ∧ Row wl b_z 115 2 (fun j => U64 (Gh.cl (Gh.bh f b (Gh.wq a q) (Gh.zz f a b q) k) j)) ∧ Gh.Fold wl f ∧ Below w0.heap.size w0 wl) (16 - 0) ?_ ?_
   · exact ⟨0, rfl, _, rfl, iv, s1_1, s1_4, s1_5, (Eq.trans (b := U64 (Gh.wq a q)) rfl (by exact congrArg U64 (BitVec.ushiftRight_zero _).symm)), s1_13, s1_14, ti, r_m, r_b_p, r_b_4, (r_b_z.congr (fun j hj => by rfl)), hF, hk⟩
   ·skip
    clear r_m r_b_p r_b_4 r_b_z hF hk
    rintro _ _ w11 ⟨k, rfl, f10, rfl, i2_0, s2_1, s2_4, s2_5, s2_7, s2_13, s2_14, s2_17, r_m, r_b_p, r_b_4, r_b_z, hF, hk⟩
    refine sr ?_
    refine w_val (y_bin (ei s2_17) Ev.c b_lss) ?_
    refine nt ?_
    refine wp_seq ?_
    refine c_if (p := ((k : Nat) : Int) < 16) eb (fun hc12 => ?_) (fun hc12 => ?_)
    ·skip
     refine wp_skip ?_
     refine then_n ?_
     refine wp_seq ?_
     refine wp_block ?_
     refine sr ?_
     refine w_val (v := pt b_z 1) (y_off (y_fa (ex (pt b_z 0) s2_5) (GhAT.fa115_1 _ _)) (by first | rfl | omega)) ?_
     refine w_val (v := U64 (Gh.cl (Gh.bh f b (Gh.wq a q) (Gh.zz f a b q) k) 1)) (y_ld (ex (pt b_z 1)) GhAT.sc62 (r_b_z.val (by omega) rfl)) ?_
     refine w_val (y_bin e6 (evc (U64 (15#64))) and64) ?_
     refine w_as e6 ?_
     refine nt ?_
     refine sr ?_
     refine w_val (v := pt b_z 0) (y_off (y_fa (ex (pt b_z 0) s2_5) (GhAT.fa115_0 _ _)) (by first | rfl | omega)) ?_
     refine w_val (v := U64 (Gh.cl (Gh.bh f b (Gh.wq a q) (Gh.zz f a b q) k) 0)) (y_ld (ex (pt b_z 0)) GhAT.sc62 (r_b_z.val (by omega) rfl)) ?_
     refine w_val (y_bin e6 (evc (.int .u64 4)) (shr64 (c := 4) rfl)) ?_
     refine w_val (v := pt b_z 1) (y_off (y_fa (ex (pt b_z 0) s2_5) (GhAT.fa115_1 _ _)) (by first | rfl | omega)) ?_
     refine w_val (v := U64 (Gh.cl (Gh.bh f b (Gh.wq a q) (Gh.zz f a b q) k) 1)) (y_ld (ex (pt b_z 1)) GhAT.sc62 (r_b_z.val (by omega) rfl)) ?_
     refine w_val (y_bin e6 (evc (.int .u64 4)) (shr64 (c := 4) rfl)) ?_
     refine w_val (v := pt b_z 0) (y_off (y_fa (ex (pt b_z 0) s2_5) (GhAT.fa115_0 _ _)) (by first | rfl | omega)) ?_
     refine w_val (v := U64 (Gh.cl (Gh.bh f b (Gh.wq a q) (Gh.zz f a b q) k) 0)) (y_ld (ex (pt b_z 0)) GhAT.sc62 (r_b_z.val (by omega) rfl)) ?_
     refine w_val (y_bin e6 (evc (.int .u64 60)) (shl64 (c := 60) rfl)) ?_
     refine w_val (y_bin e6 e6 or64) ?_
     refine w_val (v := .agg (arr 2 (fun j => if j < 1 then U64 ((Gh.cl (Gh.bh f b (Gh.wq a q) (Gh.zz f a b q) k) 0) >>> 4) else U64 (((Gh.cl (Gh.bh f b (Gh.wq a q) (Gh.zz f a b q) k) 1) >>> 4) ||| ((Gh.cl (Gh.bh f b (Gh.wq a q) (Gh.zz f a b q) k) 0) <<< 60))))) (y_build (vs := #[(0, U64 ((Gh.cl (Gh.bh f b (Gh.wq a q) (Gh.zz f a b q) k) 0) >>> 4)), (1, U64 (((Gh.cl (Gh.bh f b (Gh.wq a q) (Gh.zz f a b q) k) 1) >>> 4) ||| ((Gh.cl (Gh.bh f b (Gh.wq a q) (Gh.zz f a b q) k) 0) <<< 60)))]) (mp_cons e6 (mp_cons e6 mp0)) (fun w => by kernel_rfl)) ?_
     refine w_sta (k := 2) (G := fun j => if j < 1 then U64 ((Gh.cl (Gh.bh f b (Gh.wq a q) (Gh.zz f a b q) k) 0) >>> 4) else U64 (((Gh.cl (Gh.bh f b (Gh.wq a q) (Gh.zz f a b q) k) 1) >>> 4) ||| ((Gh.cl (Gh.bh f b (Gh.wq a q) (Gh.zz f a b q) k) 0) <<< 60))) (ex (pt b_z 0) s2_5) ea oc GhAT.sz115 r_b_z (by omega) ?_
     clear r_b_z; intro w13 r_b_z hg14 _
     replace r_b_z := r_b_z.congr (g := fun j => if j < 1 then U64 ((Gh.cl (Gh.bh f b (Gh.wq a q) (Gh.zz f a b q) k) 0) >>> 4) else U64 (((Gh.cl (Gh.bh f b (Gh.wq a q) (Gh.zz f a b q) k) 1) >>> 4) ||| ((Gh.cl (Gh.bh f b (Gh.wq a q) (Gh.zz f a b q) k) 0) <<< 60))) (fun j hj => by rw [if_pos ⟨Nat.zero_le _, by omega⟩]; first | rfl | (simp only [Nat.sub_zero]))
     replace r_m := r_m.stepG hg14 (by omega)
     replace r_b_p := r_b_p.stepG hg14 (by omega)
     replace r_b_4 := r_b_4.stepG hg14 (by omega)
     replace hk := thenG hk hg14 (by omega)
     replace hF := Gh.Fold.grown hF hg14 (by omega)
     refine nt ?_
     refine wp_seq ?_
     refine region_t 8 GhAT.mixed (by kernel_rfl) ?_
     simp only [List.take_succ_cons, List.take_zero, List.drop_succ_cons, List.drop_zero]
     refine q_val (v := pt b_z 0) (fun w' hw' => y_off (y_fa (ex (pt b_z 0) s2_5) (GhAT.fa115_0 _ _)) (by first | rfl | omega)) ?_
     refine q_val (v := U64 ((Gh.cl (Gh.bh f b (Gh.wq a q) (Gh.zz f a b q) k) 0) >>> 4)) (fun w' hw' => y_ld (ex (pt b_z 0)) GhAT.sc62 (cls_cell (r_b_z.val (by omega) (etv (if_pos (by omega)))) r_b_z.lt w' hw')) ?_
     refine q_mv e6 ?_
     refine q_val (fun w' hw' => y_ia1z (i := (((Gh.cl (Gh.bh f b (Gh.wq a q) (Gh.zz f a b q) k) 1) &&& (15#64)).toNat)) Ev.g (ex (.int .u64 (((Gh.cl (Gh.bh f b (Gh.wq a q) (Gh.zz f a b q) k) 1) &&& (15#64)).toNat : Int))) Tryd.underlying140 GhAT.sz62 rfl (by exact Gh.nib_lt _)) ?_
     refine q_val (v := U64 (f (((Gh.cl (Gh.bh f b (Gh.wq a q) (Gh.zz f a b q) k) 1) &&& (15#64)).toNat))) (fun w' hw' => y_ld (ex (pt 0 (((Gh.cl (Gh.bh f b (Gh.wq a q) (Gh.zz f a b q) k) 1) &&& (15#64)).toNat))) GhAT.sc62 ((Gh.Fold.below hF hw').at_ (by exact Gh.nib_lt _))) ?_
     refine q_val (fun w' hw' => y_bin e6 (evc (.int .u64 48)) (shl64 (c := 48) rfl)) ?_
     refine q_val (fun w' hw' => y_bin e6 e6 xor64) ?_
     refine q_val (v := pt b_z 0) (fun w' hw' => y_off (y_fa (ex (pt b_z 0) s2_5) (GhAT.fa115_0 _ _)) (by first | rfl | omega)) ?_
     refine q_nil ?_
     intro w15 hb16
     replace r_m := r_m.step hb16
     replace r_b_p := r_b_p.step hb16
     replace r_b_4 := r_b_4.step hb16
     replace r_b_z := r_b_z.step hb16
     replace hk := thenB hk hb16
     replace hF := Gh.Fold.below hF hb16
     refine w_st (v := U64 (((Gh.cl (Gh.bh f b (Gh.wq a q) (Gh.zz f a b q) k) 0) >>> 4) ^^^ ((f (((Gh.cl (Gh.bh f b (Gh.wq a q) (Gh.zz f a b q) k) 1) &&& (15#64)).toNat)) <<< 48))) (ex (pt b_z 0)) e6 rfl rfl GhAT.sz62 r_b_z (by omega) ?_
     clear r_b_z; intro w17 r_b_z hg18 _
     replace r_m := r_m.stepG hg18 (by omega)
     replace r_b_p := r_b_p.stepG hg18 (by omega)
     replace r_b_4 := r_b_4.stepG hg18 (by omega)
     replace hk := thenG hk hg18 (by omega)
     replace hF := Gh.Fold.grown hF hg18 (by omega)
     refine nt ?_
     refine wp_seq ?_
     refine region_t 11 GhAT.mixed (by kernel_rfl) ?_
     simp only [List.take_succ_cons, List.take_zero, List.drop_succ_cons, List.drop_zero]
     refine q_val (v := pt b_z 0) (fun w' hw' => y_off (y_fa (ex (pt b_z 0) s2_5) (GhAT.fa115_0 _ _)) (by first | rfl | omega)) ?_
     refine q_val (v := U64 (((Gh.cl (Gh.bh f b (Gh.wq a q) (Gh.zz f a b q) k) 0) >>> 4) ^^^ ((f (((Gh.cl (Gh.bh f b (Gh.wq a q) (Gh.zz f a b q) k) 1) &&& (15#64)).toNat)) <<< 48))) (fun w' hw' => y_ld (ex (pt b_z 0)) GhAT.sc62 (cls_cell (r_b_z.val (by omega) (if_pos rfl)) r_b_z.lt w' hw')) ?_
     refine q_mv (ex (pt m 0) s2_1) ?_
     refine q_mv (e6 s2_7) ?_
     refine q_val (fun w' hw' => y_bin e6 (evc (U64 (15#64))) and64) ?_
     refine q_val (fun w' hw' => y_nc (ex (pt m 0))) ?_
     refine q_val (v := pt m (((Gh.wq a q >>> (4 * k)) &&& (15#64)).toNat * 2)) (fun w' hw' => y_off (y_ia (i := (((Gh.wq a q >>> (4 * k)) &&& (15#64)).toNat)) (ex (pt m 0)) (ex (.int .u64 (((Gh.wq a q >>> (4 * k)) &&& (15#64)).toNat : Int))) Tryd.underlying116 GhAT.sz115 rfl (by exact Gh.nib_lt _)) (by first | rfl | omega)) ?_
     refine q_val (v := pt m (((Gh.wq a q >>> (4 * k)) &&& (15#64)).toNat * 2)) (fun w' hw' => y_off (y_fa (ex (pt m (((Gh.wq a q >>> (4 * k)) &&& (15#64)).toNat * 2))) (GhAT.fa115_0 _ _)) (by first | rfl | omega)) ?_
     have hn1 := Gh.nib_lt (Gh.wq a q >>> (4 * k))
     refine q_val (v := U64 (Gh.cl (Gh.mw b (((Gh.wq a q >>> (4 * k)) &&& (15#64)).toNat)) 0)) (fun w' hw' => y_ld (ex (pt m (((Gh.wq a q >>> (4 * k)) &&& (15#64)).toNat * 2))) GhAT.sc62 (cls_cell (r_m.val (by omega) (by (try dsimp only); rw [show (((Gh.wq a q >>> (4 * k)) &&& (15#64)).toNat * 2) / 2 = ((Gh.wq a q >>> (4 * k)) &&& (15#64)).toNat from by omega, show (((Gh.wq a q >>> (4 * k)) &&& (15#64)).toNat * 2) % 2 = 0 from by omega])) r_m.lt w' hw')) ?_
     refine q_val (fun w' hw' => y_bin e6 e6 xor64) ?_
     refine q_val (v := pt b_z 0) (fun w' hw' => y_off (y_fa (ex (pt b_z 0) s2_5) (GhAT.fa115_0 _ _)) (by first | rfl | omega)) ?_
     refine q_nil ?_
     intro w19 hb20
     replace r_m := r_m.step hb20
     replace r_b_p := r_b_p.step hb20
     replace r_b_4 := r_b_4.step hb20
     replace r_b_z := r_b_z.step hb20
     replace hk := thenB hk hb20
     replace hF := Gh.Fold.below hF hb20
     refine w_st (v := U64 ((((Gh.cl (Gh.bh f b (Gh.wq a q) (Gh.zz f a b q) k) 0) >>> 4) ^^^ ((f (((Gh.cl (Gh.bh f b (Gh.wq a q) (Gh.zz f a b q) k) 1) &&& (15#64)).toNat)) <<< 48)) ^^^ (Gh.cl (Gh.mw b (((Gh.wq a q >>> (4 * k)) &&& (15#64)).toNat)) 0))) (ex (pt b_z 0)) e6 rfl rfl GhAT.sz62 r_b_z (by omega) ?_
     clear r_b_z; intro w21 r_b_z hg22 _
     replace r_m := r_m.stepG hg22 (by omega)
     replace r_b_p := r_b_p.stepG hg22 (by omega)
     replace r_b_4 := r_b_4.stepG hg22 (by omega)
     replace hk := thenG hk hg22 (by omega)
     replace hF := Gh.Fold.grown hF hg22 (by omega)
     refine nt ?_
     refine wp_seq ?_
     refine region_t 11 GhAT.mixed (by kernel_rfl) ?_
     simp only [List.take_succ_cons, List.take_zero, List.drop_succ_cons, List.drop_zero]
     refine q_val (v := pt b_z 1) (fun w' hw' => y_off (y_fa (ex (pt b_z 0) s2_5) (GhAT.fa115_1 _ _)) (by first | rfl | omega)) ?_
     refine q_val (v := U64 (((Gh.cl (Gh.bh f b (Gh.wq a q) (Gh.zz f a b q) k) 1) >>> 4) ||| ((Gh.cl (Gh.bh f b (Gh.wq a q) (Gh.zz f a b q) k) 0) <<< 60))) (fun w' hw' => y_ld (ex (pt b_z 1)) GhAT.sc62 (cls_cell (r_b_z.val (by omega) ((if_neg (by omega)).trans ((if_neg (by omega)).trans ((if_neg (by omega)).trans (by first | with_reducible rfl | (with_reducible congr 1 <;> omega) | (with_reducible congr 2 <;> omega) | (with_reducible congr 3 <;> omega) | rfl))))) r_b_z.lt w' hw')) ?_
     refine q_mv (ex (pt m 0) s2_1) ?_
     refine q_mv (e6 s2_7) ?_
     refine q_val (fun w' hw' => y_bin e6 (evc (U64 (15#64))) and64) ?_
     refine q_val (fun w' hw' => y_nc (ex (pt m 0))) ?_
     refine q_val (v := pt m (((Gh.wq a q >>> (4 * k)) &&& (15#64)).toNat * 2)) (fun w' hw' => y_off (y_ia (i := (((Gh.wq a q >>> (4 * k)) &&& (15#64)).toNat)) (ex (pt m 0)) (ex (.int .u64 (((Gh.wq a q >>> (4 * k)) &&& (15#64)).toNat : Int))) Tryd.underlying116 GhAT.sz115 rfl (by exact Gh.nib_lt _)) (by first | rfl | omega)) ?_
     refine q_val (v := pt m ((((Gh.wq a q >>> (4 * k)) &&& (15#64)).toNat * 2) + 1)) (fun w' hw' => y_off (y_fa (ex (pt m (((Gh.wq a q >>> (4 * k)) &&& (15#64)).toNat * 2))) (GhAT.fa115_1 _ _)) (by first | rfl | omega)) ?_
     have hn2 := Gh.nib_lt (Gh.wq a q >>> (4 * k))
     refine q_val (v := U64 (Gh.cl (Gh.mw b (((Gh.wq a q >>> (4 * k)) &&& (15#64)).toNat)) 1)) (fun w' hw' => y_ld (ex (pt m ((((Gh.wq a q >>> (4 * k)) &&& (15#64)).toNat * 2) + 1))) GhAT.sc62 (cls_cell (r_m.val (by omega) (by (try dsimp only); rw [show ((((Gh.wq a q >>> (4 * k)) &&& (15#64)).toNat * 2) + 1) / 2 = ((Gh.wq a q >>> (4 * k)) &&& (15#64)).toNat from by omega, show ((((Gh.wq a q >>> (4 * k)) &&& (15#64)).toNat * 2) + 1) % 2 = 1 from by omega])) r_m.lt w' hw')) ?_
     refine q_val (fun w' hw' => y_bin e6 e6 xor64) ?_
     refine q_val (v := pt b_z 1) (fun w' hw' => y_off (y_fa (ex (pt b_z 0) s2_5) (GhAT.fa115_1 _ _)) (by first | rfl | omega)) ?_
     refine q_nil ?_
     intro w23 hb24
     replace r_m := r_m.step hb24
     replace r_b_p := r_b_p.step hb24
     replace r_b_4 := r_b_4.step hb24
     replace r_b_z := r_b_z.step hb24
     replace hk := thenB hk hb24
     replace hF := Gh.Fold.below hF hb24
     refine w_st (v := U64 ((((Gh.cl (Gh.bh f b (Gh.wq a q) (Gh.zz f a b q) k) 1) >>> 4) ||| ((Gh.cl (Gh.bh f b (Gh.wq a q) (Gh.zz f a b q) k) 0) <<< 60)) ^^^ (Gh.cl (Gh.mw b (((Gh.wq a q >>> (4 * k)) &&& (15#64)).toNat)) 1))) (ex (pt b_z 1)) e6 rfl rfl GhAT.sz62 r_b_z (by omega) ?_
     clear r_b_z; intro w25 r_b_z hg26 _
     replace r_m := r_m.stepG hg26 (by omega)
     replace r_b_p := r_b_p.stepG hg26 (by omega)
     replace r_b_4 := r_b_4.stepG hg26 (by omega)
     replace hk := thenG hk hg26 (by omega)
     replace hF := Gh.Fold.grown hF hg26 (by omega)
     refine nt ?_
     refine wp_region_lit ?_
     refine w_mv (e6 s2_7) ?_
     refine w_val (y_bin e6 (evc (.int .u64 4)) (shr64 (c := 4) rfl)) ?_
     refine w_as e6 ?_
     refine wpList_nil ?_
     refine inb_n ?_
     refine then_n ?_
     refine wp_region_lit ?_
     refine w_val (y_bin (ei s2_17) Ev.c (b_add (by omega))) ?_
     refine w_mv ei ?_
     refine wpList_nil ?_
     exact then_n ⟨_, (by omega), k + 1, rfl, _, rfl, iv, s2_1, s2_4, s2_5, (Eq.trans (b := U64 ((Gh.wq a q >>> (4 * k)) >>> 4)) rfl (by exact congrArg U64 (BitVec.shiftRight_add _ _ _).symm)), s2_13, s2_14, ti, r_m, r_b_p, r_b_4, (r_b_z.congr (fun j hj => by exact Gh.bh_row f b (Gh.wq a q) (Gh.zz f a b q) k j hj)), hF, hk⟩
    ·skip
     refine wp_exit ?_
     refine then_x ?_
     refine then_x ?_
     refine inb_x ?_
     refine inb_n ?_
     refine then_n ?_
     refine wp_region_lit ?_
     refine w_val (y_bin (ei s2_14) Ev.c (b_add (by omega))) ?_
     refine w_mv ei ?_
     refine wpList_nil ?_
     exact then_n ⟨_, (by omega), q + 1, rfl, _, rfl, iv, s2_1, s2_4, s2_5, s2_13, ti, r_m, r_b_p, r_b_4, (r_b_z.congr (fun j hj => by obtain rfl : k = 16 := (by omega); rfl)), hF, hk⟩
  ·skip
   refine wp_exit ?_
   refine then_x ?_
   replace r_b_z := r_b_z.congr (g := fun j => U64 (Gh.cl (Gh.byw f a b) j)) (fun j hj => by obtain rfl : q = 2 := (by omega); rfl)
   refine then_x ?_
   refine inb_x ?_
   refine then_n ?_
   refine sr ?_
   refine w_val (v := .agg (arr 2 (fun j => U64 (Gh.cl (Gh.byw f a b) j)))) (y_lda (ex (pt b_z 0) s1_5) GhAT.ag115 GhAT.sz115 (fun j hj => by rw [Nat.zero_add]; exact (r_b_z.cell (by omega)))) ?_
   refine w_sta (k := 2) (G := fun j => U64 (Gh.cl (Gh.byw f a b) j)) (ex (pt b_4 0) s1_4) ea oc GhAT.sz115 r_b_4 (by omega) ?_
   clear r_b_4; intro w27 r_b_4 hg28 _
   replace r_b_4 := r_b_4.congr (g := fun j => U64 (Gh.cl (Gh.byw f a b) j)) (fun j hj => by rw [if_pos ⟨Nat.zero_le _, by omega⟩]; first | rfl | (simp only [Nat.sub_zero]))
   replace r_m := r_m.stepG hg28 (by omega)
   replace r_b_p := r_b_p.stepG hg28 (by omega)
   replace r_b_z := r_b_z.stepG hg28 (by omega)
   replace hk := thenG hk hg28 (by omega)
   replace hF := Gh.Fold.grown hF hg28 (by omega)
   refine nt ?_
   refine wp_ret ?_
   refine fin_arr (F := fun j => U64 (Gh.cl (Gh.byw f a b) j)) rfl (ex (pt b_4 0) s1_4) GhAT.ag115 GhAT.sz115 r_b_4 (by omega) ?_
   exact ⟨rfl, hk⟩
end Go.Proofs.YtkjdejadambffaaDoor
