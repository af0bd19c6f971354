/-
  Sums over the field, by the program. Conditions as each says.
-/
import Derived.Test.YtdmbfimjbmfbaaaGreatRows
import Derived.Test.YtdmbfimjbmfbaaaGreatGhA
import Derived.Test.YtdmbfimjbmfbaaaGreatGenSh
import Derived.ProofKit
namespace Go.Proofs.YtdmbfimjbmfbaaaGreat
open Go.RowKit
set_option linter.unusedSimpArgs false
set_option linter.unusedVariables false
set_option maxRecDepth 100000
set_option maxHeartbeats 1000000
namespace GhBT
theorem mixed : Tryz.prog.follows .mixedOrders = true := by kernel_rfl
theorem ag120 : (Tryz.prog.underlying 120).map isAggD = some true := by rw [Tryz.underlying120]; rfl
theorem ag121 : (Tryz.prog.underlying 121).map isAggD = some true := by rw [Tryz.underlying121]; rfl
theorem fa120_0 (g off : Nat) : ∀ w, (Instr.fieldAt 120 (.pointer (some ⟨g, off, none⟩)) 0).run Tryz.prog w = .ok (.pointer (some ⟨g, off + 0, none⟩)) w := fun w => by kernel_rfl
theorem fa120_1 (g off : Nat) : ∀ w, (Instr.fieldAt 120 (.pointer (some ⟨g, off, none⟩)) 1).run Tryz.prog w = .ok (.pointer (some ⟨g, off + 1, none⟩)) w := fun w => by kernel_rfl
theorem sc83 : (Tryz.prog.underlying 83).map scal = some true := by rw [Tryz.underlying83]; rfl
theorem so5 : (Tryz.prog.underlying 5).isSome = true := by rw [Tryz.underlying5]; rfl
theorem so83 : (Tryz.prog.underlying 83).isSome = true := by rw [Tryz.underlying83]; rfl
theorem sz120 : (Tryz.prog.info? 120).map (·.size) = some 2 := by kernel_rfl
theorem sz121 : (Tryz.prog.info? 121).map (·.size) = some 32 := by kernel_rfl
theorem sz5 : (Tryz.prog.info? 5).map (·.size) = some 1 := by kernel_rfl
theorem sz83 : (Tryz.prog.info? 83).map (·.size) = some 1 := by kernel_rfl
end GhBT
theorem ghSum (f : Nat → BitVec 64) (key s : List (BitVec 8)) (hk16 : key.length = 16) (h16 : s.length % 16 = 0) (hl : s.length ≤ 210000) (w0 : World) (hF : Gh.Fold w0 f) : Calls Tryz.prog 38 #[.string (str key), .string (str s)] w0 fun e w' => e = .returned (.tuple #[.string (str (Gh.sum f key s)), .int .i64 0]) ∧ Below w0.heap.size w0 w' := by
 have hF0 := hF.2
 refine enter (n := 51) Tryz.func38 rfl rfl rfl ?_
 have hk : Below w0.heap.size w0 w0 := Below.refl _ _
 refine sr (w_as (evc (.string (str ([] : List (BitVec 8))))) (w_as Ev.c (nt (wp_seq (sr (w_mv es (w_val (y_len es Tryz.underlying9) (w_val (y_bin ei Ev.c b_neq) (nt ?_)))))))))
 have hc1 : ¬ (((key.length : Nat) : Int) ≠ 16) := by omega
 refine c_f (p := ((key.length : Nat) : Int) ≠ 16) eb hc1 (wp_skip (then_n (wp_seq (sr (w_mv es (w_val (y_len es Tryz.underlying9) (w_val (y_bin ei Ev.c (b_rem om)) (w_val (y_bin ei Ev.c b_neq) (w_mv eb ?_)))))))))
 have hc2 : ¬ ((((s.length : Nat) : Int) % 16) ≠ 0) := by omega
 refine w_val_g (v := .string (str s)) (wy rfl rfl (eb (df hc2))) (y_mv es) (w_val_g (wy rfl rfl (eb (df hc2))) (y_len es Tryz.underlying9) (w_val_g (wy rfl rfl (eb (df hc2))) (y_bin ei Ev.c b_gtr) (w_val (y_pick_f (eb (df hc2)) eb) (nt ?_))))
 have hc3 : ¬ (210000 < ((s.length : Nat) : Int)) := by omega
 refine c_f (p := 210000 < ((s.length : Nat) : Int)) eb hc3 (wp_skip (then_n (sr (w_mv es (w_call (Tryz.func58) kr rfl (m1 es) (ghLoad key hk16 w0) ?_)))))
 rintro _ w4 ⟨rfl, hb5⟩
 refine ⟨_, rfl, ?_⟩
 replace hk := thenB hk hb5
 replace hF := Gh.Fold.below hF hb5
 refine w_call (Tryz.func57) kr rfl (m1 ea) (ghMultiples (Gh.lw key) w4) ?_
 rintro _ w6 ⟨rfl, hb7⟩
 refine ⟨_, rfl, ?_⟩
 replace hk := thenB hk hb7
 replace hF := Gh.Fold.below hF hb7
 refine w_alloc (m := 32) (F := fun j => U64 (0#64)) kr ?_
 intro b_m w8 hbe_b_m r_b_m hb9
 have ge_b_m := gb_ hk.size hbe_b_m
 clear hbe_b_m
 replace hk := thenB hk hb9
 replace hF := Gh.Fold.below hF hb9
 refine w_sta (k := 32) (G := fun j => U64 (Gh.cl (Gh.mw (Gh.lw key) (j / 2)) (j % 2))) (ex (pt b_m 0)) ea oc GhBT.sz121 r_b_m om ?_
 clear r_b_m; intro w10 r_b_m hg11 _
 replace r_b_m := r_b_m.congr (g := fun j => U64 (Gh.cl (Gh.mw (Gh.lw key) (j / 2)) (j % 2))) (fun j hj => by rw [if_pos ⟨Nat.zero_le _, by omega⟩]; first | rfl | (simp only [Nat.sub_zero]))
 replace hk := thenG hk hg11 om
 replace hF := Gh.Fold.grown hF hg11 om
 refine nt (sr (w_alloc (m := 2) (F := fun j => if j < 1 then U64 (0#64) else U64 (0#64)) kr ?_))
 intro b_z w12 hbe_b_z r_b_z hb13
 have ne_b_m_b_z := r_b_m.nb hbe_b_z
 have ge_b_z := gb_ hk.size hbe_b_z
 clear hbe_b_z
 replace r_b_m := r_b_m.step hb13
 replace hk := thenB hk hb13
 replace hF := Gh.Fold.below hF hb13
 refine nt (wp_seq (sr (w_as Ev.c (nt (wp_block ?_)))))
 refine c_loop (fun dN aN wl => ∃ (t : Nat), dN = (s.length - 16 * t) ∧ ∃ f14, aN = fr 51 f14 ∧ (16 * t ≤ s.length) ∧ f14 1 = .string (str s) ∧ f14 4 = .string (str ([] : List (BitVec 8))) ∧ f14 5 = .int .i64 0 ∧ f14 6 = pt b_m 0 ∧ f14 7 = pt b_z 0 ∧ f14 8 = .int .i64 (((16 * t) : Nat) : Int) ∧ Row wl b_m 121 32 (fun j => U64 (Gh.cl (Gh.mw (Gh.lw key) (j / 2)) (j % 2))) ∧ Row wl b_z 120 2 (fun j => U64 (Gh.cl (Gh.gw f key s t) j)) ∧ Gh.Fold wl f ∧ Below w0.heap.size w0 wl) (s.length - 16 * 0) ?_ ?_
 · exact ⟨0, rfl, _, rfl, iv, rfl, rfl, rfl, rfl, rfl, ti, r_b_m, (r_b_z.congr (fun j hj => by exact Gh.zz_0 f Gh.z2 Gh.z2 j hj)), hF, hk⟩
 ·skip
  clear r_b_m r_b_z hF hk
  rintro _ _ w15 ⟨t, rfl, f14, rfl, i1_0, s1_1, s1_4, s1_5, s1_6, s1_7, s1_8, r_b_m, r_b_z, hF, hk⟩
  refine wp_seq (sr (w_mv (ei s1_8) (w_mv (es s1_1) (w_val (y_len es Tryz.underlying9) (w_val (y_bin ei ei b_lss) (nt ?_))))))
  refine c_if (p := (((16 * t) : Nat) : Int) < ((s.length : Nat) : Int)) eb (fun hc16 => ?_) (fun hc16 => ?_)
  ·skip
   refine wp_skip (then_n (wp_seq (wp_block (sr (w_mv (es s1_1) (w_mv (ei s1_8) (w_mv (ei s1_8) (w_val (y_bin ei Ev.c (b_add om)) (w_val (v := .string (str ((s.drop (16 * t)).take (((16 * t) + 16) - (16 * t))))) (y_sls (ex (.string (str s))) (evo.s ei) (evo.s ei) Tryz.underlying9 (bnd_lh (l := (16 * t)) (h := ((16 * t) + 16)) om om om om)) (w_call (Tryz.func58) kr rfl (m1 es) (ghLoad ((s.drop (16 * t)).take (((16 * t) + 16) - (16 * t))) (by simp only [List.length_take, List.length_drop]; omega) w15) ?_))))))))))
   rintro _ w17 ⟨rfl, hb18⟩
   refine ⟨_, rfl, ?_⟩
   replace r_b_m := r_b_m.step hb18
   replace r_b_z := r_b_z.step hb18
   replace hk := thenB hk hb18
   replace hF := Gh.Fold.below hF hb18
   refine w_alloc (m := 2) (F := fun j => if j < 1 then U64 (0#64) else U64 (0#64)) kr ?_
   intro b_x w19 hbe_b_x r_b_x hb20
   have ne_b_m_b_x := r_b_m.nb hbe_b_x
   have ne_b_z_b_x := r_b_z.nb hbe_b_x
   have ge_b_x := gb_ hk.size hbe_b_x
   clear hbe_b_x
   replace r_b_m := r_b_m.step hb20
   replace r_b_z := r_b_z.step hb20
   replace hk := thenB hk hb20
   replace hF := Gh.Fold.below hF hb20
   refine w_sta (k := 2) (G := fun j => U64 (Gh.cl (Gh.lw ((s.drop (16 * t)).take (((16 * t) + 16) - (16 * t)))) j)) (ex (pt b_x 0)) ea oc GhBT.sz120 r_b_x om ?_
   clear r_b_x; intro w21 r_b_x hg22 _
   replace r_b_x := r_b_x.congr (g := fun j => U64 (Gh.cl (Gh.lw ((s.drop (16 * t)).take (((16 * t) + 16) - (16 * t)))) j)) (fun j hj => by rw [if_pos ⟨Nat.zero_le _, by omega⟩]; first | rfl | (simp only [Nat.sub_zero]))
   replace r_b_m := r_b_m.stepG hg22 om
   replace r_b_z := r_b_z.stepG hg22 om
   replace hk := thenG hk hg22 om
   replace hF := Gh.Fold.grown hF hg22 om
   refine nt (wp_region_lit (w_val (v := pt b_z 0) (y_off (y_fa (ex (pt b_z 0) s1_7) (GhBT.fa120_0 _ _)) ro) (w_val (v := U64 (Gh.cl (Gh.gw f key s t) 0)) (y_ld (ex (pt b_z 0)) GhBT.sc83 (r_b_z.val om rfl)) (w_val (v := pt b_x 0) (y_off (y_fa (ex (pt b_x 0)) (GhBT.fa120_0 _ _)) ro) (w_val (v := U64 (Gh.cl (Gh.lw ((s.drop (16 * t)).take (((16 * t) + 16) - (16 * t)))) 0)) (y_ld (ex (pt b_x 0)) GhBT.sc83 (r_b_x.val om rfl)) (w_val (y_bin e6 e6 xor64) (w_val (v := pt b_z 1) (y_off (y_fa (ex (pt b_z 0) s1_7) (GhBT.fa120_1 _ _)) ro) (w_val (v := U64 (Gh.cl (Gh.gw f key s t) 1)) (y_ld (ex (pt b_z 1)) GhBT.sc83 (r_b_z.val om rfl)) (w_val (v := pt b_x 1) (y_off (y_fa (ex (pt b_x 0)) (GhBT.fa120_1 _ _)) ro) (w_val (v := U64 (Gh.cl (Gh.lw ((s.drop (16 * t)).take (((16 * t) + 16) - (16 * t)))) 1)) (y_ld (ex (pt b_x 1)) GhBT.sc83 (r_b_x.val om rfl)) (w_val (y_bin e6 e6 xor64) (w_val (v := .agg (arr 2 (fun j => U64 (Gh.cl (Gh.xw (Gh.gw f key s t) (Gh.lw ((s.drop (16 * t)).take (16 * t + 16 - 16 * t)))) j)))) (y_build (vs := #[(0, U64 ((Gh.cl (Gh.gw f key s t) 0) ^^^ (Gh.cl (Gh.lw ((s.drop (16 * t)).take (((16 * t) + 16) - (16 * t)))) 0))), (1, U64 ((Gh.cl (Gh.gw f key s t) 1) ^^^ (Gh.cl (Gh.lw ((s.drop (16 * t)).take (((16 * t) + 16) - (16 * t)))) 1)))]) (mp_cons e6 (mp_cons e6 mp0)) (fun w => by kernel_rfl)) (w_call (Tryz.func59) kr rfl (m2 ea (ex (pt b_m 0) s1_6)) (ghBy f (Gh.xw (Gh.gw f key s t) (Gh.lw ((s.drop (16 * t)).take (16 * t + 16 - 16 * t)))) (Gh.lw key) b_m w21 r_b_m hF) ?_)))))))))))))
   rintro _ w23 ⟨rfl, hb24⟩
   refine ⟨_, rfl, ?_⟩
   replace r_b_m := r_b_m.step hb24
   replace r_b_z := r_b_z.step hb24
   replace r_b_x := r_b_x.step hb24
   replace hk := thenB hk hb24
   replace hF := Gh.Fold.below hF hb24
   refine w_sta (k := 2) (G := fun j => U64 (Gh.cl (Gh.byw f (Gh.xw (Gh.gw f key s t) (Gh.lw ((s.drop (16 * t)).take (16 * t + 16 - 16 * t)))) (Gh.lw key)) j)) (ex (pt b_z 0) s1_7) ea oc GhBT.sz120 r_b_z om ?_
   clear r_b_z; intro w25 r_b_z hg26 _
   replace r_b_z := r_b_z.congr (g := fun j => U64 (Gh.cl (Gh.byw f (Gh.xw (Gh.gw f key s t) (Gh.lw ((s.drop (16 * t)).take (16 * t + 16 - 16 * t)))) (Gh.lw key)) j)) (fun j hj => by rw [if_pos ⟨Nat.zero_le _, by omega⟩]; first | rfl | (simp only [Nat.sub_zero]))
   replace r_b_m := r_b_m.stepG hg26 om
   replace r_b_x := r_b_x.stepG hg26 om
   replace hk := thenG hk hg26 om
   replace hF := Gh.Fold.grown hF hg26 om
   refine wpList_nil (inb_n (then_n (wp_region_lit (w_mv (ei s1_8) (w_val (y_bin ei Ev.c (b_add om)) (w_as ei (wpList_nil ?_)))))))
   exact then_n ⟨_, om, t + 1, rfl, _, rfl, iv, s1_1, s1_4, s1_5, s1_6, s1_7, ti, r_b_m, (r_b_z.congr (fun j hj => by rw [Cb.bk_at s t _ om]; rfl)), hF, hk⟩
  ·skip
   refine wp_exit (then_x (then_x (inb_x (then_n (sr (w_val (v := .agg (arr 2 (fun j => U64 (Gh.cl (Gh.gw f key s t) j)))) (y_lda (ex (pt b_z 0) s1_7) GhBT.ag120 GhBT.sz120 (fun j hj => by rw [Nat.zero_add]; exact (r_b_z.cell om))) (w_call (Tryz.func60) kr rfl (m1 ea) (ghStore (Gh.gw f key s t) w15) ?_)))))))
   rintro _ w27 ⟨rfl, hb28⟩
   refine ⟨_, rfl, ?_⟩
   replace r_b_m := r_b_m.step hb28
   replace r_b_z := r_b_z.step hb28
   replace hk := thenB hk hb28
   replace hF := Gh.Fold.below hF hb28
   refine w_as es (w_as Ev.c (nt (wp_ret (fin_ret2 rfl es ei ?_))))
   refine ⟨congrArg Ending.returned ?_, hk⟩
   show (.tuple #[.string (str (Gh.st (Gh.gw f key s t))), .int .i64 0] : Value) = .tuple #[.string (str (Gh.sum f key s)), .int .i64 0]
   obtain rfl : t = s.length / 16 := by omega
   rfl
end Go.Proofs.YtdmbfimjbmfbaaaGreat
