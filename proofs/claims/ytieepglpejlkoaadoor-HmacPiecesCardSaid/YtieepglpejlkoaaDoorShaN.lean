/-
  Numbers and roots of the reference. Conditions as each says.
-/
import Derived.Test.YtieepglpejlkoaaDoorRows
import Derived.Test.YtieepglpejlkoaaDoorGenMore
import Derived.Test.YtieepglpejlkoaaDoorShaRoot
import Derived.ProofKit
namespace Go.Proofs.YtieepglpejlkoaaDoor
open Go.RowKit
set_option linter.unusedSimpArgs false
set_option linter.unusedVariables false
namespace ShaNT
theorem mixed : Tryd.prog.follows .mixedOrders = true := by kernel_rfl
theorem ag85 : (Tryd.prog.underlying 85).map isAggD = some true := by rw [Tryd.underlying85]; rfl
theorem sc39 : (Tryd.prog.underlying 39).map scal = some true := by rw [Tryd.underlying39]; rfl
theorem so3 : (Tryd.prog.underlying 3).isSome = true := by rw [Tryd.underlying3]; rfl
theorem sz39 : (Tryd.prog.info? 39).map (·.size) = some 1 := by kernel_rfl
theorem sz85 : (Tryd.prog.info? 85).map (·.size) = some 4 := by kernel_rfl
end ShaNT
set_option maxRecDepth 100000 in
set_option maxHeartbeats 1000000 in
theorem half_c (X i : Nat) (hi : i < 8) (w0 : World) : Calls Tryd.prog 55 #[.agg (arr 4 (fun j => U64 (Sha.wn X j))), .int .i64 ((i : Nat) : Int)] w0 fun e w' => e = .returned (U64 (BitVec.ofNat 64 (Sha.hf X i))) ∧ Below w0.heap.size w0 w' := by
 refine enter (n := 18) Tryd.func55 rfl rfl rfl ?_
 have hk : Below w0.heap.size w0 w0 := Below.refl _ _
 refine sr ?_
 refine w_box (m := 4) (F := fun j => U64 (Sha.wn X j)) (ev (.agg (arr 4 (fun j => U64 (Sha.wn X j)))) rfl rfl) rfl ?_
 intro b_a w1 hbe_b_a r_b_a hb2
 have ge_b_a : w0.heap.size ≤ b_a := by have := hk.size; omega
 clear hbe_b_a
 replace hk := thenB hk hb2
 refine w_as (evc (U64 (0#64))) ?_
 refine nt ?_
 refine wp_seq ?_
 refine sr ?_
 refine w_mv (ev (.int .i64 ((i : Nat) : Int)) rfl rfl) ?_
 refine w_val (y_bin (ev (.int .i64 ((i : Nat) : Int)) rfl rfl) (evc (.int .i64 2)) (b_rem (by omega))) ?_
 refine w_val (y_bin (ev (.int .i64 (((i : Nat) : Int) % 2)) rfl rfl) (evc (.int .i64 1)) b_eql) ?_
 refine nt ?_
 refine c_if (p := (((i : Nat) : Int) % 2) = 1) (ev (.bool (decide ((((i : Nat) : Int) % 2) = 1))) rfl rfl) (fun hc3 => ?_) (fun hc3 => ?_)
 ·skip
  refine sr ?_
  refine w_mv (ev (.int .i64 ((i : Nat) : Int)) rfl rfl) ?_
  refine w_val (y_bin (ev (.int .i64 ((i : Nat) : Int)) rfl rfl) (evc (.int .i64 2)) (b_quo (by omega))) ?_
  refine w_val (y_ia1z (i := (i / 2)) (ev (pt b_a 0) rfl rfl) (ev (.int .i64 (((i : Nat) : Int) / 2)) rfl rfl) Tryd.underlying85 ShaNT.sz39 (by omega) (by omega)) ?_
  refine w_val (v := U64 (Sha.wn X (i / 2))) (y_ld (ev (pt b_a (i / 2)) rfl rfl) ShaNT.sc39 (r_b_a.val (by omega) rfl)) ?_
  refine w_val (y_bin (ev (U64 (Sha.wn X (i / 2))) rfl rfl) (evc (.int .u64 32)) (shr64 (c := 32) rfl)) ?_
  refine w_as (ev (U64 ((Sha.wn X (i / 2)) >>> 32)) rfl rfl) ?_
  refine nt ?_
  refine wp_ret ?_
  refine then_r ?_
  refine fin_ret1 rfl (ev (U64 ((Sha.wn X (i / 2)) >>> 32)) rfl rfl) ?_
  refine ⟨congrArg Ending.returned ?_, hk⟩
  show (U64 ((Sha.wn X (i / 2)) >>> 32) : Value) = U64 (BitVec.ofNat 64 (Sha.hf X i))
  first | exact congrArg U64 (Sha.half_hi X i _ (by omega)) | exact congrArg U64 (Sha.half_lo X i _ (by omega))
 ·skip
  refine wp_skip ?_
  refine then_n ?_
  refine sr ?_
  refine w_mv (ev (.int .i64 ((i : Nat) : Int)) rfl rfl) ?_
  refine w_val (y_bin (ev (.int .i64 ((i : Nat) : Int)) rfl rfl) (evc (.int .i64 2)) (b_quo (by omega))) ?_
  refine w_val (y_ia1z (i := (i / 2)) (ev (pt b_a 0) rfl rfl) (ev (.int .i64 (((i : Nat) : Int) / 2)) rfl rfl) Tryd.underlying85 ShaNT.sz39 (by omega) (by omega)) ?_
  refine w_val (v := U64 (Sha.wn X (i / 2))) (y_ld (ev (pt b_a (i / 2)) rfl rfl) ShaNT.sc39 (r_b_a.val (by omega) rfl)) ?_
  refine w_val (y_bin (ev (U64 (Sha.wn X (i / 2))) rfl rfl) (evc (U64 (4294967296#64))) (rem64 (by decide))) ?_
  refine w_as (ev (U64 ((Sha.wn X (i / 2)) % (4294967296#64))) rfl rfl) ?_
  refine nt ?_
  refine wp_ret ?_
  refine fin_ret1 rfl (ev (U64 ((Sha.wn X (i / 2)) % (4294967296#64))) rfl rfl) ?_
  refine ⟨congrArg Ending.returned ?_, hk⟩
  show (U64 ((Sha.wn X (i / 2)) % (4294967296#64)) : Value) = U64 (BitVec.ofNat 64 (Sha.hf X i))
  first | exact congrArg U64 (Sha.half_hi X i _ (by omega)) | exact congrArg U64 (Sha.half_lo X i _ (by omega))

set_option maxRecDepth 100000 in
set_option maxHeartbeats 1000000 in
theorem times_c (X Y : Nat) (hX : X < 2 ^ 256) (w0 : World) : Calls Tryd.prog 47 #[.agg (arr 4 (fun j => U64 (Sha.wn X j))), .agg (arr 4 (fun j => U64 (Sha.wn Y j)))] w0 fun e w' => e = .returned (.agg (arr 4 (fun j => U64 (Sha.wn (X * Y) j)))) ∧ Below w0.heap.size w0 w' := by
 refine enter (n := 63) Tryd.func47 rfl rfl rfl ?_
 have hk : Below w0.heap.size w0 w0 := Below.refl _ _
 refine sr ?_
 refine w_box (m := 4) (F := fun j => U64 (Sha.wn X j)) (ev (.agg (arr 4 (fun j => U64 (Sha.wn X j)))) rfl rfl) rfl ?_
 intro b_a w1 hbe_b_a r_b_a hb2
 have ge_b_a : w0.heap.size ≤ b_a := by have := hk.size; omega
 clear hbe_b_a
 replace hk := thenB hk hb2
 refine w_box (m := 4) (F := fun j => U64 (Sha.wn Y j)) (ev (.agg (arr 4 (fun j => U64 (Sha.wn Y j)))) rfl rfl) rfl ?_
 intro b_b w3 hbe_b_b r_b_b hb4
 have ne_b_a_b_b : b_a ≠ b_b := by have := r_b_a.lt; omega
 have ge_b_b : w0.heap.size ≤ b_b := by have := hk.size; omega
 clear hbe_b_b
 replace r_b_a := r_b_a.step hb4
 replace hk := thenB hk hb4
 refine w_alloc (m := 4) (F := fun j => U64 (0#64)) (by kernel_rfl) ?_
 intro b_4 w5 hbe_b_4 r_b_4 hb6
 have ne_b_a_b_4 : b_a ≠ b_4 := by have := r_b_a.lt; omega
 have ne_b_b_b_4 : b_b ≠ b_4 := by have := r_b_b.lt; omega
 have ge_b_4 : w0.heap.size ≤ b_4 := by have := hk.size; omega
 clear hbe_b_4
 replace r_b_a := r_b_a.step hb6
 replace r_b_b := r_b_b.step hb6
 replace hk := thenB hk hb6
 refine nt ?_
 refine sr ?_
 refine w_alloc (m := 8) (F := fun j => U64 (0#64)) (by kernel_rfl) ?_
 intro b_out w7 hbe_b_out r_b_out hb8
 have ne_b_a_b_out : b_a ≠ b_out := by have := r_b_a.lt; omega
 have ne_b_b_b_out : b_b ≠ b_out := by have := r_b_b.lt; omega
 have ne_b_4_b_out : b_4 ≠ b_out := by have := r_b_4.lt; omega
 have ge_b_out : w0.heap.size ≤ b_out := by have := hk.size; omega
 clear hbe_b_out
 replace r_b_a := r_b_a.step hb8
 replace r_b_b := r_b_b.step hb8
 replace r_b_4 := r_b_4.step hb8
 replace hk := thenB hk hb8
 refine nt ?_
 refine wp_seq ?_
 refine sr ?_
 refine w_as (evc (.int .i64 0)) ?_
 refine nt ?_
 refine wp_block ?_
 refine c_loop (fun dN aN wl => ∃ (i : Nat) (o : Nat → Nat), dN = (8 - i) ∧ ∃ f9, aN = fr 63 f9 ∧ (i ≤ 8) ∧ (∀ j, j < 8 → o j < 2 ^ 32) ∧ (Sha.s8 o = X % 2 ^ (32 * i) * Y % 2 ^ 256) ∧ f9 0 = .agg (arr 4 (fun j => U64 (Sha.wn X j))) ∧ f9 1 = .agg (arr 4 (fun j => U64 (Sha.wn Y j))) ∧ f9 2 = pt b_a 0 ∧ f9 3 = pt b_b 0 ∧ f9 4 = pt b_4 0 ∧ f9 5 = pt b_out 0 ∧ f9 6 = .int .i64 ((i : Nat) : Int) ∧ Row wl b_a 85 4 (fun j => U64 (Sha.wn X j)) ∧ Row wl b_b 85 4 (fun j => U64 (Sha.wn Y j)) ∧ Row wl b_4 85 4 (fun j => U64 (0#64)) ∧ Row wl b_out 40 8 (fun j => U64 (BitVec.ofNat 64 (o j))) ∧ Below w0.heap.size w0 wl) (8 - 0) ?_ ?_
 · exact ⟨0, fun _ => 0, rfl, _, rfl, iv, (by intro j _; exact (by decide : 0 < 2 ^ 32)), (by simp [Sha.s8, Nat.mod_one]), rfl, rfl, rfl, rfl, rfl, rfl, (etv (b := .int .i64 0) rfl), r_b_a, r_b_b, r_b_4, (r_b_out.congr (fun j hj => by rfl)), hk⟩
 ·skip
  clear r_b_a r_b_b r_b_4 r_b_out hk
  rintro _ _ w10 ⟨i, o, rfl, f9, rfl, i1_0, i1_1, i1_2, s1_0, s1_1, s1_2, s1_3, s1_4, s1_5, s1_6, r_b_a, r_b_b, r_b_4, r_b_out, hk⟩
  refine wp_seq ?_
  refine sr ?_
  refine w_mv (ev (.int .i64 ((i : Nat) : Int)) s1_6 rfl) ?_
  refine w_val (y_bin (ev (.int .i64 ((i : Nat) : Int)) rfl rfl) (evc (.int .i64 8)) b_lss) ?_
  refine nt ?_
  refine c_if (p := ((i : Nat) : Int) < 8) (ev (.bool (decide (((i : Nat) : Int) < 8))) rfl rfl) (fun hc11 => ?_) (fun hc11 => ?_)
  ·skip
   refine wp_skip ?_
   refine then_n ?_
   refine wp_seq ?_
   refine wp_block ?_
   refine sr ?_
   refine w_as (evc (U64 (0#64))) ?_
   refine nt ?_
   refine sr ?_
   refine w_as (evc (.int .i64 0)) ?_
   refine nt ?_
   refine wp_block ?_
   refine c_loop (fun dN aN wl => ∃ (k : Nat) (c : Nat) (o : Nat → Nat), dN = (8 - k) ∧ ∃ f12, aN = fr 63 f12 ∧ (i + k ≤ 8) ∧ (c < 2 ^ 32) ∧ (∀ j, j < 8 → o j < 2 ^ 32) ∧ ((Sha.s8 o + c * 2 ^ (32 * (i + k))) % 2 ^ 256 = (X % 2 ^ (32 * i) * Y + Sha.hf X i * 2 ^ (32 * i) * (Y % 2 ^ (32 * k))) % 2 ^ 256) ∧ f12 0 = .agg (arr 4 (fun j => U64 (Sha.wn X j))) ∧ f12 1 = .agg (arr 4 (fun j => U64 (Sha.wn Y j))) ∧ f12 2 = pt b_a 0 ∧ f12 3 = pt b_b 0 ∧ f12 4 = pt b_4 0 ∧ f12 5 = pt b_out 0 ∧ f12 6 = .int .i64 ((i : Nat) : Int) ∧ f12 7 = U64 (BitVec.ofNat 64 c) ∧ f12 8 = .int .i64 ((k : Nat) : Int) ∧ Row wl b_a 85 4 (fun j => U64 (Sha.wn X j)) ∧ Row wl b_b 85 4 (fun j => U64 (Sha.wn Y j)) ∧ Row wl b_4 85 4 (fun j => U64 (0#64)) ∧ Row wl b_out 40 8 (fun j => U64 (BitVec.ofNat 64 (o j))) ∧ Below w0.heap.size w0 wl) (8 - 0) ?_ ?_
   · exact ⟨0, 0, o, rfl, _, rfl, iv, (by decide), (by exact i1_1), (by exact Sha.tm_first X Y i o i1_2), s1_0, s1_1, s1_2, s1_3, s1_4, s1_5, s1_6, (Eq.trans (b := U64 (0#64)) rfl (by rfl)), (etv (b := .int .i64 0) rfl), r_b_a, r_b_b, r_b_4, (r_b_out.congr (fun j hj => by rfl)), hk⟩
   ·skip
    clear r_b_a r_b_b r_b_4 r_b_out hk
    rintro _ _ w13 ⟨k, c, o, rfl, f12, rfl, i2_0, i2_1, i2_2, i2_3, s2_0, s2_1, s2_2, s2_3, s2_4, s2_5, s2_6, s2_7, s2_8, r_b_a, r_b_b, r_b_4, r_b_out, hk⟩
    have hxl : i + k < 8 → (Sha.hf X i * Sha.hf Y k + o (i + k) + c) < 2 ^ 64 := fun h => Sha.x_lt _ _ _ _ (Sha.hf_lt X i) (Sha.hf_lt Y k) (i2_2 (i + k) h) i2_1
    refine wp_seq ?_
    refine sr ?_
    refine w_mv (ev (.int .i64 ((i : Nat) : Int)) s2_6 rfl) ?_
    refine w_mv (ev (.int .i64 ((k : Nat) : Int)) s2_8 rfl) ?_
    refine w_val (y_bin (ev (.int .i64 ((i : Nat) : Int)) rfl rfl) (ev (.int .i64 ((k : Nat) : Int)) rfl rfl) (b_add (by omega))) ?_
    refine w_val (y_bin (ev (.int .i64 (((i : Nat) : Int) + ((k : Nat) : Int))) rfl rfl) (evc (.int .i64 8)) b_lss) ?_
    refine nt ?_
    refine c_if (p := (((i : Nat) : Int) + ((k : Nat) : Int)) < 8) (ev (.bool (decide ((((i : Nat) : Int) + ((k : Nat) : Int)) < 8))) rfl rfl) (fun hc14 => ?_) (fun hc14 => ?_)
    ·skip
     refine wp_skip ?_
     refine then_n ?_
     refine wp_seq ?_
     refine wp_block ?_
     refine wp_seq ?_
     have hxl := hxl (by omega)
     refine region_q ShaNT.mixed (by kernel_rfl) ?_
     refine q_val (v := .agg (arr 4 (fun j => U64 (Sha.wn X j)))) (fun w' hw' => y_lda (ev (pt b_a 0) s2_2 rfl) ShaNT.ag85 ShaNT.sz85 (fun j hj => by rw [Nat.zero_add]; exact (cls_cell (r_b_a.cell (by omega)) r_b_a.lt w' hw'))) ?_
     refine q_mv (ev (.int .i64 ((i : Nat) : Int)) s2_6 rfl) ?_
     refine q_call (v := U64 (BitVec.ofNat 64 (Sha.hf X i))) (Tryd.func55) (by kernel_rfl) rfl (m2 (ev (.agg (arr 4 (fun j => U64 (Sha.wn X j)))) rfl rfl) (ev (.int .i64 ((i : Nat) : Int)) rfl rfl)) (fun w' hw' => half_c X i (by omega) w') ?_
     refine q_val (v := .agg (arr 4 (fun j => U64 (Sha.wn Y j)))) (fun w' hw' => y_lda (ev (pt b_b 0) s2_3 rfl) ShaNT.ag85 ShaNT.sz85 (fun j hj => by rw [Nat.zero_add]; exact (cls_cell (r_b_b.cell (by omega)) r_b_b.lt w' hw'))) ?_
     refine q_mv (ev (.int .i64 ((k : Nat) : Int)) s2_8 rfl) ?_
     refine q_call (v := U64 (BitVec.ofNat 64 (Sha.hf Y k))) (Tryd.func55) (by kernel_rfl) rfl (m2 (ev (.agg (arr 4 (fun j => U64 (Sha.wn Y j)))) rfl rfl) (ev (.int .i64 ((k : Nat) : Int)) rfl rfl)) (fun w' hw' => half_c Y k (by omega) w') ?_
     refine q_val (fun w' hw' => y_bin (ev (U64 (BitVec.ofNat 64 (Sha.hf X i))) rfl rfl) (ev (U64 (BitVec.ofNat 64 (Sha.hf Y k))) rfl rfl) mul64) ?_
     refine q_mv (ev (.int .i64 ((i : Nat) : Int)) s2_6 rfl) ?_
     refine q_mv (ev (.int .i64 ((k : Nat) : Int)) s2_8 rfl) ?_
     refine q_val (fun w' hw' => y_bin (ev (.int .i64 ((i : Nat) : Int)) rfl rfl) (ev (.int .i64 ((k : Nat) : Int)) rfl rfl) (b_add (by omega))) ?_
     refine q_val (fun w' hw' => y_ia1z (i := (i + k)) (ev (pt b_out 0) s2_5 rfl) (ev (.int .i64 (((i : Nat) : Int) + ((k : Nat) : Int))) rfl rfl) Tryd.underlying40 ShaNT.sz39 (by omega) (by omega)) ?_
     refine q_val (v := U64 (BitVec.ofNat 64 (o (i + k)))) (fun w' hw' => y_ld (ev (pt b_out (i + k)) rfl rfl) ShaNT.sc39 (cls_cell (r_b_out.val (by omega) rfl) r_b_out.lt w' hw')) ?_
     refine q_val (fun w' hw' => y_bin (ev (U64 ((BitVec.ofNat 64 (Sha.hf X i)) * (BitVec.ofNat 64 (Sha.hf Y k)))) rfl rfl) (ev (U64 (BitVec.ofNat 64 (o (i + k)))) rfl rfl) add64) ?_
     refine q_mv (ev (U64 (BitVec.ofNat 64 c)) s2_7 rfl) ?_
     refine q_val (fun w' hw' => y_bin (ev (U64 (((BitVec.ofNat 64 (Sha.hf X i)) * (BitVec.ofNat 64 (Sha.hf Y k))) + (BitVec.ofNat 64 (o (i + k))))) rfl rfl) (ev (U64 (BitVec.ofNat 64 c)) rfl rfl) add64) ?_
     refine q_as (ev (U64 ((((BitVec.ofNat 64 (Sha.hf X i)) * (BitVec.ofNat 64 (Sha.hf Y k))) + (BitVec.ofNat 64 (o (i + k)))) + (BitVec.ofNat 64 c))) rfl rfl) ?_
     refine q_nil ?_
     intro w15 hb16
     replace r_b_a := r_b_a.step hb16
     replace r_b_b := r_b_b.step hb16
     replace r_b_4 := r_b_4.step hb16
     replace r_b_out := r_b_out.step hb16
     replace hk := thenB hk hb16
     refine then_n ?_
     refine sr ?_
     refine w_mv (ev (.int .i64 ((i : Nat) : Int)) s2_6 rfl) ?_
     refine w_mv (ev (.int .i64 ((k : Nat) : Int)) s2_8 rfl) ?_
     refine w_val (y_bin (ev (.int .i64 ((i : Nat) : Int)) rfl rfl) (ev (.int .i64 ((k : Nat) : Int)) rfl rfl) (b_add (by omega))) ?_
     refine w_mv (ev (U64 (BitVec.ofNat 64 (Sha.hf X i * Sha.hf Y k + o (i + k) + c))) (Eq.trans (b := U64 ((((BitVec.ofNat 64 (Sha.hf X i)) * (BitVec.ofNat 64 (Sha.hf Y k))) + (BitVec.ofNat 64 (o (i + k)))) + (BitVec.ofNat 64 c))) rfl (by exact congrArg U64 (Sha.prod_word _ _ _ _ hxl))) rfl) ?_
     refine w_val (y_bin (ev (U64 (BitVec.ofNat 64 (Sha.hf X i * Sha.hf Y k + o (i + k) + c))) rfl rfl) (evc (U64 (4294967296#64))) (rem64 (by decide))) ?_
     refine w_val (y_ia1z (i := (i + k)) (ev (pt b_out 0) s2_5 rfl) (ev (.int .i64 (((i : Nat) : Int) + ((k : Nat) : Int))) rfl rfl) Tryd.underlying40 ShaNT.sz39 (by omega) (by omega)) ?_
     refine w_st (v := U64 ((BitVec.ofNat 64 (Sha.hf X i * Sha.hf Y k + o (i + k) + c)) % (4294967296#64))) (ev (pt b_out (i + k)) rfl rfl) (ev (U64 ((BitVec.ofNat 64 (Sha.hf X i * Sha.hf Y k + o (i + k) + c)) % (4294967296#64))) rfl rfl) rfl rfl ShaNT.sz39 r_b_out (by omega) ?_
     clear r_b_out; intro w17 r_b_out hg18 _
     replace r_b_a := r_b_a.stepG hg18 (by omega)
     replace r_b_b := r_b_b.stepG hg18 (by omega)
     replace r_b_4 := r_b_4.stepG hg18 (by omega)
     replace hk := thenG hk hg18 (by omega)
     refine nt ?_
     refine wp_region_lit ?_
     refine w_mv (ev (U64 (BitVec.ofNat 64 (Sha.hf X i * Sha.hf Y k + o (i + k) + c))) (Eq.trans (b := U64 ((((BitVec.ofNat 64 (Sha.hf X i)) * (BitVec.ofNat 64 (Sha.hf Y k))) + (BitVec.ofNat 64 (o (i + k)))) + (BitVec.ofNat 64 c))) rfl (by exact congrArg U64 (Sha.prod_word _ _ _ _ hxl))) rfl) ?_
     refine w_val (y_bin (ev (U64 (BitVec.ofNat 64 (Sha.hf X i * Sha.hf Y k + o (i + k) + c))) rfl rfl) (evc (.int .u64 32)) (shr64 (c := 32) rfl)) ?_
     refine w_as (ev (U64 ((BitVec.ofNat 64 (Sha.hf X i * Sha.hf Y k + o (i + k) + c)) >>> 32)) rfl rfl) ?_
     refine wpList_nil ?_
     refine inb_n ?_
     refine then_n ?_
     refine wp_region_lit ?_
     refine w_mv (ev (.int .i64 ((k : Nat) : Int)) s2_8 rfl) ?_
     refine w_val (y_bin (ev (.int .i64 ((k : Nat) : Int)) rfl rfl) (evc (.int .i64 1)) (b_add (by omega))) ?_
     refine w_as (ev (.int .i64 (((k : Nat) : Int) + 1)) rfl rfl) ?_
     refine wpList_nil ?_
     exact then_n ⟨_, (by omega), k + 1, (Sha.hf X i * Sha.hf Y k + o (i + k) + c) / 2 ^ 32, fun j => if j = i + k then (Sha.hf X i * Sha.hf Y k + o (i + k) + c) % 2 ^ 32 else o j, rfl, _, rfl, iv, (by exact Nat.div_lt_of_lt_mul (by have := hxl; omega)), (by intro j hj; (try dsimp only); split; exact Nat.mod_lt _ (by decide); exact i2_2 j hj), (by exact Sha.tm_step X Y i k c o (by omega) i2_3), s2_0, s2_1, s2_2, s2_3, s2_4, s2_5, s2_6, (Eq.trans (b := U64 ((BitVec.ofNat 64 (Sha.hf X i * Sha.hf Y k + o (i + k) + c)) >>> 32)) rfl (by exact congrArg U64 (Sha.high_word _ hxl))), (etv (b := .int .i64 (((k : Nat) : Int) + 1)) rfl), r_b_a, r_b_b, r_b_4, (r_b_out.congr (fun j hj => by (try dsimp only); by_cases e : j = i + k; (rw [if_pos e, if_pos e]; exact congrArg U64 (Sha.low_word _ hxl)); (rw [if_neg e, if_neg e]))), hk⟩
    ·skip
     refine wp_exit ?_
     refine then_x ?_
     refine then_x ?_
     refine inb_x ?_
     refine inb_n ?_
     refine then_n ?_
     refine wp_region_lit ?_
     refine w_mv (ev (.int .i64 ((i : Nat) : Int)) s2_6 rfl) ?_
     refine w_val (y_bin (ev (.int .i64 ((i : Nat) : Int)) rfl rfl) (evc (.int .i64 1)) (b_add (by omega))) ?_
     refine w_as (ev (.int .i64 (((i : Nat) : Int) + 1)) rfl rfl) ?_
     refine wpList_nil ?_
     exact then_n ⟨_, (by omega), i + 1, o, rfl, _, rfl, iv, (by exact i2_2), (by exact Sha.tm_row X Y i k c o (by omega) i2_2 i2_3), s2_0, s2_1, s2_2, s2_3, s2_4, s2_5, (etv (b := .int .i64 (((i : Nat) : Int) + 1)) rfl), r_b_a, r_b_b, r_b_4, r_b_out, hk⟩
  ·skip
   refine wp_exit ?_
   refine then_x ?_
   refine then_x ?_
   refine inb_x ?_
   refine then_n ?_
   refine sr ?_
   refine w_alloc (m := 4) (F := fun j => U64 (0#64)) (by kernel_rfl) ?_
   intro b_all w19 hbe_b_all r_b_all hb20
   have ne_b_a_b_all : b_a ≠ b_all := by have := r_b_a.lt; omega
   have ne_b_b_b_all : b_b ≠ b_all := by have := r_b_b.lt; omega
   have ne_b_4_b_all : b_4 ≠ b_all := by have := r_b_4.lt; omega
   have ne_b_out_b_all : b_out ≠ b_all := by have := r_b_out.lt; omega
   have ge_b_all : w0.heap.size ≤ b_all := by have := hk.size; omega
   clear hbe_b_all
   replace r_b_a := r_b_a.step hb20
   replace r_b_b := r_b_b.step hb20
   replace r_b_4 := r_b_4.step hb20
   replace r_b_out := r_b_out.step hb20
   replace hk := thenB hk hb20
   refine nt ?_
   refine wp_seq ?_
   refine sr ?_
   refine w_as (evc (.int .i64 0)) ?_
   refine nt ?_
   refine wp_block ?_
   refine c_loop (fun dN aN wl => ∃ (q : Nat), dN = (4 - q) ∧ ∃ f21, aN = fr 63 f21 ∧ (q ≤ 4) ∧ f21 0 = .agg (arr 4 (fun j => U64 (Sha.wn X j))) ∧ f21 1 = .agg (arr 4 (fun j => U64 (Sha.wn Y j))) ∧ f21 2 = pt b_a 0 ∧ f21 3 = pt b_b 0 ∧ f21 4 = pt b_4 0 ∧ f21 5 = pt b_out 0 ∧ f21 6 = .int .i64 ((i : Nat) : Int) ∧ f21 10 = pt b_all 0 ∧ f21 11 = .int .i64 ((q : Nat) : Int) ∧ Row wl b_a 85 4 (fun j => U64 (Sha.wn X j)) ∧ Row wl b_b 85 4 (fun j => U64 (Sha.wn Y j)) ∧ Row wl b_4 85 4 (fun j => U64 (0#64)) ∧ Row wl b_out 40 8 (fun j => U64 (BitVec.ofNat 64 (o j))) ∧ Row wl b_all 85 4 (fun j => if j < q then (fun j => U64 (Sha.wn (X * Y) j)) j else (fun j => U64 (0#64)) j) ∧ Below w0.heap.size w0 wl) (4 - 0) ?_ ?_
   · exact ⟨0, rfl, _, rfl, iv, s1_0, s1_1, s1_2, s1_3, s1_4, s1_5, s1_6, rfl, (etv (b := .int .i64 0) rfl), r_b_a, r_b_b, r_b_4, r_b_out, (r_b_all.cg), hk⟩
   ·skip
    clear r_b_a r_b_b r_b_4 r_b_out r_b_all hk
    rintro _ _ w22 ⟨q, rfl, f21, rfl, i3_0, s3_0, s3_1, s3_2, s3_3, s3_4, s3_5, s3_6, s3_10, s3_11, r_b_a, r_b_b, r_b_4, r_b_out, r_b_all, hk⟩
    refine wp_seq ?_
    refine sr ?_
    refine w_mv (ev (.int .i64 ((q : Nat) : Int)) s3_11 rfl) ?_
    refine w_val (y_bin (ev (.int .i64 ((q : Nat) : Int)) rfl rfl) (evc (.int .i64 4)) b_lss) ?_
    refine nt ?_
    refine c_if (p := ((q : Nat) : Int) < 4) (ev (.bool (decide (((q : Nat) : Int) < 4))) rfl rfl) (fun hc23 => ?_) (fun hc23 => ?_)
    ·skip
     refine wp_skip ?_
     refine then_n ?_
     refine wp_seq ?_
     refine wp_block ?_
     refine region_t 13 ShaNT.mixed (by kernel_rfl) ?_
     simp only [List.take_succ_cons, List.take_zero, List.drop_succ_cons, List.drop_zero]
     refine q_mv (ev (.int .i64 ((q : Nat) : Int)) s3_11 rfl) ?_
     refine q_mv (ev (.int .i64 ((q : Nat) : Int)) s3_11 rfl) ?_
     refine q_val (fun w' hw' => y_bin (evc (.int .i64 2)) (ev (.int .i64 ((q : Nat) : Int)) rfl rfl) (b_mul (by omega))) ?_
     refine q_val (fun w' hw' => y_ia1z (i := (2 * q)) (ev (pt b_out 0) s3_5 rfl) (ev (.int .i64 (2 * ((q : Nat) : Int))) rfl rfl) Tryd.underlying40 ShaNT.sz39 (by omega) (by omega)) ?_
     refine q_val (v := U64 (BitVec.ofNat 64 (o (2 * q)))) (fun w' hw' => y_ld (ev (pt b_out (2 * q)) rfl rfl) ShaNT.sc39 (cls_cell (r_b_out.val (by omega) rfl) r_b_out.lt w' hw')) ?_
     refine q_mv (ev (.int .i64 ((q : Nat) : Int)) s3_11 rfl) ?_
     refine q_val (fun w' hw' => y_bin (evc (.int .i64 2)) (ev (.int .i64 ((q : Nat) : Int)) rfl rfl) (b_mul (by omega))) ?_
     refine q_val (fun w' hw' => y_bin (ev (.int .i64 (2 * ((q : Nat) : Int))) rfl rfl) (evc (.int .i64 1)) (b_add (by omega))) ?_
     refine q_val (fun w' hw' => y_ia1z (i := ((2 * q) + 1)) (ev (pt b_out 0) s3_5 rfl) (ev (.int .i64 ((2 * ((q : Nat) : Int)) + 1)) rfl rfl) Tryd.underlying40 ShaNT.sz39 (by omega) (by omega)) ?_
     refine q_val (v := U64 (BitVec.ofNat 64 (o ((2 * q) + 1)))) (fun w' hw' => y_ld (ev (pt b_out ((2 * q) + 1)) rfl rfl) ShaNT.sc39 (cls_cell (r_b_out.val (by omega) rfl) r_b_out.lt w' hw')) ?_
     refine q_val (fun w' hw' => y_bin (ev (U64 (BitVec.ofNat 64 (o ((2 * q) + 1)))) rfl rfl) (evc (.int .u64 32)) (shl64 (c := 32) rfl)) ?_
     refine q_val (fun w' hw' => y_bin (ev (U64 (BitVec.ofNat 64 (o (2 * q)))) rfl rfl) (ev (U64 ((BitVec.ofNat 64 (o ((2 * q) + 1))) <<< 32)) rfl rfl) add64) ?_
     refine q_val (fun w' hw' => y_ia1z (i := q) (ev (pt b_all 0) s3_10 rfl) (ev (.int .i64 ((q : Nat) : Int)) rfl rfl) Tryd.underlying85 ShaNT.sz39 (by omega) (by omega)) ?_
     refine q_nil ?_
     intro w24 hb25
     replace r_b_a := r_b_a.step hb25
     replace r_b_b := r_b_b.step hb25
     replace r_b_4 := r_b_4.step hb25
     replace r_b_out := r_b_out.step hb25
     replace r_b_all := r_b_all.step hb25
     replace hk := thenB hk hb25
     refine w_st (v := U64 ((BitVec.ofNat 64 (o (2 * q))) + ((BitVec.ofNat 64 (o ((2 * q) + 1))) <<< 32))) (ev (pt b_all q) rfl rfl) (ev (U64 ((BitVec.ofNat 64 (o (2 * q))) + ((BitVec.ofNat 64 (o ((2 * q) + 1))) <<< 32))) rfl rfl) rfl rfl ShaNT.sz39 r_b_all (by omega) ?_
     clear r_b_all; intro w26 r_b_all hg27 _
     replace r_b_a := r_b_a.stepG hg27 (by omega)
     replace r_b_b := r_b_b.stepG hg27 (by omega)
     replace r_b_4 := r_b_4.stepG hg27 (by omega)
     replace r_b_out := r_b_out.stepG hg27 (by omega)
     replace hk := thenG hk hg27 (by omega)
     refine wpList_nil ?_
     refine inb_n ?_
     refine then_n ?_
     refine wp_region_lit ?_
     refine w_mv (ev (.int .i64 ((q : Nat) : Int)) s3_11 rfl) ?_
     refine w_val (y_bin (ev (.int .i64 ((q : Nat) : Int)) rfl rfl) (evc (.int .i64 1)) (b_add (by omega))) ?_
     refine w_as (ev (.int .i64 (((q : Nat) : Int) + 1)) rfl rfl) ?_
     refine wpList_nil ?_
     exact then_n ⟨_, (by omega), q + 1, rfl, _, rfl, iv, s3_0, s3_1, s3_2, s3_3, s3_4, s3_5, s3_6, s3_10, (etv (b := .int .i64 (((q : Nat) : Int) + 1)) rfl), r_b_a, r_b_b, r_b_4, r_b_out, (r_b_all.congr (fun j hj => by (try dsimp only); by_cases e : j = q; (rw [if_pos e, if_pos (by omega), e]; exact congrArg U64 (Sha.tm_word X Y q o (by omega) hX i1_1 (by rw [i1_2, show i = 8 from by omega]))); (rw [if_neg e]; by_cases e2 : j < q; (rw [if_pos e2]; exact (if_pos (by omega)).symm); (rw [if_neg e2]; exact (if_neg (by omega)).symm)))), hk⟩
    ·skip
     refine wp_exit ?_
     refine then_x ?_
     replace r_b_all := r_b_all.congr (g := fun j => U64 (Sha.wn (X * Y) j)) (fun j hj => by (try dsimp only); rw [if_pos (by omega)])
     refine then_x ?_
     refine inb_x ?_
     refine then_n ?_
     refine sr ?_
     refine w_val (v := .agg (arr 4 (fun j => U64 (Sha.wn (X * Y) j)))) (y_lda (ev (pt b_all 0) s3_10 rfl) ShaNT.ag85 ShaNT.sz85 (fun j hj => by rw [Nat.zero_add]; exact (r_b_all.cell (by omega)))) ?_
     refine w_sta (k := 4) (G := fun j => U64 (Sha.wn (X * Y) j)) (ev (pt b_4 0) s3_4 rfl) (ev (.agg (arr 4 (fun j => U64 (Sha.wn (X * Y) j)))) rfl rfl) oc ShaNT.sz85 r_b_4 (by omega) ?_
     clear r_b_4; intro w28 r_b_4 hg29 _
     replace r_b_4 := r_b_4.congr (g := fun j => U64 (Sha.wn (X * Y) j)) (fun j hj => by rw [if_pos ⟨Nat.zero_le _, by omega⟩]; first | rfl | (simp only [Nat.sub_zero]))
     replace r_b_a := r_b_a.stepG hg29 (by omega)
     replace r_b_b := r_b_b.stepG hg29 (by omega)
     replace r_b_out := r_b_out.stepG hg29 (by omega)
     replace r_b_all := r_b_all.stepG hg29 (by omega)
     replace hk := thenG hk hg29 (by omega)
     refine nt ?_
     refine wp_ret ?_
     refine fin_arr (F := fun j => U64 (Sha.wn (X * Y) j)) rfl (ev (pt b_4 0) s3_4 rfl) ShaNT.ag85 ShaNT.sz85 r_b_4 (by omega) ?_
     exact ⟨rfl, hk⟩

set_option maxRecDepth 100000 in
set_option maxHeartbeats 1000000 in
theorem above_c (X Y : Nat) (hX : X < 2 ^ 256) (hY : Y < 2 ^ 256) (w0 : World) : Calls Tryd.prog 48 #[.agg (arr 4 (fun j => U64 (Sha.wn X j))), .agg (arr 4 (fun j => U64 (Sha.wn Y j)))] w0 fun e w' => e = .returned (.bool (decide (Y < X))) ∧ Below w0.heap.size w0 w' := by
 refine enter (n := 24) Tryd.func48 rfl rfl rfl ?_
 have hk : Below w0.heap.size w0 w0 := Below.refl _ _
 refine sr ?_
 refine w_box (m := 4) (F := fun j => U64 (Sha.wn X j)) (ev (.agg (arr 4 (fun j => U64 (Sha.wn X j)))) rfl rfl) rfl ?_
 intro b_a w1 hbe_b_a r_b_a hb2
 have ge_b_a : w0.heap.size ≤ b_a := by have := hk.size; omega
 clear hbe_b_a
 replace hk := thenB hk hb2
 refine w_box (m := 4) (F := fun j => U64 (Sha.wn Y j)) (ev (.agg (arr 4 (fun j => U64 (Sha.wn Y j)))) rfl rfl) rfl ?_
 intro b_b w3 hbe_b_b r_b_b hb4
 have ne_b_a_b_b : b_a ≠ b_b := by have := r_b_a.lt; omega
 have ge_b_b : w0.heap.size ≤ b_b := by have := hk.size; omega
 clear hbe_b_b
 replace r_b_a := r_b_a.step hb4
 replace hk := thenB hk hb4
 refine w_as (evc (.bool false)) ?_
 refine nt ?_
 refine wp_seq ?_
 refine sr ?_
 refine w_as (evc (.int .i64 3)) ?_
 refine nt ?_
 refine wp_block ?_
 refine c_loop (fun dN aN wl => ∃ (k : Nat), dN = (4 - k) ∧ ∃ f5, aN = fr 24 f5 ∧ (k ≤ 4) ∧ (X / 2 ^ (64 * (4 - k)) = Y / 2 ^ (64 * (4 - k))) ∧ f5 0 = .agg (arr 4 (fun j => U64 (Sha.wn X j))) ∧ f5 1 = .agg (arr 4 (fun j => U64 (Sha.wn Y j))) ∧ f5 2 = pt b_a 0 ∧ f5 3 = pt b_b 0 ∧ f5 5 = .int .i64 (3 - ((k : Nat) : Int)) ∧ Row wl b_a 85 4 (fun j => U64 (Sha.wn X j)) ∧ Row wl b_b 85 4 (fun j => U64 (Sha.wn Y j)) ∧ Below w0.heap.size w0 wl) (4 - 0) ?_ ?_
 · exact ⟨0, rfl, _, rfl, iv, (by rw [Nat.div_eq_of_lt (by exact hX), Nat.div_eq_of_lt (by exact hY)]), rfl, rfl, rfl, rfl, (Eq.trans (b := .int .i64 3) rfl (by rfl)), r_b_a, r_b_b, hk⟩
 ·skip
  clear r_b_a r_b_b hk
  rintro _ _ w6 ⟨k, rfl, f5, rfl, i1_0, i1_1, s1_0, s1_1, s1_2, s1_3, s1_5, r_b_a, r_b_b, hk⟩
  refine wp_seq ?_
  refine sr ?_
  refine w_mv (ev (.int .i64 (3 - ((k : Nat) : Int))) s1_5 rfl) ?_
  refine w_val (y_bin (ev (.int .i64 (3 - ((k : Nat) : Int))) rfl rfl) (evc (.int .i64 0)) b_geq) ?_
  refine nt ?_
  refine c_if (p := 0 ≤ (3 - ((k : Nat) : Int))) (ev (.bool (decide (0 ≤ (3 - ((k : Nat) : Int))))) rfl rfl) (fun hc7 => ?_) (fun hc7 => ?_)
  ·skip
   refine wp_skip ?_
   refine then_n ?_
   refine wp_seq ?_
   refine wp_block ?_
   refine wp_seq ?_
   refine region_q ShaNT.mixed (by kernel_rfl) ?_
   refine q_mv (ev (.int .i64 (3 - ((k : Nat) : Int))) s1_5 rfl) ?_
   refine q_val (fun w' hw' => y_ia1z (i := (3 - k)) (ev (pt b_a 0) s1_2 rfl) (ev (.int .i64 (3 - ((k : Nat) : Int))) rfl rfl) Tryd.underlying85 ShaNT.sz39 (by omega) (by omega)) ?_
   refine q_val (v := U64 (Sha.wn X (3 - k))) (fun w' hw' => y_ld (ev (pt b_a (3 - k)) rfl rfl) ShaNT.sc39 (cls_cell (r_b_a.val (by omega) rfl) r_b_a.lt w' hw')) ?_
   refine q_mv (ev (.int .i64 (3 - ((k : Nat) : Int))) s1_5 rfl) ?_
   refine q_val (fun w' hw' => y_ia1z (i := (3 - k)) (ev (pt b_b 0) s1_3 rfl) (ev (.int .i64 (3 - ((k : Nat) : Int))) rfl rfl) Tryd.underlying85 ShaNT.sz39 (by omega) (by omega)) ?_
   refine q_val (v := U64 (Sha.wn Y (3 - k))) (fun w' hw' => y_ld (ev (pt b_b (3 - k)) rfl rfl) ShaNT.sc39 (cls_cell (r_b_b.val (by omega) rfl) r_b_b.lt w' hw')) ?_
   refine q_val (fun w' hw' => y_bin (ev (U64 (Sha.wn X (3 - k))) rfl rfl) (ev (U64 (Sha.wn Y (3 - k))) rfl rfl) neq64) ?_
   refine q_nil ?_
   intro w8 hb9
   replace r_b_a := r_b_a.step hb9
   replace r_b_b := r_b_b.step hb9
   replace hk := thenB hk hb9
   refine then_n ?_
   refine c_if (p := (Sha.wn X (3 - k)) ≠ (Sha.wn Y (3 - k))) (ev (.bool (decide ((Sha.wn X (3 - k)) ≠ (Sha.wn Y (3 - k))))) rfl rfl) (fun hc10 => ?_) (fun hc10 => ?_)
   ·skip
    refine wp_seq ?_
    refine region_q ShaNT.mixed (by kernel_rfl) ?_
    refine q_mv (ev (.int .i64 (3 - ((k : Nat) : Int))) s1_5 rfl) ?_
    refine q_val (fun w' hw' => y_ia1z (i := (3 - k)) (ev (pt b_a 0) s1_2 rfl) (ev (.int .i64 (3 - ((k : Nat) : Int))) rfl rfl) Tryd.underlying85 ShaNT.sz39 (by omega) (by omega)) ?_
    refine q_val (v := U64 (Sha.wn X (3 - k))) (fun w' hw' => y_ld (ev (pt b_a (3 - k)) rfl rfl) ShaNT.sc39 (cls_cell (r_b_a.val (by omega) rfl) r_b_a.lt w' hw')) ?_
    refine q_mv (ev (.int .i64 (3 - ((k : Nat) : Int))) s1_5 rfl) ?_
    refine q_val (fun w' hw' => y_ia1z (i := (3 - k)) (ev (pt b_b 0) s1_3 rfl) (ev (.int .i64 (3 - ((k : Nat) : Int))) rfl rfl) Tryd.underlying85 ShaNT.sz39 (by omega) (by omega)) ?_
    refine q_val (v := U64 (Sha.wn Y (3 - k))) (fun w' hw' => y_ld (ev (pt b_b (3 - k)) rfl rfl) ShaNT.sc39 (cls_cell (r_b_b.val (by omega) rfl) r_b_b.lt w' hw')) ?_
    refine q_val (fun w' hw' => y_bin (ev (U64 (Sha.wn X (3 - k))) rfl rfl) (ev (U64 (Sha.wn Y (3 - k))) rfl rfl) gtr64) ?_
    refine q_as (ev (.bool (decide ((Sha.wn Y (3 - k)).toNat < (Sha.wn X (3 - k)).toNat))) rfl rfl) ?_
    refine q_nil ?_
    intro w11 hb12
    replace r_b_a := r_b_a.step hb12
    replace r_b_b := r_b_b.step hb12
    replace hk := thenB hk hb12
    refine then_n ?_
    refine wp_ret ?_
    refine inb_r ?_
    refine then_r ?_
    refine then_r ?_
    refine inb_r ?_
    refine then_r ?_
    refine fin_ret1 rfl (ev (.bool (decide ((Sha.wn Y (3 - k)).toNat < (Sha.wn X (3 - k)).toNat))) rfl rfl) ?_
    refine ⟨congrArg Ending.returned ?_, hk⟩
    show (.bool (decide ((Sha.wn Y (3 - k)).toNat < (Sha.wn X (3 - k)).toNat)) : Value) = .bool (decide (Y < X))
    first | exact congrArg Value.bool (decide_eq_decide.2 (Sha.ab_ne X Y (3 - k) (by rw [show 3 - k + 1 = 4 - k from by omega]; exact i1_1) (by assumption))) | exact congrArg Value.bool (decide_eq_false (by rw [show k = 4 from by omega] at i1_1; simp at i1_1; omega)).symm
   ·skip
    refine wp_skip ?_
    refine inb_n ?_
    refine then_n ?_
    refine wp_region_lit ?_
    refine w_mv (ev (.int .i64 (3 - ((k : Nat) : Int))) s1_5 rfl) ?_
    refine w_val (y_bin (ev (.int .i64 (3 - ((k : Nat) : Int))) rfl rfl) (evc (.int .i64 1)) (b_sub (by omega))) ?_
    refine w_as (ev (.int .i64 ((3 - ((k : Nat) : Int)) - 1)) rfl rfl) ?_
    refine wpList_nil ?_
    exact then_n ⟨_, (by omega), k + 1, rfl, _, rfl, iv, (by exact Sha.ab_next X Y (4 - (k + 1)) (by rw [show 4 - (k + 1) + 1 = 4 - k from by omega]; exact i1_1) (by rw [show 4 - (k + 1) = 3 - k from by omega]; exact Classical.not_not.1 (by assumption))), s1_0, s1_1, s1_2, s1_3, (Eq.trans (b := .int .i64 ((3 - ((k : Nat) : Int)) - 1)) rfl (by congr 1; omega)), r_b_a, r_b_b, hk⟩
  ·skip
   refine wp_exit ?_
   refine then_x ?_
   refine then_x ?_
   refine inb_x ?_
   refine then_n ?_
   refine sr ?_
   refine w_as (evc (.bool false)) ?_
   refine nt ?_
   refine wp_ret ?_
   refine fin_ret1 rfl (ev (.bool false) rfl rfl) ?_
   refine ⟨congrArg Ending.returned ?_, hk⟩
   show (.bool false : Value) = .bool (decide (Y < X))
   first | exact congrArg Value.bool (decide_eq_decide.2 (Sha.ab_ne X Y (3 - k) (by rw [show 3 - k + 1 = 4 - k from by omega]; exact i1_1) (by assumption))) | exact congrArg Value.bool (decide_eq_false (by rw [show k = 4 from by omega] at i1_1; simp at i1_1; omega)).symm

set_option maxRecDepth 100000 in
set_option maxHeartbeats 1000000 in
theorem root_2 (p : Nat) (hp : p < 2 ^ 16) (w0 : World) : Calls Tryd.prog 40 #[U64 (BitVec.ofNat 64 p), .int .i64 2] w0 fun e w' => e = .returned (U64 (BitVec.ofNat 64 (Sha.rt p 2 69))) ∧ Below w0.heap.size w0 w' := by
 refine enter (n := 45) Tryd.func40 rfl rfl rfl ?_
 have hk : Below w0.heap.size w0 w0 := Below.refl _ _
 refine sr ?_
 refine w_as (evc (U64 (0#64))) ?_
 refine nt ?_
 refine sr ?_
 refine w_alloc (m := 4) (F := fun j => U64 (0#64)) (by kernel_rfl) ?_
 intro b_want w1 hbe_b_want r_b_want hb2
 have ge_b_want : w0.heap.size ≤ b_want := by have := hk.size; omega
 clear hbe_b_want
 replace hk := thenB hk hb2
 refine nt ?_
 refine sr ?_
 refine w_mv (ev (.int .i64 2) rfl rfl) ?_
 refine w_mv (ev (U64 (BitVec.ofNat 64 p)) rfl rfl) ?_
 refine w_val (y_ia1z (i := 2) (ev (pt b_want 0) rfl rfl) (ev (.int .i64 2) rfl rfl) Tryd.underlying85 ShaNT.sz39 (by omega) (by omega)) ?_
 refine w_st (v := U64 (BitVec.ofNat 64 p)) (ev (pt b_want 2) rfl rfl) (ev (U64 (BitVec.ofNat 64 p)) rfl rfl) rfl rfl ShaNT.sz39 r_b_want (by omega) ?_
 clear r_b_want; intro w3 r_b_want hg4 _
 replace hk := thenG hk hg4 (by omega)
 refine nt ?_
 refine wp_seq ?_
 replace r_b_want := r_b_want.congr (g := fun j => U64 (Sha.wn (p * 2 ^ (64 * 2)) j)) (fun j hj => by rw [← Sha.want_row p 2 j (by omega) (by omega) hj]; (try dsimp only); by_cases e : j = 2; (rw [if_pos e, if_pos e]); (rw [if_neg e, if_neg e]))
 refine wp_region_lit ?_
 refine w_alloc (m := 4) (F := fun j => U64 (0#64)) (by kernel_rfl) ?_
 intro b_x w5 hbe_b_x r_b_x hb6
 have ne_b_want_b_x : b_want ≠ b_x := by have := r_b_want.lt; omega
 have ge_b_x : w0.heap.size ≤ b_x := by have := hk.size; omega
 clear hbe_b_x
 replace r_b_want := r_b_want.step hb6
 replace hk := thenB hk hb6
 refine nt ?_
 refine wp_seq ?_
 refine sr ?_
 refine w_as (evc (.int .i64 68)) ?_
 refine nt ?_
 refine wp_block ?_
 refine c_loop (fun dN aN wl => ∃ (k : Nat), dN = (69 - k) ∧ ∃ f7, aN = fr 45 f7 ∧ (k ≤ 69) ∧ f7 0 = U64 (BitVec.ofNat 64 p) ∧ f7 1 = .int .i64 2 ∧ f7 4 = U64 (0#64) ∧ f7 5 = pt b_want 0 ∧ f7 6 = pt b_x 0 ∧ f7 7 = .int .i64 (68 - ((k : Nat) : Int)) ∧ Row wl b_want 85 4 (fun j => U64 (Sha.wn (p * 2 ^ (64 * 2)) j)) ∧ Row wl b_x 85 4 (fun j => U64 (Sha.wn (Sha.rt p 2 k) j)) ∧ Below w0.heap.size w0 wl) (69 - 0) ?_ ?_
 · exact ⟨0, rfl, _, rfl, iv, rfl, rfl, rfl, rfl, rfl, (Eq.trans (b := .int .i64 68) rfl (by rfl)), r_b_want, (r_b_x.congr (fun j hj => by show U64 0#64 = U64 (Sha.wn 0 j); unfold Sha.wn; rw [Nat.zero_div])), hk⟩
 ·skip
  clear r_b_want r_b_x hk
  rintro _ _ w8 ⟨k, rfl, f7, rfl, i1_0, s1_0, s1_1, s1_4, s1_5, s1_6, s1_7, r_b_want, r_b_x, hk⟩
  refine wp_seq ?_
  refine sr ?_
  refine w_mv (ev (.int .i64 (68 - ((k : Nat) : Int))) s1_7 rfl) ?_
  refine w_val (y_bin (ev (.int .i64 (68 - ((k : Nat) : Int))) rfl rfl) (evc (.int .i64 0)) b_geq) ?_
  refine nt ?_
  refine c_if (p := 0 ≤ (68 - ((k : Nat) : Int))) (ev (.bool (decide (0 ≤ (68 - ((k : Nat) : Int))))) rfl rfl) (fun hc9 => ?_) (fun hc9 => ?_)
  ·skip
   refine wp_skip ?_
   refine then_n ?_
   refine wp_seq ?_
   refine wp_block ?_
   refine sr ?_
   refine w_val (v := .agg (arr 4 (fun j => U64 (Sha.wn (Sha.rt p 2 k) j)))) (y_lda (ev (pt b_x 0) s1_6 rfl) ShaNT.ag85 ShaNT.sz85 (fun j hj => by rw [Nat.zero_add]; exact (r_b_x.cell (by omega)))) ?_
   refine w_alloc (m := 4) (F := fun j => U64 (0#64)) (by kernel_rfl) ?_
   intro b_y w10 hbe_b_y r_b_y hb11
   have ne_b_want_b_y : b_want ≠ b_y := by have := r_b_want.lt; omega
   have ne_b_x_b_y : b_x ≠ b_y := by have := r_b_x.lt; omega
   have ge_b_y : w0.heap.size ≤ b_y := by have := hk.size; omega
   clear hbe_b_y
   replace r_b_want := r_b_want.step hb11
   replace r_b_x := r_b_x.step hb11
   replace hk := thenB hk hb11
   refine w_sta (k := 4) (G := fun j => U64 (Sha.wn (Sha.rt p 2 k) j)) (ev (pt b_y 0) rfl rfl) (ev (.agg (arr 4 (fun j => U64 (Sha.wn (Sha.rt p 2 k) j)))) rfl rfl) oc ShaNT.sz85 r_b_y (by omega) ?_
   clear r_b_y; intro w12 r_b_y hg13 _
   replace r_b_y := r_b_y.congr (g := fun j => U64 (Sha.wn (Sha.rt p 2 k) j)) (fun j hj => by rw [if_pos ⟨Nat.zero_le _, by omega⟩]; first | rfl | (simp only [Nat.sub_zero]))
   replace r_b_want := r_b_want.stepG hg13 (by omega)
   replace r_b_x := r_b_x.stepG hg13 (by omega)
   replace hk := thenG hk hg13 (by omega)
   refine nt ?_
   refine sr ?_
   refine w_mv (ev (.int .i64 (68 - ((k : Nat) : Int))) s1_7 rfl) ?_
   refine w_val (y_bin (ev (.int .i64 (68 - ((k : Nat) : Int))) rfl rfl) (evc (.int .i64 64)) (b_quo (by omega))) ?_
   refine w_mv (ev (.int .i64 (68 - ((k : Nat) : Int))) s1_7 rfl) ?_
   refine w_val (y_bin (ev (.int .i64 (68 - ((k : Nat) : Int))) rfl rfl) (evc (.int .i64 64)) (b_quo (by omega))) ?_
   refine w_val (y_ia1z (i := ((68 - k) / 64)) (ev (pt b_y 0) rfl rfl) (ev (.int .i64 ((68 - ((k : Nat) : Int)) / 64)) rfl rfl) Tryd.underlying85 ShaNT.sz39 (by omega) (by omega)) ?_
   refine w_val (v := U64 (Sha.wn (Sha.rt p 2 k) ((68 - k) / 64))) (y_ld (ev (pt b_y ((68 - k) / 64)) rfl rfl) ShaNT.sc39 (r_b_y.val (by omega) rfl)) ?_
   refine w_mv (ev (.int .i64 (68 - ((k : Nat) : Int))) s1_7 rfl) ?_
   refine w_val (y_bin (ev (.int .i64 (68 - ((k : Nat) : Int))) rfl rfl) (evc (.int .i64 64)) (b_rem (by omega))) ?_
   refine w_val (y_nat_u64 (p := ((68 - k) % 64)) (ev (.int .i64 ((68 - ((k : Nat) : Int)) % 64)) rfl rfl) (by omega) ShaNT.so3 Tryd.underlying41) ?_
   refine w_val (y_bin (evc (U64 (1#64))) (ev (U64 (BitVec.ofNat 64 ((68 - k) % 64))) rfl rfl) (shl64 (c := ((68 - k) % 64)) (by rw [BitVec.toNat_ofNat]; omega))) ?_
   refine w_val (y_bin (ev (U64 (Sha.wn (Sha.rt p 2 k) ((68 - k) / 64))) rfl rfl) (ev (U64 ((1#64) <<< ((68 - k) % 64))) rfl rfl) or64) ?_
   refine w_val (y_ia1z (i := ((68 - k) / 64)) (ev (pt b_y 0) rfl rfl) (ev (.int .i64 ((68 - ((k : Nat) : Int)) / 64)) rfl rfl) Tryd.underlying85 ShaNT.sz39 (by omega) (by omega)) ?_
   refine w_st (v := U64 ((Sha.wn (Sha.rt p 2 k) ((68 - k) / 64)) ||| ((1#64) <<< ((68 - k) % 64)))) (ev (pt b_y ((68 - k) / 64)) rfl rfl) (ev (U64 ((Sha.wn (Sha.rt p 2 k) ((68 - k) / 64)) ||| ((1#64) <<< ((68 - k) % 64)))) rfl rfl) rfl rfl ShaNT.sz39 r_b_y (by omega) ?_
   clear r_b_y; intro w14 r_b_y hg15 _
   replace r_b_want := r_b_want.stepG hg15 (by omega)
   replace r_b_x := r_b_x.stepG hg15 (by omega)
   replace hk := thenG hk hg15 (by omega)
   refine nt ?_
   refine wp_seq ?_
   replace r_b_y := r_b_y.congr (g := fun j => U64 (Sha.wn (Sha.rt p 2 k + 2 ^ (68 - k)) j)) (fun j hj => by rw [← Sha.bit_row (Sha.rt p 2 k) (68 - k) j (by omega) hj (by rw [show 68 - k + 1 = 69 - k from by omega]; exact (Sha.rt_inv p 2 k (by omega)).1)]; (try dsimp only); by_cases e : j = (68 - k) / 64; (rw [if_pos e, if_pos e]); (rw [if_neg e, if_neg e]))
   have hrl := Sha.rt_lt p 2 k (by omega)
   have hsq := Sha.sq_lt (Sha.rt p 2 k + 2 ^ (68 - k)) (Sha.rt_lt p 2 k (by omega))
   refine wp_region_lit ?_
   refine w_val (v := .agg (arr 4 (fun j => U64 (Sha.wn (Sha.rt p 2 k + 2 ^ (68 - k)) j)))) (y_lda (ev (pt b_y 0) rfl rfl) ShaNT.ag85 ShaNT.sz85 (fun j hj => by rw [Nat.zero_add]; exact (r_b_y.cell (by omega)))) ?_
   refine w_val (v := .agg (arr 4 (fun j => U64 (Sha.wn (Sha.rt p 2 k + 2 ^ (68 - k)) j)))) (y_lda (ev (pt b_y 0) rfl rfl) ShaNT.ag85 ShaNT.sz85 (fun j hj => by rw [Nat.zero_add]; exact (r_b_y.cell (by omega)))) ?_
   refine w_call (Tryd.func47) (by kernel_rfl) rfl (m2 (ev (.agg (arr 4 (fun j => U64 (Sha.wn (Sha.rt p 2 k + 2 ^ (68 - k)) j)))) rfl rfl) (ev (.agg (arr 4 (fun j => U64 (Sha.wn (Sha.rt p 2 k + 2 ^ (68 - k)) j)))) rfl rfl)) (times_c (Sha.rt p 2 k + 2 ^ (68 - k)) (Sha.rt p 2 k + 2 ^ (68 - k)) (by omega) w14) ?_
   rintro _ w16 ⟨rfl, hb17⟩
   refine ⟨_, rfl, ?_⟩
   replace r_b_want := r_b_want.step hb17
   replace r_b_x := r_b_x.step hb17
   replace r_b_y := r_b_y.step hb17
   replace hk := thenB hk hb17
   refine w_alloc (m := 4) (F := fun j => U64 (0#64)) (by kernel_rfl) ?_
   intro b_z w18 hbe_b_z r_b_z hb19
   have ne_b_want_b_z : b_want ≠ b_z := by have := r_b_want.lt; omega
   have ne_b_x_b_z : b_x ≠ b_z := by have := r_b_x.lt; omega
   have ne_b_y_b_z : b_y ≠ b_z := by have := r_b_y.lt; omega
   have ge_b_z : w0.heap.size ≤ b_z := by have := hk.size; omega
   clear hbe_b_z
   replace r_b_want := r_b_want.step hb19
   replace r_b_x := r_b_x.step hb19
   replace r_b_y := r_b_y.step hb19
   replace hk := thenB hk hb19
   refine w_sta (k := 4) (G := fun j => U64 (Sha.wn ((Sha.rt p 2 k + 2 ^ (68 - k)) * (Sha.rt p 2 k + 2 ^ (68 - k))) j)) (ev (pt b_z 0) rfl rfl) (ev (.agg (arr 4 (fun j => U64 (Sha.wn ((Sha.rt p 2 k + 2 ^ (68 - k)) * (Sha.rt p 2 k + 2 ^ (68 - k))) j)))) rfl rfl) oc ShaNT.sz85 r_b_z (by omega) ?_
   clear r_b_z; intro w20 r_b_z hg21 _
   replace r_b_z := r_b_z.congr (g := fun j => U64 (Sha.wn ((Sha.rt p 2 k + 2 ^ (68 - k)) * (Sha.rt p 2 k + 2 ^ (68 - k))) j)) (fun j hj => by rw [if_pos ⟨Nat.zero_le _, by omega⟩]; first | rfl | (simp only [Nat.sub_zero]))
   replace r_b_want := r_b_want.stepG hg21 (by omega)
   replace r_b_x := r_b_x.stepG hg21 (by omega)
   replace r_b_y := r_b_y.stepG hg21 (by omega)
   replace hk := thenG hk hg21 (by omega)
   refine nt ?_
   refine wp_seq ?_
   refine sr ?_
   refine w_mv (ev (.int .i64 2) s1_1 rfl) ?_
   refine w_val (y_bin (ev (.int .i64 2) rfl rfl) (evc (.int .i64 3)) b_eql) ?_
   refine nt ?_
   refine c_ff (ev (.bool false) rfl rfl) ?_
   refine wp_skip ?_
   refine then_n ?_
   refine sr ?_
   refine w_val (v := .agg (arr 4 (fun j => U64 (Sha.wn ((Sha.rt p 2 k + 2 ^ (68 - k)) * (Sha.rt p 2 k + 2 ^ (68 - k))) j)))) (y_lda (ev (pt b_z 0) rfl rfl) ShaNT.ag85 ShaNT.sz85 (fun j hj => by rw [Nat.zero_add]; exact (r_b_z.cell (by omega)))) ?_
   refine w_val (v := .agg (arr 4 (fun j => U64 (Sha.wn (p * 2 ^ (64 * 2)) j)))) (y_lda (ev (pt b_want 0) s1_5 rfl) ShaNT.ag85 ShaNT.sz85 (fun j hj => by rw [Nat.zero_add]; exact (r_b_want.cell (by omega)))) ?_
   refine w_call (Tryd.func48) (by kernel_rfl) rfl (m2 (ev (.agg (arr 4 (fun j => U64 (Sha.wn ((Sha.rt p 2 k + 2 ^ (68 - k)) * (Sha.rt p 2 k + 2 ^ (68 - k))) j)))) rfl rfl) (ev (.agg (arr 4 (fun j => U64 (Sha.wn (p * 2 ^ (64 * 2)) j)))) rfl rfl)) (above_c ((Sha.rt p 2 k + 2 ^ (68 - k)) * (Sha.rt p 2 k + 2 ^ (68 - k))) (p * 2 ^ (64 * 2)) (by omega) (by omega) w20) ?_
   rintro _ w22 ⟨rfl, hb23⟩
   refine ⟨_, rfl, ?_⟩
   replace r_b_want := r_b_want.step hb23
   replace r_b_x := r_b_x.step hb23
   replace r_b_y := r_b_y.step hb23
   replace r_b_z := r_b_z.step hb23
   replace hk := thenB hk hb23
   refine w_val (y_notp (ev (.bool (decide ((p * 2 ^ (64 * 2)) < ((Sha.rt p 2 k + 2 ^ (68 - k)) * (Sha.rt p 2 k + 2 ^ (68 - k)))))) rfl rfl)) ?_
   refine nt ?_
   refine c_if (p := ¬ ((p * 2 ^ (64 * 2)) < ((Sha.rt p 2 k + 2 ^ (68 - k)) * (Sha.rt p 2 k + 2 ^ (68 - k))))) (ev (.bool (decide (¬ ((p * 2 ^ (64 * 2)) < ((Sha.rt p 2 k + 2 ^ (68 - k)) * (Sha.rt p 2 k + 2 ^ (68 - k))))))) rfl rfl) (fun hc24 => ?_) (fun hc24 => ?_)
   ·skip
    refine wp_region_lit ?_
    refine w_val (v := .agg (arr 4 (fun j => U64 (Sha.wn (Sha.rt p 2 k + 2 ^ (68 - k)) j)))) (y_lda (ev (pt b_y 0) rfl rfl) ShaNT.ag85 ShaNT.sz85 (fun j hj => by rw [Nat.zero_add]; exact (r_b_y.cell (by omega)))) ?_
    refine w_sta (k := 4) (G := fun j => U64 (Sha.wn (Sha.rt p 2 k + 2 ^ (68 - k)) j)) (ev (pt b_x 0) s1_6 rfl) (ev (.agg (arr 4 (fun j => U64 (Sha.wn (Sha.rt p 2 k + 2 ^ (68 - k)) j)))) rfl rfl) oc ShaNT.sz85 r_b_x (by omega) ?_
    clear r_b_x; intro w25 r_b_x hg26 _
    replace r_b_x := r_b_x.congr (g := fun j => U64 (Sha.wn (Sha.rt p 2 k + 2 ^ (68 - k)) j)) (fun j hj => by rw [if_pos ⟨Nat.zero_le _, by omega⟩]; first | rfl | (simp only [Nat.sub_zero]))
    replace r_b_want := r_b_want.stepG hg26 (by omega)
    replace r_b_y := r_b_y.stepG hg26 (by omega)
    replace r_b_z := r_b_z.stepG hg26 (by omega)
    replace hk := thenG hk hg26 (by omega)
    refine wpList_nil ?_
    refine inb_n ?_
    refine then_n ?_
    refine wp_region_lit ?_
    refine w_mv (ev (.int .i64 (68 - ((k : Nat) : Int))) s1_7 rfl) ?_
    refine w_val (y_bin (ev (.int .i64 (68 - ((k : Nat) : Int))) rfl rfl) (evc (.int .i64 1)) (b_sub (by omega))) ?_
    refine w_as (ev (.int .i64 ((68 - ((k : Nat) : Int)) - 1)) rfl rfl) ?_
    refine wpList_nil ?_
    exact then_n ⟨_, (by omega), k + 1, rfl, _, rfl, iv, s1_0, s1_1, s1_4, s1_5, s1_6, (Eq.trans (b := .int .i64 ((68 - ((k : Nat) : Int)) - 1)) rfl (by congr 1; omega)), r_b_want, (r_b_x.congr (fun j hj => by first | exact congrArg U64 (congrArg (fun y => Sha.wn y j) (if_neg (by assumption)).symm) | exact congrArg U64 (congrArg (fun y => Sha.wn y j) (if_pos (Classical.not_not.1 (by assumption))).symm))), hk⟩
   ·skip
    refine wp_skip ?_
    refine inb_n ?_
    refine then_n ?_
    refine wp_region_lit ?_
    refine w_mv (ev (.int .i64 (68 - ((k : Nat) : Int))) s1_7 rfl) ?_
    refine w_val (y_bin (ev (.int .i64 (68 - ((k : Nat) : Int))) rfl rfl) (evc (.int .i64 1)) (b_sub (by omega))) ?_
    refine w_as (ev (.int .i64 ((68 - ((k : Nat) : Int)) - 1)) rfl rfl) ?_
    refine wpList_nil ?_
    exact then_n ⟨_, (by omega), k + 1, rfl, _, rfl, iv, s1_0, s1_1, s1_4, s1_5, s1_6, (Eq.trans (b := .int .i64 ((68 - ((k : Nat) : Int)) - 1)) rfl (by congr 1; omega)), r_b_want, (r_b_x.congr (fun j hj => by first | exact congrArg U64 (congrArg (fun y => Sha.wn y j) (if_neg (by assumption)).symm) | exact congrArg U64 (congrArg (fun y => Sha.wn y j) (if_pos (Classical.not_not.1 (by assumption))).symm))), hk⟩
  ·skip
   refine wp_exit ?_
   refine then_x ?_
   replace r_b_x := r_b_x.congr (g := fun j => U64 (Sha.wn (Sha.rt p 2 69) j)) (fun j hj => by rw [show k = 69 from by omega])
   refine then_x ?_
   refine inb_x ?_
   refine then_n ?_
   refine sr ?_
   refine w_val (y_ia1z (i := 0) (ev (pt b_x 0) s1_6 rfl) (evc (.int .i64 0)) Tryd.underlying85 ShaNT.sz39 (by omega) (by omega)) ?_
   refine w_val (v := U64 (Sha.wn (Sha.rt p 2 69) 0)) (y_ld (ev (pt b_x 0) rfl rfl) ShaNT.sc39 (r_b_x.val (by omega) rfl)) ?_
   refine w_as (ev (U64 (Sha.wn (Sha.rt p 2 69) 0)) rfl rfl) ?_
   refine nt ?_
   refine wp_ret ?_
   refine fin_ret1 rfl (ev (U64 (Sha.wn (Sha.rt p 2 69) 0)) rfl rfl) ?_
   refine ⟨congrArg Ending.returned ?_, hk⟩
   show (U64 (Sha.wn (Sha.rt p 2 69) 0) : Value) = U64 (BitVec.ofNat 64 (Sha.rt p 2 69))
   unfold Sha.wn; simp

set_option maxRecDepth 100000 in
set_option maxHeartbeats 1000000 in
theorem root_3 (p : Nat) (hp : p < 2 ^ 16) (w0 : World) : Calls Tryd.prog 40 #[U64 (BitVec.ofNat 64 p), .int .i64 3] w0 fun e w' => e = .returned (U64 (BitVec.ofNat 64 (Sha.rt p 3 69))) ∧ Below w0.heap.size w0 w' := by
 refine enter (n := 45) Tryd.func40 rfl rfl rfl ?_
 have hk : Below w0.heap.size w0 w0 := Below.refl _ _
 refine sr ?_
 refine w_as (evc (U64 (0#64))) ?_
 refine nt ?_
 refine sr ?_
 refine w_alloc (m := 4) (F := fun j => U64 (0#64)) (by kernel_rfl) ?_
 intro b_want w1 hbe_b_want r_b_want hb2
 have ge_b_want : w0.heap.size ≤ b_want := by have := hk.size; omega
 clear hbe_b_want
 replace hk := thenB hk hb2
 refine nt ?_
 refine sr ?_
 refine w_mv (ev (.int .i64 3) rfl rfl) ?_
 refine w_mv (ev (U64 (BitVec.ofNat 64 p)) rfl rfl) ?_
 refine w_val (y_ia1z (i := 3) (ev (pt b_want 0) rfl rfl) (ev (.int .i64 3) rfl rfl) Tryd.underlying85 ShaNT.sz39 (by omega) (by omega)) ?_
 refine w_st (v := U64 (BitVec.ofNat 64 p)) (ev (pt b_want 3) rfl rfl) (ev (U64 (BitVec.ofNat 64 p)) rfl rfl) rfl rfl ShaNT.sz39 r_b_want (by omega) ?_
 clear r_b_want; intro w3 r_b_want hg4 _
 replace hk := thenG hk hg4 (by omega)
 refine nt ?_
 refine wp_seq ?_
 replace r_b_want := r_b_want.congr (g := fun j => U64 (Sha.wn (p * 2 ^ (64 * 3)) j)) (fun j hj => by rw [← Sha.want_row p 3 j (by omega) (by omega) hj]; (try dsimp only); by_cases e : j = 3; (rw [if_pos e, if_pos e]); (rw [if_neg e, if_neg e]))
 refine wp_region_lit ?_
 refine w_alloc (m := 4) (F := fun j => U64 (0#64)) (by kernel_rfl) ?_
 intro b_x w5 hbe_b_x r_b_x hb6
 have ne_b_want_b_x : b_want ≠ b_x := by have := r_b_want.lt; omega
 have ge_b_x : w0.heap.size ≤ b_x := by have := hk.size; omega
 clear hbe_b_x
 replace r_b_want := r_b_want.step hb6
 replace hk := thenB hk hb6
 refine nt ?_
 refine wp_seq ?_
 refine sr ?_
 refine w_as (evc (.int .i64 68)) ?_
 refine nt ?_
 refine wp_block ?_
 refine c_loop (fun dN aN wl => ∃ (k : Nat), dN = (69 - k) ∧ ∃ f7, aN = fr 45 f7 ∧ (k ≤ 69) ∧ f7 0 = U64 (BitVec.ofNat 64 p) ∧ f7 1 = .int .i64 3 ∧ f7 4 = U64 (0#64) ∧ f7 5 = pt b_want 0 ∧ f7 6 = pt b_x 0 ∧ f7 7 = .int .i64 (68 - ((k : Nat) : Int)) ∧ Row wl b_want 85 4 (fun j => U64 (Sha.wn (p * 2 ^ (64 * 3)) j)) ∧ Row wl b_x 85 4 (fun j => U64 (Sha.wn (Sha.rt p 3 k) j)) ∧ Below w0.heap.size w0 wl) (69 - 0) ?_ ?_
 · exact ⟨0, rfl, _, rfl, iv, rfl, rfl, rfl, rfl, rfl, (Eq.trans (b := .int .i64 68) rfl (by rfl)), r_b_want, (r_b_x.congr (fun j hj => by show U64 0#64 = U64 (Sha.wn 0 j); unfold Sha.wn; rw [Nat.zero_div])), hk⟩
 ·skip
  clear r_b_want r_b_x hk
  rintro _ _ w8 ⟨k, rfl, f7, rfl, i1_0, s1_0, s1_1, s1_4, s1_5, s1_6, s1_7, r_b_want, r_b_x, hk⟩
  refine wp_seq ?_
  refine sr ?_
  refine w_mv (ev (.int .i64 (68 - ((k : Nat) : Int))) s1_7 rfl) ?_
  refine w_val (y_bin (ev (.int .i64 (68 - ((k : Nat) : Int))) rfl rfl) (evc (.int .i64 0)) b_geq) ?_
  refine nt ?_
  refine c_if (p := 0 ≤ (68 - ((k : Nat) : Int))) (ev (.bool (decide (0 ≤ (68 - ((k : Nat) : Int))))) rfl rfl) (fun hc9 => ?_) (fun hc9 => ?_)
  ·skip
   refine wp_skip ?_
   refine then_n ?_
   refine wp_seq ?_
   refine wp_block ?_
   refine sr ?_
   refine w_val (v := .agg (arr 4 (fun j => U64 (Sha.wn (Sha.rt p 3 k) j)))) (y_lda (ev (pt b_x 0) s1_6 rfl) ShaNT.ag85 ShaNT.sz85 (fun j hj => by rw [Nat.zero_add]; exact (r_b_x.cell (by omega)))) ?_
   refine w_alloc (m := 4) (F := fun j => U64 (0#64)) (by kernel_rfl) ?_
   intro b_y w10 hbe_b_y r_b_y hb11
   have ne_b_want_b_y : b_want ≠ b_y := by have := r_b_want.lt; omega
   have ne_b_x_b_y : b_x ≠ b_y := by have := r_b_x.lt; omega
   have ge_b_y : w0.heap.size ≤ b_y := by have := hk.size; omega
   clear hbe_b_y
   replace r_b_want := r_b_want.step hb11
   replace r_b_x := r_b_x.step hb11
   replace hk := thenB hk hb11
   refine w_sta (k := 4) (G := fun j => U64 (Sha.wn (Sha.rt p 3 k) j)) (ev (pt b_y 0) rfl rfl) (ev (.agg (arr 4 (fun j => U64 (Sha.wn (Sha.rt p 3 k) j)))) rfl rfl) oc ShaNT.sz85 r_b_y (by omega) ?_
   clear r_b_y; intro w12 r_b_y hg13 _
   replace r_b_y := r_b_y.congr (g := fun j => U64 (Sha.wn (Sha.rt p 3 k) j)) (fun j hj => by rw [if_pos ⟨Nat.zero_le _, by omega⟩]; first | rfl | (simp only [Nat.sub_zero]))
   replace r_b_want := r_b_want.stepG hg13 (by omega)
   replace r_b_x := r_b_x.stepG hg13 (by omega)
   replace hk := thenG hk hg13 (by omega)
   refine nt ?_
   refine sr ?_
   refine w_mv (ev (.int .i64 (68 - ((k : Nat) : Int))) s1_7 rfl) ?_
   refine w_val (y_bin (ev (.int .i64 (68 - ((k : Nat) : Int))) rfl rfl) (evc (.int .i64 64)) (b_quo (by omega))) ?_
   refine w_mv (ev (.int .i64 (68 - ((k : Nat) : Int))) s1_7 rfl) ?_
   refine w_val (y_bin (ev (.int .i64 (68 - ((k : Nat) : Int))) rfl rfl) (evc (.int .i64 64)) (b_quo (by omega))) ?_
   refine w_val (y_ia1z (i := ((68 - k) / 64)) (ev (pt b_y 0) rfl rfl) (ev (.int .i64 ((68 - ((k : Nat) : Int)) / 64)) rfl rfl) Tryd.underlying85 ShaNT.sz39 (by omega) (by omega)) ?_
   refine w_val (v := U64 (Sha.wn (Sha.rt p 3 k) ((68 - k) / 64))) (y_ld (ev (pt b_y ((68 - k) / 64)) rfl rfl) ShaNT.sc39 (r_b_y.val (by omega) rfl)) ?_
   refine w_mv (ev (.int .i64 (68 - ((k : Nat) : Int))) s1_7 rfl) ?_
   refine w_val (y_bin (ev (.int .i64 (68 - ((k : Nat) : Int))) rfl rfl) (evc (.int .i64 64)) (b_rem (by omega))) ?_
   refine w_val (y_nat_u64 (p := ((68 - k) % 64)) (ev (.int .i64 ((68 - ((k : Nat) : Int)) % 64)) rfl rfl) (by omega) ShaNT.so3 Tryd.underlying41) ?_
   refine w_val (y_bin (evc (U64 (1#64))) (ev (U64 (BitVec.ofNat 64 ((68 - k) % 64))) rfl rfl) (shl64 (c := ((68 - k) % 64)) (by rw [BitVec.toNat_ofNat]; omega))) ?_
   refine w_val (y_bin (ev (U64 (Sha.wn (Sha.rt p 3 k) ((68 - k) / 64))) rfl rfl) (ev (U64 ((1#64) <<< ((68 - k) % 64))) rfl rfl) or64) ?_
   refine w_val (y_ia1z (i := ((68 - k) / 64)) (ev (pt b_y 0) rfl rfl) (ev (.int .i64 ((68 - ((k : Nat) : Int)) / 64)) rfl rfl) Tryd.underlying85 ShaNT.sz39 (by omega) (by omega)) ?_
   refine w_st (v := U64 ((Sha.wn (Sha.rt p 3 k) ((68 - k) / 64)) ||| ((1#64) <<< ((68 - k) % 64)))) (ev (pt b_y ((68 - k) / 64)) rfl rfl) (ev (U64 ((Sha.wn (Sha.rt p 3 k) ((68 - k) / 64)) ||| ((1#64) <<< ((68 - k) % 64)))) rfl rfl) rfl rfl ShaNT.sz39 r_b_y (by omega) ?_
   clear r_b_y; intro w14 r_b_y hg15 _
   replace r_b_want := r_b_want.stepG hg15 (by omega)
   replace r_b_x := r_b_x.stepG hg15 (by omega)
   replace hk := thenG hk hg15 (by omega)
   refine nt ?_
   refine wp_seq ?_
   replace r_b_y := r_b_y.congr (g := fun j => U64 (Sha.wn (Sha.rt p 3 k + 2 ^ (68 - k)) j)) (fun j hj => by rw [← Sha.bit_row (Sha.rt p 3 k) (68 - k) j (by omega) hj (by rw [show 68 - k + 1 = 69 - k from by omega]; exact (Sha.rt_inv p 3 k (by omega)).1)]; (try dsimp only); by_cases e : j = (68 - k) / 64; (rw [if_pos e, if_pos e]); (rw [if_neg e, if_neg e]))
   have hrl := Sha.rt_lt p 3 k (by omega)
   have hsq := Sha.sq_lt (Sha.rt p 3 k + 2 ^ (68 - k)) (Sha.rt_lt p 3 k (by omega))
   refine wp_region_lit ?_
   refine w_val (v := .agg (arr 4 (fun j => U64 (Sha.wn (Sha.rt p 3 k + 2 ^ (68 - k)) j)))) (y_lda (ev (pt b_y 0) rfl rfl) ShaNT.ag85 ShaNT.sz85 (fun j hj => by rw [Nat.zero_add]; exact (r_b_y.cell (by omega)))) ?_
   refine w_val (v := .agg (arr 4 (fun j => U64 (Sha.wn (Sha.rt p 3 k + 2 ^ (68 - k)) j)))) (y_lda (ev (pt b_y 0) rfl rfl) ShaNT.ag85 ShaNT.sz85 (fun j hj => by rw [Nat.zero_add]; exact (r_b_y.cell (by omega)))) ?_
   refine w_call (Tryd.func47) (by kernel_rfl) rfl (m2 (ev (.agg (arr 4 (fun j => U64 (Sha.wn (Sha.rt p 3 k + 2 ^ (68 - k)) j)))) rfl rfl) (ev (.agg (arr 4 (fun j => U64 (Sha.wn (Sha.rt p 3 k + 2 ^ (68 - k)) j)))) rfl rfl)) (times_c (Sha.rt p 3 k + 2 ^ (68 - k)) (Sha.rt p 3 k + 2 ^ (68 - k)) (by omega) w14) ?_
   rintro _ w16 ⟨rfl, hb17⟩
   refine ⟨_, rfl, ?_⟩
   replace r_b_want := r_b_want.step hb17
   replace r_b_x := r_b_x.step hb17
   replace r_b_y := r_b_y.step hb17
   replace hk := thenB hk hb17
   refine w_alloc (m := 4) (F := fun j => U64 (0#64)) (by kernel_rfl) ?_
   intro b_z w18 hbe_b_z r_b_z hb19
   have ne_b_want_b_z : b_want ≠ b_z := by have := r_b_want.lt; omega
   have ne_b_x_b_z : b_x ≠ b_z := by have := r_b_x.lt; omega
   have ne_b_y_b_z : b_y ≠ b_z := by have := r_b_y.lt; omega
   have ge_b_z : w0.heap.size ≤ b_z := by have := hk.size; omega
   clear hbe_b_z
   replace r_b_want := r_b_want.step hb19
   replace r_b_x := r_b_x.step hb19
   replace r_b_y := r_b_y.step hb19
   replace hk := thenB hk hb19
   refine w_sta (k := 4) (G := fun j => U64 (Sha.wn ((Sha.rt p 3 k + 2 ^ (68 - k)) * (Sha.rt p 3 k + 2 ^ (68 - k))) j)) (ev (pt b_z 0) rfl rfl) (ev (.agg (arr 4 (fun j => U64 (Sha.wn ((Sha.rt p 3 k + 2 ^ (68 - k)) * (Sha.rt p 3 k + 2 ^ (68 - k))) j)))) rfl rfl) oc ShaNT.sz85 r_b_z (by omega) ?_
   clear r_b_z; intro w20 r_b_z hg21 _
   replace r_b_z := r_b_z.congr (g := fun j => U64 (Sha.wn ((Sha.rt p 3 k + 2 ^ (68 - k)) * (Sha.rt p 3 k + 2 ^ (68 - k))) j)) (fun j hj => by rw [if_pos ⟨Nat.zero_le _, by omega⟩]; first | rfl | (simp only [Nat.sub_zero]))
   replace r_b_want := r_b_want.stepG hg21 (by omega)
   replace r_b_x := r_b_x.stepG hg21 (by omega)
   replace r_b_y := r_b_y.stepG hg21 (by omega)
   replace hk := thenG hk hg21 (by omega)
   refine nt ?_
   refine wp_seq ?_
   refine sr ?_
   refine w_mv (ev (.int .i64 3) s1_1 rfl) ?_
   refine w_val (y_bin (ev (.int .i64 3) rfl rfl) (evc (.int .i64 3)) b_eql) ?_
   refine nt ?_
   refine c_tt (ev (.bool true) rfl rfl) ?_
   refine wp_region_lit ?_
   refine w_val (v := .agg (arr 4 (fun j => U64 (Sha.wn ((Sha.rt p 3 k + 2 ^ (68 - k)) * (Sha.rt p 3 k + 2 ^ (68 - k))) j)))) (y_lda (ev (pt b_z 0) rfl rfl) ShaNT.ag85 ShaNT.sz85 (fun j hj => by rw [Nat.zero_add]; exact (r_b_z.cell (by omega)))) ?_
   refine w_val (v := .agg (arr 4 (fun j => U64 (Sha.wn (Sha.rt p 3 k + 2 ^ (68 - k)) j)))) (y_lda (ev (pt b_y 0) rfl rfl) ShaNT.ag85 ShaNT.sz85 (fun j hj => by rw [Nat.zero_add]; exact (r_b_y.cell (by omega)))) ?_
   refine w_call (Tryd.func47) (by kernel_rfl) rfl (m2 (ev (.agg (arr 4 (fun j => U64 (Sha.wn ((Sha.rt p 3 k + 2 ^ (68 - k)) * (Sha.rt p 3 k + 2 ^ (68 - k))) j)))) rfl rfl) (ev (.agg (arr 4 (fun j => U64 (Sha.wn (Sha.rt p 3 k + 2 ^ (68 - k)) j)))) rfl rfl)) (times_c ((Sha.rt p 3 k + 2 ^ (68 - k)) * (Sha.rt p 3 k + 2 ^ (68 - k))) (Sha.rt p 3 k + 2 ^ (68 - k)) (by omega) w20) ?_
   rintro _ w22 ⟨rfl, hb23⟩
   refine ⟨_, rfl, ?_⟩
   replace r_b_want := r_b_want.step hb23
   replace r_b_x := r_b_x.step hb23
   replace r_b_y := r_b_y.step hb23
   replace r_b_z := r_b_z.step hb23
   replace hk := thenB hk hb23
   refine w_sta (k := 4) (G := fun j => U64 (Sha.wn (((Sha.rt p 3 k + 2 ^ (68 - k)) * (Sha.rt p 3 k + 2 ^ (68 - k))) * (Sha.rt p 3 k + 2 ^ (68 - k))) j)) (ev (pt b_z 0) rfl rfl) (ev (.agg (arr 4 (fun j => U64 (Sha.wn (((Sha.rt p 3 k + 2 ^ (68 - k)) * (Sha.rt p 3 k + 2 ^ (68 - k))) * (Sha.rt p 3 k + 2 ^ (68 - k))) j)))) rfl rfl) oc ShaNT.sz85 r_b_z (by omega) ?_
   clear r_b_z; intro w24 r_b_z hg25 _
   replace r_b_z := r_b_z.congr (g := fun j => U64 (Sha.wn (((Sha.rt p 3 k + 2 ^ (68 - k)) * (Sha.rt p 3 k + 2 ^ (68 - k))) * (Sha.rt p 3 k + 2 ^ (68 - k))) j)) (fun j hj => by rw [if_pos ⟨Nat.zero_le _, by omega⟩]; first | rfl | (simp only [Nat.sub_zero]))
   replace r_b_want := r_b_want.stepG hg25 (by omega)
   replace r_b_x := r_b_x.stepG hg25 (by omega)
   replace r_b_y := r_b_y.stepG hg25 (by omega)
   replace hk := thenG hk hg25 (by omega)
   refine nt ?_
   refine sr ?_
   refine w_val (v := .agg (arr 4 (fun j => U64 (Sha.wn (((Sha.rt p 3 k + 2 ^ (68 - k)) * (Sha.rt p 3 k + 2 ^ (68 - k))) * (Sha.rt p 3 k + 2 ^ (68 - k))) j)))) (y_lda (ev (pt b_z 0) rfl rfl) ShaNT.ag85 ShaNT.sz85 (fun j hj => by rw [Nat.zero_add]; exact (r_b_z.cell (by omega)))) ?_
   refine w_val (v := .agg (arr 4 (fun j => U64 (Sha.wn (p * 2 ^ (64 * 3)) j)))) (y_lda (ev (pt b_want 0) s1_5 rfl) ShaNT.ag85 ShaNT.sz85 (fun j hj => by rw [Nat.zero_add]; exact (r_b_want.cell (by omega)))) ?_
   refine w_call (Tryd.func48) (by kernel_rfl) rfl (m2 (ev (.agg (arr 4 (fun j => U64 (Sha.wn (((Sha.rt p 3 k + 2 ^ (68 - k)) * (Sha.rt p 3 k + 2 ^ (68 - k))) * (Sha.rt p 3 k + 2 ^ (68 - k))) j)))) rfl rfl) (ev (.agg (arr 4 (fun j => U64 (Sha.wn (p * 2 ^ (64 * 3)) j)))) rfl rfl)) (above_c (((Sha.rt p 3 k + 2 ^ (68 - k)) * (Sha.rt p 3 k + 2 ^ (68 - k))) * (Sha.rt p 3 k + 2 ^ (68 - k))) (p * 2 ^ (64 * 3)) (by omega) (by omega) w24) ?_
   rintro _ w26 ⟨rfl, hb27⟩
   refine ⟨_, rfl, ?_⟩
   replace r_b_want := r_b_want.step hb27
   replace r_b_x := r_b_x.step hb27
   replace r_b_y := r_b_y.step hb27
   replace r_b_z := r_b_z.step hb27
   replace hk := thenB hk hb27
   refine w_val (y_notp (ev (.bool (decide ((p * 2 ^ (64 * 3)) < (((Sha.rt p 3 k + 2 ^ (68 - k)) * (Sha.rt p 3 k + 2 ^ (68 - k))) * (Sha.rt p 3 k + 2 ^ (68 - k)))))) rfl rfl)) ?_
   refine nt ?_
   refine c_if (p := ¬ ((p * 2 ^ (64 * 3)) < (((Sha.rt p 3 k + 2 ^ (68 - k)) * (Sha.rt p 3 k + 2 ^ (68 - k))) * (Sha.rt p 3 k + 2 ^ (68 - k))))) (ev (.bool (decide (¬ ((p * 2 ^ (64 * 3)) < (((Sha.rt p 3 k + 2 ^ (68 - k)) * (Sha.rt p 3 k + 2 ^ (68 - k))) * (Sha.rt p 3 k + 2 ^ (68 - k))))))) rfl rfl) (fun hc28 => ?_) (fun hc28 => ?_)
   ·skip
    refine wp_region_lit ?_
    refine w_val (v := .agg (arr 4 (fun j => U64 (Sha.wn (Sha.rt p 3 k + 2 ^ (68 - k)) j)))) (y_lda (ev (pt b_y 0) rfl rfl) ShaNT.ag85 ShaNT.sz85 (fun j hj => by rw [Nat.zero_add]; exact (r_b_y.cell (by omega)))) ?_
    refine w_sta (k := 4) (G := fun j => U64 (Sha.wn (Sha.rt p 3 k + 2 ^ (68 - k)) j)) (ev (pt b_x 0) s1_6 rfl) (ev (.agg (arr 4 (fun j => U64 (Sha.wn (Sha.rt p 3 k + 2 ^ (68 - k)) j)))) rfl rfl) oc ShaNT.sz85 r_b_x (by omega) ?_
    clear r_b_x; intro w29 r_b_x hg30 _
    replace r_b_x := r_b_x.congr (g := fun j => U64 (Sha.wn (Sha.rt p 3 k + 2 ^ (68 - k)) j)) (fun j hj => by rw [if_pos ⟨Nat.zero_le _, by omega⟩]; first | rfl | (simp only [Nat.sub_zero]))
    replace r_b_want := r_b_want.stepG hg30 (by omega)
    replace r_b_y := r_b_y.stepG hg30 (by omega)
    replace r_b_z := r_b_z.stepG hg30 (by omega)
    replace hk := thenG hk hg30 (by omega)
    refine wpList_nil ?_
    refine inb_n ?_
    refine then_n ?_
    refine wp_region_lit ?_
    refine w_mv (ev (.int .i64 (68 - ((k : Nat) : Int))) s1_7 rfl) ?_
    refine w_val (y_bin (ev (.int .i64 (68 - ((k : Nat) : Int))) rfl rfl) (evc (.int .i64 1)) (b_sub (by omega))) ?_
    refine w_as (ev (.int .i64 ((68 - ((k : Nat) : Int)) - 1)) rfl rfl) ?_
    refine wpList_nil ?_
    exact then_n ⟨_, (by omega), k + 1, rfl, _, rfl, iv, s1_0, s1_1, s1_4, s1_5, s1_6, (Eq.trans (b := .int .i64 ((68 - ((k : Nat) : Int)) - 1)) rfl (by congr 1; omega)), r_b_want, (r_b_x.congr (fun j hj => by first | exact congrArg U64 (congrArg (fun y => Sha.wn y j) (if_neg (by assumption)).symm) | exact congrArg U64 (congrArg (fun y => Sha.wn y j) (if_pos (Classical.not_not.1 (by assumption))).symm))), hk⟩
   ·skip
    refine wp_skip ?_
    refine inb_n ?_
    refine then_n ?_
    refine wp_region_lit ?_
    refine w_mv (ev (.int .i64 (68 - ((k : Nat) : Int))) s1_7 rfl) ?_
    refine w_val (y_bin (ev (.int .i64 (68 - ((k : Nat) : Int))) rfl rfl) (evc (.int .i64 1)) (b_sub (by omega))) ?_
    refine w_as (ev (.int .i64 ((68 - ((k : Nat) : Int)) - 1)) rfl rfl) ?_
    refine wpList_nil ?_
    exact then_n ⟨_, (by omega), k + 1, rfl, _, rfl, iv, s1_0, s1_1, s1_4, s1_5, s1_6, (Eq.trans (b := .int .i64 ((68 - ((k : Nat) : Int)) - 1)) rfl (by congr 1; omega)), r_b_want, (r_b_x.congr (fun j hj => by first | exact congrArg U64 (congrArg (fun y => Sha.wn y j) (if_neg (by assumption)).symm) | exact congrArg U64 (congrArg (fun y => Sha.wn y j) (if_pos (Classical.not_not.1 (by assumption))).symm))), hk⟩
  ·skip
   refine wp_exit ?_
   refine then_x ?_
   replace r_b_x := r_b_x.congr (g := fun j => U64 (Sha.wn (Sha.rt p 3 69) j)) (fun j hj => by rw [show k = 69 from by omega])
   refine then_x ?_
   refine inb_x ?_
   refine then_n ?_
   refine sr ?_
   refine w_val (y_ia1z (i := 0) (ev (pt b_x 0) s1_6 rfl) (evc (.int .i64 0)) Tryd.underlying85 ShaNT.sz39 (by omega) (by omega)) ?_
   refine w_val (v := U64 (Sha.wn (Sha.rt p 3 69) 0)) (y_ld (ev (pt b_x 0) rfl rfl) ShaNT.sc39 (r_b_x.val (by omega) rfl)) ?_
   refine w_as (ev (U64 (Sha.wn (Sha.rt p 3 69) 0)) rfl rfl) ?_
   refine nt ?_
   refine wp_ret ?_
   refine fin_ret1 rfl (ev (U64 (Sha.wn (Sha.rt p 3 69) 0)) rfl rfl) ?_
   refine ⟨congrArg Ending.returned ?_, hk⟩
   show (U64 (Sha.wn (Sha.rt p 3 69) 0) : Value) = U64 (BitVec.ofNat 64 (Sha.rt p 3 69))
   unfold Sha.wn; simp
end Go.Proofs.YtieepglpejlkoaaDoor
