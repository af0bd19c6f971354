/-
  Sums over the field, by the reference. Conditions as each says.
-/
import Derived.Test.YtkjdejadambffaaDoorRows
import Derived.Test.YtkjdejadambffaaDoorGhPlain
import Derived.Test.YtkjdejadambffaaDoorOctW
import Derived.Test.YtkjdejadambffaaDoorGen
import Derived.ProofKit
namespace Go.Proofs.YtkjdejadambffaaDoor
open Go.RowKit
set_option linter.unusedSimpArgs false
set_option linter.unusedVariables false
set_option maxRecDepth 100000
set_option maxHeartbeats 1000000
namespace GhRT
theorem mixed : Tryd.prog.follows .mixedOrders = true := by kernel_rfl
theorem ag115 : (Tryd.prog.underlying 115).map isAggD = some true := by rw [Tryd.underlying115]; rfl
theorem ag116 : (Tryd.prog.underlying 116).map isAggD = some true := by rw [Tryd.underlying116]; rfl
theorem ag126 : (Tryd.prog.underlying 126).map isAggD = some true := by rw [Tryd.underlying126]; rfl
theorem fa115_0 (g off : Nat) : ∀ w, (Instr.fieldAt 115 (.pointer (some ⟨g, off, none⟩)) 0).run Tryd.prog w = .ok (.pointer (some ⟨g, off + 0, none⟩)) w := fun w => by kernel_rfl
theorem fa115_1 (g off : Nat) : ∀ w, (Instr.fieldAt 115 (.pointer (some ⟨g, off, none⟩)) 1).run Tryd.prog w = .ok (.pointer (some ⟨g, off + 1, none⟩)) w := fun w => by kernel_rfl
theorem sc4 : (Tryd.prog.underlying 4).map scal = some true := by rw [Tryd.underlying4]; rfl
theorem sc5 : (Tryd.prog.underlying 5).map scal = some true := by rw [Tryd.underlying5]; rfl
theorem sc62 : (Tryd.prog.underlying 62).map scal = some true := by rw [Tryd.underlying62]; rfl
theorem so3 : (Tryd.prog.underlying 3).isSome = true := by rw [Tryd.underlying3]; rfl
theorem so5 : (Tryd.prog.underlying 5).isSome = true := by rw [Tryd.underlying5]; rfl
theorem so62 : (Tryd.prog.underlying 62).isSome = true := by rw [Tryd.underlying62]; rfl
theorem sz115 : (Tryd.prog.info? 115).map (·.size) = some 2 := by kernel_rfl
theorem sz116 : (Tryd.prog.info? 116).map (·.size) = some 32 := by kernel_rfl
theorem sz126 : (Tryd.prog.info? 126).map (·.size) = some 128 := by kernel_rfl
theorem sz4 : (Tryd.prog.info? 4).map (·.size) = some 1 := by kernel_rfl
theorem sz5 : (Tryd.prog.info? 5).map (·.size) = some 1 := by kernel_rfl
theorem sz62 : (Tryd.prog.info? 62).map (·.size) = some 1 := by kernel_rfl
end GhRT
theorem ghRefOf (s : List (BitVec 8)) (hs : s.length = 16) (w0 : World) : Calls Tryd.prog 71 #[.string (str s)] w0 fun e w' => e = .returned (.agg (arr 128 (fun j => .bool (Gh.bits s j)))) ∧ Below w0.heap.size w0 w' := by
 refine enter (n := 23) Tryd.func71 rfl rfl rfl ?_
 have hk : Below w0.heap.size w0 w0 := Below.refl _ _
 refine sr ?_
 refine w_alloc (m := 128) (F := fun j => .bool false) (by kernel_rfl) ?_
 intro b_2 w1 hbe_b_2 r_b_2 hb2
 have ge_b_2 := gb_ hk.size hbe_b_2
 clear hbe_b_2
 replace hk := thenB hk hb2
 refine nt ?_
 refine sr ?_
 refine w_alloc (m := 128) (F := fun j => .bool false) (by kernel_rfl) ?_
 intro b_e w3 hbe_b_e r_b_e hb4
 have ne_b_2_b_e := r_b_2.nb hbe_b_e
 have ge_b_e := gb_ hk.size hbe_b_e
 clear hbe_b_e
 replace r_b_2 := r_b_2.step hb4
 replace hk := thenB hk hb4
 refine nt ?_
 refine wp_seq ?_
 refine sr ?_
 refine w_as Ev.c ?_
 refine nt ?_
 refine wp_block ?_
 refine c_loop (fun dN aN wl => ∃ (i : Nat), dN = (128 - i) ∧ ∃ f5, aN = fr 23 f5 ∧ (i ≤ 128) ∧ f5 0 = .string (str s) ∧ f5 2 = pt b_2 0 ∧ f5 3 = pt b_e 0 ∧ f5 4 = .int .i64 ((i : Nat) : Int) ∧ Row wl b_2 126 128 (fun j => .bool false) ∧ Row wl b_e 126 128 (fun j => if j < i then (fun j => .bool (Gh.bits s j)) j else (fun j => .bool false) j) ∧ Below w0.heap.size w0 wl) (128 - 0) ?_ ?_
 · exact ⟨0, rfl, _, rfl, iv, rfl, rfl, rfl, ti, r_b_2, (r_b_e.cg), hk⟩
 ·skip
  clear r_b_2 r_b_e hk
  rintro _ _ w6 ⟨i, rfl, f5, rfl, i1_0, s1_0, s1_2, s1_3, s1_4, r_b_2, r_b_e, hk⟩
  refine wp_seq ?_
  refine sr ?_
  refine w_mv (ei s1_4) ?_
  refine w_val (y_bin ei Ev.c b_lss) ?_
  refine nt ?_
  refine c_if (p := ((i : Nat) : Int) < 128) eb (fun hc7 => ?_) (fun hc7 => ?_)
  ·skip
   refine wp_skip ?_
   refine then_n ?_
   refine wp_seq ?_
   refine wp_block ?_
   refine wp_region_lit ?_
   refine w_mv (ei s1_4) ?_
   refine w_mv (es s1_0) ?_
   refine w_mv (ei s1_4) ?_
   refine w_val (y_bin ei Ev.c (b_quo (by omega))) ?_
   refine w_val (v := U8 (gb s (i / 8))) (y_idx (ex (.string (str s))) ei Tryd.underlying9 (by omega) (by omega)) ?_
   refine w_mv (ei s1_4) ?_
   refine w_val (y_bin ei Ev.c (b_rem (by omega))) ?_
   refine w_val (y_bin Ev.c ei (b_sub (by omega))) ?_
   refine w_val (y_nat_u64 (p := (7 - (i % 8))) ei (by omega) GhRT.so3 Tryd.underlying72) ?_
   refine w_val (y_bin e8 e6 (shr8 (c := (7 - (i % 8))) (by rw [BitVec.toNat_ofNat]; omega))) ?_
   refine w_val (y_bin e8 (evc (U8 (1#8))) and8) ?_
   refine w_val (y_bin e8 (evc (U8 (1#8))) eql8) ?_
   refine w_val (y_ia1z (i := i) (ex (pt b_e 0) s1_3) ei Tryd.underlying126 GhRT.sz4 (by omega) (by omega)) ?_
   refine w_st (v := .bool (decide ((((gb s (i / 8)) >>> (7 - (i % 8))) &&& (1#8)) = (1#8)))) (ex (pt b_e i)) eb rfl rfl GhRT.sz4 r_b_e (by omega) ?_
   clear r_b_e; intro w8 r_b_e hg9 _
   replace r_b_2 := r_b_2.stepG hg9 (by omega)
   replace hk := thenG hk hg9 (by omega)
   refine wpList_nil ?_
   refine inb_n ?_
   refine then_n ?_
   refine wp_region_lit ?_
   refine w_mv (ei s1_4) ?_
   refine w_val (y_bin ei Ev.c (b_add (by omega))) ?_
   refine w_as ei ?_
   refine wpList_nil ?_
   exact then_n ⟨_, (by omega), i + 1, rfl, _, rfl, iv, s1_0, s1_2, s1_3, ti, r_b_2, (r_b_e.congr (fun j hj => by exact Gh.bits_row s i j (by omega))), hk⟩
  ·skip
   refine wp_exit ?_
   refine then_x ?_
   replace r_b_e := r_b_e.congr (g := fun j => .bool (Gh.bits s j)) (fun j hj => by dsimp only; rw [if_pos (by omega)])
   refine then_x ?_
   refine inb_x ?_
   refine then_n ?_
   refine sr ?_
   refine w_val (v := .agg (arr 128 (fun j => .bool (Gh.bits s j)))) (y_lda (ex (pt b_e 0) s1_3) GhRT.ag126 GhRT.sz126 (fun j hj => by rw [Nat.zero_add]; exact (r_b_e.cell (by omega)))) ?_
   refine w_sta (k := 128) (G := fun j => .bool (Gh.bits s j)) (ex (pt b_2 0) s1_2) ea oc GhRT.sz126 r_b_2 (by omega) ?_
   clear r_b_2; intro w10 r_b_2 hg11 _
   replace r_b_2 := r_b_2.congr (g := fun j => .bool (Gh.bits s j)) (fun j hj => by rw [if_pos ⟨Nat.zero_le _, by omega⟩]; first | rfl | (simp only [Nat.sub_zero]))
   replace r_b_e := r_b_e.stepG hg11 (by omega)
   replace hk := thenG hk hg11 (by omega)
   refine nt ?_
   refine wp_ret ?_
   refine fin_arr (F := fun j => .bool (Gh.bits s j)) rfl (ex (pt b_2 0) s1_2) GhRT.ag126 GhRT.sz126 r_b_2 (by omega) ?_
   exact ⟨rfl, hk⟩

theorem ghRefText (g : Gh.E) (w0 : World) : Calls Tryd.prog 72 #[.agg (arr 128 (fun j => .bool (g j)))] w0 fun e w' => e = .returned (.string (str (Gh.tx g))) ∧ Below w0.heap.size w0 w' := by
 have htl := Gh.tx_len g
 refine enter (n := 27) Tryd.func72 rfl rfl rfl ?_
 have hk : Below w0.heap.size w0 w0 := Below.refl _ _
 refine sr ?_
 refine w_box (m := 128) (F := fun j => .bool (g j)) ea rfl ?_
 intro b_e w1 hbe_b_e r_b_e hb2
 have ge_b_e := gb_ hk.size hbe_b_e
 clear hbe_b_e
 replace hk := thenB hk hb2
 refine w_as (evc (.string (str ([] : List (BitVec 8))))) ?_
 refine nt ?_
 refine sr ?_
 refine w_alloc (m := 16) (F := fun j => U8 (0#8)) (by kernel_rfl) ?_
 intro b_out w3 hbe_b_out r_b_out hb4
 have ne_b_e_b_out := r_b_e.nb hbe_b_out
 have ge_b_out := gb_ hk.size hbe_b_out
 clear hbe_b_out
 replace r_b_e := r_b_e.step hb4
 replace hk := thenB hk hb4
 refine nt ?_
 refine wp_seq ?_
 refine sr ?_
 refine w_as Ev.c ?_
 refine nt ?_
 refine wp_block ?_
 refine c_loop (fun dN aN wl => ∃ (i : Nat), dN = (128 - i) ∧ ∃ f5, aN = fr 27 f5 ∧ (i ≤ 128) ∧ f5 1 = pt b_e 0 ∧ f5 2 = .string (str ([] : List (BitVec 8))) ∧ f5 3 = pt b_out 0 ∧ f5 4 = .int .i64 ((i : Nat) : Int) ∧ Row wl b_e 126 128 (fun j => .bool (g j)) ∧ Row wl b_out 74 16 (fun j => U8 (Gh.byB g j i)) ∧ Below w0.heap.size w0 wl) (128 - 0) ?_ ?_
 · exact ⟨0, rfl, _, rfl, iv, rfl, rfl, rfl, ti, r_b_e, (r_b_out.congr (fun j hj => by rfl)), hk⟩
 ·skip
  clear r_b_e r_b_out hk
  rintro _ _ w6 ⟨i, rfl, f5, rfl, i1_0, s1_1, s1_2, s1_3, s1_4, r_b_e, r_b_out, hk⟩
  refine wp_seq ?_
  refine sr ?_
  refine w_mv (ei s1_4) ?_
  refine w_val (y_bin ei Ev.c b_lss) ?_
  refine nt ?_
  refine c_if (p := ((i : Nat) : Int) < 128) eb (fun hc7 => ?_) (fun hc7 => ?_)
  ·skip
   refine wp_skip ?_
   refine then_n ?_
   refine wp_seq ?_
   refine wp_block ?_
   refine sr ?_
   refine w_mv (ei s1_4) ?_
   refine w_val (y_ia1z (i := i) (ex (pt b_e 0) s1_1) ei Tryd.underlying126 GhRT.sz4 (by omega) (by omega)) ?_
   refine w_val (v := .bool (g i)) (y_ld (ex (pt b_e i)) GhRT.sc4 (r_b_e.val (by omega) rfl)) ?_
   refine nt ?_
   refine c_ifb eb (fun hc8 => ?_) (fun hc8 => ?_)
   ·skip
    refine wp_region_lit ?_
    refine w_mv (ei s1_4) ?_
    refine w_val (y_bin ei Ev.c (b_quo (by omega))) ?_
    refine w_mv (ei s1_4) ?_
    refine w_val (y_bin ei Ev.c (b_quo (by omega))) ?_
    refine w_val (y_ia1z (i := (i / 8)) (ex (pt b_out 0) s1_3) ei Tryd.underlying74 GhRT.sz5 (by omega) (by omega)) ?_
    refine w_val (v := U8 (Gh.byB g (i / 8) i)) (y_ld (ex (pt b_out (i / 8))) GhRT.sc5 (r_b_out.val (by omega) rfl)) ?_
    refine w_mv (ei s1_4) ?_
    refine w_val (y_bin ei Ev.c (b_rem (by omega))) ?_
    refine w_val (y_bin Ev.c ei (b_sub (by omega))) ?_
    refine w_val (y_nat_u64 (p := (7 - (i % 8))) ei (by omega) GhRT.so3 Tryd.underlying72) ?_
    refine w_val (y_bin (evc (U8 (1#8))) e6 (shl8 (c := (7 - (i % 8))) (by rw [BitVec.toNat_ofNat]; omega))) ?_
    refine w_val (y_bin e8 e8 or8) ?_
    refine w_val (y_ia1z (i := (i / 8)) (ex (pt b_out 0) s1_3) ei Tryd.underlying74 GhRT.sz5 (by omega) (by omega)) ?_
    refine w_st (v := U8 ((Gh.byB g (i / 8) i) ||| ((1#8) <<< (7 - (i % 8))))) (ex (pt b_out (i / 8))) e8 rfl rfl GhRT.sz5 r_b_out (by omega) ?_
    clear r_b_out; intro w9 r_b_out hg10 _
    replace r_b_e := r_b_e.stepG hg10 (by omega)
    replace hk := thenG hk hg10 (by omega)
    refine wpList_nil ?_
    refine inb_n ?_
    refine then_n ?_
    refine wp_region_lit ?_
    refine w_mv (ei s1_4) ?_
    refine w_val (y_bin ei Ev.c (b_add (by omega))) ?_
    refine w_as ei ?_
    refine wpList_nil ?_
    exact then_n ⟨_, (by omega), i + 1, rfl, _, rfl, iv, s1_1, s1_2, s1_3, ti, r_b_e, (r_b_out.congr (fun j hj => by first | exact Gh.byB_yes g i j (by assumption) | exact Gh.byB_no g i j (by assumption))), hk⟩
   ·skip
    refine wp_skip ?_
    refine inb_n ?_
    refine then_n ?_
    refine wp_region_lit ?_
    refine w_mv (ei s1_4) ?_
    refine w_val (y_bin ei Ev.c (b_add (by omega))) ?_
    refine w_as ei ?_
    refine wpList_nil ?_
    exact then_n ⟨_, (by omega), i + 1, rfl, _, rfl, iv, s1_1, s1_2, s1_3, ti, r_b_e, (r_b_out.congr (fun j hj => by first | exact Gh.byB_yes g i j (by assumption) | exact Gh.byB_no g i j (by assumption))), hk⟩
  ·skip
   refine wp_exit ?_
   refine then_x ?_
   replace r_b_out := r_b_out.congr (g := fun j => U8 (gb (Gh.tx g) j)) (fun j hj => by obtain rfl : i = 128 := (by omega); exact congrArg U8 (Gh.gb_tx g j hj).symm)
   refine then_x ?_
   refine inb_x ?_
   refine then_n ?_
   refine sr ?_
   refine w_val (v := .slice (some ⟨b_out, 0, none⟩) 16 16) (y_sloff (y_slp (ex (pt b_out 0) s1_3) evo.no evo.no Tryd.underlying74 GhRT.sz5 bnd_ (by omega)) (by first | rfl | omega) rfl) ?_
   refine w_val (y_str (l := Gh.tx g) el (by first | rfl | assumption | (simp; omega) | omega) Tryd.underlying50 Tryd.underlying5 Tryd.underlying9 (fun j hj => by rw [Nat.zero_add]; exact (r_b_out.cell (by omega)))) ?_
   refine w_as es ?_
   refine nt ?_
   refine wp_ret ?_
   refine fin_ret1 rfl es ?_
   exact ⟨rfl, hk⟩

theorem ghRefTimes (a b : Gh.E) (w0 : World) : Calls Tryd.prog 70 #[.agg (arr 128 (fun j => .bool (a j))), .agg (arr 128 (fun j => .bool (b j)))] w0 fun e w' => e = .returned (.agg (arr 128 (fun j => .bool (Gh.red (Gh.prod a b 128) 127 j)))) ∧ Below w0.heap.size w0 w' := by
 refine enter (n := 86) Tryd.func70 rfl rfl rfl ?_
 have hk : Below w0.heap.size w0 w0 := Below.refl _ _
 refine sr ?_
 refine w_box (m := 128) (F := fun j => .bool (a j)) ea rfl ?_
 intro b_a w1 hbe_b_a r_b_a hb2
 have ge_b_a := gb_ hk.size hbe_b_a
 clear hbe_b_a
 replace hk := thenB hk hb2
 refine w_box (m := 128) (F := fun j => .bool (b j)) ea rfl ?_
 intro b_b w3 hbe_b_b r_b_b hb4
 have ne_b_a_b_b := r_b_a.nb hbe_b_b
 have ge_b_b := gb_ hk.size hbe_b_b
 clear hbe_b_b
 replace r_b_a := r_b_a.step hb4
 replace hk := thenB hk hb4
 refine w_alloc (m := 128) (F := fun j => .bool false) (by kernel_rfl) ?_
 intro b_4 w5 hbe_b_4 r_b_4 hb6
 have ne_b_a_b_4 := r_b_a.nb hbe_b_4
 have ne_b_b_b_4 := r_b_b.nb hbe_b_4
 have ge_b_4 := gb_ hk.size hbe_b_4
 clear hbe_b_4
 replace r_b_a := r_b_a.step hb6
 replace r_b_b := r_b_b.step hb6
 replace hk := thenB hk hb6
 refine nt ?_
 refine sr ?_
 refine w_alloc (m := 255) (F := fun j => .bool false) (by kernel_rfl) ?_
 intro b_p w7 hbe_b_p r_b_p hb8
 have ne_b_a_b_p := r_b_a.nb hbe_b_p
 have ne_b_b_b_p := r_b_b.nb hbe_b_p
 have ne_b_4_b_p := r_b_4.nb hbe_b_p
 have ge_b_p := gb_ hk.size hbe_b_p
 clear hbe_b_p
 replace r_b_a := r_b_a.step hb8
 replace r_b_b := r_b_b.step hb8
 replace r_b_4 := r_b_4.step hb8
 replace hk := thenB hk hb8
 refine nt ?_
 refine wp_seq ?_
 refine sr ?_
 refine w_as Ev.c ?_
 refine nt ?_
 refine wp_block ?_
 refine c_loop (fun dN aN wl => ∃ (i : Nat), dN = (128 - i) ∧ ∃ f9, aN = fr 86 f9 ∧ (i ≤ 128) ∧ f9 2 = pt b_a 0 ∧ f9 3 = pt b_b 0 ∧ f9 4 = pt b_4 0 ∧ f9 5 = pt b_p 0 ∧ f9 6 = .int .i64 ((i : Nat) : Int) ∧ Row wl b_a 126 128 (fun j => .bool (a j)) ∧ Row wl b_b 126 128 (fun j => .bool (b j)) ∧ Row wl b_4 126 128 (fun j => .bool false) ∧ Row wl b_p 141 255 (fun j => .bool (Gh.prod a b i j)) ∧ Below w0.heap.size w0 wl) (128 - 0) ?_ ?_
 · exact ⟨0, rfl, _, rfl, iv, rfl, rfl, rfl, rfl, ti, r_b_a, r_b_b, r_b_4, (r_b_p.congr (fun j hj => by rfl)), hk⟩
 ·skip
  clear r_b_a r_b_b r_b_4 r_b_p hk
  rintro _ _ w10 ⟨i, rfl, f9, rfl, i1_0, s1_2, s1_3, s1_4, s1_5, s1_6, r_b_a, r_b_b, r_b_4, r_b_p, hk⟩
  refine wp_seq ?_
  refine sr ?_
  refine w_mv (ei s1_6) ?_
  refine w_val (y_bin ei Ev.c b_lss) ?_
  refine nt ?_
  refine c_if (p := ((i : Nat) : Int) < 128) eb (fun hc11 => ?_) (fun hc11 => ?_)
  ·skip
   refine wp_skip ?_
   refine then_n ?_
   refine wp_seq ?_
   refine wp_block ?_
   refine sr ?_
   refine w_as Ev.c ?_
   refine nt ?_
   refine wp_block ?_
   refine c_loop (fun dN aN wl => ∃ (k : Nat), dN = (128 - k) ∧ ∃ f12, aN = fr 86 f12 ∧ (k ≤ 128) ∧ f12 2 = pt b_a 0 ∧ f12 3 = pt b_b 0 ∧ f12 4 = pt b_4 0 ∧ f12 5 = pt b_p 0 ∧ f12 6 = .int .i64 ((i : Nat) : Int) ∧ f12 7 = .int .i64 ((k : Nat) : Int) ∧ Row wl b_a 126 128 (fun j => .bool (a j)) ∧ Row wl b_b 126 128 (fun j => .bool (b j)) ∧ Row wl b_4 126 128 (fun j => .bool false) ∧ Row wl b_p 141 255 (fun j => .bool (Gh.prk a b i k j)) ∧ Below w0.heap.size w0 wl) (128 - 0) ?_ ?_
   · exact ⟨0, rfl, _, rfl, iv, s1_2, s1_3, s1_4, s1_5, s1_6, ti, r_b_a, r_b_b, r_b_4, (r_b_p.congr (fun j hj => by exact congrArg Value.bool (Gh.prk_0 a b i j).symm)), hk⟩
   ·skip
    clear r_b_a r_b_b r_b_4 r_b_p hk
    rintro _ _ w13 ⟨k, rfl, f12, rfl, i2_0, s2_2, s2_3, s2_4, s2_5, s2_6, s2_7, r_b_a, r_b_b, r_b_4, r_b_p, hk⟩
    refine wp_seq ?_
    refine sr ?_
    refine w_mv (ei s2_7) ?_
    refine w_val (y_bin ei Ev.c b_lss) ?_
    refine w_mv eb ?_
    by_cases hc14 : ((k : Nat) : Int) < 128
    ·skip
     refine w_val_g (v := .int .i64 ((i : Nat) : Int)) (wy rfl rfl (eb (dt hc14))) (y_mv (ei s2_6)) ?_
     refine w_val_g (wy rfl rfl (eb (dt hc14))) (y_ia1z (i := i) (ex (pt b_a 0) s2_2) ei Tryd.underlying126 GhRT.sz4 (by omega) (by omega)) ?_
     refine w_val_g (v := .bool (a i)) (wy rfl rfl (eb (dt hc14))) (y_ld (ex (pt b_a i)) GhRT.sc4 (r_b_a.val (by omega) rfl)) ?_
     refine w_val (y_pick_t (eb (dt hc14)) eb) ?_
     refine nt ?_
     refine c_ifb eb (fun hc15 => ?_) (fun hc15 => ?_)
     ·skip
      refine wp_skip ?_
      refine then_n ?_
      refine wp_seq ?_
      refine wp_block ?_
      refine region_t 13 GhRT.mixed (by kernel_rfl) ?_
      simp only [List.take_succ_cons, List.take_zero, List.drop_succ_cons, List.drop_zero]
      refine q_mv (ei s2_6) ?_
      refine q_mv (ei s2_7) ?_
      refine q_val (fun w' hw' => y_bin ei ei (b_add (by omega))) ?_
      refine q_mv (ei s2_6) ?_
      refine q_mv (ei s2_7) ?_
      refine q_val (fun w' hw' => y_bin ei ei (b_add (by omega))) ?_
      refine q_val (fun w' hw' => y_ia1z (i := (i + k)) (ex (pt b_p 0) s2_5) ei Tryd.underlying141 GhRT.sz4 (by omega) (by omega)) ?_
      refine q_val (v := .bool (Gh.prk a b i k (i + k))) (fun w' hw' => y_ld (ex (pt b_p (i + k))) GhRT.sc4 (cls_cell (r_b_p.val (by omega) rfl) r_b_p.lt w' hw')) ?_
      refine q_mv (ei s2_7) ?_
      refine q_val (fun w' hw' => y_ia1z (i := k) (ex (pt b_b 0) s2_3) ei Tryd.underlying126 GhRT.sz4 (by omega) (by omega)) ?_
      refine q_val (v := .bool (b k)) (fun w' hw' => y_ld (ex (pt b_b k)) GhRT.sc4 (cls_cell (r_b_b.val (by omega) rfl) r_b_b.lt w' hw')) ?_
      refine q_val (fun w' hw' => y_bin eb eb (b_neb Tryd.underlying4)) ?_
      refine q_val (fun w' hw' => y_ia1z (i := (i + k)) (ex (pt b_p 0) s2_5) ei Tryd.underlying141 GhRT.sz4 (by omega) (by omega)) ?_
      refine q_nil ?_
      intro w16 hb17
      replace r_b_a := r_b_a.step hb17
      replace r_b_b := r_b_b.step hb17
      replace r_b_4 := r_b_4.step hb17
      replace r_b_p := r_b_p.step hb17
      replace hk := thenB hk hb17
      refine w_st (v := .bool (!((Gh.prk a b i k (i + k)) == (b k)))) (ex (pt b_p (i + k))) eb rfl rfl GhRT.sz4 r_b_p (by omega) ?_
      clear r_b_p; intro w18 r_b_p hg19 _
      replace r_b_a := r_b_a.stepG hg19 (by omega)
      replace r_b_b := r_b_b.stepG hg19 (by omega)
      replace r_b_4 := r_b_4.stepG hg19 (by omega)
      replace hk := thenG hk hg19 (by omega)
      refine wpList_nil ?_
      refine inb_n ?_
      refine then_n ?_
      refine wp_region_lit ?_
      refine w_mv (ei s2_7) ?_
      refine w_val (y_bin ei Ev.c (b_add (by omega))) ?_
      refine w_as ei ?_
      refine wpList_nil ?_
      exact then_n ⟨_, (by omega), k + 1, rfl, _, rfl, iv, s2_2, s2_3, s2_4, s2_5, s2_6, ti, r_b_a, r_b_b, r_b_4, (r_b_p.congr (fun j hj => by exact Gh.prk_row a b i k j (by omega) (by assumption))), hk⟩
     ·skip
      refine wp_exit ?_
      refine then_x ?_
      refine then_x ?_
      refine inb_x ?_
      refine inb_n ?_
      refine then_n ?_
      refine wp_region_lit ?_
      refine w_mv (ei s2_6) ?_
      refine w_val (y_bin ei Ev.c (b_add (by omega))) ?_
      refine w_as ei ?_
      refine wpList_nil ?_
      exact then_n ⟨_, (by omega), i + 1, rfl, _, rfl, iv, s2_2, s2_3, s2_4, s2_5, ti, r_b_a, r_b_b, r_b_4, (r_b_p.congr (fun j hj => by exact congrArg Value.bool (Gh.prk_end a b i k j (by omega) (by first | exact Or.inl (by omega) | exact Or.inr (Bool.eq_false_iff.2 (by assumption)))))), hk⟩
    ·skip
     with_reducible refine w_skip ?_ ?_
     exact wn rfl rfl (eb (df hc14))
     with_reducible refine w_skip ?_ ?_
     exact wn rfl rfl (eb (df hc14))
     with_reducible refine w_skip ?_ ?_
     exact wn rfl rfl (eb (df hc14))
     refine w_val (y_pick_f (eb (df hc14)) Ev.c) ?_
     refine nt ?_
     refine c_ff eb ?_
     refine wp_exit ?_
     refine then_x ?_
     refine then_x ?_
     refine inb_x ?_
     refine inb_n ?_
     refine then_n ?_
     refine wp_region_lit ?_
     refine w_mv (ei s2_6) ?_
     refine w_val (y_bin ei Ev.c (b_add (by omega))) ?_
     refine w_as ei ?_
     refine wpList_nil ?_
     exact then_n ⟨_, (by omega), i + 1, rfl, _, rfl, iv, s2_2, s2_3, s2_4, s2_5, ti, r_b_a, r_b_b, r_b_4, (r_b_p.congr (fun j hj => by exact congrArg Value.bool (Gh.prk_end a b i k j (by omega) (by first | exact Or.inl (by omega) | exact Or.inr (Bool.eq_false_iff.2 (by assumption)))))), hk⟩
  ·skip
   refine wp_exit ?_
   refine then_x ?_
   replace r_b_p := r_b_p.congr (g := fun j => .bool (Gh.prod a b 128 j)) (fun j hj => by obtain rfl : i = 128 := (by omega); rfl)
   refine then_x ?_
   refine inb_x ?_
   refine then_n ?_
   refine wp_seq ?_
   refine sr ?_
   refine w_as Ev.c ?_
   refine nt ?_
   refine wp_block ?_
   refine c_loop (fun dN aN wl => ∃ (n : Nat), dN = (127 - n) ∧ ∃ f20, aN = fr 86 f20 ∧ (n ≤ 127) ∧ f20 4 = pt b_4 0 ∧ f20 5 = pt b_p 0 ∧ f20 8 = .int .i64 (254 - ((n : Nat) : Int)) ∧ Row wl b_a 126 128 (fun j => .bool (a j)) ∧ Row wl b_b 126 128 (fun j => .bool (b j)) ∧ Row wl b_4 126 128 (fun j => .bool false) ∧ Row wl b_p 141 255 (fun j => .bool (Gh.red (Gh.prod a b 128) n j)) ∧ Below w0.heap.size w0 wl) (127 - 0) ?_ ?_
   · exact ⟨0, rfl, _, rfl, iv, s1_4, s1_5, (Eq.trans (b := .int .i64 254) rfl (by rfl)), r_b_a, r_b_b, r_b_4, (r_b_p.congr (fun j hj => by rfl)), hk⟩
   ·skip
    clear r_b_a r_b_b r_b_4 r_b_p hk
    rintro _ _ w21 ⟨n, rfl, f20, rfl, i3_0, s3_4, s3_5, s3_8, r_b_a, r_b_b, r_b_4, r_b_p, hk⟩
    refine wp_seq ?_
    refine sr ?_
    refine w_mv (ei s3_8) ?_
    refine w_val (y_bin ei Ev.c b_geq) ?_
    refine nt ?_
    refine c_if (p := 128 ≤ (254 - ((n : Nat) : Int))) eb (fun hc22 => ?_) (fun hc22 => ?_)
    ·skip
     refine wp_skip ?_
     refine then_n ?_
     refine wp_seq ?_
     refine wp_block ?_
     refine sr ?_
     refine w_mv (ei s3_8) ?_
     refine w_val (y_ia1z (i := (254 - n)) (ex (pt b_p 0) s3_5) ei Tryd.underlying141 GhRT.sz4 (by omega) (by omega)) ?_
     refine w_val (v := .bool (Gh.red (Gh.prod a b 128) n (254 - n))) (y_ld (ex (pt b_p (254 - n))) GhRT.sc4 (r_b_p.val (by omega) rfl)) ?_
     refine nt ?_
     refine c_ifb eb (fun hc23 => ?_) (fun hc23 => ?_)
     ·skip
      refine sr ?_
      refine w_mv (ei s3_8) ?_
      refine w_val (y_bin ei Ev.c (b_sub (by omega))) ?_
      refine w_mv (ei s3_8) ?_
      refine w_val (y_bin ei Ev.c (b_sub (by omega))) ?_
      refine w_val (y_ia1z (i := ((254 - n) - 128)) (ex (pt b_p 0) s3_5) ei Tryd.underlying141 GhRT.sz4 (by omega) (by omega)) ?_
      refine w_val (v := .bool (Gh.red (Gh.prod a b 128) n ((254 - n) - 128))) (y_ld (ex (pt b_p ((254 - n) - 128))) GhRT.sc4 (r_b_p.val (by omega) rfl)) ?_
      refine w_val (y_not eb) ?_
      refine w_val (y_ia1z (i := ((254 - n) - 128)) (ex (pt b_p 0) s3_5) ei Tryd.underlying141 GhRT.sz4 (by omega) (by omega)) ?_
      refine w_st (v := .bool (!(Gh.red (Gh.prod a b 128) n ((254 - n) - 128)))) (ex (pt b_p ((254 - n) - 128))) eb rfl rfl GhRT.sz4 r_b_p (by omega) ?_
      clear r_b_p; intro w24 r_b_p hg25 _
      replace r_b_a := r_b_a.stepG hg25 (by omega)
      replace r_b_b := r_b_b.stepG hg25 (by omega)
      replace r_b_4 := r_b_4.stepG hg25 (by omega)
      replace hk := thenG hk hg25 (by omega)
      refine nt ?_
      refine sr ?_
      refine w_mv (ei s3_8) ?_
      refine w_val (y_bin ei Ev.c (b_sub (by omega))) ?_
      refine w_mv (ei s3_8) ?_
      refine w_val (y_bin ei Ev.c (b_sub (by omega))) ?_
      refine w_val (y_ia1z (i := ((254 - n) - 127)) (ex (pt b_p 0) s3_5) ei Tryd.underlying141 GhRT.sz4 (by omega) (by omega)) ?_
      refine w_val (v := .bool (Gh.red (Gh.prod a b 128) n ((254 - n) - 127))) (y_ld (ex (pt b_p ((254 - n) - 127))) GhRT.sc4 (r_b_p.val (by omega) ((if_neg (by omega)).trans rfl))) ?_
      refine w_val (y_not eb) ?_
      refine w_val (y_ia1z (i := ((254 - n) - 127)) (ex (pt b_p 0) s3_5) ei Tryd.underlying141 GhRT.sz4 (by omega) (by omega)) ?_
      refine w_st (v := .bool (!(Gh.red (Gh.prod a b 128) n ((254 - n) - 127)))) (ex (pt b_p ((254 - n) - 127))) eb rfl rfl GhRT.sz4 r_b_p (by omega) ?_
      clear r_b_p; intro w26 r_b_p hg27 _
      replace r_b_a := r_b_a.stepG hg27 (by omega)
      replace r_b_b := r_b_b.stepG hg27 (by omega)
      replace r_b_4 := r_b_4.stepG hg27 (by omega)
      replace hk := thenG hk hg27 (by omega)
      refine nt ?_
      refine sr ?_
      refine w_mv (ei s3_8) ?_
      refine w_val (y_bin ei Ev.c (b_sub (by omega))) ?_
      refine w_mv (ei s3_8) ?_
      refine w_val (y_bin ei Ev.c (b_sub (by omega))) ?_
      refine w_val (y_ia1z (i := ((254 - n) - 126)) (ex (pt b_p 0) s3_5) ei Tryd.underlying141 GhRT.sz4 (by omega) (by omega)) ?_
      refine w_val (v := .bool (Gh.red (Gh.prod a b 128) n ((254 - n) - 126))) (y_ld (ex (pt b_p ((254 - n) - 126))) GhRT.sc4 (r_b_p.val (by omega) ((if_neg (by omega)).trans ((if_neg (by omega)).trans rfl)))) ?_
      refine w_val (y_not eb) ?_
      refine w_val (y_ia1z (i := ((254 - n) - 126)) (ex (pt b_p 0) s3_5) ei Tryd.underlying141 GhRT.sz4 (by omega) (by omega)) ?_
      refine w_st (v := .bool (!(Gh.red (Gh.prod a b 128) n ((254 - n) - 126)))) (ex (pt b_p ((254 - n) - 126))) eb rfl rfl GhRT.sz4 r_b_p (by omega) ?_
      clear r_b_p; intro w28 r_b_p hg29 _
      replace r_b_a := r_b_a.stepG hg29 (by omega)
      replace r_b_b := r_b_b.stepG hg29 (by omega)
      replace r_b_4 := r_b_4.stepG hg29 (by omega)
      replace hk := thenG hk hg29 (by omega)
      refine nt ?_
      refine wp_region_lit ?_
      refine w_mv (ei s3_8) ?_
      refine w_val (y_bin ei Ev.c (b_sub (by omega))) ?_
      refine w_mv (ei s3_8) ?_
      refine w_val (y_bin ei Ev.c (b_sub (by omega))) ?_
      refine w_val (y_ia1z (i := ((254 - n) - 121)) (ex (pt b_p 0) s3_5) ei Tryd.underlying141 GhRT.sz4 (by omega) (by omega)) ?_
      refine w_val (v := .bool (Gh.red (Gh.prod a b 128) n ((254 - n) - 121))) (y_ld (ex (pt b_p ((254 - n) - 121))) GhRT.sc4 (r_b_p.val (by omega) ((if_neg (by omega)).trans ((if_neg (by omega)).trans ((if_neg (by omega)).trans rfl))))) ?_
      refine w_val (y_not eb) ?_
      refine w_val (y_ia1z (i := ((254 - n) - 121)) (ex (pt b_p 0) s3_5) ei Tryd.underlying141 GhRT.sz4 (by omega) (by omega)) ?_
      refine w_st (v := .bool (!(Gh.red (Gh.prod a b 128) n ((254 - n) - 121)))) (ex (pt b_p ((254 - n) - 121))) eb rfl rfl GhRT.sz4 r_b_p (by omega) ?_
      clear r_b_p; intro w30 r_b_p hg31 _
      replace r_b_a := r_b_a.stepG hg31 (by omega)
      replace r_b_b := r_b_b.stepG hg31 (by omega)
      replace r_b_4 := r_b_4.stepG hg31 (by omega)
      replace hk := thenG hk hg31 (by omega)
      refine wpList_nil ?_
      refine inb_n ?_
      refine then_n ?_
      refine wp_region_lit ?_
      refine w_mv (ei s3_8) ?_
      refine w_val (y_bin ei Ev.c (b_sub (by omega))) ?_
      refine w_as ei ?_
      refine wpList_nil ?_
      exact then_n ⟨_, (by omega), n + 1, rfl, _, rfl, iv, s3_4, s3_5, (Eq.trans (b := .int .i64 ((254 - ((n : Nat) : Int)) - 1)) rfl (by congr 1; omega)), r_b_a, r_b_b, r_b_4, (r_b_p.congr (fun j hj => by first | exact Gh.red_yes _ n j (by omega) (by assumption) | exact Gh.red_no _ n j (by assumption))), hk⟩
     ·skip
      refine wp_skip ?_
      refine inb_n ?_
      refine then_n ?_
      refine wp_region_lit ?_
      refine w_mv (ei s3_8) ?_
      refine w_val (y_bin ei Ev.c (b_sub (by omega))) ?_
      refine w_as ei ?_
      refine wpList_nil ?_
      exact then_n ⟨_, (by omega), n + 1, rfl, _, rfl, iv, s3_4, s3_5, (Eq.trans (b := .int .i64 ((254 - ((n : Nat) : Int)) - 1)) rfl (by congr 1; omega)), r_b_a, r_b_b, r_b_4, (r_b_p.congr (fun j hj => by first | exact Gh.red_yes _ n j (by omega) (by assumption) | exact Gh.red_no _ n j (by assumption))), hk⟩
    ·skip
     refine wp_exit ?_
     refine then_x ?_
     replace r_b_p := r_b_p.congr (g := fun j => .bool (Gh.red (Gh.prod a b 128) 127 j)) (fun j hj => by obtain rfl : n = 127 := (by omega); rfl)
     refine then_x ?_
     refine inb_x ?_
     refine then_n ?_
     refine sr ?_
     refine w_alloc (m := 128) (F := fun j => .bool false) (by kernel_rfl) ?_
     intro b_out w32 hbe_b_out r_b_out hb33
     have ne_b_a_b_out := r_b_a.nb hbe_b_out
     have ne_b_b_b_out := r_b_b.nb hbe_b_out
     have ne_b_4_b_out := r_b_4.nb hbe_b_out
     have ne_b_p_b_out := r_b_p.nb hbe_b_out
     have ge_b_out := gb_ hk.size hbe_b_out
     clear hbe_b_out
     replace r_b_a := r_b_a.step hb33
     replace r_b_b := r_b_b.step hb33
     replace r_b_4 := r_b_4.step hb33
     replace r_b_p := r_b_p.step hb33
     replace hk := thenB hk hb33
     refine nt ?_
     refine wp_seq ?_
     refine sr ?_
     refine w_as Ev.c ?_
     refine nt ?_
     refine wp_block ?_
     refine c_loop (fun dN aN wl => ∃ (m : Nat), dN = (128 - m) ∧ ∃ f34, aN = fr 86 f34 ∧ (m ≤ 128) ∧ f34 4 = pt b_4 0 ∧ f34 5 = pt b_p 0 ∧ f34 9 = pt b_out 0 ∧ f34 10 = .int .i64 ((m : Nat) : Int) ∧ Row wl b_a 126 128 (fun j => .bool (a j)) ∧ Row wl b_b 126 128 (fun j => .bool (b j)) ∧ Row wl b_4 126 128 (fun j => .bool false) ∧ Row wl b_p 141 255 (fun j => .bool (Gh.red (Gh.prod a b 128) 127 j)) ∧ Row wl b_out 126 128 (fun j => if j < m then (fun j => .bool (Gh.red (Gh.prod a b 128) 127 j)) j else (fun j => .bool false) j) ∧ Below w0.heap.size w0 wl) (128 - 0) ?_ ?_
     · exact ⟨0, rfl, _, rfl, iv, s3_4, s3_5, rfl, ti, r_b_a, r_b_b, r_b_4, r_b_p, (r_b_out.cg), hk⟩
     ·skip
      clear r_b_a r_b_b r_b_4 r_b_p r_b_out hk
      rintro _ _ w35 ⟨m, rfl, f34, rfl, i4_0, s4_4, s4_5, s4_9, s4_10, r_b_a, r_b_b, r_b_4, r_b_p, r_b_out, hk⟩
      refine wp_seq ?_
      refine sr ?_
      refine w_mv (ei s4_10) ?_
      refine w_val (y_bin ei Ev.c b_lss) ?_
      refine nt ?_
      refine c_if (p := ((m : Nat) : Int) < 128) eb (fun hc36 => ?_) (fun hc36 => ?_)
      ·skip
       refine wp_skip ?_
       refine then_n ?_
       refine wp_seq ?_
       refine wp_block ?_
       refine wp_region_lit ?_
       refine w_mv (ei s4_10) ?_
       refine w_mv (ei s4_10) ?_
       refine w_val (y_ia1z (i := m) (ex (pt b_p 0) s4_5) ei Tryd.underlying141 GhRT.sz4 (by omega) (by omega)) ?_
       refine w_val (v := .bool (Gh.red (Gh.prod a b 128) 127 m)) (y_ld (ex (pt b_p m)) GhRT.sc4 (r_b_p.val (by omega) rfl)) ?_
       refine w_val (y_ia1z (i := m) (ex (pt b_out 0) s4_9) ei Tryd.underlying126 GhRT.sz4 (by omega) (by omega)) ?_
       refine w_st (v := .bool (Gh.red (Gh.prod a b 128) 127 m)) (ex (pt b_out m)) eb rfl rfl GhRT.sz4 r_b_out (by omega) ?_
       clear r_b_out; intro w37 r_b_out hg38 _
       replace r_b_a := r_b_a.stepG hg38 (by omega)
       replace r_b_b := r_b_b.stepG hg38 (by omega)
       replace r_b_4 := r_b_4.stepG hg38 (by omega)
       replace r_b_p := r_b_p.stepG hg38 (by omega)
       replace hk := thenG hk hg38 (by omega)
       refine wpList_nil ?_
       refine inb_n ?_
       refine then_n ?_
       refine wp_region_lit ?_
       refine w_mv (ei s4_10) ?_
       refine w_val (y_bin ei Ev.c (b_add (by omega))) ?_
       refine w_as ei ?_
       refine wpList_nil ?_
       exact then_n ⟨_, (by omega), m + 1, rfl, _, rfl, iv, s4_4, s4_5, s4_9, ti, r_b_a, r_b_b, r_b_4, r_b_p, (r_b_out.cg), hk⟩
      ·skip
       refine wp_exit ?_
       refine then_x ?_
       replace r_b_out := r_b_out.congr (g := fun j => .bool (Gh.red (Gh.prod a b 128) 127 j)) (fun j hj => by dsimp only; rw [if_pos (by omega)])
       refine then_x ?_
       refine inb_x ?_
       refine then_n ?_
       refine sr ?_
       refine w_val (v := .agg (arr 128 (fun j => .bool (Gh.red (Gh.prod a b 128) 127 j)))) (y_lda (ex (pt b_out 0) s4_9) GhRT.ag126 GhRT.sz126 (fun j hj => by rw [Nat.zero_add]; exact (r_b_out.cell (by omega)))) ?_
       refine w_sta (k := 128) (G := fun j => .bool (Gh.red (Gh.prod a b 128) 127 j)) (ex (pt b_4 0) s4_4) ea oc GhRT.sz126 r_b_4 (by omega) ?_
       clear r_b_4; intro w39 r_b_4 hg40 _
       replace r_b_4 := r_b_4.congr (g := fun j => .bool (Gh.red (Gh.prod a b 128) 127 j)) (fun j hj => by rw [if_pos ⟨Nat.zero_le _, by omega⟩]; first | rfl | (simp only [Nat.sub_zero]))
       replace r_b_a := r_b_a.stepG hg40 (by omega)
       replace r_b_b := r_b_b.stepG hg40 (by omega)
       replace r_b_p := r_b_p.stepG hg40 (by omega)
       replace r_b_out := r_b_out.stepG hg40 (by omega)
       replace hk := thenG hk hg40 (by omega)
       refine nt ?_
       refine wp_ret ?_
       refine fin_arr (F := fun j => .bool (Gh.red (Gh.prod a b 128) 127 j)) rfl (ex (pt b_4 0) s4_4) GhRT.ag126 GhRT.sz126 r_b_4 (by omega) ?_
       exact ⟨rfl, hk⟩

theorem ghRefMul (a b : List (BitVec 8)) (ha : a.length = 16) (hb : b.length = 16) (w0 : World) : Calls Tryd.prog 44 #[.string (str a), .string (str b)] w0 fun e w' => e = .returned (.tuple #[.string (str (Gh.tx (Gh.red (Gh.prod (Gh.bits a) (Gh.bits b) 128) 127))), .int .i64 0]) ∧ Below w0.heap.size w0 w' := by
 refine enter (n := 20) Tryd.func44 rfl rfl rfl ?_
 have hk : Below w0.heap.size w0 w0 := Below.refl _ _
 refine sr ?_
 refine w_as (evc (.string (str ([] : List (BitVec 8))))) ?_
 refine w_as Ev.c ?_
 refine nt ?_
 refine wp_seq ?_
 refine sr ?_
 refine w_mv es ?_
 refine w_val (y_len es Tryd.underlying9) ?_
 refine w_val (y_bin ei Ev.c b_neq) ?_
 refine w_mv eb ?_
 have hc1 : ¬ (((a.length : Nat) : Int) ≠ 16) := by omega
 refine w_val_g (v := .string (str b)) (wy rfl rfl (eb (df hc1))) (y_mv es) ?_
 refine w_val_g (wy rfl rfl (eb (df hc1))) (y_len es Tryd.underlying9) ?_
 refine w_val_g (wy rfl rfl (eb (df hc1))) (y_bin ei Ev.c b_neq) ?_
 refine w_val (y_pick_f (eb (df hc1)) eb) ?_
 refine nt ?_
 have hc2 : ¬ (((b.length : Nat) : Int) ≠ 16) := by omega
 refine c_f (p := ((b.length : Nat) : Int) ≠ 16) eb hc2 ?_
 refine wp_skip ?_
 refine then_n ?_
 refine sr ?_
 refine w_mv es ?_
 refine w_call (Tryd.func71) (by kernel_rfl) rfl (m1 es) (ghRefOf a (by assumption) w0) ?_
 rintro _ w3 ⟨rfl, hb4⟩
 refine ⟨_, rfl, ?_⟩
 replace hk := thenB hk hb4
 refine w_mv es ?_
 refine w_call (Tryd.func71) (by kernel_rfl) rfl (m1 es) (ghRefOf b (by assumption) w3) ?_
 rintro _ w5 ⟨rfl, hb6⟩
 refine ⟨_, rfl, ?_⟩
 replace hk := thenB hk hb6
 refine w_call (Tryd.func70) (by kernel_rfl) rfl (m2 ea ea) (ghRefTimes (Gh.bits a) (Gh.bits b) w5) ?_
 rintro _ w7 ⟨rfl, hb8⟩
 refine ⟨_, rfl, ?_⟩
 replace hk := thenB hk hb8
 refine w_call (Tryd.func72) (by kernel_rfl) rfl (m1 ea) (ghRefText (Gh.red (Gh.prod (Gh.bits a) (Gh.bits b) 128) 127) w7) ?_
 rintro _ w9 ⟨rfl, hb10⟩
 refine ⟨_, rfl, ?_⟩
 replace hk := thenB hk hb10
 refine w_as es ?_
 refine w_as Ev.c ?_
 refine nt ?_
 refine wp_ret ?_
 refine fin_ret2 rfl es ei ?_
 exact ⟨rfl, hk⟩

theorem ghRefSum (key s : List (BitVec 8)) (hk16 : key.length = 16) (h16 : s.length % 16 = 0) (hl : s.length ≤ 210000) (w0 : World) : Calls Tryd.prog 23 #[.string (str key), .string (str s)] w0 fun e w' => e = .returned (.tuple #[.string (str (Gh.sum Gh.fo key s)), .int .i64 0]) ∧ Below w0.heap.size w0 w' := by
 refine enter (n := 41) Tryd.func23 rfl rfl rfl ?_
 have hk : Below w0.heap.size w0 w0 := Below.refl _ _
 refine sr ?_
 refine w_as (evc (.string (str ([] : List (BitVec 8))))) ?_
 refine w_as Ev.c ?_
 refine nt ?_
 refine wp_seq ?_
 refine sr ?_
 refine w_mv es ?_
 refine w_val (y_len es Tryd.underlying9) ?_
 refine w_val (y_bin ei Ev.c b_neq) ?_
 refine nt ?_
 have hc1 : ¬ (((key.length : Nat) : Int) ≠ 16) := by omega
 refine c_f (p := ((key.length : Nat) : Int) ≠ 16) eb hc1 ?_
 refine wp_skip ?_
 refine then_n ?_
 refine wp_seq ?_
 refine sr ?_
 refine w_mv es ?_
 refine w_val (y_len es Tryd.underlying9) ?_
 refine w_val (y_bin ei Ev.c (b_rem (by omega))) ?_
 refine w_val (y_bin ei Ev.c b_neq) ?_
 refine w_mv eb ?_
 have hc2 : ¬ ((((s.length : Nat) : Int) % 16) ≠ 0) := by omega
 refine w_val_g (v := .string (str s)) (wy rfl rfl (eb (df hc2))) (y_mv es) ?_
 refine w_val_g (wy rfl rfl (eb (df hc2))) (y_len es Tryd.underlying9) ?_
 refine w_val_g (wy rfl rfl (eb (df hc2))) (y_bin ei Ev.c b_gtr) ?_
 refine w_val (y_pick_f (eb (df hc2)) eb) ?_
 refine nt ?_
 have hc3 : ¬ (210000 < ((s.length : Nat) : Int)) := by omega
 refine c_f (p := 210000 < ((s.length : Nat) : Int)) eb hc3 ?_
 refine wp_skip ?_
 refine then_n ?_
 refine sr ?_
 refine w_mks (m := 16) (bytes := 1) (zv := U8 (0#8)) Ev.c Ev.c (by omega) (by omega) Tryd.underlying50 (by kernel_rfl) rfl (by omega) (by omega) ?_
 intro b_20 w4 hbe_b_20 r_b_20 hb5
 have ge_b_20 := gb_ hk.size hbe_b_20
 clear hbe_b_20
 replace hk := thenB hk hb5
 refine w_val (y_str (l := Gh.st (Gh.gw Gh.fo key s 0)) el (by rw [Gh.st_len]) Tryd.underlying50 Tryd.underlying5 Tryd.underlying9 (fun j hj => (r_b_20.val (by omega) (by exact congrArg U8 (Gh.st_z2 j).symm)))) ?_
 refine w_as es ?_
 refine nt ?_
 refine wp_seq ?_
 refine sr ?_
 refine w_as Ev.c ?_
 refine nt ?_
 refine wp_block ?_
 refine c_loop (fun dN aN wl => ∃ (t : Nat), dN = (s.length - 16 * t) ∧ ∃ f6, aN = fr 41 f6 ∧ (16 * t ≤ s.length) ∧ f6 0 = .string (str key) ∧ f6 1 = .string (str s) ∧ f6 4 = .string (str ([] : List (BitVec 8))) ∧ f6 5 = .int .i64 0 ∧ f6 6 = .string (str (Gh.st (Gh.gw Gh.fo key s t))) ∧ f6 7 = .int .i64 (((16 * t) : Nat) : Int) ∧ Row wl b_20 5 16 (fun j => U8 (0#8)) ∧ Below w0.heap.size w0 wl) (s.length - 16 * 0) ?_ ?_
 · exact ⟨0, rfl, _, rfl, iv, rfl, rfl, rfl, rfl, rfl, ti, r_b_20, hk⟩
 ·skip
  clear r_b_20 hk
  rintro _ _ w7 ⟨t, rfl, f6, rfl, i1_0, s1_0, s1_1, s1_4, s1_5, s1_6, s1_7, r_b_20, hk⟩
  refine wp_seq ?_
  refine sr ?_
  refine w_mv (ei s1_7) ?_
  refine w_mv (es s1_1) ?_
  refine w_val (y_len es Tryd.underlying9) ?_
  refine w_val (y_bin ei ei b_lss) ?_
  refine nt ?_
  refine c_if (p := (((16 * t) : Nat) : Int) < ((s.length : Nat) : Int)) eb (fun hc8 => ?_) (fun hc8 => ?_)
  ·skip
   refine wp_skip ?_
   refine then_n ?_
   refine wp_seq ?_
   refine wp_block ?_
   refine wp_region_lit ?_
   refine w_mv (es s1_6) ?_
   refine w_mv (es s1_1) ?_
   refine w_mv (ei s1_7) ?_
   refine w_mv (ei s1_7) ?_
   refine w_val (y_bin ei Ev.c (b_add (by omega))) ?_
   refine w_val (v := .string (str ((s.drop (16 * t)).take (((16 * t) + 16) - (16 * t))))) (y_sls (ex (.string (str s))) (evo.s ei) (evo.s ei) Tryd.underlying9 (bnd_lh (l := (16 * t)) (h := ((16 * t) + 16)) (by omega) (by omega) (by omega) (by omega))) ?_
   refine w_call (Tryd.func28) (by kernel_rfl) rfl (m2 es es) (refXor_c (Gh.st (Gh.gw Gh.fo key s t)) ((s.drop (16 * t)).take (((16 * t) + 16) - (16 * t))) (by rw [Gh.st_len]; decide) w7) ?_
   rintro _ w9 ⟨rfl, hb10⟩
   refine ⟨_, rfl, ?_⟩
   replace r_b_20 := r_b_20.step hb10
   replace hk := thenB hk hb10
   refine w_mv (es s1_0) ?_
   refine w_call (Tryd.func44) (by kernel_rfl) rfl (m2 es es) (ghRefMul (Oct.xor (Gh.st (Gh.gw Gh.fo key s t)) ((s.drop (16 * t)).take (((16 * t) + 16) - (16 * t)))) key (by simp only [Oct.length_xor, Gh.st_len, List.length_take, List.length_drop]; omega) hk16 w9) ?_
   rintro _ w11 ⟨rfl, hb12⟩
   refine ⟨_, rfl, ?_⟩
   replace r_b_20 := r_b_20.step hb12
   replace hk := thenB hk hb12
   refine w_mv (ex (.tuple #[.string (str (Gh.tx (Gh.red (Gh.prod (Gh.bits (Oct.xor (Gh.st (Gh.gw Gh.fo key s t)) ((s.drop (16 * t)).take (((16 * t) + 16) - (16 * t))))) (Gh.bits key) 128) 127))), .int .i64 0])) ?_
   refine w_val ye ?_
   refine w_val ye ?_
   refine w_as es ?_
   refine wpList_nil ?_
   refine inb_n ?_
   refine then_n ?_
   refine wp_region_lit ?_
   refine w_mv (ei s1_7) ?_
   refine w_val (y_bin ei Ev.c (b_add (by omega))) ?_
   refine w_as ei ?_
   refine wpList_nil ?_
   exact then_n ⟨_, (by omega), t + 1, rfl, _, rfl, iv, s1_0, s1_1, s1_4, s1_5, (Eq.trans (b := .string (str (Gh.tx (Gh.red (Gh.prod (Gh.bits (Oct.xor (Gh.st (Gh.gw Gh.fo key s t)) ((s.drop (16 * t)).take (((16 * t) + 16) - (16 * t))))) (Gh.bits key) 128) 127)))) rfl (by rw [Cb.bk_at s t _ (by omega)]; exact congrArg (fun l => Value.string (str l)) (Gh.ref_round key s t (by omega)))), ti, r_b_20, hk⟩
  ·skip
   refine wp_exit ?_
   refine then_x ?_
   refine then_x ?_
   refine inb_x ?_
   refine then_n ?_
   refine sr ?_
   refine w_mv (es s1_6) ?_
   refine w_as es ?_
   refine w_as Ev.c ?_
   refine nt ?_
   refine wp_ret ?_
   refine fin_ret2 rfl es ei ?_
   refine ⟨congrArg Ending.returned ?_, hk⟩
   show (.tuple #[.string (str (Gh.st (Gh.gw Gh.fo key s t))), .int .i64 0] : Value) = .tuple #[.string (str (Gh.sum Gh.fo key s)), .int .i64 0]
   obtain rfl : t = s.length / 16 := by omega
   rfl
end Go.Proofs.YtkjdejadambffaaDoor
