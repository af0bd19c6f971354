/-
  The reference's columns, and its cipher. Conditions as each says.
-/
import Derived.Test.YtepogbfkmflooaaGreatDoorRows
import Derived.Test.YtepogbfkmflooaaGreatDoorGenOwn
import Derived.Test.YtepogbfkmflooaaGreatDoorOct
import Derived.Test.YtepogbfkmflooaaGreatDoorAesBackPlain
import Derived.Test.YtepogbfkmflooaaGreatDoorGenSh
import Derived.ProofKit
namespace Go.Proofs.YtepogbfkmflooaaGreatDoor
open Go.RowKit
set_option linter.unusedSimpArgs false
set_option linter.unusedVariables false
set_option maxRecDepth 100000
set_option maxHeartbeats 1000000
namespace AesRefAT
theorem mixed : Tryz.prog.follows .mixedOrders = true := by kernel_rfl
theorem ag78 : (Tryz.prog.underlying 78).map isAggD = some true := by rw [Tryz.underlying78]; rfl
theorem fa74_0 (g off : Nat) : ∀ w, (Instr.fieldAt 74 (.pointer (some ⟨g, off, none⟩)) 0).run Tryz.prog w = .ok (.pointer (some ⟨g, off + 0, none⟩)) w := fun w => by kernel_rfl
theorem fa74_1 (g off : Nat) : ∀ w, (Instr.fieldAt 74 (.pointer (some ⟨g, off, none⟩)) 1).run Tryz.prog w = .ok (.pointer (some ⟨g, off + 256, none⟩)) w := fun w => by kernel_rfl
theorem fa74_2 (g off : Nat) : ∀ w, (Instr.fieldAt 74 (.pointer (some ⟨g, off, none⟩)) 2).run Tryz.prog w = .ok (.pointer (some ⟨g, off + 512, none⟩)) w := fun w => by kernel_rfl
theorem sc5 : (Tryz.prog.underlying 5).map scal = some true := by rw [Tryz.underlying5]; rfl
theorem sc72 : (Tryz.prog.underlying 72).map scal = some true := by rw [Tryz.underlying72]; rfl
theorem sz5 : (Tryz.prog.info? 5).map (·.size) = some 1 := by kernel_rfl
theorem sz77 : (Tryz.prog.info? 77).map (·.size) = some 4 := by kernel_rfl
theorem sz78 : (Tryz.prog.info? 78).map (·.size) = some 16 := by kernel_rfl
end AesRefAT
def Aes.colAcc (x : Nat → BitVec 8) (c : Nat) (f : Nat → BitVec 8) (r : Nat) : Nat → BitVec 8
  | 0 => 0#8
  | k + 1 => Aes.colAcc x c f r k ^^^ Aes.mul (f ((k + 4 - r) % 4)) (x (4 * c + k))
def Aes.column (x : Nat → BitVec 8) (c : Nat) (f : Nat → BitVec 8) (j : Nat) : BitVec 8 :=
  if 4 * c ≤ j ∧ j < 4 * c + 4 then Aes.colAcc x c f (j - 4 * c) 4 else x j
def Aes.fm (j : Nat) : BitVec 8 := if j < 1 then 2#8 else if j < 2 then 3#8 else if j < 3 then 1#8 else 1#8
def Aes.fu (j : Nat) : BitVec 8 := if j < 1 then 14#8 else if j < 2 then 11#8 else if j < 3 then 13#8 else 9#8
def Aes.rAdd (W : List (BitVec 32)) (x : Nat → BitVec 8) (r j : Nat) : BitVec 8 := x j ^^^ Aes.byteOf (Aes.gw W (4 * r + j / 4)) (j % 4)
def Aes.rSub (x : Nat → BitVec 8) (j : Nat) : BitVec 8 := Aes.sb (x (4 * ((j / 4 + j % 4) % 4) + j % 4)).toNat
def Aes.rCols (f : Nat → BitVec 8) (y : Nat → BitVec 8) : Nat → Nat → BitVec 8
  | 0 => y
  | c + 1 => Aes.column (Aes.rCols f y c) c f
def Aes.rEnc (W : List (BitVec 32)) (R : Nat) (s : List (BitVec 8)) : Nat → Nat → BitVec 8
  | 0 => Aes.rAdd W (gb s) 0
  | r + 1 => Aes.rAdd W (if r + 1 < R then Aes.rCols Aes.fm (Aes.rSub (Aes.rEnc W R s r)) 4 else Aes.rSub (Aes.rEnc W R s r)) (r + 1)
/-- the way back: q rounds done of R -/
def Aes.rUn (x : Nat → BitVec 8) (j : Nat) : BitVec 8 := Aes.bk (x (4 * ((j / 4 + 4 - j % 4) % 4) + j % 4)).toNat
def Aes.rDec (W : List (BitVec 32)) (R : Nat) (s : List (BitVec 8)) : Nat → Nat → BitVec 8
  | 0 => gb s
  | q + 1 => Aes.rUn (if q = 0 then Aes.rAdd W (Aes.rDec W R s q) (R - q) else Aes.rCols Aes.fu (Aes.rAdd W (Aes.rDec W R s q) (R - q)) 4)
theorem Aes.un_row (X : Nat → BitVec 8) (k j : Nat) (hk : k < 16) (hj : j < 16) :
    (if j = 4 * ((k / 4 + k % 4) % 4) + k % 4 then U8 (Aes.bk (X k).toNat) else if 4 * ((j / 4 + 4 - j % 4) % 4) + j % 4 < k then U8 (Aes.rUn X j) else U8 0#8) =
      if 4 * ((j / 4 + 4 - j % 4) % 4) + j % 4 < k + 1 then U8 (Aes.rUn X j) else U8 0#8 := by
  unfold Aes.rUn
  by_cases e : j = 4 * ((k / 4 + k % 4) % 4) + k % 4
  · rw [if_pos e, if_pos om, show 4 * ((j / 4 + 4 - j % 4) % 4) + j % 4 = k from by omega]
  · rw [if_neg e]
    by_cases e2 : 4 * ((j / 4 + 4 - j % 4) % 4) + j % 4 < k
    · rw [if_pos e2, if_pos om]
    · rw [if_neg e2, if_neg om]
theorem Aes.rDec_step (W : List (BitVec 32)) (R : Nat) (s : List (BitVec 8)) (q c : Nat) (h4 : c ≤ 4) (h : 0 < q ∨ c = 0) (h2 : c < 4 → ¬ 0 < q) :
    Aes.rUn (fun j => Aes.rCols Aes.fu (Aes.rAdd W (Aes.rDec W R s q) (R - q)) c j) = Aes.rDec W R s (q + 1) := by
  show _ = Aes.rUn (if q = 0 then Aes.rAdd W (Aes.rDec W R s q) (R - q) else Aes.rCols Aes.fu (Aes.rAdd W (Aes.rDec W R s q) (R - q)) 4)
  by_cases hq : q = 0
  · obtain rfl : c = 0 := by omega
    rw [if_pos hq]
    rfl
  · obtain rfl : c = 4 := by have := fun h => h2 h om; omega
    rw [if_neg hq]

theorem refColumn_c (x : Nat → BitVec 8) (c : Nat) (fc : Nat → BitVec 8) (hc : c < 4) (w0 : World) : Calls Tryz.prog 51 #[.agg (arr 16 (fun j => U8 (x j))), .int .i64 ((c : Nat) : Int), .agg (arr 4 (fun j => U8 (fc j)))] w0 fun e w' => e = .returned (.agg (arr 16 (fun j => U8 (Aes.column x c fc j)))) ∧ Below w0.heap.size w0 w' := by
 refine enter (n := 52) Tryz.func51 rfl rfl rfl ?_
 have hk : Below w0.heap.size w0 w0 := Below.refl _ _
 refine sr (w_box (m := 16) (F := fun j => U8 (x j)) ea rfl ?_)
 intro b_x w1 hbe_b_x r_b_x hb2
 have ge_b_x := gb_ hk.size hbe_b_x
 clear hbe_b_x
 replace hk := thenB hk hb2
 refine w_box (m := 4) (F := fun j => U8 (fc j)) ea rfl ?_
 intro b_f w3 hbe_b_f r_b_f hb4
 have ne_b_x_b_f := r_b_x.nb hbe_b_f
 have ge_b_f := gb_ hk.size hbe_b_f
 clear hbe_b_f
 replace r_b_x := r_b_x.step hb4
 replace hk := thenB hk hb4
 refine w_alloc (m := 16) (F := fun j => U8 (0#8)) kr ?_
 intro b_6 w5 hbe_b_6 r_b_6 hb6
 have ne_b_x_b_6 := r_b_x.nb hbe_b_6
 have ne_b_f_b_6 := r_b_f.nb hbe_b_6
 have ge_b_6 := gb_ hk.size hbe_b_6
 clear hbe_b_6
 replace r_b_x := r_b_x.step hb6
 replace r_b_f := r_b_f.step hb6
 replace hk := thenB hk hb6
 refine nt (sr (w_alloc (m := 4) (F := fun j => U8 (0#8)) kr ?_))
 intro b_y w7 hbe_b_y r_b_y hb8
 have ne_b_x_b_y := r_b_x.nb hbe_b_y
 have ne_b_f_b_y := r_b_f.nb hbe_b_y
 have ne_b_6_b_y := r_b_6.nb hbe_b_y
 have ge_b_y := gb_ hk.size hbe_b_y
 clear hbe_b_y
 replace r_b_x := r_b_x.step hb8
 replace r_b_f := r_b_f.step hb8
 replace r_b_6 := r_b_6.step hb8
 replace hk := thenB hk hb8
 refine nt (wp_seq (sr (w_as Ev.c (nt (wp_block ?_)))))
 refine c_loop (fun dN aN wl => ∃ (r : Nat), dN = (4 - r) ∧ ∃ f9, aN = fr 52 f9 ∧ (r ≤ 4) ∧ f9 1 = .int .i64 ((c : Nat) : Int) ∧ f9 3 = pt b_x 0 ∧ f9 5 = pt b_f 0 ∧ f9 6 = pt b_6 0 ∧ f9 7 = pt b_y 0 ∧ f9 8 = .int .i64 ((r : Nat) : Int) ∧ Row wl b_x 78 16 (fun j => U8 (x j)) ∧ Row wl b_f 77 4 (fun j => U8 (fc j)) ∧ Row wl b_6 78 16 (fun j => U8 (0#8)) ∧ Row wl b_y 77 4 (fun j => if j < r then (fun j => U8 (Aes.colAcc x c fc j 4)) j else (fun j => U8 (0#8)) j) ∧ Below w0.heap.size w0 wl) (4 - 0) ?_ ?_
 · exact ⟨0, rfl, _, rfl, iv, rfl, rfl, rfl, rfl, rfl, ti, r_b_x, r_b_f, r_b_6, (r_b_y.cg), hk⟩
 ·skip
  clear r_b_x r_b_f r_b_6 r_b_y hk
  rintro _ _ w10 ⟨r, rfl, f9, rfl, i1_0, s1_1, s1_3, s1_5, s1_6, s1_7, s1_8, r_b_x, r_b_f, r_b_6, r_b_y, hk⟩
  have hr4 := i1_0
  refine wp_seq (sr (w_mv (ei s1_8) (w_val (y_bin ei Ev.c b_lss) (nt ?_))))
  refine c_if (p := ((r : Nat) : Int) < 4) eb (fun hc11 => ?_) (fun hc11 => ?_)
  ·skip
   refine wp_skip (then_n (wp_seq (wp_block (sr (w_as Ev.c (nt (wp_block ?_)))))))
   refine c_loop (fun dN aN wl => ∃ (k : Nat), dN = (4 - k) ∧ ∃ f12, aN = fr 52 f12 ∧ (k ≤ 4) ∧ f12 1 = .int .i64 ((c : Nat) : Int) ∧ f12 3 = pt b_x 0 ∧ f12 5 = pt b_f 0 ∧ f12 6 = pt b_6 0 ∧ f12 7 = pt b_y 0 ∧ f12 8 = .int .i64 ((r : Nat) : Int) ∧ f12 9 = .int .i64 ((k : Nat) : Int) ∧ Row wl b_x 78 16 (fun j => U8 (x j)) ∧ Row wl b_f 77 4 (fun j => U8 (fc j)) ∧ Row wl b_6 78 16 (fun j => U8 (0#8)) ∧ Row wl b_y 77 4 (fun j => if j = r then U8 (Aes.colAcc x c fc r k) else (fun j => if j < r then (fun j => U8 (Aes.colAcc x c fc j 4)) j else (fun j => U8 (0#8)) j) j) ∧ Below w0.heap.size w0 wl) (4 - 0) ?_ ?_
   · exact ⟨0, rfl, _, rfl, iv, s1_1, s1_3, s1_5, s1_6, s1_7, s1_8, ti, r_b_x, r_b_f, r_b_6, (r_b_y.cg), hk⟩
   ·skip
    clear r_b_x r_b_f r_b_6 r_b_y hk
    rintro _ _ w13 ⟨k, rfl, f12, rfl, i2_0, s2_1, s2_3, s2_5, s2_6, s2_7, s2_8, s2_9, r_b_x, r_b_f, r_b_6, r_b_y, hk⟩
    refine wp_seq (sr (w_mv (ei s2_9) (w_val (y_bin ei Ev.c b_lss) (nt ?_))))
    refine c_if (p := ((k : Nat) : Int) < 4) eb (fun hc14 => ?_) (fun hc14 => ?_)
    ·skip
     refine wp_skip (then_n (wp_seq (wp_block (region_t 20 AesRefAT.mixed kr ?_))))
     simp only [List.take_succ_cons, List.take_zero, List.drop_succ_cons, List.drop_zero]
     refine q_mv (ei s2_8) (q_mv (ei s2_8) (q_val (fun w' hw' => y_ia1z (i := r) (ex (pt b_y 0) s2_7) ei Tryz.underlying77 AesRefAT.sz5 om om) (q_val (v := U8 (Aes.colAcc x c fc r k)) (fun w' hw' => y_ld (ex (pt b_y r)) AesRefAT.sc5 (cls_cell (r_b_y.val om (if_pos rfl)) r_b_y.lt w' hw')) (q_mv (ei s2_9) (q_mv (ei s2_8) (q_val (fun w' hw' => y_bin ei ei (b_sub om)) (q_val (fun w' hw' => y_bin ei Ev.c (b_add om)) (q_val (fun w' hw' => y_bin ei Ev.c (b_rem om)) (q_val (fun w' hw' => y_ia1z (i := ((k + 4 - r) % 4)) (ex (pt b_f 0) s2_5) ei Tryz.underlying77 AesRefAT.sz5 om om) (q_val (v := U8 (fc ((k + 4 - r) % 4))) (fun w' hw' => y_ld (ex (pt b_f ((k + 4 - r) % 4))) AesRefAT.sc5 (cls_cell (r_b_f.val om rfl) r_b_f.lt w' hw')) (q_mv (ei s2_1) (q_val (fun w' hw' => y_bin Ev.c ei (b_mul om)) (q_mv (ei s2_9) (q_val (fun w' hw' => y_bin ei ei (b_add om)) (q_val (fun w' hw' => y_ia1z (i := ((4 * c) + k)) (ex (pt b_x 0) s2_3) ei Tryz.underlying78 AesRefAT.sz5 om om) (q_val (v := U8 (x ((4 * c) + k))) (fun w' hw' => y_ld (ex (pt b_x ((4 * c) + k))) AesRefAT.sc5 (cls_cell (r_b_x.val om rfl) r_b_x.lt w' hw')) (q_call (v := U8 (Aes.mul (fc ((k + 4 - r) % 4)) (x ((4 * c) + k)))) (Tryz.func49) kr rfl (m2 e8 e8) (fun w' hw' => (refMul_c (fc ((k + 4 - r) % 4)) (x ((4 * c) + k)) w').mono fun e w'' he => by obtain ⟨rfl, rfl⟩ := he; exact ⟨rfl, Below.refl _ _⟩) (q_val (fun w' hw' => y_bin e8 e8 xor8) (q_val (fun w' hw' => y_ia1z (i := r) (ex (pt b_y 0) s2_7) ei Tryz.underlying77 AesRefAT.sz5 om om) (q_nil ?_))))))))))))))))))))
     intro w15 hb16
     replace r_b_x := r_b_x.step hb16
     replace r_b_f := r_b_f.step hb16
     replace r_b_6 := r_b_6.step hb16
     replace r_b_y := r_b_y.step hb16
     replace hk := thenB hk hb16
     refine w_st (v := U8 ((Aes.colAcc x c fc r k) ^^^ (Aes.mul (fc ((k + 4 - r) % 4)) (x ((4 * c) + k))))) (ex (pt b_y r)) e8 rfl rfl AesRefAT.sz5 r_b_y om ?_
     clear r_b_y; intro w17 r_b_y hg18 _
     replace r_b_x := r_b_x.stepG hg18 om
     replace r_b_f := r_b_f.stepG hg18 om
     replace r_b_6 := r_b_6.stepG hg18 om
     replace hk := thenG hk hg18 om
     refine wpList_nil (inb_n (then_n (wp_region_lit (w_mv (ei s2_9) (w_val (y_bin ei Ev.c (b_add om)) (w_as ei (wpList_nil ?_)))))))
     exact then_n ⟨_, om, k + 1, rfl, _, rfl, iv, s2_1, s2_3, s2_5, s2_6, s2_7, s2_8, ti, r_b_x, r_b_f, r_b_6, (r_b_y.cg), hk⟩
    ·skip
     refine wp_exit (then_x (then_x (inb_x (inb_n (then_n (wp_region_lit (w_mv (ei s2_8) (w_val (y_bin ei Ev.c (b_add om)) (w_as ei (wpList_nil ?_))))))))))
     exact then_n ⟨_, om, r + 1, rfl, _, rfl, iv, s2_1, s2_3, s2_5, s2_6, s2_7, ti, r_b_x, r_b_f, r_b_6, (r_b_y.cg), hk⟩
  ·skip
   refine wp_exit (then_x (then_x (inb_x (then_n (wp_seq (sr (w_as Ev.c (nt (wp_block ?_)))))))))
   refine c_loop (fun dN aN wl => ∃ (q : Nat), dN = (4 - q) ∧ ∃ f19, aN = fr 52 f19 ∧ (q ≤ 4) ∧ f19 1 = .int .i64 ((c : Nat) : Int) ∧ f19 3 = pt b_x 0 ∧ f19 6 = pt b_6 0 ∧ f19 7 = pt b_y 0 ∧ f19 10 = .int .i64 ((q : Nat) : Int) ∧ Row wl b_x 78 16 (fun j => if (4 * c) ≤ j ∧ j < (4 * c) + q then (fun j => U8 (Aes.colAcc x c fc j 4)) (j - (4 * c)) else (fun j => U8 (x j)) j) ∧ Row wl b_f 77 4 (fun j => U8 (fc j)) ∧ Row wl b_6 78 16 (fun j => U8 (0#8)) ∧ Row wl b_y 77 4 (fun j => if j < r then (fun j => U8 (Aes.colAcc x c fc j 4)) j else (fun j => U8 (0#8)) j) ∧ Below w0.heap.size w0 wl) (4 - 0) ?_ ?_
   · exact ⟨0, rfl, _, rfl, iv, s1_1, s1_3, s1_6, s1_7, ti, (r_b_x.cg), r_b_f, r_b_6, r_b_y, hk⟩
   ·skip
    clear r_b_x r_b_f r_b_6 r_b_y hk
    rintro _ _ w20 ⟨q, rfl, f19, rfl, i3_0, s3_1, s3_3, s3_6, s3_7, s3_10, r_b_x, r_b_f, r_b_6, r_b_y, hk⟩
    refine wp_seq (sr (w_mv (ei s3_10) (w_val (y_bin ei Ev.c b_lss) (nt ?_))))
    refine c_if (p := ((q : Nat) : Int) < 4) eb (fun hc21 => ?_) (fun hc21 => ?_)
    ·skip
     refine wp_skip (then_n (wp_seq (wp_block (wp_region_lit (w_mv (ei s3_1) (w_val (y_bin Ev.c ei (b_mul om)) (w_mv (ei s3_10) (w_val (y_bin ei ei (b_add om)) (w_mv (ei s3_10) (w_val (y_ia1z (i := q) (ex (pt b_y 0) s3_7) ei Tryz.underlying77 AesRefAT.sz5 om om) (w_val (v := U8 (Aes.colAcc x c fc q 4)) (y_ld (ex (pt b_y q)) AesRefAT.sc5 (r_b_y.val om ((if_pos om).trans rfl))) (w_val (y_ia1z (i := ((4 * c) + q)) (ex (pt b_x 0) s3_3) ei Tryz.underlying78 AesRefAT.sz5 om om) (w_st (v := U8 (Aes.colAcc x c fc q 4)) (ex (pt b_x ((4 * c) + q))) e8 rfl rfl AesRefAT.sz5 r_b_x om ?_)))))))))))))
     clear r_b_x; intro w22 r_b_x hg23 _
     replace r_b_f := r_b_f.stepG hg23 om
     replace r_b_6 := r_b_6.stepG hg23 om
     replace r_b_y := r_b_y.stepG hg23 om
     replace hk := thenG hk hg23 om
     refine wpList_nil (inb_n (then_n (wp_region_lit (w_mv (ei s3_10) (w_val (y_bin ei Ev.c (b_add om)) (w_as ei (wpList_nil ?_)))))))
     exact then_n ⟨_, om, q + 1, rfl, _, rfl, iv, s3_1, s3_3, s3_6, s3_7, ti, (r_b_x.cg), r_b_f, r_b_6, r_b_y, hk⟩
    ·skip
     refine wp_exit (then_x (then_x (inb_x (then_n (sr (w_val (v := .agg (arr 16 (fun j => if (4 * c) ≤ j ∧ j < (4 * c) + q then (fun j => U8 (Aes.colAcc x c fc j 4)) (j - (4 * c)) else (fun j => U8 (x j)) j))) (y_lda (ex (pt b_x 0) s3_3) AesRefAT.ag78 AesRefAT.sz78 (fun j hj => by rw [Nat.zero_add]; exact (r_b_x.cell om))) (w_sta (k := 16) (G := fun j => if (4 * c) ≤ j ∧ j < (4 * c) + q then (fun j => U8 (Aes.colAcc x c fc j 4)) (j - (4 * c)) else (fun j => U8 (x j)) j) (ex (pt b_6 0) s3_6) ea oc AesRefAT.sz78 r_b_6 om ?_)))))))
     clear r_b_6; intro w24 r_b_6 hg25 _
     replace r_b_6 := r_b_6.congr (g := fun j => if (4 * c) ≤ j ∧ j < (4 * c) + q then (fun j => U8 (Aes.colAcc x c fc j 4)) (j - (4 * c)) else (fun j => U8 (x j)) j) (fun j hj => by rw [if_pos ⟨Nat.zero_le _, by omega⟩]; first | rfl | (simp only [Nat.sub_zero]))
     replace r_b_x := r_b_x.stepG hg25 om
     replace r_b_f := r_b_f.stepG hg25 om
     replace r_b_y := r_b_y.stepG hg25 om
     replace hk := thenG hk hg25 om
     refine nt (wp_ret (fin_arr (F := fun j => if (4 * c) ≤ j ∧ j < (4 * c) + q then (fun j => U8 (Aes.colAcc x c fc j 4)) (j - (4 * c)) else (fun j => U8 (x j)) j) rfl (ex (pt b_6 0) s3_6) AesRefAT.ag78 AesRefAT.sz78 r_b_6 om ?_))
     refine ⟨congrArg Ending.returned ?_, hk⟩
     show (.agg (arr 16 (fun j => if (4 * c) ≤ j ∧ j < (4 * c) + q then (fun j => U8 (Aes.colAcc x c fc j 4)) (j - (4 * c)) else (fun j => U8 (x j)) j)) : Value) = .agg (arr 16 (fun j => U8 (Aes.column x c fc j)))
     obtain rfl : q = 4 := by omega
     congr 2; funext j; unfold Aes.column
     split <;> rfl

theorem refAdd_c (bx g n cap : Nat) (W : List (BitVec 32)) (x : Nat → BitVec 8) (r : Nat) (hr : 4 * r + 4 ≤ n) (hn : n ≤ 1000) (w0 : World) (r_bx : Row w0 bx 74 513 (fun j => if j < 256 then U8 (Aes.sb j) else if j < 512 then U8 (Aes.bk (j - 256)) else .slice (some ⟨g, 0, none⟩) n cap)) (r_g : Row w0 g 77 (n * 4) (fun j => U8 (Aes.byteOf (Aes.gw W (j / 4)) (j % 4)))) : Calls Tryz.prog 50 #[pt bx 0, .agg (arr 16 (fun j => U8 (x j))), .int .i64 ((r : Nat) : Int)] w0 fun e w' => e = .returned (.agg (arr 16 (fun j => U8 (Aes.rAdd W x r j)))) ∧ Below w0.heap.size w0 w' := by
 refine enter (n := 33) Tryz.func50 rfl rfl rfl ?_
 have hk : Below w0.heap.size w0 w0 := Below.refl _ _
 have lt_bx := r_bx.lt
 have lt_g := r_g.lt
 refine sr (w_box (m := 16) (F := fun j => U8 (x j)) ea rfl ?_)
 intro b_x w1 hbe_b_x r_b_x hb2
 have ne_bx_b_x := r_bx.nb hbe_b_x
 have ne_g_b_x := r_g.nb hbe_b_x
 have ge_b_x := gb_ hk.size hbe_b_x
 clear hbe_b_x
 replace r_bx := r_bx.step hb2
 replace r_g := r_g.step hb2
 replace hk := thenB hk hb2
 refine w_alloc (m := 16) (F := fun j => U8 (0#8)) kr ?_
 intro b_6 w3 hbe_b_6 r_b_6 hb4
 have ne_bx_b_6 := r_bx.nb hbe_b_6
 have ne_g_b_6 := r_g.nb hbe_b_6
 have ne_b_x_b_6 := r_b_x.nb hbe_b_6
 have ge_b_6 := gb_ hk.size hbe_b_6
 clear hbe_b_6
 replace r_bx := r_bx.step hb4
 replace r_g := r_g.step hb4
 replace r_b_x := r_b_x.step hb4
 replace hk := thenB hk hb4
 refine nt (wp_seq (sr (w_as Ev.c (nt (wp_block ?_)))))
 refine c_loop (fun dN aN wl => ∃ (i : Nat), dN = (16 - i) ∧ ∃ f5, aN = fr 33 f5 ∧ (i ≤ 16) ∧ f5 0 = pt bx 0 ∧ f5 2 = .int .i64 ((r : Nat) : Int) ∧ f5 4 = pt b_x 0 ∧ f5 6 = pt b_6 0 ∧ f5 7 = .int .i64 ((i : Nat) : Int) ∧ Row wl bx 74 513 (fun j => if j < 256 then U8 (Aes.sb j) else if j < 512 then U8 (Aes.bk (j - 256)) else .slice (some ⟨g, 0, none⟩) n cap) ∧ Row wl g 77 (n * 4) (fun j => U8 (Aes.byteOf (Aes.gw W (j / 4)) (j % 4))) ∧ Row wl b_x 78 16 (fun j => if j < i then (fun j => U8 (Aes.rAdd W x r j)) j else (fun j => U8 (x j)) j) ∧ Row wl b_6 78 16 (fun j => U8 (0#8)) ∧ Below w0.heap.size w0 wl) (16 - 0) ?_ ?_
 · exact ⟨0, rfl, _, rfl, iv, rfl, rfl, rfl, rfl, ti, r_bx, r_g, (r_b_x.cg), r_b_6, hk⟩
 ·skip
  clear r_bx r_g r_b_x r_b_6 hk
  rintro _ _ w6 ⟨i, rfl, f5, rfl, i1_0, s1_0, s1_2, s1_4, s1_6, s1_7, r_bx, r_g, r_b_x, r_b_6, hk⟩
  refine wp_seq (sr (w_mv (ei s1_7) (w_val (y_bin ei Ev.c b_lss) (nt ?_))))
  refine c_if (p := ((i : Nat) : Int) < 16) eb (fun hc7 => ?_) (fun hc7 => ?_)
  ·skip
   refine wp_skip (then_n (wp_seq (wp_block (region_t 20 AesRefAT.mixed kr ?_))))
   simp only [List.take_succ_cons, List.take_zero, List.drop_succ_cons, List.drop_zero]
   refine q_mv (ei s1_7) (q_mv (ei s1_7) (q_val (fun w' hw' => y_ia1z (i := i) (ex (pt b_x 0) s1_4) ei Tryz.underlying78 AesRefAT.sz5 om om) (q_val (v := U8 (x i)) (fun w' hw' => y_ld (ex (pt b_x i)) AesRefAT.sc5 (cls_cell (r_b_x.val om (ng rfl)) r_b_x.lt w' hw')) (q_mv (ex (pt bx 0) s1_0) (q_val (fun w' hw' => y_nc (ex (pt bx 0))) (q_val (v := pt bx 512) (fun w' hw' => y_off (y_fa (ex (pt bx 0)) (AesRefAT.fa74_2 _ _)) ro) (q_val (v := .slice (some ⟨g, 0, none⟩) n cap) (fun w' hw' => y_ld (ex (pt bx 512)) AesRefAT.sc72 (cls_cell (r_bx.val om (ng (ng dv))) r_bx.lt w' hw')) (q_mv (ei s1_2) (q_val (fun w' hw' => y_bin Ev.c ei (b_mul om)) (q_mv (ei s1_7) (q_val (fun w' hw' => y_bin ei Ev.c (b_quo om)) (q_val (fun w' hw' => y_bin ei ei (b_add om)) (q_mv (ei s1_7) (q_val (fun w' hw' => y_bin ei Ev.c (b_rem om)) (q_val (v := pt g (((4 * r) + (i / 4)) * 4)) (fun w' hw' => y_off (y_is (i := ((4 * r) + (i / 4))) el ei Tryz.underlying72 AesRefAT.sz77 om om) ro) (q_val (v := pt g ((((4 * r) + (i / 4)) * 4) + (i % 4))) (fun w' hw' => y_off (y_ia1 (i := (i % 4)) (ex (pt g (((4 * r) + (i / 4)) * 4))) ei Tryz.underlying77 AesRefAT.sz5 om om) ro) (q_val (v := U8 (Aes.byteOf (Aes.gw W ((4 * r) + (i / 4))) (i % 4))) (fun w' hw' => y_ld (ex (pt g ((((4 * r) + (i / 4)) * 4) + (i % 4)))) AesRefAT.sc5 (cls_cell (r_g.val om (by (try dsimp only); rw [show ((((4 * r) + (i / 4)) * 4) + (i % 4)) / 4 = ((4 * r) + (i / 4)) from by omega, show ((((4 * r) + (i / 4)) * 4) + (i % 4)) % 4 = (i % 4) from by omega])) r_g.lt w' hw')) (q_val (fun w' hw' => y_bin e8 e8 xor8) (q_val (fun w' hw' => y_ia1z (i := i) (ex (pt b_x 0) s1_4) ei Tryz.underlying78 AesRefAT.sz5 om om) (q_nil ?_))))))))))))))))))))
   intro w8 hb9
   replace r_bx := r_bx.step hb9
   replace r_g := r_g.step hb9
   replace r_b_x := r_b_x.step hb9
   replace r_b_6 := r_b_6.step hb9
   replace hk := thenB hk hb9
   refine w_st (v := U8 ((x i) ^^^ (Aes.byteOf (Aes.gw W ((4 * r) + (i / 4))) (i % 4)))) (ex (pt b_x i)) e8 rfl rfl AesRefAT.sz5 r_b_x om ?_
   clear r_b_x; intro w10 r_b_x hg11 _
   replace r_bx := r_bx.stepG hg11 om
   replace r_g := r_g.stepG hg11 om
   replace r_b_6 := r_b_6.stepG hg11 om
   replace hk := thenG hk hg11 om
   refine wpList_nil (inb_n (then_n (wp_region_lit (w_mv (ei s1_7) (w_val (y_bin ei Ev.c (b_add om)) (w_as ei (wpList_nil ?_)))))))
   exact then_n ⟨_, om, i + 1, rfl, _, rfl, iv, s1_0, s1_2, s1_4, s1_6, ti, r_bx, r_g, (r_b_x.cg), r_b_6, hk⟩
  ·skip
   refine wp_exit (then_x (then_x (inb_x (then_n (sr (w_val (v := .agg (arr 16 (fun j => if j < i then (fun j => U8 (Aes.rAdd W x r j)) j else (fun j => U8 (x j)) j))) (y_lda (ex (pt b_x 0) s1_4) AesRefAT.ag78 AesRefAT.sz78 (fun j hj => by rw [Nat.zero_add]; exact (r_b_x.cell om))) (w_sta (k := 16) (G := fun j => if j < i then (fun j => U8 (Aes.rAdd W x r j)) j else (fun j => U8 (x j)) j) (ex (pt b_6 0) s1_6) ea oc AesRefAT.sz78 r_b_6 om ?_)))))))
   clear r_b_6; intro w12 r_b_6 hg13 _
   replace r_b_6 := r_b_6.congr (g := fun j => if j < i then (fun j => U8 (Aes.rAdd W x r j)) j else (fun j => U8 (x j)) j) (fun j hj => by rw [if_pos ⟨Nat.zero_le _, by omega⟩]; first | rfl | (simp only [Nat.sub_zero]))
   replace r_bx := r_bx.stepG hg13 om
   replace r_g := r_g.stepG hg13 om
   replace r_b_x := r_b_x.stepG hg13 om
   replace hk := thenG hk hg13 om
   refine nt (wp_ret (fin_arr (F := fun j => if j < i then (fun j => U8 (Aes.rAdd W x r j)) j else (fun j => U8 (x j)) j) rfl (ex (pt b_6 0) s1_6) AesRefAT.ag78 AesRefAT.sz78 r_b_6 om ?_))
   refine ⟨congrArg Ending.returned ?_, hk⟩
   show (.agg (arr 16 (fun j => if j < i then (fun j => U8 (Aes.rAdd W x r j)) j else (fun j => U8 (x j)) j)) : Value) = .agg (arr 16 (fun j => U8 (Aes.rAdd W x r j)))
   exact congrArg Value.agg (arr_congr (fun j hj => by dsimp only; rw [if_pos om]))

theorem refDec_c (bx g n cap R : Nat) (W : List (BitVec 32)) (s : List (BitVec 8)) (hs : s.length = 16) (hn : n = 4 * (R + 1)) (hR : R ≤ 20) (w0 : World) (r_bx : Row w0 bx 74 513 (fun j => if j < 256 then U8 (Aes.sb j) else if j < 512 then U8 (Aes.bk (j - 256)) else .slice (some ⟨g, 0, none⟩) n cap)) (r_g : Row w0 g 77 (n * 4) (fun j => U8 (Aes.byteOf (Aes.gw W (j / 4)) (j % 4)))) : Calls Tryz.prog 63 #[pt bx 0, .string (str s)] w0 fun e w' => e = .returned (.string (str ((List.range 16).map (Aes.rAdd W (Aes.rDec W R s R) 0)))) ∧ Below w0.heap.size w0 w' := by
 refine enter (n := 79) Tryz.func63 rfl rfl rfl ?_
 have hk : Below w0.heap.size w0 w0 := Below.refl _ _
 have lt_bx := r_bx.lt
 have lt_g := r_g.lt
 refine sr (w_as (evc (.string (str ([] : List (BitVec 8))))) (nt (sr (w_alloc (m := 16) (F := fun j => U8 (0#8)) kr ?_))))
 intro b_x w1 hbe_b_x r_b_x hb2
 have ne_bx_b_x := r_bx.nb hbe_b_x
 have ne_g_b_x := r_g.nb hbe_b_x
 have ge_b_x := gb_ hk.size hbe_b_x
 clear hbe_b_x
 replace r_bx := r_bx.step hb2
 replace r_g := r_g.step hb2
 replace hk := thenB hk hb2
 refine nt (wp_seq (sr (w_as Ev.c (nt (wp_block ?_)))))
 refine c_loop (fun dN aN wl => ∃ (i : Nat), dN = (16 - i) ∧ ∃ f3, aN = fr 79 f3 ∧ (i ≤ 16) ∧ f3 0 = pt bx 0 ∧ f3 1 = .string (str s) ∧ f3 4 = .string (str ([] : List (BitVec 8))) ∧ f3 5 = pt b_x 0 ∧ f3 6 = .int .i64 ((i : Nat) : Int) ∧ Row wl bx 74 513 (fun j => if j < 256 then U8 (Aes.sb j) else if j < 512 then U8 (Aes.bk (j - 256)) else .slice (some ⟨g, 0, none⟩) n cap) ∧ Row wl g 77 (n * 4) (fun j => U8 (Aes.byteOf (Aes.gw W (j / 4)) (j % 4))) ∧ Row wl b_x 78 16 (fun j => if j < i then (fun j => U8 (gb s j)) j else (fun j => U8 (0#8)) j) ∧ Below w0.heap.size w0 wl) (16 - 0) ?_ ?_
 · exact ⟨0, rfl, _, rfl, iv, rfl, rfl, rfl, rfl, ti, r_bx, r_g, (r_b_x.cg), hk⟩
 ·skip
  clear r_bx r_g r_b_x hk
  rintro _ _ w4 ⟨i, rfl, f3, rfl, i1_0, s1_0, s1_1, s1_4, s1_5, s1_6, r_bx, r_g, r_b_x, hk⟩
  refine wp_seq (sr (w_mv (ei s1_6) (w_val (y_bin ei Ev.c b_lss) (nt ?_))))
  refine c_if (p := ((i : Nat) : Int) < 16) eb (fun hc5 => ?_) (fun hc5 => ?_)
  ·skip
   refine wp_skip (then_n (wp_seq (wp_block (wp_region_lit (w_mv (ei s1_6) (w_mv (es s1_1) (w_mv (ei s1_6) (w_val (v := U8 (gb s i)) (y_idx (ex (.string (str s))) ei Tryz.underlying9 om om) (w_val (y_ia1z (i := i) (ex (pt b_x 0) s1_5) ei Tryz.underlying78 AesRefAT.sz5 om om) (w_st (v := U8 (gb s i)) (ex (pt b_x i)) e8 rfl rfl AesRefAT.sz5 r_b_x om ?_))))))))))
   clear r_b_x; intro w6 r_b_x hg7 _
   replace r_bx := r_bx.stepG hg7 om
   replace r_g := r_g.stepG hg7 om
   replace hk := thenG hk hg7 om
   refine wpList_nil (inb_n (then_n (wp_region_lit (w_mv (ei s1_6) (w_val (y_bin ei Ev.c (b_add om)) (w_as ei (wpList_nil ?_)))))))
   exact then_n ⟨_, om, i + 1, rfl, _, rfl, iv, s1_0, s1_1, s1_4, s1_5, ti, r_bx, r_g, (r_b_x.cg), hk⟩
  ·skip
   refine wp_exit (then_x ?_)
   replace r_b_x := r_b_x.congr (g := fun j => U8 (gb s j)) (fun j hj => by dsimp only; rw [if_pos om])
   refine then_x (inb_x (then_n (sr (w_mv (ex (pt bx 0) s1_0) (w_val (y_nc (ex (pt bx 0))) (w_val (v := pt bx 512) (y_off (y_fa (ex (pt bx 0)) (AesRefAT.fa74_2 _ _)) ro) (w_val (v := .slice (some ⟨g, 0, none⟩) n cap) (y_ld (ex (pt bx 512)) AesRefAT.sc72 (r_bx.val om (ng (ng dv)))) (w_val (v := .int .i64 ((n : Nat) : Int)) (y_len_sl el Tryz.underlying72) (w_val (y_bin ei Ev.c (b_quo om)) (w_val (y_bin ei Ev.c (b_sub om)) (w_as ei (nt (wp_seq (sr (w_mv ei (w_as ei (nt (wp_block ?_))))))))))))))))))
   refine c_loop (fun dN aN wl => ∃ (q : Nat), dN = (R - q) ∧ ∃ f8, aN = fr 79 f8 ∧ (q ≤ R) ∧ f8 0 = pt bx 0 ∧ f8 4 = .string (str ([] : List (BitVec 8))) ∧ f8 5 = pt b_x 0 ∧ f8 7 = .int .i64 ((((n : Nat) : Int) / 4) - 1) ∧ f8 8 = .int .i64 (((R - q) : Nat) : Int) ∧ Row wl bx 74 513 (fun j => if j < 256 then U8 (Aes.sb j) else if j < 512 then U8 (Aes.bk (j - 256)) else .slice (some ⟨g, 0, none⟩) n cap) ∧ Row wl g 77 (n * 4) (fun j => U8 (Aes.byteOf (Aes.gw W (j / 4)) (j % 4))) ∧ Row wl b_x 78 16 (fun j => U8 (Aes.rDec W R s q j)) ∧ Below w0.heap.size w0 wl) (R - 0) ?_ ?_
   · exact ⟨0, rfl, _, rfl, iv, s1_0, s1_4, s1_5, rfl, ti, r_bx, r_g, (r_b_x.congr (fun j hj => by rfl)), hk⟩
   ·skip
    clear r_bx r_g r_b_x hk
    rintro _ _ w9 ⟨q, rfl, f8, rfl, i2_0, s2_0, s2_4, s2_5, s2_7, s2_8, r_bx, r_g, r_b_x, hk⟩
    refine wp_seq (sr (w_mv (ei s2_8) (w_val (y_bin ei Ev.c b_geq) (nt ?_))))
    refine c_if (p := 1 ≤ (((R - q) : Nat) : Int)) eb (fun hc10 => ?_) (fun hc10 => ?_)
    ·skip
     refine wp_skip (then_n (wp_seq (wp_block (sr (w_mv (ex (pt bx 0) s2_0) (w_val (v := .agg (arr 16 (fun j => U8 (Aes.rDec W R s q j)))) (y_lda (ex (pt b_x 0) s2_5) AesRefAT.ag78 AesRefAT.sz78 (fun j hj => by rw [Nat.zero_add]; exact (r_b_x.cell om))) (w_mv (ei s2_8) (w_call (Tryz.func50) kr rfl (m3 (ex (pt bx 0)) ea ei) (refAdd_c bx g n cap W (fun j => Aes.rDec W R s q j) (R - q) om om w9 r_bx r_g) ?_))))))))
     rintro _ w11 ⟨rfl, hb12⟩
     refine ⟨_, rfl, ?_⟩
     replace r_bx := r_bx.step hb12
     replace r_g := r_g.step hb12
     replace r_b_x := r_b_x.step hb12
     replace hk := thenB hk hb12
     refine w_sta (k := 16) (G := fun j => U8 (Aes.rAdd W (fun j => Aes.rDec W R s q j) (R - q) j)) (ex (pt b_x 0) s2_5) ea oc AesRefAT.sz78 r_b_x om ?_
     clear r_b_x; intro w13 r_b_x hg14 _
     replace r_b_x := r_b_x.congr (g := fun j => U8 (Aes.rAdd W (fun j => Aes.rDec W R s q j) (R - q) j)) (fun j hj => by rw [if_pos ⟨Nat.zero_le _, by omega⟩]; first | rfl | (simp only [Nat.sub_zero]))
     replace r_bx := r_bx.stepG hg14 om
     replace r_g := r_g.stepG hg14 om
     replace hk := thenG hk hg14 om
     refine nt (wp_seq (sr (w_as Ev.c (nt (wp_block ?_)))))
     refine c_loop (fun dN aN wl => ∃ (c : Nat), dN = (4 - c) ∧ ∃ f15, aN = fr 79 f15 ∧ (c ≤ 4) ∧ (0 < q ∨ c = 0) ∧ f15 0 = pt bx 0 ∧ f15 4 = .string (str ([] : List (BitVec 8))) ∧ f15 5 = pt b_x 0 ∧ f15 7 = .int .i64 ((((n : Nat) : Int) / 4) - 1) ∧ f15 8 = .int .i64 (((R - q) : Nat) : Int) ∧ f15 9 = .int .i64 ((c : Nat) : Int) ∧ Row wl bx 74 513 (fun j => if j < 256 then U8 (Aes.sb j) else if j < 512 then U8 (Aes.bk (j - 256)) else .slice (some ⟨g, 0, none⟩) n cap) ∧ Row wl g 77 (n * 4) (fun j => U8 (Aes.byteOf (Aes.gw W (j / 4)) (j % 4))) ∧ Row wl b_x 78 16 (fun j => U8 (Aes.rCols Aes.fu (Aes.rAdd W (Aes.rDec W R s q) (R - q)) c j)) ∧ Below w0.heap.size w0 wl) (4 - 0) ?_ ?_
     · exact ⟨0, rfl, _, rfl, iv, iv, s2_0, s2_4, s2_5, s2_7, s2_8, ti, r_bx, r_g, (r_b_x.congr (fun j hj => by rfl)), hk⟩
     ·skip
      clear r_bx r_g r_b_x hk
      rintro _ _ w16 ⟨c, rfl, f15, rfl, i3_0, i3_1, s3_0, s3_4, s3_5, s3_7, s3_8, s3_9, r_bx, r_g, r_b_x, hk⟩
      refine wp_seq (sr (w_mv (ei s3_9) (w_val (y_bin ei Ev.c b_lss) (w_mv eb ?_))))
      by_cases hc17 : ((c : Nat) : Int) < 4
      ·skip
       refine w_val_g (v := .int .i64 (((R - q) : Nat) : Int)) (wy rfl rfl (eb (dt hc17))) (y_mv (ei s3_8)) (w_val_g (v := .int .i64 ((((n : Nat) : Int) / 4) - 1)) (wy rfl rfl (eb (dt hc17))) (y_mv (ei s3_7)) (w_val_g (wy rfl rfl (eb (dt hc17))) (y_bin ei ei b_lss) (w_val (y_pick_t (eb (dt hc17)) eb) (nt ?_))))
       refine c_if (p := (((R - q) : Nat) : Int) < ((((n : Nat) : Int) / 4) - 1)) eb (fun hc18 => ?_) (fun hc18 => ?_)
       ·skip
        refine wp_skip (then_n (wp_seq (wp_block (wp_region_lit (w_val (v := .agg (arr 16 (fun j => U8 (Aes.rCols Aes.fu (Aes.rAdd W (Aes.rDec W R s q) (R - q)) c j)))) (y_lda (ex (pt b_x 0) s3_5) AesRefAT.ag78 AesRefAT.sz78 (fun j hj => by rw [Nat.zero_add]; exact (r_b_x.cell om))) (w_mv (ei s3_9) (w_val (v := .agg (arr 4 (fun j => U8 (Aes.fu j)))) (y_build (vs := #[(0, U8 (14#8)), (1, U8 (11#8)), (2, U8 (13#8)), (3, U8 (9#8))]) (mp_cons (evc (U8 (14#8))) (mp_cons (evc (U8 (11#8))) (mp_cons (evc (U8 (13#8))) (mp_cons (evc (U8 (9#8))) mp0)))) (fun w => by kernel_rfl)) (w_call (Tryz.func51) kr rfl (m3 ea ei ea) (refColumn_c (fun j => Aes.rCols Aes.fu (Aes.rAdd W (Aes.rDec W R s q) (R - q)) c j) c (fun j => Aes.fu j) om w16) ?_))))))))
        rintro _ w19 ⟨rfl, hb20⟩
        refine ⟨_, rfl, ?_⟩
        replace r_bx := r_bx.step hb20
        replace r_g := r_g.step hb20
        replace r_b_x := r_b_x.step hb20
        replace hk := thenB hk hb20
        refine w_sta (k := 16) (G := fun j => U8 (Aes.column (fun j => Aes.rCols Aes.fu (Aes.rAdd W (Aes.rDec W R s q) (R - q)) c j) c (fun j => Aes.fu j) j)) (ex (pt b_x 0) s3_5) ea oc AesRefAT.sz78 r_b_x om ?_
        clear r_b_x; intro w21 r_b_x hg22 _
        replace r_b_x := r_b_x.congr (g := fun j => U8 (Aes.column (fun j => Aes.rCols Aes.fu (Aes.rAdd W (Aes.rDec W R s q) (R - q)) c j) c (fun j => Aes.fu j) j)) (fun j hj => by rw [if_pos ⟨Nat.zero_le _, by omega⟩]; first | rfl | (simp only [Nat.sub_zero]))
        replace r_bx := r_bx.stepG hg22 om
        replace r_g := r_g.stepG hg22 om
        replace hk := thenG hk hg22 om
        refine wpList_nil (inb_n (then_n (wp_region_lit (w_mv (ei s3_9) (w_val (y_bin ei Ev.c (b_add om)) (w_as ei (wpList_nil ?_)))))))
        exact then_n ⟨_, om, c + 1, rfl, _, rfl, iv, iv, s3_0, s3_4, s3_5, s3_7, s3_8, ti, r_bx, r_g, (r_b_x.congr (fun j hj => by rfl)), hk⟩
       ·skip
        refine wp_exit (then_x (then_x (inb_x (then_n (sr (w_alloc (m := 16) (F := fun j => U8 (0#8)) kr ?_))))))
        intro b_y w23 hbe_b_y r_b_y hb24
        have ne_bx_b_y := r_bx.nb hbe_b_y
        have ne_g_b_y := r_g.nb hbe_b_y
        have ne_b_x_b_y := r_b_x.nb hbe_b_y
        have ge_b_y := gb_ hk.size hbe_b_y
        clear hbe_b_y
        replace r_bx := r_bx.step hb24
        replace r_g := r_g.step hb24
        replace r_b_x := r_b_x.step hb24
        replace hk := thenB hk hb24
        refine nt (wp_seq (sr (w_as Ev.c (nt (wp_block ?_)))))
        refine c_loop (fun dN aN wl => ∃ (k : Nat), dN = (16 - k) ∧ ∃ f25, aN = fr 79 f25 ∧ (k ≤ 16) ∧ f25 0 = pt bx 0 ∧ f25 4 = .string (str ([] : List (BitVec 8))) ∧ f25 5 = pt b_x 0 ∧ f25 7 = .int .i64 ((((n : Nat) : Int) / 4) - 1) ∧ f25 8 = .int .i64 (((R - q) : Nat) : Int) ∧ f25 10 = pt b_y 0 ∧ f25 11 = .int .i64 ((k : Nat) : Int) ∧ Row wl bx 74 513 (fun j => if j < 256 then U8 (Aes.sb j) else if j < 512 then U8 (Aes.bk (j - 256)) else .slice (some ⟨g, 0, none⟩) n cap) ∧ Row wl g 77 (n * 4) (fun j => U8 (Aes.byteOf (Aes.gw W (j / 4)) (j % 4))) ∧ Row wl b_x 78 16 (fun j => U8 (Aes.rCols Aes.fu (Aes.rAdd W (Aes.rDec W R s q) (R - q)) c j)) ∧ Row wl b_y 78 16 (fun j => if 4 * ((j / 4 + 4 - j % 4) % 4) + j % 4 < k then (fun j => U8 (Aes.rUn (fun j => Aes.rCols Aes.fu (Aes.rAdd W (Aes.rDec W R s q) (R - q)) c j) j)) j else (fun j => U8 (0#8)) j) ∧ Below w0.heap.size w0 wl) (16 - 0) ?_ ?_
        · exact ⟨0, rfl, _, rfl, iv, s3_0, s3_4, s3_5, s3_7, s3_8, rfl, ti, r_bx, r_g, r_b_x, (r_b_y.cg), hk⟩
        ·skip
         clear r_bx r_g r_b_x r_b_y hk
         rintro _ _ w26 ⟨k, rfl, f25, rfl, i4_0, s4_0, s4_4, s4_5, s4_7, s4_8, s4_10, s4_11, r_bx, r_g, r_b_x, r_b_y, hk⟩
         refine wp_seq (sr (w_mv (ei s4_11) (w_val (y_bin ei Ev.c b_lss) (nt ?_))))
         refine c_if (p := ((k : Nat) : Int) < 16) eb (fun hc27 => ?_) (fun hc27 => ?_)
         ·skip
          refine wp_skip (then_n (wp_seq (wp_block (region_t 19 AesRefAT.mixed kr ?_))))
          simp only [List.take_succ_cons, List.take_zero, List.drop_succ_cons, List.drop_zero]
          refine q_mv (ei s4_11) (q_val (fun w' hw' => y_bin ei Ev.c (b_quo om)) (q_mv (ei s4_11) (q_val (fun w' hw' => y_bin ei Ev.c (b_rem om)) (q_val (fun w' hw' => y_bin ei ei (b_add om)) (q_val (fun w' hw' => y_bin ei Ev.c (b_rem om)) (q_val (fun w' hw' => y_bin Ev.c ei (b_mul om)) (q_mv (ei s4_11) (q_val (fun w' hw' => y_bin ei Ev.c (b_rem om)) (q_val (fun w' hw' => y_bin ei ei (b_add om)) (q_mv (ex (pt bx 0) s4_0) (q_mv (ei s4_11) (q_val (fun w' hw' => y_ia1z (i := k) (ex (pt b_x 0) s4_5) ei Tryz.underlying78 AesRefAT.sz5 om om) (q_val (v := U8 (Aes.rCols Aes.fu (Aes.rAdd W (Aes.rDec W R s q) (R - q)) c k)) (fun w' hw' => y_ld (ex (pt b_x k)) AesRefAT.sc5 (cls_cell (r_b_x.val om rfl) r_b_x.lt w' hw')) (q_val (fun w' hw' => y_nc (ex (pt bx 0))) (q_val (v := pt bx 256) (fun w' hw' => y_off (y_fa (ex (pt bx 0)) (AesRefAT.fa74_1 _ _)) ro) (q_val (v := pt bx (256 + (Aes.rCols Aes.fu (Aes.rAdd W (Aes.rDec W R s q) (R - q)) c k).toNat)) (fun w' hw' => y_off (y_ia1 (i := ((Aes.rCols Aes.fu (Aes.rAdd W (Aes.rDec W R s q) (R - q)) c k).toNat)) (ex (pt bx 256)) (ex (.int .u8 ((Aes.rCols Aes.fu (Aes.rAdd W (Aes.rDec W R s q) (R - q)) c k).toNat : Int))) Tryz.underlying71 AesRefAT.sz5 rfl om) ro) (q_val (v := U8 (Aes.bk ((Aes.rCols Aes.fu (Aes.rAdd W (Aes.rDec W R s q) (R - q)) c k).toNat))) (fun w' hw' => y_ld (ex (pt bx (256 + (Aes.rCols Aes.fu (Aes.rAdd W (Aes.rDec W R s q) (R - q)) c k).toNat))) AesRefAT.sc5 (cls_cell (r_bx.val om (ng pz)) r_bx.lt w' hw')) (q_val (fun w' hw' => y_ia1z (i := ((4 * (((k / 4) + (k % 4)) % 4)) + (k % 4))) (ex (pt b_y 0) s4_10) ei Tryz.underlying78 AesRefAT.sz5 om om) (q_nil ?_)))))))))))))))))))
          intro w28 hb29
          replace r_bx := r_bx.step hb29
          replace r_g := r_g.step hb29
          replace r_b_x := r_b_x.step hb29
          replace r_b_y := r_b_y.step hb29
          replace hk := thenB hk hb29
          refine w_st (v := U8 (Aes.bk ((Aes.rCols Aes.fu (Aes.rAdd W (Aes.rDec W R s q) (R - q)) c k).toNat))) (ex (pt b_y ((4 * (((k / 4) + (k % 4)) % 4)) + (k % 4)))) e8 rfl rfl AesRefAT.sz5 r_b_y om ?_
          clear r_b_y; intro w30 r_b_y hg31 _
          replace r_bx := r_bx.stepG hg31 om
          replace r_g := r_g.stepG hg31 om
          replace r_b_x := r_b_x.stepG hg31 om
          replace hk := thenG hk hg31 om
          refine wpList_nil (inb_n (then_n (wp_region_lit (w_mv (ei s4_11) (w_val (y_bin ei Ev.c (b_add om)) (w_as ei (wpList_nil ?_)))))))
          exact then_n ⟨_, om, k + 1, rfl, _, rfl, iv, s4_0, s4_4, s4_5, s4_7, s4_8, s4_10, ti, r_bx, r_g, r_b_x, (r_b_y.congr (fun j hj => by exact Aes.un_row (fun j => Aes.rCols Aes.fu (Aes.rAdd W (Aes.rDec W R s q) (R - q)) c j) k j om hj)), hk⟩
         ·skip
          refine wp_exit (then_x ?_)
          replace r_b_y := r_b_y.congr (g := fun j => U8 (Aes.rUn (fun j => Aes.rCols Aes.fu (Aes.rAdd W (Aes.rDec W R s q) (R - q)) c j) j)) (fun j hj => by dsimp only; rw [if_pos om])
          refine then_x (inb_x (then_n (wp_region_lit (w_val (v := .agg (arr 16 (fun j => U8 (Aes.rUn (fun j => Aes.rCols Aes.fu (Aes.rAdd W (Aes.rDec W R s q) (R - q)) c j) j)))) (y_lda (ex (pt b_y 0) s4_10) AesRefAT.ag78 AesRefAT.sz78 (fun j hj => by rw [Nat.zero_add]; exact (r_b_y.cell om))) (w_sta (k := 16) (G := fun j => U8 (Aes.rUn (fun j => Aes.rCols Aes.fu (Aes.rAdd W (Aes.rDec W R s q) (R - q)) c j) j)) (ex (pt b_x 0) s4_5) ea oc AesRefAT.sz78 r_b_x om ?_)))))
          clear r_b_x; intro w32 r_b_x hg33 _
          replace r_b_x := r_b_x.congr (g := fun j => U8 (Aes.rUn (fun j => Aes.rCols Aes.fu (Aes.rAdd W (Aes.rDec W R s q) (R - q)) c j) j)) (fun j hj => by rw [if_pos ⟨Nat.zero_le _, by omega⟩]; first | rfl | (simp only [Nat.sub_zero]))
          replace r_bx := r_bx.stepG hg33 om
          replace r_g := r_g.stepG hg33 om
          replace r_b_y := r_b_y.stepG hg33 om
          replace hk := thenG hk hg33 om
          refine wpList_nil (inb_n (then_n (wp_region_lit (w_mv (ei s4_8) (w_val (y_bin ei Ev.c (b_sub om)) (w_as ei (wpList_nil ?_)))))))
          exact then_n ⟨_, om, q + 1, rfl, _, rfl, iv, s4_0, s4_4, s4_5, s4_7, ti, r_bx, r_g, (r_b_x.congr (fun j hj => by exact congrArg U8 (congrFun (Aes.rDec_step W R s q c om om om) j))), hk⟩
      ·skip
       with_reducible refine w_skip ?_ ?_
       exact wn rfl rfl (eb (df hc17))
       with_reducible refine w_skip ?_ ?_
       exact wn rfl rfl (eb (df hc17))
       with_reducible refine w_skip ?_ ?_
       exact wn rfl rfl (eb (df hc17))
       refine w_val (y_pick_f (eb (df hc17)) Ev.c) (nt (c_ff eb (wp_exit (then_x (then_x (inb_x (then_n (sr (w_alloc (m := 16) (F := fun j => U8 (0#8)) kr ?_)))))))))
       intro b_y w34 hbe_b_y r_b_y hb35
       have ne_bx_b_y := r_bx.nb hbe_b_y
       have ne_g_b_y := r_g.nb hbe_b_y
       have ne_b_x_b_y := r_b_x.nb hbe_b_y
       have ge_b_y := gb_ hk.size hbe_b_y
       clear hbe_b_y
       replace r_bx := r_bx.step hb35
       replace r_g := r_g.step hb35
       replace r_b_x := r_b_x.step hb35
       replace hk := thenB hk hb35
       refine nt (wp_seq (sr (w_as Ev.c (nt (wp_block ?_)))))
       refine c_loop (fun dN aN wl => ∃ (k : Nat), dN = (16 - k) ∧ ∃ f36, aN = fr 79 f36 ∧ (k ≤ 16) ∧ f36 0 = pt bx 0 ∧ f36 4 = .string (str ([] : List (BitVec 8))) ∧ f36 5 = pt b_x 0 ∧ f36 7 = .int .i64 ((((n : Nat) : Int) / 4) - 1) ∧ f36 8 = .int .i64 (((R - q) : Nat) : Int) ∧ f36 10 = pt b_y 0 ∧ f36 11 = .int .i64 ((k : Nat) : Int) ∧ Row wl bx 74 513 (fun j => if j < 256 then U8 (Aes.sb j) else if j < 512 then U8 (Aes.bk (j - 256)) else .slice (some ⟨g, 0, none⟩) n cap) ∧ Row wl g 77 (n * 4) (fun j => U8 (Aes.byteOf (Aes.gw W (j / 4)) (j % 4))) ∧ Row wl b_x 78 16 (fun j => U8 (Aes.rCols Aes.fu (Aes.rAdd W (Aes.rDec W R s q) (R - q)) c j)) ∧ Row wl b_y 78 16 (fun j => if 4 * ((j / 4 + 4 - j % 4) % 4) + j % 4 < k then (fun j => U8 (Aes.rUn (fun j => Aes.rCols Aes.fu (Aes.rAdd W (Aes.rDec W R s q) (R - q)) c j) j)) j else (fun j => U8 (0#8)) j) ∧ Below w0.heap.size w0 wl) (16 - 0) ?_ ?_
       · exact ⟨0, rfl, _, rfl, iv, s3_0, s3_4, s3_5, s3_7, s3_8, rfl, ti, r_bx, r_g, r_b_x, (r_b_y.cg), hk⟩
       ·skip
        clear r_bx r_g r_b_x r_b_y hk
        rintro _ _ w37 ⟨k, rfl, f36, rfl, i4_0, s4_0, s4_4, s4_5, s4_7, s4_8, s4_10, s4_11, r_bx, r_g, r_b_x, r_b_y, hk⟩
        refine wp_seq (sr (w_mv (ei s4_11) (w_val (y_bin ei Ev.c b_lss) (nt ?_))))
        refine c_if (p := ((k : Nat) : Int) < 16) eb (fun hc38 => ?_) (fun hc38 => ?_)
        ·skip
         refine wp_skip (then_n (wp_seq (wp_block (region_t 19 AesRefAT.mixed kr ?_))))
         simp only [List.take_succ_cons, List.take_zero, List.drop_succ_cons, List.drop_zero]
         refine q_mv (ei s4_11) (q_val (fun w' hw' => y_bin ei Ev.c (b_quo om)) (q_mv (ei s4_11) (q_val (fun w' hw' => y_bin ei Ev.c (b_rem om)) (q_val (fun w' hw' => y_bin ei ei (b_add om)) (q_val (fun w' hw' => y_bin ei Ev.c (b_rem om)) (q_val (fun w' hw' => y_bin Ev.c ei (b_mul om)) (q_mv (ei s4_11) (q_val (fun w' hw' => y_bin ei Ev.c (b_rem om)) (q_val (fun w' hw' => y_bin ei ei (b_add om)) (q_mv (ex (pt bx 0) s4_0) (q_mv (ei s4_11) (q_val (fun w' hw' => y_ia1z (i := k) (ex (pt b_x 0) s4_5) ei Tryz.underlying78 AesRefAT.sz5 om om) (q_val (v := U8 (Aes.rCols Aes.fu (Aes.rAdd W (Aes.rDec W R s q) (R - q)) c k)) (fun w' hw' => y_ld (ex (pt b_x k)) AesRefAT.sc5 (cls_cell (r_b_x.val om rfl) r_b_x.lt w' hw')) (q_val (fun w' hw' => y_nc (ex (pt bx 0))) (q_val (v := pt bx 256) (fun w' hw' => y_off (y_fa (ex (pt bx 0)) (AesRefAT.fa74_1 _ _)) ro) (q_val (v := pt bx (256 + (Aes.rCols Aes.fu (Aes.rAdd W (Aes.rDec W R s q) (R - q)) c k).toNat)) (fun w' hw' => y_off (y_ia1 (i := ((Aes.rCols Aes.fu (Aes.rAdd W (Aes.rDec W R s q) (R - q)) c k).toNat)) (ex (pt bx 256)) (ex (.int .u8 ((Aes.rCols Aes.fu (Aes.rAdd W (Aes.rDec W R s q) (R - q)) c k).toNat : Int))) Tryz.underlying71 AesRefAT.sz5 rfl om) ro) (q_val (v := U8 (Aes.bk ((Aes.rCols Aes.fu (Aes.rAdd W (Aes.rDec W R s q) (R - q)) c k).toNat))) (fun w' hw' => y_ld (ex (pt bx (256 + (Aes.rCols Aes.fu (Aes.rAdd W (Aes.rDec W R s q) (R - q)) c k).toNat))) AesRefAT.sc5 (cls_cell (r_bx.val om (ng pz)) r_bx.lt w' hw')) (q_val (fun w' hw' => y_ia1z (i := ((4 * (((k / 4) + (k % 4)) % 4)) + (k % 4))) (ex (pt b_y 0) s4_10) ei Tryz.underlying78 AesRefAT.sz5 om om) (q_nil ?_)))))))))))))))))))
         intro w39 hb40
         replace r_bx := r_bx.step hb40
         replace r_g := r_g.step hb40
         replace r_b_x := r_b_x.step hb40
         replace r_b_y := r_b_y.step hb40
         replace hk := thenB hk hb40
         refine w_st (v := U8 (Aes.bk ((Aes.rCols Aes.fu (Aes.rAdd W (Aes.rDec W R s q) (R - q)) c k).toNat))) (ex (pt b_y ((4 * (((k / 4) + (k % 4)) % 4)) + (k % 4)))) e8 rfl rfl AesRefAT.sz5 r_b_y om ?_
         clear r_b_y; intro w41 r_b_y hg42 _
         replace r_bx := r_bx.stepG hg42 om
         replace r_g := r_g.stepG hg42 om
         replace r_b_x := r_b_x.stepG hg42 om
         replace hk := thenG hk hg42 om
         refine wpList_nil (inb_n (then_n (wp_region_lit (w_mv (ei s4_11) (w_val (y_bin ei Ev.c (b_add om)) (w_as ei (wpList_nil ?_)))))))
         exact then_n ⟨_, om, k + 1, rfl, _, rfl, iv, s4_0, s4_4, s4_5, s4_7, s4_8, s4_10, ti, r_bx, r_g, r_b_x, (r_b_y.congr (fun j hj => by exact Aes.un_row (fun j => Aes.rCols Aes.fu (Aes.rAdd W (Aes.rDec W R s q) (R - q)) c j) k j om hj)), hk⟩
        ·skip
         refine wp_exit (then_x ?_)
         replace r_b_y := r_b_y.congr (g := fun j => U8 (Aes.rUn (fun j => Aes.rCols Aes.fu (Aes.rAdd W (Aes.rDec W R s q) (R - q)) c j) j)) (fun j hj => by dsimp only; rw [if_pos om])
         refine then_x (inb_x (then_n (wp_region_lit (w_val (v := .agg (arr 16 (fun j => U8 (Aes.rUn (fun j => Aes.rCols Aes.fu (Aes.rAdd W (Aes.rDec W R s q) (R - q)) c j) j)))) (y_lda (ex (pt b_y 0) s4_10) AesRefAT.ag78 AesRefAT.sz78 (fun j hj => by rw [Nat.zero_add]; exact (r_b_y.cell om))) (w_sta (k := 16) (G := fun j => U8 (Aes.rUn (fun j => Aes.rCols Aes.fu (Aes.rAdd W (Aes.rDec W R s q) (R - q)) c j) j)) (ex (pt b_x 0) s4_5) ea oc AesRefAT.sz78 r_b_x om ?_)))))
         clear r_b_x; intro w43 r_b_x hg44 _
         replace r_b_x := r_b_x.congr (g := fun j => U8 (Aes.rUn (fun j => Aes.rCols Aes.fu (Aes.rAdd W (Aes.rDec W R s q) (R - q)) c j) j)) (fun j hj => by rw [if_pos ⟨Nat.zero_le _, by omega⟩]; first | rfl | (simp only [Nat.sub_zero]))
         replace r_bx := r_bx.stepG hg44 om
         replace r_g := r_g.stepG hg44 om
         replace r_b_y := r_b_y.stepG hg44 om
         replace hk := thenG hk hg44 om
         refine wpList_nil (inb_n (then_n (wp_region_lit (w_mv (ei s4_8) (w_val (y_bin ei Ev.c (b_sub om)) (w_as ei (wpList_nil ?_)))))))
         exact then_n ⟨_, om, q + 1, rfl, _, rfl, iv, s4_0, s4_4, s4_5, s4_7, ti, r_bx, r_g, (r_b_x.congr (fun j hj => by exact congrArg U8 (congrFun (Aes.rDec_step W R s q c om om om) j))), hk⟩
    ·skip
     refine wp_exit (then_x (then_x (inb_x (then_n (sr (w_mv (ex (pt bx 0) s2_0) (w_val (v := .agg (arr 16 (fun j => U8 (Aes.rDec W R s q j)))) (y_lda (ex (pt b_x 0) s2_5) AesRefAT.ag78 AesRefAT.sz78 (fun j hj => by rw [Nat.zero_add]; exact (r_b_x.cell om))) (w_call (Tryz.func50) kr rfl (m3 (ex (pt bx 0)) ea Ev.c) (refAdd_c bx g n cap W (fun j => Aes.rDec W R s q j) 0 om om w9 r_bx r_g) ?_))))))))
     rintro _ w45 ⟨rfl, hb46⟩
     refine ⟨_, rfl, ?_⟩
     replace r_bx := r_bx.step hb46
     replace r_g := r_g.step hb46
     replace r_b_x := r_b_x.step hb46
     replace hk := thenB hk hb46
     refine w_sta (k := 16) (G := fun j => U8 (Aes.rAdd W (fun j => Aes.rDec W R s q j) 0 j)) (ex (pt b_x 0) s2_5) ea oc AesRefAT.sz78 r_b_x om ?_
     clear r_b_x; intro w47 r_b_x hg48 _
     replace r_b_x := r_b_x.congr (g := fun j => U8 (Aes.rAdd W (fun j => Aes.rDec W R s q j) 0 j)) (fun j hj => by rw [if_pos ⟨Nat.zero_le _, by omega⟩]; first | rfl | (simp only [Nat.sub_zero]))
     replace r_bx := r_bx.stepG hg48 om
     replace r_g := r_g.stepG hg48 om
     replace hk := thenG hk hg48 om
     refine nt (sr (w_val (v := .slice (some ⟨b_x, 0, none⟩) 16 16) (y_sloff (y_slp (ex (pt b_x 0) s2_5) evo.no evo.no Tryz.underlying78 AesRefAT.sz5 bnd_ om) ro rfl) (w_val (y_str (l := (List.range 16).map (Aes.rAdd W (Aes.rDec W R s q) 0)) el (by simp) Tryz.underlying47 Tryz.underlying5 Tryz.underlying9 (fun j hj => (r_b_x.val om (by (try dsimp only); rw [Nat.zero_add, gb_map _ _ _ hj])))) (w_as es (nt (wp_ret (fin_ret1 rfl es ?_)))))))
     refine ⟨congrArg Ending.returned ?_, hk⟩
     show (.string (str ((List.range 16).map (Aes.rAdd W (Aes.rDec W R s q) 0))) : Value) = .string (str ((List.range 16).map (Aes.rAdd W (Aes.rDec W R s R) 0)))
     obtain rfl : q = R := by omega
     rfl
end Go.Proofs.YtepogbfkmflooaaGreatDoor
