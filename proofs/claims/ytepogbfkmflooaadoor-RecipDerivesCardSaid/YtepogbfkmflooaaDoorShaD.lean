/-
  Digests: writing, copying, summing. Conditions as each says.
-/
import Derived.Test.YtepogbfkmflooaaDoorRows
import Derived.Test.YtepogbfkmflooaaDoorShaC
import Derived.Test.YtepogbfkmflooaaDoorGenSh
import Derived.ProofKit
namespace Go.Proofs.YtepogbfkmflooaaDoor
open Go.RowKit
set_option linter.unusedSimpArgs false
set_option linter.unusedVariables false
set_option maxRecDepth 100000
set_option maxHeartbeats 1000000
namespace ShaDT
theorem mixed : Tryd.prog.follows .mixedOrders = true := by kernel_rfl
theorem ag134 : (Tryd.prog.underlying 134).map isAggD = some true := by rw [Tryd.underlying134]; rfl
theorem ag88 : (Tryd.prog.underlying 88).map isAggD = some true := by rw [Tryd.underlying88]; rfl
theorem fa134_0 (g off : Nat) : ∀ w, (Instr.fieldAt 134 (.pointer (some ⟨g, off, none⟩)) 0).run Tryd.prog w = .ok (.pointer (some ⟨g, off + 0, none⟩)) w := fun w => by kernel_rfl
theorem fa134_1 (g off : Nat) : ∀ w, (Instr.fieldAt 134 (.pointer (some ⟨g, off, none⟩)) 1).run Tryd.prog w = .ok (.pointer (some ⟨g, off + 1, none⟩)) w := fun w => by kernel_rfl
theorem fa134_2 (g off : Nat) : ∀ w, (Instr.fieldAt 134 (.pointer (some ⟨g, off, none⟩)) 2).run Tryd.prog w = .ok (.pointer (some ⟨g, off + 9, none⟩)) w := fun w => by kernel_rfl
theorem fa134_3 (g off : Nat) : ∀ w, (Instr.fieldAt 134 (.pointer (some ⟨g, off, none⟩)) 3).run Tryd.prog w = .ok (.pointer (some ⟨g, off + 137, none⟩)) w := fun w => by kernel_rfl
theorem fa134_4 (g off : Nat) : ∀ w, (Instr.fieldAt 134 (.pointer (some ⟨g, off, none⟩)) 4).run Tryd.prog w = .ok (.pointer (some ⟨g, off + 138, none⟩)) w := fun w => by kernel_rfl
theorem sc102 : (Tryd.prog.underlying 102).map scal = some true := by rw [Tryd.underlying102]; rfl
theorem sc3 : (Tryd.prog.underlying 3).map scal = some true := by rw [Tryd.underlying3]; rfl
theorem sc5 : (Tryd.prog.underlying 5).map scal = some true := by rw [Tryd.underlying5]; rfl
theorem sc58 : (Tryd.prog.underlying 58).map scal = some true := by rw [Tryd.underlying58]; rfl
theorem so102 : (Tryd.prog.underlying 102).isSome = true := by rw [Tryd.underlying102]; rfl
theorem so3 : (Tryd.prog.underlying 3).isSome = true := by rw [Tryd.underlying3]; rfl
theorem so5 : (Tryd.prog.underlying 5).isSome = true := by rw [Tryd.underlying5]; rfl
theorem so58 : (Tryd.prog.underlying 58).isSome = true := by rw [Tryd.underlying58]; rfl
theorem sz102 : (Tryd.prog.info? 102).map (·.size) = some 1 := by kernel_rfl
theorem sz134 : (Tryd.prog.info? 134).map (·.size) = some 139 := by kernel_rfl
theorem sz160 : (Tryd.prog.info? 160).map (·.size) = some 8 := by kernel_rfl
theorem sz3 : (Tryd.prog.info? 3).map (·.size) = some 1 := by kernel_rfl
theorem sz5 : (Tryd.prog.info? 5).map (·.size) = some 1 := by kernel_rfl
theorem sz58 : (Tryd.prog.info? 58).map (·.size) = some 1 := by kernel_rfl
theorem sz88 : (Tryd.prog.info? 88).map (·.size) = some 8 := by kernel_rfl
end ShaDT
theorem hrow_one (kd : Value) (hh : Nat → BitVec 64) (rr : Nat → BitVec 8) (n al : Value) (j : Nat) (h1 : kd.oneCell' = true) (h2 : n.oneCell' = true) (h3 : al.oneCell' = true) : (Sha.hrow kd hh rr n al j).oneCell' = true := by
  unfold Sha.hrow
  split
  · exact h1
  split
  · exact U64.oneCell _
  split
  · exact U8.oneCell _
  split
  · exact h2
  · exact h3

theorem write_256 (h : Nat) (h1 : 0 < h ∧ 1 < h) (m : List (BitVec 8)) (s : List (BitVec 8)) (hs : s.length ≤ 140737488351232) (rr : Nat → BitVec 8) (hr : ∀ j, j < m.length % 64 → rr j = gb m (64 * (m.length / 64) + j)) (w0 : World) (r_h : Row w0 h 134 139 (Sha.hrow (.int .i64 256) (Sha.st 256 (gb m) (m.length / 64)) rr (.int .i64 (((m.length % 64) : Nat) : Int)) (U64 (BitVec.ofNat 64 m.length)))) (hT : Sha.Tabs w0) : Calls Tryd.prog 49 #[pt h 0, .string (str s)] w0 fun e w' => e = .returned (.int .i64 0) ∧ Sha.At w' h 256 (m ++ s) ∧ w0.grownBy w' (some h) := by
 have hT0 := hT.lt
 refine enter (n := 27) Tryd.func49 rfl rfl rfl ?_
 have hk : w0.grownBy w0 (some h) := grown_refl _ _
 have lt_h := r_h.lt
 refine sr (w_as Ev.c (nt (wp_seq (sr (w_mv (ex (pt h 0)) (w_val (y_bin (ex (pt h 0)) Ev.c (b_eqp Tryd.underlying77)) (w_mv eb (w_val_g (v := pt h 0) (wy rfl rfl eb) (y_mv (ex (pt h 0))) (w_val_g (wy rfl rfl eb) (y_nc (ex (pt h 0))) (w_val_g (v := pt h 0) (wy rfl rfl eb) (y_off (y_fa (ex (pt h 0)) (ShaDT.fa134_0 _ _)) ro) (w_val_g (v := .int .i64 256) (wy rfl rfl eb) (y_ld (ex (pt h 0)) ShaDT.sc3 (r_h.val om pz)) (w_val_g (wy rfl rfl eb) (y_bin ei Ev.c b_eql) (w_val (y_pick_f eb eb) (nt (c_ff eb (wp_skip (then_n (sr (w_mv (ex (pt h 0)) (w_val (y_nc (ex (pt h 0))) (w_val (v := pt h 138) (y_off (y_fa (ex (pt h 0)) (ShaDT.fa134_4 _ _)) ro) (w_val (v := U64 (BitVec.ofNat 64 m.length)) (y_ld (ex (pt h 138)) ShaDT.sc58 (r_h.val om (ng (ng (ng (ng dv)))))) (w_mv es (w_val (y_len es Tryd.underlying9) (w_val (y_nat_u64 (p := s.length) ei om ShaDT.so3 Tryd.underlying58) (w_val (y_bin e6 e6 add64) (w_val (y_nc (ex (pt h 0))) (w_val (v := pt h 138) (y_off (y_fa (ex (pt h 0)) (ShaDT.fa134_4 _ _)) ro) (w_st (v := U64 ((BitVec.ofNat 64 m.length) + (BitVec.ofNat 64 s.length))) (ex (pt h 138)) e6 rfl rfl ShaDT.sz58 r_h om ?_)))))))))))))))))))))))))))))
 clear r_h; intro w1 r_h hg2 _
 replace hk := grown_thenG hk hg2 om
 replace hT := Sha.Tabs.grown hT hg2 om om
 refine nt (sr (w_mv (ex (pt h 0)) (w_mv es ?_)))
 replace r_h := r_h.congr (g := Sha.hrow (.int .i64 256) (Sha.st 256 (gb m) (m.length / 64)) rr (.int .i64 (((m.length % 64) : Nat) : Int)) (U64 ((BitVec.ofNat 64 m.length) + (BitVec.ofNat 64 s.length)))) (fun j hj => Sha.all_row _ _ _ _ _ _ j hj)
 have rh_ := r_h
 clear r_h
 refine w_call (Tryd.func72) kr rfl (m2 (ex (pt h 0)) es) (put_256 h om m s om rr ((BitVec.ofNat 64 m.length) + (BitVec.ofNat 64 s.length)) hr w1 rh_ hT) ?_
 rintro _ w3 ⟨rfl, rr', hr', r_h, hgf⟩
 refine ⟨_, rfl, ?_⟩
 replace hk := grown_thenG hk hgf om
 replace hT := Sha.Tabs.grown hT hgf om om
 refine nt (sr (w_as Ev.c (nt (wp_ret (fin_ret1 rfl ei ?_)))))
 exact ⟨rfl, Sha.At.of 256 64 (m.length + s.length) rfl (m ++ s) List.length_append rr' hr' (by rw [BitVec.ofNat_add]; exact r_h), hk⟩

theorem copy_256 (h : Nat) (h1 : 0 < h ∧ 1 < h) (m : List (BitVec 8)) (rr : Nat → BitVec 8) (hr : ∀ j, j < m.length % 64 → rr j = gb m (64 * (m.length / 64) + j)) (w0 : World) (r_h : Row w0 h 134 139 (Sha.hrow (.int .i64 256) (Sha.st 256 (gb m) (m.length / 64)) rr (.int .i64 (((m.length % 64) : Nat) : Int)) (U64 (BitVec.ofNat 64 m.length)))) : Calls Tryd.prog 50 #[pt h 0] w0 fun e w' => ∃ p, e = .returned (.pointer (some ⟨p, 0, none⟩)) ∧ w0.heap.size ≤ p ∧ Sha.At w' p 256 m ∧ Below w0.heap.size w0 w' := by
 refine enter (n := 16) Tryd.func50 rfl rfl rfl ?_
 have hk : Below w0.heap.size w0 w0 := Below.refl _ _
 have lt_h := r_h.lt
 refine sr (w_as Ev.c (nt (wp_seq (sr (w_mv (ex (pt h 0)) (w_val (y_bin (ex (pt h 0)) Ev.c (b_eqp Tryd.underlying77)) (w_mv eb (w_val_g (v := pt h 0) (wy rfl rfl eb) (y_mv (ex (pt h 0))) (w_val_g (wy rfl rfl eb) (y_nc (ex (pt h 0))) (w_val_g (v := pt h 0) (wy rfl rfl eb) (y_off (y_fa (ex (pt h 0)) (ShaDT.fa134_0 _ _)) ro) (w_val_g (v := .int .i64 256) (wy rfl rfl eb) (y_ld (ex (pt h 0)) ShaDT.sc3 (r_h.val om pz)) (w_val_g (wy rfl rfl eb) (y_bin ei Ev.c b_eql) (w_val (y_pick_f eb eb) (nt (c_ff eb (wp_skip (then_n (sr (w_mv (ex (pt h 0)) (w_val (y_nc (ex (pt h 0))) (w_val (v := .agg (arr 139 (Sha.hrow (.int .i64 256) (Sha.st 256 (gb m) (m.length / 64)) rr (.int .i64 (((m.length % 64) : Nat) : Int)) (U64 (BitVec.ofNat 64 m.length))))) (y_lda (ex (pt h 0)) ShaDT.ag134 ShaDT.sz134 (fun j hj => by rw [Nat.zero_add]; exact (r_h.cell om))) (w_alloc (m := 139) (F := fun j => if j < 1 then .int .i64 0 else if j < 9 then U64 (0#64) else if j < 137 then U8 (0#8) else if j < 138 then .int .i64 0 else U64 (0#64)) kr ?_))))))))))))))))))))))
 intro b_x w1 hbe_b_x r_b_x hb2
 have ne_h_b_x := r_h.nb hbe_b_x
 have ge_b_x := gb_ hk.size hbe_b_x
 clear hbe_b_x
 replace r_h := r_h.step hb2
 replace hk := thenB hk hb2
 refine w_sta (k := 139) (G := Sha.hrow (.int .i64 256) (Sha.st 256 (gb m) (m.length / 64)) rr (.int .i64 (((m.length % 64) : Nat) : Int)) (U64 (BitVec.ofNat 64 m.length))) (ex (pt b_x 0)) ea (fun j _ => by exact hrow_one _ _ _ _ _ j rfl rfl rfl) ShaDT.sz134 r_b_x om ?_
 clear r_b_x; intro w3 r_b_x hg4 _
 replace r_b_x := r_b_x.congr (g := Sha.hrow (.int .i64 256) (Sha.st 256 (gb m) (m.length / 64)) rr (.int .i64 (((m.length % 64) : Nat) : Int)) (U64 (BitVec.ofNat 64 m.length))) (fun j hj => by rw [if_pos ⟨Nat.zero_le _, by omega⟩]; first | rfl | (simp only [Nat.sub_zero]))
 replace r_h := r_h.stepG hg4 om
 replace hk := thenG hk hg4 om
 refine nt (sr (w_as (ex (pt b_x 0)) (nt (wp_ret (fin_ret1 rfl (ex (pt b_x 0)) ?_)))))
 exact ⟨b_x, rfl, ge_b_x, Sha.At.of 256 64 m.length rfl m rfl rr hr r_b_x, hk⟩

theorem sum_256 (h : Nat) (h1 : 0 < h ∧ 1 < h) (m : List (BitVec 8)) (hm : m.length ≤ 1152921504606846976) (rr : Nat → BitVec 8) (hr : ∀ j, j < m.length % 64 → rr j = gb m (64 * (m.length / 64) + j)) (w0 : World) (r_h : Row w0 h 134 139 (Sha.hrow (.int .i64 256) (Sha.st 256 (gb m) (m.length / 64)) rr (.int .i64 (((m.length % 64) : Nat) : Int)) (U64 (BitVec.ofNat 64 m.length)))) (hT : Sha.Tabs w0) : Calls Tryd.prog 51 #[pt h 0] w0 fun e w' => e = .returned (.tuple #[.string (str (Sha.sum 256 m)), .int .i64 0]) ∧ Below w0.heap.size w0 w' := by
 have hT0 := hT.lt
 have hpl : Sha.padl 256 m.length = ((((119 - (m.length % 64)) % 64) + 1) + 8) := by rw [Sha.padl_eq 256 64 _ rfl]
 have hlp : (Sha.pad 256 m.length).length = ((((119 - (m.length % 64)) % 64) + 1) + 8) := by rw [Sha.length_pad, hpl]
 refine enter (n := 117) Tryd.func51 rfl rfl rfl ?_
 have hk : Below w0.heap.size w0 w0 := Below.refl _ _
 have lt_h := r_h.lt
 refine sr (w_as (evc (.string (str ([] : List (BitVec 8))))) (w_as Ev.c (nt (wp_seq (sr (w_mv (ex (pt h 0)) (w_val (y_bin (ex (pt h 0)) Ev.c (b_eqp Tryd.underlying77)) (w_mv eb (w_val_g (v := pt h 0) (wy rfl rfl eb) (y_mv (ex (pt h 0))) (w_val_g (wy rfl rfl eb) (y_nc (ex (pt h 0))) (w_val_g (v := pt h 0) (wy rfl rfl eb) (y_off (y_fa (ex (pt h 0)) (ShaDT.fa134_0 _ _)) ro) (w_val_g (v := .int .i64 256) (wy rfl rfl eb) (y_ld (ex (pt h 0)) ShaDT.sc3 (r_h.val om pz)) (w_val_g (wy rfl rfl eb) (y_bin ei Ev.c b_eql) (w_val (y_pick_f eb eb) (nt (c_ff eb (wp_skip (then_n (sr (w_mv (ex (pt h 0)) (w_val (y_nc (ex (pt h 0))) (w_val (v := pt h 0) (y_off (y_fa (ex (pt h 0)) (ShaDT.fa134_0 _ _)) ro) (w_val (v := .int .i64 256) (y_ld (ex (pt h 0)) ShaDT.sc3 (r_h.val om pz)) (w_call (Tryd.func37) kr rfl (m1 ei) (shaSize_256  w0) ?_))))))))))))))))))))))))
 rintro _ w1 ⟨rfl, hb2⟩
 refine ⟨_, rfl, ?_⟩
 replace r_h := r_h.step hb2
 replace hk := thenB hk hb2
 replace hT := Sha.Tabs.below hT hb2
 refine w_mv (ex (.tuple #[.int .i64 32, .int .i64 64, .int .i64 0])) (w_val ye (w_val ye (w_val ye (w_as ei (w_as ei (w_as ei (nt (sr (w_mv (ex (pt h 0)) (w_val (y_nc (ex (pt h 0))) (w_val (v := .agg (arr 139 (Sha.hrow (.int .i64 256) (Sha.st 256 (gb m) (m.length / 64)) rr (.int .i64 (((m.length % 64) : Nat) : Int)) (U64 (BitVec.ofNat 64 m.length))))) (y_lda (ex (pt h 0)) ShaDT.ag134 ShaDT.sz134 (fun j hj => by rw [Nat.zero_add]; exact (r_h.cell om))) (w_alloc (m := 139) (F := fun j => if j < 1 then .int .i64 0 else if j < 9 then U64 (0#64) else if j < 137 then U8 (0#8) else if j < 138 then .int .i64 0 else U64 (0#64)) kr ?_))))))))))))
 intro b_x w3 hbe_b_x r_b_x hb4
 have ne_h_b_x := r_h.nb hbe_b_x
 have ge_b_x := gb_ hk.size hbe_b_x
 clear hbe_b_x
 replace r_h := r_h.step hb4
 replace hk := thenB hk hb4
 replace hT := Sha.Tabs.below hT hb4
 refine w_sta (k := 139) (G := Sha.hrow (.int .i64 256) (Sha.st 256 (gb m) (m.length / 64)) rr (.int .i64 (((m.length % 64) : Nat) : Int)) (U64 (BitVec.ofNat 64 m.length))) (ex (pt b_x 0)) ea (fun j _ => by exact hrow_one _ _ _ _ _ j rfl rfl rfl) ShaDT.sz134 r_b_x om ?_
 clear r_b_x; intro w5 r_b_x hg6 _
 replace r_b_x := r_b_x.congr (g := Sha.hrow (.int .i64 256) (Sha.st 256 (gb m) (m.length / 64)) rr (.int .i64 (((m.length % 64) : Nat) : Int)) (U64 (BitVec.ofNat 64 m.length))) (fun j hj => by rw [if_pos ⟨Nat.zero_le _, by omega⟩]; first | rfl | (simp only [Nat.sub_zero]))
 replace r_h := r_h.stepG hg6 om
 replace hk := thenG hk hg6 om
 replace hT := Sha.Tabs.grown hT hg6 om om
 refine nt (sr (w_mv ei (w_val (y_bin ei Ev.c (b_quo om)) (w_as ei (nt (sr (w_mv ei (w_val (y_bin Ev.c ei (b_mul om)) (w_mv ei (w_val (y_bin ei ei (b_sub om)) (w_val (y_bin ei Ev.c (b_sub om)) (w_val (v := pt b_x 137) (y_off (y_fa (ex (pt b_x 0)) (ShaDT.fa134_3 _ _)) ro) (w_val (v := .int .i64 (((m.length % 64) : Nat) : Int)) (y_ld (ex (pt b_x 137)) ShaDT.sc3 (r_b_x.val om (ng (ng (ng pz))))) (w_val (y_bin ei ei (b_sub om)) (w_mv ei (w_val (y_bin ei ei (b_rem om)) (w_val (y_bin ei Ev.c (b_add om)) (w_mv ei (w_val (y_bin ei ei (b_add om)) (w_mks (m := ((((119 - (m.length % 64)) % 64) + 1) + 8)) (bytes := 1) (zv := U8 (0#8)) ei ei om om Tryd.underlying63 kr rfl om om ?_))))))))))))))))))))
 intro b_50 w7 hbe_b_50 r_b_50 hb8
 have ne_h_b_50 := r_h.nb hbe_b_50
 have ne_b_x_b_50 := r_b_x.nb hbe_b_50
 have ge_b_50 := gb_ hk.size hbe_b_50
 clear hbe_b_50
 replace r_h := r_h.step hb8
 replace r_b_x := r_b_x.step hb8
 replace hk := thenB hk hb8
 replace hT := Sha.Tabs.below hT hb8
 refine w_as el (nt (sr (w_mv el (w_val (y_is1z (i := 0) el Ev.c Tryd.underlying63 ShaDT.sz5 om om) (w_st (v := U8 (128#8)) (ex (pt b_50 0)) (evc (U8 (128#8))) rfl rfl ShaDT.sz5 r_b_50 om ?_)))))
 clear r_b_50; intro w9 r_b_50 hg10 _
 replace r_h := r_h.stepG hg10 om
 replace r_b_x := r_b_x.stepG hg10 om
 replace hk := thenG hk hg10 om
 replace hT := Sha.Tabs.grown hT hg10 om om
 refine nt (wp_seq (sr (w_mv Ev.c (nt (wp_block ?_)))))
 refine c_loop (fun dN aN wl => ∃ (i : Nat), dN = (8 - i) ∧ ∃ f11, aN = fr 117 f11 ∧ (i ≤ 8) ∧ f11 2 = .string (str ([] : List (BitVec 8))) ∧ f11 3 = .int .i64 0 ∧ f11 4 = .int .i64 32 ∧ f11 5 = .int .i64 64 ∧ f11 7 = pt b_x 0 ∧ f11 8 = .int .i64 8 ∧ f11 9 = .slice (some ⟨b_50, 0, none⟩) ((((119 - (m.length % 64)) % 64) + 1) + 8) ((((119 - (m.length % 64)) % 64) + 1) + 8) ∧ f11 53 = .int .i64 ((i : Nat) : Int) ∧ Row wl h 134 139 (Sha.hrow (.int .i64 256) (Sha.st 256 (gb m) (m.length / 64)) rr (.int .i64 (((m.length % 64) : Nat) : Int)) (U64 (BitVec.ofNat 64 m.length))) ∧ Row wl b_x 134 139 (Sha.hrow (.int .i64 256) (Sha.st 256 (gb m) (m.length / 64)) rr (.int .i64 (((m.length % 64) : Nat) : Int)) (U64 (BitVec.ofNat 64 m.length))) ∧ Row wl b_50 5 ((((119 - (m.length % 64)) % 64) + 1) + 8) (fun j => if ((((119 - (m.length % 64)) % 64) + 1) + 8) ≤ j + i then (fun j => U8 (gb (Oct.be (BitVec.ofNat 64 (8 * m.length)) 8) (j - (((((119 - (m.length % 64)) % 64) + 1) + 8) - 8)))) j else (fun j => if j = 0 then U8 (128#8) else (fun j => U8 (0#8)) j) j) ∧ Sha.Tabs wl ∧ Below w0.heap.size w0 wl) (8 - 0) ?_ ?_
 · exact ⟨0, rfl, _, rfl, iv, rfl, rfl, rfl, rfl, rfl, rfl, rfl, ti, r_h, r_b_x, (r_b_50.congr (fun j hj => by exact (if_neg om).symm)), hT, hk⟩
 ·skip
  clear r_h r_b_x r_b_50 hT hk
  rintro _ _ w12 ⟨i, rfl, f11, rfl, i1_0, s1_2, s1_3, s1_4, s1_5, s1_7, s1_8, s1_9, s1_53, r_h, r_b_x, r_b_50, hT, hk⟩
  refine sr (w_val (y_bin (ei s1_53) Ev.c b_lss) (nt (wp_seq ?_)))
  refine c_if (p := ((i : Nat) : Int) < 8) eb (fun hc13 => ?_) (fun hc13 => ?_)
  ·skip
   refine wp_skip (then_n (wp_seq (wp_block (sr (w_mv (ei s1_53) (w_as ei (nt (wp_region_lit (w_mv (el s1_9) (w_mv (el s1_9) (w_val (v := .int .i64 ((((((119 - (m.length % 64)) % 64) + 1) + 8) : Nat) : Int)) (y_len_sl el Tryd.underlying63) (w_val (y_bin ei Ev.c (b_sub om)) (w_mv ei (w_val (y_bin ei ei (b_sub om)) (w_val (v := pt b_x 138) (y_off (y_fa (ex (pt b_x 0) s1_7) (ShaDT.fa134_4 _ _)) ro) (w_val (v := U64 (BitVec.ofNat 64 m.length)) (y_ld (ex (pt b_x 138)) ShaDT.sc58 (r_b_x.val om (ng (ng (ng (ng dv)))))) (w_val (y_bin e6 (evc (.int .u64 3)) (shl64 (c := 3) rfl)) (w_mv ei (w_val (y_bin Ev.c ei (b_mul om)) (w_val (y_bin e6 ei (shr64 (c := (8 * i)) om)) (w_val (y_u64_u8 e6 ShaDT.so58 Tryd.underlying5) (w_val (y_is1z (i := ((((((119 - (m.length % 64)) % 64) + 1) + 8) - 1) - i)) el ei Tryd.underlying63 ShaDT.sz5 om om) (w_st (v := U8 ((((BitVec.ofNat 64 m.length) <<< 3) >>> (8 * i)).setWidth 8)) (ex (pt b_50 ((((((119 - (m.length % 64)) % 64) + 1) + 8) - 1) - i))) e8 rfl rfl ShaDT.sz5 r_b_50 om ?_)))))))))))))))))))))))
   clear r_b_50; intro w14 r_b_50 hg15 _
   replace r_h := r_h.stepG hg15 om
   replace r_b_x := r_b_x.stepG hg15 om
   replace hk := thenG hk hg15 om
   replace hT := Sha.Tabs.grown hT hg15 om om
   refine wpList_nil (inb_n (then_n (wp_region_lit (w_val (y_bin (ei s1_53) Ev.c (b_add om)) (w_mv ei (wpList_nil ?_))))))
   exact then_n ⟨_, om, i + 1, rfl, _, rfl, iv, s1_2, s1_3, s1_4, s1_5, s1_7, s1_8, s1_9, ti, r_h, r_b_x, (r_b_50.congr (fun j hj => by (try dsimp only); by_cases e : j = ((((119 - (m.length % 64)) % 64) + 1) + 8) - 1 - i; (rw [if_pos e, if_pos om, Sha.len_byte _ _ om]; exact congrArg U8 (congrArg (gb _) om)); (rw [if_neg e]; by_cases e2 : ((((119 - (m.length % 64)) % 64) + 1) + 8) ≤ j + i; (rw [if_pos e2]; exact (if_pos om).symm); (rw [if_neg e2]; exact (if_neg om).symm)))), hT, hk⟩
  ·skip
   refine wp_exit (then_x (then_x (inb_x (then_n (wp_seq (sr (w_mv (ei s1_8) (w_val (y_bin ei Ev.c b_eql) (nt (c_ff eb (wp_skip (then_n (wp_seq ?_)))))))))))))
   replace r_b_50 := r_b_50.congr (g := fun j => U8 (gb (Sha.pad 256 m.length) j)) (fun j hj => by rw [show i = 8 from by omega]; exact Sha.pad_row 256 m.length _ j om hj)
   refine wp_region_lit (w_mv (el s1_9) (w_val (y_str (l := Sha.pad 256 m.length) el (by first | rfl | assumption | (simp; omega) | omega) Tryd.underlying63 Tryd.underlying5 Tryd.underlying9 (fun j hj => by rw [Nat.zero_add]; exact (r_b_50.cell om))) ?_))
   have rh_ := r_b_x
   clear r_b_x
   refine w_call (Tryd.func72) kr rfl (m2 (ex (pt b_x 0) s1_7) es) (put_256 b_x om m (Sha.pad 256 m.length) om rr (BitVec.ofNat 64 m.length) hr w12 rh_ hT) ?_
   rintro _ w16 ⟨rfl, rr', hr', r_b_x, hgf⟩
   refine ⟨_, rfl, ?_⟩
   replace r_h := r_h.stepG hgf om
   replace r_b_50 := r_b_50.stepG hgf om
   replace hk := thenG hk hgf om
   replace hT := Sha.Tabs.grown hT hgf om om
   refine nt (wp_seq ?_)
   replace r_b_x := r_b_x.congr (g := Sha.hrow (.int .i64 256) (Sha.st 256 (gb (Sha.full 256 m)) (Sha.nb 256 m)) rr' (.int .i64 ((((m.length + (Sha.pad 256 m.length).length) % 64) : Nat) : Int)) (U64 (BitVec.ofNat 64 m.length))) (fun j hj => Sha.hrow_congr _ _ _ _ _ _ _ j (fun i _ => by rw [Sha.length_pad]; rfl) (fun _ _ => rfl))
   refine wp_region_lit (w_alloc (m := 64) (F := fun j => U8 (0#8)) kr ?_)
   intro b_out w17 hbe_b_out r_b_out hb18
   have ne_h_b_out := r_h.nb hbe_b_out
   have ne_b_x_b_out := r_b_x.nb hbe_b_out
   have ne_b_50_b_out := r_b_50.nb hbe_b_out
   have ge_b_out := gb_ hk.size hbe_b_out
   clear hbe_b_out
   replace r_h := r_h.step hb18
   replace r_b_x := r_b_x.step hb18
   replace r_b_50 := r_b_50.step hb18
   replace hk := thenB hk hb18
   replace hT := Sha.Tabs.below hT hb18
   refine nt (wp_seq (sr (w_mv Ev.c (nt (wp_block ?_)))))
   refine c_loop (fun dN aN wl => ∃ (a : Nat), dN = (8 - a) ∧ ∃ f19, aN = fr 117 f19 ∧ (a ≤ 8) ∧ f19 2 = .string (str ([] : List (BitVec 8))) ∧ f19 3 = .int .i64 0 ∧ f19 4 = .int .i64 32 ∧ f19 5 = .int .i64 64 ∧ f19 7 = pt b_x 0 ∧ f19 11 = pt b_out 0 ∧ f19 85 = .int .i64 ((a : Nat) : Int) ∧ Row wl h 134 139 (Sha.hrow (.int .i64 256) (Sha.st 256 (gb m) (m.length / 64)) rr (.int .i64 (((m.length % 64) : Nat) : Int)) (U64 (BitVec.ofNat 64 m.length))) ∧ Row wl b_x 134 139 (Sha.hrow (.int .i64 256) (Sha.st 256 (gb (Sha.full 256 m)) (Sha.nb 256 m)) rr' (.int .i64 ((((m.length + (Sha.pad 256 m.length).length) % 64) : Nat) : Int)) (U64 (BitVec.ofNat 64 m.length))) ∧ Row wl b_50 5 ((((119 - (m.length % 64)) % 64) + 1) + 8) (fun j => U8 (gb (Sha.pad 256 m.length) j)) ∧ Row wl b_out 136 64 (fun j => if j < (4 * a) then (fun j => U8 ((Sha.st 256 (gb (Sha.full 256 m)) (Sha.nb 256 m) (j / 4) >>> (8 * (3 - j % 4))).setWidth 8)) j else (fun j => U8 (0#8)) j) ∧ Sha.Tabs wl ∧ Below w0.heap.size w0 wl) (8 - 0) ?_ ?_
   · exact ⟨0, rfl, _, rfl, iv, s1_2, s1_3, s1_4, s1_5, s1_7, rfl, ti, r_h, r_b_x, r_b_50, (r_b_out.congr (fun j hj => by exact (if_neg om).symm)), hT, hk⟩
   ·skip
    clear r_h r_b_x r_b_50 r_b_out hT hk
    rintro _ _ w20 ⟨a, rfl, f19, rfl, i2_0, s2_2, s2_3, s2_4, s2_5, s2_7, s2_11, s2_85, r_h, r_b_x, r_b_50, r_b_out, hT, hk⟩
    refine sr (w_val (y_bin (ei s2_85) Ev.c b_lss) (nt (wp_seq ?_)))
    refine c_if (p := ((a : Nat) : Int) < 8) eb (fun hc21 => ?_) (fun hc21 => ?_)
    ·skip
     refine wp_skip (then_n (wp_seq (wp_block (sr (w_mv (ei s2_85) (w_as ei (nt (sr (w_mv (ei s2_5) (w_val (y_bin ei Ev.c (b_quo om)) (w_mv Ev.c (nt (wp_block ?_)))))))))))))
     refine c_loop (fun dN aN wl => ∃ (b : Nat), dN = (4 - b) ∧ ∃ f22, aN = fr 117 f22 ∧ (b ≤ 4) ∧ f22 2 = .string (str ([] : List (BitVec 8))) ∧ f22 3 = .int .i64 0 ∧ f22 4 = .int .i64 32 ∧ f22 5 = .int .i64 64 ∧ f22 7 = pt b_x 0 ∧ f22 11 = pt b_out 0 ∧ f22 12 = .int .i64 ((a : Nat) : Int) ∧ f22 85 = .int .i64 ((a : Nat) : Int) ∧ f22 89 = .int .i64 4 ∧ f22 90 = .int .i64 ((b : Nat) : Int) ∧ Row wl h 134 139 (Sha.hrow (.int .i64 256) (Sha.st 256 (gb m) (m.length / 64)) rr (.int .i64 (((m.length % 64) : Nat) : Int)) (U64 (BitVec.ofNat 64 m.length))) ∧ Row wl b_x 134 139 (Sha.hrow (.int .i64 256) (Sha.st 256 (gb (Sha.full 256 m)) (Sha.nb 256 m)) rr' (.int .i64 ((((m.length + (Sha.pad 256 m.length).length) % 64) : Nat) : Int)) (U64 (BitVec.ofNat 64 m.length))) ∧ Row wl b_50 5 ((((119 - (m.length % 64)) % 64) + 1) + 8) (fun j => U8 (gb (Sha.pad 256 m.length) j)) ∧ Row wl b_out 136 64 (fun j => if j < ((a * 4) + b) then (fun j => U8 ((Sha.st 256 (gb (Sha.full 256 m)) (Sha.nb 256 m) (j / 4) >>> (8 * (3 - j % 4))).setWidth 8)) j else (fun j => U8 (0#8)) j) ∧ Sha.Tabs wl ∧ Below w0.heap.size w0 wl) (4 - 0) ?_ ?_
     · exact ⟨0, rfl, _, rfl, iv, s2_2, s2_3, s2_4, s2_5, s2_7, s2_11, rfl, s2_85, rfl, ti, r_h, r_b_x, r_b_50, (r_b_out.congr (fun j hj => by (try dsimp only); by_cases e : j < 4 * a; (rw [if_pos e, if_pos om]); (rw [if_neg e, if_neg om]))), hT, hk⟩
     ·skip
      clear r_h r_b_x r_b_50 r_b_out hT hk
      rintro _ _ w23 ⟨b, rfl, f22, rfl, i3_0, s3_2, s3_3, s3_4, s3_5, s3_7, s3_11, s3_12, s3_85, s3_89, s3_90, r_h, r_b_x, r_b_50, r_b_out, hT, hk⟩
      refine sr (w_val (y_bin (ei s3_90) (ei s3_89) b_lss) (nt (wp_seq ?_)))
      refine c_if (p := ((b : Nat) : Int) < 4) eb (fun hc24 => ?_) (fun hc24 => ?_)
      ·skip
       refine wp_skip (then_n (wp_seq (wp_block (sr (w_mv (ei s3_90) (w_as ei (nt (wp_region_lit (w_mv (ei s3_12) (w_mv (ei s3_5) (w_val (y_bin ei Ev.c (b_quo om)) (w_val (y_bin ei ei (b_mul om)) (w_mv ei (w_val (y_bin ei ei (b_add om)) (w_mv (ei s3_12) (w_val (v := pt b_x 1) (y_off (y_fa (ex (pt b_x 0) s3_7) (ShaDT.fa134_1 _ _)) ro) (w_val (v := pt b_x (1 + a)) (y_off (y_ia1 (i := a) (ex (pt b_x 1)) ei Tryd.underlying88 ShaDT.sz58 om om) ro) (w_val (v := U64 ((Sha.st 256 (gb (Sha.full 256 m)) (Sha.nb 256 m)) a)) (y_ld (ex (pt b_x (1 + a))) ShaDT.sc58 (r_b_x.val om (ng pz))) (w_mv (ei s3_5) (w_val (y_bin ei Ev.c (b_quo om)) (w_val (y_bin ei Ev.c (b_sub om)) (w_mv ei (w_val (y_bin ei ei (b_sub om)) (w_val (y_bin Ev.c ei (b_mul om)) (w_val (y_bin e6 ei (shr64 (c := (8 * (3 - b))) om)) (w_val (y_u64_u8 e6 ShaDT.so58 Tryd.underlying5) (w_val (y_ia1z (i := ((a * 4) + b)) (ex (pt b_out 0) s3_11) ei Tryd.underlying136 ShaDT.sz5 om om) (w_st (v := U8 ((((Sha.st 256 (gb (Sha.full 256 m)) (Sha.nb 256 m)) a) >>> (8 * (3 - b))).setWidth 8)) (ex (pt b_out ((a * 4) + b))) e8 rfl rfl ShaDT.sz5 r_b_out om ?_))))))))))))))))))))))))))))
       clear r_b_out; intro w25 r_b_out hg26 _
       replace r_h := r_h.stepG hg26 om
       replace r_b_x := r_b_x.stepG hg26 om
       replace r_b_50 := r_b_50.stepG hg26 om
       replace hk := thenG hk hg26 om
       replace hT := Sha.Tabs.grown hT hg26 om om
       refine wpList_nil (inb_n (then_n (wp_region_lit (w_val (y_bin (ei s3_90) Ev.c (b_add om)) (w_mv ei (wpList_nil ?_))))))
       exact then_n ⟨_, om, b + 1, rfl, _, rfl, iv, s3_2, s3_3, s3_4, s3_5, s3_7, s3_11, s3_12, s3_85, s3_89, ti, r_h, r_b_x, r_b_50, (r_b_out.congr (fun j hj => by (try dsimp only); by_cases e : j = a * 4 + b; (rw [if_pos e, if_pos om, e, show (a * 4 + b) / 4 = a from by omega, show (a * 4 + b) % 4 = b from by omega]); (rw [if_neg e]; by_cases e2 : j < a * 4 + b; (rw [if_pos e2, if_pos om]); (rw [if_neg e2, if_neg om])))), hT, hk⟩
      ·skip
       refine wp_exit (then_x (then_x (inb_x (inb_n (then_n (wp_region_lit (w_val (y_bin (ei s3_85) Ev.c (b_add om)) (w_mv ei (wpList_nil ?_)))))))))
       exact then_n ⟨_, om, a + 1, rfl, _, rfl, iv, s3_2, s3_3, s3_4, s3_5, s3_7, s3_11, ti, r_h, r_b_x, r_b_50, (r_b_out.congr (fun j hj => by (try dsimp only); by_cases e : j < a * 4 + b; (rw [if_pos e, if_pos om]); (rw [if_neg e, if_neg om]))), hT, hk⟩
    ·skip
     refine wp_exit (then_x (then_x (inb_x (then_n (sr (w_mv (ei s2_4) (w_val (v := .slice (some ⟨b_out, 0, none⟩) 32 64) (y_sloff (y_slp (ex (pt b_out 0) s2_11) evo.no (evo.s ei) Tryd.underlying136 ShaDT.sz5 (bnd_h (h := 32) om om) om) ro rfl) (w_val (y_str (l := Sha.sum 256 m) el (by rw [Sha.length_sum]; rfl) Tryd.underlying63 Tryd.underlying5 Tryd.underlying9 (fun j hj => (r_b_out.val om (by rw [Sha.gb_sum _ _ _ (show j < Sha.ol 256 from hj), Nat.zero_add]; exact if_pos om)))) (w_as es (w_as Ev.c (nt (wp_ret (fin_ret2 rfl es ei ?_)))))))))))))
     exact ⟨rfl, hk⟩

theorem write_384 (h : Nat) (h1 : 0 < h ∧ 1 < h) (m : List (BitVec 8)) (s : List (BitVec 8)) (hs : s.length ≤ 140737488351232) (rr : Nat → BitVec 8) (hr : ∀ j, j < m.length % 128 → rr j = gb m (128 * (m.length / 128) + j)) (w0 : World) (r_h : Row w0 h 134 139 (Sha.hrow (.int .i64 384) (Sha.st 384 (gb m) (m.length / 128)) rr (.int .i64 (((m.length % 128) : Nat) : Int)) (U64 (BitVec.ofNat 64 m.length)))) (hT : Sha.Tabs w0) : Calls Tryd.prog 49 #[pt h 0, .string (str s)] w0 fun e w' => e = .returned (.int .i64 0) ∧ Sha.At w' h 384 (m ++ s) ∧ w0.grownBy w' (some h) := by
 have hT0 := hT.lt
 refine enter (n := 27) Tryd.func49 rfl rfl rfl ?_
 have hk : w0.grownBy w0 (some h) := grown_refl _ _
 have lt_h := r_h.lt
 refine sr (w_as Ev.c (nt (wp_seq (sr (w_mv (ex (pt h 0)) (w_val (y_bin (ex (pt h 0)) Ev.c (b_eqp Tryd.underlying77)) (w_mv eb (w_val_g (v := pt h 0) (wy rfl rfl eb) (y_mv (ex (pt h 0))) (w_val_g (wy rfl rfl eb) (y_nc (ex (pt h 0))) (w_val_g (v := pt h 0) (wy rfl rfl eb) (y_off (y_fa (ex (pt h 0)) (ShaDT.fa134_0 _ _)) ro) (w_val_g (v := .int .i64 384) (wy rfl rfl eb) (y_ld (ex (pt h 0)) ShaDT.sc3 (r_h.val om pz)) (w_val_g (wy rfl rfl eb) (y_bin ei Ev.c b_eql) (w_val (y_pick_f eb eb) (nt (c_ff eb (wp_skip (then_n (sr (w_mv (ex (pt h 0)) (w_val (y_nc (ex (pt h 0))) (w_val (v := pt h 138) (y_off (y_fa (ex (pt h 0)) (ShaDT.fa134_4 _ _)) ro) (w_val (v := U64 (BitVec.ofNat 64 m.length)) (y_ld (ex (pt h 138)) ShaDT.sc58 (r_h.val om (ng (ng (ng (ng dv)))))) (w_mv es (w_val (y_len es Tryd.underlying9) (w_val (y_nat_u64 (p := s.length) ei om ShaDT.so3 Tryd.underlying58) (w_val (y_bin e6 e6 add64) (w_val (y_nc (ex (pt h 0))) (w_val (v := pt h 138) (y_off (y_fa (ex (pt h 0)) (ShaDT.fa134_4 _ _)) ro) (w_st (v := U64 ((BitVec.ofNat 64 m.length) + (BitVec.ofNat 64 s.length))) (ex (pt h 138)) e6 rfl rfl ShaDT.sz58 r_h om ?_)))))))))))))))))))))))))))))
 clear r_h; intro w1 r_h hg2 _
 replace hk := grown_thenG hk hg2 om
 replace hT := Sha.Tabs.grown hT hg2 om om
 refine nt (sr (w_mv (ex (pt h 0)) (w_mv es ?_)))
 replace r_h := r_h.congr (g := Sha.hrow (.int .i64 384) (Sha.st 384 (gb m) (m.length / 128)) rr (.int .i64 (((m.length % 128) : Nat) : Int)) (U64 ((BitVec.ofNat 64 m.length) + (BitVec.ofNat 64 s.length)))) (fun j hj => Sha.all_row _ _ _ _ _ _ j hj)
 have rh_ := r_h
 clear r_h
 refine w_call (Tryd.func72) kr rfl (m2 (ex (pt h 0)) es) (put_384 h om m s om rr ((BitVec.ofNat 64 m.length) + (BitVec.ofNat 64 s.length)) hr w1 rh_ hT) ?_
 rintro _ w3 ⟨rfl, rr', hr', r_h, hgf⟩
 refine ⟨_, rfl, ?_⟩
 replace hk := grown_thenG hk hgf om
 replace hT := Sha.Tabs.grown hT hgf om om
 refine nt (sr (w_as Ev.c (nt (wp_ret (fin_ret1 rfl ei ?_)))))
 exact ⟨rfl, Sha.At.of 384 128 (m.length + s.length) rfl (m ++ s) List.length_append rr' hr' (by rw [BitVec.ofNat_add]; exact r_h), hk⟩

theorem copy_384 (h : Nat) (h1 : 0 < h ∧ 1 < h) (m : List (BitVec 8)) (rr : Nat → BitVec 8) (hr : ∀ j, j < m.length % 128 → rr j = gb m (128 * (m.length / 128) + j)) (w0 : World) (r_h : Row w0 h 134 139 (Sha.hrow (.int .i64 384) (Sha.st 384 (gb m) (m.length / 128)) rr (.int .i64 (((m.length % 128) : Nat) : Int)) (U64 (BitVec.ofNat 64 m.length)))) : Calls Tryd.prog 50 #[pt h 0] w0 fun e w' => ∃ p, e = .returned (.pointer (some ⟨p, 0, none⟩)) ∧ w0.heap.size ≤ p ∧ Sha.At w' p 384 m ∧ Below w0.heap.size w0 w' := by
 refine enter (n := 16) Tryd.func50 rfl rfl rfl ?_
 have hk : Below w0.heap.size w0 w0 := Below.refl _ _
 have lt_h := r_h.lt
 refine sr (w_as Ev.c (nt (wp_seq (sr (w_mv (ex (pt h 0)) (w_val (y_bin (ex (pt h 0)) Ev.c (b_eqp Tryd.underlying77)) (w_mv eb (w_val_g (v := pt h 0) (wy rfl rfl eb) (y_mv (ex (pt h 0))) (w_val_g (wy rfl rfl eb) (y_nc (ex (pt h 0))) (w_val_g (v := pt h 0) (wy rfl rfl eb) (y_off (y_fa (ex (pt h 0)) (ShaDT.fa134_0 _ _)) ro) (w_val_g (v := .int .i64 384) (wy rfl rfl eb) (y_ld (ex (pt h 0)) ShaDT.sc3 (r_h.val om pz)) (w_val_g (wy rfl rfl eb) (y_bin ei Ev.c b_eql) (w_val (y_pick_f eb eb) (nt (c_ff eb (wp_skip (then_n (sr (w_mv (ex (pt h 0)) (w_val (y_nc (ex (pt h 0))) (w_val (v := .agg (arr 139 (Sha.hrow (.int .i64 384) (Sha.st 384 (gb m) (m.length / 128)) rr (.int .i64 (((m.length % 128) : Nat) : Int)) (U64 (BitVec.ofNat 64 m.length))))) (y_lda (ex (pt h 0)) ShaDT.ag134 ShaDT.sz134 (fun j hj => by rw [Nat.zero_add]; exact (r_h.cell om))) (w_alloc (m := 139) (F := fun j => if j < 1 then .int .i64 0 else if j < 9 then U64 (0#64) else if j < 137 then U8 (0#8) else if j < 138 then .int .i64 0 else U64 (0#64)) kr ?_))))))))))))))))))))))
 intro b_x w1 hbe_b_x r_b_x hb2
 have ne_h_b_x := r_h.nb hbe_b_x
 have ge_b_x := gb_ hk.size hbe_b_x
 clear hbe_b_x
 replace r_h := r_h.step hb2
 replace hk := thenB hk hb2
 refine w_sta (k := 139) (G := Sha.hrow (.int .i64 384) (Sha.st 384 (gb m) (m.length / 128)) rr (.int .i64 (((m.length % 128) : Nat) : Int)) (U64 (BitVec.ofNat 64 m.length))) (ex (pt b_x 0)) ea (fun j _ => by exact hrow_one _ _ _ _ _ j rfl rfl rfl) ShaDT.sz134 r_b_x om ?_
 clear r_b_x; intro w3 r_b_x hg4 _
 replace r_b_x := r_b_x.congr (g := Sha.hrow (.int .i64 384) (Sha.st 384 (gb m) (m.length / 128)) rr (.int .i64 (((m.length % 128) : Nat) : Int)) (U64 (BitVec.ofNat 64 m.length))) (fun j hj => by rw [if_pos ⟨Nat.zero_le _, by omega⟩]; first | rfl | (simp only [Nat.sub_zero]))
 replace r_h := r_h.stepG hg4 om
 replace hk := thenG hk hg4 om
 refine nt (sr (w_as (ex (pt b_x 0)) (nt (wp_ret (fin_ret1 rfl (ex (pt b_x 0)) ?_)))))
 exact ⟨b_x, rfl, ge_b_x, Sha.At.of 384 128 m.length rfl m rfl rr hr r_b_x, hk⟩

theorem sum_384 (h : Nat) (h1 : 0 < h ∧ 1 < h) (m : List (BitVec 8)) (hm : m.length ≤ 1152921504606846976) (rr : Nat → BitVec 8) (hr : ∀ j, j < m.length % 128 → rr j = gb m (128 * (m.length / 128) + j)) (w0 : World) (r_h : Row w0 h 134 139 (Sha.hrow (.int .i64 384) (Sha.st 384 (gb m) (m.length / 128)) rr (.int .i64 (((m.length % 128) : Nat) : Int)) (U64 (BitVec.ofNat 64 m.length)))) (hT : Sha.Tabs w0) : Calls Tryd.prog 51 #[pt h 0] w0 fun e w' => e = .returned (.tuple #[.string (str (Sha.sum 384 m)), .int .i64 0]) ∧ Below w0.heap.size w0 w' := by
 have hT0 := hT.lt
 have hpl : Sha.padl 384 m.length = ((((239 - (m.length % 128)) % 128) + 1) + 16) := by rw [Sha.padl_eq 384 128 _ rfl]
 have hlp : (Sha.pad 384 m.length).length = ((((239 - (m.length % 128)) % 128) + 1) + 16) := by rw [Sha.length_pad, hpl]
 refine enter (n := 117) Tryd.func51 rfl rfl rfl ?_
 have hk : Below w0.heap.size w0 w0 := Below.refl _ _
 have lt_h := r_h.lt
 refine sr (w_as (evc (.string (str ([] : List (BitVec 8))))) (w_as Ev.c (nt (wp_seq (sr (w_mv (ex (pt h 0)) (w_val (y_bin (ex (pt h 0)) Ev.c (b_eqp Tryd.underlying77)) (w_mv eb (w_val_g (v := pt h 0) (wy rfl rfl eb) (y_mv (ex (pt h 0))) (w_val_g (wy rfl rfl eb) (y_nc (ex (pt h 0))) (w_val_g (v := pt h 0) (wy rfl rfl eb) (y_off (y_fa (ex (pt h 0)) (ShaDT.fa134_0 _ _)) ro) (w_val_g (v := .int .i64 384) (wy rfl rfl eb) (y_ld (ex (pt h 0)) ShaDT.sc3 (r_h.val om pz)) (w_val_g (wy rfl rfl eb) (y_bin ei Ev.c b_eql) (w_val (y_pick_f eb eb) (nt (c_ff eb (wp_skip (then_n (sr (w_mv (ex (pt h 0)) (w_val (y_nc (ex (pt h 0))) (w_val (v := pt h 0) (y_off (y_fa (ex (pt h 0)) (ShaDT.fa134_0 _ _)) ro) (w_val (v := .int .i64 384) (y_ld (ex (pt h 0)) ShaDT.sc3 (r_h.val om pz)) (w_call (Tryd.func37) kr rfl (m1 ei) (shaSize_384  w0) ?_))))))))))))))))))))))))
 rintro _ w1 ⟨rfl, hb2⟩
 refine ⟨_, rfl, ?_⟩
 replace r_h := r_h.step hb2
 replace hk := thenB hk hb2
 replace hT := Sha.Tabs.below hT hb2
 refine w_mv (ex (.tuple #[.int .i64 48, .int .i64 128, .int .i64 0])) (w_val ye (w_val ye (w_val ye (w_as ei (w_as ei (w_as ei (nt (sr (w_mv (ex (pt h 0)) (w_val (y_nc (ex (pt h 0))) (w_val (v := .agg (arr 139 (Sha.hrow (.int .i64 384) (Sha.st 384 (gb m) (m.length / 128)) rr (.int .i64 (((m.length % 128) : Nat) : Int)) (U64 (BitVec.ofNat 64 m.length))))) (y_lda (ex (pt h 0)) ShaDT.ag134 ShaDT.sz134 (fun j hj => by rw [Nat.zero_add]; exact (r_h.cell om))) (w_alloc (m := 139) (F := fun j => if j < 1 then .int .i64 0 else if j < 9 then U64 (0#64) else if j < 137 then U8 (0#8) else if j < 138 then .int .i64 0 else U64 (0#64)) kr ?_))))))))))))
 intro b_x w3 hbe_b_x r_b_x hb4
 have ne_h_b_x := r_h.nb hbe_b_x
 have ge_b_x := gb_ hk.size hbe_b_x
 clear hbe_b_x
 replace r_h := r_h.step hb4
 replace hk := thenB hk hb4
 replace hT := Sha.Tabs.below hT hb4
 refine w_sta (k := 139) (G := Sha.hrow (.int .i64 384) (Sha.st 384 (gb m) (m.length / 128)) rr (.int .i64 (((m.length % 128) : Nat) : Int)) (U64 (BitVec.ofNat 64 m.length))) (ex (pt b_x 0)) ea (fun j _ => by exact hrow_one _ _ _ _ _ j rfl rfl rfl) ShaDT.sz134 r_b_x om ?_
 clear r_b_x; intro w5 r_b_x hg6 _
 replace r_b_x := r_b_x.congr (g := Sha.hrow (.int .i64 384) (Sha.st 384 (gb m) (m.length / 128)) rr (.int .i64 (((m.length % 128) : Nat) : Int)) (U64 (BitVec.ofNat 64 m.length))) (fun j hj => by rw [if_pos ⟨Nat.zero_le _, by omega⟩]; first | rfl | (simp only [Nat.sub_zero]))
 replace r_h := r_h.stepG hg6 om
 replace hk := thenG hk hg6 om
 replace hT := Sha.Tabs.grown hT hg6 om om
 refine nt (sr (w_mv ei (w_val (y_bin ei Ev.c (b_quo om)) (w_as ei (nt (sr (w_mv ei (w_val (y_bin Ev.c ei (b_mul om)) (w_mv ei (w_val (y_bin ei ei (b_sub om)) (w_val (y_bin ei Ev.c (b_sub om)) (w_val (v := pt b_x 137) (y_off (y_fa (ex (pt b_x 0)) (ShaDT.fa134_3 _ _)) ro) (w_val (v := .int .i64 (((m.length % 128) : Nat) : Int)) (y_ld (ex (pt b_x 137)) ShaDT.sc3 (r_b_x.val om (ng (ng (ng pz))))) (w_val (y_bin ei ei (b_sub om)) (w_mv ei (w_val (y_bin ei ei (b_rem om)) (w_val (y_bin ei Ev.c (b_add om)) (w_mv ei (w_val (y_bin ei ei (b_add om)) (w_mks (m := ((((239 - (m.length % 128)) % 128) + 1) + 16)) (bytes := 1) (zv := U8 (0#8)) ei ei om om Tryd.underlying63 kr rfl om om ?_))))))))))))))))))))
 intro b_50 w7 hbe_b_50 r_b_50 hb8
 have ne_h_b_50 := r_h.nb hbe_b_50
 have ne_b_x_b_50 := r_b_x.nb hbe_b_50
 have ge_b_50 := gb_ hk.size hbe_b_50
 clear hbe_b_50
 replace r_h := r_h.step hb8
 replace r_b_x := r_b_x.step hb8
 replace hk := thenB hk hb8
 replace hT := Sha.Tabs.below hT hb8
 refine w_as el (nt (sr (w_mv el (w_val (y_is1z (i := 0) el Ev.c Tryd.underlying63 ShaDT.sz5 om om) (w_st (v := U8 (128#8)) (ex (pt b_50 0)) (evc (U8 (128#8))) rfl rfl ShaDT.sz5 r_b_50 om ?_)))))
 clear r_b_50; intro w9 r_b_50 hg10 _
 replace r_h := r_h.stepG hg10 om
 replace r_b_x := r_b_x.stepG hg10 om
 replace hk := thenG hk hg10 om
 replace hT := Sha.Tabs.grown hT hg10 om om
 refine nt (wp_seq (sr (w_mv Ev.c (nt (wp_block ?_)))))
 refine c_loop (fun dN aN wl => ∃ (i : Nat), dN = (8 - i) ∧ ∃ f11, aN = fr 117 f11 ∧ (i ≤ 8) ∧ f11 2 = .string (str ([] : List (BitVec 8))) ∧ f11 3 = .int .i64 0 ∧ f11 4 = .int .i64 48 ∧ f11 5 = .int .i64 128 ∧ f11 7 = pt b_x 0 ∧ f11 8 = .int .i64 16 ∧ f11 9 = .slice (some ⟨b_50, 0, none⟩) ((((239 - (m.length % 128)) % 128) + 1) + 16) ((((239 - (m.length % 128)) % 128) + 1) + 16) ∧ f11 53 = .int .i64 ((i : Nat) : Int) ∧ Row wl h 134 139 (Sha.hrow (.int .i64 384) (Sha.st 384 (gb m) (m.length / 128)) rr (.int .i64 (((m.length % 128) : Nat) : Int)) (U64 (BitVec.ofNat 64 m.length))) ∧ Row wl b_x 134 139 (Sha.hrow (.int .i64 384) (Sha.st 384 (gb m) (m.length / 128)) rr (.int .i64 (((m.length % 128) : Nat) : Int)) (U64 (BitVec.ofNat 64 m.length))) ∧ Row wl b_50 5 ((((239 - (m.length % 128)) % 128) + 1) + 16) (fun j => if ((((239 - (m.length % 128)) % 128) + 1) + 16) ≤ j + i then (fun j => U8 (gb (Oct.be (BitVec.ofNat 64 (8 * m.length)) 8) (j - (((((239 - (m.length % 128)) % 128) + 1) + 16) - 8)))) j else (fun j => if j = 0 then U8 (128#8) else (fun j => U8 (0#8)) j) j) ∧ Sha.Tabs wl ∧ Below w0.heap.size w0 wl) (8 - 0) ?_ ?_
 · exact ⟨0, rfl, _, rfl, iv, rfl, rfl, rfl, rfl, rfl, rfl, rfl, ti, r_h, r_b_x, (r_b_50.congr (fun j hj => by exact (if_neg om).symm)), hT, hk⟩
 ·skip
  clear r_h r_b_x r_b_50 hT hk
  rintro _ _ w12 ⟨i, rfl, f11, rfl, i1_0, s1_2, s1_3, s1_4, s1_5, s1_7, s1_8, s1_9, s1_53, r_h, r_b_x, r_b_50, hT, hk⟩
  refine sr (w_val (y_bin (ei s1_53) Ev.c b_lss) (nt (wp_seq ?_)))
  refine c_if (p := ((i : Nat) : Int) < 8) eb (fun hc13 => ?_) (fun hc13 => ?_)
  ·skip
   refine wp_skip (then_n (wp_seq (wp_block (sr (w_mv (ei s1_53) (w_as ei (nt (wp_region_lit (w_mv (el s1_9) (w_mv (el s1_9) (w_val (v := .int .i64 ((((((239 - (m.length % 128)) % 128) + 1) + 16) : Nat) : Int)) (y_len_sl el Tryd.underlying63) (w_val (y_bin ei Ev.c (b_sub om)) (w_mv ei (w_val (y_bin ei ei (b_sub om)) (w_val (v := pt b_x 138) (y_off (y_fa (ex (pt b_x 0) s1_7) (ShaDT.fa134_4 _ _)) ro) (w_val (v := U64 (BitVec.ofNat 64 m.length)) (y_ld (ex (pt b_x 138)) ShaDT.sc58 (r_b_x.val om (ng (ng (ng (ng dv)))))) (w_val (y_bin e6 (evc (.int .u64 3)) (shl64 (c := 3) rfl)) (w_mv ei (w_val (y_bin Ev.c ei (b_mul om)) (w_val (y_bin e6 ei (shr64 (c := (8 * i)) om)) (w_val (y_u64_u8 e6 ShaDT.so58 Tryd.underlying5) (w_val (y_is1z (i := ((((((239 - (m.length % 128)) % 128) + 1) + 16) - 1) - i)) el ei Tryd.underlying63 ShaDT.sz5 om om) (w_st (v := U8 ((((BitVec.ofNat 64 m.length) <<< 3) >>> (8 * i)).setWidth 8)) (ex (pt b_50 ((((((239 - (m.length % 128)) % 128) + 1) + 16) - 1) - i))) e8 rfl rfl ShaDT.sz5 r_b_50 om ?_)))))))))))))))))))))))
   clear r_b_50; intro w14 r_b_50 hg15 _
   replace r_h := r_h.stepG hg15 om
   replace r_b_x := r_b_x.stepG hg15 om
   replace hk := thenG hk hg15 om
   replace hT := Sha.Tabs.grown hT hg15 om om
   refine wpList_nil (inb_n (then_n (wp_region_lit (w_val (y_bin (ei s1_53) Ev.c (b_add om)) (w_mv ei (wpList_nil ?_))))))
   exact then_n ⟨_, om, i + 1, rfl, _, rfl, iv, s1_2, s1_3, s1_4, s1_5, s1_7, s1_8, s1_9, ti, r_h, r_b_x, (r_b_50.congr (fun j hj => by (try dsimp only); by_cases e : j = ((((239 - (m.length % 128)) % 128) + 1) + 16) - 1 - i; (rw [if_pos e, if_pos om, Sha.len_byte _ _ om]; exact congrArg U8 (congrArg (gb _) om)); (rw [if_neg e]; by_cases e2 : ((((239 - (m.length % 128)) % 128) + 1) + 16) ≤ j + i; (rw [if_pos e2]; exact (if_pos om).symm); (rw [if_neg e2]; exact (if_neg om).symm)))), hT, hk⟩
  ·skip
   refine wp_exit (then_x (then_x (inb_x (then_n (wp_seq (sr (w_mv (ei s1_8) (w_val (y_bin ei Ev.c b_eql) (nt (c_tt eb (wp_region_lit (w_mv (el s1_9) (w_mv (el s1_9) (w_val (v := .int .i64 ((((((239 - (m.length % 128)) % 128) + 1) + 16) : Nat) : Int)) (y_len_sl el Tryd.underlying63) (w_val (y_bin ei Ev.c (b_sub om)) (w_val (v := pt b_x 138) (y_off (y_fa (ex (pt b_x 0) s1_7) (ShaDT.fa134_4 _ _)) ro) (w_val (v := U64 (BitVec.ofNat 64 m.length)) (y_ld (ex (pt b_x 138)) ShaDT.sc58 (r_b_x.val om (ng (ng (ng (ng dv)))))) (w_val (y_bin e6 (evc (.int .u64 61)) (shr64 (c := 61) rfl)) (w_val (y_u64_u8 e6 ShaDT.so58 Tryd.underlying5) (w_val (y_is1z (i := (((((239 - (m.length % 128)) % 128) + 1) + 16) - 9)) el ei Tryd.underlying63 ShaDT.sz5 om om) (w_st (v := U8 (((BitVec.ofNat 64 m.length) >>> 61).setWidth 8)) (ex (pt b_50 (((((239 - (m.length % 128)) % 128) + 1) + 16) - 9))) e8 rfl rfl ShaDT.sz5 r_b_50 om ?_)))))))))))))))))))))
   clear r_b_50; intro w16 r_b_50 hg17 _
   replace r_h := r_h.stepG hg17 om
   replace r_b_x := r_b_x.stepG hg17 om
   replace hk := thenG hk hg17 om
   replace hT := Sha.Tabs.grown hT hg17 om om
   refine nt (wp_seq ?_)
   replace r_b_50 := r_b_50.congr (g := fun j => U8 (gb (Sha.pad 384 m.length) j)) (fun j hj => by rw [show i = 8 from by omega]; exact Sha.pad_row2 384 m.length _ j _ (Sha.top_byte _ om) om om hj)
   refine wp_region_lit (w_mv (el s1_9) (w_val (y_str (l := Sha.pad 384 m.length) el (by first | rfl | assumption | (simp; omega) | omega) Tryd.underlying63 Tryd.underlying5 Tryd.underlying9 (fun j hj => by rw [Nat.zero_add]; exact (r_b_50.cell om))) ?_))
   have rh_ := r_b_x
   clear r_b_x
   refine w_call (Tryd.func72) kr rfl (m2 (ex (pt b_x 0) s1_7) es) (put_384 b_x om m (Sha.pad 384 m.length) om rr (BitVec.ofNat 64 m.length) hr w16 rh_ hT) ?_
   rintro _ w18 ⟨rfl, rr', hr', r_b_x, hgf⟩
   refine ⟨_, rfl, ?_⟩
   replace r_h := r_h.stepG hgf om
   replace r_b_50 := r_b_50.stepG hgf om
   replace hk := thenG hk hgf om
   replace hT := Sha.Tabs.grown hT hgf om om
   refine nt (wp_seq ?_)
   replace r_b_x := r_b_x.congr (g := Sha.hrow (.int .i64 384) (Sha.st 384 (gb (Sha.full 384 m)) (Sha.nb 384 m)) rr' (.int .i64 ((((m.length + (Sha.pad 384 m.length).length) % 128) : Nat) : Int)) (U64 (BitVec.ofNat 64 m.length))) (fun j hj => Sha.hrow_congr _ _ _ _ _ _ _ j (fun i _ => by rw [Sha.length_pad]; rfl) (fun _ _ => rfl))
   refine wp_region_lit (w_alloc (m := 64) (F := fun j => U8 (0#8)) kr ?_)
   intro b_out w19 hbe_b_out r_b_out hb20
   have ne_h_b_out := r_h.nb hbe_b_out
   have ne_b_x_b_out := r_b_x.nb hbe_b_out
   have ne_b_50_b_out := r_b_50.nb hbe_b_out
   have ge_b_out := gb_ hk.size hbe_b_out
   clear hbe_b_out
   replace r_h := r_h.step hb20
   replace r_b_x := r_b_x.step hb20
   replace r_b_50 := r_b_50.step hb20
   replace hk := thenB hk hb20
   replace hT := Sha.Tabs.below hT hb20
   refine nt (wp_seq (sr (w_mv Ev.c (nt (wp_block ?_)))))
   refine c_loop (fun dN aN wl => ∃ (a : Nat), dN = (8 - a) ∧ ∃ f21, aN = fr 117 f21 ∧ (a ≤ 8) ∧ f21 2 = .string (str ([] : List (BitVec 8))) ∧ f21 3 = .int .i64 0 ∧ f21 4 = .int .i64 48 ∧ f21 5 = .int .i64 128 ∧ f21 7 = pt b_x 0 ∧ f21 11 = pt b_out 0 ∧ f21 85 = .int .i64 ((a : Nat) : Int) ∧ Row wl h 134 139 (Sha.hrow (.int .i64 384) (Sha.st 384 (gb m) (m.length / 128)) rr (.int .i64 (((m.length % 128) : Nat) : Int)) (U64 (BitVec.ofNat 64 m.length))) ∧ Row wl b_x 134 139 (Sha.hrow (.int .i64 384) (Sha.st 384 (gb (Sha.full 384 m)) (Sha.nb 384 m)) rr' (.int .i64 ((((m.length + (Sha.pad 384 m.length).length) % 128) : Nat) : Int)) (U64 (BitVec.ofNat 64 m.length))) ∧ Row wl b_50 5 ((((239 - (m.length % 128)) % 128) + 1) + 16) (fun j => U8 (gb (Sha.pad 384 m.length) j)) ∧ Row wl b_out 136 64 (fun j => if j < (8 * a) then (fun j => U8 ((Sha.st 384 (gb (Sha.full 384 m)) (Sha.nb 384 m) (j / 8) >>> (8 * (7 - j % 8))).setWidth 8)) j else (fun j => U8 (0#8)) j) ∧ Sha.Tabs wl ∧ Below w0.heap.size w0 wl) (8 - 0) ?_ ?_
   · exact ⟨0, rfl, _, rfl, iv, s1_2, s1_3, s1_4, s1_5, s1_7, rfl, ti, r_h, r_b_x, r_b_50, (r_b_out.congr (fun j hj => by exact (if_neg om).symm)), hT, hk⟩
   ·skip
    clear r_h r_b_x r_b_50 r_b_out hT hk
    rintro _ _ w22 ⟨a, rfl, f21, rfl, i2_0, s2_2, s2_3, s2_4, s2_5, s2_7, s2_11, s2_85, r_h, r_b_x, r_b_50, r_b_out, hT, hk⟩
    refine sr (w_val (y_bin (ei s2_85) Ev.c b_lss) (nt (wp_seq ?_)))
    refine c_if (p := ((a : Nat) : Int) < 8) eb (fun hc23 => ?_) (fun hc23 => ?_)
    ·skip
     refine wp_skip (then_n (wp_seq (wp_block (sr (w_mv (ei s2_85) (w_as ei (nt (sr (w_mv (ei s2_5) (w_val (y_bin ei Ev.c (b_quo om)) (w_mv Ev.c (nt (wp_block ?_)))))))))))))
     refine c_loop (fun dN aN wl => ∃ (b : Nat), dN = (8 - b) ∧ ∃ f24, aN = fr 117 f24 ∧ (b ≤ 8) ∧ f24 2 = .string (str ([] : List (BitVec 8))) ∧ f24 3 = .int .i64 0 ∧ f24 4 = .int .i64 48 ∧ f24 5 = .int .i64 128 ∧ f24 7 = pt b_x 0 ∧ f24 11 = pt b_out 0 ∧ f24 12 = .int .i64 ((a : Nat) : Int) ∧ f24 85 = .int .i64 ((a : Nat) : Int) ∧ f24 89 = .int .i64 8 ∧ f24 90 = .int .i64 ((b : Nat) : Int) ∧ Row wl h 134 139 (Sha.hrow (.int .i64 384) (Sha.st 384 (gb m) (m.length / 128)) rr (.int .i64 (((m.length % 128) : Nat) : Int)) (U64 (BitVec.ofNat 64 m.length))) ∧ Row wl b_x 134 139 (Sha.hrow (.int .i64 384) (Sha.st 384 (gb (Sha.full 384 m)) (Sha.nb 384 m)) rr' (.int .i64 ((((m.length + (Sha.pad 384 m.length).length) % 128) : Nat) : Int)) (U64 (BitVec.ofNat 64 m.length))) ∧ Row wl b_50 5 ((((239 - (m.length % 128)) % 128) + 1) + 16) (fun j => U8 (gb (Sha.pad 384 m.length) j)) ∧ Row wl b_out 136 64 (fun j => if j < ((a * 8) + b) then (fun j => U8 ((Sha.st 384 (gb (Sha.full 384 m)) (Sha.nb 384 m) (j / 8) >>> (8 * (7 - j % 8))).setWidth 8)) j else (fun j => U8 (0#8)) j) ∧ Sha.Tabs wl ∧ Below w0.heap.size w0 wl) (8 - 0) ?_ ?_
     · exact ⟨0, rfl, _, rfl, iv, s2_2, s2_3, s2_4, s2_5, s2_7, s2_11, rfl, s2_85, rfl, ti, r_h, r_b_x, r_b_50, (r_b_out.congr (fun j hj => by (try dsimp only); by_cases e : j < 8 * a; (rw [if_pos e, if_pos om]); (rw [if_neg e, if_neg om]))), hT, hk⟩
     ·skip
      clear r_h r_b_x r_b_50 r_b_out hT hk
      rintro _ _ w25 ⟨b, rfl, f24, rfl, i3_0, s3_2, s3_3, s3_4, s3_5, s3_7, s3_11, s3_12, s3_85, s3_89, s3_90, r_h, r_b_x, r_b_50, r_b_out, hT, hk⟩
      refine sr (w_val (y_bin (ei s3_90) (ei s3_89) b_lss) (nt (wp_seq ?_)))
      refine c_if (p := ((b : Nat) : Int) < 8) eb (fun hc26 => ?_) (fun hc26 => ?_)
      ·skip
       refine wp_skip (then_n (wp_seq (wp_block (sr (w_mv (ei s3_90) (w_as ei (nt (wp_region_lit (w_mv (ei s3_12) (w_mv (ei s3_5) (w_val (y_bin ei Ev.c (b_quo om)) (w_val (y_bin ei ei (b_mul om)) (w_mv ei (w_val (y_bin ei ei (b_add om)) (w_mv (ei s3_12) (w_val (v := pt b_x 1) (y_off (y_fa (ex (pt b_x 0) s3_7) (ShaDT.fa134_1 _ _)) ro) (w_val (v := pt b_x (1 + a)) (y_off (y_ia1 (i := a) (ex (pt b_x 1)) ei Tryd.underlying88 ShaDT.sz58 om om) ro) (w_val (v := U64 ((Sha.st 384 (gb (Sha.full 384 m)) (Sha.nb 384 m)) a)) (y_ld (ex (pt b_x (1 + a))) ShaDT.sc58 (r_b_x.val om (ng pz))) (w_mv (ei s3_5) (w_val (y_bin ei Ev.c (b_quo om)) (w_val (y_bin ei Ev.c (b_sub om)) (w_mv ei (w_val (y_bin ei ei (b_sub om)) (w_val (y_bin Ev.c ei (b_mul om)) (w_val (y_bin e6 ei (shr64 (c := (8 * (7 - b))) om)) (w_val (y_u64_u8 e6 ShaDT.so58 Tryd.underlying5) (w_val (y_ia1z (i := ((a * 8) + b)) (ex (pt b_out 0) s3_11) ei Tryd.underlying136 ShaDT.sz5 om om) (w_st (v := U8 ((((Sha.st 384 (gb (Sha.full 384 m)) (Sha.nb 384 m)) a) >>> (8 * (7 - b))).setWidth 8)) (ex (pt b_out ((a * 8) + b))) e8 rfl rfl ShaDT.sz5 r_b_out om ?_))))))))))))))))))))))))))))
       clear r_b_out; intro w27 r_b_out hg28 _
       replace r_h := r_h.stepG hg28 om
       replace r_b_x := r_b_x.stepG hg28 om
       replace r_b_50 := r_b_50.stepG hg28 om
       replace hk := thenG hk hg28 om
       replace hT := Sha.Tabs.grown hT hg28 om om
       refine wpList_nil (inb_n (then_n (wp_region_lit (w_val (y_bin (ei s3_90) Ev.c (b_add om)) (w_mv ei (wpList_nil ?_))))))
       exact then_n ⟨_, om, b + 1, rfl, _, rfl, iv, s3_2, s3_3, s3_4, s3_5, s3_7, s3_11, s3_12, s3_85, s3_89, ti, r_h, r_b_x, r_b_50, (r_b_out.congr (fun j hj => by (try dsimp only); by_cases e : j = a * 8 + b; (rw [if_pos e, if_pos om, e, show (a * 8 + b) / 8 = a from by omega, show (a * 8 + b) % 8 = b from by omega]); (rw [if_neg e]; by_cases e2 : j < a * 8 + b; (rw [if_pos e2, if_pos om]); (rw [if_neg e2, if_neg om])))), hT, hk⟩
      ·skip
       refine wp_exit (then_x (then_x (inb_x (inb_n (then_n (wp_region_lit (w_val (y_bin (ei s3_85) Ev.c (b_add om)) (w_mv ei (wpList_nil ?_)))))))))
       exact then_n ⟨_, om, a + 1, rfl, _, rfl, iv, s3_2, s3_3, s3_4, s3_5, s3_7, s3_11, ti, r_h, r_b_x, r_b_50, (r_b_out.congr (fun j hj => by (try dsimp only); by_cases e : j < a * 8 + b; (rw [if_pos e, if_pos om]); (rw [if_neg e, if_neg om]))), hT, hk⟩
    ·skip
     refine wp_exit (then_x (then_x (inb_x (then_n (sr (w_mv (ei s2_4) (w_val (v := .slice (some ⟨b_out, 0, none⟩) 48 64) (y_sloff (y_slp (ex (pt b_out 0) s2_11) evo.no (evo.s ei) Tryd.underlying136 ShaDT.sz5 (bnd_h (h := 48) om om) om) ro rfl) (w_val (y_str (l := Sha.sum 384 m) el (by rw [Sha.length_sum]; rfl) Tryd.underlying63 Tryd.underlying5 Tryd.underlying9 (fun j hj => (r_b_out.val om (by rw [Sha.gb_sum _ _ _ (show j < Sha.ol 384 from hj), Nat.zero_add]; exact if_pos om)))) (w_as es (w_as Ev.c (nt (wp_ret (fin_ret2 rfl es ei ?_)))))))))))))
     exact ⟨rfl, hk⟩

theorem write_512 (h : Nat) (h1 : 0 < h ∧ 1 < h) (m : List (BitVec 8)) (s : List (BitVec 8)) (hs : s.length ≤ 140737488351232) (rr : Nat → BitVec 8) (hr : ∀ j, j < m.length % 128 → rr j = gb m (128 * (m.length / 128) + j)) (w0 : World) (r_h : Row w0 h 134 139 (Sha.hrow (.int .i64 512) (Sha.st 512 (gb m) (m.length / 128)) rr (.int .i64 (((m.length % 128) : Nat) : Int)) (U64 (BitVec.ofNat 64 m.length)))) (hT : Sha.Tabs w0) : Calls Tryd.prog 49 #[pt h 0, .string (str s)] w0 fun e w' => e = .returned (.int .i64 0) ∧ Sha.At w' h 512 (m ++ s) ∧ w0.grownBy w' (some h) := by
 have hT0 := hT.lt
 refine enter (n := 27) Tryd.func49 rfl rfl rfl ?_
 have hk : w0.grownBy w0 (some h) := grown_refl _ _
 have lt_h := r_h.lt
 refine sr (w_as Ev.c (nt (wp_seq (sr (w_mv (ex (pt h 0)) (w_val (y_bin (ex (pt h 0)) Ev.c (b_eqp Tryd.underlying77)) (w_mv eb (w_val_g (v := pt h 0) (wy rfl rfl eb) (y_mv (ex (pt h 0))) (w_val_g (wy rfl rfl eb) (y_nc (ex (pt h 0))) (w_val_g (v := pt h 0) (wy rfl rfl eb) (y_off (y_fa (ex (pt h 0)) (ShaDT.fa134_0 _ _)) ro) (w_val_g (v := .int .i64 512) (wy rfl rfl eb) (y_ld (ex (pt h 0)) ShaDT.sc3 (r_h.val om pz)) (w_val_g (wy rfl rfl eb) (y_bin ei Ev.c b_eql) (w_val (y_pick_f eb eb) (nt (c_ff eb (wp_skip (then_n (sr (w_mv (ex (pt h 0)) (w_val (y_nc (ex (pt h 0))) (w_val (v := pt h 138) (y_off (y_fa (ex (pt h 0)) (ShaDT.fa134_4 _ _)) ro) (w_val (v := U64 (BitVec.ofNat 64 m.length)) (y_ld (ex (pt h 138)) ShaDT.sc58 (r_h.val om (ng (ng (ng (ng dv)))))) (w_mv es (w_val (y_len es Tryd.underlying9) (w_val (y_nat_u64 (p := s.length) ei om ShaDT.so3 Tryd.underlying58) (w_val (y_bin e6 e6 add64) (w_val (y_nc (ex (pt h 0))) (w_val (v := pt h 138) (y_off (y_fa (ex (pt h 0)) (ShaDT.fa134_4 _ _)) ro) (w_st (v := U64 ((BitVec.ofNat 64 m.length) + (BitVec.ofNat 64 s.length))) (ex (pt h 138)) e6 rfl rfl ShaDT.sz58 r_h om ?_)))))))))))))))))))))))))))))
 clear r_h; intro w1 r_h hg2 _
 replace hk := grown_thenG hk hg2 om
 replace hT := Sha.Tabs.grown hT hg2 om om
 refine nt (sr (w_mv (ex (pt h 0)) (w_mv es ?_)))
 replace r_h := r_h.congr (g := Sha.hrow (.int .i64 512) (Sha.st 512 (gb m) (m.length / 128)) rr (.int .i64 (((m.length % 128) : Nat) : Int)) (U64 ((BitVec.ofNat 64 m.length) + (BitVec.ofNat 64 s.length)))) (fun j hj => Sha.all_row _ _ _ _ _ _ j hj)
 have rh_ := r_h
 clear r_h
 refine w_call (Tryd.func72) kr rfl (m2 (ex (pt h 0)) es) (put_512 h om m s om rr ((BitVec.ofNat 64 m.length) + (BitVec.ofNat 64 s.length)) hr w1 rh_ hT) ?_
 rintro _ w3 ⟨rfl, rr', hr', r_h, hgf⟩
 refine ⟨_, rfl, ?_⟩
 replace hk := grown_thenG hk hgf om
 replace hT := Sha.Tabs.grown hT hgf om om
 refine nt (sr (w_as Ev.c (nt (wp_ret (fin_ret1 rfl ei ?_)))))
 exact ⟨rfl, Sha.At.of 512 128 (m.length + s.length) rfl (m ++ s) List.length_append rr' hr' (by rw [BitVec.ofNat_add]; exact r_h), hk⟩

theorem copy_512 (h : Nat) (h1 : 0 < h ∧ 1 < h) (m : List (BitVec 8)) (rr : Nat → BitVec 8) (hr : ∀ j, j < m.length % 128 → rr j = gb m (128 * (m.length / 128) + j)) (w0 : World) (r_h : Row w0 h 134 139 (Sha.hrow (.int .i64 512) (Sha.st 512 (gb m) (m.length / 128)) rr (.int .i64 (((m.length % 128) : Nat) : Int)) (U64 (BitVec.ofNat 64 m.length)))) : Calls Tryd.prog 50 #[pt h 0] w0 fun e w' => ∃ p, e = .returned (.pointer (some ⟨p, 0, none⟩)) ∧ w0.heap.size ≤ p ∧ Sha.At w' p 512 m ∧ Below w0.heap.size w0 w' := by
 refine enter (n := 16) Tryd.func50 rfl rfl rfl ?_
 have hk : Below w0.heap.size w0 w0 := Below.refl _ _
 have lt_h := r_h.lt
 refine sr (w_as Ev.c (nt (wp_seq (sr (w_mv (ex (pt h 0)) (w_val (y_bin (ex (pt h 0)) Ev.c (b_eqp Tryd.underlying77)) (w_mv eb (w_val_g (v := pt h 0) (wy rfl rfl eb) (y_mv (ex (pt h 0))) (w_val_g (wy rfl rfl eb) (y_nc (ex (pt h 0))) (w_val_g (v := pt h 0) (wy rfl rfl eb) (y_off (y_fa (ex (pt h 0)) (ShaDT.fa134_0 _ _)) ro) (w_val_g (v := .int .i64 512) (wy rfl rfl eb) (y_ld (ex (pt h 0)) ShaDT.sc3 (r_h.val om pz)) (w_val_g (wy rfl rfl eb) (y_bin ei Ev.c b_eql) (w_val (y_pick_f eb eb) (nt (c_ff eb (wp_skip (then_n (sr (w_mv (ex (pt h 0)) (w_val (y_nc (ex (pt h 0))) (w_val (v := .agg (arr 139 (Sha.hrow (.int .i64 512) (Sha.st 512 (gb m) (m.length / 128)) rr (.int .i64 (((m.length % 128) : Nat) : Int)) (U64 (BitVec.ofNat 64 m.length))))) (y_lda (ex (pt h 0)) ShaDT.ag134 ShaDT.sz134 (fun j hj => by rw [Nat.zero_add]; exact (r_h.cell om))) (w_alloc (m := 139) (F := fun j => if j < 1 then .int .i64 0 else if j < 9 then U64 (0#64) else if j < 137 then U8 (0#8) else if j < 138 then .int .i64 0 else U64 (0#64)) kr ?_))))))))))))))))))))))
 intro b_x w1 hbe_b_x r_b_x hb2
 have ne_h_b_x := r_h.nb hbe_b_x
 have ge_b_x := gb_ hk.size hbe_b_x
 clear hbe_b_x
 replace r_h := r_h.step hb2
 replace hk := thenB hk hb2
 refine w_sta (k := 139) (G := Sha.hrow (.int .i64 512) (Sha.st 512 (gb m) (m.length / 128)) rr (.int .i64 (((m.length % 128) : Nat) : Int)) (U64 (BitVec.ofNat 64 m.length))) (ex (pt b_x 0)) ea (fun j _ => by exact hrow_one _ _ _ _ _ j rfl rfl rfl) ShaDT.sz134 r_b_x om ?_
 clear r_b_x; intro w3 r_b_x hg4 _
 replace r_b_x := r_b_x.congr (g := Sha.hrow (.int .i64 512) (Sha.st 512 (gb m) (m.length / 128)) rr (.int .i64 (((m.length % 128) : Nat) : Int)) (U64 (BitVec.ofNat 64 m.length))) (fun j hj => by rw [if_pos ⟨Nat.zero_le _, by omega⟩]; first | rfl | (simp only [Nat.sub_zero]))
 replace r_h := r_h.stepG hg4 om
 replace hk := thenG hk hg4 om
 refine nt (sr (w_as (ex (pt b_x 0)) (nt (wp_ret (fin_ret1 rfl (ex (pt b_x 0)) ?_)))))
 exact ⟨b_x, rfl, ge_b_x, Sha.At.of 512 128 m.length rfl m rfl rr hr r_b_x, hk⟩

theorem sum_512 (h : Nat) (h1 : 0 < h ∧ 1 < h) (m : List (BitVec 8)) (hm : m.length ≤ 1152921504606846976) (rr : Nat → BitVec 8) (hr : ∀ j, j < m.length % 128 → rr j = gb m (128 * (m.length / 128) + j)) (w0 : World) (r_h : Row w0 h 134 139 (Sha.hrow (.int .i64 512) (Sha.st 512 (gb m) (m.length / 128)) rr (.int .i64 (((m.length % 128) : Nat) : Int)) (U64 (BitVec.ofNat 64 m.length)))) (hT : Sha.Tabs w0) : Calls Tryd.prog 51 #[pt h 0] w0 fun e w' => e = .returned (.tuple #[.string (str (Sha.sum 512 m)), .int .i64 0]) ∧ Below w0.heap.size w0 w' := by
 have hT0 := hT.lt
 have hpl : Sha.padl 512 m.length = ((((239 - (m.length % 128)) % 128) + 1) + 16) := by rw [Sha.padl_eq 512 128 _ rfl]
 have hlp : (Sha.pad 512 m.length).length = ((((239 - (m.length % 128)) % 128) + 1) + 16) := by rw [Sha.length_pad, hpl]
 refine enter (n := 117) Tryd.func51 rfl rfl rfl ?_
 have hk : Below w0.heap.size w0 w0 := Below.refl _ _
 have lt_h := r_h.lt
 refine sr (w_as (evc (.string (str ([] : List (BitVec 8))))) (w_as Ev.c (nt (wp_seq (sr (w_mv (ex (pt h 0)) (w_val (y_bin (ex (pt h 0)) Ev.c (b_eqp Tryd.underlying77)) (w_mv eb (w_val_g (v := pt h 0) (wy rfl rfl eb) (y_mv (ex (pt h 0))) (w_val_g (wy rfl rfl eb) (y_nc (ex (pt h 0))) (w_val_g (v := pt h 0) (wy rfl rfl eb) (y_off (y_fa (ex (pt h 0)) (ShaDT.fa134_0 _ _)) ro) (w_val_g (v := .int .i64 512) (wy rfl rfl eb) (y_ld (ex (pt h 0)) ShaDT.sc3 (r_h.val om pz)) (w_val_g (wy rfl rfl eb) (y_bin ei Ev.c b_eql) (w_val (y_pick_f eb eb) (nt (c_ff eb (wp_skip (then_n (sr (w_mv (ex (pt h 0)) (w_val (y_nc (ex (pt h 0))) (w_val (v := pt h 0) (y_off (y_fa (ex (pt h 0)) (ShaDT.fa134_0 _ _)) ro) (w_val (v := .int .i64 512) (y_ld (ex (pt h 0)) ShaDT.sc3 (r_h.val om pz)) (w_call (Tryd.func37) kr rfl (m1 ei) (shaSize_512  w0) ?_))))))))))))))))))))))))
 rintro _ w1 ⟨rfl, hb2⟩
 refine ⟨_, rfl, ?_⟩
 replace r_h := r_h.step hb2
 replace hk := thenB hk hb2
 replace hT := Sha.Tabs.below hT hb2
 refine w_mv (ex (.tuple #[.int .i64 64, .int .i64 128, .int .i64 0])) (w_val ye (w_val ye (w_val ye (w_as ei (w_as ei (w_as ei (nt (sr (w_mv (ex (pt h 0)) (w_val (y_nc (ex (pt h 0))) (w_val (v := .agg (arr 139 (Sha.hrow (.int .i64 512) (Sha.st 512 (gb m) (m.length / 128)) rr (.int .i64 (((m.length % 128) : Nat) : Int)) (U64 (BitVec.ofNat 64 m.length))))) (y_lda (ex (pt h 0)) ShaDT.ag134 ShaDT.sz134 (fun j hj => by rw [Nat.zero_add]; exact (r_h.cell om))) (w_alloc (m := 139) (F := fun j => if j < 1 then .int .i64 0 else if j < 9 then U64 (0#64) else if j < 137 then U8 (0#8) else if j < 138 then .int .i64 0 else U64 (0#64)) kr ?_))))))))))))
 intro b_x w3 hbe_b_x r_b_x hb4
 have ne_h_b_x := r_h.nb hbe_b_x
 have ge_b_x := gb_ hk.size hbe_b_x
 clear hbe_b_x
 replace r_h := r_h.step hb4
 replace hk := thenB hk hb4
 replace hT := Sha.Tabs.below hT hb4
 refine w_sta (k := 139) (G := Sha.hrow (.int .i64 512) (Sha.st 512 (gb m) (m.length / 128)) rr (.int .i64 (((m.length % 128) : Nat) : Int)) (U64 (BitVec.ofNat 64 m.length))) (ex (pt b_x 0)) ea (fun j _ => by exact hrow_one _ _ _ _ _ j rfl rfl rfl) ShaDT.sz134 r_b_x om ?_
 clear r_b_x; intro w5 r_b_x hg6 _
 replace r_b_x := r_b_x.congr (g := Sha.hrow (.int .i64 512) (Sha.st 512 (gb m) (m.length / 128)) rr (.int .i64 (((m.length % 128) : Nat) : Int)) (U64 (BitVec.ofNat 64 m.length))) (fun j hj => by rw [if_pos ⟨Nat.zero_le _, by omega⟩]; first | rfl | (simp only [Nat.sub_zero]))
 replace r_h := r_h.stepG hg6 om
 replace hk := thenG hk hg6 om
 replace hT := Sha.Tabs.grown hT hg6 om om
 refine nt (sr (w_mv ei (w_val (y_bin ei Ev.c (b_quo om)) (w_as ei (nt (sr (w_mv ei (w_val (y_bin Ev.c ei (b_mul om)) (w_mv ei (w_val (y_bin ei ei (b_sub om)) (w_val (y_bin ei Ev.c (b_sub om)) (w_val (v := pt b_x 137) (y_off (y_fa (ex (pt b_x 0)) (ShaDT.fa134_3 _ _)) ro) (w_val (v := .int .i64 (((m.length % 128) : Nat) : Int)) (y_ld (ex (pt b_x 137)) ShaDT.sc3 (r_b_x.val om (ng (ng (ng pz))))) (w_val (y_bin ei ei (b_sub om)) (w_mv ei (w_val (y_bin ei ei (b_rem om)) (w_val (y_bin ei Ev.c (b_add om)) (w_mv ei (w_val (y_bin ei ei (b_add om)) (w_mks (m := ((((239 - (m.length % 128)) % 128) + 1) + 16)) (bytes := 1) (zv := U8 (0#8)) ei ei om om Tryd.underlying63 kr rfl om om ?_))))))))))))))))))))
 intro b_50 w7 hbe_b_50 r_b_50 hb8
 have ne_h_b_50 := r_h.nb hbe_b_50
 have ne_b_x_b_50 := r_b_x.nb hbe_b_50
 have ge_b_50 := gb_ hk.size hbe_b_50
 clear hbe_b_50
 replace r_h := r_h.step hb8
 replace r_b_x := r_b_x.step hb8
 replace hk := thenB hk hb8
 replace hT := Sha.Tabs.below hT hb8
 refine w_as el (nt (sr (w_mv el (w_val (y_is1z (i := 0) el Ev.c Tryd.underlying63 ShaDT.sz5 om om) (w_st (v := U8 (128#8)) (ex (pt b_50 0)) (evc (U8 (128#8))) rfl rfl ShaDT.sz5 r_b_50 om ?_)))))
 clear r_b_50; intro w9 r_b_50 hg10 _
 replace r_h := r_h.stepG hg10 om
 replace r_b_x := r_b_x.stepG hg10 om
 replace hk := thenG hk hg10 om
 replace hT := Sha.Tabs.grown hT hg10 om om
 refine nt (wp_seq (sr (w_mv Ev.c (nt (wp_block ?_)))))
 refine c_loop (fun dN aN wl => ∃ (i : Nat), dN = (8 - i) ∧ ∃ f11, aN = fr 117 f11 ∧ (i ≤ 8) ∧ f11 2 = .string (str ([] : List (BitVec 8))) ∧ f11 3 = .int .i64 0 ∧ f11 4 = .int .i64 64 ∧ f11 5 = .int .i64 128 ∧ f11 7 = pt b_x 0 ∧ f11 8 = .int .i64 16 ∧ f11 9 = .slice (some ⟨b_50, 0, none⟩) ((((239 - (m.length % 128)) % 128) + 1) + 16) ((((239 - (m.length % 128)) % 128) + 1) + 16) ∧ f11 53 = .int .i64 ((i : Nat) : Int) ∧ Row wl h 134 139 (Sha.hrow (.int .i64 512) (Sha.st 512 (gb m) (m.length / 128)) rr (.int .i64 (((m.length % 128) : Nat) : Int)) (U64 (BitVec.ofNat 64 m.length))) ∧ Row wl b_x 134 139 (Sha.hrow (.int .i64 512) (Sha.st 512 (gb m) (m.length / 128)) rr (.int .i64 (((m.length % 128) : Nat) : Int)) (U64 (BitVec.ofNat 64 m.length))) ∧ Row wl b_50 5 ((((239 - (m.length % 128)) % 128) + 1) + 16) (fun j => if ((((239 - (m.length % 128)) % 128) + 1) + 16) ≤ j + i then (fun j => U8 (gb (Oct.be (BitVec.ofNat 64 (8 * m.length)) 8) (j - (((((239 - (m.length % 128)) % 128) + 1) + 16) - 8)))) j else (fun j => if j = 0 then U8 (128#8) else (fun j => U8 (0#8)) j) j) ∧ Sha.Tabs wl ∧ Below w0.heap.size w0 wl) (8 - 0) ?_ ?_
 · exact ⟨0, rfl, _, rfl, iv, rfl, rfl, rfl, rfl, rfl, rfl, rfl, ti, r_h, r_b_x, (r_b_50.congr (fun j hj => by exact (if_neg om).symm)), hT, hk⟩
 ·skip
  clear r_h r_b_x r_b_50 hT hk
  rintro _ _ w12 ⟨i, rfl, f11, rfl, i1_0, s1_2, s1_3, s1_4, s1_5, s1_7, s1_8, s1_9, s1_53, r_h, r_b_x, r_b_50, hT, hk⟩
  refine sr (w_val (y_bin (ei s1_53) Ev.c b_lss) (nt (wp_seq ?_)))
  refine c_if (p := ((i : Nat) : Int) < 8) eb (fun hc13 => ?_) (fun hc13 => ?_)
  ·skip
   refine wp_skip (then_n (wp_seq (wp_block (sr (w_mv (ei s1_53) (w_as ei (nt (wp_region_lit (w_mv (el s1_9) (w_mv (el s1_9) (w_val (v := .int .i64 ((((((239 - (m.length % 128)) % 128) + 1) + 16) : Nat) : Int)) (y_len_sl el Tryd.underlying63) (w_val (y_bin ei Ev.c (b_sub om)) (w_mv ei (w_val (y_bin ei ei (b_sub om)) (w_val (v := pt b_x 138) (y_off (y_fa (ex (pt b_x 0) s1_7) (ShaDT.fa134_4 _ _)) ro) (w_val (v := U64 (BitVec.ofNat 64 m.length)) (y_ld (ex (pt b_x 138)) ShaDT.sc58 (r_b_x.val om (ng (ng (ng (ng dv)))))) (w_val (y_bin e6 (evc (.int .u64 3)) (shl64 (c := 3) rfl)) (w_mv ei (w_val (y_bin Ev.c ei (b_mul om)) (w_val (y_bin e6 ei (shr64 (c := (8 * i)) om)) (w_val (y_u64_u8 e6 ShaDT.so58 Tryd.underlying5) (w_val (y_is1z (i := ((((((239 - (m.length % 128)) % 128) + 1) + 16) - 1) - i)) el ei Tryd.underlying63 ShaDT.sz5 om om) (w_st (v := U8 ((((BitVec.ofNat 64 m.length) <<< 3) >>> (8 * i)).setWidth 8)) (ex (pt b_50 ((((((239 - (m.length % 128)) % 128) + 1) + 16) - 1) - i))) e8 rfl rfl ShaDT.sz5 r_b_50 om ?_)))))))))))))))))))))))
   clear r_b_50; intro w14 r_b_50 hg15 _
   replace r_h := r_h.stepG hg15 om
   replace r_b_x := r_b_x.stepG hg15 om
   replace hk := thenG hk hg15 om
   replace hT := Sha.Tabs.grown hT hg15 om om
   refine wpList_nil (inb_n (then_n (wp_region_lit (w_val (y_bin (ei s1_53) Ev.c (b_add om)) (w_mv ei (wpList_nil ?_))))))
   exact then_n ⟨_, om, i + 1, rfl, _, rfl, iv, s1_2, s1_3, s1_4, s1_5, s1_7, s1_8, s1_9, ti, r_h, r_b_x, (r_b_50.congr (fun j hj => by (try dsimp only); by_cases e : j = ((((239 - (m.length % 128)) % 128) + 1) + 16) - 1 - i; (rw [if_pos e, if_pos om, Sha.len_byte _ _ om]; exact congrArg U8 (congrArg (gb _) om)); (rw [if_neg e]; by_cases e2 : ((((239 - (m.length % 128)) % 128) + 1) + 16) ≤ j + i; (rw [if_pos e2]; exact (if_pos om).symm); (rw [if_neg e2]; exact (if_neg om).symm)))), hT, hk⟩
  ·skip
   refine wp_exit (then_x (then_x (inb_x (then_n (wp_seq (sr (w_mv (ei s1_8) (w_val (y_bin ei Ev.c b_eql) (nt (c_tt eb (wp_region_lit (w_mv (el s1_9) (w_mv (el s1_9) (w_val (v := .int .i64 ((((((239 - (m.length % 128)) % 128) + 1) + 16) : Nat) : Int)) (y_len_sl el Tryd.underlying63) (w_val (y_bin ei Ev.c (b_sub om)) (w_val (v := pt b_x 138) (y_off (y_fa (ex (pt b_x 0) s1_7) (ShaDT.fa134_4 _ _)) ro) (w_val (v := U64 (BitVec.ofNat 64 m.length)) (y_ld (ex (pt b_x 138)) ShaDT.sc58 (r_b_x.val om (ng (ng (ng (ng dv)))))) (w_val (y_bin e6 (evc (.int .u64 61)) (shr64 (c := 61) rfl)) (w_val (y_u64_u8 e6 ShaDT.so58 Tryd.underlying5) (w_val (y_is1z (i := (((((239 - (m.length % 128)) % 128) + 1) + 16) - 9)) el ei Tryd.underlying63 ShaDT.sz5 om om) (w_st (v := U8 (((BitVec.ofNat 64 m.length) >>> 61).setWidth 8)) (ex (pt b_50 (((((239 - (m.length % 128)) % 128) + 1) + 16) - 9))) e8 rfl rfl ShaDT.sz5 r_b_50 om ?_)))))))))))))))))))))
   clear r_b_50; intro w16 r_b_50 hg17 _
   replace r_h := r_h.stepG hg17 om
   replace r_b_x := r_b_x.stepG hg17 om
   replace hk := thenG hk hg17 om
   replace hT := Sha.Tabs.grown hT hg17 om om
   refine nt (wp_seq ?_)
   replace r_b_50 := r_b_50.congr (g := fun j => U8 (gb (Sha.pad 512 m.length) j)) (fun j hj => by rw [show i = 8 from by omega]; exact Sha.pad_row2 512 m.length _ j _ (Sha.top_byte _ om) om om hj)
   refine wp_region_lit (w_mv (el s1_9) (w_val (y_str (l := Sha.pad 512 m.length) el (by first | rfl | assumption | (simp; omega) | omega) Tryd.underlying63 Tryd.underlying5 Tryd.underlying9 (fun j hj => by rw [Nat.zero_add]; exact (r_b_50.cell om))) ?_))
   have rh_ := r_b_x
   clear r_b_x
   refine w_call (Tryd.func72) kr rfl (m2 (ex (pt b_x 0) s1_7) es) (put_512 b_x om m (Sha.pad 512 m.length) om rr (BitVec.ofNat 64 m.length) hr w16 rh_ hT) ?_
   rintro _ w18 ⟨rfl, rr', hr', r_b_x, hgf⟩
   refine ⟨_, rfl, ?_⟩
   replace r_h := r_h.stepG hgf om
   replace r_b_50 := r_b_50.stepG hgf om
   replace hk := thenG hk hgf om
   replace hT := Sha.Tabs.grown hT hgf om om
   refine nt (wp_seq ?_)
   replace r_b_x := r_b_x.congr (g := Sha.hrow (.int .i64 512) (Sha.st 512 (gb (Sha.full 512 m)) (Sha.nb 512 m)) rr' (.int .i64 ((((m.length + (Sha.pad 512 m.length).length) % 128) : Nat) : Int)) (U64 (BitVec.ofNat 64 m.length))) (fun j hj => Sha.hrow_congr _ _ _ _ _ _ _ j (fun i _ => by rw [Sha.length_pad]; rfl) (fun _ _ => rfl))
   refine wp_region_lit (w_alloc (m := 64) (F := fun j => U8 (0#8)) kr ?_)
   intro b_out w19 hbe_b_out r_b_out hb20
   have ne_h_b_out := r_h.nb hbe_b_out
   have ne_b_x_b_out := r_b_x.nb hbe_b_out
   have ne_b_50_b_out := r_b_50.nb hbe_b_out
   have ge_b_out := gb_ hk.size hbe_b_out
   clear hbe_b_out
   replace r_h := r_h.step hb20
   replace r_b_x := r_b_x.step hb20
   replace r_b_50 := r_b_50.step hb20
   replace hk := thenB hk hb20
   replace hT := Sha.Tabs.below hT hb20
   refine nt (wp_seq (sr (w_mv Ev.c (nt (wp_block ?_)))))
   refine c_loop (fun dN aN wl => ∃ (a : Nat), dN = (8 - a) ∧ ∃ f21, aN = fr 117 f21 ∧ (a ≤ 8) ∧ f21 2 = .string (str ([] : List (BitVec 8))) ∧ f21 3 = .int .i64 0 ∧ f21 4 = .int .i64 64 ∧ f21 5 = .int .i64 128 ∧ f21 7 = pt b_x 0 ∧ f21 11 = pt b_out 0 ∧ f21 85 = .int .i64 ((a : Nat) : Int) ∧ Row wl h 134 139 (Sha.hrow (.int .i64 512) (Sha.st 512 (gb m) (m.length / 128)) rr (.int .i64 (((m.length % 128) : Nat) : Int)) (U64 (BitVec.ofNat 64 m.length))) ∧ Row wl b_x 134 139 (Sha.hrow (.int .i64 512) (Sha.st 512 (gb (Sha.full 512 m)) (Sha.nb 512 m)) rr' (.int .i64 ((((m.length + (Sha.pad 512 m.length).length) % 128) : Nat) : Int)) (U64 (BitVec.ofNat 64 m.length))) ∧ Row wl b_50 5 ((((239 - (m.length % 128)) % 128) + 1) + 16) (fun j => U8 (gb (Sha.pad 512 m.length) j)) ∧ Row wl b_out 136 64 (fun j => if j < (8 * a) then (fun j => U8 ((Sha.st 512 (gb (Sha.full 512 m)) (Sha.nb 512 m) (j / 8) >>> (8 * (7 - j % 8))).setWidth 8)) j else (fun j => U8 (0#8)) j) ∧ Sha.Tabs wl ∧ Below w0.heap.size w0 wl) (8 - 0) ?_ ?_
   · exact ⟨0, rfl, _, rfl, iv, s1_2, s1_3, s1_4, s1_5, s1_7, rfl, ti, r_h, r_b_x, r_b_50, (r_b_out.congr (fun j hj => by exact (if_neg om).symm)), hT, hk⟩
   ·skip
    clear r_h r_b_x r_b_50 r_b_out hT hk
    rintro _ _ w22 ⟨a, rfl, f21, rfl, i2_0, s2_2, s2_3, s2_4, s2_5, s2_7, s2_11, s2_85, r_h, r_b_x, r_b_50, r_b_out, hT, hk⟩
    refine sr (w_val (y_bin (ei s2_85) Ev.c b_lss) (nt (wp_seq ?_)))
    refine c_if (p := ((a : Nat) : Int) < 8) eb (fun hc23 => ?_) (fun hc23 => ?_)
    ·skip
     refine wp_skip (then_n (wp_seq (wp_block (sr (w_mv (ei s2_85) (w_as ei (nt (sr (w_mv (ei s2_5) (w_val (y_bin ei Ev.c (b_quo om)) (w_mv Ev.c (nt (wp_block ?_)))))))))))))
     refine c_loop (fun dN aN wl => ∃ (b : Nat), dN = (8 - b) ∧ ∃ f24, aN = fr 117 f24 ∧ (b ≤ 8) ∧ f24 2 = .string (str ([] : List (BitVec 8))) ∧ f24 3 = .int .i64 0 ∧ f24 4 = .int .i64 64 ∧ f24 5 = .int .i64 128 ∧ f24 7 = pt b_x 0 ∧ f24 11 = pt b_out 0 ∧ f24 12 = .int .i64 ((a : Nat) : Int) ∧ f24 85 = .int .i64 ((a : Nat) : Int) ∧ f24 89 = .int .i64 8 ∧ f24 90 = .int .i64 ((b : Nat) : Int) ∧ Row wl h 134 139 (Sha.hrow (.int .i64 512) (Sha.st 512 (gb m) (m.length / 128)) rr (.int .i64 (((m.length % 128) : Nat) : Int)) (U64 (BitVec.ofNat 64 m.length))) ∧ Row wl b_x 134 139 (Sha.hrow (.int .i64 512) (Sha.st 512 (gb (Sha.full 512 m)) (Sha.nb 512 m)) rr' (.int .i64 ((((m.length + (Sha.pad 512 m.length).length) % 128) : Nat) : Int)) (U64 (BitVec.ofNat 64 m.length))) ∧ Row wl b_50 5 ((((239 - (m.length % 128)) % 128) + 1) + 16) (fun j => U8 (gb (Sha.pad 512 m.length) j)) ∧ Row wl b_out 136 64 (fun j => if j < ((a * 8) + b) then (fun j => U8 ((Sha.st 512 (gb (Sha.full 512 m)) (Sha.nb 512 m) (j / 8) >>> (8 * (7 - j % 8))).setWidth 8)) j else (fun j => U8 (0#8)) j) ∧ Sha.Tabs wl ∧ Below w0.heap.size w0 wl) (8 - 0) ?_ ?_
     · exact ⟨0, rfl, _, rfl, iv, s2_2, s2_3, s2_4, s2_5, s2_7, s2_11, rfl, s2_85, rfl, ti, r_h, r_b_x, r_b_50, (r_b_out.congr (fun j hj => by (try dsimp only); by_cases e : j < 8 * a; (rw [if_pos e, if_pos om]); (rw [if_neg e, if_neg om]))), hT, hk⟩
     ·skip
      clear r_h r_b_x r_b_50 r_b_out hT hk
      rintro _ _ w25 ⟨b, rfl, f24, rfl, i3_0, s3_2, s3_3, s3_4, s3_5, s3_7, s3_11, s3_12, s3_85, s3_89, s3_90, r_h, r_b_x, r_b_50, r_b_out, hT, hk⟩
      refine sr (w_val (y_bin (ei s3_90) (ei s3_89) b_lss) (nt (wp_seq ?_)))
      refine c_if (p := ((b : Nat) : Int) < 8) eb (fun hc26 => ?_) (fun hc26 => ?_)
      ·skip
       refine wp_skip (then_n (wp_seq (wp_block (sr (w_mv (ei s3_90) (w_as ei (nt (wp_region_lit (w_mv (ei s3_12) (w_mv (ei s3_5) (w_val (y_bin ei Ev.c (b_quo om)) (w_val (y_bin ei ei (b_mul om)) (w_mv ei (w_val (y_bin ei ei (b_add om)) (w_mv (ei s3_12) (w_val (v := pt b_x 1) (y_off (y_fa (ex (pt b_x 0) s3_7) (ShaDT.fa134_1 _ _)) ro) (w_val (v := pt b_x (1 + a)) (y_off (y_ia1 (i := a) (ex (pt b_x 1)) ei Tryd.underlying88 ShaDT.sz58 om om) ro) (w_val (v := U64 ((Sha.st 512 (gb (Sha.full 512 m)) (Sha.nb 512 m)) a)) (y_ld (ex (pt b_x (1 + a))) ShaDT.sc58 (r_b_x.val om (ng pz))) (w_mv (ei s3_5) (w_val (y_bin ei Ev.c (b_quo om)) (w_val (y_bin ei Ev.c (b_sub om)) (w_mv ei (w_val (y_bin ei ei (b_sub om)) (w_val (y_bin Ev.c ei (b_mul om)) (w_val (y_bin e6 ei (shr64 (c := (8 * (7 - b))) om)) (w_val (y_u64_u8 e6 ShaDT.so58 Tryd.underlying5) (w_val (y_ia1z (i := ((a * 8) + b)) (ex (pt b_out 0) s3_11) ei Tryd.underlying136 ShaDT.sz5 om om) (w_st (v := U8 ((((Sha.st 512 (gb (Sha.full 512 m)) (Sha.nb 512 m)) a) >>> (8 * (7 - b))).setWidth 8)) (ex (pt b_out ((a * 8) + b))) e8 rfl rfl ShaDT.sz5 r_b_out om ?_))))))))))))))))))))))))))))
       clear r_b_out; intro w27 r_b_out hg28 _
       replace r_h := r_h.stepG hg28 om
       replace r_b_x := r_b_x.stepG hg28 om
       replace r_b_50 := r_b_50.stepG hg28 om
       replace hk := thenG hk hg28 om
       replace hT := Sha.Tabs.grown hT hg28 om om
       refine wpList_nil (inb_n (then_n (wp_region_lit (w_val (y_bin (ei s3_90) Ev.c (b_add om)) (w_mv ei (wpList_nil ?_))))))
       exact then_n ⟨_, om, b + 1, rfl, _, rfl, iv, s3_2, s3_3, s3_4, s3_5, s3_7, s3_11, s3_12, s3_85, s3_89, ti, r_h, r_b_x, r_b_50, (r_b_out.congr (fun j hj => by (try dsimp only); by_cases e : j = a * 8 + b; (rw [if_pos e, if_pos om, e, show (a * 8 + b) / 8 = a from by omega, show (a * 8 + b) % 8 = b from by omega]); (rw [if_neg e]; by_cases e2 : j < a * 8 + b; (rw [if_pos e2, if_pos om]); (rw [if_neg e2, if_neg om])))), hT, hk⟩
      ·skip
       refine wp_exit (then_x (then_x (inb_x (inb_n (then_n (wp_region_lit (w_val (y_bin (ei s3_85) Ev.c (b_add om)) (w_mv ei (wpList_nil ?_)))))))))
       exact then_n ⟨_, om, a + 1, rfl, _, rfl, iv, s3_2, s3_3, s3_4, s3_5, s3_7, s3_11, ti, r_h, r_b_x, r_b_50, (r_b_out.congr (fun j hj => by (try dsimp only); by_cases e : j < a * 8 + b; (rw [if_pos e, if_pos om]); (rw [if_neg e, if_neg om]))), hT, hk⟩
    ·skip
     refine wp_exit (then_x (then_x (inb_x (then_n (sr (w_mv (ei s2_4) (w_val (v := .slice (some ⟨b_out, 0, none⟩) 64 64) (y_sloff (y_slp (ex (pt b_out 0) s2_11) evo.no (evo.s ei) Tryd.underlying136 ShaDT.sz5 (bnd_h (h := 64) om om) om) ro rfl) (w_val (y_str (l := Sha.sum 512 m) el (by rw [Sha.length_sum]; rfl) Tryd.underlying63 Tryd.underlying5 Tryd.underlying9 (fun j hj => (r_b_out.val om (by rw [Sha.gb_sum _ _ _ (show j < Sha.ol 512 from hj), Nat.zero_add]; exact if_pos om)))) (w_as es (w_as Ev.c (nt (wp_ret (fin_ret2 rfl es ei ?_)))))))))))))
     exact ⟨rfl, hk⟩
end Go.Proofs.YtepogbfkmflooaaDoor
