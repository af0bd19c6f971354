/-
  Digests: writing, copying, summing. Conditions as each says.
-/
import Derived.Test.YtieepglpejlkoaaDoorRows
import Derived.Test.YtieepglpejlkoaaDoorShaC
import Derived.ProofKit
namespace Go.Proofs.YtieepglpejlkoaaDoor
open Go.RowKit
set_option linter.unusedSimpArgs false
set_option linter.unusedVariables false
namespace ShaDT
theorem mixed : Tryd.prog.follows .mixedOrders = true := by kernel_rfl
theorem ag40 : (Tryd.prog.underlying 40).map isAggD = some true := by rw [Tryd.underlying40]; rfl
theorem ag53 : (Tryd.prog.underlying 53).map isAggD = some true := by rw [Tryd.underlying53]; rfl
theorem fa53_0 (g off : Nat) : ∀ w, (Instr.fieldAt 53 (.pointer (some ⟨g, off, none⟩)) 0).run Tryd.prog w = .ok (.pointer (some ⟨g, off + 0, none⟩)) w := fun w => by kernel_rfl
theorem fa53_1 (g off : Nat) : ∀ w, (Instr.fieldAt 53 (.pointer (some ⟨g, off, none⟩)) 1).run Tryd.prog w = .ok (.pointer (some ⟨g, off + 1, none⟩)) w := fun w => by kernel_rfl
theorem fa53_2 (g off : Nat) : ∀ w, (Instr.fieldAt 53 (.pointer (some ⟨g, off, none⟩)) 2).run Tryd.prog w = .ok (.pointer (some ⟨g, off + 9, none⟩)) w := fun w => by kernel_rfl
theorem fa53_3 (g off : Nat) : ∀ w, (Instr.fieldAt 53 (.pointer (some ⟨g, off, none⟩)) 3).run Tryd.prog w = .ok (.pointer (some ⟨g, off + 137, none⟩)) w := fun w => by kernel_rfl
theorem fa53_4 (g off : Nat) : ∀ w, (Instr.fieldAt 53 (.pointer (some ⟨g, off, none⟩)) 4).run Tryd.prog w = .ok (.pointer (some ⟨g, off + 138, none⟩)) w := fun w => by kernel_rfl
theorem sc3 : (Tryd.prog.underlying 3).map scal = some true := by rw [Tryd.underlying3]; rfl
theorem sc39 : (Tryd.prog.underlying 39).map scal = some true := by rw [Tryd.underlying39]; rfl
theorem sc5 : (Tryd.prog.underlying 5).map scal = some true := by rw [Tryd.underlying5]; rfl
theorem sc93 : (Tryd.prog.underlying 93).map scal = some true := by rw [Tryd.underlying93]; rfl
theorem so3 : (Tryd.prog.underlying 3).isSome = true := by rw [Tryd.underlying3]; rfl
theorem so39 : (Tryd.prog.underlying 39).isSome = true := by rw [Tryd.underlying39]; rfl
theorem so5 : (Tryd.prog.underlying 5).isSome = true := by rw [Tryd.underlying5]; rfl
theorem so93 : (Tryd.prog.underlying 93).isSome = true := by rw [Tryd.underlying93]; rfl
theorem sz3 : (Tryd.prog.info? 3).map (·.size) = some 1 := by kernel_rfl
theorem sz39 : (Tryd.prog.info? 39).map (·.size) = some 1 := by kernel_rfl
theorem sz40 : (Tryd.prog.info? 40).map (·.size) = some 8 := by kernel_rfl
theorem sz5 : (Tryd.prog.info? 5).map (·.size) = some 1 := by kernel_rfl
theorem sz53 : (Tryd.prog.info? 53).map (·.size) = some 139 := by kernel_rfl
theorem sz93 : (Tryd.prog.info? 93).map (·.size) = some 1 := by kernel_rfl
theorem sz96 : (Tryd.prog.info? 96).map (·.size) = some 8 := by kernel_rfl
end ShaDT
theorem hrow_one (kd : Value) (hh : Nat → BitVec 64) (rr : Nat → BitVec 8) (n al : Value) (j : Nat) (h1 : kd.oneCell' = true) (h2 : n.oneCell' = true) (h3 : al.oneCell' = true) : (Sha.hrow kd hh rr n al j).oneCell' = true := by
  unfold Sha.hrow
  split
  · exact h1
  split
  · exact U64.oneCell _
  split
  · exact U8.oneCell _
  split
  · exact h2
  · exact h3

set_option maxRecDepth 100000 in
set_option maxHeartbeats 1000000 in
theorem write_256 (h : Nat) (h1 : 0 < h ∧ 1 < h) (m : List (BitVec 8)) (s : List (BitVec 8)) (hs : s.length ≤ 140737488351232) (rr : Nat → BitVec 8) (hr : ∀ j, j < m.length % 64 → rr j = gb m (64 * (m.length / 64) + j)) (w0 : World) (r_h : Row w0 h 53 139 (Sha.hrow (.int .i64 256) (Sha.st 256 (gb m) (m.length / 64)) rr (.int .i64 (((m.length % 64) : Nat) : Int)) (U64 (BitVec.ofNat 64 m.length)))) (hT : Sha.Tabs w0) : Calls Tryd.prog 24 #[pt h 0, .string (str s)] w0 fun e w' => e = .returned (.int .i64 0) ∧ Sha.At w' h 256 (m ++ s) ∧ w0.grownBy w' (some h) := by
 have hT0 := hT.lt
 refine enter (n := 27) Tryd.func24 rfl rfl rfl ?_
 have hk : w0.grownBy w0 (some h) := grown_refl _ _
 have lt_h := r_h.lt
 refine sr ?_
 refine w_as (evc (.int .i64 0)) ?_
 refine nt ?_
 refine wp_seq ?_
 refine sr ?_
 refine w_mv (ev (pt h 0) rfl rfl) ?_
 refine w_val (y_bin (ev (pt h 0) rfl rfl) (evc (.pointer none)) (b_eqp Tryd.underlying31)) ?_
 refine w_mv (ev (.bool false) rfl rfl) ?_
 refine w_val_g (v := pt h 0) (want_yes (j := 2) rfl rfl (ev (.bool false) rfl rfl) rfl) (y_mv (ev (pt h 0) rfl rfl)) ?_
 refine w_val_g (want_yes (j := 2) rfl rfl (ev (.bool false) rfl rfl) rfl) (y_nc (ev (pt h 0) rfl rfl)) ?_
 refine w_val_g (v := pt h 0) (want_yes (j := 2) rfl rfl (ev (.bool false) rfl rfl) rfl) (y_off (y_fa (ev (pt h 0) rfl rfl) (ShaDT.fa53_0 _ _)) (by first | rfl | omega)) ?_
 refine w_val_g (v := .int .i64 256) (want_yes (j := 2) rfl rfl (ev (.bool false) rfl rfl) rfl) (y_ld (ev (pt h 0) rfl rfl) ShaDT.sc3 (r_h.val (by omega) (etv (if_pos (by omega))))) ?_
 refine w_val_g (want_yes (j := 2) rfl rfl (ev (.bool false) rfl rfl) rfl) (y_bin (ev (.int .i64 256) rfl rfl) (evc (.int .i64 0)) b_eql) ?_
 refine w_val (y_pick_f (ev (.bool false) rfl rfl) (ev (.bool false) rfl rfl)) ?_
 refine nt ?_
 refine c_ff (ev (.bool false) rfl rfl) ?_
 refine wp_skip ?_
 refine then_n ?_
 refine sr ?_
 refine w_mv (ev (pt h 0) rfl rfl) ?_
 refine w_val (y_nc (ev (pt h 0) rfl rfl)) ?_
 refine w_val (v := pt h 138) (y_off (y_fa (ev (pt h 0) rfl rfl) (ShaDT.fa53_4 _ _)) (by first | rfl | omega)) ?_
 refine w_val (v := U64 (BitVec.ofNat 64 m.length)) (y_ld (ev (pt h 138) rfl rfl) ShaDT.sc39 (r_h.val (by omega) ((if_neg (by omega)).trans ((if_neg (by omega)).trans ((if_neg (by omega)).trans ((if_neg (by omega)).trans (by first | with_reducible rfl | (with_reducible congr 1 <;> omega) | (with_reducible congr 2 <;> omega) | (with_reducible congr 3 <;> omega) | rfl))))))) ?_
 refine w_mv (ev (.string (str s)) rfl rfl) ?_
 refine w_val (y_len (ev (.string (str s)) rfl rfl) Tryd.underlying9) ?_
 refine w_val (y_nat_u64 (p := s.length) (ev (.int .i64 ((s.length : Nat) : Int)) rfl rfl) (by omega) ShaDT.so3 Tryd.underlying39) ?_
 refine w_val (y_bin (ev (U64 (BitVec.ofNat 64 m.length)) rfl rfl) (ev (U64 (BitVec.ofNat 64 s.length)) rfl rfl) add64) ?_
 refine w_val (y_nc (ev (pt h 0) rfl rfl)) ?_
 refine w_val (v := pt h 138) (y_off (y_fa (ev (pt h 0) rfl rfl) (ShaDT.fa53_4 _ _)) (by first | rfl | omega)) ?_
 refine w_st (v := U64 ((BitVec.ofNat 64 m.length) + (BitVec.ofNat 64 s.length))) (ev (pt h 138) rfl rfl) (ev (U64 ((BitVec.ofNat 64 m.length) + (BitVec.ofNat 64 s.length))) rfl rfl) rfl rfl ShaDT.sz39 r_h (by omega) ?_
 clear r_h; intro w1 r_h hg2 _
 replace hk := grown_thenG hk hg2 (by omega)
 replace hT := Sha.Tabs.grown hT hg2 (by omega) (by omega)
 refine nt ?_
 refine sr ?_
 refine w_mv (ev (pt h 0) rfl rfl) ?_
 refine w_mv (ev (.string (str s)) rfl rfl) ?_
 replace r_h := r_h.congr (g := Sha.hrow (.int .i64 256) (Sha.st 256 (gb m) (m.length / 64)) rr (.int .i64 (((m.length % 64) : Nat) : Int)) (U64 ((BitVec.ofNat 64 m.length) + (BitVec.ofNat 64 s.length)))) (fun j hj => Sha.all_row _ _ _ _ _ _ j hj)
 have rh_ := r_h
 clear r_h
 refine w_call (Tryd.func41) (by kernel_rfl) rfl (m2 (ev (pt h 0) rfl rfl) (ev (.string (str s)) rfl rfl)) (put_256 h (by omega) m s (by omega) rr ((BitVec.ofNat 64 m.length) + (BitVec.ofNat 64 s.length)) hr w1 rh_ hT) ?_
 rintro _ w3 ⟨rfl, rr', hr', r_h, hgf⟩
 refine ⟨_, rfl, ?_⟩
 replace hk := grown_thenG hk hgf (by omega)
 replace hT := Sha.Tabs.grown hT hgf (by omega) (by omega)
 refine nt ?_
 refine sr ?_
 refine w_as (evc (.int .i64 0)) ?_
 refine nt ?_
 refine wp_ret ?_
 refine fin_ret1 rfl (ev (.int .i64 0) rfl rfl) ?_
 exact ⟨rfl, Sha.At.of 256 64 (m.length + s.length) rfl (m ++ s) List.length_append rr' hr' (by rw [BitVec.ofNat_add]; exact r_h), hk⟩

set_option maxRecDepth 100000 in
set_option maxHeartbeats 1000000 in
theorem copy_256 (h : Nat) (h1 : 0 < h ∧ 1 < h) (m : List (BitVec 8)) (rr : Nat → BitVec 8) (hr : ∀ j, j < m.length % 64 → rr j = gb m (64 * (m.length / 64) + j)) (w0 : World) (r_h : Row w0 h 53 139 (Sha.hrow (.int .i64 256) (Sha.st 256 (gb m) (m.length / 64)) rr (.int .i64 (((m.length % 64) : Nat) : Int)) (U64 (BitVec.ofNat 64 m.length)))) : Calls Tryd.prog 25 #[pt h 0] w0 fun e w' => ∃ p, e = .returned (.pointer (some ⟨p, 0, none⟩)) ∧ w0.heap.size ≤ p ∧ Sha.At w' p 256 m ∧ Below w0.heap.size w0 w' := by
 refine enter (n := 16) Tryd.func25 rfl rfl rfl ?_
 have hk : Below w0.heap.size w0 w0 := Below.refl _ _
 have lt_h := r_h.lt
 refine sr ?_
 refine w_as (evc (.pointer none)) ?_
 refine nt ?_
 refine wp_seq ?_
 refine sr ?_
 refine w_mv (ev (pt h 0) rfl rfl) ?_
 refine w_val (y_bin (ev (pt h 0) rfl rfl) (evc (.pointer none)) (b_eqp Tryd.underlying31)) ?_
 refine w_mv (ev (.bool false) rfl rfl) ?_
 refine w_val_g (v := pt h 0) (want_yes (j := 2) rfl rfl (ev (.bool false) rfl rfl) rfl) (y_mv (ev (pt h 0) rfl rfl)) ?_
 refine w_val_g (want_yes (j := 2) rfl rfl (ev (.bool false) rfl rfl) rfl) (y_nc (ev (pt h 0) rfl rfl)) ?_
 refine w_val_g (v := pt h 0) (want_yes (j := 2) rfl rfl (ev (.bool false) rfl rfl) rfl) (y_off (y_fa (ev (pt h 0) rfl rfl) (ShaDT.fa53_0 _ _)) (by first | rfl | omega)) ?_
 refine w_val_g (v := .int .i64 256) (want_yes (j := 2) rfl rfl (ev (.bool false) rfl rfl) rfl) (y_ld (ev (pt h 0) rfl rfl) ShaDT.sc3 (r_h.val (by omega) (etv (if_pos (by omega))))) ?_
 refine w_val_g (want_yes (j := 2) rfl rfl (ev (.bool false) rfl rfl) rfl) (y_bin (ev (.int .i64 256) rfl rfl) (evc (.int .i64 0)) b_eql) ?_
 refine w_val (y_pick_f (ev (.bool false) rfl rfl) (ev (.bool false) rfl rfl)) ?_
 refine nt ?_
 refine c_ff (ev (.bool false) rfl rfl) ?_
 refine wp_skip ?_
 refine then_n ?_
 refine sr ?_
 refine w_mv (ev (pt h 0) rfl rfl) ?_
 refine w_val (y_nc (ev (pt h 0) rfl rfl)) ?_
 refine w_val (v := .agg (arr 139 (Sha.hrow (.int .i64 256) (Sha.st 256 (gb m) (m.length / 64)) rr (.int .i64 (((m.length % 64) : Nat) : Int)) (U64 (BitVec.ofNat 64 m.length))))) (y_lda (ev (pt h 0) rfl rfl) ShaDT.ag53 ShaDT.sz53 (fun j hj => by rw [Nat.zero_add]; exact (r_h.cell (by omega)))) ?_
 refine w_alloc (m := 139) (F := fun j => if j < 1 then .int .i64 0 else if j < 9 then U64 (0#64) else if j < 137 then U8 (0#8) else if j < 138 then .int .i64 0 else U64 (0#64)) (by kernel_rfl) ?_
 intro b_x w1 hbe_b_x r_b_x hb2
 have ne_h_b_x : h ≠ b_x := by have := r_h.lt; omega
 have ge_b_x : w0.heap.size ≤ b_x := by have := hk.size; omega
 clear hbe_b_x
 replace r_h := r_h.step hb2
 replace hk := thenB hk hb2
 refine w_sta (k := 139) (G := Sha.hrow (.int .i64 256) (Sha.st 256 (gb m) (m.length / 64)) rr (.int .i64 (((m.length % 64) : Nat) : Int)) (U64 (BitVec.ofNat 64 m.length))) (ev (pt b_x 0) rfl rfl) (ev (.agg (arr 139 (Sha.hrow (.int .i64 256) (Sha.st 256 (gb m) (m.length / 64)) rr (.int .i64 (((m.length % 64) : Nat) : Int)) (U64 (BitVec.ofNat 64 m.length))))) rfl rfl) (fun j _ => by exact hrow_one _ _ _ _ _ j rfl rfl rfl) ShaDT.sz53 r_b_x (by omega) ?_
 clear r_b_x; intro w3 r_b_x hg4 _
 replace r_b_x := r_b_x.congr (g := Sha.hrow (.int .i64 256) (Sha.st 256 (gb m) (m.length / 64)) rr (.int .i64 (((m.length % 64) : Nat) : Int)) (U64 (BitVec.ofNat 64 m.length))) (fun j hj => by rw [if_pos ⟨Nat.zero_le _, by omega⟩]; first | rfl | (simp only [Nat.sub_zero]))
 replace r_h := r_h.stepG hg4 (by omega)
 replace hk := thenG hk hg4 (by omega)
 refine nt ?_
 refine sr ?_
 refine w_as (ev (pt b_x 0) rfl rfl) ?_
 refine nt ?_
 refine wp_ret ?_
 refine fin_ret1 rfl (ev (pt b_x 0) rfl rfl) ?_
 exact ⟨b_x, rfl, ge_b_x, Sha.At.of 256 64 m.length rfl m rfl rr hr r_b_x, hk⟩

set_option maxRecDepth 100000 in
set_option maxHeartbeats 1000000 in
theorem sum_256 (h : Nat) (h1 : 0 < h ∧ 1 < h) (m : List (BitVec 8)) (hm : m.length ≤ 1152921504606846976) (rr : Nat → BitVec 8) (hr : ∀ j, j < m.length % 64 → rr j = gb m (64 * (m.length / 64) + j)) (w0 : World) (r_h : Row w0 h 53 139 (Sha.hrow (.int .i64 256) (Sha.st 256 (gb m) (m.length / 64)) rr (.int .i64 (((m.length % 64) : Nat) : Int)) (U64 (BitVec.ofNat 64 m.length)))) (hT : Sha.Tabs w0) : Calls Tryd.prog 23 #[pt h 0] w0 fun e w' => e = .returned (.tuple #[.string (str (Sha.sum 256 m)), .int .i64 0]) ∧ Below w0.heap.size w0 w' := by
 have hT0 := hT.lt
 have hpl : Sha.padl 256 m.length = ((((119 - (m.length % 64)) % 64) + 1) + 8) := by rw [Sha.padl_eq 256 64 _ rfl]
 have hlp : (Sha.pad 256 m.length).length = ((((119 - (m.length % 64)) % 64) + 1) + 8) := by rw [Sha.length_pad, hpl]
 refine enter (n := 117) Tryd.func23 rfl rfl rfl ?_
 have hk : Below w0.heap.size w0 w0 := Below.refl _ _
 have lt_h := r_h.lt
 refine sr ?_
 refine w_as (evc (.string (str ([] : List (BitVec 8))))) ?_
 refine w_as (evc (.int .i64 0)) ?_
 refine nt ?_
 refine wp_seq ?_
 refine sr ?_
 refine w_mv (ev (pt h 0) rfl rfl) ?_
 refine w_val (y_bin (ev (pt h 0) rfl rfl) (evc (.pointer none)) (b_eqp Tryd.underlying31)) ?_
 refine w_mv (ev (.bool false) rfl rfl) ?_
 refine w_val_g (v := pt h 0) (want_yes (j := 2) rfl rfl (ev (.bool false) rfl rfl) rfl) (y_mv (ev (pt h 0) rfl rfl)) ?_
 refine w_val_g (want_yes (j := 2) rfl rfl (ev (.bool false) rfl rfl) rfl) (y_nc (ev (pt h 0) rfl rfl)) ?_
 refine w_val_g (v := pt h 0) (want_yes (j := 2) rfl rfl (ev (.bool false) rfl rfl) rfl) (y_off (y_fa (ev (pt h 0) rfl rfl) (ShaDT.fa53_0 _ _)) (by first | rfl | omega)) ?_
 refine w_val_g (v := .int .i64 256) (want_yes (j := 2) rfl rfl (ev (.bool false) rfl rfl) rfl) (y_ld (ev (pt h 0) rfl rfl) ShaDT.sc3 (r_h.val (by omega) (etv (if_pos (by omega))))) ?_
 refine w_val_g (want_yes (j := 2) rfl rfl (ev (.bool false) rfl rfl) rfl) (y_bin (ev (.int .i64 256) rfl rfl) (evc (.int .i64 0)) b_eql) ?_
 refine w_val (y_pick_f (ev (.bool false) rfl rfl) (ev (.bool false) rfl rfl)) ?_
 refine nt ?_
 refine c_ff (ev (.bool false) rfl rfl) ?_
 refine wp_skip ?_
 refine then_n ?_
 refine sr ?_
 refine w_mv (ev (pt h 0) rfl rfl) ?_
 refine w_val (y_nc (ev (pt h 0) rfl rfl)) ?_
 refine w_val (v := pt h 0) (y_off (y_fa (ev (pt h 0) rfl rfl) (ShaDT.fa53_0 _ _)) (by first | rfl | omega)) ?_
 refine w_val (v := .int .i64 256) (y_ld (ev (pt h 0) rfl rfl) ShaDT.sc3 (r_h.val (by omega) (etv (if_pos (by omega))))) ?_
 refine w_call (Tryd.func19) (by kernel_rfl) rfl (m1 (ev (.int .i64 256) rfl rfl)) (shaSize_256  w0) ?_
 rintro _ w1 ⟨rfl, hb2⟩
 refine ⟨_, rfl, ?_⟩
 replace r_h := r_h.step hb2
 replace hk := thenB hk hb2
 replace hT := Sha.Tabs.below hT hb2
 refine w_mv (ev (.tuple #[.int .i64 32, .int .i64 64, .int .i64 0]) rfl rfl) ?_
 refine w_val (y_ext (v := .int .i64 32) (ev (.tuple #[.int .i64 32, .int .i64 64, .int .i64 0]) rfl rfl) rfl) ?_
 refine w_val (y_ext (v := .int .i64 64) (ev (.tuple #[.int .i64 32, .int .i64 64, .int .i64 0]) rfl rfl) rfl) ?_
 refine w_val (y_ext (v := .int .i64 0) (ev (.tuple #[.int .i64 32, .int .i64 64, .int .i64 0]) rfl rfl) rfl) ?_
 refine w_as (ev (.int .i64 32) rfl rfl) ?_
 refine w_as (ev (.int .i64 64) rfl rfl) ?_
 refine w_as (ev (.int .i64 0) rfl rfl) ?_
 refine nt ?_
 refine sr ?_
 refine w_mv (ev (pt h 0) rfl rfl) ?_
 refine w_val (y_nc (ev (pt h 0) rfl rfl)) ?_
 refine w_val (v := .agg (arr 139 (Sha.hrow (.int .i64 256) (Sha.st 256 (gb m) (m.length / 64)) rr (.int .i64 (((m.length % 64) : Nat) : Int)) (U64 (BitVec.ofNat 64 m.length))))) (y_lda (ev (pt h 0) rfl rfl) ShaDT.ag53 ShaDT.sz53 (fun j hj => by rw [Nat.zero_add]; exact (r_h.cell (by omega)))) ?_
 refine w_alloc (m := 139) (F := fun j => if j < 1 then .int .i64 0 else if j < 9 then U64 (0#64) else if j < 137 then U8 (0#8) else if j < 138 then .int .i64 0 else U64 (0#64)) (by kernel_rfl) ?_
 intro b_x w3 hbe_b_x r_b_x hb4
 have ne_h_b_x : h ≠ b_x := by have := r_h.lt; omega
 have ge_b_x : w0.heap.size ≤ b_x := by have := hk.size; omega
 clear hbe_b_x
 replace r_h := r_h.step hb4
 replace hk := thenB hk hb4
 replace hT := Sha.Tabs.below hT hb4
 refine w_sta (k := 139) (G := Sha.hrow (.int .i64 256) (Sha.st 256 (gb m) (m.length / 64)) rr (.int .i64 (((m.length % 64) : Nat) : Int)) (U64 (BitVec.ofNat 64 m.length))) (ev (pt b_x 0) rfl rfl) (ev (.agg (arr 139 (Sha.hrow (.int .i64 256) (Sha.st 256 (gb m) (m.length / 64)) rr (.int .i64 (((m.length % 64) : Nat) : Int)) (U64 (BitVec.ofNat 64 m.length))))) rfl rfl) (fun j _ => by exact hrow_one _ _ _ _ _ j rfl rfl rfl) ShaDT.sz53 r_b_x (by omega) ?_
 clear r_b_x; intro w5 r_b_x hg6 _
 replace r_b_x := r_b_x.congr (g := Sha.hrow (.int .i64 256) (Sha.st 256 (gb m) (m.length / 64)) rr (.int .i64 (((m.length % 64) : Nat) : Int)) (U64 (BitVec.ofNat 64 m.length))) (fun j hj => by rw [if_pos ⟨Nat.zero_le _, by omega⟩]; first | rfl | (simp only [Nat.sub_zero]))
 replace r_h := r_h.stepG hg6 (by omega)
 replace hk := thenG hk hg6 (by omega)
 replace hT := Sha.Tabs.grown hT hg6 (by omega) (by omega)
 refine nt ?_
 refine sr ?_
 refine w_mv (ev (.int .i64 64) rfl rfl) ?_
 refine w_val (y_bin (ev (.int .i64 64) rfl rfl) (evc (.int .i64 8)) (b_quo (by omega))) ?_
 refine w_as (ev (.int .i64 8) rfl rfl) ?_
 refine nt ?_
 refine sr ?_
 refine w_mv (ev (.int .i64 64) rfl rfl) ?_
 refine w_val (y_bin (evc (.int .i64 2)) (ev (.int .i64 64) rfl rfl) (b_mul (by omega))) ?_
 refine w_mv (ev (.int .i64 8) rfl rfl) ?_
 refine w_val (y_bin (ev (.int .i64 128) rfl rfl) (ev (.int .i64 8) rfl rfl) (b_sub (by omega))) ?_
 refine w_val (y_bin (ev (.int .i64 120) rfl rfl) (evc (.int .i64 1)) (b_sub (by omega))) ?_
 refine w_val (v := pt b_x 137) (y_off (y_fa (ev (pt b_x 0) rfl rfl) (ShaDT.fa53_3 _ _)) (by first | rfl | omega)) ?_
 refine w_val (v := .int .i64 (((m.length % 64) : Nat) : Int)) (y_ld (ev (pt b_x 137) rfl rfl) ShaDT.sc3 (r_b_x.val (by omega) ((if_neg (by omega)).trans ((if_neg (by omega)).trans ((if_neg (by omega)).trans (etv (if_pos (by omega)))))))) ?_
 refine w_val (y_bin (ev (.int .i64 119) rfl rfl) (ev (.int .i64 (((m.length % 64) : Nat) : Int)) rfl rfl) (b_sub (by omega))) ?_
 refine w_mv (ev (.int .i64 64) rfl rfl) ?_
 refine w_val (y_bin (ev (.int .i64 (119 - (((m.length % 64) : Nat) : Int))) rfl rfl) (ev (.int .i64 64) rfl rfl) (b_rem (by omega))) ?_
 refine w_val (y_bin (ev (.int .i64 ((119 - (((m.length % 64) : Nat) : Int)) % 64)) rfl rfl) (evc (.int .i64 1)) (b_add (by omega))) ?_
 refine w_mv (ev (.int .i64 8) rfl rfl) ?_
 refine w_val (y_bin (ev (.int .i64 (((119 - (((m.length % 64) : Nat) : Int)) % 64) + 1)) rfl rfl) (ev (.int .i64 8) rfl rfl) (b_add (by omega))) ?_
 refine w_mks (m := ((((119 - (m.length % 64)) % 64) + 1) + 8)) (bytes := 1) (zv := U8 (0#8)) (ev (.int .i64 ((((119 - (((m.length % 64) : Nat) : Int)) % 64) + 1) + 8)) rfl rfl) (ev (.int .i64 ((((119 - (((m.length % 64) : Nat) : Int)) % 64) + 1) + 8)) rfl rfl) (by omega) (by omega) Tryd.underlying76 (by kernel_rfl) rfl (by omega) (by omega) ?_
 intro b_50 w7 hbe_b_50 r_b_50 hb8
 have ne_h_b_50 : h ≠ b_50 := by have := r_h.lt; omega
 have ne_b_x_b_50 : b_x ≠ b_50 := by have := r_b_x.lt; omega
 have ge_b_50 : w0.heap.size ≤ b_50 := by have := hk.size; omega
 clear hbe_b_50
 replace r_h := r_h.step hb8
 replace r_b_x := r_b_x.step hb8
 replace hk := thenB hk hb8
 replace hT := Sha.Tabs.below hT hb8
 refine w_as (ev (.slice (some ⟨b_50, 0, none⟩) ((((119 - (m.length % 64)) % 64) + 1) + 8) ((((119 - (m.length % 64)) % 64) + 1) + 8)) rfl rfl) ?_
 refine nt ?_
 refine sr ?_
 refine w_mv (ev (.slice (some ⟨b_50, 0, none⟩) ((((119 - (m.length % 64)) % 64) + 1) + 8) ((((119 - (m.length % 64)) % 64) + 1) + 8)) rfl rfl) ?_
 refine w_val (y_is1z (i := 0) (ev (.slice (some ⟨b_50, 0, none⟩) ((((119 - (m.length % 64)) % 64) + 1) + 8) ((((119 - (m.length % 64)) % 64) + 1) + 8)) rfl rfl) (evc (.int .i64 0)) Tryd.underlying76 ShaDT.sz5 (by omega) (by omega)) ?_
 refine w_st (v := U8 (128#8)) (ev (pt b_50 0) rfl rfl) (evc (U8 (128#8))) rfl rfl ShaDT.sz5 r_b_50 (by omega) ?_
 clear r_b_50; intro w9 r_b_50 hg10 _
 replace r_h := r_h.stepG hg10 (by omega)
 replace r_b_x := r_b_x.stepG hg10 (by omega)
 replace hk := thenG hk hg10 (by omega)
 replace hT := Sha.Tabs.grown hT hg10 (by omega) (by omega)
 refine nt ?_
 refine wp_seq ?_
 refine sr ?_
 refine w_mv (evc (.int .i64 0)) ?_
 refine nt ?_
 refine wp_block ?_
 refine c_loop (fun dN aN wl => ∃ (i : Nat), dN = (8 - i) ∧ ∃ f11, aN = fr 117 f11 ∧ (i ≤ 8) ∧ f11 0 = pt h 0 ∧ f11 2 = .string (str ([] : List (BitVec 8))) ∧ f11 3 = .int .i64 0 ∧ f11 4 = .int .i64 32 ∧ f11 5 = .int .i64 64 ∧ f11 7 = pt b_x 0 ∧ f11 8 = .int .i64 8 ∧ f11 9 = .slice (some ⟨b_50, 0, none⟩) ((((119 - (m.length % 64)) % 64) + 1) + 8) ((((119 - (m.length % 64)) % 64) + 1) + 8) ∧ f11 53 = .int .i64 ((i : Nat) : Int) ∧ Row wl h 53 139 (Sha.hrow (.int .i64 256) (Sha.st 256 (gb m) (m.length / 64)) rr (.int .i64 (((m.length % 64) : Nat) : Int)) (U64 (BitVec.ofNat 64 m.length))) ∧ Row wl b_x 53 139 (Sha.hrow (.int .i64 256) (Sha.st 256 (gb m) (m.length / 64)) rr (.int .i64 (((m.length % 64) : Nat) : Int)) (U64 (BitVec.ofNat 64 m.length))) ∧ Row wl b_50 5 ((((119 - (m.length % 64)) % 64) + 1) + 8) (fun j => if ((((119 - (m.length % 64)) % 64) + 1) + 8) ≤ j + i then (fun j => U8 (gb (Oct.be (BitVec.ofNat 64 (8 * m.length)) 8) (j - (((((119 - (m.length % 64)) % 64) + 1) + 8) - 8)))) j else (fun j => if j = 0 then U8 (128#8) else (fun j => U8 (0#8)) j) j) ∧ Sha.Tabs wl ∧ Below w0.heap.size w0 wl) (8 - 0) ?_ ?_
 · exact ⟨0, rfl, _, rfl, iv, rfl, rfl, rfl, rfl, rfl, rfl, rfl, rfl, (etv (b := .int .i64 0) rfl), r_h, r_b_x, (r_b_50.congr (fun j hj => by exact (if_neg (by omega)).symm)), hT, hk⟩
 ·skip
  clear r_h r_b_x r_b_50 hT hk
  rintro _ _ w12 ⟨i, rfl, f11, rfl, i1_0, s1_0, s1_2, s1_3, s1_4, s1_5, s1_7, s1_8, s1_9, s1_53, r_h, r_b_x, r_b_50, hT, hk⟩
  refine sr ?_
  refine w_val (y_bin (ev (.int .i64 ((i : Nat) : Int)) s1_53 rfl) (evc (.int .i64 8)) b_lss) ?_
  refine nt ?_
  refine wp_seq ?_
  refine c_if (p := ((i : Nat) : Int) < 8) (ev (.bool (decide (((i : Nat) : Int) < 8))) rfl rfl) (fun hc13 => ?_) (fun hc13 => ?_)
  ·skip
   refine wp_skip ?_
   refine then_n ?_
   refine wp_seq ?_
   refine wp_block ?_
   refine sr ?_
   refine w_mv (ev (.int .i64 ((i : Nat) : Int)) s1_53 rfl) ?_
   refine w_as (ev (.int .i64 ((i : Nat) : Int)) rfl rfl) ?_
   refine nt ?_
   refine wp_region_lit ?_
   refine w_mv (ev (.slice (some ⟨b_50, 0, none⟩) ((((119 - (m.length % 64)) % 64) + 1) + 8) ((((119 - (m.length % 64)) % 64) + 1) + 8)) s1_9 rfl) ?_
   refine w_mv (ev (.slice (some ⟨b_50, 0, none⟩) ((((119 - (m.length % 64)) % 64) + 1) + 8) ((((119 - (m.length % 64)) % 64) + 1) + 8)) s1_9 rfl) ?_
   refine w_val (v := .int .i64 ((((((119 - (m.length % 64)) % 64) + 1) + 8) : Nat) : Int)) (y_len_sl (ev (.slice (some ⟨b_50, 0, none⟩) ((((119 - (m.length % 64)) % 64) + 1) + 8) ((((119 - (m.length % 64)) % 64) + 1) + 8)) rfl rfl) Tryd.underlying76) ?_
   refine w_val (y_bin (ev (.int .i64 ((((((119 - (m.length % 64)) % 64) + 1) + 8) : Nat) : Int)) rfl rfl) (evc (.int .i64 1)) (b_sub (by omega))) ?_
   refine w_mv (ev (.int .i64 ((i : Nat) : Int)) rfl rfl) ?_
   refine w_val (y_bin (ev (.int .i64 (((((((119 - (m.length % 64)) % 64) + 1) + 8) : Nat) : Int) - 1)) rfl rfl) (ev (.int .i64 ((i : Nat) : Int)) rfl rfl) (b_sub (by omega))) ?_
   refine w_val (v := pt b_x 138) (y_off (y_fa (ev (pt b_x 0) s1_7 rfl) (ShaDT.fa53_4 _ _)) (by first | rfl | omega)) ?_
   refine w_val (v := U64 (BitVec.ofNat 64 m.length)) (y_ld (ev (pt b_x 138) rfl rfl) ShaDT.sc39 (r_b_x.val (by omega) ((if_neg (by omega)).trans ((if_neg (by omega)).trans ((if_neg (by omega)).trans ((if_neg (by omega)).trans (by first | with_reducible rfl | (with_reducible congr 1 <;> omega) | (with_reducible congr 2 <;> omega) | (with_reducible congr 3 <;> omega) | rfl))))))) ?_
   refine w_val (y_bin (ev (U64 (BitVec.ofNat 64 m.length)) rfl rfl) (evc (.int .u64 3)) (shl64 (c := 3) rfl)) ?_
   refine w_mv (ev (.int .i64 ((i : Nat) : Int)) rfl rfl) ?_
   refine w_val (y_bin (evc (.int .i64 8)) (ev (.int .i64 ((i : Nat) : Int)) rfl rfl) (b_mul (by omega))) ?_
   refine w_val (y_bin (ev (U64 ((BitVec.ofNat 64 m.length) <<< 3)) rfl rfl) (ev (.int .i64 (8 * ((i : Nat) : Int))) rfl rfl) (shr64 (c := (8 * i)) (by omega))) ?_
   refine w_val (y_u64_u8 (ev (U64 (((BitVec.ofNat 64 m.length) <<< 3) >>> (8 * i))) rfl rfl) ShaDT.so39 Tryd.underlying5) ?_
   refine w_val (y_is1z (i := ((((((119 - (m.length % 64)) % 64) + 1) + 8) - 1) - i)) (ev (.slice (some ⟨b_50, 0, none⟩) ((((119 - (m.length % 64)) % 64) + 1) + 8) ((((119 - (m.length % 64)) % 64) + 1) + 8)) rfl rfl) (ev (.int .i64 ((((((((119 - (m.length % 64)) % 64) + 1) + 8) : Nat) : Int) - 1) - ((i : Nat) : Int))) rfl rfl) Tryd.underlying76 ShaDT.sz5 (by omega) (by omega)) ?_
   refine w_st (v := U8 ((((BitVec.ofNat 64 m.length) <<< 3) >>> (8 * i)).setWidth 8)) (ev (pt b_50 ((((((119 - (m.length % 64)) % 64) + 1) + 8) - 1) - i)) rfl rfl) (ev (U8 ((((BitVec.ofNat 64 m.length) <<< 3) >>> (8 * i)).setWidth 8)) rfl rfl) rfl rfl ShaDT.sz5 r_b_50 (by omega) ?_
   clear r_b_50; intro w14 r_b_50 hg15 _
   replace r_h := r_h.stepG hg15 (by omega)
   replace r_b_x := r_b_x.stepG hg15 (by omega)
   replace hk := thenG hk hg15 (by omega)
   replace hT := Sha.Tabs.grown hT hg15 (by omega) (by omega)
   refine wpList_nil ?_
   refine inb_n ?_
   refine then_n ?_
   refine wp_region_lit ?_
   refine w_val (y_bin (ev (.int .i64 ((i : Nat) : Int)) s1_53 rfl) (evc (.int .i64 1)) (b_add (by omega))) ?_
   refine w_mv (ev (.int .i64 (((i : Nat) : Int) + 1)) rfl rfl) ?_
   refine wpList_nil ?_
   exact then_n ⟨_, (by omega), i + 1, rfl, _, rfl, iv, s1_0, s1_2, s1_3, s1_4, s1_5, s1_7, s1_8, s1_9, (etv (b := .int .i64 (((i : Nat) : Int) + 1)) rfl), r_h, r_b_x, (r_b_50.congr (fun j hj => by (try dsimp only); by_cases e : j = ((((119 - (m.length % 64)) % 64) + 1) + 8) - 1 - i; (rw [if_pos e, if_pos (by omega), Sha.len_byte _ _ (by omega)]; exact congrArg U8 (congrArg (gb _) (by omega))); (rw [if_neg e]; by_cases e2 : ((((119 - (m.length % 64)) % 64) + 1) + 8) ≤ j + i; (rw [if_pos e2]; exact (if_pos (by omega)).symm); (rw [if_neg e2]; exact (if_neg (by omega)).symm)))), hT, hk⟩
  ·skip
   refine wp_exit ?_
   refine then_x ?_
   refine then_x ?_
   refine inb_x ?_
   refine then_n ?_
   refine wp_seq ?_
   refine sr ?_
   refine w_mv (ev (.int .i64 8) s1_8 rfl) ?_
   refine w_val (y_bin (ev (.int .i64 8) rfl rfl) (evc (.int .i64 16)) b_eql) ?_
   refine nt ?_
   refine c_ff (ev (.bool false) rfl rfl) ?_
   refine wp_skip ?_
   refine then_n ?_
   refine wp_seq ?_
   replace r_b_50 := r_b_50.congr (g := fun j => U8 (gb (Sha.pad 256 m.length) j)) (fun j hj => by rw [show i = 8 from by omega]; exact Sha.pad_row 256 m.length _ j (by omega) hj)
   refine wp_region_lit ?_
   refine w_mv (ev (.slice (some ⟨b_50, 0, none⟩) ((((119 - (m.length % 64)) % 64) + 1) + 8) ((((119 - (m.length % 64)) % 64) + 1) + 8)) s1_9 rfl) ?_
   refine w_val (y_str (l := Sha.pad 256 m.length) (ev (.slice (some ⟨b_50, 0, none⟩) ((((119 - (m.length % 64)) % 64) + 1) + 8) ((((119 - (m.length % 64)) % 64) + 1) + 8)) rfl rfl) (by first | rfl | assumption | (simp; omega) | omega) Tryd.underlying76 Tryd.underlying5 Tryd.underlying9 (fun j hj => by rw [Nat.zero_add]; exact (r_b_50.cell (by omega)))) ?_
   have rh_ := r_b_x
   clear r_b_x
   refine w_call (Tryd.func41) (by kernel_rfl) rfl (m2 (ev (pt b_x 0) s1_7 rfl) (ev (.string (str (Sha.pad 256 m.length))) rfl rfl)) (put_256 b_x (by omega) m (Sha.pad 256 m.length) (by omega) rr (BitVec.ofNat 64 m.length) hr w12 rh_ hT) ?_
   rintro _ w16 ⟨rfl, rr', hr', r_b_x, hgf⟩
   refine ⟨_, rfl, ?_⟩
   replace r_h := r_h.stepG hgf (by omega)
   replace r_b_50 := r_b_50.stepG hgf (by omega)
   replace hk := thenG hk hgf (by omega)
   replace hT := Sha.Tabs.grown hT hgf (by omega) (by omega)
   refine nt ?_
   refine wp_seq ?_
   replace r_b_x := r_b_x.congr (g := Sha.hrow (.int .i64 256) (Sha.st 256 (gb (Sha.full 256 m)) (Sha.nb 256 m)) rr' (.int .i64 ((((m.length + (Sha.pad 256 m.length).length) % 64) : Nat) : Int)) (U64 (BitVec.ofNat 64 m.length))) (fun j hj => Sha.hrow_congr _ _ _ _ _ _ _ j (fun i _ => by rw [Sha.length_pad]; rfl) (fun _ _ => rfl))
   refine wp_region_lit ?_
   refine w_alloc (m := 64) (F := fun j => U8 (0#8)) (by kernel_rfl) ?_
   intro b_out w17 hbe_b_out r_b_out hb18
   have ne_h_b_out : h ≠ b_out := by have := r_h.lt; omega
   have ne_b_x_b_out : b_x ≠ b_out := by have := r_b_x.lt; omega
   have ne_b_50_b_out : b_50 ≠ b_out := by have := r_b_50.lt; omega
   have ge_b_out : w0.heap.size ≤ b_out := by have := hk.size; omega
   clear hbe_b_out
   replace r_h := r_h.step hb18
   replace r_b_x := r_b_x.step hb18
   replace r_b_50 := r_b_50.step hb18
   replace hk := thenB hk hb18
   replace hT := Sha.Tabs.below hT hb18
   refine nt ?_
   refine wp_seq ?_
   refine sr ?_
   refine w_mv (evc (.int .i64 0)) ?_
   refine nt ?_
   refine wp_block ?_
   refine c_loop (fun dN aN wl => ∃ (a : Nat), dN = (8 - a) ∧ ∃ f19, aN = fr 117 f19 ∧ (a ≤ 8) ∧ f19 0 = pt h 0 ∧ f19 2 = .string (str ([] : List (BitVec 8))) ∧ f19 3 = .int .i64 0 ∧ f19 4 = .int .i64 32 ∧ f19 5 = .int .i64 64 ∧ f19 7 = pt b_x 0 ∧ f19 8 = .int .i64 8 ∧ f19 9 = .slice (some ⟨b_50, 0, none⟩) ((((119 - (m.length % 64)) % 64) + 1) + 8) ((((119 - (m.length % 64)) % 64) + 1) + 8) ∧ f19 11 = pt b_out 0 ∧ f19 53 = .int .i64 ((i : Nat) : Int) ∧ f19 85 = .int .i64 ((a : Nat) : Int) ∧ Row wl h 53 139 (Sha.hrow (.int .i64 256) (Sha.st 256 (gb m) (m.length / 64)) rr (.int .i64 (((m.length % 64) : Nat) : Int)) (U64 (BitVec.ofNat 64 m.length))) ∧ Row wl b_x 53 139 (Sha.hrow (.int .i64 256) (Sha.st 256 (gb (Sha.full 256 m)) (Sha.nb 256 m)) rr' (.int .i64 ((((m.length + (Sha.pad 256 m.length).length) % 64) : Nat) : Int)) (U64 (BitVec.ofNat 64 m.length))) ∧ Row wl b_50 5 ((((119 - (m.length % 64)) % 64) + 1) + 8) (fun j => U8 (gb (Sha.pad 256 m.length) j)) ∧ Row wl b_out 78 64 (fun j => if j < (4 * a) then (fun j => U8 ((Sha.st 256 (gb (Sha.full 256 m)) (Sha.nb 256 m) (j / 4) >>> (8 * (3 - j % 4))).setWidth 8)) j else (fun j => U8 (0#8)) j) ∧ Sha.Tabs wl ∧ Below w0.heap.size w0 wl) (8 - 0) ?_ ?_
   · exact ⟨0, rfl, _, rfl, iv, s1_0, s1_2, s1_3, s1_4, s1_5, s1_7, s1_8, s1_9, rfl, s1_53, (etv (b := .int .i64 0) rfl), r_h, r_b_x, r_b_50, (r_b_out.congr (fun j hj => by exact (if_neg (by omega)).symm)), hT, hk⟩
   ·skip
    clear r_h r_b_x r_b_50 r_b_out hT hk
    rintro _ _ w20 ⟨a, rfl, f19, rfl, i2_0, s2_0, s2_2, s2_3, s2_4, s2_5, s2_7, s2_8, s2_9, s2_11, s2_53, s2_85, r_h, r_b_x, r_b_50, r_b_out, hT, hk⟩
    refine sr ?_
    refine w_val (y_bin (ev (.int .i64 ((a : Nat) : Int)) s2_85 rfl) (evc (.int .i64 8)) b_lss) ?_
    refine nt ?_
    refine wp_seq ?_
    refine c_if (p := ((a : Nat) : Int) < 8) (ev (.bool (decide (((a : Nat) : Int) < 8))) rfl rfl) (fun hc21 => ?_) (fun hc21 => ?_)
    ·skip
     refine wp_skip ?_
     refine then_n ?_
     refine wp_seq ?_
     refine wp_block ?_
     refine sr ?_
     refine w_mv (ev (.int .i64 ((a : Nat) : Int)) s2_85 rfl) ?_
     refine w_as (ev (.int .i64 ((a : Nat) : Int)) rfl rfl) ?_
     refine nt ?_
     refine sr ?_
     refine w_mv (ev (.int .i64 64) s2_5 rfl) ?_
     refine w_val (y_bin (ev (.int .i64 64) rfl rfl) (evc (.int .i64 16)) (b_quo (by omega))) ?_
     refine w_mv (evc (.int .i64 0)) ?_
     refine nt ?_
     refine wp_block ?_
     refine c_loop (fun dN aN wl => ∃ (b : Nat), dN = (4 - b) ∧ ∃ f22, aN = fr 117 f22 ∧ (b ≤ 4) ∧ f22 0 = pt h 0 ∧ f22 2 = .string (str ([] : List (BitVec 8))) ∧ f22 3 = .int .i64 0 ∧ f22 4 = .int .i64 32 ∧ f22 5 = .int .i64 64 ∧ f22 7 = pt b_x 0 ∧ f22 8 = .int .i64 8 ∧ f22 9 = .slice (some ⟨b_50, 0, none⟩) ((((119 - (m.length % 64)) % 64) + 1) + 8) ((((119 - (m.length % 64)) % 64) + 1) + 8) ∧ f22 11 = pt b_out 0 ∧ f22 12 = .int .i64 ((a : Nat) : Int) ∧ f22 53 = .int .i64 ((i : Nat) : Int) ∧ f22 85 = .int .i64 ((a : Nat) : Int) ∧ f22 89 = .int .i64 4 ∧ f22 90 = .int .i64 ((b : Nat) : Int) ∧ Row wl h 53 139 (Sha.hrow (.int .i64 256) (Sha.st 256 (gb m) (m.length / 64)) rr (.int .i64 (((m.length % 64) : Nat) : Int)) (U64 (BitVec.ofNat 64 m.length))) ∧ Row wl b_x 53 139 (Sha.hrow (.int .i64 256) (Sha.st 256 (gb (Sha.full 256 m)) (Sha.nb 256 m)) rr' (.int .i64 ((((m.length + (Sha.pad 256 m.length).length) % 64) : Nat) : Int)) (U64 (BitVec.ofNat 64 m.length))) ∧ Row wl b_50 5 ((((119 - (m.length % 64)) % 64) + 1) + 8) (fun j => U8 (gb (Sha.pad 256 m.length) j)) ∧ Row wl b_out 78 64 (fun j => if j < ((a * 4) + b) then (fun j => U8 ((Sha.st 256 (gb (Sha.full 256 m)) (Sha.nb 256 m) (j / 4) >>> (8 * (3 - j % 4))).setWidth 8)) j else (fun j => U8 (0#8)) j) ∧ Sha.Tabs wl ∧ Below w0.heap.size w0 wl) (4 - 0) ?_ ?_
     · exact ⟨0, rfl, _, rfl, iv, s2_0, s2_2, s2_3, s2_4, s2_5, s2_7, s2_8, s2_9, s2_11, rfl, s2_53, s2_85, rfl, (etv (b := .int .i64 0) rfl), r_h, r_b_x, r_b_50, (r_b_out.congr (fun j hj => by (try dsimp only); by_cases e : j < 4 * a; (rw [if_pos e, if_pos (by omega)]); (rw [if_neg e, if_neg (by omega)]))), hT, hk⟩
     ·skip
      clear r_h r_b_x r_b_50 r_b_out hT hk
      rintro _ _ w23 ⟨b, rfl, f22, rfl, i3_0, s3_0, s3_2, s3_3, s3_4, s3_5, s3_7, s3_8, s3_9, s3_11, s3_12, s3_53, s3_85, s3_89, s3_90, r_h, r_b_x, r_b_50, r_b_out, hT, hk⟩
      refine sr ?_
      refine w_val (y_bin (ev (.int .i64 ((b : Nat) : Int)) s3_90 rfl) (ev (.int .i64 4) s3_89 rfl) b_lss) ?_
      refine nt ?_
      refine wp_seq ?_
      refine c_if (p := ((b : Nat) : Int) < 4) (ev (.bool (decide (((b : Nat) : Int) < 4))) rfl rfl) (fun hc24 => ?_) (fun hc24 => ?_)
      ·skip
       refine wp_skip ?_
       refine then_n ?_
       refine wp_seq ?_
       refine wp_block ?_
       refine sr ?_
       refine w_mv (ev (.int .i64 ((b : Nat) : Int)) s3_90 rfl) ?_
       refine w_as (ev (.int .i64 ((b : Nat) : Int)) rfl rfl) ?_
       refine nt ?_
       refine wp_region_lit ?_
       refine w_mv (ev (.int .i64 ((a : Nat) : Int)) s3_12 rfl) ?_
       refine w_mv (ev (.int .i64 64) s3_5 rfl) ?_
       refine w_val (y_bin (ev (.int .i64 64) rfl rfl) (evc (.int .i64 16)) (b_quo (by omega))) ?_
       refine w_val (y_bin (ev (.int .i64 ((a : Nat) : Int)) rfl rfl) (ev (.int .i64 4) rfl rfl) (b_mul (by omega))) ?_
       refine w_mv (ev (.int .i64 ((b : Nat) : Int)) rfl rfl) ?_
       refine w_val (y_bin (ev (.int .i64 (((a : Nat) : Int) * 4)) rfl rfl) (ev (.int .i64 ((b : Nat) : Int)) rfl rfl) (b_add (by omega))) ?_
       refine w_mv (ev (.int .i64 ((a : Nat) : Int)) s3_12 rfl) ?_
       refine w_val (v := pt b_x 1) (y_off (y_fa (ev (pt b_x 0) s3_7 rfl) (ShaDT.fa53_1 _ _)) (by first | rfl | omega)) ?_
       refine w_val (v := pt b_x (1 + a)) (y_off (y_ia1 (i := a) (ev (pt b_x 1) rfl rfl) (ev (.int .i64 ((a : Nat) : Int)) rfl rfl) Tryd.underlying40 ShaDT.sz39 (by omega) (by omega)) (by first | rfl | omega)) ?_
       refine w_val (v := U64 ((Sha.st 256 (gb (Sha.full 256 m)) (Sha.nb 256 m)) a)) (y_ld (ev (pt b_x (1 + a)) rfl rfl) ShaDT.sc39 (r_b_x.val (by omega) ((if_neg (by omega)).trans (etv (if_pos (by omega)))))) ?_
       refine w_mv (ev (.int .i64 64) s3_5 rfl) ?_
       refine w_val (y_bin (ev (.int .i64 64) rfl rfl) (evc (.int .i64 16)) (b_quo (by omega))) ?_
       refine w_val (y_bin (ev (.int .i64 4) rfl rfl) (evc (.int .i64 1)) (b_sub (by omega))) ?_
       refine w_mv (ev (.int .i64 ((b : Nat) : Int)) rfl rfl) ?_
       refine w_val (y_bin (ev (.int .i64 3) rfl rfl) (ev (.int .i64 ((b : Nat) : Int)) rfl rfl) (b_sub (by omega))) ?_
       refine w_val (y_bin (evc (.int .i64 8)) (ev (.int .i64 (3 - ((b : Nat) : Int))) rfl rfl) (b_mul (by omega))) ?_
       refine w_val (y_bin (ev (U64 ((Sha.st 256 (gb (Sha.full 256 m)) (Sha.nb 256 m)) a)) rfl rfl) (ev (.int .i64 (8 * (3 - ((b : Nat) : Int)))) rfl rfl) (shr64 (c := (8 * (3 - b))) (by omega))) ?_
       refine w_val (y_u64_u8 (ev (U64 (((Sha.st 256 (gb (Sha.full 256 m)) (Sha.nb 256 m)) a) >>> (8 * (3 - b)))) rfl rfl) ShaDT.so39 Tryd.underlying5) ?_
       refine w_val (y_ia1z (i := ((a * 4) + b)) (ev (pt b_out 0) s3_11 rfl) (ev (.int .i64 ((((a : Nat) : Int) * 4) + ((b : Nat) : Int))) rfl rfl) Tryd.underlying78 ShaDT.sz5 (by omega) (by omega)) ?_
       refine w_st (v := U8 ((((Sha.st 256 (gb (Sha.full 256 m)) (Sha.nb 256 m)) a) >>> (8 * (3 - b))).setWidth 8)) (ev (pt b_out ((a * 4) + b)) rfl rfl) (ev (U8 ((((Sha.st 256 (gb (Sha.full 256 m)) (Sha.nb 256 m)) a) >>> (8 * (3 - b))).setWidth 8)) rfl rfl) rfl rfl ShaDT.sz5 r_b_out (by omega) ?_
       clear r_b_out; intro w25 r_b_out hg26 _
       replace r_h := r_h.stepG hg26 (by omega)
       replace r_b_x := r_b_x.stepG hg26 (by omega)
       replace r_b_50 := r_b_50.stepG hg26 (by omega)
       replace hk := thenG hk hg26 (by omega)
       replace hT := Sha.Tabs.grown hT hg26 (by omega) (by omega)
       refine wpList_nil ?_
       refine inb_n ?_
       refine then_n ?_
       refine wp_region_lit ?_
       refine w_val (y_bin (ev (.int .i64 ((b : Nat) : Int)) s3_90 rfl) (evc (.int .i64 1)) (b_add (by omega))) ?_
       refine w_mv (ev (.int .i64 (((b : Nat) : Int) + 1)) rfl rfl) ?_
       refine wpList_nil ?_
       exact then_n ⟨_, (by omega), b + 1, rfl, _, rfl, iv, s3_0, s3_2, s3_3, s3_4, s3_5, s3_7, s3_8, s3_9, s3_11, s3_12, s3_53, s3_85, s3_89, (etv (b := .int .i64 (((b : Nat) : Int) + 1)) rfl), r_h, r_b_x, r_b_50, (r_b_out.congr (fun j hj => by (try dsimp only); by_cases e : j = a * 4 + b; (rw [if_pos e, if_pos (by omega), e, show (a * 4 + b) / 4 = a from by omega, show (a * 4 + b) % 4 = b from by omega]); (rw [if_neg e]; by_cases e2 : j < a * 4 + b; (rw [if_pos e2, if_pos (by omega)]); (rw [if_neg e2, if_neg (by omega)])))), hT, hk⟩
      ·skip
       refine wp_exit ?_
       refine then_x ?_
       refine then_x ?_
       refine inb_x ?_
       refine inb_n ?_
       refine then_n ?_
       refine wp_region_lit ?_
       refine w_val (y_bin (ev (.int .i64 ((a : Nat) : Int)) s3_85 rfl) (evc (.int .i64 1)) (b_add (by omega))) ?_
       refine w_mv (ev (.int .i64 (((a : Nat) : Int) + 1)) rfl rfl) ?_
       refine wpList_nil ?_
       exact then_n ⟨_, (by omega), a + 1, rfl, _, rfl, iv, s3_0, s3_2, s3_3, s3_4, s3_5, s3_7, s3_8, s3_9, s3_11, s3_53, (etv (b := .int .i64 (((a : Nat) : Int) + 1)) rfl), r_h, r_b_x, r_b_50, (r_b_out.congr (fun j hj => by (try dsimp only); by_cases e : j < a * 4 + b; (rw [if_pos e, if_pos (by omega)]); (rw [if_neg e, if_neg (by omega)]))), hT, hk⟩
    ·skip
     refine wp_exit ?_
     refine then_x ?_
     refine then_x ?_
     refine inb_x ?_
     refine then_n ?_
     refine sr ?_
     refine w_mv (ev (.int .i64 32) s2_4 rfl) ?_
     refine w_val (v := .slice (some ⟨b_out, 0, none⟩) 32 64) (y_sloff (y_slp (ev (pt b_out 0) s2_11 rfl) evo.no (evo.s (ev (.int .i64 32) rfl rfl)) Tryd.underlying78 ShaDT.sz5 (bnd_h (h := 32) (by omega) (by omega)) (by omega)) (by first | rfl | omega) rfl) ?_
     refine w_val (y_str (l := Sha.sum 256 m) (ev (.slice (some ⟨b_out, 0, none⟩) 32 64) rfl rfl) (by rw [Sha.length_sum]; rfl) Tryd.underlying76 Tryd.underlying5 Tryd.underlying9 (fun j hj => (r_b_out.val (by omega) (by rw [Sha.gb_sum _ _ _ (show j < Sha.ol 256 from hj), Nat.zero_add]; exact if_pos (by omega))))) ?_
     refine w_as (ev (.string (str (Sha.sum 256 m))) rfl rfl) ?_
     refine w_as (evc (.int .i64 0)) ?_
     refine nt ?_
     refine wp_ret ?_
     refine fin_ret2 rfl (ev (.string (str (Sha.sum 256 m))) rfl rfl) (ev (.int .i64 0) rfl rfl) ?_
     exact ⟨rfl, hk⟩

set_option maxRecDepth 100000 in
set_option maxHeartbeats 1000000 in
theorem write_384 (h : Nat) (h1 : 0 < h ∧ 1 < h) (m : List (BitVec 8)) (s : List (BitVec 8)) (hs : s.length ≤ 140737488351232) (rr : Nat → BitVec 8) (hr : ∀ j, j < m.length % 128 → rr j = gb m (128 * (m.length / 128) + j)) (w0 : World) (r_h : Row w0 h 53 139 (Sha.hrow (.int .i64 384) (Sha.st 384 (gb m) (m.length / 128)) rr (.int .i64 (((m.length % 128) : Nat) : Int)) (U64 (BitVec.ofNat 64 m.length)))) (hT : Sha.Tabs w0) : Calls Tryd.prog 24 #[pt h 0, .string (str s)] w0 fun e w' => e = .returned (.int .i64 0) ∧ Sha.At w' h 384 (m ++ s) ∧ w0.grownBy w' (some h) := by
 have hT0 := hT.lt
 refine enter (n := 27) Tryd.func24 rfl rfl rfl ?_
 have hk : w0.grownBy w0 (some h) := grown_refl _ _
 have lt_h := r_h.lt
 refine sr ?_
 refine w_as (evc (.int .i64 0)) ?_
 refine nt ?_
 refine wp_seq ?_
 refine sr ?_
 refine w_mv (ev (pt h 0) rfl rfl) ?_
 refine w_val (y_bin (ev (pt h 0) rfl rfl) (evc (.pointer none)) (b_eqp Tryd.underlying31)) ?_
 refine w_mv (ev (.bool false) rfl rfl) ?_
 refine w_val_g (v := pt h 0) (want_yes (j := 2) rfl rfl (ev (.bool false) rfl rfl) rfl) (y_mv (ev (pt h 0) rfl rfl)) ?_
 refine w_val_g (want_yes (j := 2) rfl rfl (ev (.bool false) rfl rfl) rfl) (y_nc (ev (pt h 0) rfl rfl)) ?_
 refine w_val_g (v := pt h 0) (want_yes (j := 2) rfl rfl (ev (.bool false) rfl rfl) rfl) (y_off (y_fa (ev (pt h 0) rfl rfl) (ShaDT.fa53_0 _ _)) (by first | rfl | omega)) ?_
 refine w_val_g (v := .int .i64 384) (want_yes (j := 2) rfl rfl (ev (.bool false) rfl rfl) rfl) (y_ld (ev (pt h 0) rfl rfl) ShaDT.sc3 (r_h.val (by omega) (etv (if_pos (by omega))))) ?_
 refine w_val_g (want_yes (j := 2) rfl rfl (ev (.bool false) rfl rfl) rfl) (y_bin (ev (.int .i64 384) rfl rfl) (evc (.int .i64 0)) b_eql) ?_
 refine w_val (y_pick_f (ev (.bool false) rfl rfl) (ev (.bool false) rfl rfl)) ?_
 refine nt ?_
 refine c_ff (ev (.bool false) rfl rfl) ?_
 refine wp_skip ?_
 refine then_n ?_
 refine sr ?_
 refine w_mv (ev (pt h 0) rfl rfl) ?_
 refine w_val (y_nc (ev (pt h 0) rfl rfl)) ?_
 refine w_val (v := pt h 138) (y_off (y_fa (ev (pt h 0) rfl rfl) (ShaDT.fa53_4 _ _)) (by first | rfl | omega)) ?_
 refine w_val (v := U64 (BitVec.ofNat 64 m.length)) (y_ld (ev (pt h 138) rfl rfl) ShaDT.sc39 (r_h.val (by omega) ((if_neg (by omega)).trans ((if_neg (by omega)).trans ((if_neg (by omega)).trans ((if_neg (by omega)).trans (by first | with_reducible rfl | (with_reducible congr 1 <;> omega) | (with_reducible congr 2 <;> omega) | (with_reducible congr 3 <;> omega) | rfl))))))) ?_
 refine w_mv (ev (.string (str s)) rfl rfl) ?_
 refine w_val (y_len (ev (.string (str s)) rfl rfl) Tryd.underlying9) ?_
 refine w_val (y_nat_u64 (p := s.length) (ev (.int .i64 ((s.length : Nat) : Int)) rfl rfl) (by omega) ShaDT.so3 Tryd.underlying39) ?_
 refine w_val (y_bin (ev (U64 (BitVec.ofNat 64 m.length)) rfl rfl) (ev (U64 (BitVec.ofNat 64 s.length)) rfl rfl) add64) ?_
 refine w_val (y_nc (ev (pt h 0) rfl rfl)) ?_
 refine w_val (v := pt h 138) (y_off (y_fa (ev (pt h 0) rfl rfl) (ShaDT.fa53_4 _ _)) (by first | rfl | omega)) ?_
 refine w_st (v := U64 ((BitVec.ofNat 64 m.length) + (BitVec.ofNat 64 s.length))) (ev (pt h 138) rfl rfl) (ev (U64 ((BitVec.ofNat 64 m.length) + (BitVec.ofNat 64 s.length))) rfl rfl) rfl rfl ShaDT.sz39 r_h (by omega) ?_
 clear r_h; intro w1 r_h hg2 _
 replace hk := grown_thenG hk hg2 (by omega)
 replace hT := Sha.Tabs.grown hT hg2 (by omega) (by omega)
 refine nt ?_
 refine sr ?_
 refine w_mv (ev (pt h 0) rfl rfl) ?_
 refine w_mv (ev (.string (str s)) rfl rfl) ?_
 replace r_h := r_h.congr (g := Sha.hrow (.int .i64 384) (Sha.st 384 (gb m) (m.length / 128)) rr (.int .i64 (((m.length % 128) : Nat) : Int)) (U64 ((BitVec.ofNat 64 m.length) + (BitVec.ofNat 64 s.length)))) (fun j hj => Sha.all_row _ _ _ _ _ _ j hj)
 have rh_ := r_h
 clear r_h
 refine w_call (Tryd.func41) (by kernel_rfl) rfl (m2 (ev (pt h 0) rfl rfl) (ev (.string (str s)) rfl rfl)) (put_384 h (by omega) m s (by omega) rr ((BitVec.ofNat 64 m.length) + (BitVec.ofNat 64 s.length)) hr w1 rh_ hT) ?_
 rintro _ w3 ⟨rfl, rr', hr', r_h, hgf⟩
 refine ⟨_, rfl, ?_⟩
 replace hk := grown_thenG hk hgf (by omega)
 replace hT := Sha.Tabs.grown hT hgf (by omega) (by omega)
 refine nt ?_
 refine sr ?_
 refine w_as (evc (.int .i64 0)) ?_
 refine nt ?_
 refine wp_ret ?_
 refine fin_ret1 rfl (ev (.int .i64 0) rfl rfl) ?_
 exact ⟨rfl, Sha.At.of 384 128 (m.length + s.length) rfl (m ++ s) List.length_append rr' hr' (by rw [BitVec.ofNat_add]; exact r_h), hk⟩

set_option maxRecDepth 100000 in
set_option maxHeartbeats 1000000 in
theorem copy_384 (h : Nat) (h1 : 0 < h ∧ 1 < h) (m : List (BitVec 8)) (rr : Nat → BitVec 8) (hr : ∀ j, j < m.length % 128 → rr j = gb m (128 * (m.length / 128) + j)) (w0 : World) (r_h : Row w0 h 53 139 (Sha.hrow (.int .i64 384) (Sha.st 384 (gb m) (m.length / 128)) rr (.int .i64 (((m.length % 128) : Nat) : Int)) (U64 (BitVec.ofNat 64 m.length)))) : Calls Tryd.prog 25 #[pt h 0] w0 fun e w' => ∃ p, e = .returned (.pointer (some ⟨p, 0, none⟩)) ∧ w0.heap.size ≤ p ∧ Sha.At w' p 384 m ∧ Below w0.heap.size w0 w' := by
 refine enter (n := 16) Tryd.func25 rfl rfl rfl ?_
 have hk : Below w0.heap.size w0 w0 := Below.refl _ _
 have lt_h := r_h.lt
 refine sr ?_
 refine w_as (evc (.pointer none)) ?_
 refine nt ?_
 refine wp_seq ?_
 refine sr ?_
 refine w_mv (ev (pt h 0) rfl rfl) ?_
 refine w_val (y_bin (ev (pt h 0) rfl rfl) (evc (.pointer none)) (b_eqp Tryd.underlying31)) ?_
 refine w_mv (ev (.bool false) rfl rfl) ?_
 refine w_val_g (v := pt h 0) (want_yes (j := 2) rfl rfl (ev (.bool false) rfl rfl) rfl) (y_mv (ev (pt h 0) rfl rfl)) ?_
 refine w_val_g (want_yes (j := 2) rfl rfl (ev (.bool false) rfl rfl) rfl) (y_nc (ev (pt h 0) rfl rfl)) ?_
 refine w_val_g (v := pt h 0) (want_yes (j := 2) rfl rfl (ev (.bool false) rfl rfl) rfl) (y_off (y_fa (ev (pt h 0) rfl rfl) (ShaDT.fa53_0 _ _)) (by first | rfl | omega)) ?_
 refine w_val_g (v := .int .i64 384) (want_yes (j := 2) rfl rfl (ev (.bool false) rfl rfl) rfl) (y_ld (ev (pt h 0) rfl rfl) ShaDT.sc3 (r_h.val (by omega) (etv (if_pos (by omega))))) ?_
 refine w_val_g (want_yes (j := 2) rfl rfl (ev (.bool false) rfl rfl) rfl) (y_bin (ev (.int .i64 384) rfl rfl) (evc (.int .i64 0)) b_eql) ?_
 refine w_val (y_pick_f (ev (.bool false) rfl rfl) (ev (.bool false) rfl rfl)) ?_
 refine nt ?_
 refine c_ff (ev (.bool false) rfl rfl) ?_
 refine wp_skip ?_
 refine then_n ?_
 refine sr ?_
 refine w_mv (ev (pt h 0) rfl rfl) ?_
 refine w_val (y_nc (ev (pt h 0) rfl rfl)) ?_
 refine w_val (v := .agg (arr 139 (Sha.hrow (.int .i64 384) (Sha.st 384 (gb m) (m.length / 128)) rr (.int .i64 (((m.length % 128) : Nat) : Int)) (U64 (BitVec.ofNat 64 m.length))))) (y_lda (ev (pt h 0) rfl rfl) ShaDT.ag53 ShaDT.sz53 (fun j hj => by rw [Nat.zero_add]; exact (r_h.cell (by omega)))) ?_
 refine w_alloc (m := 139) (F := fun j => if j < 1 then .int .i64 0 else if j < 9 then U64 (0#64) else if j < 137 then U8 (0#8) else if j < 138 then .int .i64 0 else U64 (0#64)) (by kernel_rfl) ?_
 intro b_x w1 hbe_b_x r_b_x hb2
 have ne_h_b_x : h ≠ b_x := by have := r_h.lt; omega
 have ge_b_x : w0.heap.size ≤ b_x := by have := hk.size; omega
 clear hbe_b_x
 replace r_h := r_h.step hb2
 replace hk := thenB hk hb2
 refine w_sta (k := 139) (G := Sha.hrow (.int .i64 384) (Sha.st 384 (gb m) (m.length / 128)) rr (.int .i64 (((m.length % 128) : Nat) : Int)) (U64 (BitVec.ofNat 64 m.length))) (ev (pt b_x 0) rfl rfl) (ev (.agg (arr 139 (Sha.hrow (.int .i64 384) (Sha.st 384 (gb m) (m.length / 128)) rr (.int .i64 (((m.length % 128) : Nat) : Int)) (U64 (BitVec.ofNat 64 m.length))))) rfl rfl) (fun j _ => by exact hrow_one _ _ _ _ _ j rfl rfl rfl) ShaDT.sz53 r_b_x (by omega) ?_
 clear r_b_x; intro w3 r_b_x hg4 _
 replace r_b_x := r_b_x.congr (g := Sha.hrow (.int .i64 384) (Sha.st 384 (gb m) (m.length / 128)) rr (.int .i64 (((m.length % 128) : Nat) : Int)) (U64 (BitVec.ofNat 64 m.length))) (fun j hj => by rw [if_pos ⟨Nat.zero_le _, by omega⟩]; first | rfl | (simp only [Nat.sub_zero]))
 replace r_h := r_h.stepG hg4 (by omega)
 replace hk := thenG hk hg4 (by omega)
 refine nt ?_
 refine sr ?_
 refine w_as (ev (pt b_x 0) rfl rfl) ?_
 refine nt ?_
 refine wp_ret ?_
 refine fin_ret1 rfl (ev (pt b_x 0) rfl rfl) ?_
 exact ⟨b_x, rfl, ge_b_x, Sha.At.of 384 128 m.length rfl m rfl rr hr r_b_x, hk⟩

set_option maxRecDepth 100000 in
set_option maxHeartbeats 1000000 in
theorem sum_384 (h : Nat) (h1 : 0 < h ∧ 1 < h) (m : List (BitVec 8)) (hm : m.length ≤ 1152921504606846976) (rr : Nat → BitVec 8) (hr : ∀ j, j < m.length % 128 → rr j = gb m (128 * (m.length / 128) + j)) (w0 : World) (r_h : Row w0 h 53 139 (Sha.hrow (.int .i64 384) (Sha.st 384 (gb m) (m.length / 128)) rr (.int .i64 (((m.length % 128) : Nat) : Int)) (U64 (BitVec.ofNat 64 m.length)))) (hT : Sha.Tabs w0) : Calls Tryd.prog 23 #[pt h 0] w0 fun e w' => e = .returned (.tuple #[.string (str (Sha.sum 384 m)), .int .i64 0]) ∧ Below w0.heap.size w0 w' := by
 have hT0 := hT.lt
 have hpl : Sha.padl 384 m.length = ((((239 - (m.length % 128)) % 128) + 1) + 16) := by rw [Sha.padl_eq 384 128 _ rfl]
 have hlp : (Sha.pad 384 m.length).length = ((((239 - (m.length % 128)) % 128) + 1) + 16) := by rw [Sha.length_pad, hpl]
 refine enter (n := 117) Tryd.func23 rfl rfl rfl ?_
 have hk : Below w0.heap.size w0 w0 := Below.refl _ _
 have lt_h := r_h.lt
 refine sr ?_
 refine w_as (evc (.string (str ([] : List (BitVec 8))))) ?_
 refine w_as (evc (.int .i64 0)) ?_
 refine nt ?_
 refine wp_seq ?_
 refine sr ?_
 refine w_mv (ev (pt h 0) rfl rfl) ?_
 refine w_val (y_bin (ev (pt h 0) rfl rfl) (evc (.pointer none)) (b_eqp Tryd.underlying31)) ?_
 refine w_mv (ev (.bool false) rfl rfl) ?_
 refine w_val_g (v := pt h 0) (want_yes (j := 2) rfl rfl (ev (.bool false) rfl rfl) rfl) (y_mv (ev (pt h 0) rfl rfl)) ?_
 refine w_val_g (want_yes (j := 2) rfl rfl (ev (.bool false) rfl rfl) rfl) (y_nc (ev (pt h 0) rfl rfl)) ?_
 refine w_val_g (v := pt h 0) (want_yes (j := 2) rfl rfl (ev (.bool false) rfl rfl) rfl) (y_off (y_fa (ev (pt h 0) rfl rfl) (ShaDT.fa53_0 _ _)) (by first | rfl | omega)) ?_
 refine w_val_g (v := .int .i64 384) (want_yes (j := 2) rfl rfl (ev (.bool false) rfl rfl) rfl) (y_ld (ev (pt h 0) rfl rfl) ShaDT.sc3 (r_h.val (by omega) (etv (if_pos (by omega))))) ?_
 refine w_val_g (want_yes (j := 2) rfl rfl (ev (.bool false) rfl rfl) rfl) (y_bin (ev (.int .i64 384) rfl rfl) (evc (.int .i64 0)) b_eql) ?_
 refine w_val (y_pick_f (ev (.bool false) rfl rfl) (ev (.bool false) rfl rfl)) ?_
 refine nt ?_
 refine c_ff (ev (.bool false) rfl rfl) ?_
 refine wp_skip ?_
 refine then_n ?_
 refine sr ?_
 refine w_mv (ev (pt h 0) rfl rfl) ?_
 refine w_val (y_nc (ev (pt h 0) rfl rfl)) ?_
 refine w_val (v := pt h 0) (y_off (y_fa (ev (pt h 0) rfl rfl) (ShaDT.fa53_0 _ _)) (by first | rfl | omega)) ?_
 refine w_val (v := .int .i64 384) (y_ld (ev (pt h 0) rfl rfl) ShaDT.sc3 (r_h.val (by omega) (etv (if_pos (by omega))))) ?_
 refine w_call (Tryd.func19) (by kernel_rfl) rfl (m1 (ev (.int .i64 384) rfl rfl)) (shaSize_384  w0) ?_
 rintro _ w1 ⟨rfl, hb2⟩
 refine ⟨_, rfl, ?_⟩
 replace r_h := r_h.step hb2
 replace hk := thenB hk hb2
 replace hT := Sha.Tabs.below hT hb2
 refine w_mv (ev (.tuple #[.int .i64 48, .int .i64 128, .int .i64 0]) rfl rfl) ?_
 refine w_val (y_ext (v := .int .i64 48) (ev (.tuple #[.int .i64 48, .int .i64 128, .int .i64 0]) rfl rfl) rfl) ?_
 refine w_val (y_ext (v := .int .i64 128) (ev (.tuple #[.int .i64 48, .int .i64 128, .int .i64 0]) rfl rfl) rfl) ?_
 refine w_val (y_ext (v := .int .i64 0) (ev (.tuple #[.int .i64 48, .int .i64 128, .int .i64 0]) rfl rfl) rfl) ?_
 refine w_as (ev (.int .i64 48) rfl rfl) ?_
 refine w_as (ev (.int .i64 128) rfl rfl) ?_
 refine w_as (ev (.int .i64 0) rfl rfl) ?_
 refine nt ?_
 refine sr ?_
 refine w_mv (ev (pt h 0) rfl rfl) ?_
 refine w_val (y_nc (ev (pt h 0) rfl rfl)) ?_
 refine w_val (v := .agg (arr 139 (Sha.hrow (.int .i64 384) (Sha.st 384 (gb m) (m.length / 128)) rr (.int .i64 (((m.length % 128) : Nat) : Int)) (U64 (BitVec.ofNat 64 m.length))))) (y_lda (ev (pt h 0) rfl rfl) ShaDT.ag53 ShaDT.sz53 (fun j hj => by rw [Nat.zero_add]; exact (r_h.cell (by omega)))) ?_
 refine w_alloc (m := 139) (F := fun j => if j < 1 then .int .i64 0 else if j < 9 then U64 (0#64) else if j < 137 then U8 (0#8) else if j < 138 then .int .i64 0 else U64 (0#64)) (by kernel_rfl) ?_
 intro b_x w3 hbe_b_x r_b_x hb4
 have ne_h_b_x : h ≠ b_x := by have := r_h.lt; omega
 have ge_b_x : w0.heap.size ≤ b_x := by have := hk.size; omega
 clear hbe_b_x
 replace r_h := r_h.step hb4
 replace hk := thenB hk hb4
 replace hT := Sha.Tabs.below hT hb4
 refine w_sta (k := 139) (G := Sha.hrow (.int .i64 384) (Sha.st 384 (gb m) (m.length / 128)) rr (.int .i64 (((m.length % 128) : Nat) : Int)) (U64 (BitVec.ofNat 64 m.length))) (ev (pt b_x 0) rfl rfl) (ev (.agg (arr 139 (Sha.hrow (.int .i64 384) (Sha.st 384 (gb m) (m.length / 128)) rr (.int .i64 (((m.length % 128) : Nat) : Int)) (U64 (BitVec.ofNat 64 m.length))))) rfl rfl) (fun j _ => by exact hrow_one _ _ _ _ _ j rfl rfl rfl) ShaDT.sz53 r_b_x (by omega) ?_
 clear r_b_x; intro w5 r_b_x hg6 _
 replace r_b_x := r_b_x.congr (g := Sha.hrow (.int .i64 384) (Sha.st 384 (gb m) (m.length / 128)) rr (.int .i64 (((m.length % 128) : Nat) : Int)) (U64 (BitVec.ofNat 64 m.length))) (fun j hj => by rw [if_pos ⟨Nat.zero_le _, by omega⟩]; first | rfl | (simp only [Nat.sub_zero]))
 replace r_h := r_h.stepG hg6 (by omega)
 replace hk := thenG hk hg6 (by omega)
 replace hT := Sha.Tabs.grown hT hg6 (by omega) (by omega)
 refine nt ?_
 refine sr ?_
 refine w_mv (ev (.int .i64 128) rfl rfl) ?_
 refine w_val (y_bin (ev (.int .i64 128) rfl rfl) (evc (.int .i64 8)) (b_quo (by omega))) ?_
 refine w_as (ev (.int .i64 16) rfl rfl) ?_
 refine nt ?_
 refine sr ?_
 refine w_mv (ev (.int .i64 128) rfl rfl) ?_
 refine w_val (y_bin (evc (.int .i64 2)) (ev (.int .i64 128) rfl rfl) (b_mul (by omega))) ?_
 refine w_mv (ev (.int .i64 16) rfl rfl) ?_
 refine w_val (y_bin (ev (.int .i64 256) rfl rfl) (ev (.int .i64 16) rfl rfl) (b_sub (by omega))) ?_
 refine w_val (y_bin (ev (.int .i64 240) rfl rfl) (evc (.int .i64 1)) (b_sub (by omega))) ?_
 refine w_val (v := pt b_x 137) (y_off (y_fa (ev (pt b_x 0) rfl rfl) (ShaDT.fa53_3 _ _)) (by first | rfl | omega)) ?_
 refine w_val (v := .int .i64 (((m.length % 128) : Nat) : Int)) (y_ld (ev (pt b_x 137) rfl rfl) ShaDT.sc3 (r_b_x.val (by omega) ((if_neg (by omega)).trans ((if_neg (by omega)).trans ((if_neg (by omega)).trans (etv (if_pos (by omega)))))))) ?_
 refine w_val (y_bin (ev (.int .i64 239) rfl rfl) (ev (.int .i64 (((m.length % 128) : Nat) : Int)) rfl rfl) (b_sub (by omega))) ?_
 refine w_mv (ev (.int .i64 128) rfl rfl) ?_
 refine w_val (y_bin (ev (.int .i64 (239 - (((m.length % 128) : Nat) : Int))) rfl rfl) (ev (.int .i64 128) rfl rfl) (b_rem (by omega))) ?_
 refine w_val (y_bin (ev (.int .i64 ((239 - (((m.length % 128) : Nat) : Int)) % 128)) rfl rfl) (evc (.int .i64 1)) (b_add (by omega))) ?_
 refine w_mv (ev (.int .i64 16) rfl rfl) ?_
 refine w_val (y_bin (ev (.int .i64 (((239 - (((m.length % 128) : Nat) : Int)) % 128) + 1)) rfl rfl) (ev (.int .i64 16) rfl rfl) (b_add (by omega))) ?_
 refine w_mks (m := ((((239 - (m.length % 128)) % 128) + 1) + 16)) (bytes := 1) (zv := U8 (0#8)) (ev (.int .i64 ((((239 - (((m.length % 128) : Nat) : Int)) % 128) + 1) + 16)) rfl rfl) (ev (.int .i64 ((((239 - (((m.length % 128) : Nat) : Int)) % 128) + 1) + 16)) rfl rfl) (by omega) (by omega) Tryd.underlying76 (by kernel_rfl) rfl (by omega) (by omega) ?_
 intro b_50 w7 hbe_b_50 r_b_50 hb8
 have ne_h_b_50 : h ≠ b_50 := by have := r_h.lt; omega
 have ne_b_x_b_50 : b_x ≠ b_50 := by have := r_b_x.lt; omega
 have ge_b_50 : w0.heap.size ≤ b_50 := by have := hk.size; omega
 clear hbe_b_50
 replace r_h := r_h.step hb8
 replace r_b_x := r_b_x.step hb8
 replace hk := thenB hk hb8
 replace hT := Sha.Tabs.below hT hb8
 refine w_as (ev (.slice (some ⟨b_50, 0, none⟩) ((((239 - (m.length % 128)) % 128) + 1) + 16) ((((239 - (m.length % 128)) % 128) + 1) + 16)) rfl rfl) ?_
 refine nt ?_
 refine sr ?_
 refine w_mv (ev (.slice (some ⟨b_50, 0, none⟩) ((((239 - (m.length % 128)) % 128) + 1) + 16) ((((239 - (m.length % 128)) % 128) + 1) + 16)) rfl rfl) ?_
 refine w_val (y_is1z (i := 0) (ev (.slice (some ⟨b_50, 0, none⟩) ((((239 - (m.length % 128)) % 128) + 1) + 16) ((((239 - (m.length % 128)) % 128) + 1) + 16)) rfl rfl) (evc (.int .i64 0)) Tryd.underlying76 ShaDT.sz5 (by omega) (by omega)) ?_
 refine w_st (v := U8 (128#8)) (ev (pt b_50 0) rfl rfl) (evc (U8 (128#8))) rfl rfl ShaDT.sz5 r_b_50 (by omega) ?_
 clear r_b_50; intro w9 r_b_50 hg10 _
 replace r_h := r_h.stepG hg10 (by omega)
 replace r_b_x := r_b_x.stepG hg10 (by omega)
 replace hk := thenG hk hg10 (by omega)
 replace hT := Sha.Tabs.grown hT hg10 (by omega) (by omega)
 refine nt ?_
 refine wp_seq ?_
 refine sr ?_
 refine w_mv (evc (.int .i64 0)) ?_
 refine nt ?_
 refine wp_block ?_
 refine c_loop (fun dN aN wl => ∃ (i : Nat), dN = (8 - i) ∧ ∃ f11, aN = fr 117 f11 ∧ (i ≤ 8) ∧ f11 0 = pt h 0 ∧ f11 2 = .string (str ([] : List (BitVec 8))) ∧ f11 3 = .int .i64 0 ∧ f11 4 = .int .i64 48 ∧ f11 5 = .int .i64 128 ∧ f11 7 = pt b_x 0 ∧ f11 8 = .int .i64 16 ∧ f11 9 = .slice (some ⟨b_50, 0, none⟩) ((((239 - (m.length % 128)) % 128) + 1) + 16) ((((239 - (m.length % 128)) % 128) + 1) + 16) ∧ f11 53 = .int .i64 ((i : Nat) : Int) ∧ Row wl h 53 139 (Sha.hrow (.int .i64 384) (Sha.st 384 (gb m) (m.length / 128)) rr (.int .i64 (((m.length % 128) : Nat) : Int)) (U64 (BitVec.ofNat 64 m.length))) ∧ Row wl b_x 53 139 (Sha.hrow (.int .i64 384) (Sha.st 384 (gb m) (m.length / 128)) rr (.int .i64 (((m.length % 128) : Nat) : Int)) (U64 (BitVec.ofNat 64 m.length))) ∧ Row wl b_50 5 ((((239 - (m.length % 128)) % 128) + 1) + 16) (fun j => if ((((239 - (m.length % 128)) % 128) + 1) + 16) ≤ j + i then (fun j => U8 (gb (Oct.be (BitVec.ofNat 64 (8 * m.length)) 8) (j - (((((239 - (m.length % 128)) % 128) + 1) + 16) - 8)))) j else (fun j => if j = 0 then U8 (128#8) else (fun j => U8 (0#8)) j) j) ∧ Sha.Tabs wl ∧ Below w0.heap.size w0 wl) (8 - 0) ?_ ?_
 · exact ⟨0, rfl, _, rfl, iv, rfl, rfl, rfl, rfl, rfl, rfl, rfl, rfl, (etv (b := .int .i64 0) rfl), r_h, r_b_x, (r_b_50.congr (fun j hj => by exact (if_neg (by omega)).symm)), hT, hk⟩
 ·skip
  clear r_h r_b_x r_b_50 hT hk
  rintro _ _ w12 ⟨i, rfl, f11, rfl, i1_0, s1_0, s1_2, s1_3, s1_4, s1_5, s1_7, s1_8, s1_9, s1_53, r_h, r_b_x, r_b_50, hT, hk⟩
  refine sr ?_
  refine w_val (y_bin (ev (.int .i64 ((i : Nat) : Int)) s1_53 rfl) (evc (.int .i64 8)) b_lss) ?_
  refine nt ?_
  refine wp_seq ?_
  refine c_if (p := ((i : Nat) : Int) < 8) (ev (.bool (decide (((i : Nat) : Int) < 8))) rfl rfl) (fun hc13 => ?_) (fun hc13 => ?_)
  ·skip
   refine wp_skip ?_
   refine then_n ?_
   refine wp_seq ?_
   refine wp_block ?_
   refine sr ?_
   refine w_mv (ev (.int .i64 ((i : Nat) : Int)) s1_53 rfl) ?_
   refine w_as (ev (.int .i64 ((i : Nat) : Int)) rfl rfl) ?_
   refine nt ?_
   refine wp_region_lit ?_
   refine w_mv (ev (.slice (some ⟨b_50, 0, none⟩) ((((239 - (m.length % 128)) % 128) + 1) + 16) ((((239 - (m.length % 128)) % 128) + 1) + 16)) s1_9 rfl) ?_
   refine w_mv (ev (.slice (some ⟨b_50, 0, none⟩) ((((239 - (m.length % 128)) % 128) + 1) + 16) ((((239 - (m.length % 128)) % 128) + 1) + 16)) s1_9 rfl) ?_
   refine w_val (v := .int .i64 ((((((239 - (m.length % 128)) % 128) + 1) + 16) : Nat) : Int)) (y_len_sl (ev (.slice (some ⟨b_50, 0, none⟩) ((((239 - (m.length % 128)) % 128) + 1) + 16) ((((239 - (m.length % 128)) % 128) + 1) + 16)) rfl rfl) Tryd.underlying76) ?_
   refine w_val (y_bin (ev (.int .i64 ((((((239 - (m.length % 128)) % 128) + 1) + 16) : Nat) : Int)) rfl rfl) (evc (.int .i64 1)) (b_sub (by omega))) ?_
   refine w_mv (ev (.int .i64 ((i : Nat) : Int)) rfl rfl) ?_
   refine w_val (y_bin (ev (.int .i64 (((((((239 - (m.length % 128)) % 128) + 1) + 16) : Nat) : Int) - 1)) rfl rfl) (ev (.int .i64 ((i : Nat) : Int)) rfl rfl) (b_sub (by omega))) ?_
   refine w_val (v := pt b_x 138) (y_off (y_fa (ev (pt b_x 0) s1_7 rfl) (ShaDT.fa53_4 _ _)) (by first | rfl | omega)) ?_
   refine w_val (v := U64 (BitVec.ofNat 64 m.length)) (y_ld (ev (pt b_x 138) rfl rfl) ShaDT.sc39 (r_b_x.val (by omega) ((if_neg (by omega)).trans ((if_neg (by omega)).trans ((if_neg (by omega)).trans ((if_neg (by omega)).trans (by first | with_reducible rfl | (with_reducible congr 1 <;> omega) | (with_reducible congr 2 <;> omega) | (with_reducible congr 3 <;> omega) | rfl))))))) ?_
   refine w_val (y_bin (ev (U64 (BitVec.ofNat 64 m.length)) rfl rfl) (evc (.int .u64 3)) (shl64 (c := 3) rfl)) ?_
   refine w_mv (ev (.int .i64 ((i : Nat) : Int)) rfl rfl) ?_
   refine w_val (y_bin (evc (.int .i64 8)) (ev (.int .i64 ((i : Nat) : Int)) rfl rfl) (b_mul (by omega))) ?_
   refine w_val (y_bin (ev (U64 ((BitVec.ofNat 64 m.length) <<< 3)) rfl rfl) (ev (.int .i64 (8 * ((i : Nat) : Int))) rfl rfl) (shr64 (c := (8 * i)) (by omega))) ?_
   refine w_val (y_u64_u8 (ev (U64 (((BitVec.ofNat 64 m.length) <<< 3) >>> (8 * i))) rfl rfl) ShaDT.so39 Tryd.underlying5) ?_
   refine w_val (y_is1z (i := ((((((239 - (m.length % 128)) % 128) + 1) + 16) - 1) - i)) (ev (.slice (some ⟨b_50, 0, none⟩) ((((239 - (m.length % 128)) % 128) + 1) + 16) ((((239 - (m.length % 128)) % 128) + 1) + 16)) rfl rfl) (ev (.int .i64 ((((((((239 - (m.length % 128)) % 128) + 1) + 16) : Nat) : Int) - 1) - ((i : Nat) : Int))) rfl rfl) Tryd.underlying76 ShaDT.sz5 (by omega) (by omega)) ?_
   refine w_st (v := U8 ((((BitVec.ofNat 64 m.length) <<< 3) >>> (8 * i)).setWidth 8)) (ev (pt b_50 ((((((239 - (m.length % 128)) % 128) + 1) + 16) - 1) - i)) rfl rfl) (ev (U8 ((((BitVec.ofNat 64 m.length) <<< 3) >>> (8 * i)).setWidth 8)) rfl rfl) rfl rfl ShaDT.sz5 r_b_50 (by omega) ?_
   clear r_b_50; intro w14 r_b_50 hg15 _
   replace r_h := r_h.stepG hg15 (by omega)
   replace r_b_x := r_b_x.stepG hg15 (by omega)
   replace hk := thenG hk hg15 (by omega)
   replace hT := Sha.Tabs.grown hT hg15 (by omega) (by omega)
   refine wpList_nil ?_
   refine inb_n ?_
   refine then_n ?_
   refine wp_region_lit ?_
   refine w_val (y_bin (ev (.int .i64 ((i : Nat) : Int)) s1_53 rfl) (evc (.int .i64 1)) (b_add (by omega))) ?_
   refine w_mv (ev (.int .i64 (((i : Nat) : Int) + 1)) rfl rfl) ?_
   refine wpList_nil ?_
   exact then_n ⟨_, (by omega), i + 1, rfl, _, rfl, iv, s1_0, s1_2, s1_3, s1_4, s1_5, s1_7, s1_8, s1_9, (etv (b := .int .i64 (((i : Nat) : Int) + 1)) rfl), r_h, r_b_x, (r_b_50.congr (fun j hj => by (try dsimp only); by_cases e : j = ((((239 - (m.length % 128)) % 128) + 1) + 16) - 1 - i; (rw [if_pos e, if_pos (by omega), Sha.len_byte _ _ (by omega)]; exact congrArg U8 (congrArg (gb _) (by omega))); (rw [if_neg e]; by_cases e2 : ((((239 - (m.length % 128)) % 128) + 1) + 16) ≤ j + i; (rw [if_pos e2]; exact (if_pos (by omega)).symm); (rw [if_neg e2]; exact (if_neg (by omega)).symm)))), hT, hk⟩
  ·skip
   refine wp_exit ?_
   refine then_x ?_
   refine then_x ?_
   refine inb_x ?_
   refine then_n ?_
   refine wp_seq ?_
   refine sr ?_
   refine w_mv (ev (.int .i64 16) s1_8 rfl) ?_
   refine w_val (y_bin (ev (.int .i64 16) rfl rfl) (evc (.int .i64 16)) b_eql) ?_
   refine nt ?_
   refine c_tt (ev (.bool true) rfl rfl) ?_
   refine wp_region_lit ?_
   refine w_mv (ev (.slice (some ⟨b_50, 0, none⟩) ((((239 - (m.length % 128)) % 128) + 1) + 16) ((((239 - (m.length % 128)) % 128) + 1) + 16)) s1_9 rfl) ?_
   refine w_mv (ev (.slice (some ⟨b_50, 0, none⟩) ((((239 - (m.length % 128)) % 128) + 1) + 16) ((((239 - (m.length % 128)) % 128) + 1) + 16)) s1_9 rfl) ?_
   refine w_val (v := .int .i64 ((((((239 - (m.length % 128)) % 128) + 1) + 16) : Nat) : Int)) (y_len_sl (ev (.slice (some ⟨b_50, 0, none⟩) ((((239 - (m.length % 128)) % 128) + 1) + 16) ((((239 - (m.length % 128)) % 128) + 1) + 16)) rfl rfl) Tryd.underlying76) ?_
   refine w_val (y_bin (ev (.int .i64 ((((((239 - (m.length % 128)) % 128) + 1) + 16) : Nat) : Int)) rfl rfl) (evc (.int .i64 9)) (b_sub (by omega))) ?_
   refine w_val (v := pt b_x 138) (y_off (y_fa (ev (pt b_x 0) s1_7 rfl) (ShaDT.fa53_4 _ _)) (by first | rfl | omega)) ?_
   refine w_val (v := U64 (BitVec.ofNat 64 m.length)) (y_ld (ev (pt b_x 138) rfl rfl) ShaDT.sc39 (r_b_x.val (by omega) ((if_neg (by omega)).trans ((if_neg (by omega)).trans ((if_neg (by omega)).trans ((if_neg (by omega)).trans (by first | with_reducible rfl | (with_reducible congr 1 <;> omega) | (with_reducible congr 2 <;> omega) | (with_reducible congr 3 <;> omega) | rfl))))))) ?_
   refine w_val (y_bin (ev (U64 (BitVec.ofNat 64 m.length)) rfl rfl) (evc (.int .u64 61)) (shr64 (c := 61) rfl)) ?_
   refine w_val (y_u64_u8 (ev (U64 ((BitVec.ofNat 64 m.length) >>> 61)) rfl rfl) ShaDT.so39 Tryd.underlying5) ?_
   refine w_val (y_is1z (i := (((((239 - (m.length % 128)) % 128) + 1) + 16) - 9)) (ev (.slice (some ⟨b_50, 0, none⟩) ((((239 - (m.length % 128)) % 128) + 1) + 16) ((((239 - (m.length % 128)) % 128) + 1) + 16)) rfl rfl) (ev (.int .i64 (((((((239 - (m.length % 128)) % 128) + 1) + 16) : Nat) : Int) - 9)) rfl rfl) Tryd.underlying76 ShaDT.sz5 (by omega) (by omega)) ?_
   refine w_st (v := U8 (((BitVec.ofNat 64 m.length) >>> 61).setWidth 8)) (ev (pt b_50 (((((239 - (m.length % 128)) % 128) + 1) + 16) - 9)) rfl rfl) (ev (U8 (((BitVec.ofNat 64 m.length) >>> 61).setWidth 8)) rfl rfl) rfl rfl ShaDT.sz5 r_b_50 (by omega) ?_
   clear r_b_50; intro w16 r_b_50 hg17 _
   replace r_h := r_h.stepG hg17 (by omega)
   replace r_b_x := r_b_x.stepG hg17 (by omega)
   replace hk := thenG hk hg17 (by omega)
   replace hT := Sha.Tabs.grown hT hg17 (by omega) (by omega)
   refine nt ?_
   refine wp_seq ?_
   replace r_b_50 := r_b_50.congr (g := fun j => U8 (gb (Sha.pad 384 m.length) j)) (fun j hj => by rw [show i = 8 from by omega]; exact Sha.pad_row2 384 m.length _ j _ (Sha.top_byte _ (by omega)) (by omega) (by omega) hj)
   refine wp_region_lit ?_
   refine w_mv (ev (.slice (some ⟨b_50, 0, none⟩) ((((239 - (m.length % 128)) % 128) + 1) + 16) ((((239 - (m.length % 128)) % 128) + 1) + 16)) s1_9 rfl) ?_
   refine w_val (y_str (l := Sha.pad 384 m.length) (ev (.slice (some ⟨b_50, 0, none⟩) ((((239 - (m.length % 128)) % 128) + 1) + 16) ((((239 - (m.length % 128)) % 128) + 1) + 16)) rfl rfl) (by first | rfl | assumption | (simp; omega) | omega) Tryd.underlying76 Tryd.underlying5 Tryd.underlying9 (fun j hj => by rw [Nat.zero_add]; exact (r_b_50.cell (by omega)))) ?_
   have rh_ := r_b_x
   clear r_b_x
   refine w_call (Tryd.func41) (by kernel_rfl) rfl (m2 (ev (pt b_x 0) s1_7 rfl) (ev (.string (str (Sha.pad 384 m.length))) rfl rfl)) (put_384 b_x (by omega) m (Sha.pad 384 m.length) (by omega) rr (BitVec.ofNat 64 m.length) hr w16 rh_ hT) ?_
   rintro _ w18 ⟨rfl, rr', hr', r_b_x, hgf⟩
   refine ⟨_, rfl, ?_⟩
   replace r_h := r_h.stepG hgf (by omega)
   replace r_b_50 := r_b_50.stepG hgf (by omega)
   replace hk := thenG hk hgf (by omega)
   replace hT := Sha.Tabs.grown hT hgf (by omega) (by omega)
   refine nt ?_
   refine wp_seq ?_
   replace r_b_x := r_b_x.congr (g := Sha.hrow (.int .i64 384) (Sha.st 384 (gb (Sha.full 384 m)) (Sha.nb 384 m)) rr' (.int .i64 ((((m.length + (Sha.pad 384 m.length).length) % 128) : Nat) : Int)) (U64 (BitVec.ofNat 64 m.length))) (fun j hj => Sha.hrow_congr _ _ _ _ _ _ _ j (fun i _ => by rw [Sha.length_pad]; rfl) (fun _ _ => rfl))
   refine wp_region_lit ?_
   refine w_alloc (m := 64) (F := fun j => U8 (0#8)) (by kernel_rfl) ?_
   intro b_out w19 hbe_b_out r_b_out hb20
   have ne_h_b_out : h ≠ b_out := by have := r_h.lt; omega
   have ne_b_x_b_out : b_x ≠ b_out := by have := r_b_x.lt; omega
   have ne_b_50_b_out : b_50 ≠ b_out := by have := r_b_50.lt; omega
   have ge_b_out : w0.heap.size ≤ b_out := by have := hk.size; omega
   clear hbe_b_out
   replace r_h := r_h.step hb20
   replace r_b_x := r_b_x.step hb20
   replace r_b_50 := r_b_50.step hb20
   replace hk := thenB hk hb20
   replace hT := Sha.Tabs.below hT hb20
   refine nt ?_
   refine wp_seq ?_
   refine sr ?_
   refine w_mv (evc (.int .i64 0)) ?_
   refine nt ?_
   refine wp_block ?_
   refine c_loop (fun dN aN wl => ∃ (a : Nat), dN = (8 - a) ∧ ∃ f21, aN = fr 117 f21 ∧ (a ≤ 8) ∧ f21 0 = pt h 0 ∧ f21 2 = .string (str ([] : List (BitVec 8))) ∧ f21 3 = .int .i64 0 ∧ f21 4 = .int .i64 48 ∧ f21 5 = .int .i64 128 ∧ f21 7 = pt b_x 0 ∧ f21 8 = .int .i64 16 ∧ f21 9 = .slice (some ⟨b_50, 0, none⟩) ((((239 - (m.length % 128)) % 128) + 1) + 16) ((((239 - (m.length % 128)) % 128) + 1) + 16) ∧ f21 11 = pt b_out 0 ∧ f21 53 = .int .i64 ((i : Nat) : Int) ∧ f21 85 = .int .i64 ((a : Nat) : Int) ∧ Row wl h 53 139 (Sha.hrow (.int .i64 384) (Sha.st 384 (gb m) (m.length / 128)) rr (.int .i64 (((m.length % 128) : Nat) : Int)) (U64 (BitVec.ofNat 64 m.length))) ∧ Row wl b_x 53 139 (Sha.hrow (.int .i64 384) (Sha.st 384 (gb (Sha.full 384 m)) (Sha.nb 384 m)) rr' (.int .i64 ((((m.length + (Sha.pad 384 m.length).length) % 128) : Nat) : Int)) (U64 (BitVec.ofNat 64 m.length))) ∧ Row wl b_50 5 ((((239 - (m.length % 128)) % 128) + 1) + 16) (fun j => U8 (gb (Sha.pad 384 m.length) j)) ∧ Row wl b_out 78 64 (fun j => if j < (8 * a) then (fun j => U8 ((Sha.st 384 (gb (Sha.full 384 m)) (Sha.nb 384 m) (j / 8) >>> (8 * (7 - j % 8))).setWidth 8)) j else (fun j => U8 (0#8)) j) ∧ Sha.Tabs wl ∧ Below w0.heap.size w0 wl) (8 - 0) ?_ ?_
   · exact ⟨0, rfl, _, rfl, iv, s1_0, s1_2, s1_3, s1_4, s1_5, s1_7, s1_8, s1_9, rfl, s1_53, (etv (b := .int .i64 0) rfl), r_h, r_b_x, r_b_50, (r_b_out.congr (fun j hj => by exact (if_neg (by omega)).symm)), hT, hk⟩
   ·skip
    clear r_h r_b_x r_b_50 r_b_out hT hk
    rintro _ _ w22 ⟨a, rfl, f21, rfl, i2_0, s2_0, s2_2, s2_3, s2_4, s2_5, s2_7, s2_8, s2_9, s2_11, s2_53, s2_85, r_h, r_b_x, r_b_50, r_b_out, hT, hk⟩
    refine sr ?_
    refine w_val (y_bin (ev (.int .i64 ((a : Nat) : Int)) s2_85 rfl) (evc (.int .i64 8)) b_lss) ?_
    refine nt ?_
    refine wp_seq ?_
    refine c_if (p := ((a : Nat) : Int) < 8) (ev (.bool (decide (((a : Nat) : Int) < 8))) rfl rfl) (fun hc23 => ?_) (fun hc23 => ?_)
    ·skip
     refine wp_skip ?_
     refine then_n ?_
     refine wp_seq ?_
     refine wp_block ?_
     refine sr ?_
     refine w_mv (ev (.int .i64 ((a : Nat) : Int)) s2_85 rfl) ?_
     refine w_as (ev (.int .i64 ((a : Nat) : Int)) rfl rfl) ?_
     refine nt ?_
     refine sr ?_
     refine w_mv (ev (.int .i64 128) s2_5 rfl) ?_
     refine w_val (y_bin (ev (.int .i64 128) rfl rfl) (evc (.int .i64 16)) (b_quo (by omega))) ?_
     refine w_mv (evc (.int .i64 0)) ?_
     refine nt ?_
     refine wp_block ?_
     refine c_loop (fun dN aN wl => ∃ (b : Nat), dN = (8 - b) ∧ ∃ f24, aN = fr 117 f24 ∧ (b ≤ 8) ∧ f24 0 = pt h 0 ∧ f24 2 = .string (str ([] : List (BitVec 8))) ∧ f24 3 = .int .i64 0 ∧ f24 4 = .int .i64 48 ∧ f24 5 = .int .i64 128 ∧ f24 7 = pt b_x 0 ∧ f24 8 = .int .i64 16 ∧ f24 9 = .slice (some ⟨b_50, 0, none⟩) ((((239 - (m.length % 128)) % 128) + 1) + 16) ((((239 - (m.length % 128)) % 128) + 1) + 16) ∧ f24 11 = pt b_out 0 ∧ f24 12 = .int .i64 ((a : Nat) : Int) ∧ f24 53 = .int .i64 ((i : Nat) : Int) ∧ f24 85 = .int .i64 ((a : Nat) : Int) ∧ f24 89 = .int .i64 8 ∧ f24 90 = .int .i64 ((b : Nat) : Int) ∧ Row wl h 53 139 (Sha.hrow (.int .i64 384) (Sha.st 384 (gb m) (m.length / 128)) rr (.int .i64 (((m.length % 128) : Nat) : Int)) (U64 (BitVec.ofNat 64 m.length))) ∧ Row wl b_x 53 139 (Sha.hrow (.int .i64 384) (Sha.st 384 (gb (Sha.full 384 m)) (Sha.nb 384 m)) rr' (.int .i64 ((((m.length + (Sha.pad 384 m.length).length) % 128) : Nat) : Int)) (U64 (BitVec.ofNat 64 m.length))) ∧ Row wl b_50 5 ((((239 - (m.length % 128)) % 128) + 1) + 16) (fun j => U8 (gb (Sha.pad 384 m.length) j)) ∧ Row wl b_out 78 64 (fun j => if j < ((a * 8) + b) then (fun j => U8 ((Sha.st 384 (gb (Sha.full 384 m)) (Sha.nb 384 m) (j / 8) >>> (8 * (7 - j % 8))).setWidth 8)) j else (fun j => U8 (0#8)) j) ∧ Sha.Tabs wl ∧ Below w0.heap.size w0 wl) (8 - 0) ?_ ?_
     · exact ⟨0, rfl, _, rfl, iv, s2_0, s2_2, s2_3, s2_4, s2_5, s2_7, s2_8, s2_9, s2_11, rfl, s2_53, s2_85, rfl, (etv (b := .int .i64 0) rfl), r_h, r_b_x, r_b_50, (r_b_out.congr (fun j hj => by (try dsimp only); by_cases e : j < 8 * a; (rw [if_pos e, if_pos (by omega)]); (rw [if_neg e, if_neg (by omega)]))), hT, hk⟩
     ·skip
      clear r_h r_b_x r_b_50 r_b_out hT hk
      rintro _ _ w25 ⟨b, rfl, f24, rfl, i3_0, s3_0, s3_2, s3_3, s3_4, s3_5, s3_7, s3_8, s3_9, s3_11, s3_12, s3_53, s3_85, s3_89, s3_90, r_h, r_b_x, r_b_50, r_b_out, hT, hk⟩
      refine sr ?_
      refine w_val (y_bin (ev (.int .i64 ((b : Nat) : Int)) s3_90 rfl) (ev (.int .i64 8) s3_89 rfl) b_lss) ?_
      refine nt ?_
      refine wp_seq ?_
      refine c_if (p := ((b : Nat) : Int) < 8) (ev (.bool (decide (((b : Nat) : Int) < 8))) rfl rfl) (fun hc26 => ?_) (fun hc26 => ?_)
      ·skip
       refine wp_skip ?_
       refine then_n ?_
       refine wp_seq ?_
       refine wp_block ?_
       refine sr ?_
       refine w_mv (ev (.int .i64 ((b : Nat) : Int)) s3_90 rfl) ?_
       refine w_as (ev (.int .i64 ((b : Nat) : Int)) rfl rfl) ?_
       refine nt ?_
       refine wp_region_lit ?_
       refine w_mv (ev (.int .i64 ((a : Nat) : Int)) s3_12 rfl) ?_
       refine w_mv (ev (.int .i64 128) s3_5 rfl) ?_
       refine w_val (y_bin (ev (.int .i64 128) rfl rfl) (evc (.int .i64 16)) (b_quo (by omega))) ?_
       refine w_val (y_bin (ev (.int .i64 ((a : Nat) : Int)) rfl rfl) (ev (.int .i64 8) rfl rfl) (b_mul (by omega))) ?_
       refine w_mv (ev (.int .i64 ((b : Nat) : Int)) rfl rfl) ?_
       refine w_val (y_bin (ev (.int .i64 (((a : Nat) : Int) * 8)) rfl rfl) (ev (.int .i64 ((b : Nat) : Int)) rfl rfl) (b_add (by omega))) ?_
       refine w_mv (ev (.int .i64 ((a : Nat) : Int)) s3_12 rfl) ?_
       refine w_val (v := pt b_x 1) (y_off (y_fa (ev (pt b_x 0) s3_7 rfl) (ShaDT.fa53_1 _ _)) (by first | rfl | omega)) ?_
       refine w_val (v := pt b_x (1 + a)) (y_off (y_ia1 (i := a) (ev (pt b_x 1) rfl rfl) (ev (.int .i64 ((a : Nat) : Int)) rfl rfl) Tryd.underlying40 ShaDT.sz39 (by omega) (by omega)) (by first | rfl | omega)) ?_
       refine w_val (v := U64 ((Sha.st 384 (gb (Sha.full 384 m)) (Sha.nb 384 m)) a)) (y_ld (ev (pt b_x (1 + a)) rfl rfl) ShaDT.sc39 (r_b_x.val (by omega) ((if_neg (by omega)).trans (etv (if_pos (by omega)))))) ?_
       refine w_mv (ev (.int .i64 128) s3_5 rfl) ?_
       refine w_val (y_bin (ev (.int .i64 128) rfl rfl) (evc (.int .i64 16)) (b_quo (by omega))) ?_
       refine w_val (y_bin (ev (.int .i64 8) rfl rfl) (evc (.int .i64 1)) (b_sub (by omega))) ?_
       refine w_mv (ev (.int .i64 ((b : Nat) : Int)) rfl rfl) ?_
       refine w_val (y_bin (ev (.int .i64 7) rfl rfl) (ev (.int .i64 ((b : Nat) : Int)) rfl rfl) (b_sub (by omega))) ?_
       refine w_val (y_bin (evc (.int .i64 8)) (ev (.int .i64 (7 - ((b : Nat) : Int))) rfl rfl) (b_mul (by omega))) ?_
       refine w_val (y_bin (ev (U64 ((Sha.st 384 (gb (Sha.full 384 m)) (Sha.nb 384 m)) a)) rfl rfl) (ev (.int .i64 (8 * (7 - ((b : Nat) : Int)))) rfl rfl) (shr64 (c := (8 * (7 - b))) (by omega))) ?_
       refine w_val (y_u64_u8 (ev (U64 (((Sha.st 384 (gb (Sha.full 384 m)) (Sha.nb 384 m)) a) >>> (8 * (7 - b)))) rfl rfl) ShaDT.so39 Tryd.underlying5) ?_
       refine w_val (y_ia1z (i := ((a * 8) + b)) (ev (pt b_out 0) s3_11 rfl) (ev (.int .i64 ((((a : Nat) : Int) * 8) + ((b : Nat) : Int))) rfl rfl) Tryd.underlying78 ShaDT.sz5 (by omega) (by omega)) ?_
       refine w_st (v := U8 ((((Sha.st 384 (gb (Sha.full 384 m)) (Sha.nb 384 m)) a) >>> (8 * (7 - b))).setWidth 8)) (ev (pt b_out ((a * 8) + b)) rfl rfl) (ev (U8 ((((Sha.st 384 (gb (Sha.full 384 m)) (Sha.nb 384 m)) a) >>> (8 * (7 - b))).setWidth 8)) rfl rfl) rfl rfl ShaDT.sz5 r_b_out (by omega) ?_
       clear r_b_out; intro w27 r_b_out hg28 _
       replace r_h := r_h.stepG hg28 (by omega)
       replace r_b_x := r_b_x.stepG hg28 (by omega)
       replace r_b_50 := r_b_50.stepG hg28 (by omega)
       replace hk := thenG hk hg28 (by omega)
       replace hT := Sha.Tabs.grown hT hg28 (by omega) (by omega)
       refine wpList_nil ?_
       refine inb_n ?_
       refine then_n ?_
       refine wp_region_lit ?_
       refine w_val (y_bin (ev (.int .i64 ((b : Nat) : Int)) s3_90 rfl) (evc (.int .i64 1)) (b_add (by omega))) ?_
       refine w_mv (ev (.int .i64 (((b : Nat) : Int) + 1)) rfl rfl) ?_
       refine wpList_nil ?_
       exact then_n ⟨_, (by omega), b + 1, rfl, _, rfl, iv, s3_0, s3_2, s3_3, s3_4, s3_5, s3_7, s3_8, s3_9, s3_11, s3_12, s3_53, s3_85, s3_89, (etv (b := .int .i64 (((b : Nat) : Int) + 1)) rfl), r_h, r_b_x, r_b_50, (r_b_out.congr (fun j hj => by (try dsimp only); by_cases e : j = a * 8 + b; (rw [if_pos e, if_pos (by omega), e, show (a * 8 + b) / 8 = a from by omega, show (a * 8 + b) % 8 = b from by omega]); (rw [if_neg e]; by_cases e2 : j < a * 8 + b; (rw [if_pos e2, if_pos (by omega)]); (rw [if_neg e2, if_neg (by omega)])))), hT, hk⟩
      ·skip
       refine wp_exit ?_
       refine then_x ?_
       refine then_x ?_
       refine inb_x ?_
       refine inb_n ?_
       refine then_n ?_
       refine wp_region_lit ?_
       refine w_val (y_bin (ev (.int .i64 ((a : Nat) : Int)) s3_85 rfl) (evc (.int .i64 1)) (b_add (by omega))) ?_
       refine w_mv (ev (.int .i64 (((a : Nat) : Int) + 1)) rfl rfl) ?_
       refine wpList_nil ?_
       exact then_n ⟨_, (by omega), a + 1, rfl, _, rfl, iv, s3_0, s3_2, s3_3, s3_4, s3_5, s3_7, s3_8, s3_9, s3_11, s3_53, (etv (b := .int .i64 (((a : Nat) : Int) + 1)) rfl), r_h, r_b_x, r_b_50, (r_b_out.congr (fun j hj => by (try dsimp only); by_cases e : j < a * 8 + b; (rw [if_pos e, if_pos (by omega)]); (rw [if_neg e, if_neg (by omega)]))), hT, hk⟩
    ·skip
     refine wp_exit ?_
     refine then_x ?_
     refine then_x ?_
     refine inb_x ?_
     refine then_n ?_
     refine sr ?_
     refine w_mv (ev (.int .i64 48) s2_4 rfl) ?_
     refine w_val (v := .slice (some ⟨b_out, 0, none⟩) 48 64) (y_sloff (y_slp (ev (pt b_out 0) s2_11 rfl) evo.no (evo.s (ev (.int .i64 48) rfl rfl)) Tryd.underlying78 ShaDT.sz5 (bnd_h (h := 48) (by omega) (by omega)) (by omega)) (by first | rfl | omega) rfl) ?_
     refine w_val (y_str (l := Sha.sum 384 m) (ev (.slice (some ⟨b_out, 0, none⟩) 48 64) rfl rfl) (by rw [Sha.length_sum]; rfl) Tryd.underlying76 Tryd.underlying5 Tryd.underlying9 (fun j hj => (r_b_out.val (by omega) (by rw [Sha.gb_sum _ _ _ (show j < Sha.ol 384 from hj), Nat.zero_add]; exact if_pos (by omega))))) ?_
     refine w_as (ev (.string (str (Sha.sum 384 m))) rfl rfl) ?_
     refine w_as (evc (.int .i64 0)) ?_
     refine nt ?_
     refine wp_ret ?_
     refine fin_ret2 rfl (ev (.string (str (Sha.sum 384 m))) rfl rfl) (ev (.int .i64 0) rfl rfl) ?_
     exact ⟨rfl, hk⟩

set_option maxRecDepth 100000 in
set_option maxHeartbeats 1000000 in
theorem write_512 (h : Nat) (h1 : 0 < h ∧ 1 < h) (m : List (BitVec 8)) (s : List (BitVec 8)) (hs : s.length ≤ 140737488351232) (rr : Nat → BitVec 8) (hr : ∀ j, j < m.length % 128 → rr j = gb m (128 * (m.length / 128) + j)) (w0 : World) (r_h : Row w0 h 53 139 (Sha.hrow (.int .i64 512) (Sha.st 512 (gb m) (m.length / 128)) rr (.int .i64 (((m.length % 128) : Nat) : Int)) (U64 (BitVec.ofNat 64 m.length)))) (hT : Sha.Tabs w0) : Calls Tryd.prog 24 #[pt h 0, .string (str s)] w0 fun e w' => e = .returned (.int .i64 0) ∧ Sha.At w' h 512 (m ++ s) ∧ w0.grownBy w' (some h) := by
 have hT0 := hT.lt
 refine enter (n := 27) Tryd.func24 rfl rfl rfl ?_
 have hk : w0.grownBy w0 (some h) := grown_refl _ _
 have lt_h := r_h.lt
 refine sr ?_
 refine w_as (evc (.int .i64 0)) ?_
 refine nt ?_
 refine wp_seq ?_
 refine sr ?_
 refine w_mv (ev (pt h 0) rfl rfl) ?_
 refine w_val (y_bin (ev (pt h 0) rfl rfl) (evc (.pointer none)) (b_eqp Tryd.underlying31)) ?_
 refine w_mv (ev (.bool false) rfl rfl) ?_
 refine w_val_g (v := pt h 0) (want_yes (j := 2) rfl rfl (ev (.bool false) rfl rfl) rfl) (y_mv (ev (pt h 0) rfl rfl)) ?_
 refine w_val_g (want_yes (j := 2) rfl rfl (ev (.bool false) rfl rfl) rfl) (y_nc (ev (pt h 0) rfl rfl)) ?_
 refine w_val_g (v := pt h 0) (want_yes (j := 2) rfl rfl (ev (.bool false) rfl rfl) rfl) (y_off (y_fa (ev (pt h 0) rfl rfl) (ShaDT.fa53_0 _ _)) (by first | rfl | omega)) ?_
 refine w_val_g (v := .int .i64 512) (want_yes (j := 2) rfl rfl (ev (.bool false) rfl rfl) rfl) (y_ld (ev (pt h 0) rfl rfl) ShaDT.sc3 (r_h.val (by omega) (etv (if_pos (by omega))))) ?_
 refine w_val_g (want_yes (j := 2) rfl rfl (ev (.bool false) rfl rfl) rfl) (y_bin (ev (.int .i64 512) rfl rfl) (evc (.int .i64 0)) b_eql) ?_
 refine w_val (y_pick_f (ev (.bool false) rfl rfl) (ev (.bool false) rfl rfl)) ?_
 refine nt ?_
 refine c_ff (ev (.bool false) rfl rfl) ?_
 refine wp_skip ?_
 refine then_n ?_
 refine sr ?_
 refine w_mv (ev (pt h 0) rfl rfl) ?_
 refine w_val (y_nc (ev (pt h 0) rfl rfl)) ?_
 refine w_val (v := pt h 138) (y_off (y_fa (ev (pt h 0) rfl rfl) (ShaDT.fa53_4 _ _)) (by first | rfl | omega)) ?_
 refine w_val (v := U64 (BitVec.ofNat 64 m.length)) (y_ld (ev (pt h 138) rfl rfl) ShaDT.sc39 (r_h.val (by omega) ((if_neg (by omega)).trans ((if_neg (by omega)).trans ((if_neg (by omega)).trans ((if_neg (by omega)).trans (by first | with_reducible rfl | (with_reducible congr 1 <;> omega) | (with_reducible congr 2 <;> omega) | (with_reducible congr 3 <;> omega) | rfl))))))) ?_
 refine w_mv (ev (.string (str s)) rfl rfl) ?_
 refine w_val (y_len (ev (.string (str s)) rfl rfl) Tryd.underlying9) ?_
 refine w_val (y_nat_u64 (p := s.length) (ev (.int .i64 ((s.length : Nat) : Int)) rfl rfl) (by omega) ShaDT.so3 Tryd.underlying39) ?_
 refine w_val (y_bin (ev (U64 (BitVec.ofNat 64 m.length)) rfl rfl) (ev (U64 (BitVec.ofNat 64 s.length)) rfl rfl) add64) ?_
 refine w_val (y_nc (ev (pt h 0) rfl rfl)) ?_
 refine w_val (v := pt h 138) (y_off (y_fa (ev (pt h 0) rfl rfl) (ShaDT.fa53_4 _ _)) (by first | rfl | omega)) ?_
 refine w_st (v := U64 ((BitVec.ofNat 64 m.length) + (BitVec.ofNat 64 s.length))) (ev (pt h 138) rfl rfl) (ev (U64 ((BitVec.ofNat 64 m.length) + (BitVec.ofNat 64 s.length))) rfl rfl) rfl rfl ShaDT.sz39 r_h (by omega) ?_
 clear r_h; intro w1 r_h hg2 _
 replace hk := grown_thenG hk hg2 (by omega)
 replace hT := Sha.Tabs.grown hT hg2 (by omega) (by omega)
 refine nt ?_
 refine sr ?_
 refine w_mv (ev (pt h 0) rfl rfl) ?_
 refine w_mv (ev (.string (str s)) rfl rfl) ?_
 replace r_h := r_h.congr (g := Sha.hrow (.int .i64 512) (Sha.st 512 (gb m) (m.length / 128)) rr (.int .i64 (((m.length % 128) : Nat) : Int)) (U64 ((BitVec.ofNat 64 m.length) + (BitVec.ofNat 64 s.length)))) (fun j hj => Sha.all_row _ _ _ _ _ _ j hj)
 have rh_ := r_h
 clear r_h
 refine w_call (Tryd.func41) (by kernel_rfl) rfl (m2 (ev (pt h 0) rfl rfl) (ev (.string (str s)) rfl rfl)) (put_512 h (by omega) m s (by omega) rr ((BitVec.ofNat 64 m.length) + (BitVec.ofNat 64 s.length)) hr w1 rh_ hT) ?_
 rintro _ w3 ⟨rfl, rr', hr', r_h, hgf⟩
 refine ⟨_, rfl, ?_⟩
 replace hk := grown_thenG hk hgf (by omega)
 replace hT := Sha.Tabs.grown hT hgf (by omega) (by omega)
 refine nt ?_
 refine sr ?_
 refine w_as (evc (.int .i64 0)) ?_
 refine nt ?_
 refine wp_ret ?_
 refine fin_ret1 rfl (ev (.int .i64 0) rfl rfl) ?_
 exact ⟨rfl, Sha.At.of 512 128 (m.length + s.length) rfl (m ++ s) List.length_append rr' hr' (by rw [BitVec.ofNat_add]; exact r_h), hk⟩

set_option maxRecDepth 100000 in
set_option maxHeartbeats 1000000 in
theorem copy_512 (h : Nat) (h1 : 0 < h ∧ 1 < h) (m : List (BitVec 8)) (rr : Nat → BitVec 8) (hr : ∀ j, j < m.length % 128 → rr j = gb m (128 * (m.length / 128) + j)) (w0 : World) (r_h : Row w0 h 53 139 (Sha.hrow (.int .i64 512) (Sha.st 512 (gb m) (m.length / 128)) rr (.int .i64 (((m.length % 128) : Nat) : Int)) (U64 (BitVec.ofNat 64 m.length)))) : Calls Tryd.prog 25 #[pt h 0] w0 fun e w' => ∃ p, e = .returned (.pointer (some ⟨p, 0, none⟩)) ∧ w0.heap.size ≤ p ∧ Sha.At w' p 512 m ∧ Below w0.heap.size w0 w' := by
 refine enter (n := 16) Tryd.func25 rfl rfl rfl ?_
 have hk : Below w0.heap.size w0 w0 := Below.refl _ _
 have lt_h := r_h.lt
 refine sr ?_
 refine w_as (evc (.pointer none)) ?_
 refine nt ?_
 refine wp_seq ?_
 refine sr ?_
 refine w_mv (ev (pt h 0) rfl rfl) ?_
 refine w_val (y_bin (ev (pt h 0) rfl rfl) (evc (.pointer none)) (b_eqp Tryd.underlying31)) ?_
 refine w_mv (ev (.bool false) rfl rfl) ?_
 refine w_val_g (v := pt h 0) (want_yes (j := 2) rfl rfl (ev (.bool false) rfl rfl) rfl) (y_mv (ev (pt h 0) rfl rfl)) ?_
 refine w_val_g (want_yes (j := 2) rfl rfl (ev (.bool false) rfl rfl) rfl) (y_nc (ev (pt h 0) rfl rfl)) ?_
 refine w_val_g (v := pt h 0) (want_yes (j := 2) rfl rfl (ev (.bool false) rfl rfl) rfl) (y_off (y_fa (ev (pt h 0) rfl rfl) (ShaDT.fa53_0 _ _)) (by first | rfl | omega)) ?_
 refine w_val_g (v := .int .i64 512) (want_yes (j := 2) rfl rfl (ev (.bool false) rfl rfl) rfl) (y_ld (ev (pt h 0) rfl rfl) ShaDT.sc3 (r_h.val (by omega) (etv (if_pos (by omega))))) ?_
 refine w_val_g (want_yes (j := 2) rfl rfl (ev (.bool false) rfl rfl) rfl) (y_bin (ev (.int .i64 512) rfl rfl) (evc (.int .i64 0)) b_eql) ?_
 refine w_val (y_pick_f (ev (.bool false) rfl rfl) (ev (.bool false) rfl rfl)) ?_
 refine nt ?_
 refine c_ff (ev (.bool false) rfl rfl) ?_
 refine wp_skip ?_
 refine then_n ?_
 refine sr ?_
 refine w_mv (ev (pt h 0) rfl rfl) ?_
 refine w_val (y_nc (ev (pt h 0) rfl rfl)) ?_
 refine w_val (v := .agg (arr 139 (Sha.hrow (.int .i64 512) (Sha.st 512 (gb m) (m.length / 128)) rr (.int .i64 (((m.length % 128) : Nat) : Int)) (U64 (BitVec.ofNat 64 m.length))))) (y_lda (ev (pt h 0) rfl rfl) ShaDT.ag53 ShaDT.sz53 (fun j hj => by rw [Nat.zero_add]; exact (r_h.cell (by omega)))) ?_
 refine w_alloc (m := 139) (F := fun j => if j < 1 then .int .i64 0 else if j < 9 then U64 (0#64) else if j < 137 then U8 (0#8) else if j < 138 then .int .i64 0 else U64 (0#64)) (by kernel_rfl) ?_
 intro b_x w1 hbe_b_x r_b_x hb2
 have ne_h_b_x : h ≠ b_x := by have := r_h.lt; omega
 have ge_b_x : w0.heap.size ≤ b_x := by have := hk.size; omega
 clear hbe_b_x
 replace r_h := r_h.step hb2
 replace hk := thenB hk hb2
 refine w_sta (k := 139) (G := Sha.hrow (.int .i64 512) (Sha.st 512 (gb m) (m.length / 128)) rr (.int .i64 (((m.length % 128) : Nat) : Int)) (U64 (BitVec.ofNat 64 m.length))) (ev (pt b_x 0) rfl rfl) (ev (.agg (arr 139 (Sha.hrow (.int .i64 512) (Sha.st 512 (gb m) (m.length / 128)) rr (.int .i64 (((m.length % 128) : Nat) : Int)) (U64 (BitVec.ofNat 64 m.length))))) rfl rfl) (fun j _ => by exact hrow_one _ _ _ _ _ j rfl rfl rfl) ShaDT.sz53 r_b_x (by omega) ?_
 clear r_b_x; intro w3 r_b_x hg4 _
 replace r_b_x := r_b_x.congr (g := Sha.hrow (.int .i64 512) (Sha.st 512 (gb m) (m.length / 128)) rr (.int .i64 (((m.length % 128) : Nat) : Int)) (U64 (BitVec.ofNat 64 m.length))) (fun j hj => by rw [if_pos ⟨Nat.zero_le _, by omega⟩]; first | rfl | (simp only [Nat.sub_zero]))
 replace r_h := r_h.stepG hg4 (by omega)
 replace hk := thenG hk hg4 (by omega)
 refine nt ?_
 refine sr ?_
 refine w_as (ev (pt b_x 0) rfl rfl) ?_
 refine nt ?_
 refine wp_ret ?_
 refine fin_ret1 rfl (ev (pt b_x 0) rfl rfl) ?_
 exact ⟨b_x, rfl, ge_b_x, Sha.At.of 512 128 m.length rfl m rfl rr hr r_b_x, hk⟩

set_option maxRecDepth 100000 in
set_option maxHeartbeats 1000000 in
theorem sum_512 (h : Nat) (h1 : 0 < h ∧ 1 < h) (m : List (BitVec 8)) (hm : m.length ≤ 1152921504606846976) (rr : Nat → BitVec 8) (hr : ∀ j, j < m.length % 128 → rr j = gb m (128 * (m.length / 128) + j)) (w0 : World) (r_h : Row w0 h 53 139 (Sha.hrow (.int .i64 512) (Sha.st 512 (gb m) (m.length / 128)) rr (.int .i64 (((m.length % 128) : Nat) : Int)) (U64 (BitVec.ofNat 64 m.length)))) (hT : Sha.Tabs w0) : Calls Tryd.prog 23 #[pt h 0] w0 fun e w' => e = .returned (.tuple #[.string (str (Sha.sum 512 m)), .int .i64 0]) ∧ Below w0.heap.size w0 w' := by
 have hT0 := hT.lt
 have hpl : Sha.padl 512 m.length = ((((239 - (m.length % 128)) % 128) + 1) + 16) := by rw [Sha.padl_eq 512 128 _ rfl]
 have hlp : (Sha.pad 512 m.length).length = ((((239 - (m.length % 128)) % 128) + 1) + 16) := by rw [Sha.length_pad, hpl]
 refine enter (n := 117) Tryd.func23 rfl rfl rfl ?_
 have hk : Below w0.heap.size w0 w0 := Below.refl _ _
 have lt_h := r_h.lt
 refine sr ?_
 refine w_as (evc (.string (str ([] : List (BitVec 8))))) ?_
 refine w_as (evc (.int .i64 0)) ?_
 refine nt ?_
 refine wp_seq ?_
 refine sr ?_
 refine w_mv (ev (pt h 0) rfl rfl) ?_
 refine w_val (y_bin (ev (pt h 0) rfl rfl) (evc (.pointer none)) (b_eqp Tryd.underlying31)) ?_
 refine w_mv (ev (.bool false) rfl rfl) ?_
 refine w_val_g (v := pt h 0) (want_yes (j := 2) rfl rfl (ev (.bool false) rfl rfl) rfl) (y_mv (ev (pt h 0) rfl rfl)) ?_
 refine w_val_g (want_yes (j := 2) rfl rfl (ev (.bool false) rfl rfl) rfl) (y_nc (ev (pt h 0) rfl rfl)) ?_
 refine w_val_g (v := pt h 0) (want_yes (j := 2) rfl rfl (ev (.bool false) rfl rfl) rfl) (y_off (y_fa (ev (pt h 0) rfl rfl) (ShaDT.fa53_0 _ _)) (by first | rfl | omega)) ?_
 refine w_val_g (v := .int .i64 512) (want_yes (j := 2) rfl rfl (ev (.bool false) rfl rfl) rfl) (y_ld (ev (pt h 0) rfl rfl) ShaDT.sc3 (r_h.val (by omega) (etv (if_pos (by omega))))) ?_
 refine w_val_g (want_yes (j := 2) rfl rfl (ev (.bool false) rfl rfl) rfl) (y_bin (ev (.int .i64 512) rfl rfl) (evc (.int .i64 0)) b_eql) ?_
 refine w_val (y_pick_f (ev (.bool false) rfl rfl) (ev (.bool false) rfl rfl)) ?_
 refine nt ?_
 refine c_ff (ev (.bool false) rfl rfl) ?_
 refine wp_skip ?_
 refine then_n ?_
 refine sr ?_
 refine w_mv (ev (pt h 0) rfl rfl) ?_
 refine w_val (y_nc (ev (pt h 0) rfl rfl)) ?_
 refine w_val (v := pt h 0) (y_off (y_fa (ev (pt h 0) rfl rfl) (ShaDT.fa53_0 _ _)) (by first | rfl | omega)) ?_
 refine w_val (v := .int .i64 512) (y_ld (ev (pt h 0) rfl rfl) ShaDT.sc3 (r_h.val (by omega) (etv (if_pos (by omega))))) ?_
 refine w_call (Tryd.func19) (by kernel_rfl) rfl (m1 (ev (.int .i64 512) rfl rfl)) (shaSize_512  w0) ?_
 rintro _ w1 ⟨rfl, hb2⟩
 refine ⟨_, rfl, ?_⟩
 replace r_h := r_h.step hb2
 replace hk := thenB hk hb2
 replace hT := Sha.Tabs.below hT hb2
 refine w_mv (ev (.tuple #[.int .i64 64, .int .i64 128, .int .i64 0]) rfl rfl) ?_
 refine w_val (y_ext (v := .int .i64 64) (ev (.tuple #[.int .i64 64, .int .i64 128, .int .i64 0]) rfl rfl) rfl) ?_
 refine w_val (y_ext (v := .int .i64 128) (ev (.tuple #[.int .i64 64, .int .i64 128, .int .i64 0]) rfl rfl) rfl) ?_
 refine w_val (y_ext (v := .int .i64 0) (ev (.tuple #[.int .i64 64, .int .i64 128, .int .i64 0]) rfl rfl) rfl) ?_
 refine w_as (ev (.int .i64 64) rfl rfl) ?_
 refine w_as (ev (.int .i64 128) rfl rfl) ?_
 refine w_as (ev (.int .i64 0) rfl rfl) ?_
 refine nt ?_
 refine sr ?_
 refine w_mv (ev (pt h 0) rfl rfl) ?_
 refine w_val (y_nc (ev (pt h 0) rfl rfl)) ?_
 refine w_val (v := .agg (arr 139 (Sha.hrow (.int .i64 512) (Sha.st 512 (gb m) (m.length / 128)) rr (.int .i64 (((m.length % 128) : Nat) : Int)) (U64 (BitVec.ofNat 64 m.length))))) (y_lda (ev (pt h 0) rfl rfl) ShaDT.ag53 ShaDT.sz53 (fun j hj => by rw [Nat.zero_add]; exact (r_h.cell (by omega)))) ?_
 refine w_alloc (m := 139) (F := fun j => if j < 1 then .int .i64 0 else if j < 9 then U64 (0#64) else if j < 137 then U8 (0#8) else if j < 138 then .int .i64 0 else U64 (0#64)) (by kernel_rfl) ?_
 intro b_x w3 hbe_b_x r_b_x hb4
 have ne_h_b_x : h ≠ b_x := by have := r_h.lt; omega
 have ge_b_x : w0.heap.size ≤ b_x := by have := hk.size; omega
 clear hbe_b_x
 replace r_h := r_h.step hb4
 replace hk := thenB hk hb4
 replace hT := Sha.Tabs.below hT hb4
 refine w_sta (k := 139) (G := Sha.hrow (.int .i64 512) (Sha.st 512 (gb m) (m.length / 128)) rr (.int .i64 (((m.length % 128) : Nat) : Int)) (U64 (BitVec.ofNat 64 m.length))) (ev (pt b_x 0) rfl rfl) (ev (.agg (arr 139 (Sha.hrow (.int .i64 512) (Sha.st 512 (gb m) (m.length / 128)) rr (.int .i64 (((m.length % 128) : Nat) : Int)) (U64 (BitVec.ofNat 64 m.length))))) rfl rfl) (fun j _ => by exact hrow_one _ _ _ _ _ j rfl rfl rfl) ShaDT.sz53 r_b_x (by omega) ?_
 clear r_b_x; intro w5 r_b_x hg6 _
 replace r_b_x := r_b_x.congr (g := Sha.hrow (.int .i64 512) (Sha.st 512 (gb m) (m.length / 128)) rr (.int .i64 (((m.length % 128) : Nat) : Int)) (U64 (BitVec.ofNat 64 m.length))) (fun j hj => by rw [if_pos ⟨Nat.zero_le _, by omega⟩]; first | rfl | (simp only [Nat.sub_zero]))
 replace r_h := r_h.stepG hg6 (by omega)
 replace hk := thenG hk hg6 (by omega)
 replace hT := Sha.Tabs.grown hT hg6 (by omega) (by omega)
 refine nt ?_
 refine sr ?_
 refine w_mv (ev (.int .i64 128) rfl rfl) ?_
 refine w_val (y_bin (ev (.int .i64 128) rfl rfl) (evc (.int .i64 8)) (b_quo (by omega))) ?_
 refine w_as (ev (.int .i64 16) rfl rfl) ?_
 refine nt ?_
 refine sr ?_
 refine w_mv (ev (.int .i64 128) rfl rfl) ?_
 refine w_val (y_bin (evc (.int .i64 2)) (ev (.int .i64 128) rfl rfl) (b_mul (by omega))) ?_
 refine w_mv (ev (.int .i64 16) rfl rfl) ?_
 refine w_val (y_bin (ev (.int .i64 256) rfl rfl) (ev (.int .i64 16) rfl rfl) (b_sub (by omega))) ?_
 refine w_val (y_bin (ev (.int .i64 240) rfl rfl) (evc (.int .i64 1)) (b_sub (by omega))) ?_
 refine w_val (v := pt b_x 137) (y_off (y_fa (ev (pt b_x 0) rfl rfl) (ShaDT.fa53_3 _ _)) (by first | rfl | omega)) ?_
 refine w_val (v := .int .i64 (((m.length % 128) : Nat) : Int)) (y_ld (ev (pt b_x 137) rfl rfl) ShaDT.sc3 (r_b_x.val (by omega) ((if_neg (by omega)).trans ((if_neg (by omega)).trans ((if_neg (by omega)).trans (etv (if_pos (by omega)))))))) ?_
 refine w_val (y_bin (ev (.int .i64 239) rfl rfl) (ev (.int .i64 (((m.length % 128) : Nat) : Int)) rfl rfl) (b_sub (by omega))) ?_
 refine w_mv (ev (.int .i64 128) rfl rfl) ?_
 refine w_val (y_bin (ev (.int .i64 (239 - (((m.length % 128) : Nat) : Int))) rfl rfl) (ev (.int .i64 128) rfl rfl) (b_rem (by omega))) ?_
 refine w_val (y_bin (ev (.int .i64 ((239 - (((m.length % 128) : Nat) : Int)) % 128)) rfl rfl) (evc (.int .i64 1)) (b_add (by omega))) ?_
 refine w_mv (ev (.int .i64 16) rfl rfl) ?_
 refine w_val (y_bin (ev (.int .i64 (((239 - (((m.length % 128) : Nat) : Int)) % 128) + 1)) rfl rfl) (ev (.int .i64 16) rfl rfl) (b_add (by omega))) ?_
 refine w_mks (m := ((((239 - (m.length % 128)) % 128) + 1) + 16)) (bytes := 1) (zv := U8 (0#8)) (ev (.int .i64 ((((239 - (((m.length % 128) : Nat) : Int)) % 128) + 1) + 16)) rfl rfl) (ev (.int .i64 ((((239 - (((m.length % 128) : Nat) : Int)) % 128) + 1) + 16)) rfl rfl) (by omega) (by omega) Tryd.underlying76 (by kernel_rfl) rfl (by omega) (by omega) ?_
 intro b_50 w7 hbe_b_50 r_b_50 hb8
 have ne_h_b_50 : h ≠ b_50 := by have := r_h.lt; omega
 have ne_b_x_b_50 : b_x ≠ b_50 := by have := r_b_x.lt; omega
 have ge_b_50 : w0.heap.size ≤ b_50 := by have := hk.size; omega
 clear hbe_b_50
 replace r_h := r_h.step hb8
 replace r_b_x := r_b_x.step hb8
 replace hk := thenB hk hb8
 replace hT := Sha.Tabs.below hT hb8
 refine w_as (ev (.slice (some ⟨b_50, 0, none⟩) ((((239 - (m.length % 128)) % 128) + 1) + 16) ((((239 - (m.length % 128)) % 128) + 1) + 16)) rfl rfl) ?_
 refine nt ?_
 refine sr ?_
 refine w_mv (ev (.slice (some ⟨b_50, 0, none⟩) ((((239 - (m.length % 128)) % 128) + 1) + 16) ((((239 - (m.length % 128)) % 128) + 1) + 16)) rfl rfl) ?_
 refine w_val (y_is1z (i := 0) (ev (.slice (some ⟨b_50, 0, none⟩) ((((239 - (m.length % 128)) % 128) + 1) + 16) ((((239 - (m.length % 128)) % 128) + 1) + 16)) rfl rfl) (evc (.int .i64 0)) Tryd.underlying76 ShaDT.sz5 (by omega) (by omega)) ?_
 refine w_st (v := U8 (128#8)) (ev (pt b_50 0) rfl rfl) (evc (U8 (128#8))) rfl rfl ShaDT.sz5 r_b_50 (by omega) ?_
 clear r_b_50; intro w9 r_b_50 hg10 _
 replace r_h := r_h.stepG hg10 (by omega)
 replace r_b_x := r_b_x.stepG hg10 (by omega)
 replace hk := thenG hk hg10 (by omega)
 replace hT := Sha.Tabs.grown hT hg10 (by omega) (by omega)
 refine nt ?_
 refine wp_seq ?_
 refine sr ?_
 refine w_mv (evc (.int .i64 0)) ?_
 refine nt ?_
 refine wp_block ?_
 refine c_loop (fun dN aN wl => ∃ (i : Nat), dN = (8 - i) ∧ ∃ f11, aN = fr 117 f11 ∧ (i ≤ 8) ∧ f11 0 = pt h 0 ∧ f11 2 = .string (str ([] : List (BitVec 8))) ∧ f11 3 = .int .i64 0 ∧ f11 4 = .int .i64 64 ∧ f11 5 = .int .i64 128 ∧ f11 7 = pt b_x 0 ∧ f11 8 = .int .i64 16 ∧ f11 9 = .slice (some ⟨b_50, 0, none⟩) ((((239 - (m.length % 128)) % 128) + 1) + 16) ((((239 - (m.length % 128)) % 128) + 1) + 16) ∧ f11 53 = .int .i64 ((i : Nat) : Int) ∧ Row wl h 53 139 (Sha.hrow (.int .i64 512) (Sha.st 512 (gb m) (m.length / 128)) rr (.int .i64 (((m.length % 128) : Nat) : Int)) (U64 (BitVec.ofNat 64 m.length))) ∧ Row wl b_x 53 139 (Sha.hrow (.int .i64 512) (Sha.st 512 (gb m) (m.length / 128)) rr (.int .i64 (((m.length % 128) : Nat) : Int)) (U64 (BitVec.ofNat 64 m.length))) ∧ Row wl b_50 5 ((((239 - (m.length % 128)) % 128) + 1) + 16) (fun j => if ((((239 - (m.length % 128)) % 128) + 1) + 16) ≤ j + i then (fun j => U8 (gb (Oct.be (BitVec.ofNat 64 (8 * m.length)) 8) (j - (((((239 - (m.length % 128)) % 128) + 1) + 16) - 8)))) j else (fun j => if j = 0 then U8 (128#8) else (fun j => U8 (0#8)) j) j) ∧ Sha.Tabs wl ∧ Below w0.heap.size w0 wl) (8 - 0) ?_ ?_
 · exact ⟨0, rfl, _, rfl, iv, rfl, rfl, rfl, rfl, rfl, rfl, rfl, rfl, (etv (b := .int .i64 0) rfl), r_h, r_b_x, (r_b_50.congr (fun j hj => by exact (if_neg (by omega)).symm)), hT, hk⟩
 ·skip
  clear r_h r_b_x r_b_50 hT hk
  rintro _ _ w12 ⟨i, rfl, f11, rfl, i1_0, s1_0, s1_2, s1_3, s1_4, s1_5, s1_7, s1_8, s1_9, s1_53, r_h, r_b_x, r_b_50, hT, hk⟩
  refine sr ?_
  refine w_val (y_bin (ev (.int .i64 ((i : Nat) : Int)) s1_53 rfl) (evc (.int .i64 8)) b_lss) ?_
  refine nt ?_
  refine wp_seq ?_
  refine c_if (p := ((i : Nat) : Int) < 8) (ev (.bool (decide (((i : Nat) : Int) < 8))) rfl rfl) (fun hc13 => ?_) (fun hc13 => ?_)
  ·skip
   refine wp_skip ?_
   refine then_n ?_
   refine wp_seq ?_
   refine wp_block ?_
   refine sr ?_
   refine w_mv (ev (.int .i64 ((i : Nat) : Int)) s1_53 rfl) ?_
   refine w_as (ev (.int .i64 ((i : Nat) : Int)) rfl rfl) ?_
   refine nt ?_
   refine wp_region_lit ?_
   refine w_mv (ev (.slice (some ⟨b_50, 0, none⟩) ((((239 - (m.length % 128)) % 128) + 1) + 16) ((((239 - (m.length % 128)) % 128) + 1) + 16)) s1_9 rfl) ?_
   refine w_mv (ev (.slice (some ⟨b_50, 0, none⟩) ((((239 - (m.length % 128)) % 128) + 1) + 16) ((((239 - (m.length % 128)) % 128) + 1) + 16)) s1_9 rfl) ?_
   refine w_val (v := .int .i64 ((((((239 - (m.length % 128)) % 128) + 1) + 16) : Nat) : Int)) (y_len_sl (ev (.slice (some ⟨b_50, 0, none⟩) ((((239 - (m.length % 128)) % 128) + 1) + 16) ((((239 - (m.length % 128)) % 128) + 1) + 16)) rfl rfl) Tryd.underlying76) ?_
   refine w_val (y_bin (ev (.int .i64 ((((((239 - (m.length % 128)) % 128) + 1) + 16) : Nat) : Int)) rfl rfl) (evc (.int .i64 1)) (b_sub (by omega))) ?_
   refine w_mv (ev (.int .i64 ((i : Nat) : Int)) rfl rfl) ?_
   refine w_val (y_bin (ev (.int .i64 (((((((239 - (m.length % 128)) % 128) + 1) + 16) : Nat) : Int) - 1)) rfl rfl) (ev (.int .i64 ((i : Nat) : Int)) rfl rfl) (b_sub (by omega))) ?_
   refine w_val (v := pt b_x 138) (y_off (y_fa (ev (pt b_x 0) s1_7 rfl) (ShaDT.fa53_4 _ _)) (by first | rfl | omega)) ?_
   refine w_val (v := U64 (BitVec.ofNat 64 m.length)) (y_ld (ev (pt b_x 138) rfl rfl) ShaDT.sc39 (r_b_x.val (by omega) ((if_neg (by omega)).trans ((if_neg (by omega)).trans ((if_neg (by omega)).trans ((if_neg (by omega)).trans (by first | with_reducible rfl | (with_reducible congr 1 <;> omega) | (with_reducible congr 2 <;> omega) | (with_reducible congr 3 <;> omega) | rfl))))))) ?_
   refine w_val (y_bin (ev (U64 (BitVec.ofNat 64 m.length)) rfl rfl) (evc (.int .u64 3)) (shl64 (c := 3) rfl)) ?_
   refine w_mv (ev (.int .i64 ((i : Nat) : Int)) rfl rfl) ?_
   refine w_val (y_bin (evc (.int .i64 8)) (ev (.int .i64 ((i : Nat) : Int)) rfl rfl) (b_mul (by omega))) ?_
   refine w_val (y_bin (ev (U64 ((BitVec.ofNat 64 m.length) <<< 3)) rfl rfl) (ev (.int .i64 (8 * ((i : Nat) : Int))) rfl rfl) (shr64 (c := (8 * i)) (by omega))) ?_
   refine w_val (y_u64_u8 (ev (U64 (((BitVec.ofNat 64 m.length) <<< 3) >>> (8 * i))) rfl rfl) ShaDT.so39 Tryd.underlying5) ?_
   refine w_val (y_is1z (i := ((((((239 - (m.length % 128)) % 128) + 1) + 16) - 1) - i)) (ev (.slice (some ⟨b_50, 0, none⟩) ((((239 - (m.length % 128)) % 128) + 1) + 16) ((((239 - (m.length % 128)) % 128) + 1) + 16)) rfl rfl) (ev (.int .i64 ((((((((239 - (m.length % 128)) % 128) + 1) + 16) : Nat) : Int) - 1) - ((i : Nat) : Int))) rfl rfl) Tryd.underlying76 ShaDT.sz5 (by omega) (by omega)) ?_
   refine w_st (v := U8 ((((BitVec.ofNat 64 m.length) <<< 3) >>> (8 * i)).setWidth 8)) (ev (pt b_50 ((((((239 - (m.length % 128)) % 128) + 1) + 16) - 1) - i)) rfl rfl) (ev (U8 ((((BitVec.ofNat 64 m.length) <<< 3) >>> (8 * i)).setWidth 8)) rfl rfl) rfl rfl ShaDT.sz5 r_b_50 (by omega) ?_
   clear r_b_50; intro w14 r_b_50 hg15 _
   replace r_h := r_h.stepG hg15 (by omega)
   replace r_b_x := r_b_x.stepG hg15 (by omega)
   replace hk := thenG hk hg15 (by omega)
   replace hT := Sha.Tabs.grown hT hg15 (by omega) (by omega)
   refine wpList_nil ?_
   refine inb_n ?_
   refine then_n ?_
   refine wp_region_lit ?_
   refine w_val (y_bin (ev (.int .i64 ((i : Nat) : Int)) s1_53 rfl) (evc (.int .i64 1)) (b_add (by omega))) ?_
   refine w_mv (ev (.int .i64 (((i : Nat) : Int) + 1)) rfl rfl) ?_
   refine wpList_nil ?_
   exact then_n ⟨_, (by omega), i + 1, rfl, _, rfl, iv, s1_0, s1_2, s1_3, s1_4, s1_5, s1_7, s1_8, s1_9, (etv (b := .int .i64 (((i : Nat) : Int) + 1)) rfl), r_h, r_b_x, (r_b_50.congr (fun j hj => by (try dsimp only); by_cases e : j = ((((239 - (m.length % 128)) % 128) + 1) + 16) - 1 - i; (rw [if_pos e, if_pos (by omega), Sha.len_byte _ _ (by omega)]; exact congrArg U8 (congrArg (gb _) (by omega))); (rw [if_neg e]; by_cases e2 : ((((239 - (m.length % 128)) % 128) + 1) + 16) ≤ j + i; (rw [if_pos e2]; exact (if_pos (by omega)).symm); (rw [if_neg e2]; exact (if_neg (by omega)).symm)))), hT, hk⟩
  ·skip
   refine wp_exit ?_
   refine then_x ?_
   refine then_x ?_
   refine inb_x ?_
   refine then_n ?_
   refine wp_seq ?_
   refine sr ?_
   refine w_mv (ev (.int .i64 16) s1_8 rfl) ?_
   refine w_val (y_bin (ev (.int .i64 16) rfl rfl) (evc (.int .i64 16)) b_eql) ?_
   refine nt ?_
   refine c_tt (ev (.bool true) rfl rfl) ?_
   refine wp_region_lit ?_
   refine w_mv (ev (.slice (some ⟨b_50, 0, none⟩) ((((239 - (m.length % 128)) % 128) + 1) + 16) ((((239 - (m.length % 128)) % 128) + 1) + 16)) s1_9 rfl) ?_
   refine w_mv (ev (.slice (some ⟨b_50, 0, none⟩) ((((239 - (m.length % 128)) % 128) + 1) + 16) ((((239 - (m.length % 128)) % 128) + 1) + 16)) s1_9 rfl) ?_
   refine w_val (v := .int .i64 ((((((239 - (m.length % 128)) % 128) + 1) + 16) : Nat) : Int)) (y_len_sl (ev (.slice (some ⟨b_50, 0, none⟩) ((((239 - (m.length % 128)) % 128) + 1) + 16) ((((239 - (m.length % 128)) % 128) + 1) + 16)) rfl rfl) Tryd.underlying76) ?_
   refine w_val (y_bin (ev (.int .i64 ((((((239 - (m.length % 128)) % 128) + 1) + 16) : Nat) : Int)) rfl rfl) (evc (.int .i64 9)) (b_sub (by omega))) ?_
   refine w_val (v := pt b_x 138) (y_off (y_fa (ev (pt b_x 0) s1_7 rfl) (ShaDT.fa53_4 _ _)) (by first | rfl | omega)) ?_
   refine w_val (v := U64 (BitVec.ofNat 64 m.length)) (y_ld (ev (pt b_x 138) rfl rfl) ShaDT.sc39 (r_b_x.val (by omega) ((if_neg (by omega)).trans ((if_neg (by omega)).trans ((if_neg (by omega)).trans ((if_neg (by omega)).trans (by first | with_reducible rfl | (with_reducible congr 1 <;> omega) | (with_reducible congr 2 <;> omega) | (with_reducible congr 3 <;> omega) | rfl))))))) ?_
   refine w_val (y_bin (ev (U64 (BitVec.ofNat 64 m.length)) rfl rfl) (evc (.int .u64 61)) (shr64 (c := 61) rfl)) ?_
   refine w_val (y_u64_u8 (ev (U64 ((BitVec.ofNat 64 m.length) >>> 61)) rfl rfl) ShaDT.so39 Tryd.underlying5) ?_
   refine w_val (y_is1z (i := (((((239 - (m.length % 128)) % 128) + 1) + 16) - 9)) (ev (.slice (some ⟨b_50, 0, none⟩) ((((239 - (m.length % 128)) % 128) + 1) + 16) ((((239 - (m.length % 128)) % 128) + 1) + 16)) rfl rfl) (ev (.int .i64 (((((((239 - (m.length % 128)) % 128) + 1) + 16) : Nat) : Int) - 9)) rfl rfl) Tryd.underlying76 ShaDT.sz5 (by omega) (by omega)) ?_
   refine w_st (v := U8 (((BitVec.ofNat 64 m.length) >>> 61).setWidth 8)) (ev (pt b_50 (((((239 - (m.length % 128)) % 128) + 1) + 16) - 9)) rfl rfl) (ev (U8 (((BitVec.ofNat 64 m.length) >>> 61).setWidth 8)) rfl rfl) rfl rfl ShaDT.sz5 r_b_50 (by omega) ?_
   clear r_b_50; intro w16 r_b_50 hg17 _
   replace r_h := r_h.stepG hg17 (by omega)
   replace r_b_x := r_b_x.stepG hg17 (by omega)
   replace hk := thenG hk hg17 (by omega)
   replace hT := Sha.Tabs.grown hT hg17 (by omega) (by omega)
   refine nt ?_
   refine wp_seq ?_
   replace r_b_50 := r_b_50.congr (g := fun j => U8 (gb (Sha.pad 512 m.length) j)) (fun j hj => by rw [show i = 8 from by omega]; exact Sha.pad_row2 512 m.length _ j _ (Sha.top_byte _ (by omega)) (by omega) (by omega) hj)
   refine wp_region_lit ?_
   refine w_mv (ev (.slice (some ⟨b_50, 0, none⟩) ((((239 - (m.length % 128)) % 128) + 1) + 16) ((((239 - (m.length % 128)) % 128) + 1) + 16)) s1_9 rfl) ?_
   refine w_val (y_str (l := Sha.pad 512 m.length) (ev (.slice (some ⟨b_50, 0, none⟩) ((((239 - (m.length % 128)) % 128) + 1) + 16) ((((239 - (m.length % 128)) % 128) + 1) + 16)) rfl rfl) (by first | rfl | assumption | (simp; omega) | omega) Tryd.underlying76 Tryd.underlying5 Tryd.underlying9 (fun j hj => by rw [Nat.zero_add]; exact (r_b_50.cell (by omega)))) ?_
   have rh_ := r_b_x
   clear r_b_x
   refine w_call (Tryd.func41) (by kernel_rfl) rfl (m2 (ev (pt b_x 0) s1_7 rfl) (ev (.string (str (Sha.pad 512 m.length))) rfl rfl)) (put_512 b_x (by omega) m (Sha.pad 512 m.length) (by omega) rr (BitVec.ofNat 64 m.length) hr w16 rh_ hT) ?_
   rintro _ w18 ⟨rfl, rr', hr', r_b_x, hgf⟩
   refine ⟨_, rfl, ?_⟩
   replace r_h := r_h.stepG hgf (by omega)
   replace r_b_50 := r_b_50.stepG hgf (by omega)
   replace hk := thenG hk hgf (by omega)
   replace hT := Sha.Tabs.grown hT hgf (by omega) (by omega)
   refine nt ?_
   refine wp_seq ?_
   replace r_b_x := r_b_x.congr (g := Sha.hrow (.int .i64 512) (Sha.st 512 (gb (Sha.full 512 m)) (Sha.nb 512 m)) rr' (.int .i64 ((((m.length + (Sha.pad 512 m.length).length) % 128) : Nat) : Int)) (U64 (BitVec.ofNat 64 m.length))) (fun j hj => Sha.hrow_congr _ _ _ _ _ _ _ j (fun i _ => by rw [Sha.length_pad]; rfl) (fun _ _ => rfl))
   refine wp_region_lit ?_
   refine w_alloc (m := 64) (F := fun j => U8 (0#8)) (by kernel_rfl) ?_
   intro b_out w19 hbe_b_out r_b_out hb20
   have ne_h_b_out : h ≠ b_out := by have := r_h.lt; omega
   have ne_b_x_b_out : b_x ≠ b_out := by have := r_b_x.lt; omega
   have ne_b_50_b_out : b_50 ≠ b_out := by have := r_b_50.lt; omega
   have ge_b_out : w0.heap.size ≤ b_out := by have := hk.size; omega
   clear hbe_b_out
   replace r_h := r_h.step hb20
   replace r_b_x := r_b_x.step hb20
   replace r_b_50 := r_b_50.step hb20
   replace hk := thenB hk hb20
   replace hT := Sha.Tabs.below hT hb20
   refine nt ?_
   refine wp_seq ?_
   refine sr ?_
   refine w_mv (evc (.int .i64 0)) ?_
   refine nt ?_
   refine wp_block ?_
   refine c_loop (fun dN aN wl => ∃ (a : Nat), dN = (8 - a) ∧ ∃ f21, aN = fr 117 f21 ∧ (a ≤ 8) ∧ f21 0 = pt h 0 ∧ f21 2 = .string (str ([] : List (BitVec 8))) ∧ f21 3 = .int .i64 0 ∧ f21 4 = .int .i64 64 ∧ f21 5 = .int .i64 128 ∧ f21 7 = pt b_x 0 ∧ f21 8 = .int .i64 16 ∧ f21 9 = .slice (some ⟨b_50, 0, none⟩) ((((239 - (m.length % 128)) % 128) + 1) + 16) ((((239 - (m.length % 128)) % 128) + 1) + 16) ∧ f21 11 = pt b_out 0 ∧ f21 53 = .int .i64 ((i : Nat) : Int) ∧ f21 85 = .int .i64 ((a : Nat) : Int) ∧ Row wl h 53 139 (Sha.hrow (.int .i64 512) (Sha.st 512 (gb m) (m.length / 128)) rr (.int .i64 (((m.length % 128) : Nat) : Int)) (U64 (BitVec.ofNat 64 m.length))) ∧ Row wl b_x 53 139 (Sha.hrow (.int .i64 512) (Sha.st 512 (gb (Sha.full 512 m)) (Sha.nb 512 m)) rr' (.int .i64 ((((m.length + (Sha.pad 512 m.length).length) % 128) : Nat) : Int)) (U64 (BitVec.ofNat 64 m.length))) ∧ Row wl b_50 5 ((((239 - (m.length % 128)) % 128) + 1) + 16) (fun j => U8 (gb (Sha.pad 512 m.length) j)) ∧ Row wl b_out 78 64 (fun j => if j < (8 * a) then (fun j => U8 ((Sha.st 512 (gb (Sha.full 512 m)) (Sha.nb 512 m) (j / 8) >>> (8 * (7 - j % 8))).setWidth 8)) j else (fun j => U8 (0#8)) j) ∧ Sha.Tabs wl ∧ Below w0.heap.size w0 wl) (8 - 0) ?_ ?_
   · exact ⟨0, rfl, _, rfl, iv, s1_0, s1_2, s1_3, s1_4, s1_5, s1_7, s1_8, s1_9, rfl, s1_53, (etv (b := .int .i64 0) rfl), r_h, r_b_x, r_b_50, (r_b_out.congr (fun j hj => by exact (if_neg (by omega)).symm)), hT, hk⟩
   ·skip
    clear r_h r_b_x r_b_50 r_b_out hT hk
    rintro _ _ w22 ⟨a, rfl, f21, rfl, i2_0, s2_0, s2_2, s2_3, s2_4, s2_5, s2_7, s2_8, s2_9, s2_11, s2_53, s2_85, r_h, r_b_x, r_b_50, r_b_out, hT, hk⟩
    refine sr ?_
    refine w_val (y_bin (ev (.int .i64 ((a : Nat) : Int)) s2_85 rfl) (evc (.int .i64 8)) b_lss) ?_
    refine nt ?_
    refine wp_seq ?_
    refine c_if (p := ((a : Nat) : Int) < 8) (ev (.bool (decide (((a : Nat) : Int) < 8))) rfl rfl) (fun hc23 => ?_) (fun hc23 => ?_)
    ·skip
     refine wp_skip ?_
     refine then_n ?_
     refine wp_seq ?_
     refine wp_block ?_
     refine sr ?_
     refine w_mv (ev (.int .i64 ((a : Nat) : Int)) s2_85 rfl) ?_
     refine w_as (ev (.int .i64 ((a : Nat) : Int)) rfl rfl) ?_
     refine nt ?_
     refine sr ?_
     refine w_mv (ev (.int .i64 128) s2_5 rfl) ?_
     refine w_val (y_bin (ev (.int .i64 128) rfl rfl) (evc (.int .i64 16)) (b_quo (by omega))) ?_
     refine w_mv (evc (.int .i64 0)) ?_
     refine nt ?_
     refine wp_block ?_
     refine c_loop (fun dN aN wl => ∃ (b : Nat), dN = (8 - b) ∧ ∃ f24, aN = fr 117 f24 ∧ (b ≤ 8) ∧ f24 0 = pt h 0 ∧ f24 2 = .string (str ([] : List (BitVec 8))) ∧ f24 3 = .int .i64 0 ∧ f24 4 = .int .i64 64 ∧ f24 5 = .int .i64 128 ∧ f24 7 = pt b_x 0 ∧ f24 8 = .int .i64 16 ∧ f24 9 = .slice (some ⟨b_50, 0, none⟩) ((((239 - (m.length % 128)) % 128) + 1) + 16) ((((239 - (m.length % 128)) % 128) + 1) + 16) ∧ f24 11 = pt b_out 0 ∧ f24 12 = .int .i64 ((a : Nat) : Int) ∧ f24 53 = .int .i64 ((i : Nat) : Int) ∧ f24 85 = .int .i64 ((a : Nat) : Int) ∧ f24 89 = .int .i64 8 ∧ f24 90 = .int .i64 ((b : Nat) : Int) ∧ Row wl h 53 139 (Sha.hrow (.int .i64 512) (Sha.st 512 (gb m) (m.length / 128)) rr (.int .i64 (((m.length % 128) : Nat) : Int)) (U64 (BitVec.ofNat 64 m.length))) ∧ Row wl b_x 53 139 (Sha.hrow (.int .i64 512) (Sha.st 512 (gb (Sha.full 512 m)) (Sha.nb 512 m)) rr' (.int .i64 ((((m.length + (Sha.pad 512 m.length).length) % 128) : Nat) : Int)) (U64 (BitVec.ofNat 64 m.length))) ∧ Row wl b_50 5 ((((239 - (m.length % 128)) % 128) + 1) + 16) (fun j => U8 (gb (Sha.pad 512 m.length) j)) ∧ Row wl b_out 78 64 (fun j => if j < ((a * 8) + b) then (fun j => U8 ((Sha.st 512 (gb (Sha.full 512 m)) (Sha.nb 512 m) (j / 8) >>> (8 * (7 - j % 8))).setWidth 8)) j else (fun j => U8 (0#8)) j) ∧ Sha.Tabs wl ∧ Below w0.heap.size w0 wl) (8 - 0) ?_ ?_
     · exact ⟨0, rfl, _, rfl, iv, s2_0, s2_2, s2_3, s2_4, s2_5, s2_7, s2_8, s2_9, s2_11, rfl, s2_53, s2_85, rfl, (etv (b := .int .i64 0) rfl), r_h, r_b_x, r_b_50, (r_b_out.congr (fun j hj => by (try dsimp only); by_cases e : j < 8 * a; (rw [if_pos e, if_pos (by omega)]); (rw [if_neg e, if_neg (by omega)]))), hT, hk⟩
     ·skip
      clear r_h r_b_x r_b_50 r_b_out hT hk
      rintro _ _ w25 ⟨b, rfl, f24, rfl, i3_0, s3_0, s3_2, s3_3, s3_4, s3_5, s3_7, s3_8, s3_9, s3_11, s3_12, s3_53, s3_85, s3_89, s3_90, r_h, r_b_x, r_b_50, r_b_out, hT, hk⟩
      refine sr ?_
      refine w_val (y_bin (ev (.int .i64 ((b : Nat) : Int)) s3_90 rfl) (ev (.int .i64 8) s3_89 rfl) b_lss) ?_
      refine nt ?_
      refine wp_seq ?_
      refine c_if (p := ((b : Nat) : Int) < 8) (ev (.bool (decide (((b : Nat) : Int) < 8))) rfl rfl) (fun hc26 => ?_) (fun hc26 => ?_)
      ·skip
       refine wp_skip ?_
       refine then_n ?_
       refine wp_seq ?_
       refine wp_block ?_
       refine sr ?_
       refine w_mv (ev (.int .i64 ((b : Nat) : Int)) s3_90 rfl) ?_
       refine w_as (ev (.int .i64 ((b : Nat) : Int)) rfl rfl) ?_
       refine nt ?_
       refine wp_region_lit ?_
       refine w_mv (ev (.int .i64 ((a : Nat) : Int)) s3_12 rfl) ?_
       refine w_mv (ev (.int .i64 128) s3_5 rfl) ?_
       refine w_val (y_bin (ev (.int .i64 128) rfl rfl) (evc (.int .i64 16)) (b_quo (by omega))) ?_
       refine w_val (y_bin (ev (.int .i64 ((a : Nat) : Int)) rfl rfl) (ev (.int .i64 8) rfl rfl) (b_mul (by omega))) ?_
       refine w_mv (ev (.int .i64 ((b : Nat) : Int)) rfl rfl) ?_
       refine w_val (y_bin (ev (.int .i64 (((a : Nat) : Int) * 8)) rfl rfl) (ev (.int .i64 ((b : Nat) : Int)) rfl rfl) (b_add (by omega))) ?_
       refine w_mv (ev (.int .i64 ((a : Nat) : Int)) s3_12 rfl) ?_
       refine w_val (v := pt b_x 1) (y_off (y_fa (ev (pt b_x 0) s3_7 rfl) (ShaDT.fa53_1 _ _)) (by first | rfl | omega)) ?_
       refine w_val (v := pt b_x (1 + a)) (y_off (y_ia1 (i := a) (ev (pt b_x 1) rfl rfl) (ev (.int .i64 ((a : Nat) : Int)) rfl rfl) Tryd.underlying40 ShaDT.sz39 (by omega) (by omega)) (by first | rfl | omega)) ?_
       refine w_val (v := U64 ((Sha.st 512 (gb (Sha.full 512 m)) (Sha.nb 512 m)) a)) (y_ld (ev (pt b_x (1 + a)) rfl rfl) ShaDT.sc39 (r_b_x.val (by omega) ((if_neg (by omega)).trans (etv (if_pos (by omega)))))) ?_
       refine w_mv (ev (.int .i64 128) s3_5 rfl) ?_
       refine w_val (y_bin (ev (.int .i64 128) rfl rfl) (evc (.int .i64 16)) (b_quo (by omega))) ?_
       refine w_val (y_bin (ev (.int .i64 8) rfl rfl) (evc (.int .i64 1)) (b_sub (by omega))) ?_
       refine w_mv (ev (.int .i64 ((b : Nat) : Int)) rfl rfl) ?_
       refine w_val (y_bin (ev (.int .i64 7) rfl rfl) (ev (.int .i64 ((b : Nat) : Int)) rfl rfl) (b_sub (by omega))) ?_
       refine w_val (y_bin (evc (.int .i64 8)) (ev (.int .i64 (7 - ((b : Nat) : Int))) rfl rfl) (b_mul (by omega))) ?_
       refine w_val (y_bin (ev (U64 ((Sha.st 512 (gb (Sha.full 512 m)) (Sha.nb 512 m)) a)) rfl rfl) (ev (.int .i64 (8 * (7 - ((b : Nat) : Int)))) rfl rfl) (shr64 (c := (8 * (7 - b))) (by omega))) ?_
       refine w_val (y_u64_u8 (ev (U64 (((Sha.st 512 (gb (Sha.full 512 m)) (Sha.nb 512 m)) a) >>> (8 * (7 - b)))) rfl rfl) ShaDT.so39 Tryd.underlying5) ?_
       refine w_val (y_ia1z (i := ((a * 8) + b)) (ev (pt b_out 0) s3_11 rfl) (ev (.int .i64 ((((a : Nat) : Int) * 8) + ((b : Nat) : Int))) rfl rfl) Tryd.underlying78 ShaDT.sz5 (by omega) (by omega)) ?_
       refine w_st (v := U8 ((((Sha.st 512 (gb (Sha.full 512 m)) (Sha.nb 512 m)) a) >>> (8 * (7 - b))).setWidth 8)) (ev (pt b_out ((a * 8) + b)) rfl rfl) (ev (U8 ((((Sha.st 512 (gb (Sha.full 512 m)) (Sha.nb 512 m)) a) >>> (8 * (7 - b))).setWidth 8)) rfl rfl) rfl rfl ShaDT.sz5 r_b_out (by omega) ?_
       clear r_b_out; intro w27 r_b_out hg28 _
       replace r_h := r_h.stepG hg28 (by omega)
       replace r_b_x := r_b_x.stepG hg28 (by omega)
       replace r_b_50 := r_b_50.stepG hg28 (by omega)
       replace hk := thenG hk hg28 (by omega)
       replace hT := Sha.Tabs.grown hT hg28 (by omega) (by omega)
       refine wpList_nil ?_
       refine inb_n ?_
       refine then_n ?_
       refine wp_region_lit ?_
       refine w_val (y_bin (ev (.int .i64 ((b : Nat) : Int)) s3_90 rfl) (evc (.int .i64 1)) (b_add (by omega))) ?_
       refine w_mv (ev (.int .i64 (((b : Nat) : Int) + 1)) rfl rfl) ?_
       refine wpList_nil ?_
       exact then_n ⟨_, (by omega), b + 1, rfl, _, rfl, iv, s3_0, s3_2, s3_3, s3_4, s3_5, s3_7, s3_8, s3_9, s3_11, s3_12, s3_53, s3_85, s3_89, (etv (b := .int .i64 (((b : Nat) : Int) + 1)) rfl), r_h, r_b_x, r_b_50, (r_b_out.congr (fun j hj => by (try dsimp only); by_cases e : j = a * 8 + b; (rw [if_pos e, if_pos (by omega), e, show (a * 8 + b) / 8 = a from by omega, show (a * 8 + b) % 8 = b from by omega]); (rw [if_neg e]; by_cases e2 : j < a * 8 + b; (rw [if_pos e2, if_pos (by omega)]); (rw [if_neg e2, if_neg (by omega)])))), hT, hk⟩
      ·skip
       refine wp_exit ?_
       refine then_x ?_
       refine then_x ?_
       refine inb_x ?_
       refine inb_n ?_
       refine then_n ?_
       refine wp_region_lit ?_
       refine w_val (y_bin (ev (.int .i64 ((a : Nat) : Int)) s3_85 rfl) (evc (.int .i64 1)) (b_add (by omega))) ?_
       refine w_mv (ev (.int .i64 (((a : Nat) : Int) + 1)) rfl rfl) ?_
       refine wpList_nil ?_
       exact then_n ⟨_, (by omega), a + 1, rfl, _, rfl, iv, s3_0, s3_2, s3_3, s3_4, s3_5, s3_7, s3_8, s3_9, s3_11, s3_53, (etv (b := .int .i64 (((a : Nat) : Int) + 1)) rfl), r_h, r_b_x, r_b_50, (r_b_out.congr (fun j hj => by (try dsimp only); by_cases e : j < a * 8 + b; (rw [if_pos e, if_pos (by omega)]); (rw [if_neg e, if_neg (by omega)]))), hT, hk⟩
    ·skip
     refine wp_exit ?_
     refine then_x ?_
     refine then_x ?_
     refine inb_x ?_
     refine then_n ?_
     refine sr ?_
     refine w_mv (ev (.int .i64 64) s2_4 rfl) ?_
     refine w_val (v := .slice (some ⟨b_out, 0, none⟩) 64 64) (y_sloff (y_slp (ev (pt b_out 0) s2_11 rfl) evo.no (evo.s (ev (.int .i64 64) rfl rfl)) Tryd.underlying78 ShaDT.sz5 (bnd_h (h := 64) (by omega) (by omega)) (by omega)) (by first | rfl | omega) rfl) ?_
     refine w_val (y_str (l := Sha.sum 512 m) (ev (.slice (some ⟨b_out, 0, none⟩) 64 64) rfl rfl) (by rw [Sha.length_sum]; rfl) Tryd.underlying76 Tryd.underlying5 Tryd.underlying9 (fun j hj => (r_b_out.val (by omega) (by rw [Sha.gb_sum _ _ _ (show j < Sha.ol 512 from hj), Nat.zero_add]; exact if_pos (by omega))))) ?_
     refine w_as (ev (.string (str (Sha.sum 512 m))) rfl rfl) ?_
     refine w_as (evc (.int .i64 0)) ?_
     refine nt ?_
     refine wp_ret ?_
     refine fin_ret2 rfl (ev (.string (str (Sha.sum 512 m))) rfl rfl) (ev (.int .i64 0) rfl rfl) ?_
     exact ⟨rfl, hk⟩
end Go.Proofs.YtieepglpejlkoaaDoor
