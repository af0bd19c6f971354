/-
  Digests: the reference's rule, word by word and block by block. Conditions as each says.
-/
import Derived.Test.YtepogbfkmflooaaDoorRows
import Derived.Test.YtepogbfkmflooaaDoorGenMore
import Derived.Test.YtepogbfkmflooaaDoorShaRef
import Derived.Test.YtepogbfkmflooaaDoorGenSh
import Derived.ProofKit
namespace Go.Proofs.YtepogbfkmflooaaDoor
open Go.RowKit
set_option linter.unusedSimpArgs false
set_option linter.unusedVariables false
set_option maxRecDepth 100000
set_option maxHeartbeats 1000000
namespace ShaRT
theorem mixed : Tryd.prog.follows .mixedOrders = true := by kernel_rfl
theorem ag88 : (Tryd.prog.underlying 88).map isAggD = some true := by rw [Tryd.underlying88]; rfl
theorem fa90_0 (g off : Nat) : ∀ w, (Instr.fieldAt 90 (.pointer (some ⟨g, off, none⟩)) 0).run Tryd.prog w = .ok (.pointer (some ⟨g, off + 0, none⟩)) w := fun w => by kernel_rfl
theorem fa90_2 (g off : Nat) : ∀ w, (Instr.fieldAt 90 (.pointer (some ⟨g, off, none⟩)) 2).run Tryd.prog w = .ok (.pointer (some ⟨g, off + 2, none⟩)) w := fun w => by kernel_rfl
theorem fa90_3 (g off : Nat) : ∀ w, (Instr.fieldAt 90 (.pointer (some ⟨g, off, none⟩)) 3).run Tryd.prog w = .ok (.pointer (some ⟨g, off + 3, none⟩)) w := fun w => by kernel_rfl
theorem fa90_4 (g off : Nat) : ∀ w, (Instr.fieldAt 90 (.pointer (some ⟨g, off, none⟩)) 4).run Tryd.prog w = .ok (.pointer (some ⟨g, off + 4, none⟩)) w := fun w => by kernel_rfl
theorem fa90_6 (g off : Nat) : ∀ w, (Instr.fieldAt 90 (.pointer (some ⟨g, off, none⟩)) 6).run Tryd.prog w = .ok (.pointer (some ⟨g, off + 13, none⟩)) w := fun w => by kernel_rfl
theorem sc3 : (Tryd.prog.underlying 3).map scal = some true := by rw [Tryd.underlying3]; rfl
theorem sc58 : (Tryd.prog.underlying 58).map scal = some true := by rw [Tryd.underlying58]; rfl
theorem sc85 : (Tryd.prog.underlying 85).map scal = some true := by rw [Tryd.underlying85]; rfl
theorem sc87 : (Tryd.prog.underlying 87).map scal = some true := by rw [Tryd.underlying87]; rfl
theorem so5 : (Tryd.prog.underlying 5).isSome = true := by rw [Tryd.underlying5]; rfl
theorem sz58 : (Tryd.prog.info? 58).map (·.size) = some 1 := by kernel_rfl
theorem sz85 : (Tryd.prog.info? 85).map (·.size) = some 1 := by kernel_rfl
theorem sz88 : (Tryd.prog.info? 88).map (·.size) = some 8 := by kernel_rfl
end ShaRT
theorem word_t (rp ou g cap : Nat) (bg : Nat → BitVec 64) (x : BitVec 64) (w0 : World) (r_rp : Row w0 rp 90 25 (Sha.rrow (.int .i64 256) (.int .i64 ((ou : Nat) : Int)) (.int .i64 64) (.int .i64 64) (.slice (some ⟨g, 0, none⟩) 64 cap) bg (fun i => U64 (BitVec.ofNat 64 (Sha.trn true i))))) : Calls Tryd.prog 93 #[pt rp 0, U64 x] w0 fun e w' => e = .returned (U64 (Sha.wd true x)) ∧ Below w0.heap.size w0 w' := by
 refine enter (n := 13) Tryd.func93 rfl rfl rfl ?_
 have hk : Below w0.heap.size w0 w0 := Below.refl _ _
 have lt_rp := r_rp.lt
 refine sr (w_as (evc (U64 (0#64))) (nt (wp_seq (sr (w_mv (ex (pt rp 0)) (w_val (y_nc (ex (pt rp 0))) (w_val (v := pt rp 0) (y_off (y_fa (ex (pt rp 0)) (ShaRT.fa90_0 _ _)) ro) (w_val (v := .int .i64 256) (y_ld (ex (pt rp 0)) ShaRT.sc3 (r_rp.val om pz)) (w_val (y_bin ei Ev.c b_eql) (nt (c_tt eb (sr (w_mv e6 (w_val (y_bin e6 (evc (U64 (4294967296#64))) (rem64 (by decide))) (w_as e6 (nt (wp_ret (then_r (fin_ret1 rfl e6 ?_)))))))))))))))))))
 refine ⟨congrArg Ending.returned ?_, hk⟩
 show (U64 (x % (4294967296#64)) : Value) = U64 (Sha.wd true x)
 rfl

theorem turn_t (rp ou g cap : Nat) (bg : Nat → BitVec 64) (x : BitVec 64) (n : Nat) (hn : n ≤ 32) (w0 : World) (r_rp : Row w0 rp 90 25 (Sha.rrow (.int .i64 256) (.int .i64 ((ou : Nat) : Int)) (.int .i64 64) (.int .i64 64) (.slice (some ⟨g, 0, none⟩) 64 cap) bg (fun i => U64 (BitVec.ofNat 64 (Sha.trn true i))))) : Calls Tryd.prog 103 #[pt rp 0, U64 x, U64 (BitVec.ofNat 64 n)] w0 fun e w' => e = .returned (U64 (Sha.tn true x n)) ∧ Below w0.heap.size w0 w' := by
 refine enter (n := 30) Tryd.func103 rfl rfl rfl ?_
 have hk : Below w0.heap.size w0 w0 := Below.refl _ _
 have lt_rp := r_rp.lt
 refine sr (w_as (evc (U64 (0#64))) (nt (wp_seq (sr (w_mv (ex (pt rp 0)) (w_val (y_nc (ex (pt rp 0))) (w_val (v := pt rp 0) (y_off (y_fa (ex (pt rp 0)) (ShaRT.fa90_0 _ _)) ro) (w_val (v := .int .i64 256) (y_ld (ex (pt rp 0)) ShaRT.sc3 (r_rp.val om pz)) (w_val (y_bin ei Ev.c b_eql) (nt (c_tt eb (sr (w_mv (ex (pt rp 0)) (w_mv e6 (w_mv e6 (w_val (y_bin e6 e6 (shr64 (c := n) (by rw [BitVec.toNat_ofNat]; omega))) (w_mv e6 (w_mv e6 (w_val (y_bin (evc (U64 (32#64))) e6 sub64) (w_val (y_bin e6 e6 (shl64 (c := (((32#64) - (BitVec.ofNat 64 n)).toNat)) rfl)) (w_val (y_bin e6 e6 or64) (w_call (Tryd.func93) kr rfl (m2 (ex (pt rp 0)) e6) (word_t rp ou g cap bg ((x >>> n) ||| (x <<< (((32#64) - (BitVec.ofNat 64 n)).toNat))) w0 r_rp) ?_))))))))))))))))))))))
 rintro _ w1 ⟨rfl, hb2⟩
 refine ⟨_, rfl, ?_⟩
 replace r_rp := r_rp.step hb2
 replace hk := thenB hk hb2
 refine w_as e6 (nt (wp_ret (then_r (fin_ret1 rfl e6 ?_))))
 refine ⟨congrArg Ending.returned ?_, hk⟩
 show (U64 (Sha.wd true ((x >>> n) ||| (x <<< (((32#64) - (BitVec.ofNat 64 n)).toNat)))) : Value) = U64 (Sha.tn true x n)
 rw [Sha.sub_ofNat 32 n om om]; rfl

theorem three_tt (rp ou g cap : Nat) (bg : Nat → BitVec 64) (x : BitVec 64) (a : Nat) (ha : a + 2 < 12) (w0 : World) (r_rp : Row w0 rp 90 25 (Sha.rrow (.int .i64 256) (.int .i64 ((ou : Nat) : Int)) (.int .i64 64) (.int .i64 64) (.slice (some ⟨g, 0, none⟩) 64 cap) bg (fun i => U64 (BitVec.ofNat 64 (Sha.trn true i))))) : Calls Tryd.prog 94 #[pt rp 0, U64 x, .int .i64 ((a : Nat) : Int), .bool true] w0 fun e w' => e = .returned (U64 (Sha.th true x a true)) ∧ Below w0.heap.size w0 w' := by
 have ht0 := Sha.trn_le a
 have ht1 := Sha.trn_le (a + 1)
 have ht2 := Sha.trn_le (a + 2)
 refine enter (n := 52) Tryd.func94 rfl rfl rfl ?_
 have hk : Below w0.heap.size w0 w0 := Below.refl _ _
 have lt_rp := r_rp.lt
 refine sr (w_as (evc (U64 (0#64))) (nt (sr (w_mv (ex (pt rp 0)) (w_mv e6 (w_mv (ex (pt rp 0)) (w_mv ei (w_val (y_bin ei Ev.c (b_add om)) (w_val (y_nc (ex (pt rp 0))) (w_val (v := pt rp 13) (y_off (y_fa (ex (pt rp 0)) (ShaRT.fa90_6 _ _)) ro) (w_val (v := pt rp (13 + (a + 2))) (y_off (y_ia1 (i := (a + 2)) (ex (pt rp 13)) ei Tryd.underlying86 ShaRT.sz85 om om) ro) (w_val (v := U64 (BitVec.ofNat 64 (Sha.trn true (a + 2)))) (y_ld (ex (pt rp (13 + (a + 2)))) ShaRT.sc85 (r_rp.val om (ng (ng (ng (ng (ng (ng dv)))))))) (w_call (Tryd.func103) kr rfl (m3 (ex (pt rp 0)) e6 e6) (turn_t rp ou g cap bg x (Sha.trn true (a + 2)) om w0 r_rp) ?_)))))))))))))
 rintro _ w1 ⟨rfl, hb2⟩
 refine ⟨_, rfl, ?_⟩
 replace r_rp := r_rp.step hb2
 replace hk := thenB hk hb2
 refine w_as e6 (nt (wp_seq (sr (w_mv eb (nt (c_tt eb (wp_region_lit (w_mv e6 (w_mv (ex (pt rp 0)) (w_mv ei (w_val (y_bin ei Ev.c (b_add om)) (w_val (y_nc (ex (pt rp 0))) (w_val (v := pt rp 13) (y_off (y_fa (ex (pt rp 0)) (ShaRT.fa90_6 _ _)) ro) (w_val (v := pt rp (13 + (a + 2))) (y_off (y_ia1 (i := (a + 2)) (ex (pt rp 13)) ei Tryd.underlying86 ShaRT.sz85 om om) ro) (w_val (v := U64 (BitVec.ofNat 64 (Sha.trn true (a + 2)))) (y_ld (ex (pt rp (13 + (a + 2)))) ShaRT.sc85 (r_rp.val om (ng (ng (ng (ng (ng (ng dv)))))))) (w_val (y_bin e6 e6 (shr64 (c := (Sha.trn true (a + 2))) (by rw [BitVec.toNat_ofNat]; omega))) (w_as e6 (nt (wp_seq (region_q ShaRT.mixed kr (q_mv (ex (pt rp 0)) (q_mv e6 (q_mv (ex (pt rp 0)) (q_mv ei (q_val (fun w' hw' => y_nc (ex (pt rp 0))) (q_val (v := pt rp 13) (fun w' hw' => y_off (y_fa (ex (pt rp 0)) (ShaRT.fa90_6 _ _)) ro) (q_val (v := pt rp (13 + a)) (fun w' hw' => y_off (y_ia1 (i := a) (ex (pt rp 13)) ei Tryd.underlying86 ShaRT.sz85 om om) ro) (q_val (v := U64 (BitVec.ofNat 64 (Sha.trn true a))) (fun w' hw' => y_ld (ex (pt rp (13 + a))) ShaRT.sc85 (cls_cell (r_rp.val om (ng (ng (ng (ng (ng (ng dv))))))) r_rp.lt w' hw')) (q_call (v := U64 (Sha.tn true x (Sha.trn true a))) (Tryd.func103) kr rfl (m3 (ex (pt rp 0)) e6 e6) (fun w' hw' => turn_t rp ou g cap bg x (Sha.trn true a) om w' (r_rp.step hw')) (q_mv (ex (pt rp 0)) (q_mv e6 (q_mv (ex (pt rp 0)) (q_mv ei (q_val (fun w' hw' => y_bin ei Ev.c (b_add om)) (q_val (fun w' hw' => y_nc (ex (pt rp 0))) (q_val (v := pt rp 13) (fun w' hw' => y_off (y_fa (ex (pt rp 0)) (ShaRT.fa90_6 _ _)) ro) (q_val (v := pt rp (13 + (a + 1))) (fun w' hw' => y_off (y_ia1 (i := (a + 1)) (ex (pt rp 13)) ei Tryd.underlying86 ShaRT.sz85 om om) ro) (q_val (v := U64 (BitVec.ofNat 64 (Sha.trn true (a + 1)))) (fun w' hw' => y_ld (ex (pt rp (13 + (a + 1)))) ShaRT.sc85 (cls_cell (r_rp.val om (ng (ng (ng (ng (ng (ng dv))))))) r_rp.lt w' hw')) (q_call (v := U64 (Sha.tn true x (Sha.trn true (a + 1)))) (Tryd.func103) kr rfl (m3 (ex (pt rp 0)) e6 e6) (fun w' hw' => turn_t rp ou g cap bg x (Sha.trn true (a + 1)) om w' (r_rp.step hw')) ?_)))))))))))))))))))))))))))))))))))))))
 refine q_val (fun w' hw' => y_bin e6 e6 xor64) (q_mv e6 (q_val (fun w' hw' => y_bin e6 e6 xor64) (q_as e6 (q_nil ?_))))
 intro w3 hb4
 replace r_rp := r_rp.step hb4
 replace hk := thenB hk hb4
 refine then_n (wp_ret (fin_ret1 rfl e6 ?_))
 refine ⟨congrArg Ending.returned ?_, hk⟩
 show (U64 (((Sha.tn true x (Sha.trn true a)) ^^^ (Sha.tn true x (Sha.trn true (a + 1)))) ^^^ (x >>> (Sha.trn true (a + 2)))) : Value) = U64 (Sha.th true x a true)
 rfl

theorem three_tf (rp ou g cap : Nat) (bg : Nat → BitVec 64) (x : BitVec 64) (a : Nat) (ha : a + 2 < 12) (w0 : World) (r_rp : Row w0 rp 90 25 (Sha.rrow (.int .i64 256) (.int .i64 ((ou : Nat) : Int)) (.int .i64 64) (.int .i64 64) (.slice (some ⟨g, 0, none⟩) 64 cap) bg (fun i => U64 (BitVec.ofNat 64 (Sha.trn true i))))) : Calls Tryd.prog 94 #[pt rp 0, U64 x, .int .i64 ((a : Nat) : Int), .bool false] w0 fun e w' => e = .returned (U64 (Sha.th true x a false)) ∧ Below w0.heap.size w0 w' := by
 have ht0 := Sha.trn_le a
 have ht1 := Sha.trn_le (a + 1)
 have ht2 := Sha.trn_le (a + 2)
 refine enter (n := 52) Tryd.func94 rfl rfl rfl ?_
 have hk : Below w0.heap.size w0 w0 := Below.refl _ _
 have lt_rp := r_rp.lt
 refine sr (w_as (evc (U64 (0#64))) (nt (sr (w_mv (ex (pt rp 0)) (w_mv e6 (w_mv (ex (pt rp 0)) (w_mv ei (w_val (y_bin ei Ev.c (b_add om)) (w_val (y_nc (ex (pt rp 0))) (w_val (v := pt rp 13) (y_off (y_fa (ex (pt rp 0)) (ShaRT.fa90_6 _ _)) ro) (w_val (v := pt rp (13 + (a + 2))) (y_off (y_ia1 (i := (a + 2)) (ex (pt rp 13)) ei Tryd.underlying86 ShaRT.sz85 om om) ro) (w_val (v := U64 (BitVec.ofNat 64 (Sha.trn true (a + 2)))) (y_ld (ex (pt rp (13 + (a + 2)))) ShaRT.sc85 (r_rp.val om (ng (ng (ng (ng (ng (ng dv)))))))) (w_call (Tryd.func103) kr rfl (m3 (ex (pt rp 0)) e6 e6) (turn_t rp ou g cap bg x (Sha.trn true (a + 2)) om w0 r_rp) ?_)))))))))))))
 rintro _ w1 ⟨rfl, hb2⟩
 refine ⟨_, rfl, ?_⟩
 replace r_rp := r_rp.step hb2
 replace hk := thenB hk hb2
 refine w_as e6 (nt (wp_seq (sr (w_mv eb (nt (c_ff eb (wp_skip (then_n (wp_seq (region_q ShaRT.mixed kr (q_mv (ex (pt rp 0)) (q_mv e6 (q_mv (ex (pt rp 0)) (q_mv ei (q_val (fun w' hw' => y_nc (ex (pt rp 0))) (q_val (v := pt rp 13) (fun w' hw' => y_off (y_fa (ex (pt rp 0)) (ShaRT.fa90_6 _ _)) ro) (q_val (v := pt rp (13 + a)) (fun w' hw' => y_off (y_ia1 (i := a) (ex (pt rp 13)) ei Tryd.underlying86 ShaRT.sz85 om om) ro) (q_val (v := U64 (BitVec.ofNat 64 (Sha.trn true a))) (fun w' hw' => y_ld (ex (pt rp (13 + a))) ShaRT.sc85 (cls_cell (r_rp.val om (ng (ng (ng (ng (ng (ng dv))))))) r_rp.lt w' hw')) (q_call (v := U64 (Sha.tn true x (Sha.trn true a))) (Tryd.func103) kr rfl (m3 (ex (pt rp 0)) e6 e6) (fun w' hw' => turn_t rp ou g cap bg x (Sha.trn true a) om w' (r_rp.step hw')) (q_mv (ex (pt rp 0)) (q_mv e6 (q_mv (ex (pt rp 0)) (q_mv ei (q_val (fun w' hw' => y_bin ei Ev.c (b_add om)) (q_val (fun w' hw' => y_nc (ex (pt rp 0))) (q_val (v := pt rp 13) (fun w' hw' => y_off (y_fa (ex (pt rp 0)) (ShaRT.fa90_6 _ _)) ro) (q_val (v := pt rp (13 + (a + 1))) (fun w' hw' => y_off (y_ia1 (i := (a + 1)) (ex (pt rp 13)) ei Tryd.underlying86 ShaRT.sz85 om om) ro) (q_val (v := U64 (BitVec.ofNat 64 (Sha.trn true (a + 1)))) (fun w' hw' => y_ld (ex (pt rp (13 + (a + 1)))) ShaRT.sc85 (cls_cell (r_rp.val om (ng (ng (ng (ng (ng (ng dv))))))) r_rp.lt w' hw')) (q_call (v := U64 (Sha.tn true x (Sha.trn true (a + 1)))) (Tryd.func103) kr rfl (m3 (ex (pt rp 0)) e6 e6) (fun w' hw' => turn_t rp ou g cap bg x (Sha.trn true (a + 1)) om w' (r_rp.step hw')) (q_val (fun w' hw' => y_bin e6 e6 xor64) (q_mv e6 (q_val (fun w' hw' => y_bin e6 e6 xor64) (q_as e6 (q_nil ?_))))))))))))))))))))))))))))))))))
 intro w3 hb4
 replace r_rp := r_rp.step hb4
 replace hk := thenB hk hb4
 refine then_n (wp_ret (fin_ret1 rfl e6 ?_))
 refine ⟨congrArg Ending.returned ?_, hk⟩
 show (U64 (((Sha.tn true x (Sha.trn true a)) ^^^ (Sha.tn true x (Sha.trn true (a + 1)))) ^^^ (Sha.tn true x (Sha.trn true (a + 2)))) : Value) = U64 (Sha.th true x a false)
 rfl

theorem block_t (rp ou g cap : Nat) (bg : Nat → BitVec 64) (hh : Nat → BitVec 64) (s : List (BitVec 8)) (hs : s.length = 64) (w0 : World) (r_rp : Row w0 rp 90 25 (Sha.rrow (.int .i64 256) (.int .i64 ((ou : Nat) : Int)) (.int .i64 64) (.int .i64 64) (.slice (some ⟨g, 0, none⟩) 64 cap) bg (fun i => U64 (BitVec.ofNat 64 (Sha.trn true i))))) (r_g : Row w0 g 58 64 (fun j => U64 (Sha.K true j))) : Calls Tryd.prog 78 #[pt rp 0, .agg (arr 8 (fun j => U64 (hh j))), .string (str s)] w0 fun e w' => e = .returned (.agg (arr 8 (fun j => U64 (Sha.comp true (gb s) hh j)))) ∧ Below w0.heap.size w0 w' := by
 refine enter (n := 183) Tryd.func78 rfl rfl rfl ?_
 have hk : Below w0.heap.size w0 w0 := Below.refl _ _
 have lt_rp := r_rp.lt
 have lt_g := r_g.lt
 refine sr (w_box (m := 8) (F := fun j => U64 (hh j)) ea rfl ?_)
 intro b_h w1 hbe_b_h r_b_h hb2
 have ne_rp_b_h := r_rp.nb hbe_b_h
 have ne_g_b_h := r_g.nb hbe_b_h
 have ge_b_h := gb_ hk.size hbe_b_h
 clear hbe_b_h
 replace r_rp := r_rp.step hb2
 replace r_g := r_g.step hb2
 replace hk := thenB hk hb2
 refine w_alloc (m := 8) (F := fun j => U64 (0#64)) kr ?_
 intro b_6 w3 hbe_b_6 r_b_6 hb4
 have ne_rp_b_6 := r_rp.nb hbe_b_6
 have ne_g_b_6 := r_g.nb hbe_b_6
 have ne_b_h_b_6 := r_b_h.nb hbe_b_6
 have ge_b_6 := gb_ hk.size hbe_b_6
 clear hbe_b_6
 replace r_rp := r_rp.step hb4
 replace r_g := r_g.step hb4
 replace r_b_h := r_b_h.step hb4
 replace hk := thenB hk hb4
 refine nt (sr (w_as Ev.c (nt (sr (w_mv (ex (pt rp 0)) (w_val (y_nc (ex (pt rp 0))) (w_val (v := pt rp 2) (y_off (y_fa (ex (pt rp 0)) (ShaRT.fa90_2 _ _)) ro) (w_val (v := .int .i64 64) (y_ld (ex (pt rp 2)) ShaRT.sc3 (r_rp.val om (ng (ng pz)))) (w_val (y_bin ei Ev.c (b_quo om)) (w_as ei (nt (wp_seq (sr (w_as Ev.c (nt (wp_block ?_))))))))))))))))
 refine c_loop (fun dN aN wl => ∃ (i : Nat) (va : Value), dN = (64 - i) ∧ ∃ f5, aN = fr 183 f5 ∧ (i ≤ 64) ∧ f5 0 = pt rp 0 ∧ f5 2 = .string (str s) ∧ f5 4 = pt b_h 0 ∧ f5 6 = pt b_6 0 ∧ f5 7 = va ∧ f5 8 = .int .i64 4 ∧ f5 9 = .int .i64 ((i : Nat) : Int) ∧ Row wl rp 90 25 (Sha.rrow (.int .i64 256) (.int .i64 ((ou : Nat) : Int)) (.int .i64 64) (.int .i64 64) (.slice (some ⟨g, 0, none⟩) 64 cap) bg (fun i => U64 (BitVec.ofNat 64 (Sha.trn true i)))) ∧ Row wl g 58 64 (fun j => U64 (Sha.K true j)) ∧ Row wl b_h 88 8 (fun j => U64 (hh j)) ∧ Row wl b_6 88 8 (fun j => U64 (0#64)) ∧ Own wl w0.heap.size 58 1 va i (fun j => U64 (Sha.w true (gb s) j)) ∧ va.ownBlock ≠ some rp ∧ va.ownBlock ≠ some g ∧ va.ownBlock ≠ some b_h ∧ va.ownBlock ≠ some b_6 ∧ Below w0.heap.size w0 wl) (64 - 0) ?_ ?_
 · exact ⟨0, (.slice none 0 0), rfl, _, rfl, iv, rfl, rfl, rfl, rfl, (etv (b := .slice none 0 0) rfl), rfl, ti, r_rp, r_g, r_b_h, r_b_6, Own.nil, (fun e => by cases e), (fun e => by cases e), (fun e => by cases e), (fun e => by cases e), hk⟩
 ·skip
  clear r_rp r_g r_b_h r_b_6 hk
  rintro _ _ w6 ⟨i, va, rfl, f5, rfl, i1_0, s1_0, s1_2, s1_4, s1_6, s1_7, s1_8, s1_9, r_rp, r_g, r_b_h, r_b_6, o_va, no_va_rp, no_va_g, no_va_b_h, no_va_b_6, hk⟩
  refine wp_seq (sr (w_mv (ei s1_9) (w_mv (ex (pt rp 0) s1_0) (w_val (y_nc (ex (pt rp 0))) (w_val (v := pt rp 3) (y_off (y_fa (ex (pt rp 0)) (ShaRT.fa90_3 _ _)) ro) (w_val (v := .int .i64 64) (y_ld (ex (pt rp 3)) ShaRT.sc3 (r_rp.val om (ng (ng (ng pz))))) (w_val (y_bin ei ei b_lss) (nt ?_))))))))
  refine c_if (p := ((i : Nat) : Int) < 64) eb (fun hc7 => ?_) (fun hc7 => ?_)
  ·skip
   refine wp_skip (then_n (wp_seq (wp_block (sr (w_as (evc (U64 (0#64))) (nt (wp_seq (sr (w_mv (ei s1_9) (w_val (y_bin ei Ev.c b_lss) (nt ?_)))))))))))
   refine c_if (p := ((i : Nat) : Int) < 16) eb (fun hc8 => ?_) (fun hc8 => ?_)
   ·skip
    refine sr (w_as Ev.c (nt (wp_block ?_)))
    refine c_loop (fun dN aN wl => ∃ (k : Nat) (vb : Value), dN = (4 - k) ∧ ∃ f9, aN = fr 183 f9 ∧ (k ≤ 4) ∧ f9 0 = pt rp 0 ∧ f9 2 = .string (str s) ∧ f9 4 = pt b_h 0 ∧ f9 6 = pt b_6 0 ∧ f9 7 = vb ∧ f9 8 = .int .i64 4 ∧ f9 9 = .int .i64 ((i : Nat) : Int) ∧ f9 10 = U64 (Sha.bw (fun j => gb s (4 * i + j)) k) ∧ f9 11 = .int .i64 ((k : Nat) : Int) ∧ Row wl rp 90 25 (Sha.rrow (.int .i64 256) (.int .i64 ((ou : Nat) : Int)) (.int .i64 64) (.int .i64 64) (.slice (some ⟨g, 0, none⟩) 64 cap) bg (fun i => U64 (BitVec.ofNat 64 (Sha.trn true i)))) ∧ Row wl g 58 64 (fun j => U64 (Sha.K true j)) ∧ Row wl b_h 88 8 (fun j => U64 (hh j)) ∧ Row wl b_6 88 8 (fun j => U64 (0#64)) ∧ Own wl w0.heap.size 58 1 vb i (fun j => U64 (Sha.w true (gb s) j)) ∧ vb.ownBlock ≠ some rp ∧ vb.ownBlock ≠ some g ∧ vb.ownBlock ≠ some b_h ∧ vb.ownBlock ≠ some b_6 ∧ Below w0.heap.size w0 wl) (4 - 0) ?_ ?_
    · exact ⟨0, va, rfl, _, rfl, iv, s1_0, s1_2, s1_4, s1_6, (Eq.trans (b := va) s1_7 dv), s1_8, s1_9, (Eq.trans (b := U64 (0#64)) rfl (by rfl)), ti, r_rp, r_g, r_b_h, r_b_6, o_va, no_va_rp, no_va_g, no_va_b_h, no_va_b_6, hk⟩
    ·skip
     clear r_rp r_g r_b_h r_b_6 o_va hk
     rintro _ _ w10 ⟨k, vb, rfl, f9, rfl, i2_0, s2_0, s2_2, s2_4, s2_6, s2_7, s2_8, s2_9, s2_10, s2_11, r_rp, r_g, r_b_h, r_b_6, o_vb, no_vb_rp, no_vb_g, no_vb_b_h, no_vb_b_6, hk⟩
     refine wp_seq (sr (w_mv (ei s2_11) (w_mv (ei s2_8) (w_val (y_bin ei ei b_lss) (nt ?_)))))
     refine c_if (p := ((k : Nat) : Int) < 4) eb (fun hc11 => ?_) (fun hc11 => ?_)
     ·skip
      refine wp_skip (then_n (wp_seq (wp_block (wp_region_lit (w_mv (e6 s2_10) (w_val (y_bin e6 (evc (U64 (256#64))) mul64) (w_mv (es s2_2) (w_mv (ei s2_8) (w_mv (ei s2_9) (w_val (y_bin ei ei (b_mul om)) (w_mv (ei s2_11) (w_val (y_bin ei ei (b_add om)) (w_val (v := U8 (gb s ((4 * i) + k))) (y_idx (ex (.string (str s))) ei Tryd.underlying9 om om) (w_val (y_u8_u64 e8 ShaRT.so5 Tryd.underlying58) (w_val (y_bin e6 e6 add64) (w_as e6 (wpList_nil (inb_n (then_n (wp_region_lit (w_mv (ei s2_11) (w_val (y_bin ei Ev.c (b_add om)) (w_as ei (wpList_nil ?_))))))))))))))))))))))))
      exact then_n ⟨_, om, k + 1, vb, rfl, _, rfl, iv, s2_0, s2_2, s2_4, s2_6, s2_7, s2_8, s2_9, (Eq.trans (b := U64 (((Sha.bw (fun j => gb s (4 * i + j)) k) * (256#64)) + ((gb s ((4 * i) + k)).setWidth 64))) rfl (by rfl)), ti, r_rp, r_g, r_b_h, r_b_6, o_vb, no_vb_rp, no_vb_g, no_vb_b_h, no_vb_b_6, hk⟩
     ·skip
      refine wp_exit (then_x (then_x (inb_x (then_n (wp_region_lit (w_mv (ex vb s2_7) (w_mv (e6 s2_10) (w_bs1 (m := 1) (e := 58) (F := fun j => U64 (Sha.bw (fun j => gb s (4 * i + j)) k)) e6 (fun w => by kernel_rfl) ?_))))))))
      intro b_81 w12 hbe_b_81 r_b_81 hb13
      have ne_rp_b_81 := r_rp.nb hbe_b_81
      have ne_g_b_81 := r_g.nb hbe_b_81
      have ne_b_h_b_81 := r_b_h.nb hbe_b_81
      have ne_b_6_b_81 := r_b_6.nb hbe_b_81
      have no_vb_b_81 : vb.ownBlock ≠ some b_81 := o_vb.apart om
      have ge_b_81 := gb_ hk.size hbe_b_81
      clear hbe_b_81
      replace o_vb := o_vb.step hb13
      replace r_rp := r_rp.step hb13
      replace r_g := r_g.step hb13
      replace r_b_h := r_b_h.step hb13
      replace r_b_6 := r_b_6.step hb13
      replace hk := thenB hk hb13
      refine w_app (k := i) (m := 1) (size := 1) (bytes := 8) (ex vb) el Tryd.underlying87 kr (by decide) o_vb hk.size r_b_81 om oca (by simp only [maxLen]; omega) om ?_
      intro v14 w15 o_v14 hg16 hv17
      have no_v14_rp := no_new no_vb_rp r_rp.lt hv17
      replace r_rp := r_rp.stepO hg16 no_vb_rp
      have no_v14_g := no_new no_vb_g r_g.lt hv17
      replace r_g := r_g.stepO hg16 no_vb_g
      have no_v14_b_h := no_new no_vb_b_h r_b_h.lt hv17
      replace r_b_h := r_b_h.stepO hg16 no_vb_b_h
      have no_v14_b_6 := no_new no_vb_b_6 r_b_6.lt hv17
      replace r_b_6 := r_b_6.stepO hg16 no_vb_b_6
      have no_v14_b_81 := no_new no_vb_b_81 r_b_81.lt hv17
      replace r_b_81 := r_b_81.stepO hg16 no_vb_b_81
      replace hk := thenO hk hg16 (fun g e => (o_vb.block_lt g e).2)
      clear o_vb
      refine w_as (ex v14) (wpList_nil (inb_n (then_n (wp_region_lit (w_mv (ei s2_9) (w_val (y_bin ei Ev.c (b_add om)) (w_as ei (wpList_nil ?_))))))))
      exact then_n ⟨_, om, i + 1, v14, rfl, _, rfl, iv, s2_0, s2_2, s2_4, s2_6, rfl, s2_8, ti, (r_rp.cg), r_g, r_b_h, r_b_6, (own_n (o_v14.congr (fun j hj => by (try dsimp only); by_cases e : j < i * 1; (rw [if_pos e]); (rw [if_neg e, show j = i from by omega]; first | exact congrArg U64 (Sha.w_lo_k true (gb s) i k om (by show k = 4; omega)).symm | exact congrArg U64 (Sha.w_hi true (gb s) i om).symm))) om), no_v14_rp, no_v14_g, no_v14_b_h, no_v14_b_6, hk⟩
   ·skip
    obtain ⟨g18, cap18, hv18, ge_g18, hc_g18, hob_g18, r_g18⟩ := o_va.opened om
    have ne_rp_g18 : rp ≠ g18 := fun e => no_va_rp (by rw [hob_g18, e])
    have ne_g_g18 : g ≠ g18 := fun e => no_va_g (by rw [hob_g18, e])
    have ne_b_h_g18 : b_h ≠ g18 := fun e => no_va_b_h (by rw [hob_g18, e])
    have ne_b_6_g18 : b_6 ≠ g18 := fun e => no_va_b_6 (by rw [hob_g18, e])
    refine region_q ShaRT.mixed kr (q_mv (ex (pt rp 0) s1_0) (q_mv (ex (pt rp 0) s1_0) (q_mv (ex va s1_7) (q_mv (ei s1_9) (q_val (fun w' hw' => y_bin ei Ev.c (b_sub om)) (q_val (fun w' hw' => y_is1z (i := (i - 2)) (ex (.slice (some ⟨g18, 0, none⟩) i cap18) (Eq.trans (b := va) rfl hv18)) ei Tryd.underlying87 ShaRT.sz58 om om) (q_val (v := U64 (Sha.w true (gb s) (i - 2))) (fun w' hw' => y_ld (ex (pt g18 (i - 2))) ShaRT.sc58 (cls_cell (r_g18.val om rfl) r_g18.lt w' hw')) (q_call (v := U64 (Sha.th true (Sha.w true (gb s) (i - 2)) 3 true)) (Tryd.func94) kr rfl (m4 (ex (pt rp 0)) e6 Ev.c Ev.c) (fun w' hw' => three_tt rp ou g cap bg (Sha.w true (gb s) (i - 2)) 3 om w' (r_rp.step hw')) (q_mv (ex va s1_7) (q_mv (ei s1_9) (q_val (fun w' hw' => y_bin ei Ev.c (b_sub om)) (q_val (fun w' hw' => y_is1z (i := (i - 7)) (ex (.slice (some ⟨g18, 0, none⟩) i cap18) (Eq.trans (b := va) rfl hv18)) ei Tryd.underlying87 ShaRT.sz58 om om) (q_val (v := U64 (Sha.w true (gb s) (i - 7))) (fun w' hw' => y_ld (ex (pt g18 (i - 7))) ShaRT.sc58 (cls_cell (r_g18.val om rfl) r_g18.lt w' hw')) (q_val (fun w' hw' => y_bin e6 e6 add64) (q_mv (ex (pt rp 0) s1_0) (q_mv (ex va s1_7) (q_mv (ei s1_9) (q_val (fun w' hw' => y_bin ei Ev.c (b_sub om)) (q_val (fun w' hw' => y_is1z (i := (i - 15)) (ex (.slice (some ⟨g18, 0, none⟩) i cap18) (Eq.trans (b := va) rfl hv18)) ei Tryd.underlying87 ShaRT.sz58 om om) (q_val (v := U64 (Sha.w true (gb s) (i - 15))) (fun w' hw' => y_ld (ex (pt g18 (i - 15))) ShaRT.sc58 (cls_cell (r_g18.val om rfl) r_g18.lt w' hw')) (q_call (v := U64 (Sha.th true (Sha.w true (gb s) (i - 15)) 0 true)) (Tryd.func94) kr rfl (m4 (ex (pt rp 0)) e6 Ev.c Ev.c) (fun w' hw' => three_tt rp ou g cap bg (Sha.w true (gb s) (i - 15)) 0 om w' (r_rp.step hw')) (q_val (fun w' hw' => y_bin e6 e6 add64) (q_mv (ex va s1_7) (q_mv (ei s1_9) (q_val (fun w' hw' => y_bin ei Ev.c (b_sub om)) (q_val (fun w' hw' => y_is1z (i := (i - 16)) (ex (.slice (some ⟨g18, 0, none⟩) i cap18) (Eq.trans (b := va) rfl hv18)) ei Tryd.underlying87 ShaRT.sz58 om om) (q_val (v := U64 (Sha.w true (gb s) (i - 16))) (fun w' hw' => y_ld (ex (pt g18 (i - 16))) ShaRT.sc58 (cls_cell (r_g18.val om rfl) r_g18.lt w' hw')) (q_val (fun w' hw' => y_bin e6 e6 add64) (q_call (v := U64 (Sha.wd true ((((Sha.th true (Sha.w true (gb s) (i - 2)) 3 true) + (Sha.w true (gb s) (i - 7))) + (Sha.th true (Sha.w true (gb s) (i - 15)) 0 true)) + (Sha.w true (gb s) (i - 16))))) (Tryd.func93) kr rfl (m2 (ex (pt rp 0)) e6) (fun w' hw' => word_t rp ou g cap bg ((((Sha.th true (Sha.w true (gb s) (i - 2)) 3 true) + (Sha.w true (gb s) (i - 7))) + (Sha.th true (Sha.w true (gb s) (i - 15)) 0 true)) + (Sha.w true (gb s) (i - 16))) w' (r_rp.step hw')) (q_as e6 (q_nil ?_)))))))))))))))))))))))))))))))
    intro w19 hb20
    replace o_va := o_va.step hb20
    replace r_rp := r_rp.step hb20
    replace r_g := r_g.step hb20
    replace r_b_h := r_b_h.step hb20
    replace r_b_6 := r_b_6.step hb20
    replace r_g18 := r_g18.step hb20
    replace hk := thenB hk hb20
    refine then_n (wp_region_lit (w_mv (ex va s1_7) (w_mv e6 (w_bs1 (m := 1) (e := 58) (F := fun j => U64 (Sha.wd true ((((Sha.th true (Sha.w true (gb s) (i - 2)) 3 true) + (Sha.w true (gb s) (i - 7))) + (Sha.th true (Sha.w true (gb s) (i - 15)) 0 true)) + (Sha.w true (gb s) (i - 16))))) e6 (fun w => by kernel_rfl) ?_))))
    intro b_81 w21 hbe_b_81 r_b_81 hb22
    have ne_rp_b_81 := r_rp.nb hbe_b_81
    have ne_g_b_81 := r_g.nb hbe_b_81
    have ne_b_h_b_81 := r_b_h.nb hbe_b_81
    have ne_b_6_b_81 := r_b_6.nb hbe_b_81
    have ne_g18_b_81 := r_g18.nb hbe_b_81
    have no_va_b_81 : va.ownBlock ≠ some b_81 := o_va.apart om
    have ge_b_81 := gb_ hk.size hbe_b_81
    clear hbe_b_81
    replace o_va := o_va.step hb22
    replace r_rp := r_rp.step hb22
    replace r_g := r_g.step hb22
    replace r_b_h := r_b_h.step hb22
    replace r_b_6 := r_b_6.step hb22
    replace r_g18 := r_g18.step hb22
    replace hk := thenB hk hb22
    clear r_g18
    refine w_app (k := i) (m := 1) (size := 1) (bytes := 8) (ex va) el Tryd.underlying87 kr (by decide) o_va hk.size r_b_81 om oca (by simp only [maxLen]; omega) om ?_
    intro v23 w24 o_v23 hg25 hv26
    have no_v23_rp := no_new no_va_rp r_rp.lt hv26
    replace r_rp := r_rp.stepO hg25 no_va_rp
    have no_v23_g := no_new no_va_g r_g.lt hv26
    replace r_g := r_g.stepO hg25 no_va_g
    have no_v23_b_h := no_new no_va_b_h r_b_h.lt hv26
    replace r_b_h := r_b_h.stepO hg25 no_va_b_h
    have no_v23_b_6 := no_new no_va_b_6 r_b_6.lt hv26
    replace r_b_6 := r_b_6.stepO hg25 no_va_b_6
    have no_v23_b_81 := no_new no_va_b_81 r_b_81.lt hv26
    replace r_b_81 := r_b_81.stepO hg25 no_va_b_81
    replace hk := thenO hk hg25 (fun g e => (o_va.block_lt g e).2)
    clear o_va
    refine w_as (ex v23) (wpList_nil (inb_n (then_n (wp_region_lit (w_mv (ei s1_9) (w_val (y_bin ei Ev.c (b_add om)) (w_as ei (wpList_nil ?_))))))))
    exact then_n ⟨_, om, i + 1, v23, rfl, _, rfl, iv, s1_0, s1_2, s1_4, s1_6, rfl, s1_8, ti, (r_rp.cg), r_g, r_b_h, r_b_6, (own_n (o_v23.congr (fun j hj => by (try dsimp only); by_cases e : j < i * 1; (rw [if_pos e]); (rw [if_neg e, show j = i from by omega]; first | exact congrArg U64 (Sha.w_lo_k true (gb s) i k om (by show k = 4; omega)).symm | exact congrArg U64 (Sha.w_hi true (gb s) i om).symm))) om), no_v23_rp, no_v23_g, no_v23_b_h, no_v23_b_6, hk⟩
  ·skip
   refine wp_exit (then_x (then_x (inb_x (then_n (sr (w_val (v := .agg (arr 8 (fun j => U64 (hh j)))) (y_lda (ex (pt b_h 0) s1_4) ShaRT.ag88 ShaRT.sz88 (fun j hj => by rw [Nat.zero_add]; exact (r_b_h.cell om))) (w_alloc (m := 8) (F := fun j => U64 (0#64)) kr ?_)))))))
   intro b_v w27 hbe_b_v r_b_v hb28
   have ne_rp_b_v := r_rp.nb hbe_b_v
   have ne_g_b_v := r_g.nb hbe_b_v
   have ne_b_h_b_v := r_b_h.nb hbe_b_v
   have ne_b_6_b_v := r_b_6.nb hbe_b_v
   have no_va_b_v : va.ownBlock ≠ some b_v := o_va.apart om
   have ge_b_v := gb_ hk.size hbe_b_v
   clear hbe_b_v
   replace o_va := o_va.step hb28
   replace r_rp := r_rp.step hb28
   replace r_g := r_g.step hb28
   replace r_b_h := r_b_h.step hb28
   replace r_b_6 := r_b_6.step hb28
   replace hk := thenB hk hb28
   refine w_sta (k := 8) (G := fun j => U64 (hh j)) (ex (pt b_v 0)) ea oc ShaRT.sz88 r_b_v om ?_
   clear r_b_v; intro w29 r_b_v hg30 _
   replace r_b_v := r_b_v.congr (g := fun j => U64 (hh j)) (fun j hj => by rw [if_pos ⟨Nat.zero_le _, by omega⟩]; first | rfl | (simp only [Nat.sub_zero]))
   replace o_va := o_va.stepG hg30 no_va_b_v
   replace r_rp := r_rp.stepG hg30 om
   replace r_g := r_g.stepG hg30 om
   replace r_b_h := r_b_h.stepG hg30 om
   replace r_b_6 := r_b_6.stepG hg30 om
   replace hk := thenG hk hg30 om
   refine nt (wp_seq (sr (w_as Ev.c (nt (wp_block ?_)))))
   refine c_loop (fun dN aN wl => ∃ (t : Nat) (vc : Value), dN = (64 - t) ∧ ∃ f31, aN = fr 183 f31 ∧ (t ≤ 64) ∧ f31 0 = pt rp 0 ∧ f31 4 = pt b_h 0 ∧ f31 6 = pt b_6 0 ∧ f31 7 = vc ∧ f31 12 = pt b_v 0 ∧ f31 13 = .int .i64 ((t : Nat) : Int) ∧ Row wl rp 90 25 (Sha.rrow (.int .i64 256) (.int .i64 ((ou : Nat) : Int)) (.int .i64 64) (.int .i64 64) (.slice (some ⟨g, 0, none⟩) 64 cap) bg (fun i => U64 (BitVec.ofNat 64 (Sha.trn true i)))) ∧ Row wl g 58 64 (fun j => U64 (Sha.K true j)) ∧ Row wl b_h 88 8 (fun j => U64 (hh j)) ∧ Row wl b_6 88 8 (fun j => U64 (0#64)) ∧ Row wl b_v 88 8 (fun j => U64 (Sha.vs true (gb s) hh t j)) ∧ Own wl w0.heap.size 58 1 vc 64 (fun j => U64 (Sha.w true (gb s) j)) ∧ vc.ownBlock ≠ some rp ∧ vc.ownBlock ≠ some g ∧ vc.ownBlock ≠ some b_h ∧ vc.ownBlock ≠ some b_6 ∧ vc.ownBlock ≠ some b_v ∧ Below w0.heap.size w0 wl) (64 - 0) ?_ ?_
   · exact ⟨0, va, rfl, _, rfl, iv, s1_0, s1_4, s1_6, (Eq.trans (b := va) s1_7 dv), rfl, ti, r_rp, r_g, r_b_h, r_b_6, (r_b_v.congr (fun j hj => by rfl)), (own_n (o_va.cg) om), no_va_rp, no_va_g, no_va_b_h, no_va_b_6, no_va_b_v, hk⟩
   ·skip
    clear r_rp r_g r_b_h r_b_6 r_b_v o_va hk
    rintro _ _ w32 ⟨t, vc, rfl, f31, rfl, i3_0, s3_0, s3_4, s3_6, s3_7, s3_12, s3_13, r_rp, r_g, r_b_h, r_b_6, r_b_v, o_vc, no_vc_rp, no_vc_g, no_vc_b_h, no_vc_b_6, no_vc_b_v, hk⟩
    refine wp_seq (sr (w_mv (ei s3_13) (w_mv (ex (pt rp 0) s3_0) (w_val (y_nc (ex (pt rp 0))) (w_val (v := pt rp 3) (y_off (y_fa (ex (pt rp 0)) (ShaRT.fa90_3 _ _)) ro) (w_val (v := .int .i64 64) (y_ld (ex (pt rp 3)) ShaRT.sc3 (r_rp.val om (ng (ng (ng pz))))) (w_val (y_bin ei ei b_lss) (nt ?_))))))))
    refine c_if (p := ((t : Nat) : Int) < 64) eb (fun hc33 => ?_) (fun hc33 => ?_)
    ·skip
     refine wp_skip (then_n (wp_seq (wp_block (sr (w_val (y_ia1z (i := 4) (ex (pt b_v 0) s3_12) Ev.c Tryd.underlying88 ShaRT.sz58 om om) (w_val (v := U64 (Sha.vs true (gb s) hh t 4)) (y_ld (ex (pt b_v 4)) ShaRT.sc58 (r_b_v.val om rfl)) (w_as e6 (nt (sr (w_val (y_ia1z (i := 0) (ex (pt b_v 0) s3_12) Ev.c Tryd.underlying88 ShaRT.sz58 om om) (w_val (v := U64 (Sha.vs true (gb s) hh t 0)) (y_ld (ex (pt b_v 0)) ShaRT.sc58 (r_b_v.val om rfl)) (w_as e6 (nt (wp_seq ?_))))))))))))))
     obtain ⟨g34, cap34, hv34, ge_g34, hc_g34, hob_g34, r_g34⟩ := o_vc.opened om
     have ne_rp_g34 : rp ≠ g34 := fun e => no_vc_rp (by rw [hob_g34, e])
     have ne_g_g34 : g ≠ g34 := fun e => no_vc_g (by rw [hob_g34, e])
     have ne_b_h_g34 : b_h ≠ g34 := fun e => no_vc_b_h (by rw [hob_g34, e])
     have ne_b_6_g34 : b_6 ≠ g34 := fun e => no_vc_b_6 (by rw [hob_g34, e])
     have ne_b_v_g34 : b_v ≠ g34 := fun e => no_vc_b_v (by rw [hob_g34, e])
     refine region_q ShaRT.mixed kr (q_val (fun w' hw' => y_ia1z (i := 7) (ex (pt b_v 0) s3_12) Ev.c Tryd.underlying88 ShaRT.sz58 om om) (q_val (v := U64 (Sha.vs true (gb s) hh t 7)) (fun w' hw' => y_ld (ex (pt b_v 7)) ShaRT.sc58 (cls_cell (r_b_v.val om rfl) r_b_v.lt w' hw')) (q_mv (ex (pt rp 0) s3_0) (q_mv e6 (q_call (v := U64 (Sha.th true (Sha.vs true (gb s) hh t 4) 9 false)) (Tryd.func94) kr rfl (m4 (ex (pt rp 0)) e6 Ev.c Ev.c) (fun w' hw' => three_tf rp ou g cap bg (Sha.vs true (gb s) hh t 4) 9 om w' (r_rp.step hw')) (q_val (fun w' hw' => y_bin e6 e6 add64) (q_mv e6 (q_val (fun w' hw' => y_ia1z (i := 5) (ex (pt b_v 0) s3_12) Ev.c Tryd.underlying88 ShaRT.sz58 om om) (q_val (v := U64 (Sha.vs true (gb s) hh t 5)) (fun w' hw' => y_ld (ex (pt b_v 5)) ShaRT.sc58 (cls_cell (r_b_v.val om rfl) r_b_v.lt w' hw')) (q_val (fun w' hw' => y_bin e6 e6 and64) (q_mv e6 (q_val (v := U64 (~~~(Sha.vs true (gb s) hh t 4))) (fun w' hw' => y_not64 e6) (q_val (fun w' hw' => y_ia1z (i := 6) (ex (pt b_v 0) s3_12) Ev.c Tryd.underlying88 ShaRT.sz58 om om) (q_val (v := U64 (Sha.vs true (gb s) hh t 6)) (fun w' hw' => y_ld (ex (pt b_v 6)) ShaRT.sc58 (cls_cell (r_b_v.val om rfl) r_b_v.lt w' hw')) (q_val (fun w' hw' => y_bin e6 e6 and64) (q_val (fun w' hw' => y_bin e6 e6 xor64) (q_val (fun w' hw' => y_bin e6 e6 add64) (q_mv (ex (pt rp 0) s3_0) (q_val (fun w' hw' => y_nc (ex (pt rp 0))) (q_val (v := pt rp 4) (fun w' hw' => y_off (y_fa (ex (pt rp 0)) (ShaRT.fa90_4 _ _)) ro) (q_val (v := .slice (some ⟨g, 0, none⟩) 64 cap) (fun w' hw' => y_ld (ex (pt rp 4)) ShaRT.sc87 (cls_cell (r_rp.val om (ng (ng (ng (ng pz))))) r_rp.lt w' hw')) (q_mv (ei s3_13) (q_val (fun w' hw' => y_is1z (i := t) el ei Tryd.underlying87 ShaRT.sz58 om om) (q_val (v := U64 (Sha.K true t)) (fun w' hw' => y_ld (ex (pt g t)) ShaRT.sc58 (cls_cell (r_g.val om rfl) r_g.lt w' hw')) (q_val (fun w' hw' => y_bin e6 e6 add64) (q_mv (ex vc s3_7) (q_mv (ei s3_13) (q_val (fun w' hw' => y_is1z (i := t) (ex (.slice (some ⟨g34, 0, none⟩) 64 cap34) (Eq.trans (b := vc) rfl hv34)) ei Tryd.underlying87 ShaRT.sz58 om om) (q_val (v := U64 (Sha.w true (gb s) t)) (fun w' hw' => y_ld (ex (pt g34 t)) ShaRT.sc58 (cls_cell (r_g34.val om rfl) r_g34.lt w' hw')) (q_val (fun w' hw' => y_bin e6 e6 add64) (q_as e6 (q_nil ?_))))))))))))))))))))))))))))))))
     intro w35 hb36
     replace o_vc := o_vc.step hb36
     replace r_rp := r_rp.step hb36
     replace r_g := r_g.step hb36
     replace r_b_h := r_b_h.step hb36
     replace r_b_6 := r_b_6.step hb36
     replace r_b_v := r_b_v.step hb36
     replace r_g34 := r_g34.step hb36
     replace hk := thenB hk hb36
     refine then_n (wp_seq (region_q ShaRT.mixed kr (q_mv (ex (pt rp 0) s3_0) (q_mv e6 (q_call (v := U64 (Sha.th true (Sha.vs true (gb s) hh t 0) 6 false)) (Tryd.func94) kr rfl (m4 (ex (pt rp 0)) e6 Ev.c Ev.c) (fun w' hw' => three_tf rp ou g cap bg (Sha.vs true (gb s) hh t 0) 6 om w' (r_rp.step hw')) (q_mv e6 (q_val (fun w' hw' => y_ia1z (i := 1) (ex (pt b_v 0) s3_12) Ev.c Tryd.underlying88 ShaRT.sz58 om om) (q_val (v := U64 (Sha.vs true (gb s) hh t 1)) (fun w' hw' => y_ld (ex (pt b_v 1)) ShaRT.sc58 (cls_cell (r_b_v.val om rfl) r_b_v.lt w' hw')) (q_val (fun w' hw' => y_bin e6 e6 and64) (q_mv e6 (q_val (fun w' hw' => y_ia1z (i := 2) (ex (pt b_v 0) s3_12) Ev.c Tryd.underlying88 ShaRT.sz58 om om) (q_val (v := U64 (Sha.vs true (gb s) hh t 2)) (fun w' hw' => y_ld (ex (pt b_v 2)) ShaRT.sc58 (cls_cell (r_b_v.val om rfl) r_b_v.lt w' hw')) (q_val (fun w' hw' => y_bin e6 e6 and64) (q_val (fun w' hw' => y_bin e6 e6 xor64) (q_val (fun w' hw' => y_ia1z (i := 1) (ex (pt b_v 0) s3_12) Ev.c Tryd.underlying88 ShaRT.sz58 om om) (q_val (v := U64 (Sha.vs true (gb s) hh t 1)) (fun w' hw' => y_ld (ex (pt b_v 1)) ShaRT.sc58 (cls_cell (r_b_v.val om rfl) r_b_v.lt w' hw')) (q_val (fun w' hw' => y_ia1z (i := 2) (ex (pt b_v 0) s3_12) Ev.c Tryd.underlying88 ShaRT.sz58 om om) (q_val (v := U64 (Sha.vs true (gb s) hh t 2)) (fun w' hw' => y_ld (ex (pt b_v 2)) ShaRT.sc58 (cls_cell (r_b_v.val om rfl) r_b_v.lt w' hw')) (q_val (fun w' hw' => y_bin e6 e6 and64) (q_val (fun w' hw' => y_bin e6 e6 xor64) (q_val (fun w' hw' => y_bin e6 e6 add64) (q_as e6 (q_nil ?_)))))))))))))))))))))))
     intro w37 hb38
     replace o_vc := o_vc.step hb38
     replace r_rp := r_rp.step hb38
     replace r_g := r_g.step hb38
     replace r_b_h := r_b_h.step hb38
     replace r_b_6 := r_b_6.step hb38
     replace r_b_v := r_b_v.step hb38
     replace r_g34 := r_g34.step hb38
     replace hk := thenB hk hb38
     refine then_n (region_t 22 ShaRT.mixed kr ?_)
     simp only [List.take_succ_cons, List.take_zero, List.drop_succ_cons, List.drop_zero]
     refine q_mv (ex (pt rp 0) s3_0) (q_mv e6 (q_mv e6 (q_val (fun w' hw' => y_bin e6 e6 add64) (q_call (v := U64 (Sha.wd true ((((((Sha.vs true (gb s) hh t 7) + (Sha.th true (Sha.vs true (gb s) hh t 4) 9 false)) + (((Sha.vs true (gb s) hh t 4) &&& (Sha.vs true (gb s) hh t 5)) ^^^ ((~~~(Sha.vs true (gb s) hh t 4)) &&& (Sha.vs true (gb s) hh t 6)))) + (Sha.K true t)) + (Sha.w true (gb s) t)) + ((Sha.th true (Sha.vs true (gb s) hh t 0) 6 false) + ((((Sha.vs true (gb s) hh t 0) &&& (Sha.vs true (gb s) hh t 1)) ^^^ ((Sha.vs true (gb s) hh t 0) &&& (Sha.vs true (gb s) hh t 2))) ^^^ ((Sha.vs true (gb s) hh t 1) &&& (Sha.vs true (gb s) hh t 2))))))) (Tryd.func93) kr rfl (m2 (ex (pt rp 0)) e6) (fun w' hw' => word_t rp ou g cap bg ((((((Sha.vs true (gb s) hh t 7) + (Sha.th true (Sha.vs true (gb s) hh t 4) 9 false)) + (((Sha.vs true (gb s) hh t 4) &&& (Sha.vs true (gb s) hh t 5)) ^^^ ((~~~(Sha.vs true (gb s) hh t 4)) &&& (Sha.vs true (gb s) hh t 6)))) + (Sha.K true t)) + (Sha.w true (gb s) t)) + ((Sha.th true (Sha.vs true (gb s) hh t 0) 6 false) + ((((Sha.vs true (gb s) hh t 0) &&& (Sha.vs true (gb s) hh t 1)) ^^^ ((Sha.vs true (gb s) hh t 0) &&& (Sha.vs true (gb s) hh t 2))) ^^^ ((Sha.vs true (gb s) hh t 1) &&& (Sha.vs true (gb s) hh t 2))))) w' (r_rp.step hw')) (q_mv e6 (q_val (fun w' hw' => y_ia1z (i := 1) (ex (pt b_v 0) s3_12) Ev.c Tryd.underlying88 ShaRT.sz58 om om) (q_val (v := U64 (Sha.vs true (gb s) hh t 1)) (fun w' hw' => y_ld (ex (pt b_v 1)) ShaRT.sc58 (cls_cell (r_b_v.val om rfl) r_b_v.lt w' hw')) (q_val (fun w' hw' => y_ia1z (i := 2) (ex (pt b_v 0) s3_12) Ev.c Tryd.underlying88 ShaRT.sz58 om om) (q_val (v := U64 (Sha.vs true (gb s) hh t 2)) (fun w' hw' => y_ld (ex (pt b_v 2)) ShaRT.sc58 (cls_cell (r_b_v.val om rfl) r_b_v.lt w' hw')) (q_mv (ex (pt rp 0) s3_0) (q_val (fun w' hw' => y_ia1z (i := 3) (ex (pt b_v 0) s3_12) Ev.c Tryd.underlying88 ShaRT.sz58 om om) (q_val (v := U64 (Sha.vs true (gb s) hh t 3)) (fun w' hw' => y_ld (ex (pt b_v 3)) ShaRT.sc58 (cls_cell (r_b_v.val om rfl) r_b_v.lt w' hw')) (q_mv e6 (q_val (fun w' hw' => y_bin e6 e6 add64) (q_call (v := U64 (Sha.wd true ((Sha.vs true (gb s) hh t 3) + (((((Sha.vs true (gb s) hh t 7) + (Sha.th true (Sha.vs true (gb s) hh t 4) 9 false)) + (((Sha.vs true (gb s) hh t 4) &&& (Sha.vs true (gb s) hh t 5)) ^^^ ((~~~(Sha.vs true (gb s) hh t 4)) &&& (Sha.vs true (gb s) hh t 6)))) + (Sha.K true t)) + (Sha.w true (gb s) t))))) (Tryd.func93) kr rfl (m2 (ex (pt rp 0)) e6) (fun w' hw' => word_t rp ou g cap bg ((Sha.vs true (gb s) hh t 3) + (((((Sha.vs true (gb s) hh t 7) + (Sha.th true (Sha.vs true (gb s) hh t 4) 9 false)) + (((Sha.vs true (gb s) hh t 4) &&& (Sha.vs true (gb s) hh t 5)) ^^^ ((~~~(Sha.vs true (gb s) hh t 4)) &&& (Sha.vs true (gb s) hh t 6)))) + (Sha.K true t)) + (Sha.w true (gb s) t))) w' (r_rp.step hw')) (q_mv e6 (q_val (fun w' hw' => y_ia1z (i := 5) (ex (pt b_v 0) s3_12) Ev.c Tryd.underlying88 ShaRT.sz58 om om) (q_val (v := U64 (Sha.vs true (gb s) hh t 5)) (fun w' hw' => y_ld (ex (pt b_v 5)) ShaRT.sc58 (cls_cell (r_b_v.val om rfl) r_b_v.lt w' hw')) (q_val (fun w' hw' => y_ia1z (i := 6) (ex (pt b_v 0) s3_12) Ev.c Tryd.underlying88 ShaRT.sz58 om om) (q_val (v := U64 (Sha.vs true (gb s) hh t 6)) (fun w' hw' => y_ld (ex (pt b_v 6)) ShaRT.sc58 (cls_cell (r_b_v.val om rfl) r_b_v.lt w' hw')) (q_val (v := .agg (arr 8 (fun j => if j < 1 then U64 (Sha.wd true ((((((Sha.vs true (gb s) hh t 7) + (Sha.th true (Sha.vs true (gb s) hh t 4) 9 false)) + (((Sha.vs true (gb s) hh t 4) &&& (Sha.vs true (gb s) hh t 5)) ^^^ ((~~~(Sha.vs true (gb s) hh t 4)) &&& (Sha.vs true (gb s) hh t 6)))) + (Sha.K true t)) + (Sha.w true (gb s) t)) + ((Sha.th true (Sha.vs true (gb s) hh t 0) 6 false) + ((((Sha.vs true (gb s) hh t 0) &&& (Sha.vs true (gb s) hh t 1)) ^^^ ((Sha.vs true (gb s) hh t 0) &&& (Sha.vs true (gb s) hh t 2))) ^^^ ((Sha.vs true (gb s) hh t 1) &&& (Sha.vs true (gb s) hh t 2)))))) else if j < 2 then U64 (Sha.vs true (gb s) hh t 0) else if j < 3 then U64 (Sha.vs true (gb s) hh t 1) else if j < 4 then U64 (Sha.vs true (gb s) hh t 2) else if j < 5 then U64 (Sha.wd true ((Sha.vs true (gb s) hh t 3) + (((((Sha.vs true (gb s) hh t 7) + (Sha.th true (Sha.vs true (gb s) hh t 4) 9 false)) + (((Sha.vs true (gb s) hh t 4) &&& (Sha.vs true (gb s) hh t 5)) ^^^ ((~~~(Sha.vs true (gb s) hh t 4)) &&& (Sha.vs true (gb s) hh t 6)))) + (Sha.K true t)) + (Sha.w true (gb s) t)))) else if j < 6 then U64 (Sha.vs true (gb s) hh t 4) else if j < 7 then U64 (Sha.vs true (gb s) hh t 5) else U64 (Sha.vs true (gb s) hh t 6)))) (fun w' hw' => y_build (vs := #[(0, U64 (Sha.wd true ((((((Sha.vs true (gb s) hh t 7) + (Sha.th true (Sha.vs true (gb s) hh t 4) 9 false)) + (((Sha.vs true (gb s) hh t 4) &&& (Sha.vs true (gb s) hh t 5)) ^^^ ((~~~(Sha.vs true (gb s) hh t 4)) &&& (Sha.vs true (gb s) hh t 6)))) + (Sha.K true t)) + (Sha.w true (gb s) t)) + ((Sha.th true (Sha.vs true (gb s) hh t 0) 6 false) + ((((Sha.vs true (gb s) hh t 0) &&& (Sha.vs true (gb s) hh t 1)) ^^^ ((Sha.vs true (gb s) hh t 0) &&& (Sha.vs true (gb s) hh t 2))) ^^^ ((Sha.vs true (gb s) hh t 1) &&& (Sha.vs true (gb s) hh t 2))))))), (1, U64 (Sha.vs true (gb s) hh t 0)), (2, U64 (Sha.vs true (gb s) hh t 1)), (3, U64 (Sha.vs true (gb s) hh t 2)), (4, U64 (Sha.wd true ((Sha.vs true (gb s) hh t 3) + (((((Sha.vs true (gb s) hh t 7) + (Sha.th true (Sha.vs true (gb s) hh t 4) 9 false)) + (((Sha.vs true (gb s) hh t 4) &&& (Sha.vs true (gb s) hh t 5)) ^^^ ((~~~(Sha.vs true (gb s) hh t 4)) &&& (Sha.vs true (gb s) hh t 6)))) + (Sha.K true t)) + (Sha.w true (gb s) t))))), (5, U64 (Sha.vs true (gb s) hh t 4)), (6, U64 (Sha.vs true (gb s) hh t 5)), (7, U64 (Sha.vs true (gb s) hh t 6))]) (mp_cons e6 (mp_cons e6 (mp_cons e6 (mp_cons e6 (mp_cons e6 (mp_cons e6 (mp_cons e6 (mp_cons e6 mp0)))))))) (fun w => by kernel_rfl)) (q_nil ?_))))))))))))))))))))))
     intro w39 hb40
     replace o_vc := o_vc.step hb40
     replace r_rp := r_rp.step hb40
     replace r_g := r_g.step hb40
     replace r_b_h := r_b_h.step hb40
     replace r_b_6 := r_b_6.step hb40
     replace r_b_v := r_b_v.step hb40
     replace r_g34 := r_g34.step hb40
     replace hk := thenB hk hb40
     refine w_sta (k := 8) (G := fun j => if j < 1 then U64 (Sha.wd true ((((((Sha.vs true (gb s) hh t 7) + (Sha.th true (Sha.vs true (gb s) hh t 4) 9 false)) + (((Sha.vs true (gb s) hh t 4) &&& (Sha.vs true (gb s) hh t 5)) ^^^ ((~~~(Sha.vs true (gb s) hh t 4)) &&& (Sha.vs true (gb s) hh t 6)))) + (Sha.K true t)) + (Sha.w true (gb s) t)) + ((Sha.th true (Sha.vs true (gb s) hh t 0) 6 false) + ((((Sha.vs true (gb s) hh t 0) &&& (Sha.vs true (gb s) hh t 1)) ^^^ ((Sha.vs true (gb s) hh t 0) &&& (Sha.vs true (gb s) hh t 2))) ^^^ ((Sha.vs true (gb s) hh t 1) &&& (Sha.vs true (gb s) hh t 2)))))) else if j < 2 then U64 (Sha.vs true (gb s) hh t 0) else if j < 3 then U64 (Sha.vs true (gb s) hh t 1) else if j < 4 then U64 (Sha.vs true (gb s) hh t 2) else if j < 5 then U64 (Sha.wd true ((Sha.vs true (gb s) hh t 3) + (((((Sha.vs true (gb s) hh t 7) + (Sha.th true (Sha.vs true (gb s) hh t 4) 9 false)) + (((Sha.vs true (gb s) hh t 4) &&& (Sha.vs true (gb s) hh t 5)) ^^^ ((~~~(Sha.vs true (gb s) hh t 4)) &&& (Sha.vs true (gb s) hh t 6)))) + (Sha.K true t)) + (Sha.w true (gb s) t)))) else if j < 6 then U64 (Sha.vs true (gb s) hh t 4) else if j < 7 then U64 (Sha.vs true (gb s) hh t 5) else U64 (Sha.vs true (gb s) hh t 6)) (ex (pt b_v 0) s3_12) ea oc ShaRT.sz88 r_b_v om ?_
     clear r_b_v; intro w41 r_b_v hg42 _
     replace r_b_v := r_b_v.congr (g := fun j => if j < 1 then U64 (Sha.wd true ((((((Sha.vs true (gb s) hh t 7) + (Sha.th true (Sha.vs true (gb s) hh t 4) 9 false)) + (((Sha.vs true (gb s) hh t 4) &&& (Sha.vs true (gb s) hh t 5)) ^^^ ((~~~(Sha.vs true (gb s) hh t 4)) &&& (Sha.vs true (gb s) hh t 6)))) + (Sha.K true t)) + (Sha.w true (gb s) t)) + ((Sha.th true (Sha.vs true (gb s) hh t 0) 6 false) + ((((Sha.vs true (gb s) hh t 0) &&& (Sha.vs true (gb s) hh t 1)) ^^^ ((Sha.vs true (gb s) hh t 0) &&& (Sha.vs true (gb s) hh t 2))) ^^^ ((Sha.vs true (gb s) hh t 1) &&& (Sha.vs true (gb s) hh t 2)))))) else if j < 2 then U64 (Sha.vs true (gb s) hh t 0) else if j < 3 then U64 (Sha.vs true (gb s) hh t 1) else if j < 4 then U64 (Sha.vs true (gb s) hh t 2) else if j < 5 then U64 (Sha.wd true ((Sha.vs true (gb s) hh t 3) + (((((Sha.vs true (gb s) hh t 7) + (Sha.th true (Sha.vs true (gb s) hh t 4) 9 false)) + (((Sha.vs true (gb s) hh t 4) &&& (Sha.vs true (gb s) hh t 5)) ^^^ ((~~~(Sha.vs true (gb s) hh t 4)) &&& (Sha.vs true (gb s) hh t 6)))) + (Sha.K true t)) + (Sha.w true (gb s) t)))) else if j < 6 then U64 (Sha.vs true (gb s) hh t 4) else if j < 7 then U64 (Sha.vs true (gb s) hh t 5) else U64 (Sha.vs true (gb s) hh t 6)) (fun j hj => by rw [if_pos ⟨Nat.zero_le _, by omega⟩]; first | rfl | (simp only [Nat.sub_zero]))
     replace o_vc := o_vc.stepG hg42 no_vc_b_v
     replace r_rp := r_rp.stepG hg42 om
     replace r_g := r_g.stepG hg42 om
     replace r_b_h := r_b_h.stepG hg42 om
     replace r_b_6 := r_b_6.stepG hg42 om
     replace r_g34 := r_g34.stepG hg42 om
     replace hk := thenG hk hg42 om
     refine wpList_nil (inb_n (then_n (wp_region_lit (w_mv (ei s3_13) (w_val (y_bin ei Ev.c (b_add om)) (w_as ei (wpList_nil ?_)))))))
     exact then_n ⟨_, om, t + 1, vc, rfl, _, rfl, iv, s3_0, s3_4, s3_6, s3_7, s3_12, ti, r_rp, r_g, r_b_h, r_b_6, (r_b_v.congr (fun j hj => by exact Sha.rnd_row true (gb s) hh t j hj _ _ rfl rfl)), o_vc, no_vc_rp, no_vc_g, no_vc_b_h, no_vc_b_6, no_vc_b_v, hk⟩
    ·skip
     refine wp_exit (then_x ?_)
     replace r_b_v := r_b_v.congr (g := fun j => U64 (Sha.vs true (gb s) hh 64 j)) (fun j hj => by rw [show t = 64 from by omega])
     refine then_x (inb_x (then_n (wp_seq (sr (w_as Ev.c (nt (wp_block ?_)))))))
     refine c_loop (fun dN aN wl => ∃ (q : Nat) (vd : Value), dN = (8 - q) ∧ ∃ f43, aN = fr 183 f43 ∧ (q ≤ 8) ∧ f43 0 = pt rp 0 ∧ f43 4 = pt b_h 0 ∧ f43 6 = pt b_6 0 ∧ f43 7 = vd ∧ f43 12 = pt b_v 0 ∧ f43 18 = .int .i64 ((q : Nat) : Int) ∧ Row wl rp 90 25 (Sha.rrow (.int .i64 256) (.int .i64 ((ou : Nat) : Int)) (.int .i64 64) (.int .i64 64) (.slice (some ⟨g, 0, none⟩) 64 cap) bg (fun i => U64 (BitVec.ofNat 64 (Sha.trn true i)))) ∧ Row wl g 58 64 (fun j => U64 (Sha.K true j)) ∧ Row wl b_h 88 8 (fun j => if j < q then (fun j => U64 (Sha.comp true (gb s) hh j)) j else (fun j => U64 (hh j)) j) ∧ Row wl b_6 88 8 (fun j => U64 (0#64)) ∧ Row wl b_v 88 8 (fun j => U64 (Sha.vs true (gb s) hh 64 j)) ∧ Own wl w0.heap.size 58 1 vd 64 (fun j => U64 (Sha.w true (gb s) j)) ∧ vd.ownBlock ≠ some rp ∧ vd.ownBlock ≠ some g ∧ vd.ownBlock ≠ some b_h ∧ vd.ownBlock ≠ some b_6 ∧ vd.ownBlock ≠ some b_v ∧ Below w0.heap.size w0 wl) (8 - 0) ?_ ?_
     · exact ⟨0, vc, rfl, _, rfl, iv, s3_0, s3_4, s3_6, (Eq.trans (b := vc) s3_7 dv), s3_12, ti, r_rp, r_g, (r_b_h.cg), r_b_6, r_b_v, o_vc, no_vc_rp, no_vc_g, no_vc_b_h, no_vc_b_6, no_vc_b_v, hk⟩
     ·skip
      clear r_rp r_g r_b_h r_b_6 r_b_v o_vc hk
      rintro _ _ w44 ⟨q, vd, rfl, f43, rfl, i4_0, s4_0, s4_4, s4_6, s4_7, s4_12, s4_18, r_rp, r_g, r_b_h, r_b_6, r_b_v, o_vd, no_vd_rp, no_vd_g, no_vd_b_h, no_vd_b_6, no_vd_b_v, hk⟩
      refine wp_seq (sr (w_mv (ei s4_18) (w_val (y_bin ei Ev.c b_lss) (nt ?_))))
      refine c_if (p := ((q : Nat) : Int) < 8) eb (fun hc45 => ?_) (fun hc45 => ?_)
      ·skip
       refine wp_skip (then_n (wp_seq (wp_block (region_t 11 ShaRT.mixed kr ?_))))
       simp only [List.take_succ_cons, List.take_zero, List.drop_succ_cons, List.drop_zero]
       refine q_mv (ei s4_18) (q_mv (ex (pt rp 0) s4_0) (q_mv (ei s4_18) (q_val (fun w' hw' => y_ia1z (i := q) (ex (pt b_h 0) s4_4) ei Tryd.underlying88 ShaRT.sz58 om om) (q_val (v := U64 (hh q)) (fun w' hw' => y_ld (ex (pt b_h q)) ShaRT.sc58 (cls_cell (r_b_h.val om (ng rfl)) r_b_h.lt w' hw')) (q_mv (ei s4_18) (q_val (fun w' hw' => y_ia1z (i := q) (ex (pt b_v 0) s4_12) ei Tryd.underlying88 ShaRT.sz58 om om) (q_val (v := U64 (Sha.vs true (gb s) hh 64 q)) (fun w' hw' => y_ld (ex (pt b_v q)) ShaRT.sc58 (cls_cell (r_b_v.val om rfl) r_b_v.lt w' hw')) (q_val (fun w' hw' => y_bin e6 e6 add64) (q_call (v := U64 (Sha.wd true ((hh q) + (Sha.vs true (gb s) hh 64 q)))) (Tryd.func93) kr rfl (m2 (ex (pt rp 0)) e6) (fun w' hw' => word_t rp ou g cap bg ((hh q) + (Sha.vs true (gb s) hh 64 q)) w' (r_rp.step hw')) (q_val (fun w' hw' => y_ia1z (i := q) (ex (pt b_h 0) s4_4) ei Tryd.underlying88 ShaRT.sz58 om om) (q_nil ?_)))))))))))
       intro w46 hb47
       replace o_vd := o_vd.step hb47
       replace r_rp := r_rp.step hb47
       replace r_g := r_g.step hb47
       replace r_b_h := r_b_h.step hb47
       replace r_b_6 := r_b_6.step hb47
       replace r_b_v := r_b_v.step hb47
       replace hk := thenB hk hb47
       refine w_st (v := U64 (Sha.wd true ((hh q) + (Sha.vs true (gb s) hh 64 q)))) (ex (pt b_h q)) e6 rfl rfl ShaRT.sz58 r_b_h om ?_
       clear r_b_h; intro w48 r_b_h hg49 _
       replace o_vd := o_vd.stepG hg49 no_vd_b_h
       replace r_rp := r_rp.stepG hg49 om
       replace r_g := r_g.stepG hg49 om
       replace r_b_6 := r_b_6.stepG hg49 om
       replace r_b_v := r_b_v.stepG hg49 om
       replace hk := thenG hk hg49 om
       refine wpList_nil (inb_n (then_n (wp_region_lit (w_mv (ei s4_18) (w_val (y_bin ei Ev.c (b_add om)) (w_as ei (wpList_nil ?_)))))))
       exact then_n ⟨_, om, q + 1, vd, rfl, _, rfl, iv, s4_0, s4_4, s4_6, s4_7, s4_12, ti, r_rp, r_g, (r_b_h.congr (fun j hj => by (try dsimp only); by_cases e : j = q; (rw [if_pos e, if_pos om, e]; rfl); (rw [if_neg e]; by_cases e2 : j < q; (rw [if_pos e2]; exact (if_pos om).symm); (rw [if_neg e2]; exact (if_neg om).symm)))), r_b_6, r_b_v, o_vd, no_vd_rp, no_vd_g, no_vd_b_h, no_vd_b_6, no_vd_b_v, hk⟩
      ·skip
       refine wp_exit (then_x ?_)
       replace r_b_h := r_b_h.congr (g := fun j => U64 (Sha.comp true (gb s) hh j)) (fun j hj => by (try dsimp only); rw [if_pos om])
       refine then_x (inb_x (then_n (sr (w_val (v := .agg (arr 8 (fun j => U64 (Sha.comp true (gb s) hh j)))) (y_lda (ex (pt b_h 0) s4_4) ShaRT.ag88 ShaRT.sz88 (fun j hj => by rw [Nat.zero_add]; exact (r_b_h.cell om))) (w_sta (k := 8) (G := fun j => U64 (Sha.comp true (gb s) hh j)) (ex (pt b_6 0) s4_6) ea oc ShaRT.sz88 r_b_6 om ?_)))))
       clear r_b_6; intro w50 r_b_6 hg51 _
       replace r_b_6 := r_b_6.congr (g := fun j => U64 (Sha.comp true (gb s) hh j)) (fun j hj => by rw [if_pos ⟨Nat.zero_le _, by omega⟩]; first | rfl | (simp only [Nat.sub_zero]))
       replace o_vd := o_vd.stepG hg51 no_vd_b_6
       replace r_rp := r_rp.stepG hg51 om
       replace r_g := r_g.stepG hg51 om
       replace r_b_h := r_b_h.stepG hg51 om
       replace r_b_v := r_b_v.stepG hg51 om
       replace hk := thenG hk hg51 om
       refine nt (wp_ret (fin_arr (F := fun j => U64 (Sha.comp true (gb s) hh j)) rfl (ex (pt b_6 0) s4_6) ShaRT.ag88 ShaRT.sz88 r_b_6 om ?_))
       exact ⟨rfl, hk⟩

theorem word_f (rp ou g cap : Nat) (bg : Nat → BitVec 64) (kd : Int) (hkd : kd ≠ 256) (x : BitVec 64) (w0 : World) (r_rp : Row w0 rp 90 25 (Sha.rrow (.int .i64 kd) (.int .i64 ((ou : Nat) : Int)) (.int .i64 128) (.int .i64 80) (.slice (some ⟨g, 0, none⟩) 80 cap) bg (fun i => U64 (BitVec.ofNat 64 (Sha.trn false i))))) : Calls Tryd.prog 93 #[pt rp 0, U64 x] w0 fun e w' => e = .returned (U64 (Sha.wd false x)) ∧ Below w0.heap.size w0 w' := by
 refine enter (n := 13) Tryd.func93 rfl rfl rfl ?_
 have hk : Below w0.heap.size w0 w0 := Below.refl _ _
 have lt_rp := r_rp.lt
 refine sr (w_as (evc (U64 (0#64))) (nt (wp_seq (sr (w_mv (ex (pt rp 0)) (w_val (y_nc (ex (pt rp 0))) (w_val (v := pt rp 0) (y_off (y_fa (ex (pt rp 0)) (ShaRT.fa90_0 _ _)) ro) (w_val (v := .int .i64 kd) (y_ld (ex (pt rp 0)) ShaRT.sc3 (r_rp.val om pz)) (w_val (y_bin ei Ev.c b_eql) (nt ?_))))))))))
 have hc1 : ¬ (kd = 256) := by exact hkd
 refine c_f (p := kd = 256) eb hc1 (wp_skip (then_n (sr (w_mv e6 (w_as e6 (nt (wp_ret (fin_ret1 rfl e6 ?_))))))))
 refine ⟨congrArg Ending.returned ?_, hk⟩
 show (U64 x : Value) = U64 (Sha.wd false x)
 rfl

theorem turn_f (rp ou g cap : Nat) (bg : Nat → BitVec 64) (kd : Int) (hkd : kd ≠ 256) (x : BitVec 64) (n : Nat) (hn : n ≤ 64) (w0 : World) (r_rp : Row w0 rp 90 25 (Sha.rrow (.int .i64 kd) (.int .i64 ((ou : Nat) : Int)) (.int .i64 128) (.int .i64 80) (.slice (some ⟨g, 0, none⟩) 80 cap) bg (fun i => U64 (BitVec.ofNat 64 (Sha.trn false i))))) : Calls Tryd.prog 103 #[pt rp 0, U64 x, U64 (BitVec.ofNat 64 n)] w0 fun e w' => e = .returned (U64 (Sha.tn false x n)) ∧ Below w0.heap.size w0 w' := by
 refine enter (n := 30) Tryd.func103 rfl rfl rfl ?_
 have hk : Below w0.heap.size w0 w0 := Below.refl _ _
 have lt_rp := r_rp.lt
 refine sr (w_as (evc (U64 (0#64))) (nt (wp_seq (sr (w_mv (ex (pt rp 0)) (w_val (y_nc (ex (pt rp 0))) (w_val (v := pt rp 0) (y_off (y_fa (ex (pt rp 0)) (ShaRT.fa90_0 _ _)) ro) (w_val (v := .int .i64 kd) (y_ld (ex (pt rp 0)) ShaRT.sc3 (r_rp.val om pz)) (w_val (y_bin ei Ev.c b_eql) (nt ?_))))))))))
 have hc1 : ¬ (kd = 256) := by exact hkd
 refine c_f (p := kd = 256) eb hc1 (wp_skip (then_n (sr (w_mv e6 (w_mv e6 (w_val (y_bin e6 e6 (shr64 (c := n) (by rw [BitVec.toNat_ofNat]; omega))) (w_mv e6 (w_mv e6 (w_val (y_bin (evc (U64 (64#64))) e6 sub64) (w_val (y_bin e6 e6 (shl64 (c := (((64#64) - (BitVec.ofNat 64 n)).toNat)) rfl)) (w_val (y_bin e6 e6 or64) (w_as e6 (nt (wp_ret (fin_ret1 rfl e6 ?_)))))))))))))))
 refine ⟨congrArg Ending.returned ?_, hk⟩
 show (U64 ((x >>> n) ||| (x <<< (((64#64) - (BitVec.ofNat 64 n)).toNat))) : Value) = U64 (Sha.tn false x n)
 rw [Sha.sub_ofNat 64 n om om]; rfl

theorem three_ft (rp ou g cap : Nat) (bg : Nat → BitVec 64) (kd : Int) (hkd : kd ≠ 256) (x : BitVec 64) (a : Nat) (ha : a + 2 < 12) (w0 : World) (r_rp : Row w0 rp 90 25 (Sha.rrow (.int .i64 kd) (.int .i64 ((ou : Nat) : Int)) (.int .i64 128) (.int .i64 80) (.slice (some ⟨g, 0, none⟩) 80 cap) bg (fun i => U64 (BitVec.ofNat 64 (Sha.trn false i))))) : Calls Tryd.prog 94 #[pt rp 0, U64 x, .int .i64 ((a : Nat) : Int), .bool true] w0 fun e w' => e = .returned (U64 (Sha.th false x a true)) ∧ Below w0.heap.size w0 w' := by
 have ht0 := Nat.le_of_lt (Sha.trn_lt false a)
 have ht1 := Nat.le_of_lt (Sha.trn_lt false (a + 1))
 have ht2 := Nat.le_of_lt (Sha.trn_lt false (a + 2))
 refine enter (n := 52) Tryd.func94 rfl rfl rfl ?_
 have hk : Below w0.heap.size w0 w0 := Below.refl _ _
 have lt_rp := r_rp.lt
 refine sr (w_as (evc (U64 (0#64))) (nt (sr (w_mv (ex (pt rp 0)) (w_mv e6 (w_mv (ex (pt rp 0)) (w_mv ei (w_val (y_bin ei Ev.c (b_add om)) (w_val (y_nc (ex (pt rp 0))) (w_val (v := pt rp 13) (y_off (y_fa (ex (pt rp 0)) (ShaRT.fa90_6 _ _)) ro) (w_val (v := pt rp (13 + (a + 2))) (y_off (y_ia1 (i := (a + 2)) (ex (pt rp 13)) ei Tryd.underlying86 ShaRT.sz85 om om) ro) (w_val (v := U64 (BitVec.ofNat 64 (Sha.trn false (a + 2)))) (y_ld (ex (pt rp (13 + (a + 2)))) ShaRT.sc85 (r_rp.val om (ng (ng (ng (ng (ng (ng dv)))))))) (w_call (Tryd.func103) kr rfl (m3 (ex (pt rp 0)) e6 e6) (turn_f rp ou g cap bg kd hkd x (Sha.trn false (a + 2)) om w0 r_rp) ?_)))))))))))))
 rintro _ w1 ⟨rfl, hb2⟩
 refine ⟨_, rfl, ?_⟩
 replace r_rp := r_rp.step hb2
 replace hk := thenB hk hb2
 refine w_as e6 (nt (wp_seq (sr (w_mv eb (nt (c_tt eb (wp_region_lit (w_mv e6 (w_mv (ex (pt rp 0)) (w_mv ei (w_val (y_bin ei Ev.c (b_add om)) (w_val (y_nc (ex (pt rp 0))) (w_val (v := pt rp 13) (y_off (y_fa (ex (pt rp 0)) (ShaRT.fa90_6 _ _)) ro) (w_val (v := pt rp (13 + (a + 2))) (y_off (y_ia1 (i := (a + 2)) (ex (pt rp 13)) ei Tryd.underlying86 ShaRT.sz85 om om) ro) (w_val (v := U64 (BitVec.ofNat 64 (Sha.trn false (a + 2)))) (y_ld (ex (pt rp (13 + (a + 2)))) ShaRT.sc85 (r_rp.val om (ng (ng (ng (ng (ng (ng dv)))))))) (w_val (y_bin e6 e6 (shr64 (c := (Sha.trn false (a + 2))) (by rw [BitVec.toNat_ofNat]; omega))) (w_as e6 (nt (wp_seq (region_q ShaRT.mixed kr (q_mv (ex (pt rp 0)) (q_mv e6 (q_mv (ex (pt rp 0)) (q_mv ei (q_val (fun w' hw' => y_nc (ex (pt rp 0))) (q_val (v := pt rp 13) (fun w' hw' => y_off (y_fa (ex (pt rp 0)) (ShaRT.fa90_6 _ _)) ro) (q_val (v := pt rp (13 + a)) (fun w' hw' => y_off (y_ia1 (i := a) (ex (pt rp 13)) ei Tryd.underlying86 ShaRT.sz85 om om) ro) (q_val (v := U64 (BitVec.ofNat 64 (Sha.trn false a))) (fun w' hw' => y_ld (ex (pt rp (13 + a))) ShaRT.sc85 (cls_cell (r_rp.val om (ng (ng (ng (ng (ng (ng dv))))))) r_rp.lt w' hw')) (q_call (v := U64 (Sha.tn false x (Sha.trn false a))) (Tryd.func103) kr rfl (m3 (ex (pt rp 0)) e6 e6) (fun w' hw' => turn_f rp ou g cap bg kd hkd x (Sha.trn false a) om w' (r_rp.step hw')) (q_mv (ex (pt rp 0)) (q_mv e6 (q_mv (ex (pt rp 0)) (q_mv ei (q_val (fun w' hw' => y_bin ei Ev.c (b_add om)) (q_val (fun w' hw' => y_nc (ex (pt rp 0))) (q_val (v := pt rp 13) (fun w' hw' => y_off (y_fa (ex (pt rp 0)) (ShaRT.fa90_6 _ _)) ro) (q_val (v := pt rp (13 + (a + 1))) (fun w' hw' => y_off (y_ia1 (i := (a + 1)) (ex (pt rp 13)) ei Tryd.underlying86 ShaRT.sz85 om om) ro) (q_val (v := U64 (BitVec.ofNat 64 (Sha.trn false (a + 1)))) (fun w' hw' => y_ld (ex (pt rp (13 + (a + 1)))) ShaRT.sc85 (cls_cell (r_rp.val om (ng (ng (ng (ng (ng (ng dv))))))) r_rp.lt w' hw')) (q_call (v := U64 (Sha.tn false x (Sha.trn false (a + 1)))) (Tryd.func103) kr rfl (m3 (ex (pt rp 0)) e6 e6) (fun w' hw' => turn_f rp ou g cap bg kd hkd x (Sha.trn false (a + 1)) om w' (r_rp.step hw')) ?_)))))))))))))))))))))))))))))))))))))))
 refine q_val (fun w' hw' => y_bin e6 e6 xor64) (q_mv e6 (q_val (fun w' hw' => y_bin e6 e6 xor64) (q_as e6 (q_nil ?_))))
 intro w3 hb4
 replace r_rp := r_rp.step hb4
 replace hk := thenB hk hb4
 refine then_n (wp_ret (fin_ret1 rfl e6 ?_))
 refine ⟨congrArg Ending.returned ?_, hk⟩
 show (U64 (((Sha.tn false x (Sha.trn false a)) ^^^ (Sha.tn false x (Sha.trn false (a + 1)))) ^^^ (x >>> (Sha.trn false (a + 2)))) : Value) = U64 (Sha.th false x a true)
 rfl

theorem three_ff (rp ou g cap : Nat) (bg : Nat → BitVec 64) (kd : Int) (hkd : kd ≠ 256) (x : BitVec 64) (a : Nat) (ha : a + 2 < 12) (w0 : World) (r_rp : Row w0 rp 90 25 (Sha.rrow (.int .i64 kd) (.int .i64 ((ou : Nat) : Int)) (.int .i64 128) (.int .i64 80) (.slice (some ⟨g, 0, none⟩) 80 cap) bg (fun i => U64 (BitVec.ofNat 64 (Sha.trn false i))))) : Calls Tryd.prog 94 #[pt rp 0, U64 x, .int .i64 ((a : Nat) : Int), .bool false] w0 fun e w' => e = .returned (U64 (Sha.th false x a false)) ∧ Below w0.heap.size w0 w' := by
 have ht0 := Nat.le_of_lt (Sha.trn_lt false a)
 have ht1 := Nat.le_of_lt (Sha.trn_lt false (a + 1))
 have ht2 := Nat.le_of_lt (Sha.trn_lt false (a + 2))
 refine enter (n := 52) Tryd.func94 rfl rfl rfl ?_
 have hk : Below w0.heap.size w0 w0 := Below.refl _ _
 have lt_rp := r_rp.lt
 refine sr (w_as (evc (U64 (0#64))) (nt (sr (w_mv (ex (pt rp 0)) (w_mv e6 (w_mv (ex (pt rp 0)) (w_mv ei (w_val (y_bin ei Ev.c (b_add om)) (w_val (y_nc (ex (pt rp 0))) (w_val (v := pt rp 13) (y_off (y_fa (ex (pt rp 0)) (ShaRT.fa90_6 _ _)) ro) (w_val (v := pt rp (13 + (a + 2))) (y_off (y_ia1 (i := (a + 2)) (ex (pt rp 13)) ei Tryd.underlying86 ShaRT.sz85 om om) ro) (w_val (v := U64 (BitVec.ofNat 64 (Sha.trn false (a + 2)))) (y_ld (ex (pt rp (13 + (a + 2)))) ShaRT.sc85 (r_rp.val om (ng (ng (ng (ng (ng (ng dv)))))))) (w_call (Tryd.func103) kr rfl (m3 (ex (pt rp 0)) e6 e6) (turn_f rp ou g cap bg kd hkd x (Sha.trn false (a + 2)) om w0 r_rp) ?_)))))))))))))
 rintro _ w1 ⟨rfl, hb2⟩
 refine ⟨_, rfl, ?_⟩
 replace r_rp := r_rp.step hb2
 replace hk := thenB hk hb2
 refine w_as e6 (nt (wp_seq (sr (w_mv eb (nt (c_ff eb (wp_skip (then_n (wp_seq (region_q ShaRT.mixed kr (q_mv (ex (pt rp 0)) (q_mv e6 (q_mv (ex (pt rp 0)) (q_mv ei (q_val (fun w' hw' => y_nc (ex (pt rp 0))) (q_val (v := pt rp 13) (fun w' hw' => y_off (y_fa (ex (pt rp 0)) (ShaRT.fa90_6 _ _)) ro) (q_val (v := pt rp (13 + a)) (fun w' hw' => y_off (y_ia1 (i := a) (ex (pt rp 13)) ei Tryd.underlying86 ShaRT.sz85 om om) ro) (q_val (v := U64 (BitVec.ofNat 64 (Sha.trn false a))) (fun w' hw' => y_ld (ex (pt rp (13 + a))) ShaRT.sc85 (cls_cell (r_rp.val om (ng (ng (ng (ng (ng (ng dv))))))) r_rp.lt w' hw')) (q_call (v := U64 (Sha.tn false x (Sha.trn false a))) (Tryd.func103) kr rfl (m3 (ex (pt rp 0)) e6 e6) (fun w' hw' => turn_f rp ou g cap bg kd hkd x (Sha.trn false a) om w' (r_rp.step hw')) (q_mv (ex (pt rp 0)) (q_mv e6 (q_mv (ex (pt rp 0)) (q_mv ei (q_val (fun w' hw' => y_bin ei Ev.c (b_add om)) (q_val (fun w' hw' => y_nc (ex (pt rp 0))) (q_val (v := pt rp 13) (fun w' hw' => y_off (y_fa (ex (pt rp 0)) (ShaRT.fa90_6 _ _)) ro) (q_val (v := pt rp (13 + (a + 1))) (fun w' hw' => y_off (y_ia1 (i := (a + 1)) (ex (pt rp 13)) ei Tryd.underlying86 ShaRT.sz85 om om) ro) (q_val (v := U64 (BitVec.ofNat 64 (Sha.trn false (a + 1)))) (fun w' hw' => y_ld (ex (pt rp (13 + (a + 1)))) ShaRT.sc85 (cls_cell (r_rp.val om (ng (ng (ng (ng (ng (ng dv))))))) r_rp.lt w' hw')) (q_call (v := U64 (Sha.tn false x (Sha.trn false (a + 1)))) (Tryd.func103) kr rfl (m3 (ex (pt rp 0)) e6 e6) (fun w' hw' => turn_f rp ou g cap bg kd hkd x (Sha.trn false (a + 1)) om w' (r_rp.step hw')) (q_val (fun w' hw' => y_bin e6 e6 xor64) (q_mv e6 (q_val (fun w' hw' => y_bin e6 e6 xor64) (q_as e6 (q_nil ?_))))))))))))))))))))))))))))))))))
 intro w3 hb4
 replace r_rp := r_rp.step hb4
 replace hk := thenB hk hb4
 refine then_n (wp_ret (fin_ret1 rfl e6 ?_))
 refine ⟨congrArg Ending.returned ?_, hk⟩
 show (U64 (((Sha.tn false x (Sha.trn false a)) ^^^ (Sha.tn false x (Sha.trn false (a + 1)))) ^^^ (Sha.tn false x (Sha.trn false (a + 2)))) : Value) = U64 (Sha.th false x a false)
 rfl

theorem block_f (rp ou g cap : Nat) (bg : Nat → BitVec 64) (kd : Int) (hkd : kd ≠ 256) (hh : Nat → BitVec 64) (s : List (BitVec 8)) (hs : s.length = 128) (w0 : World) (r_rp : Row w0 rp 90 25 (Sha.rrow (.int .i64 kd) (.int .i64 ((ou : Nat) : Int)) (.int .i64 128) (.int .i64 80) (.slice (some ⟨g, 0, none⟩) 80 cap) bg (fun i => U64 (BitVec.ofNat 64 (Sha.trn false i))))) (r_g : Row w0 g 58 80 (fun j => U64 (Sha.K false j))) : Calls Tryd.prog 78 #[pt rp 0, .agg (arr 8 (fun j => U64 (hh j))), .string (str s)] w0 fun e w' => e = .returned (.agg (arr 8 (fun j => U64 (Sha.comp false (gb s) hh j)))) ∧ Below w0.heap.size w0 w' := by
 refine enter (n := 183) Tryd.func78 rfl rfl rfl ?_
 have hk : Below w0.heap.size w0 w0 := Below.refl _ _
 have lt_rp := r_rp.lt
 have lt_g := r_g.lt
 refine sr (w_box (m := 8) (F := fun j => U64 (hh j)) ea rfl ?_)
 intro b_h w1 hbe_b_h r_b_h hb2
 have ne_rp_b_h := r_rp.nb hbe_b_h
 have ne_g_b_h := r_g.nb hbe_b_h
 have ge_b_h := gb_ hk.size hbe_b_h
 clear hbe_b_h
 replace r_rp := r_rp.step hb2
 replace r_g := r_g.step hb2
 replace hk := thenB hk hb2
 refine w_alloc (m := 8) (F := fun j => U64 (0#64)) kr ?_
 intro b_6 w3 hbe_b_6 r_b_6 hb4
 have ne_rp_b_6 := r_rp.nb hbe_b_6
 have ne_g_b_6 := r_g.nb hbe_b_6
 have ne_b_h_b_6 := r_b_h.nb hbe_b_6
 have ge_b_6 := gb_ hk.size hbe_b_6
 clear hbe_b_6
 replace r_rp := r_rp.step hb4
 replace r_g := r_g.step hb4
 replace r_b_h := r_b_h.step hb4
 replace hk := thenB hk hb4
 refine nt (sr (w_as Ev.c (nt (sr (w_mv (ex (pt rp 0)) (w_val (y_nc (ex (pt rp 0))) (w_val (v := pt rp 2) (y_off (y_fa (ex (pt rp 0)) (ShaRT.fa90_2 _ _)) ro) (w_val (v := .int .i64 128) (y_ld (ex (pt rp 2)) ShaRT.sc3 (r_rp.val om (ng (ng pz)))) (w_val (y_bin ei Ev.c (b_quo om)) (w_as ei (nt (wp_seq (sr (w_as Ev.c (nt (wp_block ?_))))))))))))))))
 refine c_loop (fun dN aN wl => ∃ (i : Nat) (va : Value), dN = (80 - i) ∧ ∃ f5, aN = fr 183 f5 ∧ (i ≤ 80) ∧ f5 0 = pt rp 0 ∧ f5 2 = .string (str s) ∧ f5 4 = pt b_h 0 ∧ f5 6 = pt b_6 0 ∧ f5 7 = va ∧ f5 8 = .int .i64 8 ∧ f5 9 = .int .i64 ((i : Nat) : Int) ∧ Row wl rp 90 25 (Sha.rrow (.int .i64 kd) (.int .i64 ((ou : Nat) : Int)) (.int .i64 128) (.int .i64 80) (.slice (some ⟨g, 0, none⟩) 80 cap) bg (fun i => U64 (BitVec.ofNat 64 (Sha.trn false i)))) ∧ Row wl g 58 80 (fun j => U64 (Sha.K false j)) ∧ Row wl b_h 88 8 (fun j => U64 (hh j)) ∧ Row wl b_6 88 8 (fun j => U64 (0#64)) ∧ Own wl w0.heap.size 58 1 va i (fun j => U64 (Sha.w false (gb s) j)) ∧ va.ownBlock ≠ some rp ∧ va.ownBlock ≠ some g ∧ va.ownBlock ≠ some b_h ∧ va.ownBlock ≠ some b_6 ∧ Below w0.heap.size w0 wl) (80 - 0) ?_ ?_
 · exact ⟨0, (.slice none 0 0), rfl, _, rfl, iv, rfl, rfl, rfl, rfl, (etv (b := .slice none 0 0) rfl), rfl, ti, r_rp, r_g, r_b_h, r_b_6, Own.nil, (fun e => by cases e), (fun e => by cases e), (fun e => by cases e), (fun e => by cases e), hk⟩
 ·skip
  clear r_rp r_g r_b_h r_b_6 hk
  rintro _ _ w6 ⟨i, va, rfl, f5, rfl, i1_0, s1_0, s1_2, s1_4, s1_6, s1_7, s1_8, s1_9, r_rp, r_g, r_b_h, r_b_6, o_va, no_va_rp, no_va_g, no_va_b_h, no_va_b_6, hk⟩
  refine wp_seq (sr (w_mv (ei s1_9) (w_mv (ex (pt rp 0) s1_0) (w_val (y_nc (ex (pt rp 0))) (w_val (v := pt rp 3) (y_off (y_fa (ex (pt rp 0)) (ShaRT.fa90_3 _ _)) ro) (w_val (v := .int .i64 80) (y_ld (ex (pt rp 3)) ShaRT.sc3 (r_rp.val om (ng (ng (ng pz))))) (w_val (y_bin ei ei b_lss) (nt ?_))))))))
  refine c_if (p := ((i : Nat) : Int) < 80) eb (fun hc7 => ?_) (fun hc7 => ?_)
  ·skip
   refine wp_skip (then_n (wp_seq (wp_block (sr (w_as (evc (U64 (0#64))) (nt (wp_seq (sr (w_mv (ei s1_9) (w_val (y_bin ei Ev.c b_lss) (nt ?_)))))))))))
   refine c_if (p := ((i : Nat) : Int) < 16) eb (fun hc8 => ?_) (fun hc8 => ?_)
   ·skip
    refine sr (w_as Ev.c (nt (wp_block ?_)))
    refine c_loop (fun dN aN wl => ∃ (k : Nat) (vb : Value), dN = (8 - k) ∧ ∃ f9, aN = fr 183 f9 ∧ (k ≤ 8) ∧ f9 0 = pt rp 0 ∧ f9 2 = .string (str s) ∧ f9 4 = pt b_h 0 ∧ f9 6 = pt b_6 0 ∧ f9 7 = vb ∧ f9 8 = .int .i64 8 ∧ f9 9 = .int .i64 ((i : Nat) : Int) ∧ f9 10 = U64 (Sha.bw (fun j => gb s (8 * i + j)) k) ∧ f9 11 = .int .i64 ((k : Nat) : Int) ∧ Row wl rp 90 25 (Sha.rrow (.int .i64 kd) (.int .i64 ((ou : Nat) : Int)) (.int .i64 128) (.int .i64 80) (.slice (some ⟨g, 0, none⟩) 80 cap) bg (fun i => U64 (BitVec.ofNat 64 (Sha.trn false i)))) ∧ Row wl g 58 80 (fun j => U64 (Sha.K false j)) ∧ Row wl b_h 88 8 (fun j => U64 (hh j)) ∧ Row wl b_6 88 8 (fun j => U64 (0#64)) ∧ Own wl w0.heap.size 58 1 vb i (fun j => U64 (Sha.w false (gb s) j)) ∧ vb.ownBlock ≠ some rp ∧ vb.ownBlock ≠ some g ∧ vb.ownBlock ≠ some b_h ∧ vb.ownBlock ≠ some b_6 ∧ Below w0.heap.size w0 wl) (8 - 0) ?_ ?_
    · exact ⟨0, va, rfl, _, rfl, iv, s1_0, s1_2, s1_4, s1_6, (Eq.trans (b := va) s1_7 dv), s1_8, s1_9, (Eq.trans (b := U64 (0#64)) rfl (by rfl)), ti, r_rp, r_g, r_b_h, r_b_6, o_va, no_va_rp, no_va_g, no_va_b_h, no_va_b_6, hk⟩
    ·skip
     clear r_rp r_g r_b_h r_b_6 o_va hk
     rintro _ _ w10 ⟨k, vb, rfl, f9, rfl, i2_0, s2_0, s2_2, s2_4, s2_6, s2_7, s2_8, s2_9, s2_10, s2_11, r_rp, r_g, r_b_h, r_b_6, o_vb, no_vb_rp, no_vb_g, no_vb_b_h, no_vb_b_6, hk⟩
     refine wp_seq (sr (w_mv (ei s2_11) (w_mv (ei s2_8) (w_val (y_bin ei ei b_lss) (nt ?_)))))
     refine c_if (p := ((k : Nat) : Int) < 8) eb (fun hc11 => ?_) (fun hc11 => ?_)
     ·skip
      refine wp_skip (then_n (wp_seq (wp_block (wp_region_lit (w_mv (e6 s2_10) (w_val (y_bin e6 (evc (U64 (256#64))) mul64) (w_mv (es s2_2) (w_mv (ei s2_8) (w_mv (ei s2_9) (w_val (y_bin ei ei (b_mul om)) (w_mv (ei s2_11) (w_val (y_bin ei ei (b_add om)) (w_val (v := U8 (gb s ((8 * i) + k))) (y_idx (ex (.string (str s))) ei Tryd.underlying9 om om) (w_val (y_u8_u64 e8 ShaRT.so5 Tryd.underlying58) (w_val (y_bin e6 e6 add64) (w_as e6 (wpList_nil (inb_n (then_n (wp_region_lit (w_mv (ei s2_11) (w_val (y_bin ei Ev.c (b_add om)) (w_as ei (wpList_nil ?_))))))))))))))))))))))))
      exact then_n ⟨_, om, k + 1, vb, rfl, _, rfl, iv, s2_0, s2_2, s2_4, s2_6, s2_7, s2_8, s2_9, (Eq.trans (b := U64 (((Sha.bw (fun j => gb s (8 * i + j)) k) * (256#64)) + ((gb s ((8 * i) + k)).setWidth 64))) rfl (by rfl)), ti, r_rp, r_g, r_b_h, r_b_6, o_vb, no_vb_rp, no_vb_g, no_vb_b_h, no_vb_b_6, hk⟩
     ·skip
      refine wp_exit (then_x (then_x (inb_x (then_n (wp_region_lit (w_mv (ex vb s2_7) (w_mv (e6 s2_10) (w_bs1 (m := 1) (e := 58) (F := fun j => U64 (Sha.bw (fun j => gb s (8 * i + j)) k)) e6 (fun w => by kernel_rfl) ?_))))))))
      intro b_81 w12 hbe_b_81 r_b_81 hb13
      have ne_rp_b_81 := r_rp.nb hbe_b_81
      have ne_g_b_81 := r_g.nb hbe_b_81
      have ne_b_h_b_81 := r_b_h.nb hbe_b_81
      have ne_b_6_b_81 := r_b_6.nb hbe_b_81
      have no_vb_b_81 : vb.ownBlock ≠ some b_81 := o_vb.apart om
      have ge_b_81 := gb_ hk.size hbe_b_81
      clear hbe_b_81
      replace o_vb := o_vb.step hb13
      replace r_rp := r_rp.step hb13
      replace r_g := r_g.step hb13
      replace r_b_h := r_b_h.step hb13
      replace r_b_6 := r_b_6.step hb13
      replace hk := thenB hk hb13
      refine w_app (k := i) (m := 1) (size := 1) (bytes := 8) (ex vb) el Tryd.underlying87 kr (by decide) o_vb hk.size r_b_81 om oca (by simp only [maxLen]; omega) om ?_
      intro v14 w15 o_v14 hg16 hv17
      have no_v14_rp := no_new no_vb_rp r_rp.lt hv17
      replace r_rp := r_rp.stepO hg16 no_vb_rp
      have no_v14_g := no_new no_vb_g r_g.lt hv17
      replace r_g := r_g.stepO hg16 no_vb_g
      have no_v14_b_h := no_new no_vb_b_h r_b_h.lt hv17
      replace r_b_h := r_b_h.stepO hg16 no_vb_b_h
      have no_v14_b_6 := no_new no_vb_b_6 r_b_6.lt hv17
      replace r_b_6 := r_b_6.stepO hg16 no_vb_b_6
      have no_v14_b_81 := no_new no_vb_b_81 r_b_81.lt hv17
      replace r_b_81 := r_b_81.stepO hg16 no_vb_b_81
      replace hk := thenO hk hg16 (fun g e => (o_vb.block_lt g e).2)
      clear o_vb
      refine w_as (ex v14) (wpList_nil (inb_n (then_n (wp_region_lit (w_mv (ei s2_9) (w_val (y_bin ei Ev.c (b_add om)) (w_as ei (wpList_nil ?_))))))))
      exact then_n ⟨_, om, i + 1, v14, rfl, _, rfl, iv, s2_0, s2_2, s2_4, s2_6, rfl, s2_8, ti, (r_rp.cg), r_g, r_b_h, r_b_6, (own_n (o_v14.congr (fun j hj => by (try dsimp only); by_cases e : j < i * 1; (rw [if_pos e]); (rw [if_neg e, show j = i from by omega]; first | exact congrArg U64 (Sha.w_lo_k false (gb s) i k om (by show k = 8; omega)).symm | exact congrArg U64 (Sha.w_hi false (gb s) i om).symm))) om), no_v14_rp, no_v14_g, no_v14_b_h, no_v14_b_6, hk⟩
   ·skip
    obtain ⟨g18, cap18, hv18, ge_g18, hc_g18, hob_g18, r_g18⟩ := o_va.opened om
    have ne_rp_g18 : rp ≠ g18 := fun e => no_va_rp (by rw [hob_g18, e])
    have ne_g_g18 : g ≠ g18 := fun e => no_va_g (by rw [hob_g18, e])
    have ne_b_h_g18 : b_h ≠ g18 := fun e => no_va_b_h (by rw [hob_g18, e])
    have ne_b_6_g18 : b_6 ≠ g18 := fun e => no_va_b_6 (by rw [hob_g18, e])
    refine region_q ShaRT.mixed kr (q_mv (ex (pt rp 0) s1_0) (q_mv (ex (pt rp 0) s1_0) (q_mv (ex va s1_7) (q_mv (ei s1_9) (q_val (fun w' hw' => y_bin ei Ev.c (b_sub om)) (q_val (fun w' hw' => y_is1z (i := (i - 2)) (ex (.slice (some ⟨g18, 0, none⟩) i cap18) (Eq.trans (b := va) rfl hv18)) ei Tryd.underlying87 ShaRT.sz58 om om) (q_val (v := U64 (Sha.w false (gb s) (i - 2))) (fun w' hw' => y_ld (ex (pt g18 (i - 2))) ShaRT.sc58 (cls_cell (r_g18.val om rfl) r_g18.lt w' hw')) (q_call (v := U64 (Sha.th false (Sha.w false (gb s) (i - 2)) 3 true)) (Tryd.func94) kr rfl (m4 (ex (pt rp 0)) e6 Ev.c Ev.c) (fun w' hw' => three_ft rp ou g cap bg kd hkd (Sha.w false (gb s) (i - 2)) 3 om w' (r_rp.step hw')) (q_mv (ex va s1_7) (q_mv (ei s1_9) (q_val (fun w' hw' => y_bin ei Ev.c (b_sub om)) (q_val (fun w' hw' => y_is1z (i := (i - 7)) (ex (.slice (some ⟨g18, 0, none⟩) i cap18) (Eq.trans (b := va) rfl hv18)) ei Tryd.underlying87 ShaRT.sz58 om om) (q_val (v := U64 (Sha.w false (gb s) (i - 7))) (fun w' hw' => y_ld (ex (pt g18 (i - 7))) ShaRT.sc58 (cls_cell (r_g18.val om rfl) r_g18.lt w' hw')) (q_val (fun w' hw' => y_bin e6 e6 add64) (q_mv (ex (pt rp 0) s1_0) (q_mv (ex va s1_7) (q_mv (ei s1_9) (q_val (fun w' hw' => y_bin ei Ev.c (b_sub om)) (q_val (fun w' hw' => y_is1z (i := (i - 15)) (ex (.slice (some ⟨g18, 0, none⟩) i cap18) (Eq.trans (b := va) rfl hv18)) ei Tryd.underlying87 ShaRT.sz58 om om) (q_val (v := U64 (Sha.w false (gb s) (i - 15))) (fun w' hw' => y_ld (ex (pt g18 (i - 15))) ShaRT.sc58 (cls_cell (r_g18.val om rfl) r_g18.lt w' hw')) (q_call (v := U64 (Sha.th false (Sha.w false (gb s) (i - 15)) 0 true)) (Tryd.func94) kr rfl (m4 (ex (pt rp 0)) e6 Ev.c Ev.c) (fun w' hw' => three_ft rp ou g cap bg kd hkd (Sha.w false (gb s) (i - 15)) 0 om w' (r_rp.step hw')) (q_val (fun w' hw' => y_bin e6 e6 add64) (q_mv (ex va s1_7) (q_mv (ei s1_9) (q_val (fun w' hw' => y_bin ei Ev.c (b_sub om)) (q_val (fun w' hw' => y_is1z (i := (i - 16)) (ex (.slice (some ⟨g18, 0, none⟩) i cap18) (Eq.trans (b := va) rfl hv18)) ei Tryd.underlying87 ShaRT.sz58 om om) (q_val (v := U64 (Sha.w false (gb s) (i - 16))) (fun w' hw' => y_ld (ex (pt g18 (i - 16))) ShaRT.sc58 (cls_cell (r_g18.val om rfl) r_g18.lt w' hw')) (q_val (fun w' hw' => y_bin e6 e6 add64) (q_call (v := U64 (Sha.wd false ((((Sha.th false (Sha.w false (gb s) (i - 2)) 3 true) + (Sha.w false (gb s) (i - 7))) + (Sha.th false (Sha.w false (gb s) (i - 15)) 0 true)) + (Sha.w false (gb s) (i - 16))))) (Tryd.func93) kr rfl (m2 (ex (pt rp 0)) e6) (fun w' hw' => word_f rp ou g cap bg kd hkd ((((Sha.th false (Sha.w false (gb s) (i - 2)) 3 true) + (Sha.w false (gb s) (i - 7))) + (Sha.th false (Sha.w false (gb s) (i - 15)) 0 true)) + (Sha.w false (gb s) (i - 16))) w' (r_rp.step hw')) (q_as e6 (q_nil ?_)))))))))))))))))))))))))))))))
    intro w19 hb20
    replace o_va := o_va.step hb20
    replace r_rp := r_rp.step hb20
    replace r_g := r_g.step hb20
    replace r_b_h := r_b_h.step hb20
    replace r_b_6 := r_b_6.step hb20
    replace r_g18 := r_g18.step hb20
    replace hk := thenB hk hb20
    refine then_n (wp_region_lit (w_mv (ex va s1_7) (w_mv e6 (w_bs1 (m := 1) (e := 58) (F := fun j => U64 (Sha.wd false ((((Sha.th false (Sha.w false (gb s) (i - 2)) 3 true) + (Sha.w false (gb s) (i - 7))) + (Sha.th false (Sha.w false (gb s) (i - 15)) 0 true)) + (Sha.w false (gb s) (i - 16))))) e6 (fun w => by kernel_rfl) ?_))))
    intro b_81 w21 hbe_b_81 r_b_81 hb22
    have ne_rp_b_81 := r_rp.nb hbe_b_81
    have ne_g_b_81 := r_g.nb hbe_b_81
    have ne_b_h_b_81 := r_b_h.nb hbe_b_81
    have ne_b_6_b_81 := r_b_6.nb hbe_b_81
    have ne_g18_b_81 := r_g18.nb hbe_b_81
    have no_va_b_81 : va.ownBlock ≠ some b_81 := o_va.apart om
    have ge_b_81 := gb_ hk.size hbe_b_81
    clear hbe_b_81
    replace o_va := o_va.step hb22
    replace r_rp := r_rp.step hb22
    replace r_g := r_g.step hb22
    replace r_b_h := r_b_h.step hb22
    replace r_b_6 := r_b_6.step hb22
    replace r_g18 := r_g18.step hb22
    replace hk := thenB hk hb22
    clear r_g18
    refine w_app (k := i) (m := 1) (size := 1) (bytes := 8) (ex va) el Tryd.underlying87 kr (by decide) o_va hk.size r_b_81 om oca (by simp only [maxLen]; omega) om ?_
    intro v23 w24 o_v23 hg25 hv26
    have no_v23_rp := no_new no_va_rp r_rp.lt hv26
    replace r_rp := r_rp.stepO hg25 no_va_rp
    have no_v23_g := no_new no_va_g r_g.lt hv26
    replace r_g := r_g.stepO hg25 no_va_g
    have no_v23_b_h := no_new no_va_b_h r_b_h.lt hv26
    replace r_b_h := r_b_h.stepO hg25 no_va_b_h
    have no_v23_b_6 := no_new no_va_b_6 r_b_6.lt hv26
    replace r_b_6 := r_b_6.stepO hg25 no_va_b_6
    have no_v23_b_81 := no_new no_va_b_81 r_b_81.lt hv26
    replace r_b_81 := r_b_81.stepO hg25 no_va_b_81
    replace hk := thenO hk hg25 (fun g e => (o_va.block_lt g e).2)
    clear o_va
    refine w_as (ex v23) (wpList_nil (inb_n (then_n (wp_region_lit (w_mv (ei s1_9) (w_val (y_bin ei Ev.c (b_add om)) (w_as ei (wpList_nil ?_))))))))
    exact then_n ⟨_, om, i + 1, v23, rfl, _, rfl, iv, s1_0, s1_2, s1_4, s1_6, rfl, s1_8, ti, (r_rp.cg), r_g, r_b_h, r_b_6, (own_n (o_v23.congr (fun j hj => by (try dsimp only); by_cases e : j < i * 1; (rw [if_pos e]); (rw [if_neg e, show j = i from by omega]; first | exact congrArg U64 (Sha.w_lo_k false (gb s) i k om (by show k = 8; omega)).symm | exact congrArg U64 (Sha.w_hi false (gb s) i om).symm))) om), no_v23_rp, no_v23_g, no_v23_b_h, no_v23_b_6, hk⟩
  ·skip
   refine wp_exit (then_x (then_x (inb_x (then_n (sr (w_val (v := .agg (arr 8 (fun j => U64 (hh j)))) (y_lda (ex (pt b_h 0) s1_4) ShaRT.ag88 ShaRT.sz88 (fun j hj => by rw [Nat.zero_add]; exact (r_b_h.cell om))) (w_alloc (m := 8) (F := fun j => U64 (0#64)) kr ?_)))))))
   intro b_v w27 hbe_b_v r_b_v hb28
   have ne_rp_b_v := r_rp.nb hbe_b_v
   have ne_g_b_v := r_g.nb hbe_b_v
   have ne_b_h_b_v := r_b_h.nb hbe_b_v
   have ne_b_6_b_v := r_b_6.nb hbe_b_v
   have no_va_b_v : va.ownBlock ≠ some b_v := o_va.apart om
   have ge_b_v := gb_ hk.size hbe_b_v
   clear hbe_b_v
   replace o_va := o_va.step hb28
   replace r_rp := r_rp.step hb28
   replace r_g := r_g.step hb28
   replace r_b_h := r_b_h.step hb28
   replace r_b_6 := r_b_6.step hb28
   replace hk := thenB hk hb28
   refine w_sta (k := 8) (G := fun j => U64 (hh j)) (ex (pt b_v 0)) ea oc ShaRT.sz88 r_b_v om ?_
   clear r_b_v; intro w29 r_b_v hg30 _
   replace r_b_v := r_b_v.congr (g := fun j => U64 (hh j)) (fun j hj => by rw [if_pos ⟨Nat.zero_le _, by omega⟩]; first | rfl | (simp only [Nat.sub_zero]))
   replace o_va := o_va.stepG hg30 no_va_b_v
   replace r_rp := r_rp.stepG hg30 om
   replace r_g := r_g.stepG hg30 om
   replace r_b_h := r_b_h.stepG hg30 om
   replace r_b_6 := r_b_6.stepG hg30 om
   replace hk := thenG hk hg30 om
   refine nt (wp_seq (sr (w_as Ev.c (nt (wp_block ?_)))))
   refine c_loop (fun dN aN wl => ∃ (t : Nat) (vc : Value), dN = (80 - t) ∧ ∃ f31, aN = fr 183 f31 ∧ (t ≤ 80) ∧ f31 0 = pt rp 0 ∧ f31 4 = pt b_h 0 ∧ f31 6 = pt b_6 0 ∧ f31 7 = vc ∧ f31 12 = pt b_v 0 ∧ f31 13 = .int .i64 ((t : Nat) : Int) ∧ Row wl rp 90 25 (Sha.rrow (.int .i64 kd) (.int .i64 ((ou : Nat) : Int)) (.int .i64 128) (.int .i64 80) (.slice (some ⟨g, 0, none⟩) 80 cap) bg (fun i => U64 (BitVec.ofNat 64 (Sha.trn false i)))) ∧ Row wl g 58 80 (fun j => U64 (Sha.K false j)) ∧ Row wl b_h 88 8 (fun j => U64 (hh j)) ∧ Row wl b_6 88 8 (fun j => U64 (0#64)) ∧ Row wl b_v 88 8 (fun j => U64 (Sha.vs false (gb s) hh t j)) ∧ Own wl w0.heap.size 58 1 vc 80 (fun j => U64 (Sha.w false (gb s) j)) ∧ vc.ownBlock ≠ some rp ∧ vc.ownBlock ≠ some g ∧ vc.ownBlock ≠ some b_h ∧ vc.ownBlock ≠ some b_6 ∧ vc.ownBlock ≠ some b_v ∧ Below w0.heap.size w0 wl) (80 - 0) ?_ ?_
   · exact ⟨0, va, rfl, _, rfl, iv, s1_0, s1_4, s1_6, (Eq.trans (b := va) s1_7 dv), rfl, ti, r_rp, r_g, r_b_h, r_b_6, (r_b_v.congr (fun j hj => by rfl)), (own_n (o_va.cg) om), no_va_rp, no_va_g, no_va_b_h, no_va_b_6, no_va_b_v, hk⟩
   ·skip
    clear r_rp r_g r_b_h r_b_6 r_b_v o_va hk
    rintro _ _ w32 ⟨t, vc, rfl, f31, rfl, i3_0, s3_0, s3_4, s3_6, s3_7, s3_12, s3_13, r_rp, r_g, r_b_h, r_b_6, r_b_v, o_vc, no_vc_rp, no_vc_g, no_vc_b_h, no_vc_b_6, no_vc_b_v, hk⟩
    refine wp_seq (sr (w_mv (ei s3_13) (w_mv (ex (pt rp 0) s3_0) (w_val (y_nc (ex (pt rp 0))) (w_val (v := pt rp 3) (y_off (y_fa (ex (pt rp 0)) (ShaRT.fa90_3 _ _)) ro) (w_val (v := .int .i64 80) (y_ld (ex (pt rp 3)) ShaRT.sc3 (r_rp.val om (ng (ng (ng pz))))) (w_val (y_bin ei ei b_lss) (nt ?_))))))))
    refine c_if (p := ((t : Nat) : Int) < 80) eb (fun hc33 => ?_) (fun hc33 => ?_)
    ·skip
     refine wp_skip (then_n (wp_seq (wp_block (sr (w_val (y_ia1z (i := 4) (ex (pt b_v 0) s3_12) Ev.c Tryd.underlying88 ShaRT.sz58 om om) (w_val (v := U64 (Sha.vs false (gb s) hh t 4)) (y_ld (ex (pt b_v 4)) ShaRT.sc58 (r_b_v.val om rfl)) (w_as e6 (nt (sr (w_val (y_ia1z (i := 0) (ex (pt b_v 0) s3_12) Ev.c Tryd.underlying88 ShaRT.sz58 om om) (w_val (v := U64 (Sha.vs false (gb s) hh t 0)) (y_ld (ex (pt b_v 0)) ShaRT.sc58 (r_b_v.val om rfl)) (w_as e6 (nt (wp_seq ?_))))))))))))))
     obtain ⟨g34, cap34, hv34, ge_g34, hc_g34, hob_g34, r_g34⟩ := o_vc.opened om
     have ne_rp_g34 : rp ≠ g34 := fun e => no_vc_rp (by rw [hob_g34, e])
     have ne_g_g34 : g ≠ g34 := fun e => no_vc_g (by rw [hob_g34, e])
     have ne_b_h_g34 : b_h ≠ g34 := fun e => no_vc_b_h (by rw [hob_g34, e])
     have ne_b_6_g34 : b_6 ≠ g34 := fun e => no_vc_b_6 (by rw [hob_g34, e])
     have ne_b_v_g34 : b_v ≠ g34 := fun e => no_vc_b_v (by rw [hob_g34, e])
     refine region_q ShaRT.mixed kr (q_val (fun w' hw' => y_ia1z (i := 7) (ex (pt b_v 0) s3_12) Ev.c Tryd.underlying88 ShaRT.sz58 om om) (q_val (v := U64 (Sha.vs false (gb s) hh t 7)) (fun w' hw' => y_ld (ex (pt b_v 7)) ShaRT.sc58 (cls_cell (r_b_v.val om rfl) r_b_v.lt w' hw')) (q_mv (ex (pt rp 0) s3_0) (q_mv e6 (q_call (v := U64 (Sha.th false (Sha.vs false (gb s) hh t 4) 9 false)) (Tryd.func94) kr rfl (m4 (ex (pt rp 0)) e6 Ev.c Ev.c) (fun w' hw' => three_ff rp ou g cap bg kd hkd (Sha.vs false (gb s) hh t 4) 9 om w' (r_rp.step hw')) (q_val (fun w' hw' => y_bin e6 e6 add64) (q_mv e6 (q_val (fun w' hw' => y_ia1z (i := 5) (ex (pt b_v 0) s3_12) Ev.c Tryd.underlying88 ShaRT.sz58 om om) (q_val (v := U64 (Sha.vs false (gb s) hh t 5)) (fun w' hw' => y_ld (ex (pt b_v 5)) ShaRT.sc58 (cls_cell (r_b_v.val om rfl) r_b_v.lt w' hw')) (q_val (fun w' hw' => y_bin e6 e6 and64) (q_mv e6 (q_val (v := U64 (~~~(Sha.vs false (gb s) hh t 4))) (fun w' hw' => y_not64 e6) (q_val (fun w' hw' => y_ia1z (i := 6) (ex (pt b_v 0) s3_12) Ev.c Tryd.underlying88 ShaRT.sz58 om om) (q_val (v := U64 (Sha.vs false (gb s) hh t 6)) (fun w' hw' => y_ld (ex (pt b_v 6)) ShaRT.sc58 (cls_cell (r_b_v.val om rfl) r_b_v.lt w' hw')) (q_val (fun w' hw' => y_bin e6 e6 and64) (q_val (fun w' hw' => y_bin e6 e6 xor64) (q_val (fun w' hw' => y_bin e6 e6 add64) (q_mv (ex (pt rp 0) s3_0) (q_val (fun w' hw' => y_nc (ex (pt rp 0))) (q_val (v := pt rp 4) (fun w' hw' => y_off (y_fa (ex (pt rp 0)) (ShaRT.fa90_4 _ _)) ro) (q_val (v := .slice (some ⟨g, 0, none⟩) 80 cap) (fun w' hw' => y_ld (ex (pt rp 4)) ShaRT.sc87 (cls_cell (r_rp.val om (ng (ng (ng (ng pz))))) r_rp.lt w' hw')) (q_mv (ei s3_13) (q_val (fun w' hw' => y_is1z (i := t) el ei Tryd.underlying87 ShaRT.sz58 om om) (q_val (v := U64 (Sha.K false t)) (fun w' hw' => y_ld (ex (pt g t)) ShaRT.sc58 (cls_cell (r_g.val om rfl) r_g.lt w' hw')) (q_val (fun w' hw' => y_bin e6 e6 add64) (q_mv (ex vc s3_7) (q_mv (ei s3_13) (q_val (fun w' hw' => y_is1z (i := t) (ex (.slice (some ⟨g34, 0, none⟩) 80 cap34) (Eq.trans (b := vc) rfl hv34)) ei Tryd.underlying87 ShaRT.sz58 om om) (q_val (v := U64 (Sha.w false (gb s) t)) (fun w' hw' => y_ld (ex (pt g34 t)) ShaRT.sc58 (cls_cell (r_g34.val om rfl) r_g34.lt w' hw')) (q_val (fun w' hw' => y_bin e6 e6 add64) (q_as e6 (q_nil ?_))))))))))))))))))))))))))))))))
     intro w35 hb36
     replace o_vc := o_vc.step hb36
     replace r_rp := r_rp.step hb36
     replace r_g := r_g.step hb36
     replace r_b_h := r_b_h.step hb36
     replace r_b_6 := r_b_6.step hb36
     replace r_b_v := r_b_v.step hb36
     replace r_g34 := r_g34.step hb36
     replace hk := thenB hk hb36
     refine then_n (wp_seq (region_q ShaRT.mixed kr (q_mv (ex (pt rp 0) s3_0) (q_mv e6 (q_call (v := U64 (Sha.th false (Sha.vs false (gb s) hh t 0) 6 false)) (Tryd.func94) kr rfl (m4 (ex (pt rp 0)) e6 Ev.c Ev.c) (fun w' hw' => three_ff rp ou g cap bg kd hkd (Sha.vs false (gb s) hh t 0) 6 om w' (r_rp.step hw')) (q_mv e6 (q_val (fun w' hw' => y_ia1z (i := 1) (ex (pt b_v 0) s3_12) Ev.c Tryd.underlying88 ShaRT.sz58 om om) (q_val (v := U64 (Sha.vs false (gb s) hh t 1)) (fun w' hw' => y_ld (ex (pt b_v 1)) ShaRT.sc58 (cls_cell (r_b_v.val om rfl) r_b_v.lt w' hw')) (q_val (fun w' hw' => y_bin e6 e6 and64) (q_mv e6 (q_val (fun w' hw' => y_ia1z (i := 2) (ex (pt b_v 0) s3_12) Ev.c Tryd.underlying88 ShaRT.sz58 om om) (q_val (v := U64 (Sha.vs false (gb s) hh t 2)) (fun w' hw' => y_ld (ex (pt b_v 2)) ShaRT.sc58 (cls_cell (r_b_v.val om rfl) r_b_v.lt w' hw')) (q_val (fun w' hw' => y_bin e6 e6 and64) (q_val (fun w' hw' => y_bin e6 e6 xor64) (q_val (fun w' hw' => y_ia1z (i := 1) (ex (pt b_v 0) s3_12) Ev.c Tryd.underlying88 ShaRT.sz58 om om) (q_val (v := U64 (Sha.vs false (gb s) hh t 1)) (fun w' hw' => y_ld (ex (pt b_v 1)) ShaRT.sc58 (cls_cell (r_b_v.val om rfl) r_b_v.lt w' hw')) (q_val (fun w' hw' => y_ia1z (i := 2) (ex (pt b_v 0) s3_12) Ev.c Tryd.underlying88 ShaRT.sz58 om om) (q_val (v := U64 (Sha.vs false (gb s) hh t 2)) (fun w' hw' => y_ld (ex (pt b_v 2)) ShaRT.sc58 (cls_cell (r_b_v.val om rfl) r_b_v.lt w' hw')) (q_val (fun w' hw' => y_bin e6 e6 and64) (q_val (fun w' hw' => y_bin e6 e6 xor64) (q_val (fun w' hw' => y_bin e6 e6 add64) (q_as e6 (q_nil ?_)))))))))))))))))))))))
     intro w37 hb38
     replace o_vc := o_vc.step hb38
     replace r_rp := r_rp.step hb38
     replace r_g := r_g.step hb38
     replace r_b_h := r_b_h.step hb38
     replace r_b_6 := r_b_6.step hb38
     replace r_b_v := r_b_v.step hb38
     replace r_g34 := r_g34.step hb38
     replace hk := thenB hk hb38
     refine then_n (region_t 22 ShaRT.mixed kr ?_)
     simp only [List.take_succ_cons, List.take_zero, List.drop_succ_cons, List.drop_zero]
     refine q_mv (ex (pt rp 0) s3_0) (q_mv e6 (q_mv e6 (q_val (fun w' hw' => y_bin e6 e6 add64) (q_call (v := U64 (Sha.wd false ((((((Sha.vs false (gb s) hh t 7) + (Sha.th false (Sha.vs false (gb s) hh t 4) 9 false)) + (((Sha.vs false (gb s) hh t 4) &&& (Sha.vs false (gb s) hh t 5)) ^^^ ((~~~(Sha.vs false (gb s) hh t 4)) &&& (Sha.vs false (gb s) hh t 6)))) + (Sha.K false t)) + (Sha.w false (gb s) t)) + ((Sha.th false (Sha.vs false (gb s) hh t 0) 6 false) + ((((Sha.vs false (gb s) hh t 0) &&& (Sha.vs false (gb s) hh t 1)) ^^^ ((Sha.vs false (gb s) hh t 0) &&& (Sha.vs false (gb s) hh t 2))) ^^^ ((Sha.vs false (gb s) hh t 1) &&& (Sha.vs false (gb s) hh t 2))))))) (Tryd.func93) kr rfl (m2 (ex (pt rp 0)) e6) (fun w' hw' => word_f rp ou g cap bg kd hkd ((((((Sha.vs false (gb s) hh t 7) + (Sha.th false (Sha.vs false (gb s) hh t 4) 9 false)) + (((Sha.vs false (gb s) hh t 4) &&& (Sha.vs false (gb s) hh t 5)) ^^^ ((~~~(Sha.vs false (gb s) hh t 4)) &&& (Sha.vs false (gb s) hh t 6)))) + (Sha.K false t)) + (Sha.w false (gb s) t)) + ((Sha.th false (Sha.vs false (gb s) hh t 0) 6 false) + ((((Sha.vs false (gb s) hh t 0) &&& (Sha.vs false (gb s) hh t 1)) ^^^ ((Sha.vs false (gb s) hh t 0) &&& (Sha.vs false (gb s) hh t 2))) ^^^ ((Sha.vs false (gb s) hh t 1) &&& (Sha.vs false (gb s) hh t 2))))) w' (r_rp.step hw')) (q_mv e6 (q_val (fun w' hw' => y_ia1z (i := 1) (ex (pt b_v 0) s3_12) Ev.c Tryd.underlying88 ShaRT.sz58 om om) (q_val (v := U64 (Sha.vs false (gb s) hh t 1)) (fun w' hw' => y_ld (ex (pt b_v 1)) ShaRT.sc58 (cls_cell (r_b_v.val om rfl) r_b_v.lt w' hw')) (q_val (fun w' hw' => y_ia1z (i := 2) (ex (pt b_v 0) s3_12) Ev.c Tryd.underlying88 ShaRT.sz58 om om) (q_val (v := U64 (Sha.vs false (gb s) hh t 2)) (fun w' hw' => y_ld (ex (pt b_v 2)) ShaRT.sc58 (cls_cell (r_b_v.val om rfl) r_b_v.lt w' hw')) (q_mv (ex (pt rp 0) s3_0) (q_val (fun w' hw' => y_ia1z (i := 3) (ex (pt b_v 0) s3_12) Ev.c Tryd.underlying88 ShaRT.sz58 om om) (q_val (v := U64 (Sha.vs false (gb s) hh t 3)) (fun w' hw' => y_ld (ex (pt b_v 3)) ShaRT.sc58 (cls_cell (r_b_v.val om rfl) r_b_v.lt w' hw')) (q_mv e6 (q_val (fun w' hw' => y_bin e6 e6 add64) (q_call (v := U64 (Sha.wd false ((Sha.vs false (gb s) hh t 3) + (((((Sha.vs false (gb s) hh t 7) + (Sha.th false (Sha.vs false (gb s) hh t 4) 9 false)) + (((Sha.vs false (gb s) hh t 4) &&& (Sha.vs false (gb s) hh t 5)) ^^^ ((~~~(Sha.vs false (gb s) hh t 4)) &&& (Sha.vs false (gb s) hh t 6)))) + (Sha.K false t)) + (Sha.w false (gb s) t))))) (Tryd.func93) kr rfl (m2 (ex (pt rp 0)) e6) (fun w' hw' => word_f rp ou g cap bg kd hkd ((Sha.vs false (gb s) hh t 3) + (((((Sha.vs false (gb s) hh t 7) + (Sha.th false (Sha.vs false (gb s) hh t 4) 9 false)) + (((Sha.vs false (gb s) hh t 4) &&& (Sha.vs false (gb s) hh t 5)) ^^^ ((~~~(Sha.vs false (gb s) hh t 4)) &&& (Sha.vs false (gb s) hh t 6)))) + (Sha.K false t)) + (Sha.w false (gb s) t))) w' (r_rp.step hw')) (q_mv e6 (q_val (fun w' hw' => y_ia1z (i := 5) (ex (pt b_v 0) s3_12) Ev.c Tryd.underlying88 ShaRT.sz58 om om) (q_val (v := U64 (Sha.vs false (gb s) hh t 5)) (fun w' hw' => y_ld (ex (pt b_v 5)) ShaRT.sc58 (cls_cell (r_b_v.val om rfl) r_b_v.lt w' hw')) (q_val (fun w' hw' => y_ia1z (i := 6) (ex (pt b_v 0) s3_12) Ev.c Tryd.underlying88 ShaRT.sz58 om om) (q_val (v := U64 (Sha.vs false (gb s) hh t 6)) (fun w' hw' => y_ld (ex (pt b_v 6)) ShaRT.sc58 (cls_cell (r_b_v.val om rfl) r_b_v.lt w' hw')) (q_val (v := .agg (arr 8 (fun j => if j < 1 then U64 (Sha.wd false ((((((Sha.vs false (gb s) hh t 7) + (Sha.th false (Sha.vs false (gb s) hh t 4) 9 false)) + (((Sha.vs false (gb s) hh t 4) &&& (Sha.vs false (gb s) hh t 5)) ^^^ ((~~~(Sha.vs false (gb s) hh t 4)) &&& (Sha.vs false (gb s) hh t 6)))) + (Sha.K false t)) + (Sha.w false (gb s) t)) + ((Sha.th false (Sha.vs false (gb s) hh t 0) 6 false) + ((((Sha.vs false (gb s) hh t 0) &&& (Sha.vs false (gb s) hh t 1)) ^^^ ((Sha.vs false (gb s) hh t 0) &&& (Sha.vs false (gb s) hh t 2))) ^^^ ((Sha.vs false (gb s) hh t 1) &&& (Sha.vs false (gb s) hh t 2)))))) else if j < 2 then U64 (Sha.vs false (gb s) hh t 0) else if j < 3 then U64 (Sha.vs false (gb s) hh t 1) else if j < 4 then U64 (Sha.vs false (gb s) hh t 2) else if j < 5 then U64 (Sha.wd false ((Sha.vs false (gb s) hh t 3) + (((((Sha.vs false (gb s) hh t 7) + (Sha.th false (Sha.vs false (gb s) hh t 4) 9 false)) + (((Sha.vs false (gb s) hh t 4) &&& (Sha.vs false (gb s) hh t 5)) ^^^ ((~~~(Sha.vs false (gb s) hh t 4)) &&& (Sha.vs false (gb s) hh t 6)))) + (Sha.K false t)) + (Sha.w false (gb s) t)))) else if j < 6 then U64 (Sha.vs false (gb s) hh t 4) else if j < 7 then U64 (Sha.vs false (gb s) hh t 5) else U64 (Sha.vs false (gb s) hh t 6)))) (fun w' hw' => y_build (vs := #[(0, U64 (Sha.wd false ((((((Sha.vs false (gb s) hh t 7) + (Sha.th false (Sha.vs false (gb s) hh t 4) 9 false)) + (((Sha.vs false (gb s) hh t 4) &&& (Sha.vs false (gb s) hh t 5)) ^^^ ((~~~(Sha.vs false (gb s) hh t 4)) &&& (Sha.vs false (gb s) hh t 6)))) + (Sha.K false t)) + (Sha.w false (gb s) t)) + ((Sha.th false (Sha.vs false (gb s) hh t 0) 6 false) + ((((Sha.vs false (gb s) hh t 0) &&& (Sha.vs false (gb s) hh t 1)) ^^^ ((Sha.vs false (gb s) hh t 0) &&& (Sha.vs false (gb s) hh t 2))) ^^^ ((Sha.vs false (gb s) hh t 1) &&& (Sha.vs false (gb s) hh t 2))))))), (1, U64 (Sha.vs false (gb s) hh t 0)), (2, U64 (Sha.vs false (gb s) hh t 1)), (3, U64 (Sha.vs false (gb s) hh t 2)), (4, U64 (Sha.wd false ((Sha.vs false (gb s) hh t 3) + (((((Sha.vs false (gb s) hh t 7) + (Sha.th false (Sha.vs false (gb s) hh t 4) 9 false)) + (((Sha.vs false (gb s) hh t 4) &&& (Sha.vs false (gb s) hh t 5)) ^^^ ((~~~(Sha.vs false (gb s) hh t 4)) &&& (Sha.vs false (gb s) hh t 6)))) + (Sha.K false t)) + (Sha.w false (gb s) t))))), (5, U64 (Sha.vs false (gb s) hh t 4)), (6, U64 (Sha.vs false (gb s) hh t 5)), (7, U64 (Sha.vs false (gb s) hh t 6))]) (mp_cons e6 (mp_cons e6 (mp_cons e6 (mp_cons e6 (mp_cons e6 (mp_cons e6 (mp_cons e6 (mp_cons e6 mp0)))))))) (fun w => by kernel_rfl)) (q_nil ?_))))))))))))))))))))))
     intro w39 hb40
     replace o_vc := o_vc.step hb40
     replace r_rp := r_rp.step hb40
     replace r_g := r_g.step hb40
     replace r_b_h := r_b_h.step hb40
     replace r_b_6 := r_b_6.step hb40
     replace r_b_v := r_b_v.step hb40
     replace r_g34 := r_g34.step hb40
     replace hk := thenB hk hb40
     refine w_sta (k := 8) (G := fun j => if j < 1 then U64 (Sha.wd false ((((((Sha.vs false (gb s) hh t 7) + (Sha.th false (Sha.vs false (gb s) hh t 4) 9 false)) + (((Sha.vs false (gb s) hh t 4) &&& (Sha.vs false (gb s) hh t 5)) ^^^ ((~~~(Sha.vs false (gb s) hh t 4)) &&& (Sha.vs false (gb s) hh t 6)))) + (Sha.K false t)) + (Sha.w false (gb s) t)) + ((Sha.th false (Sha.vs false (gb s) hh t 0) 6 false) + ((((Sha.vs false (gb s) hh t 0) &&& (Sha.vs false (gb s) hh t 1)) ^^^ ((Sha.vs false (gb s) hh t 0) &&& (Sha.vs false (gb s) hh t 2))) ^^^ ((Sha.vs false (gb s) hh t 1) &&& (Sha.vs false (gb s) hh t 2)))))) else if j < 2 then U64 (Sha.vs false (gb s) hh t 0) else if j < 3 then U64 (Sha.vs false (gb s) hh t 1) else if j < 4 then U64 (Sha.vs false (gb s) hh t 2) else if j < 5 then U64 (Sha.wd false ((Sha.vs false (gb s) hh t 3) + (((((Sha.vs false (gb s) hh t 7) + (Sha.th false (Sha.vs false (gb s) hh t 4) 9 false)) + (((Sha.vs false (gb s) hh t 4) &&& (Sha.vs false (gb s) hh t 5)) ^^^ ((~~~(Sha.vs false (gb s) hh t 4)) &&& (Sha.vs false (gb s) hh t 6)))) + (Sha.K false t)) + (Sha.w false (gb s) t)))) else if j < 6 then U64 (Sha.vs false (gb s) hh t 4) else if j < 7 then U64 (Sha.vs false (gb s) hh t 5) else U64 (Sha.vs false (gb s) hh t 6)) (ex (pt b_v 0) s3_12) ea oc ShaRT.sz88 r_b_v om ?_
     clear r_b_v; intro w41 r_b_v hg42 _
     replace r_b_v := r_b_v.congr (g := fun j => if j < 1 then U64 (Sha.wd false ((((((Sha.vs false (gb s) hh t 7) + (Sha.th false (Sha.vs false (gb s) hh t 4) 9 false)) + (((Sha.vs false (gb s) hh t 4) &&& (Sha.vs false (gb s) hh t 5)) ^^^ ((~~~(Sha.vs false (gb s) hh t 4)) &&& (Sha.vs false (gb s) hh t 6)))) + (Sha.K false t)) + (Sha.w false (gb s) t)) + ((Sha.th false (Sha.vs false (gb s) hh t 0) 6 false) + ((((Sha.vs false (gb s) hh t 0) &&& (Sha.vs false (gb s) hh t 1)) ^^^ ((Sha.vs false (gb s) hh t 0) &&& (Sha.vs false (gb s) hh t 2))) ^^^ ((Sha.vs false (gb s) hh t 1) &&& (Sha.vs false (gb s) hh t 2)))))) else if j < 2 then U64 (Sha.vs false (gb s) hh t 0) else if j < 3 then U64 (Sha.vs false (gb s) hh t 1) else if j < 4 then U64 (Sha.vs false (gb s) hh t 2) else if j < 5 then U64 (Sha.wd false ((Sha.vs false (gb s) hh t 3) + (((((Sha.vs false (gb s) hh t 7) + (Sha.th false (Sha.vs false (gb s) hh t 4) 9 false)) + (((Sha.vs false (gb s) hh t 4) &&& (Sha.vs false (gb s) hh t 5)) ^^^ ((~~~(Sha.vs false (gb s) hh t 4)) &&& (Sha.vs false (gb s) hh t 6)))) + (Sha.K false t)) + (Sha.w false (gb s) t)))) else if j < 6 then U64 (Sha.vs false (gb s) hh t 4) else if j < 7 then U64 (Sha.vs false (gb s) hh t 5) else U64 (Sha.vs false (gb s) hh t 6)) (fun j hj => by rw [if_pos ⟨Nat.zero_le _, by omega⟩]; first | rfl | (simp only [Nat.sub_zero]))
     replace o_vc := o_vc.stepG hg42 no_vc_b_v
     replace r_rp := r_rp.stepG hg42 om
     replace r_g := r_g.stepG hg42 om
     replace r_b_h := r_b_h.stepG hg42 om
     replace r_b_6 := r_b_6.stepG hg42 om
     replace r_g34 := r_g34.stepG hg42 om
     replace hk := thenG hk hg42 om
     refine wpList_nil (inb_n (then_n (wp_region_lit (w_mv (ei s3_13) (w_val (y_bin ei Ev.c (b_add om)) (w_as ei (wpList_nil ?_)))))))
     exact then_n ⟨_, om, t + 1, vc, rfl, _, rfl, iv, s3_0, s3_4, s3_6, s3_7, s3_12, ti, r_rp, r_g, r_b_h, r_b_6, (r_b_v.congr (fun j hj => by exact Sha.rnd_row false (gb s) hh t j hj _ _ rfl rfl)), o_vc, no_vc_rp, no_vc_g, no_vc_b_h, no_vc_b_6, no_vc_b_v, hk⟩
    ·skip
     refine wp_exit (then_x ?_)
     replace r_b_v := r_b_v.congr (g := fun j => U64 (Sha.vs false (gb s) hh 80 j)) (fun j hj => by rw [show t = 80 from by omega])
     refine then_x (inb_x (then_n (wp_seq (sr (w_as Ev.c (nt (wp_block ?_)))))))
     refine c_loop (fun dN aN wl => ∃ (q : Nat) (vd : Value), dN = (8 - q) ∧ ∃ f43, aN = fr 183 f43 ∧ (q ≤ 8) ∧ f43 0 = pt rp 0 ∧ f43 4 = pt b_h 0 ∧ f43 6 = pt b_6 0 ∧ f43 7 = vd ∧ f43 12 = pt b_v 0 ∧ f43 18 = .int .i64 ((q : Nat) : Int) ∧ Row wl rp 90 25 (Sha.rrow (.int .i64 kd) (.int .i64 ((ou : Nat) : Int)) (.int .i64 128) (.int .i64 80) (.slice (some ⟨g, 0, none⟩) 80 cap) bg (fun i => U64 (BitVec.ofNat 64 (Sha.trn false i)))) ∧ Row wl g 58 80 (fun j => U64 (Sha.K false j)) ∧ Row wl b_h 88 8 (fun j => if j < q then (fun j => U64 (Sha.comp false (gb s) hh j)) j else (fun j => U64 (hh j)) j) ∧ Row wl b_6 88 8 (fun j => U64 (0#64)) ∧ Row wl b_v 88 8 (fun j => U64 (Sha.vs false (gb s) hh 80 j)) ∧ Own wl w0.heap.size 58 1 vd 80 (fun j => U64 (Sha.w false (gb s) j)) ∧ vd.ownBlock ≠ some rp ∧ vd.ownBlock ≠ some g ∧ vd.ownBlock ≠ some b_h ∧ vd.ownBlock ≠ some b_6 ∧ vd.ownBlock ≠ some b_v ∧ Below w0.heap.size w0 wl) (8 - 0) ?_ ?_
     · exact ⟨0, vc, rfl, _, rfl, iv, s3_0, s3_4, s3_6, (Eq.trans (b := vc) s3_7 dv), s3_12, ti, r_rp, r_g, (r_b_h.cg), r_b_6, r_b_v, o_vc, no_vc_rp, no_vc_g, no_vc_b_h, no_vc_b_6, no_vc_b_v, hk⟩
     ·skip
      clear r_rp r_g r_b_h r_b_6 r_b_v o_vc hk
      rintro _ _ w44 ⟨q, vd, rfl, f43, rfl, i4_0, s4_0, s4_4, s4_6, s4_7, s4_12, s4_18, r_rp, r_g, r_b_h, r_b_6, r_b_v, o_vd, no_vd_rp, no_vd_g, no_vd_b_h, no_vd_b_6, no_vd_b_v, hk⟩
      refine wp_seq (sr (w_mv (ei s4_18) (w_val (y_bin ei Ev.c b_lss) (nt ?_))))
      refine c_if (p := ((q : Nat) : Int) < 8) eb (fun hc45 => ?_) (fun hc45 => ?_)
      ·skip
       refine wp_skip (then_n (wp_seq (wp_block (region_t 11 ShaRT.mixed kr ?_))))
       simp only [List.take_succ_cons, List.take_zero, List.drop_succ_cons, List.drop_zero]
       refine q_mv (ei s4_18) (q_mv (ex (pt rp 0) s4_0) (q_mv (ei s4_18) (q_val (fun w' hw' => y_ia1z (i := q) (ex (pt b_h 0) s4_4) ei Tryd.underlying88 ShaRT.sz58 om om) (q_val (v := U64 (hh q)) (fun w' hw' => y_ld (ex (pt b_h q)) ShaRT.sc58 (cls_cell (r_b_h.val om (ng rfl)) r_b_h.lt w' hw')) (q_mv (ei s4_18) (q_val (fun w' hw' => y_ia1z (i := q) (ex (pt b_v 0) s4_12) ei Tryd.underlying88 ShaRT.sz58 om om) (q_val (v := U64 (Sha.vs false (gb s) hh 80 q)) (fun w' hw' => y_ld (ex (pt b_v q)) ShaRT.sc58 (cls_cell (r_b_v.val om rfl) r_b_v.lt w' hw')) (q_val (fun w' hw' => y_bin e6 e6 add64) (q_call (v := U64 (Sha.wd false ((hh q) + (Sha.vs false (gb s) hh 80 q)))) (Tryd.func93) kr rfl (m2 (ex (pt rp 0)) e6) (fun w' hw' => word_f rp ou g cap bg kd hkd ((hh q) + (Sha.vs false (gb s) hh 80 q)) w' (r_rp.step hw')) (q_val (fun w' hw' => y_ia1z (i := q) (ex (pt b_h 0) s4_4) ei Tryd.underlying88 ShaRT.sz58 om om) (q_nil ?_)))))))))))
       intro w46 hb47
       replace o_vd := o_vd.step hb47
       replace r_rp := r_rp.step hb47
       replace r_g := r_g.step hb47
       replace r_b_h := r_b_h.step hb47
       replace r_b_6 := r_b_6.step hb47
       replace r_b_v := r_b_v.step hb47
       replace hk := thenB hk hb47
       refine w_st (v := U64 (Sha.wd false ((hh q) + (Sha.vs false (gb s) hh 80 q)))) (ex (pt b_h q)) e6 rfl rfl ShaRT.sz58 r_b_h om ?_
       clear r_b_h; intro w48 r_b_h hg49 _
       replace o_vd := o_vd.stepG hg49 no_vd_b_h
       replace r_rp := r_rp.stepG hg49 om
       replace r_g := r_g.stepG hg49 om
       replace r_b_6 := r_b_6.stepG hg49 om
       replace r_b_v := r_b_v.stepG hg49 om
       replace hk := thenG hk hg49 om
       refine wpList_nil (inb_n (then_n (wp_region_lit (w_mv (ei s4_18) (w_val (y_bin ei Ev.c (b_add om)) (w_as ei (wpList_nil ?_)))))))
       exact then_n ⟨_, om, q + 1, vd, rfl, _, rfl, iv, s4_0, s4_4, s4_6, s4_7, s4_12, ti, r_rp, r_g, (r_b_h.congr (fun j hj => by (try dsimp only); by_cases e : j = q; (rw [if_pos e, if_pos om, e]; rfl); (rw [if_neg e]; by_cases e2 : j < q; (rw [if_pos e2]; exact (if_pos om).symm); (rw [if_neg e2]; exact (if_neg om).symm)))), r_b_6, r_b_v, o_vd, no_vd_rp, no_vd_g, no_vd_b_h, no_vd_b_6, no_vd_b_v, hk⟩
      ·skip
       refine wp_exit (then_x ?_)
       replace r_b_h := r_b_h.congr (g := fun j => U64 (Sha.comp false (gb s) hh j)) (fun j hj => by (try dsimp only); rw [if_pos om])
       refine then_x (inb_x (then_n (sr (w_val (v := .agg (arr 8 (fun j => U64 (Sha.comp false (gb s) hh j)))) (y_lda (ex (pt b_h 0) s4_4) ShaRT.ag88 ShaRT.sz88 (fun j hj => by rw [Nat.zero_add]; exact (r_b_h.cell om))) (w_sta (k := 8) (G := fun j => U64 (Sha.comp false (gb s) hh j)) (ex (pt b_6 0) s4_6) ea oc ShaRT.sz88 r_b_6 om ?_)))))
       clear r_b_6; intro w50 r_b_6 hg51 _
       replace r_b_6 := r_b_6.congr (g := fun j => U64 (Sha.comp false (gb s) hh j)) (fun j hj => by rw [if_pos ⟨Nat.zero_le _, by omega⟩]; first | rfl | (simp only [Nat.sub_zero]))
       replace o_vd := o_vd.stepG hg51 no_vd_b_6
       replace r_rp := r_rp.stepG hg51 om
       replace r_g := r_g.stepG hg51 om
       replace r_b_h := r_b_h.stepG hg51 om
       replace r_b_v := r_b_v.stepG hg51 om
       replace hk := thenG hk hg51 om
       refine nt (wp_ret (fin_arr (F := fun j => U64 (Sha.comp false (gb s) hh j)) rfl (ex (pt b_6 0) s4_6) ShaRT.ag88 ShaRT.sz88 r_b_6 om ?_))
       exact ⟨rfl, hk⟩
end Go.Proofs.YtepogbfkmflooaaDoor
