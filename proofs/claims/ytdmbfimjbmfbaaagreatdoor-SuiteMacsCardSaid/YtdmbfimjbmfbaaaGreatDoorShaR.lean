/-
  Digests: the reference's rule, word by word and block by block. Conditions as each says.
-/
import Derived.Test.YtdmbfimjbmfbaaaGreatDoorRows
import Derived.Test.YtdmbfimjbmfbaaaGreatDoorGenMore
import Derived.Test.YtdmbfimjbmfbaaaGreatDoorAesLeaf
import Derived.Test.YtdmbfimjbmfbaaaGreatDoorGenSh
import Derived.ProofKit
namespace Go.Proofs.YtdmbfimjbmfbaaaGreatDoor
open Go.RowKit
set_option linter.unusedSimpArgs false
set_option linter.unusedVariables false
set_option maxRecDepth 100000
set_option maxHeartbeats 1000000
namespace ShaRT
theorem mixed : Tryz.prog.follows .mixedOrders = true := by kernel_rfl
theorem ag93 : (Tryz.prog.underlying 93).map isAggD = some true := by rw [Tryz.underlying93]; rfl
theorem fa96_0 (g off : Nat) : ∀ w, (Instr.fieldAt 96 (.pointer (some ⟨g, off, none⟩)) 0).run Tryz.prog w = .ok (.pointer (some ⟨g, off + 0, none⟩)) w := fun w => by kernel_rfl
theorem fa96_2 (g off : Nat) : ∀ w, (Instr.fieldAt 96 (.pointer (some ⟨g, off, none⟩)) 2).run Tryz.prog w = .ok (.pointer (some ⟨g, off + 2, none⟩)) w := fun w => by kernel_rfl
theorem fa96_3 (g off : Nat) : ∀ w, (Instr.fieldAt 96 (.pointer (some ⟨g, off, none⟩)) 3).run Tryz.prog w = .ok (.pointer (some ⟨g, off + 3, none⟩)) w := fun w => by kernel_rfl
theorem fa96_4 (g off : Nat) : ∀ w, (Instr.fieldAt 96 (.pointer (some ⟨g, off, none⟩)) 4).run Tryz.prog w = .ok (.pointer (some ⟨g, off + 4, none⟩)) w := fun w => by kernel_rfl
theorem fa96_6 (g off : Nat) : ∀ w, (Instr.fieldAt 96 (.pointer (some ⟨g, off, none⟩)) 6).run Tryz.prog w = .ok (.pointer (some ⟨g, off + 13, none⟩)) w := fun w => by kernel_rfl
theorem sc3 : (Tryz.prog.underlying 3).map scal = some true := by rw [Tryz.underlying3]; rfl
theorem sc87 : (Tryz.prog.underlying 87).map scal = some true := by rw [Tryz.underlying87]; rfl
theorem sc91 : (Tryz.prog.underlying 91).map scal = some true := by rw [Tryz.underlying91]; rfl
theorem sc92 : (Tryz.prog.underlying 92).map scal = some true := by rw [Tryz.underlying92]; rfl
theorem so5 : (Tryz.prog.underlying 5).isSome = true := by rw [Tryz.underlying5]; rfl
theorem sz87 : (Tryz.prog.info? 87).map (·.size) = some 1 := by kernel_rfl
theorem sz92 : (Tryz.prog.info? 92).map (·.size) = some 1 := by kernel_rfl
theorem sz93 : (Tryz.prog.info? 93).map (·.size) = some 8 := by kernel_rfl
end ShaRT
theorem word_t (rp ou g cap : Nat) (bg : Nat → BitVec 64) (x : BitVec 64) (w0 : World) (r_rp : Row w0 rp 96 25 (Sha.rrow (.int .i64 256) (.int .i64 ((ou : Nat) : Int)) (.int .i64 64) (.int .i64 64) (.slice (some ⟨g, 0, none⟩) 64 cap) bg (fun i => U64 (BitVec.ofNat 64 (Sha.trn true i))))) : Calls Tryz.prog 62 #[pt rp 0, U64 x] w0 fun e w' => e = .returned (U64 (Sha.wd true x)) ∧ Below w0.heap.size w0 w' := by
 refine enter (n := 13) Tryz.func62 rfl rfl rfl ?_
 have hk : Below w0.heap.size w0 w0 := Below.refl _ _
 have aa := r_rp.lt
 refine sr (w_as (evc (U64 (0#64))) (nt (wp_seq (sr (w_mv (ex (pt rp 0)) (w_val (y_nc (ex (pt rp 0))) (w_val (v := pt rp 0) (y_off (y_fa (ex (pt rp 0)) (ShaRT.fa96_0 _ _)) ro) (w_val (v := .int .i64 256) (y_ld (ex (pt rp 0)) ShaRT.sc3 (r_rp.val om pz)) (w_val (y_bin ei Ev.c b_eql) (nt (c_tt eb (sr (w_mv e6 (w_val (y_bin e6 (evc (U64 (4294967296#64))) (rem64 (by decide))) (w_as e6 (nt (wp_ret (then_r (fin_ret1 rfl e6 ?_)))))))))))))))))))
 refine ⟨congrArg Ending.returned ?_, hk⟩
 show (U64 (x % (4294967296#64)) : Value) = U64 (Sha.wd true x)
 rfl

theorem turn_t (rp ou g cap : Nat) (bg : Nat → BitVec 64) (x : BitVec 64) (n : Nat) (hn : n ≤ 32) (w0 : World) (r_rp : Row w0 rp 96 25 (Sha.rrow (.int .i64 256) (.int .i64 ((ou : Nat) : Int)) (.int .i64 64) (.int .i64 64) (.slice (some ⟨g, 0, none⟩) 64 cap) bg (fun i => U64 (BitVec.ofNat 64 (Sha.trn true i))))) : Calls Tryz.prog 67 #[pt rp 0, U64 x, U64 (BitVec.ofNat 64 n)] w0 fun e w' => e = .returned (U64 (Sha.tn true x n)) ∧ Below w0.heap.size w0 w' := by
 refine enter (n := 30) Tryz.func67 rfl rfl rfl ?_
 have hk : Below w0.heap.size w0 w0 := Below.refl _ _
 have ab := r_rp.lt
 refine sr (w_as (evc (U64 (0#64))) (nt (wp_seq (sr (w_mv (ex (pt rp 0)) (w_val (y_nc (ex (pt rp 0))) (w_val (v := pt rp 0) (y_off (y_fa (ex (pt rp 0)) (ShaRT.fa96_0 _ _)) ro) (w_val (v := .int .i64 256) (y_ld (ex (pt rp 0)) ShaRT.sc3 (r_rp.val om pz)) (w_val (y_bin ei Ev.c b_eql) (nt (c_tt eb (sr (w_mv (ex (pt rp 0)) (w_mv e6 (w_mv e6 (w_val (y_bin e6 e6 (shr64 (c := n) (by rw [BitVec.toNat_ofNat]; omega))) (w_mv e6 (w_mv e6 (w_val (y_bin (evc (U64 (32#64))) e6 sub64) (w_val (y_bin e6 e6 (shl64 (c := (((32#64) - (BitVec.ofNat 64 n)).toNat)) rfl)) (w_val (y_bin e6 e6 or64) (w_call (Tryz.func62) kr rfl (m2 (ex (pt rp 0)) e6) (word_t rp ou g cap bg ((x >>> n) ||| (x <<< (((32#64) - (BitVec.ofNat 64 n)).toNat))) w0 r_rp) ?_))))))))))))))))))))))
 rintro _ w1 ⟨rfl, aa⟩
 refine ⟨_, rfl, ?_⟩
 replace r_rp := r_rp.step aa
 replace hk := thenB hk aa
 refine w_as e6 (nt (wp_ret (then_r (fin_ret1 rfl e6 ?_))))
 refine ⟨congrArg Ending.returned ?_, hk⟩
 show (U64 (Sha.wd true ((x >>> n) ||| (x <<< (((32#64) - (BitVec.ofNat 64 n)).toNat)))) : Value) = U64 (Sha.tn true x n)
 rw [Sha.sub_ofNat 32 n om om]; rfl

theorem three_tt (rp ou g cap : Nat) (bg : Nat → BitVec 64) (x : BitVec 64) (a : Nat) (ha : a + 2 < 12) (w0 : World) (r_rp : Row w0 rp 96 25 (Sha.rrow (.int .i64 256) (.int .i64 ((ou : Nat) : Int)) (.int .i64 64) (.int .i64 64) (.slice (some ⟨g, 0, none⟩) 64 cap) bg (fun i => U64 (BitVec.ofNat 64 (Sha.trn true i))))) : Calls Tryz.prog 63 #[pt rp 0, U64 x, .int .i64 ((a : Nat) : Int), .bool true] w0 fun e w' => e = .returned (U64 (Sha.th true x a true)) ∧ Below w0.heap.size w0 w' := by
 have af := Sha.trn_le a
 have ae := Sha.trn_le (a + 1)
 have ad := Sha.trn_le (a + 2)
 refine enter (n := 52) Tryz.func63 rfl rfl rfl ?_
 have hk : Below w0.heap.size w0 w0 := Below.refl _ _
 have ac := r_rp.lt
 refine sr (w_as (evc (U64 (0#64))) (nt (sr (w_mv (ex (pt rp 0)) (w_mv e6 (w_mv (ex (pt rp 0)) (w_mv ei (w_val (y_bin ei Ev.c (b_add om)) (w_val (y_nc (ex (pt rp 0))) (w_val (v := pt rp 13) (y_off (y_fa (ex (pt rp 0)) (ShaRT.fa96_6 _ _)) ro) (w_val (v := pt rp (13 + (a + 2))) (y_off (y_ia1 (i := (a + 2)) (ex (pt rp 13)) ei Tryz.underlying94 ShaRT.sz87 om om) ro) (w_val (v := U64 (BitVec.ofNat 64 (Sha.trn true (a + 2)))) (y_ld (ex (pt rp (13 + (a + 2)))) ShaRT.sc87 (r_rp.val om (ng (ng (ng (ng (ng (ng dv)))))))) (w_call (Tryz.func67) kr rfl (m3 (ex (pt rp 0)) e6 e6) (turn_t rp ou g cap bg x (Sha.trn true (a + 2)) om w0 r_rp) ?_)))))))))))))
 rintro _ w1 ⟨rfl, aa⟩
 refine ⟨_, rfl, ?_⟩
 replace r_rp := r_rp.step aa
 replace hk := thenB hk aa
 refine w_as e6 (nt (wp_seq (sr (w_mv eb (nt (c_tt eb (wp_region_lit (w_mv e6 (w_mv (ex (pt rp 0)) (w_mv ei (w_val (y_bin ei Ev.c (b_add om)) (w_val (y_nc (ex (pt rp 0))) (w_val (v := pt rp 13) (y_off (y_fa (ex (pt rp 0)) (ShaRT.fa96_6 _ _)) ro) (w_val (v := pt rp (13 + (a + 2))) (y_off (y_ia1 (i := (a + 2)) (ex (pt rp 13)) ei Tryz.underlying94 ShaRT.sz87 om om) ro) (w_val (v := U64 (BitVec.ofNat 64 (Sha.trn true (a + 2)))) (y_ld (ex (pt rp (13 + (a + 2)))) ShaRT.sc87 (r_rp.val om (ng (ng (ng (ng (ng (ng dv)))))))) (w_val (y_bin e6 e6 (shr64 (c := (Sha.trn true (a + 2))) (by rw [BitVec.toNat_ofNat]; omega))) (w_as e6 (nt (wp_seq (region_q ShaRT.mixed kr (q_mv (ex (pt rp 0)) (q_mv e6 (q_mv (ex (pt rp 0)) (q_mv ei (q_val (fun w' hw' => y_nc (ex (pt rp 0))) (q_val (v := pt rp 13) (fun w' hw' => y_off (y_fa (ex (pt rp 0)) (ShaRT.fa96_6 _ _)) ro) (q_val (v := pt rp (13 + a)) (fun w' hw' => y_off (y_ia1 (i := a) (ex (pt rp 13)) ei Tryz.underlying94 ShaRT.sz87 om om) ro) (q_val (v := U64 (BitVec.ofNat 64 (Sha.trn true a))) (fun w' hw' => y_ld (ex (pt rp (13 + a))) ShaRT.sc87 (cls_cell (r_rp.val om (ng (ng (ng (ng (ng (ng dv))))))) r_rp.lt w' hw')) (q_call (v := U64 (Sha.tn true x (Sha.trn true a))) (Tryz.func67) kr rfl (m3 (ex (pt rp 0)) e6 e6) (fun w' hw' => turn_t rp ou g cap bg x (Sha.trn true a) om w' (r_rp.step hw')) (q_mv (ex (pt rp 0)) (q_mv e6 (q_mv (ex (pt rp 0)) (q_mv ei (q_val (fun w' hw' => y_bin ei Ev.c (b_add om)) (q_val (fun w' hw' => y_nc (ex (pt rp 0))) (q_val (v := pt rp 13) (fun w' hw' => y_off (y_fa (ex (pt rp 0)) (ShaRT.fa96_6 _ _)) ro) (q_val (v := pt rp (13 + (a + 1))) (fun w' hw' => y_off (y_ia1 (i := (a + 1)) (ex (pt rp 13)) ei Tryz.underlying94 ShaRT.sz87 om om) ro) (q_val (v := U64 (BitVec.ofNat 64 (Sha.trn true (a + 1)))) (fun w' hw' => y_ld (ex (pt rp (13 + (a + 1)))) ShaRT.sc87 (cls_cell (r_rp.val om (ng (ng (ng (ng (ng (ng dv))))))) r_rp.lt w' hw')) (q_call (v := U64 (Sha.tn true x (Sha.trn true (a + 1)))) (Tryz.func67) kr rfl (m3 (ex (pt rp 0)) e6 e6) (fun w' hw' => turn_t rp ou g cap bg x (Sha.trn true (a + 1)) om w' (r_rp.step hw')) ?_)))))))))))))))))))))))))))))))))))))))
 refine q_val (fun w' hw' => y_bin e6 e6 xor64) (q_mv e6 (q_val (fun w' hw' => y_bin e6 e6 xor64) (q_as e6 (q_nil ?_))))
 intro w3 ab
 replace r_rp := r_rp.step ab
 replace hk := thenB hk ab
 refine then_n (wp_ret (fin_ret1 rfl e6 ?_))
 refine ⟨congrArg Ending.returned ?_, hk⟩
 show (U64 (((Sha.tn true x (Sha.trn true a)) ^^^ (Sha.tn true x (Sha.trn true (a + 1)))) ^^^ (x >>> (Sha.trn true (a + 2)))) : Value) = U64 (Sha.th true x a true)
 rfl

theorem three_tf (rp ou g cap : Nat) (bg : Nat → BitVec 64) (x : BitVec 64) (a : Nat) (ha : a + 2 < 12) (w0 : World) (r_rp : Row w0 rp 96 25 (Sha.rrow (.int .i64 256) (.int .i64 ((ou : Nat) : Int)) (.int .i64 64) (.int .i64 64) (.slice (some ⟨g, 0, none⟩) 64 cap) bg (fun i => U64 (BitVec.ofNat 64 (Sha.trn true i))))) : Calls Tryz.prog 63 #[pt rp 0, U64 x, .int .i64 ((a : Nat) : Int), .bool false] w0 fun e w' => e = .returned (U64 (Sha.th true x a false)) ∧ Below w0.heap.size w0 w' := by
 have af := Sha.trn_le a
 have ae := Sha.trn_le (a + 1)
 have ad := Sha.trn_le (a + 2)
 refine enter (n := 52) Tryz.func63 rfl rfl rfl ?_
 have hk : Below w0.heap.size w0 w0 := Below.refl _ _
 have ac := r_rp.lt
 refine sr (w_as (evc (U64 (0#64))) (nt (sr (w_mv (ex (pt rp 0)) (w_mv e6 (w_mv (ex (pt rp 0)) (w_mv ei (w_val (y_bin ei Ev.c (b_add om)) (w_val (y_nc (ex (pt rp 0))) (w_val (v := pt rp 13) (y_off (y_fa (ex (pt rp 0)) (ShaRT.fa96_6 _ _)) ro) (w_val (v := pt rp (13 + (a + 2))) (y_off (y_ia1 (i := (a + 2)) (ex (pt rp 13)) ei Tryz.underlying94 ShaRT.sz87 om om) ro) (w_val (v := U64 (BitVec.ofNat 64 (Sha.trn true (a + 2)))) (y_ld (ex (pt rp (13 + (a + 2)))) ShaRT.sc87 (r_rp.val om (ng (ng (ng (ng (ng (ng dv)))))))) (w_call (Tryz.func67) kr rfl (m3 (ex (pt rp 0)) e6 e6) (turn_t rp ou g cap bg x (Sha.trn true (a + 2)) om w0 r_rp) ?_)))))))))))))
 rintro _ w1 ⟨rfl, aa⟩
 refine ⟨_, rfl, ?_⟩
 replace r_rp := r_rp.step aa
 replace hk := thenB hk aa
 refine w_as e6 (nt (wp_seq (sr (w_mv eb (nt (c_ff eb (wp_skip (then_n (wp_seq (region_q ShaRT.mixed kr (q_mv (ex (pt rp 0)) (q_mv e6 (q_mv (ex (pt rp 0)) (q_mv ei (q_val (fun w' hw' => y_nc (ex (pt rp 0))) (q_val (v := pt rp 13) (fun w' hw' => y_off (y_fa (ex (pt rp 0)) (ShaRT.fa96_6 _ _)) ro) (q_val (v := pt rp (13 + a)) (fun w' hw' => y_off (y_ia1 (i := a) (ex (pt rp 13)) ei Tryz.underlying94 ShaRT.sz87 om om) ro) (q_val (v := U64 (BitVec.ofNat 64 (Sha.trn true a))) (fun w' hw' => y_ld (ex (pt rp (13 + a))) ShaRT.sc87 (cls_cell (r_rp.val om (ng (ng (ng (ng (ng (ng dv))))))) r_rp.lt w' hw')) (q_call (v := U64 (Sha.tn true x (Sha.trn true a))) (Tryz.func67) kr rfl (m3 (ex (pt rp 0)) e6 e6) (fun w' hw' => turn_t rp ou g cap bg x (Sha.trn true a) om w' (r_rp.step hw')) (q_mv (ex (pt rp 0)) (q_mv e6 (q_mv (ex (pt rp 0)) (q_mv ei (q_val (fun w' hw' => y_bin ei Ev.c (b_add om)) (q_val (fun w' hw' => y_nc (ex (pt rp 0))) (q_val (v := pt rp 13) (fun w' hw' => y_off (y_fa (ex (pt rp 0)) (ShaRT.fa96_6 _ _)) ro) (q_val (v := pt rp (13 + (a + 1))) (fun w' hw' => y_off (y_ia1 (i := (a + 1)) (ex (pt rp 13)) ei Tryz.underlying94 ShaRT.sz87 om om) ro) (q_val (v := U64 (BitVec.ofNat 64 (Sha.trn true (a + 1)))) (fun w' hw' => y_ld (ex (pt rp (13 + (a + 1)))) ShaRT.sc87 (cls_cell (r_rp.val om (ng (ng (ng (ng (ng (ng dv))))))) r_rp.lt w' hw')) (q_call (v := U64 (Sha.tn true x (Sha.trn true (a + 1)))) (Tryz.func67) kr rfl (m3 (ex (pt rp 0)) e6 e6) (fun w' hw' => turn_t rp ou g cap bg x (Sha.trn true (a + 1)) om w' (r_rp.step hw')) (q_val (fun w' hw' => y_bin e6 e6 xor64) (q_mv e6 (q_val (fun w' hw' => y_bin e6 e6 xor64) (q_as e6 (q_nil ?_))))))))))))))))))))))))))))))))))
 intro w3 ab
 replace r_rp := r_rp.step ab
 replace hk := thenB hk ab
 refine then_n (wp_ret (fin_ret1 rfl e6 ?_))
 refine ⟨congrArg Ending.returned ?_, hk⟩
 show (U64 (((Sha.tn true x (Sha.trn true a)) ^^^ (Sha.tn true x (Sha.trn true (a + 1)))) ^^^ (Sha.tn true x (Sha.trn true (a + 2)))) : Value) = U64 (Sha.th true x a false)
 rfl

theorem block_t (rp ou g cap : Nat) (bg : Nat → BitVec 64) (hh : Nat → BitVec 64) (s : List (BitVec 8)) (hs : s.length = 64) (w0 : World) (r_rp : Row w0 rp 96 25 (Sha.rrow (.int .i64 256) (.int .i64 ((ou : Nat) : Int)) (.int .i64 64) (.int .i64 64) (.slice (some ⟨g, 0, none⟩) 64 cap) bg (fun i => U64 (BitVec.ofNat 64 (Sha.trn true i))))) (r_g : Row w0 g 92 64 (fun j => U64 (Sha.K true j))) : Calls Tryz.prog 54 #[pt rp 0, .agg (arr 8 (fun j => U64 (hh j))), .string (str s)] w0 fun e w' => e = .returned (.agg (arr 8 (fun j => U64 (Sha.comp true (gb s) hh j)))) ∧ Below w0.heap.size w0 w' := by
 refine enter (n := 183) Tryz.func54 rfl rfl rfl ?_
 have hk : Below w0.heap.size w0 w0 := Below.refl _ _
 have ee := r_rp.lt
 have eh := r_g.lt
 refine sr (w_box (m := 8) (F := fun j => U64 (hh j)) ea rfl ?_)
 intro a7 w1 a0 aa ed
 have dd := r_rp.nb a0
 have dj := r_g.nb a0
 have d4 := gb_ hk.size a0
 clear a0
 replace r_rp := r_rp.step ed
 replace r_g := r_g.step ed
 replace hk := thenB hk ed
 refine w_alloc (m := 8) (F := fun j => U64 (0#64)) kr ?_
 intro bk w3 aq ac d1
 have df := r_rp.nb aq
 have dx := r_g.nb aq
 have cy := aa.nb aq
 have d7 := gb_ hk.size aq
 clear aq
 replace r_rp := r_rp.step d1
 replace r_g := r_g.step d1
 replace aa := aa.step d1
 replace hk := thenB hk d1
 refine nt (sr (w_as Ev.c (nt (sr (w_mv (ex (pt rp 0)) (w_val (y_nc (ex (pt rp 0))) (w_val (v := pt rp 2) (y_off (y_fa (ex (pt rp 0)) (ShaRT.fa96_2 _ _)) ro) (w_val (v := .int .i64 64) (y_ld (ex (pt rp 2)) ShaRT.sc3 (r_rp.val om (ng (ng pz)))) (w_val (y_bin ei Ev.c (b_quo om)) (w_as ei (nt (wp_seq (sr (w_as Ev.c (nt (wp_block ?_))))))))))))))))
 refine c_loop (fun dN aN wl => ∃ (i : Nat) (va : Value), dN = (64 - i) ∧ ∃ f5, aN = fr 183 f5 ∧ (i ≤ 64) ∧ f5 0 = pt rp 0 ∧ f5 2 = .string (str s) ∧ f5 4 = pt a7 0 ∧ f5 6 = pt bk 0 ∧ f5 7 = va ∧ f5 8 = .int .i64 4 ∧ f5 9 = .int .i64 ((i : Nat) : Int) ∧ Row wl rp 96 25 (Sha.rrow (.int .i64 256) (.int .i64 ((ou : Nat) : Int)) (.int .i64 64) (.int .i64 64) (.slice (some ⟨g, 0, none⟩) 64 cap) bg (fun i => U64 (BitVec.ofNat 64 (Sha.trn true i)))) ∧ Row wl g 92 64 (fun j => U64 (Sha.K true j)) ∧ Row wl a7 93 8 (fun j => U64 (hh j)) ∧ Row wl bk 93 8 (fun j => U64 (0#64)) ∧ Own wl w0.heap.size 92 1 va i (fun j => U64 (Sha.w true (gb s) j)) ∧ va.ownBlock ≠ some rp ∧ va.ownBlock ≠ some g ∧ va.ownBlock ≠ some a7 ∧ va.ownBlock ≠ some bk ∧ Below w0.heap.size w0 wl) (64 - 0) ?_ ?_
 · exact ⟨0, (.slice none 0 0), rfl, _, rfl, iv, rfl, rfl, rfl, rfl, (etv (b := .slice none 0 0) rfl), rfl, ti, r_rp, r_g, aa, ac, Own.nil, (fun e => by cases e), (fun e => by cases e), (fun e => by cases e), (fun e => by cases e), hk⟩
 ·skip
  clear r_rp r_g aa ac hk
  rintro _ _ w6 ⟨i, va, rfl, f5, rfl, em, bz, dy, cm, da, bp, dm, bi, r_rp, r_g, aa, ac, ak, al, ap, ag, ah, hk⟩
  refine wp_seq (sr (w_mv (ei bi) (w_mv (ex (pt rp 0) bz) (w_val (y_nc (ex (pt rp 0))) (w_val (v := pt rp 3) (y_off (y_fa (ex (pt rp 0)) (ShaRT.fa96_3 _ _)) ro) (w_val (v := .int .i64 64) (y_ld (ex (pt rp 3)) ShaRT.sc3 (r_rp.val om (ng (ng (ng pz))))) (w_val (y_bin ei ei b_lss) (nt ?_))))))))
  refine c_if (p := ((i : Nat) : Int) < 64) eb (fun hc7 => ?_) (fun hc7 => ?_)
  ·skip
   refine wp_skip (then_n (wp_seq (wp_block (sr (w_as (evc (U64 (0#64))) (nt (wp_seq (sr (w_mv (ei bi) (w_val (y_bin ei Ev.c b_lss) (nt ?_)))))))))))
   refine c_if (p := ((i : Nat) : Int) < 16) eb (fun hc8 => ?_) (fun hc8 => ?_)
   ·skip
    refine sr (w_as Ev.c (nt (wp_block ?_)))
    refine c_loop (fun dN aN wl => ∃ (k : Nat) (vb : Value), dN = (4 - k) ∧ ∃ f9, aN = fr 183 f9 ∧ (k ≤ 4) ∧ f9 0 = pt rp 0 ∧ f9 2 = .string (str s) ∧ f9 4 = pt a7 0 ∧ f9 6 = pt bk 0 ∧ f9 7 = vb ∧ f9 8 = .int .i64 4 ∧ f9 9 = .int .i64 ((i : Nat) : Int) ∧ f9 10 = U64 (Sha.bw (fun j => gb s (4 * i + j)) k) ∧ f9 11 = .int .i64 ((k : Nat) : Int) ∧ Row wl rp 96 25 (Sha.rrow (.int .i64 256) (.int .i64 ((ou : Nat) : Int)) (.int .i64 64) (.int .i64 64) (.slice (some ⟨g, 0, none⟩) 64 cap) bg (fun i => U64 (BitVec.ofNat 64 (Sha.trn true i)))) ∧ Row wl g 92 64 (fun j => U64 (Sha.K true j)) ∧ Row wl a7 93 8 (fun j => U64 (hh j)) ∧ Row wl bk 93 8 (fun j => U64 (0#64)) ∧ Own wl w0.heap.size 92 1 vb i (fun j => U64 (Sha.w true (gb s) j)) ∧ vb.ownBlock ≠ some rp ∧ vb.ownBlock ≠ some g ∧ vb.ownBlock ≠ some a7 ∧ vb.ownBlock ≠ some bk ∧ Below w0.heap.size w0 wl) (4 - 0) ?_ ?_
    · exact ⟨0, va, rfl, _, rfl, iv, bz, dy, cm, da, (Eq.trans (b := va) bp dv), dm, bi, (Eq.trans (b := U64 (0#64)) rfl (by rfl)), ti, r_rp, r_g, aa, ac, ak, al, ap, ag, ah, hk⟩
    ·skip
     clear r_rp r_g aa ac ak hk
     rintro _ _ eu ⟨k, vb, rfl, f9, rfl, ek, dw, c9, dl, du, ds, co, c6, cs, cj, r_rp, r_g, aa, ac, bn, a3, a9, ax, aw, hk⟩
     refine wp_seq (sr (w_mv (ei cj) (w_mv (ei co) (w_val (y_bin ei ei b_lss) (nt ?_)))))
     refine c_if (p := ((k : Nat) : Int) < 4) eb (fun hc11 => ?_) (fun hc11 => ?_)
     ·skip
      refine wp_skip (then_n (wp_seq (wp_block (wp_region_lit (w_mv (e6 cs) (w_val (y_bin e6 (evc (U64 (256#64))) mul64) (w_mv (es c9) (w_mv (ei co) (w_mv (ei c6) (w_val (y_bin ei ei (b_mul om)) (w_mv (ei cj) (w_val (y_bin ei ei (b_add om)) (w_val (v := U8 (gb s ((4 * i) + k))) (y_idx (ex (.string (str s))) ei Tryz.underlying9 om om) (w_val (y_u8_u64 e8 ShaRT.so5 Tryz.underlying92) (w_val (y_bin e6 e6 add64) (w_as e6 (wpList_nil (inb_n (then_n (wp_region_lit (w_mv (ei cj) (w_val (y_bin ei Ev.c (b_add om)) (w_as ei (wpList_nil ?_))))))))))))))))))))))))
      exact then_n ⟨_, om, k + 1, vb, rfl, _, rfl, iv, dw, c9, dl, du, ds, co, c6, (Eq.trans (b := U64 (((Sha.bw (fun j => gb s (4 * i + j)) k) * (256#64)) + ((gb s ((4 * i) + k)).setWidth 64))) rfl (by rfl)), ti, r_rp, r_g, aa, ac, bn, a3, a9, ax, aw, hk⟩
     ·skip
      refine wp_exit (then_x (then_x (inb_x (then_n (wp_region_lit (w_mv (ex vb ds) (w_mv (e6 cs) (w_bs1 (m := 1) (e := 92) (F := fun j => U64 (Sha.bw (fun j => gb s (4 * i + j)) k)) e6 (fun w => by kernel_rfl) ?_))))))))
      intro db e5 ad aj b4
      have bv := r_rp.nb ad
      have b5 := r_g.nb ad
      have bb := aa.nb ad
      have bc := ac.nb ad
      have a2 : vb.ownBlock ≠ some db := bn.apart om
      have cp := gb_ hk.size ad
      clear ad
      replace bn := bn.step b4
      replace r_rp := r_rp.step b4
      replace r_g := r_g.step b4
      replace aa := aa.step b4
      replace ac := ac.step b4
      replace hk := thenB hk b4
      refine w_app (k := i) (m := 1) (size := 1) (bytes := 8) (ex vb) el Tryz.underlying91 kr (by decide) bn hk.size aj om oca (by simp only [maxLen]; omega) om ?_
      intro eg ev di b2 cf
      have b6 := no_new a3 r_rp.lt cf
      replace r_rp := r_rp.stepO b2 a3
      have ci := no_new a9 r_g.lt cf
      replace r_g := r_g.stepO b2 a9
      have bx := no_new ax aa.lt cf
      replace aa := aa.stepO b2 ax
      have bu := no_new aw ac.lt cf
      replace ac := ac.stepO b2 aw
      have cx := no_new a2 aj.lt cf
      replace aj := aj.stepO b2 a2
      replace hk := thenO hk b2 (fun g e => (bn.block_lt g e).2)
      clear bn
      refine w_as (ex eg) (wpList_nil (inb_n (then_n (wp_region_lit (w_mv (ei c6) (w_val (y_bin ei Ev.c (b_add om)) (w_as ei (wpList_nil ?_))))))))
      exact then_n ⟨_, om, i + 1, eg, rfl, _, rfl, iv, dw, c9, dl, du, rfl, co, ti, (r_rp.cg), r_g, aa, ac, (own_n (di.congr (fun j hj => by (try dsimp only); by_cases e : j < i * 1; (rw [if_pos e]); (rw [if_neg e, show j = i from by omega]; first | exact congrArg U64 (Sha.w_lo_k true (gb s) i k om (by show k = 4; omega)).symm | exact congrArg U64 (Sha.w_hi true (gb s) i om).symm))) om), b6, ci, bx, bu, hk⟩
   ·skip
    obtain ⟨cd, b0, cl, d9, d8, az, af⟩ := ak.opened om
    have dh : rp ≠ cd := fun e => al (by rw [az, e])
    have dt : g ≠ cd := fun e => ap (by rw [az, e])
    have c8 : a7 ≠ cd := fun e => ag (by rw [az, e])
    have c4 : bk ≠ cd := fun e => ah (by rw [az, e])
    refine region_q ShaRT.mixed kr (q_mv (ex (pt rp 0) bz) (q_mv (ex (pt rp 0) bz) (q_mv (ex va bp) (q_mv (ei bi) (q_val (fun w' hw' => y_bin ei Ev.c (b_sub om)) (q_val (fun w' hw' => y_is1z (i := (i - 2)) (ex (.slice (some ⟨cd, 0, none⟩) i b0) (Eq.trans (b := va) rfl cl)) ei Tryz.underlying91 ShaRT.sz92 om om) (q_val (v := U64 (Sha.w true (gb s) (i - 2))) (fun w' hw' => y_ld (ex (pt cd (i - 2))) ShaRT.sc92 (cls_cell (af.val om rfl) af.lt w' hw')) (q_call (v := U64 (Sha.th true (Sha.w true (gb s) (i - 2)) 3 true)) (Tryz.func63) kr rfl (m4 (ex (pt rp 0)) e6 Ev.c Ev.c) (fun w' hw' => three_tt rp ou g cap bg (Sha.w true (gb s) (i - 2)) 3 om w' (r_rp.step hw')) (q_mv (ex va bp) (q_mv (ei bi) (q_val (fun w' hw' => y_bin ei Ev.c (b_sub om)) (q_val (fun w' hw' => y_is1z (i := (i - 7)) (ex (.slice (some ⟨cd, 0, none⟩) i b0) (Eq.trans (b := va) rfl cl)) ei Tryz.underlying91 ShaRT.sz92 om om) (q_val (v := U64 (Sha.w true (gb s) (i - 7))) (fun w' hw' => y_ld (ex (pt cd (i - 7))) ShaRT.sc92 (cls_cell (af.val om rfl) af.lt w' hw')) (q_val (fun w' hw' => y_bin e6 e6 add64) (q_mv (ex (pt rp 0) bz) (q_mv (ex va bp) (q_mv (ei bi) (q_val (fun w' hw' => y_bin ei Ev.c (b_sub om)) (q_val (fun w' hw' => y_is1z (i := (i - 15)) (ex (.slice (some ⟨cd, 0, none⟩) i b0) (Eq.trans (b := va) rfl cl)) ei Tryz.underlying91 ShaRT.sz92 om om) (q_val (v := U64 (Sha.w true (gb s) (i - 15))) (fun w' hw' => y_ld (ex (pt cd (i - 15))) ShaRT.sc92 (cls_cell (af.val om rfl) af.lt w' hw')) (q_call (v := U64 (Sha.th true (Sha.w true (gb s) (i - 15)) 0 true)) (Tryz.func63) kr rfl (m4 (ex (pt rp 0)) e6 Ev.c Ev.c) (fun w' hw' => three_tt rp ou g cap bg (Sha.w true (gb s) (i - 15)) 0 om w' (r_rp.step hw')) (q_val (fun w' hw' => y_bin e6 e6 add64) (q_mv (ex va bp) (q_mv (ei bi) (q_val (fun w' hw' => y_bin ei Ev.c (b_sub om)) (q_val (fun w' hw' => y_is1z (i := (i - 16)) (ex (.slice (some ⟨cd, 0, none⟩) i b0) (Eq.trans (b := va) rfl cl)) ei Tryz.underlying91 ShaRT.sz92 om om) (q_val (v := U64 (Sha.w true (gb s) (i - 16))) (fun w' hw' => y_ld (ex (pt cd (i - 16))) ShaRT.sc92 (cls_cell (af.val om rfl) af.lt w' hw')) (q_val (fun w' hw' => y_bin e6 e6 add64) (q_call (v := U64 (Sha.wd true ((((Sha.th true (Sha.w true (gb s) (i - 2)) 3 true) + (Sha.w true (gb s) (i - 7))) + (Sha.th true (Sha.w true (gb s) (i - 15)) 0 true)) + (Sha.w true (gb s) (i - 16))))) (Tryz.func62) kr rfl (m2 (ex (pt rp 0)) e6) (fun w' hw' => word_t rp ou g cap bg ((((Sha.th true (Sha.w true (gb s) (i - 2)) 3 true) + (Sha.w true (gb s) (i - 7))) + (Sha.th true (Sha.w true (gb s) (i - 15)) 0 true)) + (Sha.w true (gb s) (i - 16))) w' (r_rp.step hw')) (q_as e6 (q_nil ?_)))))))))))))))))))))))))))))))
    intro e7 bt
    replace ak := ak.step bt
    replace r_rp := r_rp.step bt
    replace r_g := r_g.step bt
    replace aa := aa.step bt
    replace ac := ac.step bt
    replace af := af.step bt
    replace hk := thenB hk bt
    refine then_n (wp_region_lit (w_mv (ex va bp) (w_mv e6 (w_bs1 (m := 1) (e := 92) (F := fun j => U64 (Sha.wd true ((((Sha.th true (Sha.w true (gb s) (i - 2)) 3 true) + (Sha.w true (gb s) (i - 7))) + (Sha.th true (Sha.w true (gb s) (i - 15)) 0 true)) + (Sha.w true (gb s) (i - 16))))) e6 (fun w => by kernel_rfl) ?_))))
    intro db et ad aj bl
    have bv := r_rp.nb ad
    have b5 := r_g.nb ad
    have bb := aa.nb ad
    have bc := ac.nb ad
    have ct := af.nb ad
    have a4 : va.ownBlock ≠ some db := ak.apart om
    have cp := gb_ hk.size ad
    clear ad
    replace ak := ak.step bl
    replace r_rp := r_rp.step bl
    replace r_g := r_g.step bl
    replace aa := aa.step bl
    replace ac := ac.step bl
    replace af := af.step bl
    replace hk := thenB hk bl
    clear af
    refine w_app (k := i) (m := 1) (size := 1) (bytes := 8) (ex va) el Tryz.underlying91 kr (by decide) ak hk.size aj om oca (by simp only [maxLen]; omega) om ?_
    intro ef e3 dz b9 ch
    have cb := no_new al r_rp.lt ch
    replace r_rp := r_rp.stepO b9 al
    have ck := no_new ap r_g.lt ch
    replace r_g := r_g.stepO b9 ap
    have bo := no_new ag aa.lt ch
    replace aa := aa.stepO b9 ag
    have bm := no_new ah ac.lt ch
    replace ac := ac.stepO b9 ah
    have cw := no_new a4 aj.lt ch
    replace aj := aj.stepO b9 a4
    replace hk := thenO hk b9 (fun g e => (ak.block_lt g e).2)
    clear ak
    refine w_as (ex ef) (wpList_nil (inb_n (then_n (wp_region_lit (w_mv (ei bi) (w_val (y_bin ei Ev.c (b_add om)) (w_as ei (wpList_nil ?_))))))))
    exact then_n ⟨_, om, i + 1, ef, rfl, _, rfl, iv, bz, dy, cm, da, rfl, dm, ti, (r_rp.cg), r_g, aa, ac, (own_n (dz.congr (fun j hj => by (try dsimp only); by_cases e : j < i * 1; (rw [if_pos e]); (rw [if_neg e, show j = i from by omega]; first | exact congrArg U64 (Sha.w_lo_k true (gb s) i k om (by show k = 4; omega)).symm | exact congrArg U64 (Sha.w_hi true (gb s) i om).symm))) om), cb, ck, bo, bm, hk⟩
  ·skip
   refine wp_exit (then_x (then_x (inb_x (then_n (sr (w_val (v := .agg (arr 8 (fun j => U64 (hh j)))) (y_lda (ex (pt a7 0) cm) ShaRT.ag93 ShaRT.sz93 (fun j hj => by rw [Nat.zero_add]; exact (aa.cell om))) (w_alloc (m := 8) (F := fun j => U64 (0#64)) kr ?_)))))))
   intro ai e4 an ab ca
   have dg := r_rp.nb an
   have dn := r_g.nb an
   have c3 := aa.nb an
   have c0 := ac.nb an
   have a6 : va.ownBlock ≠ some ai := ak.apart om
   have d5 := gb_ hk.size an
   clear an
   replace ak := ak.step ca
   replace r_rp := r_rp.step ca
   replace r_g := r_g.step ca
   replace aa := aa.step ca
   replace ac := ac.step ca
   replace hk := thenB hk ca
   refine w_sta (k := 8) (G := fun j => U64 (hh j)) (ex (pt ai 0)) ea oc ShaRT.sz93 ab om ?_
   clear ab; intro e1 ab b7 _
   replace ab := ab.congr (g := fun j => U64 (hh j)) (fun j hj => by rw [if_pos ⟨Nat.zero_le _, by omega⟩]; first | rfl | (simp only [Nat.sub_zero]))
   replace ak := ak.stepG b7 a6
   replace r_rp := r_rp.stepG b7 om
   replace r_g := r_g.stepG b7 om
   replace aa := aa.stepG b7 om
   replace ac := ac.stepG b7 om
   replace hk := thenG hk b7 om
   refine nt (wp_seq (sr (w_as Ev.c (nt (wp_block ?_)))))
   refine c_loop (fun dN aN wl => ∃ (t : Nat) (vc : Value), dN = (64 - t) ∧ ∃ cv, aN = fr 183 cv ∧ (t ≤ 64) ∧ cv 0 = pt rp 0 ∧ cv 4 = pt a7 0 ∧ cv 6 = pt bk 0 ∧ cv 7 = vc ∧ cv 12 = pt ai 0 ∧ cv 13 = .int .i64 ((t : Nat) : Int) ∧ Row wl rp 96 25 (Sha.rrow (.int .i64 256) (.int .i64 ((ou : Nat) : Int)) (.int .i64 64) (.int .i64 64) (.slice (some ⟨g, 0, none⟩) 64 cap) bg (fun i => U64 (BitVec.ofNat 64 (Sha.trn true i)))) ∧ Row wl g 92 64 (fun j => U64 (Sha.K true j)) ∧ Row wl a7 93 8 (fun j => U64 (hh j)) ∧ Row wl bk 93 8 (fun j => U64 (0#64)) ∧ Row wl ai 93 8 (fun j => U64 (Sha.vs true (gb s) hh t j)) ∧ Own wl w0.heap.size 92 1 vc 64 (fun j => U64 (Sha.w true (gb s) j)) ∧ vc.ownBlock ≠ some rp ∧ vc.ownBlock ≠ some g ∧ vc.ownBlock ≠ some a7 ∧ vc.ownBlock ≠ some bk ∧ vc.ownBlock ≠ some ai ∧ Below w0.heap.size w0 wl) (64 - 0) ?_ ?_
   · exact ⟨0, va, rfl, _, rfl, iv, bz, cm, da, (Eq.trans (b := va) bp dv), rfl, ti, r_rp, r_g, aa, ac, (ab.congr (fun j hj => by rfl)), (own_n (ak.cg) om), al, ap, ag, ah, a6, hk⟩
   ·skip
    clear r_rp r_g aa ac ab ak hk
    rintro _ _ ew ⟨t, vc, rfl, cv, rfl, en, bj, dq, dp, c5, ae, b1, r_rp, r_g, aa, ac, ab, ay, a1, ba, au, av, am, hk⟩
    refine wp_seq (sr (w_mv (ei b1) (w_mv (ex (pt rp 0) bj) (w_val (y_nc (ex (pt rp 0))) (w_val (v := pt rp 3) (y_off (y_fa (ex (pt rp 0)) (ShaRT.fa96_3 _ _)) ro) (w_val (v := .int .i64 64) (y_ld (ex (pt rp 3)) ShaRT.sc3 (r_rp.val om (ng (ng (ng pz))))) (w_val (y_bin ei ei b_lss) (nt ?_))))))))
    refine c_if (p := ((t : Nat) : Int) < 64) eb (fun hc33 => ?_) (fun hc33 => ?_)
    ·skip
     refine wp_skip (then_n (wp_seq (wp_block (sr (w_val (y_ia1z (i := 4) (ex (pt ai 0) ae) Ev.c Tryz.underlying93 ShaRT.sz92 om om) (w_val (v := U64 (Sha.vs true (gb s) hh t 4)) (y_ld (ex (pt ai 4)) ShaRT.sc92 (ab.val om rfl)) (w_as e6 (nt (sr (w_val (y_ia1z (i := 0) (ex (pt ai 0) ae) Ev.c Tryz.underlying93 ShaRT.sz92 om om) (w_val (v := U64 (Sha.vs true (gb s) hh t 0)) (y_ld (ex (pt ai 0)) ShaRT.sc92 (ab.val om rfl)) (w_as e6 (nt (wp_seq ?_))))))))))))))
     obtain ⟨dc, dr, ec, d2, d6, ar, ao⟩ := ay.opened om
     have de : rp ≠ dc := fun e => a1 (by rw [ar, e])
     have dk : g ≠ dc := fun e => ba (by rw [ar, e])
     have c2 : a7 ≠ dc := fun e => au (by rw [ar, e])
     have cz : bk ≠ dc := fun e => av (by rw [ar, e])
     have c7 : ai ≠ dc := fun e => am (by rw [ar, e])
     refine region_q ShaRT.mixed kr (q_val (fun w' hw' => y_ia1z (i := 7) (ex (pt ai 0) ae) Ev.c Tryz.underlying93 ShaRT.sz92 om om) (q_val (v := U64 (Sha.vs true (gb s) hh t 7)) (fun w' hw' => y_ld (ex (pt ai 7)) ShaRT.sc92 (cls_cell (ab.val om rfl) ab.lt w' hw')) (q_mv (ex (pt rp 0) bj) (q_mv e6 (q_call (v := U64 (Sha.th true (Sha.vs true (gb s) hh t 4) 9 false)) (Tryz.func63) kr rfl (m4 (ex (pt rp 0)) e6 Ev.c Ev.c) (fun w' hw' => three_tf rp ou g cap bg (Sha.vs true (gb s) hh t 4) 9 om w' (r_rp.step hw')) (q_val (fun w' hw' => y_bin e6 e6 add64) (q_mv e6 (q_val (fun w' hw' => y_ia1z (i := 5) (ex (pt ai 0) ae) Ev.c Tryz.underlying93 ShaRT.sz92 om om) (q_val (v := U64 (Sha.vs true (gb s) hh t 5)) (fun w' hw' => y_ld (ex (pt ai 5)) ShaRT.sc92 (cls_cell (ab.val om rfl) ab.lt w' hw')) (q_val (fun w' hw' => y_bin e6 e6 and64) (q_mv e6 (q_val (v := U64 (~~~(Sha.vs true (gb s) hh t 4))) (fun w' hw' => y_not64 e6) (q_val (fun w' hw' => y_ia1z (i := 6) (ex (pt ai 0) ae) Ev.c Tryz.underlying93 ShaRT.sz92 om om) (q_val (v := U64 (Sha.vs true (gb s) hh t 6)) (fun w' hw' => y_ld (ex (pt ai 6)) ShaRT.sc92 (cls_cell (ab.val om rfl) ab.lt w' hw')) (q_val (fun w' hw' => y_bin e6 e6 and64) (q_val (fun w' hw' => y_bin e6 e6 xor64) (q_val (fun w' hw' => y_bin e6 e6 add64) (q_mv (ex (pt rp 0) bj) (q_val (fun w' hw' => y_nc (ex (pt rp 0))) (q_val (v := pt rp 4) (fun w' hw' => y_off (y_fa (ex (pt rp 0)) (ShaRT.fa96_4 _ _)) ro) (q_val (v := .slice (some ⟨g, 0, none⟩) 64 cap) (fun w' hw' => y_ld (ex (pt rp 4)) ShaRT.sc91 (cls_cell (r_rp.val om (ng (ng (ng (ng pz))))) r_rp.lt w' hw')) (q_mv (ei b1) (q_val (fun w' hw' => y_is1z (i := t) el ei Tryz.underlying91 ShaRT.sz92 om om) (q_val (v := U64 (Sha.K true t)) (fun w' hw' => y_ld (ex (pt g t)) ShaRT.sc92 (cls_cell (r_g.val om rfl) r_g.lt w' hw')) (q_val (fun w' hw' => y_bin e6 e6 add64) (q_mv (ex vc c5) (q_mv (ei b1) (q_val (fun w' hw' => y_is1z (i := t) (ex (.slice (some ⟨dc, 0, none⟩) 64 dr) (Eq.trans (b := vc) rfl ec)) ei Tryz.underlying91 ShaRT.sz92 om om) (q_val (v := U64 (Sha.w true (gb s) t)) (fun w' hw' => y_ld (ex (pt dc t)) ShaRT.sc92 (cls_cell (ao.val om rfl) ao.lt w' hw')) (q_val (fun w' hw' => y_bin e6 e6 add64) (q_as e6 (q_nil ?_))))))))))))))))))))))))))))))))
     intro eq be
     replace ay := ay.step be
     replace r_rp := r_rp.step be
     replace r_g := r_g.step be
     replace aa := aa.step be
     replace ac := ac.step be
     replace ab := ab.step be
     replace ao := ao.step be
     replace hk := thenB hk be
     refine then_n (wp_seq (region_q ShaRT.mixed kr (q_mv (ex (pt rp 0) bj) (q_mv e6 (q_call (v := U64 (Sha.th true (Sha.vs true (gb s) hh t 0) 6 false)) (Tryz.func63) kr rfl (m4 (ex (pt rp 0)) e6 Ev.c Ev.c) (fun w' hw' => three_tf rp ou g cap bg (Sha.vs true (gb s) hh t 0) 6 om w' (r_rp.step hw')) (q_mv e6 (q_val (fun w' hw' => y_ia1z (i := 1) (ex (pt ai 0) ae) Ev.c Tryz.underlying93 ShaRT.sz92 om om) (q_val (v := U64 (Sha.vs true (gb s) hh t 1)) (fun w' hw' => y_ld (ex (pt ai 1)) ShaRT.sc92 (cls_cell (ab.val om rfl) ab.lt w' hw')) (q_val (fun w' hw' => y_bin e6 e6 and64) (q_mv e6 (q_val (fun w' hw' => y_ia1z (i := 2) (ex (pt ai 0) ae) Ev.c Tryz.underlying93 ShaRT.sz92 om om) (q_val (v := U64 (Sha.vs true (gb s) hh t 2)) (fun w' hw' => y_ld (ex (pt ai 2)) ShaRT.sc92 (cls_cell (ab.val om rfl) ab.lt w' hw')) (q_val (fun w' hw' => y_bin e6 e6 and64) (q_val (fun w' hw' => y_bin e6 e6 xor64) (q_val (fun w' hw' => y_ia1z (i := 1) (ex (pt ai 0) ae) Ev.c Tryz.underlying93 ShaRT.sz92 om om) (q_val (v := U64 (Sha.vs true (gb s) hh t 1)) (fun w' hw' => y_ld (ex (pt ai 1)) ShaRT.sc92 (cls_cell (ab.val om rfl) ab.lt w' hw')) (q_val (fun w' hw' => y_ia1z (i := 2) (ex (pt ai 0) ae) Ev.c Tryz.underlying93 ShaRT.sz92 om om) (q_val (v := U64 (Sha.vs true (gb s) hh t 2)) (fun w' hw' => y_ld (ex (pt ai 2)) ShaRT.sc92 (cls_cell (ab.val om rfl) ab.lt w' hw')) (q_val (fun w' hw' => y_bin e6 e6 and64) (q_val (fun w' hw' => y_bin e6 e6 xor64) (q_val (fun w' hw' => y_bin e6 e6 add64) (q_as e6 (q_nil ?_)))))))))))))))))))))))
     intro ep bh
     replace ay := ay.step bh
     replace r_rp := r_rp.step bh
     replace r_g := r_g.step bh
     replace aa := aa.step bh
     replace ac := ac.step bh
     replace ab := ab.step bh
     replace ao := ao.step bh
     replace hk := thenB hk bh
     refine then_n (region_t 22 ShaRT.mixed kr ?_)
     simp only [List.take_succ_cons, List.take_zero, List.drop_succ_cons, List.drop_zero]
     refine q_mv (ex (pt rp 0) bj) (q_mv e6 (q_mv e6 (q_val (fun w' hw' => y_bin e6 e6 add64) (q_call (v := U64 (Sha.wd true ((((((Sha.vs true (gb s) hh t 7) + (Sha.th true (Sha.vs true (gb s) hh t 4) 9 false)) + (((Sha.vs true (gb s) hh t 4) &&& (Sha.vs true (gb s) hh t 5)) ^^^ ((~~~(Sha.vs true (gb s) hh t 4)) &&& (Sha.vs true (gb s) hh t 6)))) + (Sha.K true t)) + (Sha.w true (gb s) t)) + ((Sha.th true (Sha.vs true (gb s) hh t 0) 6 false) + ((((Sha.vs true (gb s) hh t 0) &&& (Sha.vs true (gb s) hh t 1)) ^^^ ((Sha.vs true (gb s) hh t 0) &&& (Sha.vs true (gb s) hh t 2))) ^^^ ((Sha.vs true (gb s) hh t 1) &&& (Sha.vs true (gb s) hh t 2))))))) (Tryz.func62) kr rfl (m2 (ex (pt rp 0)) e6) (fun w' hw' => word_t rp ou g cap bg ((((((Sha.vs true (gb s) hh t 7) + (Sha.th true (Sha.vs true (gb s) hh t 4) 9 false)) + (((Sha.vs true (gb s) hh t 4) &&& (Sha.vs true (gb s) hh t 5)) ^^^ ((~~~(Sha.vs true (gb s) hh t 4)) &&& (Sha.vs true (gb s) hh t 6)))) + (Sha.K true t)) + (Sha.w true (gb s) t)) + ((Sha.th true (Sha.vs true (gb s) hh t 0) 6 false) + ((((Sha.vs true (gb s) hh t 0) &&& (Sha.vs true (gb s) hh t 1)) ^^^ ((Sha.vs true (gb s) hh t 0) &&& (Sha.vs true (gb s) hh t 2))) ^^^ ((Sha.vs true (gb s) hh t 1) &&& (Sha.vs true (gb s) hh t 2))))) w' (r_rp.step hw')) (q_mv e6 (q_val (fun w' hw' => y_ia1z (i := 1) (ex (pt ai 0) ae) Ev.c Tryz.underlying93 ShaRT.sz92 om om) (q_val (v := U64 (Sha.vs true (gb s) hh t 1)) (fun w' hw' => y_ld (ex (pt ai 1)) ShaRT.sc92 (cls_cell (ab.val om rfl) ab.lt w' hw')) (q_val (fun w' hw' => y_ia1z (i := 2) (ex (pt ai 0) ae) Ev.c Tryz.underlying93 ShaRT.sz92 om om) (q_val (v := U64 (Sha.vs true (gb s) hh t 2)) (fun w' hw' => y_ld (ex (pt ai 2)) ShaRT.sc92 (cls_cell (ab.val om rfl) ab.lt w' hw')) (q_mv (ex (pt rp 0) bj) (q_val (fun w' hw' => y_ia1z (i := 3) (ex (pt ai 0) ae) Ev.c Tryz.underlying93 ShaRT.sz92 om om) (q_val (v := U64 (Sha.vs true (gb s) hh t 3)) (fun w' hw' => y_ld (ex (pt ai 3)) ShaRT.sc92 (cls_cell (ab.val om rfl) ab.lt w' hw')) (q_mv e6 (q_val (fun w' hw' => y_bin e6 e6 add64) (q_call (v := U64 (Sha.wd true ((Sha.vs true (gb s) hh t 3) + (((((Sha.vs true (gb s) hh t 7) + (Sha.th true (Sha.vs true (gb s) hh t 4) 9 false)) + (((Sha.vs true (gb s) hh t 4) &&& (Sha.vs true (gb s) hh t 5)) ^^^ ((~~~(Sha.vs true (gb s) hh t 4)) &&& (Sha.vs true (gb s) hh t 6)))) + (Sha.K true t)) + (Sha.w true (gb s) t))))) (Tryz.func62) kr rfl (m2 (ex (pt rp 0)) e6) (fun w' hw' => word_t rp ou g cap bg ((Sha.vs true (gb s) hh t 3) + (((((Sha.vs true (gb s) hh t 7) + (Sha.th true (Sha.vs true (gb s) hh t 4) 9 false)) + (((Sha.vs true (gb s) hh t 4) &&& (Sha.vs true (gb s) hh t 5)) ^^^ ((~~~(Sha.vs true (gb s) hh t 4)) &&& (Sha.vs true (gb s) hh t 6)))) + (Sha.K true t)) + (Sha.w true (gb s) t))) w' (r_rp.step hw')) (q_mv e6 (q_val (fun w' hw' => y_ia1z (i := 5) (ex (pt ai 0) ae) Ev.c Tryz.underlying93 ShaRT.sz92 om om) (q_val (v := U64 (Sha.vs true (gb s) hh t 5)) (fun w' hw' => y_ld (ex (pt ai 5)) ShaRT.sc92 (cls_cell (ab.val om rfl) ab.lt w' hw')) (q_val (fun w' hw' => y_ia1z (i := 6) (ex (pt ai 0) ae) Ev.c Tryz.underlying93 ShaRT.sz92 om om) (q_val (v := U64 (Sha.vs true (gb s) hh t 6)) (fun w' hw' => y_ld (ex (pt ai 6)) ShaRT.sc92 (cls_cell (ab.val om rfl) ab.lt w' hw')) (q_val (v := .agg (arr 8 (fun j => if j < 1 then U64 (Sha.wd true ((((((Sha.vs true (gb s) hh t 7) + (Sha.th true (Sha.vs true (gb s) hh t 4) 9 false)) + (((Sha.vs true (gb s) hh t 4) &&& (Sha.vs true (gb s) hh t 5)) ^^^ ((~~~(Sha.vs true (gb s) hh t 4)) &&& (Sha.vs true (gb s) hh t 6)))) + (Sha.K true t)) + (Sha.w true (gb s) t)) + ((Sha.th true (Sha.vs true (gb s) hh t 0) 6 false) + ((((Sha.vs true (gb s) hh t 0) &&& (Sha.vs true (gb s) hh t 1)) ^^^ ((Sha.vs true (gb s) hh t 0) &&& (Sha.vs true (gb s) hh t 2))) ^^^ ((Sha.vs true (gb s) hh t 1) &&& (Sha.vs true (gb s) hh t 2)))))) else if j < 2 then U64 (Sha.vs true (gb s) hh t 0) else if j < 3 then U64 (Sha.vs true (gb s) hh t 1) else if j < 4 then U64 (Sha.vs true (gb s) hh t 2) else if j < 5 then U64 (Sha.wd true ((Sha.vs true (gb s) hh t 3) + (((((Sha.vs true (gb s) hh t 7) + (Sha.th true (Sha.vs true (gb s) hh t 4) 9 false)) + (((Sha.vs true (gb s) hh t 4) &&& (Sha.vs true (gb s) hh t 5)) ^^^ ((~~~(Sha.vs true (gb s) hh t 4)) &&& (Sha.vs true (gb s) hh t 6)))) + (Sha.K true t)) + (Sha.w true (gb s) t)))) else if j < 6 then U64 (Sha.vs true (gb s) hh t 4) else if j < 7 then U64 (Sha.vs true (gb s) hh t 5) else U64 (Sha.vs true (gb s) hh t 6)))) (fun w' hw' => y_build (vs := #[(0, U64 (Sha.wd true ((((((Sha.vs true (gb s) hh t 7) + (Sha.th true (Sha.vs true (gb s) hh t 4) 9 false)) + (((Sha.vs true (gb s) hh t 4) &&& (Sha.vs true (gb s) hh t 5)) ^^^ ((~~~(Sha.vs true (gb s) hh t 4)) &&& (Sha.vs true (gb s) hh t 6)))) + (Sha.K true t)) + (Sha.w true (gb s) t)) + ((Sha.th true (Sha.vs true (gb s) hh t 0) 6 false) + ((((Sha.vs true (gb s) hh t 0) &&& (Sha.vs true (gb s) hh t 1)) ^^^ ((Sha.vs true (gb s) hh t 0) &&& (Sha.vs true (gb s) hh t 2))) ^^^ ((Sha.vs true (gb s) hh t 1) &&& (Sha.vs true (gb s) hh t 2))))))), (1, U64 (Sha.vs true (gb s) hh t 0)), (2, U64 (Sha.vs true (gb s) hh t 1)), (3, U64 (Sha.vs true (gb s) hh t 2)), (4, U64 (Sha.wd true ((Sha.vs true (gb s) hh t 3) + (((((Sha.vs true (gb s) hh t 7) + (Sha.th true (Sha.vs true (gb s) hh t 4) 9 false)) + (((Sha.vs true (gb s) hh t 4) &&& (Sha.vs true (gb s) hh t 5)) ^^^ ((~~~(Sha.vs true (gb s) hh t 4)) &&& (Sha.vs true (gb s) hh t 6)))) + (Sha.K true t)) + (Sha.w true (gb s) t))))), (5, U64 (Sha.vs true (gb s) hh t 4)), (6, U64 (Sha.vs true (gb s) hh t 5)), (7, U64 (Sha.vs true (gb s) hh t 6))]) (mp_cons e6 (mp_cons e6 (mp_cons e6 (mp_cons e6 (mp_cons e6 (mp_cons e6 (mp_cons e6 (mp_cons e6 mp0)))))))) (fun w => by kernel_rfl)) (q_nil ?_))))))))))))))))))))))
     intro eo bf
     replace ay := ay.step bf
     replace r_rp := r_rp.step bf
     replace r_g := r_g.step bf
     replace aa := aa.step bf
     replace ac := ac.step bf
     replace ab := ab.step bf
     replace ao := ao.step bf
     replace hk := thenB hk bf
     refine w_sta (k := 8) (G := fun j => if j < 1 then U64 (Sha.wd true ((((((Sha.vs true (gb s) hh t 7) + (Sha.th true (Sha.vs true (gb s) hh t 4) 9 false)) + (((Sha.vs true (gb s) hh t 4) &&& (Sha.vs true (gb s) hh t 5)) ^^^ ((~~~(Sha.vs true (gb s) hh t 4)) &&& (Sha.vs true (gb s) hh t 6)))) + (Sha.K true t)) + (Sha.w true (gb s) t)) + ((Sha.th true (Sha.vs true (gb s) hh t 0) 6 false) + ((((Sha.vs true (gb s) hh t 0) &&& (Sha.vs true (gb s) hh t 1)) ^^^ ((Sha.vs true (gb s) hh t 0) &&& (Sha.vs true (gb s) hh t 2))) ^^^ ((Sha.vs true (gb s) hh t 1) &&& (Sha.vs true (gb s) hh t 2)))))) else if j < 2 then U64 (Sha.vs true (gb s) hh t 0) else if j < 3 then U64 (Sha.vs true (gb s) hh t 1) else if j < 4 then U64 (Sha.vs true (gb s) hh t 2) else if j < 5 then U64 (Sha.wd true ((Sha.vs true (gb s) hh t 3) + (((((Sha.vs true (gb s) hh t 7) + (Sha.th true (Sha.vs true (gb s) hh t 4) 9 false)) + (((Sha.vs true (gb s) hh t 4) &&& (Sha.vs true (gb s) hh t 5)) ^^^ ((~~~(Sha.vs true (gb s) hh t 4)) &&& (Sha.vs true (gb s) hh t 6)))) + (Sha.K true t)) + (Sha.w true (gb s) t)))) else if j < 6 then U64 (Sha.vs true (gb s) hh t 4) else if j < 7 then U64 (Sha.vs true (gb s) hh t 5) else U64 (Sha.vs true (gb s) hh t 6)) (ex (pt ai 0) ae) ea oc ShaRT.sz93 ab om ?_
     clear ab; intro e9 ab bq _
     replace ab := ab.congr (g := fun j => if j < 1 then U64 (Sha.wd true ((((((Sha.vs true (gb s) hh t 7) + (Sha.th true (Sha.vs true (gb s) hh t 4) 9 false)) + (((Sha.vs true (gb s) hh t 4) &&& (Sha.vs true (gb s) hh t 5)) ^^^ ((~~~(Sha.vs true (gb s) hh t 4)) &&& (Sha.vs true (gb s) hh t 6)))) + (Sha.K true t)) + (Sha.w true (gb s) t)) + ((Sha.th true (Sha.vs true (gb s) hh t 0) 6 false) + ((((Sha.vs true (gb s) hh t 0) &&& (Sha.vs true (gb s) hh t 1)) ^^^ ((Sha.vs true (gb s) hh t 0) &&& (Sha.vs true (gb s) hh t 2))) ^^^ ((Sha.vs true (gb s) hh t 1) &&& (Sha.vs true (gb s) hh t 2)))))) else if j < 2 then U64 (Sha.vs true (gb s) hh t 0) else if j < 3 then U64 (Sha.vs true (gb s) hh t 1) else if j < 4 then U64 (Sha.vs true (gb s) hh t 2) else if j < 5 then U64 (Sha.wd true ((Sha.vs true (gb s) hh t 3) + (((((Sha.vs true (gb s) hh t 7) + (Sha.th true (Sha.vs true (gb s) hh t 4) 9 false)) + (((Sha.vs true (gb s) hh t 4) &&& (Sha.vs true (gb s) hh t 5)) ^^^ ((~~~(Sha.vs true (gb s) hh t 4)) &&& (Sha.vs true (gb s) hh t 6)))) + (Sha.K true t)) + (Sha.w true (gb s) t)))) else if j < 6 then U64 (Sha.vs true (gb s) hh t 4) else if j < 7 then U64 (Sha.vs true (gb s) hh t 5) else U64 (Sha.vs true (gb s) hh t 6)) (fun j hj => by rw [if_pos ⟨Nat.zero_le _, by omega⟩]; first | rfl | (simp only [Nat.sub_zero]))
     replace ay := ay.stepG bq am
     replace r_rp := r_rp.stepG bq om
     replace r_g := r_g.stepG bq om
     replace aa := aa.stepG bq om
     replace ac := ac.stepG bq om
     replace ao := ao.stepG bq om
     replace hk := thenG hk bq om
     refine wpList_nil (inb_n (then_n (wp_region_lit (w_mv (ei b1) (w_val (y_bin ei Ev.c (b_add om)) (w_as ei (wpList_nil ?_)))))))
     exact then_n ⟨_, om, t + 1, vc, rfl, _, rfl, iv, bj, dq, dp, c5, ae, ti, r_rp, r_g, aa, ac, (ab.congr (fun j hj => by exact Sha.rnd_row true (gb s) hh t j hj _ _ rfl rfl)), ay, a1, ba, au, av, am, hk⟩
    ·skip
     refine wp_exit (then_x ?_)
     replace ab := ab.congr (g := fun j => U64 (Sha.vs true (gb s) hh 64 j)) (fun j hj => by rw [show t = 64 from by omega])
     refine then_x (inb_x (then_n (wp_seq (sr (w_as Ev.c (nt (wp_block ?_)))))))
     refine c_loop (fun dN aN wl => ∃ (q : Nat) (vd : Value), dN = (8 - q) ∧ ∃ cu, aN = fr 183 cu ∧ (q ≤ 8) ∧ cu 0 = pt rp 0 ∧ cu 4 = pt a7 0 ∧ cu 6 = pt bk 0 ∧ cu 7 = vd ∧ cu 12 = pt ai 0 ∧ cu 18 = .int .i64 ((q : Nat) : Int) ∧ Row wl rp 96 25 (Sha.rrow (.int .i64 256) (.int .i64 ((ou : Nat) : Int)) (.int .i64 64) (.int .i64 64) (.slice (some ⟨g, 0, none⟩) 64 cap) bg (fun i => U64 (BitVec.ofNat 64 (Sha.trn true i)))) ∧ Row wl g 92 64 (fun j => U64 (Sha.K true j)) ∧ Row wl a7 93 8 (fun j => if j < q then (fun j => U64 (Sha.comp true (gb s) hh j)) j else (fun j => U64 (hh j)) j) ∧ Row wl bk 93 8 (fun j => U64 (0#64)) ∧ Row wl ai 93 8 (fun j => U64 (Sha.vs true (gb s) hh 64 j)) ∧ Own wl w0.heap.size 92 1 vd 64 (fun j => U64 (Sha.w true (gb s) j)) ∧ vd.ownBlock ≠ some rp ∧ vd.ownBlock ≠ some g ∧ vd.ownBlock ≠ some a7 ∧ vd.ownBlock ≠ some bk ∧ vd.ownBlock ≠ some ai ∧ Below w0.heap.size w0 wl) (8 - 0) ?_ ?_
     · exact ⟨0, vc, rfl, _, rfl, iv, bj, dq, dp, (Eq.trans (b := vc) c5 dv), ae, ti, r_rp, r_g, (aa.cg), ac, ab, ay, a1, ba, au, av, am, hk⟩
     ·skip
      clear r_rp r_g aa ac ab ay hk
      rintro _ _ ez ⟨q, vd, rfl, cu, rfl, ej, d0, cn, c1, d3, cr, bd, r_rp, r_g, aa, ac, ab, bs, ce, cq, a5, a8, cc, hk⟩
      refine wp_seq (sr (w_mv (ei bd) (w_val (y_bin ei Ev.c b_lss) (nt ?_))))
      refine c_if (p := ((q : Nat) : Int) < 8) eb (fun hc45 => ?_) (fun hc45 => ?_)
      ·skip
       refine wp_skip (then_n (wp_seq (wp_block (region_t 11 ShaRT.mixed kr ?_))))
       simp only [List.take_succ_cons, List.take_zero, List.drop_succ_cons, List.drop_zero]
       refine q_mv (ei bd) (q_mv (ex (pt rp 0) d0) (q_mv (ei bd) (q_val (fun w' hw' => y_ia1z (i := q) (ex (pt a7 0) cn) ei Tryz.underlying93 ShaRT.sz92 om om) (q_val (v := U64 (hh q)) (fun w' hw' => y_ld (ex (pt a7 q)) ShaRT.sc92 (cls_cell (aa.val om (ng rfl)) aa.lt w' hw')) (q_mv (ei bd) (q_val (fun w' hw' => y_ia1z (i := q) (ex (pt ai 0) cr) ei Tryz.underlying93 ShaRT.sz92 om om) (q_val (v := U64 (Sha.vs true (gb s) hh 64 q)) (fun w' hw' => y_ld (ex (pt ai q)) ShaRT.sc92 (cls_cell (ab.val om rfl) ab.lt w' hw')) (q_val (fun w' hw' => y_bin e6 e6 add64) (q_call (v := U64 (Sha.wd true ((hh q) + (Sha.vs true (gb s) hh 64 q)))) (Tryz.func62) kr rfl (m2 (ex (pt rp 0)) e6) (fun w' hw' => word_t rp ou g cap bg ((hh q) + (Sha.vs true (gb s) hh 64 q)) w' (r_rp.step hw')) (q_val (fun w' hw' => y_ia1z (i := q) (ex (pt a7 0) cn) ei Tryz.underlying93 ShaRT.sz92 om om) (q_nil ?_)))))))))))
       intro ey br
       replace bs := bs.step br
       replace r_rp := r_rp.step br
       replace r_g := r_g.step br
       replace aa := aa.step br
       replace ac := ac.step br
       replace ab := ab.step br
       replace hk := thenB hk br
       refine w_st (v := U64 (Sha.wd true ((hh q) + (Sha.vs true (gb s) hh 64 q)))) (ex (pt a7 q)) e6 rfl rfl ShaRT.sz92 aa om ?_
       clear aa; intro e0 aa b3 _
       replace bs := bs.stepG b3 a5
       replace r_rp := r_rp.stepG b3 om
       replace r_g := r_g.stepG b3 om
       replace ac := ac.stepG b3 om
       replace ab := ab.stepG b3 om
       replace hk := thenG hk b3 om
       refine wpList_nil (inb_n (then_n (wp_region_lit (w_mv (ei bd) (w_val (y_bin ei Ev.c (b_add om)) (w_as ei (wpList_nil ?_)))))))
       exact then_n ⟨_, om, q + 1, vd, rfl, _, rfl, iv, d0, cn, c1, d3, cr, ti, r_rp, r_g, (aa.congr (fun j hj => by (try dsimp only); by_cases e : j = q; (rw [if_pos e, if_pos om, e]; rfl); (rw [if_neg e]; by_cases e2 : j < q; (rw [if_pos e2]; exact (if_pos om).symm); (rw [if_neg e2]; exact (if_neg om).symm)))), ac, ab, bs, ce, cq, a5, a8, cc, hk⟩
      ·skip
       refine wp_exit (then_x ?_)
       replace aa := aa.congr (g := fun j => U64 (Sha.comp true (gb s) hh j)) (fun j hj => by (try dsimp only); rw [if_pos om])
       refine then_x (inb_x (then_n (sr (w_val (v := .agg (arr 8 (fun j => U64 (Sha.comp true (gb s) hh j)))) (y_lda (ex (pt a7 0) cn) ShaRT.ag93 ShaRT.sz93 (fun j hj => by rw [Nat.zero_add]; exact (aa.cell om))) (w_sta (k := 8) (G := fun j => U64 (Sha.comp true (gb s) hh j)) (ex (pt bk 0) c1) ea oc ShaRT.sz93 ac om ?_)))))
       clear ac; intro er ac b8 _
       replace ac := ac.congr (g := fun j => U64 (Sha.comp true (gb s) hh j)) (fun j hj => by rw [if_pos ⟨Nat.zero_le _, by omega⟩]; first | rfl | (simp only [Nat.sub_zero]))
       replace bs := bs.stepG b8 a8
       replace r_rp := r_rp.stepG b8 om
       replace r_g := r_g.stepG b8 om
       replace aa := aa.stepG b8 om
       replace ab := ab.stepG b8 om
       replace hk := thenG hk b8 om
       refine nt (wp_ret (fin_arr (F := fun j => U64 (Sha.comp true (gb s) hh j)) rfl (ex (pt bk 0) c1) ShaRT.ag93 ShaRT.sz93 ac om ?_))
       exact ⟨rfl, hk⟩

theorem word_f (rp ou g cap : Nat) (bg : Nat → BitVec 64) (kd : Int) (hkd : kd ≠ 256) (x : BitVec 64) (w0 : World) (r_rp : Row w0 rp 96 25 (Sha.rrow (.int .i64 kd) (.int .i64 ((ou : Nat) : Int)) (.int .i64 128) (.int .i64 80) (.slice (some ⟨g, 0, none⟩) 80 cap) bg (fun i => U64 (BitVec.ofNat 64 (Sha.trn false i))))) : Calls Tryz.prog 62 #[pt rp 0, U64 x] w0 fun e w' => e = .returned (U64 (Sha.wd false x)) ∧ Below w0.heap.size w0 w' := by
 refine enter (n := 13) Tryz.func62 rfl rfl rfl ?_
 have hk : Below w0.heap.size w0 w0 := Below.refl _ _
 have aa := r_rp.lt
 refine sr (w_as (evc (U64 (0#64))) (nt (wp_seq (sr (w_mv (ex (pt rp 0)) (w_val (y_nc (ex (pt rp 0))) (w_val (v := pt rp 0) (y_off (y_fa (ex (pt rp 0)) (ShaRT.fa96_0 _ _)) ro) (w_val (v := .int .i64 kd) (y_ld (ex (pt rp 0)) ShaRT.sc3 (r_rp.val om pz)) (w_val (y_bin ei Ev.c b_eql) (nt ?_))))))))))
 have ab : ¬ (kd = 256) := by exact hkd
 refine c_f (p := kd = 256) eb ab (wp_skip (then_n (sr (w_mv e6 (w_as e6 (nt (wp_ret (fin_ret1 rfl e6 ?_))))))))
 refine ⟨congrArg Ending.returned ?_, hk⟩
 show (U64 x : Value) = U64 (Sha.wd false x)
 rfl

theorem turn_f (rp ou g cap : Nat) (bg : Nat → BitVec 64) (kd : Int) (hkd : kd ≠ 256) (x : BitVec 64) (n : Nat) (hn : n ≤ 64) (w0 : World) (r_rp : Row w0 rp 96 25 (Sha.rrow (.int .i64 kd) (.int .i64 ((ou : Nat) : Int)) (.int .i64 128) (.int .i64 80) (.slice (some ⟨g, 0, none⟩) 80 cap) bg (fun i => U64 (BitVec.ofNat 64 (Sha.trn false i))))) : Calls Tryz.prog 67 #[pt rp 0, U64 x, U64 (BitVec.ofNat 64 n)] w0 fun e w' => e = .returned (U64 (Sha.tn false x n)) ∧ Below w0.heap.size w0 w' := by
 refine enter (n := 30) Tryz.func67 rfl rfl rfl ?_
 have hk : Below w0.heap.size w0 w0 := Below.refl _ _
 have aa := r_rp.lt
 refine sr (w_as (evc (U64 (0#64))) (nt (wp_seq (sr (w_mv (ex (pt rp 0)) (w_val (y_nc (ex (pt rp 0))) (w_val (v := pt rp 0) (y_off (y_fa (ex (pt rp 0)) (ShaRT.fa96_0 _ _)) ro) (w_val (v := .int .i64 kd) (y_ld (ex (pt rp 0)) ShaRT.sc3 (r_rp.val om pz)) (w_val (y_bin ei Ev.c b_eql) (nt ?_))))))))))
 have ab : ¬ (kd = 256) := by exact hkd
 refine c_f (p := kd = 256) eb ab (wp_skip (then_n (sr (w_mv e6 (w_mv e6 (w_val (y_bin e6 e6 (shr64 (c := n) (by rw [BitVec.toNat_ofNat]; omega))) (w_mv e6 (w_mv e6 (w_val (y_bin (evc (U64 (64#64))) e6 sub64) (w_val (y_bin e6 e6 (shl64 (c := (((64#64) - (BitVec.ofNat 64 n)).toNat)) rfl)) (w_val (y_bin e6 e6 or64) (w_as e6 (nt (wp_ret (fin_ret1 rfl e6 ?_)))))))))))))))
 refine ⟨congrArg Ending.returned ?_, hk⟩
 show (U64 ((x >>> n) ||| (x <<< (((64#64) - (BitVec.ofNat 64 n)).toNat))) : Value) = U64 (Sha.tn false x n)
 rw [Sha.sub_ofNat 64 n om om]; rfl

theorem three_ft (rp ou g cap : Nat) (bg : Nat → BitVec 64) (kd : Int) (hkd : kd ≠ 256) (x : BitVec 64) (a : Nat) (ha : a + 2 < 12) (w0 : World) (r_rp : Row w0 rp 96 25 (Sha.rrow (.int .i64 kd) (.int .i64 ((ou : Nat) : Int)) (.int .i64 128) (.int .i64 80) (.slice (some ⟨g, 0, none⟩) 80 cap) bg (fun i => U64 (BitVec.ofNat 64 (Sha.trn false i))))) : Calls Tryz.prog 63 #[pt rp 0, U64 x, .int .i64 ((a : Nat) : Int), .bool true] w0 fun e w' => e = .returned (U64 (Sha.th false x a true)) ∧ Below w0.heap.size w0 w' := by
 have af := Nat.le_of_lt (Sha.trn_lt false a)
 have ae := Nat.le_of_lt (Sha.trn_lt false (a + 1))
 have ad := Nat.le_of_lt (Sha.trn_lt false (a + 2))
 refine enter (n := 52) Tryz.func63 rfl rfl rfl ?_
 have hk : Below w0.heap.size w0 w0 := Below.refl _ _
 have ac := r_rp.lt
 refine sr (w_as (evc (U64 (0#64))) (nt (sr (w_mv (ex (pt rp 0)) (w_mv e6 (w_mv (ex (pt rp 0)) (w_mv ei (w_val (y_bin ei Ev.c (b_add om)) (w_val (y_nc (ex (pt rp 0))) (w_val (v := pt rp 13) (y_off (y_fa (ex (pt rp 0)) (ShaRT.fa96_6 _ _)) ro) (w_val (v := pt rp (13 + (a + 2))) (y_off (y_ia1 (i := (a + 2)) (ex (pt rp 13)) ei Tryz.underlying94 ShaRT.sz87 om om) ro) (w_val (v := U64 (BitVec.ofNat 64 (Sha.trn false (a + 2)))) (y_ld (ex (pt rp (13 + (a + 2)))) ShaRT.sc87 (r_rp.val om (ng (ng (ng (ng (ng (ng dv)))))))) (w_call (Tryz.func67) kr rfl (m3 (ex (pt rp 0)) e6 e6) (turn_f rp ou g cap bg kd hkd x (Sha.trn false (a + 2)) om w0 r_rp) ?_)))))))))))))
 rintro _ w1 ⟨rfl, aa⟩
 refine ⟨_, rfl, ?_⟩
 replace r_rp := r_rp.step aa
 replace hk := thenB hk aa
 refine w_as e6 (nt (wp_seq (sr (w_mv eb (nt (c_tt eb (wp_region_lit (w_mv e6 (w_mv (ex (pt rp 0)) (w_mv ei (w_val (y_bin ei Ev.c (b_add om)) (w_val (y_nc (ex (pt rp 0))) (w_val (v := pt rp 13) (y_off (y_fa (ex (pt rp 0)) (ShaRT.fa96_6 _ _)) ro) (w_val (v := pt rp (13 + (a + 2))) (y_off (y_ia1 (i := (a + 2)) (ex (pt rp 13)) ei Tryz.underlying94 ShaRT.sz87 om om) ro) (w_val (v := U64 (BitVec.ofNat 64 (Sha.trn false (a + 2)))) (y_ld (ex (pt rp (13 + (a + 2)))) ShaRT.sc87 (r_rp.val om (ng (ng (ng (ng (ng (ng dv)))))))) (w_val (y_bin e6 e6 (shr64 (c := (Sha.trn false (a + 2))) (by rw [BitVec.toNat_ofNat]; omega))) (w_as e6 (nt (wp_seq (region_q ShaRT.mixed kr (q_mv (ex (pt rp 0)) (q_mv e6 (q_mv (ex (pt rp 0)) (q_mv ei (q_val (fun w' hw' => y_nc (ex (pt rp 0))) (q_val (v := pt rp 13) (fun w' hw' => y_off (y_fa (ex (pt rp 0)) (ShaRT.fa96_6 _ _)) ro) (q_val (v := pt rp (13 + a)) (fun w' hw' => y_off (y_ia1 (i := a) (ex (pt rp 13)) ei Tryz.underlying94 ShaRT.sz87 om om) ro) (q_val (v := U64 (BitVec.ofNat 64 (Sha.trn false a))) (fun w' hw' => y_ld (ex (pt rp (13 + a))) ShaRT.sc87 (cls_cell (r_rp.val om (ng (ng (ng (ng (ng (ng dv))))))) r_rp.lt w' hw')) (q_call (v := U64 (Sha.tn false x (Sha.trn false a))) (Tryz.func67) kr rfl (m3 (ex (pt rp 0)) e6 e6) (fun w' hw' => turn_f rp ou g cap bg kd hkd x (Sha.trn false a) om w' (r_rp.step hw')) (q_mv (ex (pt rp 0)) (q_mv e6 (q_mv (ex (pt rp 0)) (q_mv ei (q_val (fun w' hw' => y_bin ei Ev.c (b_add om)) (q_val (fun w' hw' => y_nc (ex (pt rp 0))) (q_val (v := pt rp 13) (fun w' hw' => y_off (y_fa (ex (pt rp 0)) (ShaRT.fa96_6 _ _)) ro) (q_val (v := pt rp (13 + (a + 1))) (fun w' hw' => y_off (y_ia1 (i := (a + 1)) (ex (pt rp 13)) ei Tryz.underlying94 ShaRT.sz87 om om) ro) (q_val (v := U64 (BitVec.ofNat 64 (Sha.trn false (a + 1)))) (fun w' hw' => y_ld (ex (pt rp (13 + (a + 1)))) ShaRT.sc87 (cls_cell (r_rp.val om (ng (ng (ng (ng (ng (ng dv))))))) r_rp.lt w' hw')) (q_call (v := U64 (Sha.tn false x (Sha.trn false (a + 1)))) (Tryz.func67) kr rfl (m3 (ex (pt rp 0)) e6 e6) (fun w' hw' => turn_f rp ou g cap bg kd hkd x (Sha.trn false (a + 1)) om w' (r_rp.step hw')) ?_)))))))))))))))))))))))))))))))))))))))
 refine q_val (fun w' hw' => y_bin e6 e6 xor64) (q_mv e6 (q_val (fun w' hw' => y_bin e6 e6 xor64) (q_as e6 (q_nil ?_))))
 intro w3 ab
 replace r_rp := r_rp.step ab
 replace hk := thenB hk ab
 refine then_n (wp_ret (fin_ret1 rfl e6 ?_))
 refine ⟨congrArg Ending.returned ?_, hk⟩
 show (U64 (((Sha.tn false x (Sha.trn false a)) ^^^ (Sha.tn false x (Sha.trn false (a + 1)))) ^^^ (x >>> (Sha.trn false (a + 2)))) : Value) = U64 (Sha.th false x a true)
 rfl

theorem three_ff (rp ou g cap : Nat) (bg : Nat → BitVec 64) (kd : Int) (hkd : kd ≠ 256) (x : BitVec 64) (a : Nat) (ha : a + 2 < 12) (w0 : World) (r_rp : Row w0 rp 96 25 (Sha.rrow (.int .i64 kd) (.int .i64 ((ou : Nat) : Int)) (.int .i64 128) (.int .i64 80) (.slice (some ⟨g, 0, none⟩) 80 cap) bg (fun i => U64 (BitVec.ofNat 64 (Sha.trn false i))))) : Calls Tryz.prog 63 #[pt rp 0, U64 x, .int .i64 ((a : Nat) : Int), .bool false] w0 fun e w' => e = .returned (U64 (Sha.th false x a false)) ∧ Below w0.heap.size w0 w' := by
 have af := Nat.le_of_lt (Sha.trn_lt false a)
 have ae := Nat.le_of_lt (Sha.trn_lt false (a + 1))
 have ad := Nat.le_of_lt (Sha.trn_lt false (a + 2))
 refine enter (n := 52) Tryz.func63 rfl rfl rfl ?_
 have hk : Below w0.heap.size w0 w0 := Below.refl _ _
 have ac := r_rp.lt
 refine sr (w_as (evc (U64 (0#64))) (nt (sr (w_mv (ex (pt rp 0)) (w_mv e6 (w_mv (ex (pt rp 0)) (w_mv ei (w_val (y_bin ei Ev.c (b_add om)) (w_val (y_nc (ex (pt rp 0))) (w_val (v := pt rp 13) (y_off (y_fa (ex (pt rp 0)) (ShaRT.fa96_6 _ _)) ro) (w_val (v := pt rp (13 + (a + 2))) (y_off (y_ia1 (i := (a + 2)) (ex (pt rp 13)) ei Tryz.underlying94 ShaRT.sz87 om om) ro) (w_val (v := U64 (BitVec.ofNat 64 (Sha.trn false (a + 2)))) (y_ld (ex (pt rp (13 + (a + 2)))) ShaRT.sc87 (r_rp.val om (ng (ng (ng (ng (ng (ng dv)))))))) (w_call (Tryz.func67) kr rfl (m3 (ex (pt rp 0)) e6 e6) (turn_f rp ou g cap bg kd hkd x (Sha.trn false (a + 2)) om w0 r_rp) ?_)))))))))))))
 rintro _ w1 ⟨rfl, aa⟩
 refine ⟨_, rfl, ?_⟩
 replace r_rp := r_rp.step aa
 replace hk := thenB hk aa
 refine w_as e6 (nt (wp_seq (sr (w_mv eb (nt (c_ff eb (wp_skip (then_n (wp_seq (region_q ShaRT.mixed kr (q_mv (ex (pt rp 0)) (q_mv e6 (q_mv (ex (pt rp 0)) (q_mv ei (q_val (fun w' hw' => y_nc (ex (pt rp 0))) (q_val (v := pt rp 13) (fun w' hw' => y_off (y_fa (ex (pt rp 0)) (ShaRT.fa96_6 _ _)) ro) (q_val (v := pt rp (13 + a)) (fun w' hw' => y_off (y_ia1 (i := a) (ex (pt rp 13)) ei Tryz.underlying94 ShaRT.sz87 om om) ro) (q_val (v := U64 (BitVec.ofNat 64 (Sha.trn false a))) (fun w' hw' => y_ld (ex (pt rp (13 + a))) ShaRT.sc87 (cls_cell (r_rp.val om (ng (ng (ng (ng (ng (ng dv))))))) r_rp.lt w' hw')) (q_call (v := U64 (Sha.tn false x (Sha.trn false a))) (Tryz.func67) kr rfl (m3 (ex (pt rp 0)) e6 e6) (fun w' hw' => turn_f rp ou g cap bg kd hkd x (Sha.trn false a) om w' (r_rp.step hw')) (q_mv (ex (pt rp 0)) (q_mv e6 (q_mv (ex (pt rp 0)) (q_mv ei (q_val (fun w' hw' => y_bin ei Ev.c (b_add om)) (q_val (fun w' hw' => y_nc (ex (pt rp 0))) (q_val (v := pt rp 13) (fun w' hw' => y_off (y_fa (ex (pt rp 0)) (ShaRT.fa96_6 _ _)) ro) (q_val (v := pt rp (13 + (a + 1))) (fun w' hw' => y_off (y_ia1 (i := (a + 1)) (ex (pt rp 13)) ei Tryz.underlying94 ShaRT.sz87 om om) ro) (q_val (v := U64 (BitVec.ofNat 64 (Sha.trn false (a + 1)))) (fun w' hw' => y_ld (ex (pt rp (13 + (a + 1)))) ShaRT.sc87 (cls_cell (r_rp.val om (ng (ng (ng (ng (ng (ng dv))))))) r_rp.lt w' hw')) (q_call (v := U64 (Sha.tn false x (Sha.trn false (a + 1)))) (Tryz.func67) kr rfl (m3 (ex (pt rp 0)) e6 e6) (fun w' hw' => turn_f rp ou g cap bg kd hkd x (Sha.trn false (a + 1)) om w' (r_rp.step hw')) (q_val (fun w' hw' => y_bin e6 e6 xor64) (q_mv e6 (q_val (fun w' hw' => y_bin e6 e6 xor64) (q_as e6 (q_nil ?_))))))))))))))))))))))))))))))))))
 intro w3 ab
 replace r_rp := r_rp.step ab
 replace hk := thenB hk ab
 refine then_n (wp_ret (fin_ret1 rfl e6 ?_))
 refine ⟨congrArg Ending.returned ?_, hk⟩
 show (U64 (((Sha.tn false x (Sha.trn false a)) ^^^ (Sha.tn false x (Sha.trn false (a + 1)))) ^^^ (Sha.tn false x (Sha.trn false (a + 2)))) : Value) = U64 (Sha.th false x a false)
 rfl

theorem block_f (rp ou g cap : Nat) (bg : Nat → BitVec 64) (kd : Int) (hkd : kd ≠ 256) (hh : Nat → BitVec 64) (s : List (BitVec 8)) (hs : s.length = 128) (w0 : World) (r_rp : Row w0 rp 96 25 (Sha.rrow (.int .i64 kd) (.int .i64 ((ou : Nat) : Int)) (.int .i64 128) (.int .i64 80) (.slice (some ⟨g, 0, none⟩) 80 cap) bg (fun i => U64 (BitVec.ofNat 64 (Sha.trn false i))))) (r_g : Row w0 g 92 80 (fun j => U64 (Sha.K false j))) : Calls Tryz.prog 54 #[pt rp 0, .agg (arr 8 (fun j => U64 (hh j))), .string (str s)] w0 fun e w' => e = .returned (.agg (arr 8 (fun j => U64 (Sha.comp false (gb s) hh j)))) ∧ Below w0.heap.size w0 w' := by
 refine enter (n := 183) Tryz.func54 rfl rfl rfl ?_
 have hk : Below w0.heap.size w0 w0 := Below.refl _ _
 have ee := r_rp.lt
 have eh := r_g.lt
 refine sr (w_box (m := 8) (F := fun j => U64 (hh j)) ea rfl ?_)
 intro a7 w1 a0 aa ed
 have dd := r_rp.nb a0
 have dj := r_g.nb a0
 have d4 := gb_ hk.size a0
 clear a0
 replace r_rp := r_rp.step ed
 replace r_g := r_g.step ed
 replace hk := thenB hk ed
 refine w_alloc (m := 8) (F := fun j => U64 (0#64)) kr ?_
 intro bk w3 aq ac d1
 have df := r_rp.nb aq
 have dx := r_g.nb aq
 have cy := aa.nb aq
 have d7 := gb_ hk.size aq
 clear aq
 replace r_rp := r_rp.step d1
 replace r_g := r_g.step d1
 replace aa := aa.step d1
 replace hk := thenB hk d1
 refine nt (sr (w_as Ev.c (nt (sr (w_mv (ex (pt rp 0)) (w_val (y_nc (ex (pt rp 0))) (w_val (v := pt rp 2) (y_off (y_fa (ex (pt rp 0)) (ShaRT.fa96_2 _ _)) ro) (w_val (v := .int .i64 128) (y_ld (ex (pt rp 2)) ShaRT.sc3 (r_rp.val om (ng (ng pz)))) (w_val (y_bin ei Ev.c (b_quo om)) (w_as ei (nt (wp_seq (sr (w_as Ev.c (nt (wp_block ?_))))))))))))))))
 refine c_loop (fun dN aN wl => ∃ (i : Nat) (va : Value), dN = (80 - i) ∧ ∃ f5, aN = fr 183 f5 ∧ (i ≤ 80) ∧ f5 0 = pt rp 0 ∧ f5 2 = .string (str s) ∧ f5 4 = pt a7 0 ∧ f5 6 = pt bk 0 ∧ f5 7 = va ∧ f5 8 = .int .i64 8 ∧ f5 9 = .int .i64 ((i : Nat) : Int) ∧ Row wl rp 96 25 (Sha.rrow (.int .i64 kd) (.int .i64 ((ou : Nat) : Int)) (.int .i64 128) (.int .i64 80) (.slice (some ⟨g, 0, none⟩) 80 cap) bg (fun i => U64 (BitVec.ofNat 64 (Sha.trn false i)))) ∧ Row wl g 92 80 (fun j => U64 (Sha.K false j)) ∧ Row wl a7 93 8 (fun j => U64 (hh j)) ∧ Row wl bk 93 8 (fun j => U64 (0#64)) ∧ Own wl w0.heap.size 92 1 va i (fun j => U64 (Sha.w false (gb s) j)) ∧ va.ownBlock ≠ some rp ∧ va.ownBlock ≠ some g ∧ va.ownBlock ≠ some a7 ∧ va.ownBlock ≠ some bk ∧ Below w0.heap.size w0 wl) (80 - 0) ?_ ?_
 · exact ⟨0, (.slice none 0 0), rfl, _, rfl, iv, rfl, rfl, rfl, rfl, (etv (b := .slice none 0 0) rfl), rfl, ti, r_rp, r_g, aa, ac, Own.nil, (fun e => by cases e), (fun e => by cases e), (fun e => by cases e), (fun e => by cases e), hk⟩
 ·skip
  clear r_rp r_g aa ac hk
  rintro _ _ w6 ⟨i, va, rfl, f5, rfl, em, bz, dy, cm, da, bp, dm, bi, r_rp, r_g, aa, ac, ak, al, ap, ag, ah, hk⟩
  refine wp_seq (sr (w_mv (ei bi) (w_mv (ex (pt rp 0) bz) (w_val (y_nc (ex (pt rp 0))) (w_val (v := pt rp 3) (y_off (y_fa (ex (pt rp 0)) (ShaRT.fa96_3 _ _)) ro) (w_val (v := .int .i64 80) (y_ld (ex (pt rp 3)) ShaRT.sc3 (r_rp.val om (ng (ng (ng pz))))) (w_val (y_bin ei ei b_lss) (nt ?_))))))))
  refine c_if (p := ((i : Nat) : Int) < 80) eb (fun hc7 => ?_) (fun hc7 => ?_)
  ·skip
   refine wp_skip (then_n (wp_seq (wp_block (sr (w_as (evc (U64 (0#64))) (nt (wp_seq (sr (w_mv (ei bi) (w_val (y_bin ei Ev.c b_lss) (nt ?_)))))))))))
   refine c_if (p := ((i : Nat) : Int) < 16) eb (fun hc8 => ?_) (fun hc8 => ?_)
   ·skip
    refine sr (w_as Ev.c (nt (wp_block ?_)))
    refine c_loop (fun dN aN wl => ∃ (k : Nat) (vb : Value), dN = (8 - k) ∧ ∃ f9, aN = fr 183 f9 ∧ (k ≤ 8) ∧ f9 0 = pt rp 0 ∧ f9 2 = .string (str s) ∧ f9 4 = pt a7 0 ∧ f9 6 = pt bk 0 ∧ f9 7 = vb ∧ f9 8 = .int .i64 8 ∧ f9 9 = .int .i64 ((i : Nat) : Int) ∧ f9 10 = U64 (Sha.bw (fun j => gb s (8 * i + j)) k) ∧ f9 11 = .int .i64 ((k : Nat) : Int) ∧ Row wl rp 96 25 (Sha.rrow (.int .i64 kd) (.int .i64 ((ou : Nat) : Int)) (.int .i64 128) (.int .i64 80) (.slice (some ⟨g, 0, none⟩) 80 cap) bg (fun i => U64 (BitVec.ofNat 64 (Sha.trn false i)))) ∧ Row wl g 92 80 (fun j => U64 (Sha.K false j)) ∧ Row wl a7 93 8 (fun j => U64 (hh j)) ∧ Row wl bk 93 8 (fun j => U64 (0#64)) ∧ Own wl w0.heap.size 92 1 vb i (fun j => U64 (Sha.w false (gb s) j)) ∧ vb.ownBlock ≠ some rp ∧ vb.ownBlock ≠ some g ∧ vb.ownBlock ≠ some a7 ∧ vb.ownBlock ≠ some bk ∧ Below w0.heap.size w0 wl) (8 - 0) ?_ ?_
    · exact ⟨0, va, rfl, _, rfl, iv, bz, dy, cm, da, (Eq.trans (b := va) bp dv), dm, bi, (Eq.trans (b := U64 (0#64)) rfl (by rfl)), ti, r_rp, r_g, aa, ac, ak, al, ap, ag, ah, hk⟩
    ·skip
     clear r_rp r_g aa ac ak hk
     rintro _ _ eu ⟨k, vb, rfl, f9, rfl, ek, dw, c9, dl, du, ds, co, c6, cs, cj, r_rp, r_g, aa, ac, bn, a3, a9, ax, aw, hk⟩
     refine wp_seq (sr (w_mv (ei cj) (w_mv (ei co) (w_val (y_bin ei ei b_lss) (nt ?_)))))
     refine c_if (p := ((k : Nat) : Int) < 8) eb (fun hc11 => ?_) (fun hc11 => ?_)
     ·skip
      refine wp_skip (then_n (wp_seq (wp_block (wp_region_lit (w_mv (e6 cs) (w_val (y_bin e6 (evc (U64 (256#64))) mul64) (w_mv (es c9) (w_mv (ei co) (w_mv (ei c6) (w_val (y_bin ei ei (b_mul om)) (w_mv (ei cj) (w_val (y_bin ei ei (b_add om)) (w_val (v := U8 (gb s ((8 * i) + k))) (y_idx (ex (.string (str s))) ei Tryz.underlying9 om om) (w_val (y_u8_u64 e8 ShaRT.so5 Tryz.underlying92) (w_val (y_bin e6 e6 add64) (w_as e6 (wpList_nil (inb_n (then_n (wp_region_lit (w_mv (ei cj) (w_val (y_bin ei Ev.c (b_add om)) (w_as ei (wpList_nil ?_))))))))))))))))))))))))
      exact then_n ⟨_, om, k + 1, vb, rfl, _, rfl, iv, dw, c9, dl, du, ds, co, c6, (Eq.trans (b := U64 (((Sha.bw (fun j => gb s (8 * i + j)) k) * (256#64)) + ((gb s ((8 * i) + k)).setWidth 64))) rfl (by rfl)), ti, r_rp, r_g, aa, ac, bn, a3, a9, ax, aw, hk⟩
     ·skip
      refine wp_exit (then_x (then_x (inb_x (then_n (wp_region_lit (w_mv (ex vb ds) (w_mv (e6 cs) (w_bs1 (m := 1) (e := 92) (F := fun j => U64 (Sha.bw (fun j => gb s (8 * i + j)) k)) e6 (fun w => by kernel_rfl) ?_))))))))
      intro db e5 ad aj b4
      have bv := r_rp.nb ad
      have b5 := r_g.nb ad
      have bb := aa.nb ad
      have bc := ac.nb ad
      have a2 : vb.ownBlock ≠ some db := bn.apart om
      have cp := gb_ hk.size ad
      clear ad
      replace bn := bn.step b4
      replace r_rp := r_rp.step b4
      replace r_g := r_g.step b4
      replace aa := aa.step b4
      replace ac := ac.step b4
      replace hk := thenB hk b4
      refine w_app (k := i) (m := 1) (size := 1) (bytes := 8) (ex vb) el Tryz.underlying91 kr (by decide) bn hk.size aj om oca (by simp only [maxLen]; omega) om ?_
      intro eg ev di b2 cf
      have b6 := no_new a3 r_rp.lt cf
      replace r_rp := r_rp.stepO b2 a3
      have ci := no_new a9 r_g.lt cf
      replace r_g := r_g.stepO b2 a9
      have bx := no_new ax aa.lt cf
      replace aa := aa.stepO b2 ax
      have bu := no_new aw ac.lt cf
      replace ac := ac.stepO b2 aw
      have cx := no_new a2 aj.lt cf
      replace aj := aj.stepO b2 a2
      replace hk := thenO hk b2 (fun g e => (bn.block_lt g e).2)
      clear bn
      refine w_as (ex eg) (wpList_nil (inb_n (then_n (wp_region_lit (w_mv (ei c6) (w_val (y_bin ei Ev.c (b_add om)) (w_as ei (wpList_nil ?_))))))))
      exact then_n ⟨_, om, i + 1, eg, rfl, _, rfl, iv, dw, c9, dl, du, rfl, co, ti, (r_rp.cg), r_g, aa, ac, (own_n (di.congr (fun j hj => by (try dsimp only); by_cases e : j < i * 1; (rw [if_pos e]); (rw [if_neg e, show j = i from by omega]; first | exact congrArg U64 (Sha.w_lo_k false (gb s) i k om (by show k = 8; omega)).symm | exact congrArg U64 (Sha.w_hi false (gb s) i om).symm))) om), b6, ci, bx, bu, hk⟩
   ·skip
    obtain ⟨cd, b0, cl, d9, d8, az, af⟩ := ak.opened om
    have dh : rp ≠ cd := fun e => al (by rw [az, e])
    have dt : g ≠ cd := fun e => ap (by rw [az, e])
    have c8 : a7 ≠ cd := fun e => ag (by rw [az, e])
    have c4 : bk ≠ cd := fun e => ah (by rw [az, e])
    refine region_q ShaRT.mixed kr (q_mv (ex (pt rp 0) bz) (q_mv (ex (pt rp 0) bz) (q_mv (ex va bp) (q_mv (ei bi) (q_val (fun w' hw' => y_bin ei Ev.c (b_sub om)) (q_val (fun w' hw' => y_is1z (i := (i - 2)) (ex (.slice (some ⟨cd, 0, none⟩) i b0) (Eq.trans (b := va) rfl cl)) ei Tryz.underlying91 ShaRT.sz92 om om) (q_val (v := U64 (Sha.w false (gb s) (i - 2))) (fun w' hw' => y_ld (ex (pt cd (i - 2))) ShaRT.sc92 (cls_cell (af.val om rfl) af.lt w' hw')) (q_call (v := U64 (Sha.th false (Sha.w false (gb s) (i - 2)) 3 true)) (Tryz.func63) kr rfl (m4 (ex (pt rp 0)) e6 Ev.c Ev.c) (fun w' hw' => three_ft rp ou g cap bg kd hkd (Sha.w false (gb s) (i - 2)) 3 om w' (r_rp.step hw')) (q_mv (ex va bp) (q_mv (ei bi) (q_val (fun w' hw' => y_bin ei Ev.c (b_sub om)) (q_val (fun w' hw' => y_is1z (i := (i - 7)) (ex (.slice (some ⟨cd, 0, none⟩) i b0) (Eq.trans (b := va) rfl cl)) ei Tryz.underlying91 ShaRT.sz92 om om) (q_val (v := U64 (Sha.w false (gb s) (i - 7))) (fun w' hw' => y_ld (ex (pt cd (i - 7))) ShaRT.sc92 (cls_cell (af.val om rfl) af.lt w' hw')) (q_val (fun w' hw' => y_bin e6 e6 add64) (q_mv (ex (pt rp 0) bz) (q_mv (ex va bp) (q_mv (ei bi) (q_val (fun w' hw' => y_bin ei Ev.c (b_sub om)) (q_val (fun w' hw' => y_is1z (i := (i - 15)) (ex (.slice (some ⟨cd, 0, none⟩) i b0) (Eq.trans (b := va) rfl cl)) ei Tryz.underlying91 ShaRT.sz92 om om) (q_val (v := U64 (Sha.w false (gb s) (i - 15))) (fun w' hw' => y_ld (ex (pt cd (i - 15))) ShaRT.sc92 (cls_cell (af.val om rfl) af.lt w' hw')) (q_call (v := U64 (Sha.th false (Sha.w false (gb s) (i - 15)) 0 true)) (Tryz.func63) kr rfl (m4 (ex (pt rp 0)) e6 Ev.c Ev.c) (fun w' hw' => three_ft rp ou g cap bg kd hkd (Sha.w false (gb s) (i - 15)) 0 om w' (r_rp.step hw')) (q_val (fun w' hw' => y_bin e6 e6 add64) (q_mv (ex va bp) (q_mv (ei bi) (q_val (fun w' hw' => y_bin ei Ev.c (b_sub om)) (q_val (fun w' hw' => y_is1z (i := (i - 16)) (ex (.slice (some ⟨cd, 0, none⟩) i b0) (Eq.trans (b := va) rfl cl)) ei Tryz.underlying91 ShaRT.sz92 om om) (q_val (v := U64 (Sha.w false (gb s) (i - 16))) (fun w' hw' => y_ld (ex (pt cd (i - 16))) ShaRT.sc92 (cls_cell (af.val om rfl) af.lt w' hw')) (q_val (fun w' hw' => y_bin e6 e6 add64) (q_call (v := U64 (Sha.wd false ((((Sha.th false (Sha.w false (gb s) (i - 2)) 3 true) + (Sha.w false (gb s) (i - 7))) + (Sha.th false (Sha.w false (gb s) (i - 15)) 0 true)) + (Sha.w false (gb s) (i - 16))))) (Tryz.func62) kr rfl (m2 (ex (pt rp 0)) e6) (fun w' hw' => word_f rp ou g cap bg kd hkd ((((Sha.th false (Sha.w false (gb s) (i - 2)) 3 true) + (Sha.w false (gb s) (i - 7))) + (Sha.th false (Sha.w false (gb s) (i - 15)) 0 true)) + (Sha.w false (gb s) (i - 16))) w' (r_rp.step hw')) (q_as e6 (q_nil ?_)))))))))))))))))))))))))))))))
    intro e7 bt
    replace ak := ak.step bt
    replace r_rp := r_rp.step bt
    replace r_g := r_g.step bt
    replace aa := aa.step bt
    replace ac := ac.step bt
    replace af := af.step bt
    replace hk := thenB hk bt
    refine then_n (wp_region_lit (w_mv (ex va bp) (w_mv e6 (w_bs1 (m := 1) (e := 92) (F := fun j => U64 (Sha.wd false ((((Sha.th false (Sha.w false (gb s) (i - 2)) 3 true) + (Sha.w false (gb s) (i - 7))) + (Sha.th false (Sha.w false (gb s) (i - 15)) 0 true)) + (Sha.w false (gb s) (i - 16))))) e6 (fun w => by kernel_rfl) ?_))))
    intro db et ad aj bl
    have bv := r_rp.nb ad
    have b5 := r_g.nb ad
    have bb := aa.nb ad
    have bc := ac.nb ad
    have ct := af.nb ad
    have a4 : va.ownBlock ≠ some db := ak.apart om
    have cp := gb_ hk.size ad
    clear ad
    replace ak := ak.step bl
    replace r_rp := r_rp.step bl
    replace r_g := r_g.step bl
    replace aa := aa.step bl
    replace ac := ac.step bl
    replace af := af.step bl
    replace hk := thenB hk bl
    clear af
    refine w_app (k := i) (m := 1) (size := 1) (bytes := 8) (ex va) el Tryz.underlying91 kr (by decide) ak hk.size aj om oca (by simp only [maxLen]; omega) om ?_
    intro ef e3 dz b9 ch
    have cb := no_new al r_rp.lt ch
    replace r_rp := r_rp.stepO b9 al
    have ck := no_new ap r_g.lt ch
    replace r_g := r_g.stepO b9 ap
    have bo := no_new ag aa.lt ch
    replace aa := aa.stepO b9 ag
    have bm := no_new ah ac.lt ch
    replace ac := ac.stepO b9 ah
    have cw := no_new a4 aj.lt ch
    replace aj := aj.stepO b9 a4
    replace hk := thenO hk b9 (fun g e => (ak.block_lt g e).2)
    clear ak
    refine w_as (ex ef) (wpList_nil (inb_n (then_n (wp_region_lit (w_mv (ei bi) (w_val (y_bin ei Ev.c (b_add om)) (w_as ei (wpList_nil ?_))))))))
    exact then_n ⟨_, om, i + 1, ef, rfl, _, rfl, iv, bz, dy, cm, da, rfl, dm, ti, (r_rp.cg), r_g, aa, ac, (own_n (dz.congr (fun j hj => by (try dsimp only); by_cases e : j < i * 1; (rw [if_pos e]); (rw [if_neg e, show j = i from by omega]; first | exact congrArg U64 (Sha.w_lo_k false (gb s) i k om (by show k = 8; omega)).symm | exact congrArg U64 (Sha.w_hi false (gb s) i om).symm))) om), cb, ck, bo, bm, hk⟩
  ·skip
   refine wp_exit (then_x (then_x (inb_x (then_n (sr (w_val (v := .agg (arr 8 (fun j => U64 (hh j)))) (y_lda (ex (pt a7 0) cm) ShaRT.ag93 ShaRT.sz93 (fun j hj => by rw [Nat.zero_add]; exact (aa.cell om))) (w_alloc (m := 8) (F := fun j => U64 (0#64)) kr ?_)))))))
   intro ai e4 an ab ca
   have dg := r_rp.nb an
   have dn := r_g.nb an
   have c3 := aa.nb an
   have c0 := ac.nb an
   have a6 : va.ownBlock ≠ some ai := ak.apart om
   have d5 := gb_ hk.size an
   clear an
   replace ak := ak.step ca
   replace r_rp := r_rp.step ca
   replace r_g := r_g.step ca
   replace aa := aa.step ca
   replace ac := ac.step ca
   replace hk := thenB hk ca
   refine w_sta (k := 8) (G := fun j => U64 (hh j)) (ex (pt ai 0)) ea oc ShaRT.sz93 ab om ?_
   clear ab; intro e1 ab b7 _
   replace ab := ab.congr (g := fun j => U64 (hh j)) (fun j hj => by rw [if_pos ⟨Nat.zero_le _, by omega⟩]; first | rfl | (simp only [Nat.sub_zero]))
   replace ak := ak.stepG b7 a6
   replace r_rp := r_rp.stepG b7 om
   replace r_g := r_g.stepG b7 om
   replace aa := aa.stepG b7 om
   replace ac := ac.stepG b7 om
   replace hk := thenG hk b7 om
   refine nt (wp_seq (sr (w_as Ev.c (nt (wp_block ?_)))))
   refine c_loop (fun dN aN wl => ∃ (t : Nat) (vc : Value), dN = (80 - t) ∧ ∃ cv, aN = fr 183 cv ∧ (t ≤ 80) ∧ cv 0 = pt rp 0 ∧ cv 4 = pt a7 0 ∧ cv 6 = pt bk 0 ∧ cv 7 = vc ∧ cv 12 = pt ai 0 ∧ cv 13 = .int .i64 ((t : Nat) : Int) ∧ Row wl rp 96 25 (Sha.rrow (.int .i64 kd) (.int .i64 ((ou : Nat) : Int)) (.int .i64 128) (.int .i64 80) (.slice (some ⟨g, 0, none⟩) 80 cap) bg (fun i => U64 (BitVec.ofNat 64 (Sha.trn false i)))) ∧ Row wl g 92 80 (fun j => U64 (Sha.K false j)) ∧ Row wl a7 93 8 (fun j => U64 (hh j)) ∧ Row wl bk 93 8 (fun j => U64 (0#64)) ∧ Row wl ai 93 8 (fun j => U64 (Sha.vs false (gb s) hh t j)) ∧ Own wl w0.heap.size 92 1 vc 80 (fun j => U64 (Sha.w false (gb s) j)) ∧ vc.ownBlock ≠ some rp ∧ vc.ownBlock ≠ some g ∧ vc.ownBlock ≠ some a7 ∧ vc.ownBlock ≠ some bk ∧ vc.ownBlock ≠ some ai ∧ Below w0.heap.size w0 wl) (80 - 0) ?_ ?_
   · exact ⟨0, va, rfl, _, rfl, iv, bz, cm, da, (Eq.trans (b := va) bp dv), rfl, ti, r_rp, r_g, aa, ac, (ab.congr (fun j hj => by rfl)), (own_n (ak.cg) om), al, ap, ag, ah, a6, hk⟩
   ·skip
    clear r_rp r_g aa ac ab ak hk
    rintro _ _ ew ⟨t, vc, rfl, cv, rfl, en, bj, dq, dp, c5, ae, b1, r_rp, r_g, aa, ac, ab, ay, a1, ba, au, av, am, hk⟩
    refine wp_seq (sr (w_mv (ei b1) (w_mv (ex (pt rp 0) bj) (w_val (y_nc (ex (pt rp 0))) (w_val (v := pt rp 3) (y_off (y_fa (ex (pt rp 0)) (ShaRT.fa96_3 _ _)) ro) (w_val (v := .int .i64 80) (y_ld (ex (pt rp 3)) ShaRT.sc3 (r_rp.val om (ng (ng (ng pz))))) (w_val (y_bin ei ei b_lss) (nt ?_))))))))
    refine c_if (p := ((t : Nat) : Int) < 80) eb (fun hc33 => ?_) (fun hc33 => ?_)
    ·skip
     refine wp_skip (then_n (wp_seq (wp_block (sr (w_val (y_ia1z (i := 4) (ex (pt ai 0) ae) Ev.c Tryz.underlying93 ShaRT.sz92 om om) (w_val (v := U64 (Sha.vs false (gb s) hh t 4)) (y_ld (ex (pt ai 4)) ShaRT.sc92 (ab.val om rfl)) (w_as e6 (nt (sr (w_val (y_ia1z (i := 0) (ex (pt ai 0) ae) Ev.c Tryz.underlying93 ShaRT.sz92 om om) (w_val (v := U64 (Sha.vs false (gb s) hh t 0)) (y_ld (ex (pt ai 0)) ShaRT.sc92 (ab.val om rfl)) (w_as e6 (nt (wp_seq ?_))))))))))))))
     obtain ⟨dc, dr, ec, d2, d6, ar, ao⟩ := ay.opened om
     have de : rp ≠ dc := fun e => a1 (by rw [ar, e])
     have dk : g ≠ dc := fun e => ba (by rw [ar, e])
     have c2 : a7 ≠ dc := fun e => au (by rw [ar, e])
     have cz : bk ≠ dc := fun e => av (by rw [ar, e])
     have c7 : ai ≠ dc := fun e => am (by rw [ar, e])
     refine region_q ShaRT.mixed kr (q_val (fun w' hw' => y_ia1z (i := 7) (ex (pt ai 0) ae) Ev.c Tryz.underlying93 ShaRT.sz92 om om) (q_val (v := U64 (Sha.vs false (gb s) hh t 7)) (fun w' hw' => y_ld (ex (pt ai 7)) ShaRT.sc92 (cls_cell (ab.val om rfl) ab.lt w' hw')) (q_mv (ex (pt rp 0) bj) (q_mv e6 (q_call (v := U64 (Sha.th false (Sha.vs false (gb s) hh t 4) 9 false)) (Tryz.func63) kr rfl (m4 (ex (pt rp 0)) e6 Ev.c Ev.c) (fun w' hw' => three_ff rp ou g cap bg kd hkd (Sha.vs false (gb s) hh t 4) 9 om w' (r_rp.step hw')) (q_val (fun w' hw' => y_bin e6 e6 add64) (q_mv e6 (q_val (fun w' hw' => y_ia1z (i := 5) (ex (pt ai 0) ae) Ev.c Tryz.underlying93 ShaRT.sz92 om om) (q_val (v := U64 (Sha.vs false (gb s) hh t 5)) (fun w' hw' => y_ld (ex (pt ai 5)) ShaRT.sc92 (cls_cell (ab.val om rfl) ab.lt w' hw')) (q_val (fun w' hw' => y_bin e6 e6 and64) (q_mv e6 (q_val (v := U64 (~~~(Sha.vs false (gb s) hh t 4))) (fun w' hw' => y_not64 e6) (q_val (fun w' hw' => y_ia1z (i := 6) (ex (pt ai 0) ae) Ev.c Tryz.underlying93 ShaRT.sz92 om om) (q_val (v := U64 (Sha.vs false (gb s) hh t 6)) (fun w' hw' => y_ld (ex (pt ai 6)) ShaRT.sc92 (cls_cell (ab.val om rfl) ab.lt w' hw')) (q_val (fun w' hw' => y_bin e6 e6 and64) (q_val (fun w' hw' => y_bin e6 e6 xor64) (q_val (fun w' hw' => y_bin e6 e6 add64) (q_mv (ex (pt rp 0) bj) (q_val (fun w' hw' => y_nc (ex (pt rp 0))) (q_val (v := pt rp 4) (fun w' hw' => y_off (y_fa (ex (pt rp 0)) (ShaRT.fa96_4 _ _)) ro) (q_val (v := .slice (some ⟨g, 0, none⟩) 80 cap) (fun w' hw' => y_ld (ex (pt rp 4)) ShaRT.sc91 (cls_cell (r_rp.val om (ng (ng (ng (ng pz))))) r_rp.lt w' hw')) (q_mv (ei b1) (q_val (fun w' hw' => y_is1z (i := t) el ei Tryz.underlying91 ShaRT.sz92 om om) (q_val (v := U64 (Sha.K false t)) (fun w' hw' => y_ld (ex (pt g t)) ShaRT.sc92 (cls_cell (r_g.val om rfl) r_g.lt w' hw')) (q_val (fun w' hw' => y_bin e6 e6 add64) (q_mv (ex vc c5) (q_mv (ei b1) (q_val (fun w' hw' => y_is1z (i := t) (ex (.slice (some ⟨dc, 0, none⟩) 80 dr) (Eq.trans (b := vc) rfl ec)) ei Tryz.underlying91 ShaRT.sz92 om om) (q_val (v := U64 (Sha.w false (gb s) t)) (fun w' hw' => y_ld (ex (pt dc t)) ShaRT.sc92 (cls_cell (ao.val om rfl) ao.lt w' hw')) (q_val (fun w' hw' => y_bin e6 e6 add64) (q_as e6 (q_nil ?_))))))))))))))))))))))))))))))))
     intro eq be
     replace ay := ay.step be
     replace r_rp := r_rp.step be
     replace r_g := r_g.step be
     replace aa := aa.step be
     replace ac := ac.step be
     replace ab := ab.step be
     replace ao := ao.step be
     replace hk := thenB hk be
     refine then_n (wp_seq (region_q ShaRT.mixed kr (q_mv (ex (pt rp 0) bj) (q_mv e6 (q_call (v := U64 (Sha.th false (Sha.vs false (gb s) hh t 0) 6 false)) (Tryz.func63) kr rfl (m4 (ex (pt rp 0)) e6 Ev.c Ev.c) (fun w' hw' => three_ff rp ou g cap bg kd hkd (Sha.vs false (gb s) hh t 0) 6 om w' (r_rp.step hw')) (q_mv e6 (q_val (fun w' hw' => y_ia1z (i := 1) (ex (pt ai 0) ae) Ev.c Tryz.underlying93 ShaRT.sz92 om om) (q_val (v := U64 (Sha.vs false (gb s) hh t 1)) (fun w' hw' => y_ld (ex (pt ai 1)) ShaRT.sc92 (cls_cell (ab.val om rfl) ab.lt w' hw')) (q_val (fun w' hw' => y_bin e6 e6 and64) (q_mv e6 (q_val (fun w' hw' => y_ia1z (i := 2) (ex (pt ai 0) ae) Ev.c Tryz.underlying93 ShaRT.sz92 om om) (q_val (v := U64 (Sha.vs false (gb s) hh t 2)) (fun w' hw' => y_ld (ex (pt ai 2)) ShaRT.sc92 (cls_cell (ab.val om rfl) ab.lt w' hw')) (q_val (fun w' hw' => y_bin e6 e6 and64) (q_val (fun w' hw' => y_bin e6 e6 xor64) (q_val (fun w' hw' => y_ia1z (i := 1) (ex (pt ai 0) ae) Ev.c Tryz.underlying93 ShaRT.sz92 om om) (q_val (v := U64 (Sha.vs false (gb s) hh t 1)) (fun w' hw' => y_ld (ex (pt ai 1)) ShaRT.sc92 (cls_cell (ab.val om rfl) ab.lt w' hw')) (q_val (fun w' hw' => y_ia1z (i := 2) (ex (pt ai 0) ae) Ev.c Tryz.underlying93 ShaRT.sz92 om om) (q_val (v := U64 (Sha.vs false (gb s) hh t 2)) (fun w' hw' => y_ld (ex (pt ai 2)) ShaRT.sc92 (cls_cell (ab.val om rfl) ab.lt w' hw')) (q_val (fun w' hw' => y_bin e6 e6 and64) (q_val (fun w' hw' => y_bin e6 e6 xor64) (q_val (fun w' hw' => y_bin e6 e6 add64) (q_as e6 (q_nil ?_)))))))))))))))))))))))
     intro ep bh
     replace ay := ay.step bh
     replace r_rp := r_rp.step bh
     replace r_g := r_g.step bh
     replace aa := aa.step bh
     replace ac := ac.step bh
     replace ab := ab.step bh
     replace ao := ao.step bh
     replace hk := thenB hk bh
     refine then_n (region_t 22 ShaRT.mixed kr ?_)
     simp only [List.take_succ_cons, List.take_zero, List.drop_succ_cons, List.drop_zero]
     refine q_mv (ex (pt rp 0) bj) (q_mv e6 (q_mv e6 (q_val (fun w' hw' => y_bin e6 e6 add64) (q_call (v := U64 (Sha.wd false ((((((Sha.vs false (gb s) hh t 7) + (Sha.th false (Sha.vs false (gb s) hh t 4) 9 false)) + (((Sha.vs false (gb s) hh t 4) &&& (Sha.vs false (gb s) hh t 5)) ^^^ ((~~~(Sha.vs false (gb s) hh t 4)) &&& (Sha.vs false (gb s) hh t 6)))) + (Sha.K false t)) + (Sha.w false (gb s) t)) + ((Sha.th false (Sha.vs false (gb s) hh t 0) 6 false) + ((((Sha.vs false (gb s) hh t 0) &&& (Sha.vs false (gb s) hh t 1)) ^^^ ((Sha.vs false (gb s) hh t 0) &&& (Sha.vs false (gb s) hh t 2))) ^^^ ((Sha.vs false (gb s) hh t 1) &&& (Sha.vs false (gb s) hh t 2))))))) (Tryz.func62) kr rfl (m2 (ex (pt rp 0)) e6) (fun w' hw' => word_f rp ou g cap bg kd hkd ((((((Sha.vs false (gb s) hh t 7) + (Sha.th false (Sha.vs false (gb s) hh t 4) 9 false)) + (((Sha.vs false (gb s) hh t 4) &&& (Sha.vs false (gb s) hh t 5)) ^^^ ((~~~(Sha.vs false (gb s) hh t 4)) &&& (Sha.vs false (gb s) hh t 6)))) + (Sha.K false t)) + (Sha.w false (gb s) t)) + ((Sha.th false (Sha.vs false (gb s) hh t 0) 6 false) + ((((Sha.vs false (gb s) hh t 0) &&& (Sha.vs false (gb s) hh t 1)) ^^^ ((Sha.vs false (gb s) hh t 0) &&& (Sha.vs false (gb s) hh t 2))) ^^^ ((Sha.vs false (gb s) hh t 1) &&& (Sha.vs false (gb s) hh t 2))))) w' (r_rp.step hw')) (q_mv e6 (q_val (fun w' hw' => y_ia1z (i := 1) (ex (pt ai 0) ae) Ev.c Tryz.underlying93 ShaRT.sz92 om om) (q_val (v := U64 (Sha.vs false (gb s) hh t 1)) (fun w' hw' => y_ld (ex (pt ai 1)) ShaRT.sc92 (cls_cell (ab.val om rfl) ab.lt w' hw')) (q_val (fun w' hw' => y_ia1z (i := 2) (ex (pt ai 0) ae) Ev.c Tryz.underlying93 ShaRT.sz92 om om) (q_val (v := U64 (Sha.vs false (gb s) hh t 2)) (fun w' hw' => y_ld (ex (pt ai 2)) ShaRT.sc92 (cls_cell (ab.val om rfl) ab.lt w' hw')) (q_mv (ex (pt rp 0) bj) (q_val (fun w' hw' => y_ia1z (i := 3) (ex (pt ai 0) ae) Ev.c Tryz.underlying93 ShaRT.sz92 om om) (q_val (v := U64 (Sha.vs false (gb s) hh t 3)) (fun w' hw' => y_ld (ex (pt ai 3)) ShaRT.sc92 (cls_cell (ab.val om rfl) ab.lt w' hw')) (q_mv e6 (q_val (fun w' hw' => y_bin e6 e6 add64) (q_call (v := U64 (Sha.wd false ((Sha.vs false (gb s) hh t 3) + (((((Sha.vs false (gb s) hh t 7) + (Sha.th false (Sha.vs false (gb s) hh t 4) 9 false)) + (((Sha.vs false (gb s) hh t 4) &&& (Sha.vs false (gb s) hh t 5)) ^^^ ((~~~(Sha.vs false (gb s) hh t 4)) &&& (Sha.vs false (gb s) hh t 6)))) + (Sha.K false t)) + (Sha.w false (gb s) t))))) (Tryz.func62) kr rfl (m2 (ex (pt rp 0)) e6) (fun w' hw' => word_f rp ou g cap bg kd hkd ((Sha.vs false (gb s) hh t 3) + (((((Sha.vs false (gb s) hh t 7) + (Sha.th false (Sha.vs false (gb s) hh t 4) 9 false)) + (((Sha.vs false (gb s) hh t 4) &&& (Sha.vs false (gb s) hh t 5)) ^^^ ((~~~(Sha.vs false (gb s) hh t 4)) &&& (Sha.vs false (gb s) hh t 6)))) + (Sha.K false t)) + (Sha.w false (gb s) t))) w' (r_rp.step hw')) (q_mv e6 (q_val (fun w' hw' => y_ia1z (i := 5) (ex (pt ai 0) ae) Ev.c Tryz.underlying93 ShaRT.sz92 om om) (q_val (v := U64 (Sha.vs false (gb s) hh t 5)) (fun w' hw' => y_ld (ex (pt ai 5)) ShaRT.sc92 (cls_cell (ab.val om rfl) ab.lt w' hw')) (q_val (fun w' hw' => y_ia1z (i := 6) (ex (pt ai 0) ae) Ev.c Tryz.underlying93 ShaRT.sz92 om om) (q_val (v := U64 (Sha.vs false (gb s) hh t 6)) (fun w' hw' => y_ld (ex (pt ai 6)) ShaRT.sc92 (cls_cell (ab.val om rfl) ab.lt w' hw')) (q_val (v := .agg (arr 8 (fun j => if j < 1 then U64 (Sha.wd false ((((((Sha.vs false (gb s) hh t 7) + (Sha.th false (Sha.vs false (gb s) hh t 4) 9 false)) + (((Sha.vs false (gb s) hh t 4) &&& (Sha.vs false (gb s) hh t 5)) ^^^ ((~~~(Sha.vs false (gb s) hh t 4)) &&& (Sha.vs false (gb s) hh t 6)))) + (Sha.K false t)) + (Sha.w false (gb s) t)) + ((Sha.th false (Sha.vs false (gb s) hh t 0) 6 false) + ((((Sha.vs false (gb s) hh t 0) &&& (Sha.vs false (gb s) hh t 1)) ^^^ ((Sha.vs false (gb s) hh t 0) &&& (Sha.vs false (gb s) hh t 2))) ^^^ ((Sha.vs false (gb s) hh t 1) &&& (Sha.vs false (gb s) hh t 2)))))) else if j < 2 then U64 (Sha.vs false (gb s) hh t 0) else if j < 3 then U64 (Sha.vs false (gb s) hh t 1) else if j < 4 then U64 (Sha.vs false (gb s) hh t 2) else if j < 5 then U64 (Sha.wd false ((Sha.vs false (gb s) hh t 3) + (((((Sha.vs false (gb s) hh t 7) + (Sha.th false (Sha.vs false (gb s) hh t 4) 9 false)) + (((Sha.vs false (gb s) hh t 4) &&& (Sha.vs false (gb s) hh t 5)) ^^^ ((~~~(Sha.vs false (gb s) hh t 4)) &&& (Sha.vs false (gb s) hh t 6)))) + (Sha.K false t)) + (Sha.w false (gb s) t)))) else if j < 6 then U64 (Sha.vs false (gb s) hh t 4) else if j < 7 then U64 (Sha.vs false (gb s) hh t 5) else U64 (Sha.vs false (gb s) hh t 6)))) (fun w' hw' => y_build (vs := #[(0, U64 (Sha.wd false ((((((Sha.vs false (gb s) hh t 7) + (Sha.th false (Sha.vs false (gb s) hh t 4) 9 false)) + (((Sha.vs false (gb s) hh t 4) &&& (Sha.vs false (gb s) hh t 5)) ^^^ ((~~~(Sha.vs false (gb s) hh t 4)) &&& (Sha.vs false (gb s) hh t 6)))) + (Sha.K false t)) + (Sha.w false (gb s) t)) + ((Sha.th false (Sha.vs false (gb s) hh t 0) 6 false) + ((((Sha.vs false (gb s) hh t 0) &&& (Sha.vs false (gb s) hh t 1)) ^^^ ((Sha.vs false (gb s) hh t 0) &&& (Sha.vs false (gb s) hh t 2))) ^^^ ((Sha.vs false (gb s) hh t 1) &&& (Sha.vs false (gb s) hh t 2))))))), (1, U64 (Sha.vs false (gb s) hh t 0)), (2, U64 (Sha.vs false (gb s) hh t 1)), (3, U64 (Sha.vs false (gb s) hh t 2)), (4, U64 (Sha.wd false ((Sha.vs false (gb s) hh t 3) + (((((Sha.vs false (gb s) hh t 7) + (Sha.th false (Sha.vs false (gb s) hh t 4) 9 false)) + (((Sha.vs false (gb s) hh t 4) &&& (Sha.vs false (gb s) hh t 5)) ^^^ ((~~~(Sha.vs false (gb s) hh t 4)) &&& (Sha.vs false (gb s) hh t 6)))) + (Sha.K false t)) + (Sha.w false (gb s) t))))), (5, U64 (Sha.vs false (gb s) hh t 4)), (6, U64 (Sha.vs false (gb s) hh t 5)), (7, U64 (Sha.vs false (gb s) hh t 6))]) (mp_cons e6 (mp_cons e6 (mp_cons e6 (mp_cons e6 (mp_cons e6 (mp_cons e6 (mp_cons e6 (mp_cons e6 mp0)))))))) (fun w => by kernel_rfl)) (q_nil ?_))))))))))))))))))))))
     intro eo bf
     replace ay := ay.step bf
     replace r_rp := r_rp.step bf
     replace r_g := r_g.step bf
     replace aa := aa.step bf
     replace ac := ac.step bf
     replace ab := ab.step bf
     replace ao := ao.step bf
     replace hk := thenB hk bf
     refine w_sta (k := 8) (G := fun j => if j < 1 then U64 (Sha.wd false ((((((Sha.vs false (gb s) hh t 7) + (Sha.th false (Sha.vs false (gb s) hh t 4) 9 false)) + (((Sha.vs false (gb s) hh t 4) &&& (Sha.vs false (gb s) hh t 5)) ^^^ ((~~~(Sha.vs false (gb s) hh t 4)) &&& (Sha.vs false (gb s) hh t 6)))) + (Sha.K false t)) + (Sha.w false (gb s) t)) + ((Sha.th false (Sha.vs false (gb s) hh t 0) 6 false) + ((((Sha.vs false (gb s) hh t 0) &&& (Sha.vs false (gb s) hh t 1)) ^^^ ((Sha.vs false (gb s) hh t 0) &&& (Sha.vs false (gb s) hh t 2))) ^^^ ((Sha.vs false (gb s) hh t 1) &&& (Sha.vs false (gb s) hh t 2)))))) else if j < 2 then U64 (Sha.vs false (gb s) hh t 0) else if j < 3 then U64 (Sha.vs false (gb s) hh t 1) else if j < 4 then U64 (Sha.vs false (gb s) hh t 2) else if j < 5 then U64 (Sha.wd false ((Sha.vs false (gb s) hh t 3) + (((((Sha.vs false (gb s) hh t 7) + (Sha.th false (Sha.vs false (gb s) hh t 4) 9 false)) + (((Sha.vs false (gb s) hh t 4) &&& (Sha.vs false (gb s) hh t 5)) ^^^ ((~~~(Sha.vs false (gb s) hh t 4)) &&& (Sha.vs false (gb s) hh t 6)))) + (Sha.K false t)) + (Sha.w false (gb s) t)))) else if j < 6 then U64 (Sha.vs false (gb s) hh t 4) else if j < 7 then U64 (Sha.vs false (gb s) hh t 5) else U64 (Sha.vs false (gb s) hh t 6)) (ex (pt ai 0) ae) ea oc ShaRT.sz93 ab om ?_
     clear ab; intro e9 ab bq _
     replace ab := ab.congr (g := fun j => if j < 1 then U64 (Sha.wd false ((((((Sha.vs false (gb s) hh t 7) + (Sha.th false (Sha.vs false (gb s) hh t 4) 9 false)) + (((Sha.vs false (gb s) hh t 4) &&& (Sha.vs false (gb s) hh t 5)) ^^^ ((~~~(Sha.vs false (gb s) hh t 4)) &&& (Sha.vs false (gb s) hh t 6)))) + (Sha.K false t)) + (Sha.w false (gb s) t)) + ((Sha.th false (Sha.vs false (gb s) hh t 0) 6 false) + ((((Sha.vs false (gb s) hh t 0) &&& (Sha.vs false (gb s) hh t 1)) ^^^ ((Sha.vs false (gb s) hh t 0) &&& (Sha.vs false (gb s) hh t 2))) ^^^ ((Sha.vs false (gb s) hh t 1) &&& (Sha.vs false (gb s) hh t 2)))))) else if j < 2 then U64 (Sha.vs false (gb s) hh t 0) else if j < 3 then U64 (Sha.vs false (gb s) hh t 1) else if j < 4 then U64 (Sha.vs false (gb s) hh t 2) else if j < 5 then U64 (Sha.wd false ((Sha.vs false (gb s) hh t 3) + (((((Sha.vs false (gb s) hh t 7) + (Sha.th false (Sha.vs false (gb s) hh t 4) 9 false)) + (((Sha.vs false (gb s) hh t 4) &&& (Sha.vs false (gb s) hh t 5)) ^^^ ((~~~(Sha.vs false (gb s) hh t 4)) &&& (Sha.vs false (gb s) hh t 6)))) + (Sha.K false t)) + (Sha.w false (gb s) t)))) else if j < 6 then U64 (Sha.vs false (gb s) hh t 4) else if j < 7 then U64 (Sha.vs false (gb s) hh t 5) else U64 (Sha.vs false (gb s) hh t 6)) (fun j hj => by rw [if_pos ⟨Nat.zero_le _, by omega⟩]; first | rfl | (simp only [Nat.sub_zero]))
     replace ay := ay.stepG bq am
     replace r_rp := r_rp.stepG bq om
     replace r_g := r_g.stepG bq om
     replace aa := aa.stepG bq om
     replace ac := ac.stepG bq om
     replace ao := ao.stepG bq om
     replace hk := thenG hk bq om
     refine wpList_nil (inb_n (then_n (wp_region_lit (w_mv (ei b1) (w_val (y_bin ei Ev.c (b_add om)) (w_as ei (wpList_nil ?_)))))))
     exact then_n ⟨_, om, t + 1, vc, rfl, _, rfl, iv, bj, dq, dp, c5, ae, ti, r_rp, r_g, aa, ac, (ab.congr (fun j hj => by exact Sha.rnd_row false (gb s) hh t j hj _ _ rfl rfl)), ay, a1, ba, au, av, am, hk⟩
    ·skip
     refine wp_exit (then_x ?_)
     replace ab := ab.congr (g := fun j => U64 (Sha.vs false (gb s) hh 80 j)) (fun j hj => by rw [show t = 80 from by omega])
     refine then_x (inb_x (then_n (wp_seq (sr (w_as Ev.c (nt (wp_block ?_)))))))
     refine c_loop (fun dN aN wl => ∃ (q : Nat) (vd : Value), dN = (8 - q) ∧ ∃ cu, aN = fr 183 cu ∧ (q ≤ 8) ∧ cu 0 = pt rp 0 ∧ cu 4 = pt a7 0 ∧ cu 6 = pt bk 0 ∧ cu 7 = vd ∧ cu 12 = pt ai 0 ∧ cu 18 = .int .i64 ((q : Nat) : Int) ∧ Row wl rp 96 25 (Sha.rrow (.int .i64 kd) (.int .i64 ((ou : Nat) : Int)) (.int .i64 128) (.int .i64 80) (.slice (some ⟨g, 0, none⟩) 80 cap) bg (fun i => U64 (BitVec.ofNat 64 (Sha.trn false i)))) ∧ Row wl g 92 80 (fun j => U64 (Sha.K false j)) ∧ Row wl a7 93 8 (fun j => if j < q then (fun j => U64 (Sha.comp false (gb s) hh j)) j else (fun j => U64 (hh j)) j) ∧ Row wl bk 93 8 (fun j => U64 (0#64)) ∧ Row wl ai 93 8 (fun j => U64 (Sha.vs false (gb s) hh 80 j)) ∧ Own wl w0.heap.size 92 1 vd 80 (fun j => U64 (Sha.w false (gb s) j)) ∧ vd.ownBlock ≠ some rp ∧ vd.ownBlock ≠ some g ∧ vd.ownBlock ≠ some a7 ∧ vd.ownBlock ≠ some bk ∧ vd.ownBlock ≠ some ai ∧ Below w0.heap.size w0 wl) (8 - 0) ?_ ?_
     · exact ⟨0, vc, rfl, _, rfl, iv, bj, dq, dp, (Eq.trans (b := vc) c5 dv), ae, ti, r_rp, r_g, (aa.cg), ac, ab, ay, a1, ba, au, av, am, hk⟩
     ·skip
      clear r_rp r_g aa ac ab ay hk
      rintro _ _ ez ⟨q, vd, rfl, cu, rfl, ej, d0, cn, c1, d3, cr, bd, r_rp, r_g, aa, ac, ab, bs, ce, cq, a5, a8, cc, hk⟩
      refine wp_seq (sr (w_mv (ei bd) (w_val (y_bin ei Ev.c b_lss) (nt ?_))))
      refine c_if (p := ((q : Nat) : Int) < 8) eb (fun hc45 => ?_) (fun hc45 => ?_)
      ·skip
       refine wp_skip (then_n (wp_seq (wp_block (region_t 11 ShaRT.mixed kr ?_))))
       simp only [List.take_succ_cons, List.take_zero, List.drop_succ_cons, List.drop_zero]
       refine q_mv (ei bd) (q_mv (ex (pt rp 0) d0) (q_mv (ei bd) (q_val (fun w' hw' => y_ia1z (i := q) (ex (pt a7 0) cn) ei Tryz.underlying93 ShaRT.sz92 om om) (q_val (v := U64 (hh q)) (fun w' hw' => y_ld (ex (pt a7 q)) ShaRT.sc92 (cls_cell (aa.val om (ng rfl)) aa.lt w' hw')) (q_mv (ei bd) (q_val (fun w' hw' => y_ia1z (i := q) (ex (pt ai 0) cr) ei Tryz.underlying93 ShaRT.sz92 om om) (q_val (v := U64 (Sha.vs false (gb s) hh 80 q)) (fun w' hw' => y_ld (ex (pt ai q)) ShaRT.sc92 (cls_cell (ab.val om rfl) ab.lt w' hw')) (q_val (fun w' hw' => y_bin e6 e6 add64) (q_call (v := U64 (Sha.wd false ((hh q) + (Sha.vs false (gb s) hh 80 q)))) (Tryz.func62) kr rfl (m2 (ex (pt rp 0)) e6) (fun w' hw' => word_f rp ou g cap bg kd hkd ((hh q) + (Sha.vs false (gb s) hh 80 q)) w' (r_rp.step hw')) (q_val (fun w' hw' => y_ia1z (i := q) (ex (pt a7 0) cn) ei Tryz.underlying93 ShaRT.sz92 om om) (q_nil ?_)))))))))))
       intro ey br
       replace bs := bs.step br
       replace r_rp := r_rp.step br
       replace r_g := r_g.step br
       replace aa := aa.step br
       replace ac := ac.step br
       replace ab := ab.step br
       replace hk := thenB hk br
       refine w_st (v := U64 (Sha.wd false ((hh q) + (Sha.vs false (gb s) hh 80 q)))) (ex (pt a7 q)) e6 rfl rfl ShaRT.sz92 aa om ?_
       clear aa; intro e0 aa b3 _
       replace bs := bs.stepG b3 a5
       replace r_rp := r_rp.stepG b3 om
       replace r_g := r_g.stepG b3 om
       replace ac := ac.stepG b3 om
       replace ab := ab.stepG b3 om
       replace hk := thenG hk b3 om
       refine wpList_nil (inb_n (then_n (wp_region_lit (w_mv (ei bd) (w_val (y_bin ei Ev.c (b_add om)) (w_as ei (wpList_nil ?_)))))))
       exact then_n ⟨_, om, q + 1, vd, rfl, _, rfl, iv, d0, cn, c1, d3, cr, ti, r_rp, r_g, (aa.congr (fun j hj => by (try dsimp only); by_cases e : j = q; (rw [if_pos e, if_pos om, e]; rfl); (rw [if_neg e]; by_cases e2 : j < q; (rw [if_pos e2]; exact (if_pos om).symm); (rw [if_neg e2]; exact (if_neg om).symm)))), ac, ab, bs, ce, cq, a5, a8, cc, hk⟩
      ·skip
       refine wp_exit (then_x ?_)
       replace aa := aa.congr (g := fun j => U64 (Sha.comp false (gb s) hh j)) (fun j hj => by (try dsimp only); rw [if_pos om])
       refine then_x (inb_x (then_n (sr (w_val (v := .agg (arr 8 (fun j => U64 (Sha.comp false (gb s) hh j)))) (y_lda (ex (pt a7 0) cn) ShaRT.ag93 ShaRT.sz93 (fun j hj => by rw [Nat.zero_add]; exact (aa.cell om))) (w_sta (k := 8) (G := fun j => U64 (Sha.comp false (gb s) hh j)) (ex (pt bk 0) c1) ea oc ShaRT.sz93 ac om ?_)))))
       clear ac; intro er ac b8 _
       replace ac := ac.congr (g := fun j => U64 (Sha.comp false (gb s) hh j)) (fun j hj => by rw [if_pos ⟨Nat.zero_le _, by omega⟩]; first | rfl | (simp only [Nat.sub_zero]))
       replace bs := bs.stepG b8 a8
       replace r_rp := r_rp.stepG b8 om
       replace r_g := r_g.stepG b8 om
       replace aa := aa.stepG b8 om
       replace ab := ab.stepG b8 om
       replace hk := thenG hk b8 om
       refine nt (wp_ret (fin_arr (F := fun j => U64 (Sha.comp false (gb s) hh j)) rfl (ex (pt bk 0) c1) ShaRT.ag93 ShaRT.sz93 ac om ?_))
       exact ⟨rfl, hk⟩
end Go.Proofs.YtdmbfimjbmfbaaaGreatDoor
