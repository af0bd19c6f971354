/-
  Digests: the reference's rule, word by word and block by block. Conditions as each says.
-/
import Derived.Test.YtieepglpejlkoaaDoorRows
import Derived.Test.YtieepglpejlkoaaDoorGenMore
import Derived.Test.YtieepglpejlkoaaDoorShaRef
import Derived.ProofKit
namespace Go.Proofs.YtieepglpejlkoaaDoor
open Go.RowKit
set_option linter.unusedSimpArgs false
set_option linter.unusedVariables false
namespace ShaRT
theorem mixed : Tryd.prog.follows .mixedOrders = true := by kernel_rfl
theorem ag40 : (Tryd.prog.underlying 40).map isAggD = some true := by rw [Tryd.underlying40]; rfl
theorem fa44_0 (g off : Nat) : ∀ w, (Instr.fieldAt 44 (.pointer (some ⟨g, off, none⟩)) 0).run Tryd.prog w = .ok (.pointer (some ⟨g, off + 0, none⟩)) w := fun w => by kernel_rfl
theorem fa44_2 (g off : Nat) : ∀ w, (Instr.fieldAt 44 (.pointer (some ⟨g, off, none⟩)) 2).run Tryd.prog w = .ok (.pointer (some ⟨g, off + 2, none⟩)) w := fun w => by kernel_rfl
theorem fa44_3 (g off : Nat) : ∀ w, (Instr.fieldAt 44 (.pointer (some ⟨g, off, none⟩)) 3).run Tryd.prog w = .ok (.pointer (some ⟨g, off + 3, none⟩)) w := fun w => by kernel_rfl
theorem fa44_4 (g off : Nat) : ∀ w, (Instr.fieldAt 44 (.pointer (some ⟨g, off, none⟩)) 4).run Tryd.prog w = .ok (.pointer (some ⟨g, off + 4, none⟩)) w := fun w => by kernel_rfl
theorem fa44_6 (g off : Nat) : ∀ w, (Instr.fieldAt 44 (.pointer (some ⟨g, off, none⟩)) 6).run Tryd.prog w = .ok (.pointer (some ⟨g, off + 13, none⟩)) w := fun w => by kernel_rfl
theorem sc3 : (Tryd.prog.underlying 3).map scal = some true := by rw [Tryd.underlying3]; rfl
theorem sc38 : (Tryd.prog.underlying 38).map scal = some true := by rw [Tryd.underlying38]; rfl
theorem sc39 : (Tryd.prog.underlying 39).map scal = some true := by rw [Tryd.underlying39]; rfl
theorem sc41 : (Tryd.prog.underlying 41).map scal = some true := by rw [Tryd.underlying41]; rfl
theorem so5 : (Tryd.prog.underlying 5).isSome = true := by rw [Tryd.underlying5]; rfl
theorem sz39 : (Tryd.prog.info? 39).map (·.size) = some 1 := by kernel_rfl
theorem sz40 : (Tryd.prog.info? 40).map (·.size) = some 8 := by kernel_rfl
theorem sz41 : (Tryd.prog.info? 41).map (·.size) = some 1 := by kernel_rfl
end ShaRT
set_option maxRecDepth 100000 in
set_option maxHeartbeats 1000000 in
theorem word_t (rp ou g cap : Nat) (bg : Nat → BitVec 64) (x : BitVec 64) (w0 : World) (r_rp : Row w0 rp 44 25 (Sha.rrow (.int .i64 256) (.int .i64 ((ou : Nat) : Int)) (.int .i64 64) (.int .i64 64) (.slice (some ⟨g, 0, none⟩) 64 cap) bg (fun i => U64 (BitVec.ofNat 64 (Sha.trn true i))))) : Calls Tryd.prog 51 #[pt rp 0, U64 x] w0 fun e w' => e = .returned (U64 (Sha.wd true x)) ∧ Below w0.heap.size w0 w' := by
 refine enter (n := 13) Tryd.func51 rfl rfl rfl ?_
 have hk : Below w0.heap.size w0 w0 := Below.refl _ _
 have lt_rp := r_rp.lt
 refine sr ?_
 refine w_as (evc (U64 (0#64))) ?_
 refine nt ?_
 refine wp_seq ?_
 refine sr ?_
 refine w_mv (ev (pt rp 0) rfl rfl) ?_
 refine w_val (y_nc (ev (pt rp 0) rfl rfl)) ?_
 refine w_val (v := pt rp 0) (y_off (y_fa (ev (pt rp 0) rfl rfl) (ShaRT.fa44_0 _ _)) (by first | rfl | omega)) ?_
 refine w_val (v := .int .i64 256) (y_ld (ev (pt rp 0) rfl rfl) ShaRT.sc3 (r_rp.val (by omega) (etv (if_pos (by omega))))) ?_
 refine w_val (y_bin (ev (.int .i64 256) rfl rfl) (evc (.int .i64 256)) b_eql) ?_
 refine nt ?_
 refine c_tt (ev (.bool true) rfl rfl) ?_
 refine sr ?_
 refine w_mv (ev (U64 x) rfl rfl) ?_
 refine w_val (y_bin (ev (U64 x) rfl rfl) (evc (U64 (4294967296#64))) (rem64 (by decide))) ?_
 refine w_as (ev (U64 (x % (4294967296#64))) rfl rfl) ?_
 refine nt ?_
 refine wp_ret ?_
 refine then_r ?_
 refine fin_ret1 rfl (ev (U64 (x % (4294967296#64))) rfl rfl) ?_
 refine ⟨congrArg Ending.returned ?_, hk⟩
 show (U64 (x % (4294967296#64)) : Value) = U64 (Sha.wd true x)
 rfl

set_option maxRecDepth 100000 in
set_option maxHeartbeats 1000000 in
theorem turn_t (rp ou g cap : Nat) (bg : Nat → BitVec 64) (x : BitVec 64) (n : Nat) (hn : n ≤ 32) (w0 : World) (r_rp : Row w0 rp 44 25 (Sha.rrow (.int .i64 256) (.int .i64 ((ou : Nat) : Int)) (.int .i64 64) (.int .i64 64) (.slice (some ⟨g, 0, none⟩) 64 cap) bg (fun i => U64 (BitVec.ofNat 64 (Sha.trn true i))))) : Calls Tryd.prog 58 #[pt rp 0, U64 x, U64 (BitVec.ofNat 64 n)] w0 fun e w' => e = .returned (U64 (Sha.tn true x n)) ∧ Below w0.heap.size w0 w' := by
 refine enter (n := 30) Tryd.func58 rfl rfl rfl ?_
 have hk : Below w0.heap.size w0 w0 := Below.refl _ _
 have lt_rp := r_rp.lt
 refine sr ?_
 refine w_as (evc (U64 (0#64))) ?_
 refine nt ?_
 refine wp_seq ?_
 refine sr ?_
 refine w_mv (ev (pt rp 0) rfl rfl) ?_
 refine w_val (y_nc (ev (pt rp 0) rfl rfl)) ?_
 refine w_val (v := pt rp 0) (y_off (y_fa (ev (pt rp 0) rfl rfl) (ShaRT.fa44_0 _ _)) (by first | rfl | omega)) ?_
 refine w_val (v := .int .i64 256) (y_ld (ev (pt rp 0) rfl rfl) ShaRT.sc3 (r_rp.val (by omega) (etv (if_pos (by omega))))) ?_
 refine w_val (y_bin (ev (.int .i64 256) rfl rfl) (evc (.int .i64 256)) b_eql) ?_
 refine nt ?_
 refine c_tt (ev (.bool true) rfl rfl) ?_
 refine sr ?_
 refine w_mv (ev (pt rp 0) rfl rfl) ?_
 refine w_mv (ev (U64 x) rfl rfl) ?_
 refine w_mv (ev (U64 (BitVec.ofNat 64 n)) rfl rfl) ?_
 refine w_val (y_bin (ev (U64 x) rfl rfl) (ev (U64 (BitVec.ofNat 64 n)) rfl rfl) (shr64 (c := n) (by rw [BitVec.toNat_ofNat]; omega))) ?_
 refine w_mv (ev (U64 x) rfl rfl) ?_
 refine w_mv (ev (U64 (BitVec.ofNat 64 n)) rfl rfl) ?_
 refine w_val (y_bin (evc (U64 (32#64))) (ev (U64 (BitVec.ofNat 64 n)) rfl rfl) sub64) ?_
 refine w_val (y_bin (ev (U64 x) rfl rfl) (ev (U64 ((32#64) - (BitVec.ofNat 64 n))) rfl rfl) (shl64 (c := (((32#64) - (BitVec.ofNat 64 n)).toNat)) rfl)) ?_
 refine w_val (y_bin (ev (U64 (x >>> n)) rfl rfl) (ev (U64 (x <<< (((32#64) - (BitVec.ofNat 64 n)).toNat))) rfl rfl) or64) ?_
 refine w_call (Tryd.func51) (by kernel_rfl) rfl (m2 (ev (pt rp 0) rfl rfl) (ev (U64 ((x >>> n) ||| (x <<< (((32#64) - (BitVec.ofNat 64 n)).toNat)))) rfl rfl)) (word_t rp ou g cap bg ((x >>> n) ||| (x <<< (((32#64) - (BitVec.ofNat 64 n)).toNat))) w0 r_rp) ?_
 rintro _ w1 ⟨rfl, hb2⟩
 refine ⟨_, rfl, ?_⟩
 replace r_rp := r_rp.step hb2
 replace hk := thenB hk hb2
 refine w_as (ev (U64 (Sha.wd true ((x >>> n) ||| (x <<< (((32#64) - (BitVec.ofNat 64 n)).toNat))))) rfl rfl) ?_
 refine nt ?_
 refine wp_ret ?_
 refine then_r ?_
 refine fin_ret1 rfl (ev (U64 (Sha.wd true ((x >>> n) ||| (x <<< (((32#64) - (BitVec.ofNat 64 n)).toNat))))) rfl rfl) ?_
 refine ⟨congrArg Ending.returned ?_, hk⟩
 show (U64 (Sha.wd true ((x >>> n) ||| (x <<< (((32#64) - (BitVec.ofNat 64 n)).toNat)))) : Value) = U64 (Sha.tn true x n)
 rw [Sha.sub_ofNat 32 n (by omega) (by omega)]; rfl

set_option maxRecDepth 100000 in
set_option maxHeartbeats 1000000 in
theorem three_tt (rp ou g cap : Nat) (bg : Nat → BitVec 64) (x : BitVec 64) (a : Nat) (ha : a + 2 < 12) (w0 : World) (r_rp : Row w0 rp 44 25 (Sha.rrow (.int .i64 256) (.int .i64 ((ou : Nat) : Int)) (.int .i64 64) (.int .i64 64) (.slice (some ⟨g, 0, none⟩) 64 cap) bg (fun i => U64 (BitVec.ofNat 64 (Sha.trn true i))))) : Calls Tryd.prog 52 #[pt rp 0, U64 x, .int .i64 ((a : Nat) : Int), .bool true] w0 fun e w' => e = .returned (U64 (Sha.th true x a true)) ∧ Below w0.heap.size w0 w' := by
 have ht0 := Sha.trn_le a
 have ht1 := Sha.trn_le (a + 1)
 have ht2 := Sha.trn_le (a + 2)
 refine enter (n := 52) Tryd.func52 rfl rfl rfl ?_
 have hk : Below w0.heap.size w0 w0 := Below.refl _ _
 have lt_rp := r_rp.lt
 refine sr ?_
 refine w_as (evc (U64 (0#64))) ?_
 refine nt ?_
 refine sr ?_
 refine w_mv (ev (pt rp 0) rfl rfl) ?_
 refine w_mv (ev (U64 x) rfl rfl) ?_
 refine w_mv (ev (pt rp 0) rfl rfl) ?_
 refine w_mv (ev (.int .i64 ((a : Nat) : Int)) rfl rfl) ?_
 refine w_val (y_bin (ev (.int .i64 ((a : Nat) : Int)) rfl rfl) (evc (.int .i64 2)) (b_add (by omega))) ?_
 refine w_val (y_nc (ev (pt rp 0) rfl rfl)) ?_
 refine w_val (v := pt rp 13) (y_off (y_fa (ev (pt rp 0) rfl rfl) (ShaRT.fa44_6 _ _)) (by first | rfl | omega)) ?_
 refine w_val (v := pt rp (13 + (a + 2))) (y_off (y_ia1 (i := (a + 2)) (ev (pt rp 13) rfl rfl) (ev (.int .i64 (((a : Nat) : Int) + 2)) rfl rfl) Tryd.underlying42 ShaRT.sz41 (by omega) (by omega)) (by first | rfl | omega)) ?_
 refine w_val (v := U64 (BitVec.ofNat 64 (Sha.trn true (a + 2)))) (y_ld (ev (pt rp (13 + (a + 2))) rfl rfl) ShaRT.sc41 (r_rp.val (by omega) ((if_neg (by omega)).trans ((if_neg (by omega)).trans ((if_neg (by omega)).trans ((if_neg (by omega)).trans ((if_neg (by omega)).trans ((if_neg (by omega)).trans (by first | with_reducible rfl | (with_reducible congr 1 <;> omega) | (with_reducible congr 2 <;> omega) | (with_reducible congr 3 <;> omega) | rfl))))))))) ?_
 refine w_call (Tryd.func58) (by kernel_rfl) rfl (m3 (ev (pt rp 0) rfl rfl) (ev (U64 x) rfl rfl) (ev (U64 (BitVec.ofNat 64 (Sha.trn true (a + 2)))) rfl rfl)) (turn_t rp ou g cap bg x (Sha.trn true (a + 2)) (by omega) w0 r_rp) ?_
 rintro _ w1 ⟨rfl, hb2⟩
 refine ⟨_, rfl, ?_⟩
 replace r_rp := r_rp.step hb2
 replace hk := thenB hk hb2
 refine w_as (ev (U64 (Sha.tn true x (Sha.trn true (a + 2)))) rfl rfl) ?_
 refine nt ?_
 refine wp_seq ?_
 refine sr ?_
 refine w_mv (ev (.bool true) rfl rfl) ?_
 refine nt ?_
 refine c_tt (ev (.bool true) rfl rfl) ?_
 refine wp_region_lit ?_
 refine w_mv (ev (U64 x) rfl rfl) ?_
 refine w_mv (ev (pt rp 0) rfl rfl) ?_
 refine w_mv (ev (.int .i64 ((a : Nat) : Int)) rfl rfl) ?_
 refine w_val (y_bin (ev (.int .i64 ((a : Nat) : Int)) rfl rfl) (evc (.int .i64 2)) (b_add (by omega))) ?_
 refine w_val (y_nc (ev (pt rp 0) rfl rfl)) ?_
 refine w_val (v := pt rp 13) (y_off (y_fa (ev (pt rp 0) rfl rfl) (ShaRT.fa44_6 _ _)) (by first | rfl | omega)) ?_
 refine w_val (v := pt rp (13 + (a + 2))) (y_off (y_ia1 (i := (a + 2)) (ev (pt rp 13) rfl rfl) (ev (.int .i64 (((a : Nat) : Int) + 2)) rfl rfl) Tryd.underlying42 ShaRT.sz41 (by omega) (by omega)) (by first | rfl | omega)) ?_
 refine w_val (v := U64 (BitVec.ofNat 64 (Sha.trn true (a + 2)))) (y_ld (ev (pt rp (13 + (a + 2))) rfl rfl) ShaRT.sc41 (r_rp.val (by omega) ((if_neg (by omega)).trans ((if_neg (by omega)).trans ((if_neg (by omega)).trans ((if_neg (by omega)).trans ((if_neg (by omega)).trans ((if_neg (by omega)).trans (by first | with_reducible rfl | (with_reducible congr 1 <;> omega) | (with_reducible congr 2 <;> omega) | (with_reducible congr 3 <;> omega) | rfl))))))))) ?_
 refine w_val (y_bin (ev (U64 x) rfl rfl) (ev (U64 (BitVec.ofNat 64 (Sha.trn true (a + 2)))) rfl rfl) (shr64 (c := (Sha.trn true (a + 2))) (by rw [BitVec.toNat_ofNat]; omega))) ?_
 refine w_as (ev (U64 (x >>> (Sha.trn true (a + 2)))) rfl rfl) ?_
 refine nt ?_
 refine wp_seq ?_
 refine region_q ShaRT.mixed (by kernel_rfl) ?_
 refine q_mv (ev (pt rp 0) rfl rfl) ?_
 refine q_mv (ev (U64 x) rfl rfl) ?_
 refine q_mv (ev (pt rp 0) rfl rfl) ?_
 refine q_mv (ev (.int .i64 ((a : Nat) : Int)) rfl rfl) ?_
 refine q_val (fun w' hw' => y_nc (ev (pt rp 0) rfl rfl)) ?_
 refine q_val (v := pt rp 13) (fun w' hw' => y_off (y_fa (ev (pt rp 0) rfl rfl) (ShaRT.fa44_6 _ _)) (by first | rfl | omega)) ?_
 refine q_val (v := pt rp (13 + a)) (fun w' hw' => y_off (y_ia1 (i := a) (ev (pt rp 13) rfl rfl) (ev (.int .i64 ((a : Nat) : Int)) rfl rfl) Tryd.underlying42 ShaRT.sz41 (by omega) (by omega)) (by first | rfl | omega)) ?_
 refine q_val (v := U64 (BitVec.ofNat 64 (Sha.trn true a))) (fun w' hw' => y_ld (ev (pt rp (13 + a)) rfl rfl) ShaRT.sc41 (cls_cell (r_rp.val (by omega) ((if_neg (by omega)).trans ((if_neg (by omega)).trans ((if_neg (by omega)).trans ((if_neg (by omega)).trans ((if_neg (by omega)).trans ((if_neg (by omega)).trans (by first | with_reducible rfl | (with_reducible congr 1 <;> omega) | (with_reducible congr 2 <;> omega) | (with_reducible congr 3 <;> omega) | rfl)))))))) r_rp.lt w' hw')) ?_
 refine q_call (v := U64 (Sha.tn true x (Sha.trn true a))) (Tryd.func58) (by kernel_rfl) rfl (m3 (ev (pt rp 0) rfl rfl) (ev (U64 x) rfl rfl) (ev (U64 (BitVec.ofNat 64 (Sha.trn true a))) rfl rfl)) (fun w' hw' => turn_t rp ou g cap bg x (Sha.trn true a) (by omega) w' (r_rp.step hw')) ?_
 refine q_mv (ev (pt rp 0) rfl rfl) ?_
 refine q_mv (ev (U64 x) rfl rfl) ?_
 refine q_mv (ev (pt rp 0) rfl rfl) ?_
 refine q_mv (ev (.int .i64 ((a : Nat) : Int)) rfl rfl) ?_
 refine q_val (fun w' hw' => y_bin (ev (.int .i64 ((a : Nat) : Int)) rfl rfl) (evc (.int .i64 1)) (b_add (by omega))) ?_
 refine q_val (fun w' hw' => y_nc (ev (pt rp 0) rfl rfl)) ?_
 refine q_val (v := pt rp 13) (fun w' hw' => y_off (y_fa (ev (pt rp 0) rfl rfl) (ShaRT.fa44_6 _ _)) (by first | rfl | omega)) ?_
 refine q_val (v := pt rp (13 + (a + 1))) (fun w' hw' => y_off (y_ia1 (i := (a + 1)) (ev (pt rp 13) rfl rfl) (ev (.int .i64 (((a : Nat) : Int) + 1)) rfl rfl) Tryd.underlying42 ShaRT.sz41 (by omega) (by omega)) (by first | rfl | omega)) ?_
 refine q_val (v := U64 (BitVec.ofNat 64 (Sha.trn true (a + 1)))) (fun w' hw' => y_ld (ev (pt rp (13 + (a + 1))) rfl rfl) ShaRT.sc41 (cls_cell (r_rp.val (by omega) ((if_neg (by omega)).trans ((if_neg (by omega)).trans ((if_neg (by omega)).trans ((if_neg (by omega)).trans ((if_neg (by omega)).trans ((if_neg (by omega)).trans (by first | with_reducible rfl | (with_reducible congr 1 <;> omega) | (with_reducible congr 2 <;> omega) | (with_reducible congr 3 <;> omega) | rfl)))))))) r_rp.lt w' hw')) ?_
 refine q_call (v := U64 (Sha.tn true x (Sha.trn true (a + 1)))) (Tryd.func58) (by kernel_rfl) rfl (m3 (ev (pt rp 0) rfl rfl) (ev (U64 x) rfl rfl) (ev (U64 (BitVec.ofNat 64 (Sha.trn true (a + 1)))) rfl rfl)) (fun w' hw' => turn_t rp ou g cap bg x (Sha.trn true (a + 1)) (by omega) w' (r_rp.step hw')) ?_
 refine q_val (fun w' hw' => y_bin (ev (U64 (Sha.tn true x (Sha.trn true a))) rfl rfl) (ev (U64 (Sha.tn true x (Sha.trn true (a + 1)))) rfl rfl) xor64) ?_
 refine q_mv (ev (U64 (x >>> (Sha.trn true (a + 2)))) rfl rfl) ?_
 refine q_val (fun w' hw' => y_bin (ev (U64 ((Sha.tn true x (Sha.trn true a)) ^^^ (Sha.tn true x (Sha.trn true (a + 1))))) rfl rfl) (ev (U64 (x >>> (Sha.trn true (a + 2)))) rfl rfl) xor64) ?_
 refine q_as (ev (U64 (((Sha.tn true x (Sha.trn true a)) ^^^ (Sha.tn true x (Sha.trn true (a + 1)))) ^^^ (x >>> (Sha.trn true (a + 2))))) rfl rfl) ?_
 refine q_nil ?_
 intro w3 hb4
 replace r_rp := r_rp.step hb4
 replace hk := thenB hk hb4
 refine then_n ?_
 refine wp_ret ?_
 refine fin_ret1 rfl (ev (U64 (((Sha.tn true x (Sha.trn true a)) ^^^ (Sha.tn true x (Sha.trn true (a + 1)))) ^^^ (x >>> (Sha.trn true (a + 2))))) rfl rfl) ?_
 refine ⟨congrArg Ending.returned ?_, hk⟩
 show (U64 (((Sha.tn true x (Sha.trn true a)) ^^^ (Sha.tn true x (Sha.trn true (a + 1)))) ^^^ (x >>> (Sha.trn true (a + 2)))) : Value) = U64 (Sha.th true x a true)
 rfl

set_option maxRecDepth 100000 in
set_option maxHeartbeats 1000000 in
theorem three_tf (rp ou g cap : Nat) (bg : Nat → BitVec 64) (x : BitVec 64) (a : Nat) (ha : a + 2 < 12) (w0 : World) (r_rp : Row w0 rp 44 25 (Sha.rrow (.int .i64 256) (.int .i64 ((ou : Nat) : Int)) (.int .i64 64) (.int .i64 64) (.slice (some ⟨g, 0, none⟩) 64 cap) bg (fun i => U64 (BitVec.ofNat 64 (Sha.trn true i))))) : Calls Tryd.prog 52 #[pt rp 0, U64 x, .int .i64 ((a : Nat) : Int), .bool false] w0 fun e w' => e = .returned (U64 (Sha.th true x a false)) ∧ Below w0.heap.size w0 w' := by
 have ht0 := Sha.trn_le a
 have ht1 := Sha.trn_le (a + 1)
 have ht2 := Sha.trn_le (a + 2)
 refine enter (n := 52) Tryd.func52 rfl rfl rfl ?_
 have hk : Below w0.heap.size w0 w0 := Below.refl _ _
 have lt_rp := r_rp.lt
 refine sr ?_
 refine w_as (evc (U64 (0#64))) ?_
 refine nt ?_
 refine sr ?_
 refine w_mv (ev (pt rp 0) rfl rfl) ?_
 refine w_mv (ev (U64 x) rfl rfl) ?_
 refine w_mv (ev (pt rp 0) rfl rfl) ?_
 refine w_mv (ev (.int .i64 ((a : Nat) : Int)) rfl rfl) ?_
 refine w_val (y_bin (ev (.int .i64 ((a : Nat) : Int)) rfl rfl) (evc (.int .i64 2)) (b_add (by omega))) ?_
 refine w_val (y_nc (ev (pt rp 0) rfl rfl)) ?_
 refine w_val (v := pt rp 13) (y_off (y_fa (ev (pt rp 0) rfl rfl) (ShaRT.fa44_6 _ _)) (by first | rfl | omega)) ?_
 refine w_val (v := pt rp (13 + (a + 2))) (y_off (y_ia1 (i := (a + 2)) (ev (pt rp 13) rfl rfl) (ev (.int .i64 (((a : Nat) : Int) + 2)) rfl rfl) Tryd.underlying42 ShaRT.sz41 (by omega) (by omega)) (by first | rfl | omega)) ?_
 refine w_val (v := U64 (BitVec.ofNat 64 (Sha.trn true (a + 2)))) (y_ld (ev (pt rp (13 + (a + 2))) rfl rfl) ShaRT.sc41 (r_rp.val (by omega) ((if_neg (by omega)).trans ((if_neg (by omega)).trans ((if_neg (by omega)).trans ((if_neg (by omega)).trans ((if_neg (by omega)).trans ((if_neg (by omega)).trans (by first | with_reducible rfl | (with_reducible congr 1 <;> omega) | (with_reducible congr 2 <;> omega) | (with_reducible congr 3 <;> omega) | rfl))))))))) ?_
 refine w_call (Tryd.func58) (by kernel_rfl) rfl (m3 (ev (pt rp 0) rfl rfl) (ev (U64 x) rfl rfl) (ev (U64 (BitVec.ofNat 64 (Sha.trn true (a + 2)))) rfl rfl)) (turn_t rp ou g cap bg x (Sha.trn true (a + 2)) (by omega) w0 r_rp) ?_
 rintro _ w1 ⟨rfl, hb2⟩
 refine ⟨_, rfl, ?_⟩
 replace r_rp := r_rp.step hb2
 replace hk := thenB hk hb2
 refine w_as (ev (U64 (Sha.tn true x (Sha.trn true (a + 2)))) rfl rfl) ?_
 refine nt ?_
 refine wp_seq ?_
 refine sr ?_
 refine w_mv (ev (.bool false) rfl rfl) ?_
 refine nt ?_
 refine c_ff (ev (.bool false) rfl rfl) ?_
 refine wp_skip ?_
 refine then_n ?_
 refine wp_seq ?_
 refine region_q ShaRT.mixed (by kernel_rfl) ?_
 refine q_mv (ev (pt rp 0) rfl rfl) ?_
 refine q_mv (ev (U64 x) rfl rfl) ?_
 refine q_mv (ev (pt rp 0) rfl rfl) ?_
 refine q_mv (ev (.int .i64 ((a : Nat) : Int)) rfl rfl) ?_
 refine q_val (fun w' hw' => y_nc (ev (pt rp 0) rfl rfl)) ?_
 refine q_val (v := pt rp 13) (fun w' hw' => y_off (y_fa (ev (pt rp 0) rfl rfl) (ShaRT.fa44_6 _ _)) (by first | rfl | omega)) ?_
 refine q_val (v := pt rp (13 + a)) (fun w' hw' => y_off (y_ia1 (i := a) (ev (pt rp 13) rfl rfl) (ev (.int .i64 ((a : Nat) : Int)) rfl rfl) Tryd.underlying42 ShaRT.sz41 (by omega) (by omega)) (by first | rfl | omega)) ?_
 refine q_val (v := U64 (BitVec.ofNat 64 (Sha.trn true a))) (fun w' hw' => y_ld (ev (pt rp (13 + a)) rfl rfl) ShaRT.sc41 (cls_cell (r_rp.val (by omega) ((if_neg (by omega)).trans ((if_neg (by omega)).trans ((if_neg (by omega)).trans ((if_neg (by omega)).trans ((if_neg (by omega)).trans ((if_neg (by omega)).trans (by first | with_reducible rfl | (with_reducible congr 1 <;> omega) | (with_reducible congr 2 <;> omega) | (with_reducible congr 3 <;> omega) | rfl)))))))) r_rp.lt w' hw')) ?_
 refine q_call (v := U64 (Sha.tn true x (Sha.trn true a))) (Tryd.func58) (by kernel_rfl) rfl (m3 (ev (pt rp 0) rfl rfl) (ev (U64 x) rfl rfl) (ev (U64 (BitVec.ofNat 64 (Sha.trn true a))) rfl rfl)) (fun w' hw' => turn_t rp ou g cap bg x (Sha.trn true a) (by omega) w' (r_rp.step hw')) ?_
 refine q_mv (ev (pt rp 0) rfl rfl) ?_
 refine q_mv (ev (U64 x) rfl rfl) ?_
 refine q_mv (ev (pt rp 0) rfl rfl) ?_
 refine q_mv (ev (.int .i64 ((a : Nat) : Int)) rfl rfl) ?_
 refine q_val (fun w' hw' => y_bin (ev (.int .i64 ((a : Nat) : Int)) rfl rfl) (evc (.int .i64 1)) (b_add (by omega))) ?_
 refine q_val (fun w' hw' => y_nc (ev (pt rp 0) rfl rfl)) ?_
 refine q_val (v := pt rp 13) (fun w' hw' => y_off (y_fa (ev (pt rp 0) rfl rfl) (ShaRT.fa44_6 _ _)) (by first | rfl | omega)) ?_
 refine q_val (v := pt rp (13 + (a + 1))) (fun w' hw' => y_off (y_ia1 (i := (a + 1)) (ev (pt rp 13) rfl rfl) (ev (.int .i64 (((a : Nat) : Int) + 1)) rfl rfl) Tryd.underlying42 ShaRT.sz41 (by omega) (by omega)) (by first | rfl | omega)) ?_
 refine q_val (v := U64 (BitVec.ofNat 64 (Sha.trn true (a + 1)))) (fun w' hw' => y_ld (ev (pt rp (13 + (a + 1))) rfl rfl) ShaRT.sc41 (cls_cell (r_rp.val (by omega) ((if_neg (by omega)).trans ((if_neg (by omega)).trans ((if_neg (by omega)).trans ((if_neg (by omega)).trans ((if_neg (by omega)).trans ((if_neg (by omega)).trans (by first | with_reducible rfl | (with_reducible congr 1 <;> omega) | (with_reducible congr 2 <;> omega) | (with_reducible congr 3 <;> omega) | rfl)))))))) r_rp.lt w' hw')) ?_
 refine q_call (v := U64 (Sha.tn true x (Sha.trn true (a + 1)))) (Tryd.func58) (by kernel_rfl) rfl (m3 (ev (pt rp 0) rfl rfl) (ev (U64 x) rfl rfl) (ev (U64 (BitVec.ofNat 64 (Sha.trn true (a + 1)))) rfl rfl)) (fun w' hw' => turn_t rp ou g cap bg x (Sha.trn true (a + 1)) (by omega) w' (r_rp.step hw')) ?_
 refine q_val (fun w' hw' => y_bin (ev (U64 (Sha.tn true x (Sha.trn true a))) rfl rfl) (ev (U64 (Sha.tn true x (Sha.trn true (a + 1)))) rfl rfl) xor64) ?_
 refine q_mv (ev (U64 (Sha.tn true x (Sha.trn true (a + 2)))) rfl rfl) ?_
 refine q_val (fun w' hw' => y_bin (ev (U64 ((Sha.tn true x (Sha.trn true a)) ^^^ (Sha.tn true x (Sha.trn true (a + 1))))) rfl rfl) (ev (U64 (Sha.tn true x (Sha.trn true (a + 2)))) rfl rfl) xor64) ?_
 refine q_as (ev (U64 (((Sha.tn true x (Sha.trn true a)) ^^^ (Sha.tn true x (Sha.trn true (a + 1)))) ^^^ (Sha.tn true x (Sha.trn true (a + 2))))) rfl rfl) ?_
 refine q_nil ?_
 intro w3 hb4
 replace r_rp := r_rp.step hb4
 replace hk := thenB hk hb4
 refine then_n ?_
 refine wp_ret ?_
 refine fin_ret1 rfl (ev (U64 (((Sha.tn true x (Sha.trn true a)) ^^^ (Sha.tn true x (Sha.trn true (a + 1)))) ^^^ (Sha.tn true x (Sha.trn true (a + 2))))) rfl rfl) ?_
 refine ⟨congrArg Ending.returned ?_, hk⟩
 show (U64 (((Sha.tn true x (Sha.trn true a)) ^^^ (Sha.tn true x (Sha.trn true (a + 1)))) ^^^ (Sha.tn true x (Sha.trn true (a + 2)))) : Value) = U64 (Sha.th true x a false)
 rfl

set_option maxRecDepth 100000 in
set_option maxHeartbeats 1000000 in
theorem block_t (rp ou g cap : Nat) (bg : Nat → BitVec 64) (hh : Nat → BitVec 64) (s : List (BitVec 8)) (hs : s.length = 64) (w0 : World) (r_rp : Row w0 rp 44 25 (Sha.rrow (.int .i64 256) (.int .i64 ((ou : Nat) : Int)) (.int .i64 64) (.int .i64 64) (.slice (some ⟨g, 0, none⟩) 64 cap) bg (fun i => U64 (BitVec.ofNat 64 (Sha.trn true i))))) (r_g : Row w0 g 39 64 (fun j => U64 (Sha.K true j))) : Calls Tryd.prog 43 #[pt rp 0, .agg (arr 8 (fun j => U64 (hh j))), .string (str s)] w0 fun e w' => e = .returned (.agg (arr 8 (fun j => U64 (Sha.comp true (gb s) hh j)))) ∧ Below w0.heap.size w0 w' := by
 refine enter (n := 183) Tryd.func43 rfl rfl rfl ?_
 have hk : Below w0.heap.size w0 w0 := Below.refl _ _
 have lt_rp := r_rp.lt
 have lt_g := r_g.lt
 refine sr ?_
 refine w_box (m := 8) (F := fun j => U64 (hh j)) (ev (.agg (arr 8 (fun j => U64 (hh j)))) rfl rfl) rfl ?_
 intro b_h w1 hbe_b_h r_b_h hb2
 have ne_rp_b_h : rp ≠ b_h := by have := r_rp.lt; omega
 have ne_g_b_h : g ≠ b_h := by have := r_g.lt; omega
 have ge_b_h : w0.heap.size ≤ b_h := by have := hk.size; omega
 clear hbe_b_h
 replace r_rp := r_rp.step hb2
 replace r_g := r_g.step hb2
 replace hk := thenB hk hb2
 refine w_alloc (m := 8) (F := fun j => U64 (0#64)) (by kernel_rfl) ?_
 intro b_6 w3 hbe_b_6 r_b_6 hb4
 have ne_rp_b_6 : rp ≠ b_6 := by have := r_rp.lt; omega
 have ne_g_b_6 : g ≠ b_6 := by have := r_g.lt; omega
 have ne_b_h_b_6 : b_h ≠ b_6 := by have := r_b_h.lt; omega
 have ge_b_6 : w0.heap.size ≤ b_6 := by have := hk.size; omega
 clear hbe_b_6
 replace r_rp := r_rp.step hb4
 replace r_g := r_g.step hb4
 replace r_b_h := r_b_h.step hb4
 replace hk := thenB hk hb4
 refine nt ?_
 refine sr ?_
 refine w_as (evc (.slice none 0 0)) ?_
 refine nt ?_
 refine sr ?_
 refine w_mv (ev (pt rp 0) rfl rfl) ?_
 refine w_val (y_nc (ev (pt rp 0) rfl rfl)) ?_
 refine w_val (v := pt rp 2) (y_off (y_fa (ev (pt rp 0) rfl rfl) (ShaRT.fa44_2 _ _)) (by first | rfl | omega)) ?_
 refine w_val (v := .int .i64 64) (y_ld (ev (pt rp 2) rfl rfl) ShaRT.sc3 (r_rp.val (by omega) ((if_neg (by omega)).trans ((if_neg (by omega)).trans (etv (if_pos (by omega))))))) ?_
 refine w_val (y_bin (ev (.int .i64 64) rfl rfl) (evc (.int .i64 16)) (b_quo (by omega))) ?_
 refine w_as (ev (.int .i64 4) rfl rfl) ?_
 refine nt ?_
 refine wp_seq ?_
 refine sr ?_
 refine w_as (evc (.int .i64 0)) ?_
 refine nt ?_
 refine wp_block ?_
 refine c_loop (fun dN aN wl => ∃ (i : Nat) (va : Value), dN = (64 - i) ∧ ∃ f5, aN = fr 183 f5 ∧ (i ≤ 64) ∧ f5 0 = pt rp 0 ∧ f5 1 = .agg (arr 8 (fun j => U64 (hh j))) ∧ f5 2 = .string (str s) ∧ f5 4 = pt b_h 0 ∧ f5 6 = pt b_6 0 ∧ f5 7 = va ∧ f5 8 = .int .i64 4 ∧ f5 9 = .int .i64 ((i : Nat) : Int) ∧ Row wl rp 44 25 (Sha.rrow (.int .i64 256) (.int .i64 ((ou : Nat) : Int)) (.int .i64 64) (.int .i64 64) (.slice (some ⟨g, 0, none⟩) 64 cap) bg (fun i => U64 (BitVec.ofNat 64 (Sha.trn true i)))) ∧ Row wl g 39 64 (fun j => U64 (Sha.K true j)) ∧ Row wl b_h 40 8 (fun j => U64 (hh j)) ∧ Row wl b_6 40 8 (fun j => U64 (0#64)) ∧ Own wl w0.heap.size 39 1 va i (fun j => U64 (Sha.w true (gb s) j)) ∧ va.ownBlock ≠ some rp ∧ va.ownBlock ≠ some g ∧ va.ownBlock ≠ some b_h ∧ va.ownBlock ≠ some b_6 ∧ Below w0.heap.size w0 wl) (64 - 0) ?_ ?_
 · exact ⟨0, (.slice none 0 0), rfl, _, rfl, iv, rfl, rfl, rfl, rfl, rfl, (etv (b := .slice none 0 0) rfl), rfl, (etv (b := .int .i64 0) rfl), r_rp, r_g, r_b_h, r_b_6, Own.nil, (fun e => by cases e), (fun e => by cases e), (fun e => by cases e), (fun e => by cases e), hk⟩
 ·skip
  clear r_rp r_g r_b_h r_b_6 hk
  rintro _ _ w6 ⟨i, va, rfl, f5, rfl, i1_0, s1_0, s1_1, s1_2, s1_4, s1_6, s1_7, s1_8, s1_9, r_rp, r_g, r_b_h, r_b_6, o_va, no_va_rp, no_va_g, no_va_b_h, no_va_b_6, hk⟩
  refine wp_seq ?_
  refine sr ?_
  refine w_mv (ev (.int .i64 ((i : Nat) : Int)) s1_9 rfl) ?_
  refine w_mv (ev (pt rp 0) s1_0 rfl) ?_
  refine w_val (y_nc (ev (pt rp 0) rfl rfl)) ?_
  refine w_val (v := pt rp 3) (y_off (y_fa (ev (pt rp 0) rfl rfl) (ShaRT.fa44_3 _ _)) (by first | rfl | omega)) ?_
  refine w_val (v := .int .i64 64) (y_ld (ev (pt rp 3) rfl rfl) ShaRT.sc3 (r_rp.val (by omega) ((if_neg (by omega)).trans ((if_neg (by omega)).trans ((if_neg (by omega)).trans (etv (if_pos (by omega)))))))) ?_
  refine w_val (y_bin (ev (.int .i64 ((i : Nat) : Int)) rfl rfl) (ev (.int .i64 64) rfl rfl) b_lss) ?_
  refine nt ?_
  refine c_if (p := ((i : Nat) : Int) < 64) (ev (.bool (decide (((i : Nat) : Int) < 64))) rfl rfl) (fun hc7 => ?_) (fun hc7 => ?_)
  ·skip
   refine wp_skip ?_
   refine then_n ?_
   refine wp_seq ?_
   refine wp_block ?_
   refine sr ?_
   refine w_as (evc (U64 (0#64))) ?_
   refine nt ?_
   refine wp_seq ?_
   refine sr ?_
   refine w_mv (ev (.int .i64 ((i : Nat) : Int)) s1_9 rfl) ?_
   refine w_val (y_bin (ev (.int .i64 ((i : Nat) : Int)) rfl rfl) (evc (.int .i64 16)) b_lss) ?_
   refine nt ?_
   refine c_if (p := ((i : Nat) : Int) < 16) (ev (.bool (decide (((i : Nat) : Int) < 16))) rfl rfl) (fun hc8 => ?_) (fun hc8 => ?_)
   ·skip
    refine sr ?_
    refine w_as (evc (.int .i64 0)) ?_
    refine nt ?_
    refine wp_block ?_
    refine c_loop (fun dN aN wl => ∃ (k : Nat) (vb : Value), dN = (4 - k) ∧ ∃ f9, aN = fr 183 f9 ∧ (k ≤ 4) ∧ f9 0 = pt rp 0 ∧ f9 1 = .agg (arr 8 (fun j => U64 (hh j))) ∧ f9 2 = .string (str s) ∧ f9 4 = pt b_h 0 ∧ f9 6 = pt b_6 0 ∧ f9 7 = vb ∧ f9 8 = .int .i64 4 ∧ f9 9 = .int .i64 ((i : Nat) : Int) ∧ f9 10 = U64 (Sha.bw (fun j => gb s (4 * i + j)) k) ∧ f9 11 = .int .i64 ((k : Nat) : Int) ∧ Row wl rp 44 25 (Sha.rrow (.int .i64 256) (.int .i64 ((ou : Nat) : Int)) (.int .i64 64) (.int .i64 64) (.slice (some ⟨g, 0, none⟩) 64 cap) bg (fun i => U64 (BitVec.ofNat 64 (Sha.trn true i)))) ∧ Row wl g 39 64 (fun j => U64 (Sha.K true j)) ∧ Row wl b_h 40 8 (fun j => U64 (hh j)) ∧ Row wl b_6 40 8 (fun j => U64 (0#64)) ∧ Own wl w0.heap.size 39 1 vb i (fun j => U64 (Sha.w true (gb s) j)) ∧ vb.ownBlock ≠ some rp ∧ vb.ownBlock ≠ some g ∧ vb.ownBlock ≠ some b_h ∧ vb.ownBlock ≠ some b_6 ∧ Below w0.heap.size w0 wl) (4 - 0) ?_ ?_
    · exact ⟨0, va, rfl, _, rfl, iv, s1_0, s1_1, s1_2, s1_4, s1_6, (Eq.trans (b := va) s1_7 (by first | with_reducible rfl | (with_reducible congr 1 <;> omega) | (with_reducible congr 2 <;> omega) | (with_reducible congr 3 <;> omega) | rfl)), s1_8, s1_9, (Eq.trans (b := U64 (0#64)) rfl (by rfl)), (etv (b := .int .i64 0) rfl), r_rp, r_g, r_b_h, r_b_6, o_va, no_va_rp, no_va_g, no_va_b_h, no_va_b_6, hk⟩
    ·skip
     clear r_rp r_g r_b_h r_b_6 o_va hk
     rintro _ _ w10 ⟨k, vb, rfl, f9, rfl, i2_0, s2_0, s2_1, s2_2, s2_4, s2_6, s2_7, s2_8, s2_9, s2_10, s2_11, r_rp, r_g, r_b_h, r_b_6, o_vb, no_vb_rp, no_vb_g, no_vb_b_h, no_vb_b_6, hk⟩
     refine wp_seq ?_
     refine sr ?_
     refine w_mv (ev (.int .i64 ((k : Nat) : Int)) s2_11 rfl) ?_
     refine w_mv (ev (.int .i64 4) s2_8 rfl) ?_
     refine w_val (y_bin (ev (.int .i64 ((k : Nat) : Int)) rfl rfl) (ev (.int .i64 4) rfl rfl) b_lss) ?_
     refine nt ?_
     refine c_if (p := ((k : Nat) : Int) < 4) (ev (.bool (decide (((k : Nat) : Int) < 4))) rfl rfl) (fun hc11 => ?_) (fun hc11 => ?_)
     ·skip
      refine wp_skip ?_
      refine then_n ?_
      refine wp_seq ?_
      refine wp_block ?_
      refine wp_region_lit ?_
      refine w_mv (ev (U64 (Sha.bw (fun j => gb s (4 * i + j)) k)) s2_10 rfl) ?_
      refine w_val (y_bin (ev (U64 (Sha.bw (fun j => gb s (4 * i + j)) k)) rfl rfl) (evc (U64 (256#64))) mul64) ?_
      refine w_mv (ev (.string (str s)) s2_2 rfl) ?_
      refine w_mv (ev (.int .i64 4) s2_8 rfl) ?_
      refine w_mv (ev (.int .i64 ((i : Nat) : Int)) s2_9 rfl) ?_
      refine w_val (y_bin (ev (.int .i64 4) rfl rfl) (ev (.int .i64 ((i : Nat) : Int)) rfl rfl) (b_mul (by omega))) ?_
      refine w_mv (ev (.int .i64 ((k : Nat) : Int)) s2_11 rfl) ?_
      refine w_val (y_bin (ev (.int .i64 (4 * ((i : Nat) : Int))) rfl rfl) (ev (.int .i64 ((k : Nat) : Int)) rfl rfl) (b_add (by omega))) ?_
      refine w_val (v := U8 (gb s ((4 * i) + k))) (y_idx (ev (.string (str s)) rfl rfl) (ev (.int .i64 ((4 * ((i : Nat) : Int)) + ((k : Nat) : Int))) rfl rfl) Tryd.underlying9 (by omega) (by omega)) ?_
      refine w_val (y_u8_u64 (ev (U8 (gb s ((4 * i) + k))) rfl rfl) ShaRT.so5 Tryd.underlying39) ?_
      refine w_val (y_bin (ev (U64 ((Sha.bw (fun j => gb s (4 * i + j)) k) * (256#64))) rfl rfl) (ev (U64 ((gb s ((4 * i) + k)).setWidth 64)) rfl rfl) add64) ?_
      refine w_as (ev (U64 (((Sha.bw (fun j => gb s (4 * i + j)) k) * (256#64)) + ((gb s ((4 * i) + k)).setWidth 64))) rfl rfl) ?_
      refine wpList_nil ?_
      refine inb_n ?_
      refine then_n ?_
      refine wp_region_lit ?_
      refine w_mv (ev (.int .i64 ((k : Nat) : Int)) s2_11 rfl) ?_
      refine w_val (y_bin (ev (.int .i64 ((k : Nat) : Int)) rfl rfl) (evc (.int .i64 1)) (b_add (by omega))) ?_
      refine w_as (ev (.int .i64 (((k : Nat) : Int) + 1)) rfl rfl) ?_
      refine wpList_nil ?_
      exact then_n ⟨_, (by omega), k + 1, vb, rfl, _, rfl, iv, s2_0, s2_1, s2_2, s2_4, s2_6, s2_7, s2_8, s2_9, (Eq.trans (b := U64 (((Sha.bw (fun j => gb s (4 * i + j)) k) * (256#64)) + ((gb s ((4 * i) + k)).setWidth 64))) rfl (by rfl)), (etv (b := .int .i64 (((k : Nat) : Int) + 1)) rfl), r_rp, r_g, r_b_h, r_b_6, o_vb, no_vb_rp, no_vb_g, no_vb_b_h, no_vb_b_6, hk⟩
     ·skip
      refine wp_exit ?_
      refine then_x ?_
      refine then_x ?_
      refine inb_x ?_
      refine then_n ?_
      refine wp_region_lit ?_
      refine w_mv (ev vb s2_7 rfl) ?_
      refine w_mv (ev (U64 (Sha.bw (fun j => gb s (4 * i + j)) k)) s2_10 rfl) ?_
      refine w_bs1 (m := 1) (e := 39) (F := fun j => U64 (Sha.bw (fun j => gb s (4 * i + j)) k)) (ev (U64 (Sha.bw (fun j => gb s (4 * i + j)) k)) rfl rfl) (fun w => by kernel_rfl) ?_
      intro b_81 w12 hbe_b_81 r_b_81 hb13
      have ne_rp_b_81 : rp ≠ b_81 := by have := r_rp.lt; omega
      have ne_g_b_81 : g ≠ b_81 := by have := r_g.lt; omega
      have ne_b_h_b_81 : b_h ≠ b_81 := by have := r_b_h.lt; omega
      have ne_b_6_b_81 : b_6 ≠ b_81 := by have := r_b_6.lt; omega
      have no_vb_b_81 : vb.ownBlock ≠ some b_81 := o_vb.apart (by omega)
      have ge_b_81 : w0.heap.size ≤ b_81 := by have := hk.size; omega
      clear hbe_b_81
      replace o_vb := o_vb.step hb13
      replace r_rp := r_rp.step hb13
      replace r_g := r_g.step hb13
      replace r_b_h := r_b_h.step hb13
      replace r_b_6 := r_b_6.step hb13
      replace hk := thenB hk hb13
      refine w_app (k := i) (m := 1) (size := 1) (bytes := 8) (ev vb rfl rfl) (ev (.slice (some ⟨b_81, 0, none⟩) 1 1) rfl rfl) Tryd.underlying38 (by kernel_rfl) (by decide) o_vb hk.size r_b_81 (by omega) oca (by simp only [maxLen]; omega) (by omega) ?_
      intro v14 w15 o_v14 hg16 hv17
      have no_v14_rp := no_new no_vb_rp r_rp.lt hv17
      replace r_rp := r_rp.stepO hg16 no_vb_rp
      have no_v14_g := no_new no_vb_g r_g.lt hv17
      replace r_g := r_g.stepO hg16 no_vb_g
      have no_v14_b_h := no_new no_vb_b_h r_b_h.lt hv17
      replace r_b_h := r_b_h.stepO hg16 no_vb_b_h
      have no_v14_b_6 := no_new no_vb_b_6 r_b_6.lt hv17
      replace r_b_6 := r_b_6.stepO hg16 no_vb_b_6
      have no_v14_b_81 := no_new no_vb_b_81 r_b_81.lt hv17
      replace r_b_81 := r_b_81.stepO hg16 no_vb_b_81
      replace hk := thenO hk hg16 (fun g e => (o_vb.block_lt g e).2)
      clear o_vb
      refine w_as (ev v14 rfl rfl) ?_
      refine wpList_nil ?_
      refine inb_n ?_
      refine then_n ?_
      refine wp_region_lit ?_
      refine w_mv (ev (.int .i64 ((i : Nat) : Int)) s2_9 rfl) ?_
      refine w_val (y_bin (ev (.int .i64 ((i : Nat) : Int)) rfl rfl) (evc (.int .i64 1)) (b_add (by omega))) ?_
      refine w_as (ev (.int .i64 (((i : Nat) : Int) + 1)) rfl rfl) ?_
      refine wpList_nil ?_
      exact then_n ⟨_, (by omega), i + 1, v14, rfl, _, rfl, iv, s2_0, s2_1, s2_2, s2_4, s2_6, rfl, s2_8, (etv (b := .int .i64 (((i : Nat) : Int) + 1)) rfl), (r_rp.cg), r_g, r_b_h, r_b_6, (own_n (o_v14.congr (fun j hj => by (try dsimp only); by_cases e : j < i * 1; (rw [if_pos e]); (rw [if_neg e, show j = i from by omega]; first | exact congrArg U64 (Sha.w_lo_k true (gb s) i k (by omega) (by show k = 4; omega)).symm | exact congrArg U64 (Sha.w_hi true (gb s) i (by omega)).symm))) (by omega)), no_v14_rp, no_v14_g, no_v14_b_h, no_v14_b_6, hk⟩
   ·skip
    obtain ⟨g18, cap18, hv18, ge_g18, hc_g18, hob_g18, r_g18⟩ := o_va.opened (by omega)
    have ne_rp_g18 : rp ≠ g18 := fun e => no_va_rp (by rw [hob_g18, e])
    have ne_g_g18 : g ≠ g18 := fun e => no_va_g (by rw [hob_g18, e])
    have ne_b_h_g18 : b_h ≠ g18 := fun e => no_va_b_h (by rw [hob_g18, e])
    have ne_b_6_g18 : b_6 ≠ g18 := fun e => no_va_b_6 (by rw [hob_g18, e])
    refine region_q ShaRT.mixed (by kernel_rfl) ?_
    refine q_mv (ev (pt rp 0) s1_0 rfl) ?_
    refine q_mv (ev (pt rp 0) s1_0 rfl) ?_
    refine q_mv (ev va s1_7 rfl) ?_
    refine q_mv (ev (.int .i64 ((i : Nat) : Int)) s1_9 rfl) ?_
    refine q_val (fun w' hw' => y_bin (ev (.int .i64 ((i : Nat) : Int)) rfl rfl) (evc (.int .i64 2)) (b_sub (by omega))) ?_
    refine q_val (fun w' hw' => y_is1z (i := (i - 2)) (ev (.slice (some ⟨g18, 0, none⟩) i cap18) (Eq.trans (b := va) rfl hv18) rfl) (ev (.int .i64 (((i : Nat) : Int) - 2)) rfl rfl) Tryd.underlying38 ShaRT.sz39 (by omega) (by omega)) ?_
    refine q_val (v := U64 (Sha.w true (gb s) (i - 2))) (fun w' hw' => y_ld (ev (pt g18 (i - 2)) rfl rfl) ShaRT.sc39 (cls_cell (r_g18.val (by omega) rfl) r_g18.lt w' hw')) ?_
    refine q_call (v := U64 (Sha.th true (Sha.w true (gb s) (i - 2)) 3 true)) (Tryd.func52) (by kernel_rfl) rfl (m4 (ev (pt rp 0) rfl rfl) (ev (U64 (Sha.w true (gb s) (i - 2))) rfl rfl) (evc (.int .i64 3)) (evc (.bool true))) (fun w' hw' => three_tt rp ou g cap bg (Sha.w true (gb s) (i - 2)) 3 (by omega) w' (r_rp.step hw')) ?_
    refine q_mv (ev va s1_7 rfl) ?_
    refine q_mv (ev (.int .i64 ((i : Nat) : Int)) s1_9 rfl) ?_
    refine q_val (fun w' hw' => y_bin (ev (.int .i64 ((i : Nat) : Int)) rfl rfl) (evc (.int .i64 7)) (b_sub (by omega))) ?_
    refine q_val (fun w' hw' => y_is1z (i := (i - 7)) (ev (.slice (some ⟨g18, 0, none⟩) i cap18) (Eq.trans (b := va) rfl hv18) rfl) (ev (.int .i64 (((i : Nat) : Int) - 7)) rfl rfl) Tryd.underlying38 ShaRT.sz39 (by omega) (by omega)) ?_
    refine q_val (v := U64 (Sha.w true (gb s) (i - 7))) (fun w' hw' => y_ld (ev (pt g18 (i - 7)) rfl rfl) ShaRT.sc39 (cls_cell (r_g18.val (by omega) rfl) r_g18.lt w' hw')) ?_
    refine q_val (fun w' hw' => y_bin (ev (U64 (Sha.th true (Sha.w true (gb s) (i - 2)) 3 true)) rfl rfl) (ev (U64 (Sha.w true (gb s) (i - 7))) rfl rfl) add64) ?_
    refine q_mv (ev (pt rp 0) s1_0 rfl) ?_
    refine q_mv (ev va s1_7 rfl) ?_
    refine q_mv (ev (.int .i64 ((i : Nat) : Int)) s1_9 rfl) ?_
    refine q_val (fun w' hw' => y_bin (ev (.int .i64 ((i : Nat) : Int)) rfl rfl) (evc (.int .i64 15)) (b_sub (by omega))) ?_
    refine q_val (fun w' hw' => y_is1z (i := (i - 15)) (ev (.slice (some ⟨g18, 0, none⟩) i cap18) (Eq.trans (b := va) rfl hv18) rfl) (ev (.int .i64 (((i : Nat) : Int) - 15)) rfl rfl) Tryd.underlying38 ShaRT.sz39 (by omega) (by omega)) ?_
    refine q_val (v := U64 (Sha.w true (gb s) (i - 15))) (fun w' hw' => y_ld (ev (pt g18 (i - 15)) rfl rfl) ShaRT.sc39 (cls_cell (r_g18.val (by omega) rfl) r_g18.lt w' hw')) ?_
    refine q_call (v := U64 (Sha.th true (Sha.w true (gb s) (i - 15)) 0 true)) (Tryd.func52) (by kernel_rfl) rfl (m4 (ev (pt rp 0) rfl rfl) (ev (U64 (Sha.w true (gb s) (i - 15))) rfl rfl) (evc (.int .i64 0)) (evc (.bool true))) (fun w' hw' => three_tt rp ou g cap bg (Sha.w true (gb s) (i - 15)) 0 (by omega) w' (r_rp.step hw')) ?_
    refine q_val (fun w' hw' => y_bin (ev (U64 ((Sha.th true (Sha.w true (gb s) (i - 2)) 3 true) + (Sha.w true (gb s) (i - 7)))) rfl rfl) (ev (U64 (Sha.th true (Sha.w true (gb s) (i - 15)) 0 true)) rfl rfl) add64) ?_
    refine q_mv (ev va s1_7 rfl) ?_
    refine q_mv (ev (.int .i64 ((i : Nat) : Int)) s1_9 rfl) ?_
    refine q_val (fun w' hw' => y_bin (ev (.int .i64 ((i : Nat) : Int)) rfl rfl) (evc (.int .i64 16)) (b_sub (by omega))) ?_
    refine q_val (fun w' hw' => y_is1z (i := (i - 16)) (ev (.slice (some ⟨g18, 0, none⟩) i cap18) (Eq.trans (b := va) rfl hv18) rfl) (ev (.int .i64 (((i : Nat) : Int) - 16)) rfl rfl) Tryd.underlying38 ShaRT.sz39 (by omega) (by omega)) ?_
    refine q_val (v := U64 (Sha.w true (gb s) (i - 16))) (fun w' hw' => y_ld (ev (pt g18 (i - 16)) rfl rfl) ShaRT.sc39 (cls_cell (r_g18.val (by omega) rfl) r_g18.lt w' hw')) ?_
    refine q_val (fun w' hw' => y_bin (ev (U64 (((Sha.th true (Sha.w true (gb s) (i - 2)) 3 true) + (Sha.w true (gb s) (i - 7))) + (Sha.th true (Sha.w true (gb s) (i - 15)) 0 true))) rfl rfl) (ev (U64 (Sha.w true (gb s) (i - 16))) rfl rfl) add64) ?_
    refine q_call (v := U64 (Sha.wd true ((((Sha.th true (Sha.w true (gb s) (i - 2)) 3 true) + (Sha.w true (gb s) (i - 7))) + (Sha.th true (Sha.w true (gb s) (i - 15)) 0 true)) + (Sha.w true (gb s) (i - 16))))) (Tryd.func51) (by kernel_rfl) rfl (m2 (ev (pt rp 0) rfl rfl) (ev (U64 ((((Sha.th true (Sha.w true (gb s) (i - 2)) 3 true) + (Sha.w true (gb s) (i - 7))) + (Sha.th true (Sha.w true (gb s) (i - 15)) 0 true)) + (Sha.w true (gb s) (i - 16)))) rfl rfl)) (fun w' hw' => word_t rp ou g cap bg ((((Sha.th true (Sha.w true (gb s) (i - 2)) 3 true) + (Sha.w true (gb s) (i - 7))) + (Sha.th true (Sha.w true (gb s) (i - 15)) 0 true)) + (Sha.w true (gb s) (i - 16))) w' (r_rp.step hw')) ?_
    refine q_as (ev (U64 (Sha.wd true ((((Sha.th true (Sha.w true (gb s) (i - 2)) 3 true) + (Sha.w true (gb s) (i - 7))) + (Sha.th true (Sha.w true (gb s) (i - 15)) 0 true)) + (Sha.w true (gb s) (i - 16))))) rfl rfl) ?_
    refine q_nil ?_
    intro w19 hb20
    replace o_va := o_va.step hb20
    replace r_rp := r_rp.step hb20
    replace r_g := r_g.step hb20
    replace r_b_h := r_b_h.step hb20
    replace r_b_6 := r_b_6.step hb20
    replace r_g18 := r_g18.step hb20
    replace hk := thenB hk hb20
    refine then_n ?_
    refine wp_region_lit ?_
    refine w_mv (ev va s1_7 rfl) ?_
    refine w_mv (ev (U64 (Sha.wd true ((((Sha.th true (Sha.w true (gb s) (i - 2)) 3 true) + (Sha.w true (gb s) (i - 7))) + (Sha.th true (Sha.w true (gb s) (i - 15)) 0 true)) + (Sha.w true (gb s) (i - 16))))) rfl rfl) ?_
    refine w_bs1 (m := 1) (e := 39) (F := fun j => U64 (Sha.wd true ((((Sha.th true (Sha.w true (gb s) (i - 2)) 3 true) + (Sha.w true (gb s) (i - 7))) + (Sha.th true (Sha.w true (gb s) (i - 15)) 0 true)) + (Sha.w true (gb s) (i - 16))))) (ev (U64 (Sha.wd true ((((Sha.th true (Sha.w true (gb s) (i - 2)) 3 true) + (Sha.w true (gb s) (i - 7))) + (Sha.th true (Sha.w true (gb s) (i - 15)) 0 true)) + (Sha.w true (gb s) (i - 16))))) rfl rfl) (fun w => by kernel_rfl) ?_
    intro b_81 w21 hbe_b_81 r_b_81 hb22
    have ne_rp_b_81 : rp ≠ b_81 := by have := r_rp.lt; omega
    have ne_g_b_81 : g ≠ b_81 := by have := r_g.lt; omega
    have ne_b_h_b_81 : b_h ≠ b_81 := by have := r_b_h.lt; omega
    have ne_b_6_b_81 : b_6 ≠ b_81 := by have := r_b_6.lt; omega
    have ne_g18_b_81 : g18 ≠ b_81 := by have := r_g18.lt; omega
    have no_va_b_81 : va.ownBlock ≠ some b_81 := o_va.apart (by omega)
    have ge_b_81 : w0.heap.size ≤ b_81 := by have := hk.size; omega
    clear hbe_b_81
    replace o_va := o_va.step hb22
    replace r_rp := r_rp.step hb22
    replace r_g := r_g.step hb22
    replace r_b_h := r_b_h.step hb22
    replace r_b_6 := r_b_6.step hb22
    replace r_g18 := r_g18.step hb22
    replace hk := thenB hk hb22
    clear r_g18
    refine w_app (k := i) (m := 1) (size := 1) (bytes := 8) (ev va rfl rfl) (ev (.slice (some ⟨b_81, 0, none⟩) 1 1) rfl rfl) Tryd.underlying38 (by kernel_rfl) (by decide) o_va hk.size r_b_81 (by omega) oca (by simp only [maxLen]; omega) (by omega) ?_
    intro v23 w24 o_v23 hg25 hv26
    have no_v23_rp := no_new no_va_rp r_rp.lt hv26
    replace r_rp := r_rp.stepO hg25 no_va_rp
    have no_v23_g := no_new no_va_g r_g.lt hv26
    replace r_g := r_g.stepO hg25 no_va_g
    have no_v23_b_h := no_new no_va_b_h r_b_h.lt hv26
    replace r_b_h := r_b_h.stepO hg25 no_va_b_h
    have no_v23_b_6 := no_new no_va_b_6 r_b_6.lt hv26
    replace r_b_6 := r_b_6.stepO hg25 no_va_b_6
    have no_v23_b_81 := no_new no_va_b_81 r_b_81.lt hv26
    replace r_b_81 := r_b_81.stepO hg25 no_va_b_81
    replace hk := thenO hk hg25 (fun g e => (o_va.block_lt g e).2)
    clear o_va
    refine w_as (ev v23 rfl rfl) ?_
    refine wpList_nil ?_
    refine inb_n ?_
    refine then_n ?_
    refine wp_region_lit ?_
    refine w_mv (ev (.int .i64 ((i : Nat) : Int)) s1_9 rfl) ?_
    refine w_val (y_bin (ev (.int .i64 ((i : Nat) : Int)) rfl rfl) (evc (.int .i64 1)) (b_add (by omega))) ?_
    refine w_as (ev (.int .i64 (((i : Nat) : Int) + 1)) rfl rfl) ?_
    refine wpList_nil ?_
    exact then_n ⟨_, (by omega), i + 1, v23, rfl, _, rfl, iv, s1_0, s1_1, s1_2, s1_4, s1_6, rfl, s1_8, (etv (b := .int .i64 (((i : Nat) : Int) + 1)) rfl), (r_rp.cg), r_g, r_b_h, r_b_6, (own_n (o_v23.congr (fun j hj => by (try dsimp only); by_cases e : j < i * 1; (rw [if_pos e]); (rw [if_neg e, show j = i from by omega]; first | exact congrArg U64 (Sha.w_lo_k true (gb s) i k (by omega) (by show k = 4; omega)).symm | exact congrArg U64 (Sha.w_hi true (gb s) i (by omega)).symm))) (by omega)), no_v23_rp, no_v23_g, no_v23_b_h, no_v23_b_6, hk⟩
  ·skip
   refine wp_exit ?_
   refine then_x ?_
   refine then_x ?_
   refine inb_x ?_
   refine then_n ?_
   refine sr ?_
   refine w_val (v := .agg (arr 8 (fun j => U64 (hh j)))) (y_lda (ev (pt b_h 0) s1_4 rfl) ShaRT.ag40 ShaRT.sz40 (fun j hj => by rw [Nat.zero_add]; exact (r_b_h.cell (by omega)))) ?_
   refine w_alloc (m := 8) (F := fun j => U64 (0#64)) (by kernel_rfl) ?_
   intro b_v w27 hbe_b_v r_b_v hb28
   have ne_rp_b_v : rp ≠ b_v := by have := r_rp.lt; omega
   have ne_g_b_v : g ≠ b_v := by have := r_g.lt; omega
   have ne_b_h_b_v : b_h ≠ b_v := by have := r_b_h.lt; omega
   have ne_b_6_b_v : b_6 ≠ b_v := by have := r_b_6.lt; omega
   have no_va_b_v : va.ownBlock ≠ some b_v := o_va.apart (by omega)
   have ge_b_v : w0.heap.size ≤ b_v := by have := hk.size; omega
   clear hbe_b_v
   replace o_va := o_va.step hb28
   replace r_rp := r_rp.step hb28
   replace r_g := r_g.step hb28
   replace r_b_h := r_b_h.step hb28
   replace r_b_6 := r_b_6.step hb28
   replace hk := thenB hk hb28
   refine w_sta (k := 8) (G := fun j => U64 (hh j)) (ev (pt b_v 0) rfl rfl) (ev (.agg (arr 8 (fun j => U64 (hh j)))) rfl rfl) oc ShaRT.sz40 r_b_v (by omega) ?_
   clear r_b_v; intro w29 r_b_v hg30 _
   replace r_b_v := r_b_v.congr (g := fun j => U64 (hh j)) (fun j hj => by rw [if_pos ⟨Nat.zero_le _, by omega⟩]; first | rfl | (simp only [Nat.sub_zero]))
   replace o_va := o_va.stepG hg30 no_va_b_v
   replace r_rp := r_rp.stepG hg30 (by omega)
   replace r_g := r_g.stepG hg30 (by omega)
   replace r_b_h := r_b_h.stepG hg30 (by omega)
   replace r_b_6 := r_b_6.stepG hg30 (by omega)
   replace hk := thenG hk hg30 (by omega)
   refine nt ?_
   refine wp_seq ?_
   refine sr ?_
   refine w_as (evc (.int .i64 0)) ?_
   refine nt ?_
   refine wp_block ?_
   refine c_loop (fun dN aN wl => ∃ (t : Nat) (vc : Value), dN = (64 - t) ∧ ∃ f31, aN = fr 183 f31 ∧ (t ≤ 64) ∧ f31 0 = pt rp 0 ∧ f31 1 = .agg (arr 8 (fun j => U64 (hh j))) ∧ f31 2 = .string (str s) ∧ f31 4 = pt b_h 0 ∧ f31 6 = pt b_6 0 ∧ f31 7 = vc ∧ f31 8 = .int .i64 4 ∧ f31 9 = .int .i64 ((i : Nat) : Int) ∧ f31 12 = pt b_v 0 ∧ f31 13 = .int .i64 ((t : Nat) : Int) ∧ Row wl rp 44 25 (Sha.rrow (.int .i64 256) (.int .i64 ((ou : Nat) : Int)) (.int .i64 64) (.int .i64 64) (.slice (some ⟨g, 0, none⟩) 64 cap) bg (fun i => U64 (BitVec.ofNat 64 (Sha.trn true i)))) ∧ Row wl g 39 64 (fun j => U64 (Sha.K true j)) ∧ Row wl b_h 40 8 (fun j => U64 (hh j)) ∧ Row wl b_6 40 8 (fun j => U64 (0#64)) ∧ Row wl b_v 40 8 (fun j => U64 (Sha.vs true (gb s) hh t j)) ∧ Own wl w0.heap.size 39 1 vc 64 (fun j => U64 (Sha.w true (gb s) j)) ∧ vc.ownBlock ≠ some rp ∧ vc.ownBlock ≠ some g ∧ vc.ownBlock ≠ some b_h ∧ vc.ownBlock ≠ some b_6 ∧ vc.ownBlock ≠ some b_v ∧ Below w0.heap.size w0 wl) (64 - 0) ?_ ?_
   · exact ⟨0, va, rfl, _, rfl, iv, s1_0, s1_1, s1_2, s1_4, s1_6, (Eq.trans (b := va) s1_7 (by first | with_reducible rfl | (with_reducible congr 1 <;> omega) | (with_reducible congr 2 <;> omega) | (with_reducible congr 3 <;> omega) | rfl)), s1_8, s1_9, rfl, (etv (b := .int .i64 0) rfl), r_rp, r_g, r_b_h, r_b_6, (r_b_v.congr (fun j hj => by rfl)), (own_n (o_va.cg) (by omega)), no_va_rp, no_va_g, no_va_b_h, no_va_b_6, no_va_b_v, hk⟩
   ·skip
    clear r_rp r_g r_b_h r_b_6 r_b_v o_va hk
    rintro _ _ w32 ⟨t, vc, rfl, f31, rfl, i3_0, s3_0, s3_1, s3_2, s3_4, s3_6, s3_7, s3_8, s3_9, s3_12, s3_13, r_rp, r_g, r_b_h, r_b_6, r_b_v, o_vc, no_vc_rp, no_vc_g, no_vc_b_h, no_vc_b_6, no_vc_b_v, hk⟩
    refine wp_seq ?_
    refine sr ?_
    refine w_mv (ev (.int .i64 ((t : Nat) : Int)) s3_13 rfl) ?_
    refine w_mv (ev (pt rp 0) s3_0 rfl) ?_
    refine w_val (y_nc (ev (pt rp 0) rfl rfl)) ?_
    refine w_val (v := pt rp 3) (y_off (y_fa (ev (pt rp 0) rfl rfl) (ShaRT.fa44_3 _ _)) (by first | rfl | omega)) ?_
    refine w_val (v := .int .i64 64) (y_ld (ev (pt rp 3) rfl rfl) ShaRT.sc3 (r_rp.val (by omega) ((if_neg (by omega)).trans ((if_neg (by omega)).trans ((if_neg (by omega)).trans (etv (if_pos (by omega)))))))) ?_
    refine w_val (y_bin (ev (.int .i64 ((t : Nat) : Int)) rfl rfl) (ev (.int .i64 64) rfl rfl) b_lss) ?_
    refine nt ?_
    refine c_if (p := ((t : Nat) : Int) < 64) (ev (.bool (decide (((t : Nat) : Int) < 64))) rfl rfl) (fun hc33 => ?_) (fun hc33 => ?_)
    ·skip
     refine wp_skip ?_
     refine then_n ?_
     refine wp_seq ?_
     refine wp_block ?_
     refine sr ?_
     refine w_val (y_ia1z (i := 4) (ev (pt b_v 0) s3_12 rfl) (evc (.int .i64 4)) Tryd.underlying40 ShaRT.sz39 (by omega) (by omega)) ?_
     refine w_val (v := U64 (Sha.vs true (gb s) hh t 4)) (y_ld (ev (pt b_v 4) rfl rfl) ShaRT.sc39 (r_b_v.val (by omega) rfl)) ?_
     refine w_as (ev (U64 (Sha.vs true (gb s) hh t 4)) rfl rfl) ?_
     refine nt ?_
     refine sr ?_
     refine w_val (y_ia1z (i := 0) (ev (pt b_v 0) s3_12 rfl) (evc (.int .i64 0)) Tryd.underlying40 ShaRT.sz39 (by omega) (by omega)) ?_
     refine w_val (v := U64 (Sha.vs true (gb s) hh t 0)) (y_ld (ev (pt b_v 0) rfl rfl) ShaRT.sc39 (r_b_v.val (by omega) rfl)) ?_
     refine w_as (ev (U64 (Sha.vs true (gb s) hh t 0)) rfl rfl) ?_
     refine nt ?_
     refine wp_seq ?_
     obtain ⟨g34, cap34, hv34, ge_g34, hc_g34, hob_g34, r_g34⟩ := o_vc.opened (by omega)
     have ne_rp_g34 : rp ≠ g34 := fun e => no_vc_rp (by rw [hob_g34, e])
     have ne_g_g34 : g ≠ g34 := fun e => no_vc_g (by rw [hob_g34, e])
     have ne_b_h_g34 : b_h ≠ g34 := fun e => no_vc_b_h (by rw [hob_g34, e])
     have ne_b_6_g34 : b_6 ≠ g34 := fun e => no_vc_b_6 (by rw [hob_g34, e])
     have ne_b_v_g34 : b_v ≠ g34 := fun e => no_vc_b_v (by rw [hob_g34, e])
     refine region_q ShaRT.mixed (by kernel_rfl) ?_
     refine q_val (fun w' hw' => y_ia1z (i := 7) (ev (pt b_v 0) s3_12 rfl) (evc (.int .i64 7)) Tryd.underlying40 ShaRT.sz39 (by omega) (by omega)) ?_
     refine q_val (v := U64 (Sha.vs true (gb s) hh t 7)) (fun w' hw' => y_ld (ev (pt b_v 7) rfl rfl) ShaRT.sc39 (cls_cell (r_b_v.val (by omega) rfl) r_b_v.lt w' hw')) ?_
     refine q_mv (ev (pt rp 0) s3_0 rfl) ?_
     refine q_mv (ev (U64 (Sha.vs true (gb s) hh t 4)) rfl rfl) ?_
     refine q_call (v := U64 (Sha.th true (Sha.vs true (gb s) hh t 4) 9 false)) (Tryd.func52) (by kernel_rfl) rfl (m4 (ev (pt rp 0) rfl rfl) (ev (U64 (Sha.vs true (gb s) hh t 4)) rfl rfl) (evc (.int .i64 9)) (evc (.bool false))) (fun w' hw' => three_tf rp ou g cap bg (Sha.vs true (gb s) hh t 4) 9 (by omega) w' (r_rp.step hw')) ?_
     refine q_val (fun w' hw' => y_bin (ev (U64 (Sha.vs true (gb s) hh t 7)) rfl rfl) (ev (U64 (Sha.th true (Sha.vs true (gb s) hh t 4) 9 false)) rfl rfl) add64) ?_
     refine q_mv (ev (U64 (Sha.vs true (gb s) hh t 4)) rfl rfl) ?_
     refine q_val (fun w' hw' => y_ia1z (i := 5) (ev (pt b_v 0) s3_12 rfl) (evc (.int .i64 5)) Tryd.underlying40 ShaRT.sz39 (by omega) (by omega)) ?_
     refine q_val (v := U64 (Sha.vs true (gb s) hh t 5)) (fun w' hw' => y_ld (ev (pt b_v 5) rfl rfl) ShaRT.sc39 (cls_cell (r_b_v.val (by omega) rfl) r_b_v.lt w' hw')) ?_
     refine q_val (fun w' hw' => y_bin (ev (U64 (Sha.vs true (gb s) hh t 4)) rfl rfl) (ev (U64 (Sha.vs true (gb s) hh t 5)) rfl rfl) and64) ?_
     refine q_mv (ev (U64 (Sha.vs true (gb s) hh t 4)) rfl rfl) ?_
     refine q_val (v := U64 (~~~(Sha.vs true (gb s) hh t 4))) (fun w' hw' => y_not64 (ev (U64 (Sha.vs true (gb s) hh t 4)) rfl rfl)) ?_
     refine q_val (fun w' hw' => y_ia1z (i := 6) (ev (pt b_v 0) s3_12 rfl) (evc (.int .i64 6)) Tryd.underlying40 ShaRT.sz39 (by omega) (by omega)) ?_
     refine q_val (v := U64 (Sha.vs true (gb s) hh t 6)) (fun w' hw' => y_ld (ev (pt b_v 6) rfl rfl) ShaRT.sc39 (cls_cell (r_b_v.val (by omega) rfl) r_b_v.lt w' hw')) ?_
     refine q_val (fun w' hw' => y_bin (ev (U64 (~~~(Sha.vs true (gb s) hh t 4))) rfl rfl) (ev (U64 (Sha.vs true (gb s) hh t 6)) rfl rfl) and64) ?_
     refine q_val (fun w' hw' => y_bin (ev (U64 ((Sha.vs true (gb s) hh t 4) &&& (Sha.vs true (gb s) hh t 5))) rfl rfl) (ev (U64 ((~~~(Sha.vs true (gb s) hh t 4)) &&& (Sha.vs true (gb s) hh t 6))) rfl rfl) xor64) ?_
     refine q_val (fun w' hw' => y_bin (ev (U64 ((Sha.vs true (gb s) hh t 7) + (Sha.th true (Sha.vs true (gb s) hh t 4) 9 false))) rfl rfl) (ev (U64 (((Sha.vs true (gb s) hh t 4) &&& (Sha.vs true (gb s) hh t 5)) ^^^ ((~~~(Sha.vs true (gb s) hh t 4)) &&& (Sha.vs true (gb s) hh t 6)))) rfl rfl) add64) ?_
     refine q_mv (ev (pt rp 0) s3_0 rfl) ?_
     refine q_val (fun w' hw' => y_nc (ev (pt rp 0) rfl rfl)) ?_
     refine q_val (v := pt rp 4) (fun w' hw' => y_off (y_fa (ev (pt rp 0) rfl rfl) (ShaRT.fa44_4 _ _)) (by first | rfl | omega)) ?_
     refine q_val (v := .slice (some ⟨g, 0, none⟩) 64 cap) (fun w' hw' => y_ld (ev (pt rp 4) rfl rfl) ShaRT.sc38 (cls_cell (r_rp.val (by omega) ((if_neg (by omega)).trans ((if_neg (by omega)).trans ((if_neg (by omega)).trans ((if_neg (by omega)).trans (etv (if_pos (by omega)))))))) r_rp.lt w' hw')) ?_
     refine q_mv (ev (.int .i64 ((t : Nat) : Int)) s3_13 rfl) ?_
     refine q_val (fun w' hw' => y_is1z (i := t) (ev (.slice (some ⟨g, 0, none⟩) 64 cap) rfl rfl) (ev (.int .i64 ((t : Nat) : Int)) rfl rfl) Tryd.underlying38 ShaRT.sz39 (by omega) (by omega)) ?_
     refine q_val (v := U64 (Sha.K true t)) (fun w' hw' => y_ld (ev (pt g t) rfl rfl) ShaRT.sc39 (cls_cell (r_g.val (by omega) rfl) r_g.lt w' hw')) ?_
     refine q_val (fun w' hw' => y_bin (ev (U64 (((Sha.vs true (gb s) hh t 7) + (Sha.th true (Sha.vs true (gb s) hh t 4) 9 false)) + (((Sha.vs true (gb s) hh t 4) &&& (Sha.vs true (gb s) hh t 5)) ^^^ ((~~~(Sha.vs true (gb s) hh t 4)) &&& (Sha.vs true (gb s) hh t 6))))) rfl rfl) (ev (U64 (Sha.K true t)) rfl rfl) add64) ?_
     refine q_mv (ev vc s3_7 rfl) ?_
     refine q_mv (ev (.int .i64 ((t : Nat) : Int)) s3_13 rfl) ?_
     refine q_val (fun w' hw' => y_is1z (i := t) (ev (.slice (some ⟨g34, 0, none⟩) 64 cap34) (Eq.trans (b := vc) rfl hv34) rfl) (ev (.int .i64 ((t : Nat) : Int)) rfl rfl) Tryd.underlying38 ShaRT.sz39 (by omega) (by omega)) ?_
     refine q_val (v := U64 (Sha.w true (gb s) t)) (fun w' hw' => y_ld (ev (pt g34 t) rfl rfl) ShaRT.sc39 (cls_cell (r_g34.val (by omega) rfl) r_g34.lt w' hw')) ?_
     refine q_val (fun w' hw' => y_bin (ev (U64 ((((Sha.vs true (gb s) hh t 7) + (Sha.th true (Sha.vs true (gb s) hh t 4) 9 false)) + (((Sha.vs true (gb s) hh t 4) &&& (Sha.vs true (gb s) hh t 5)) ^^^ ((~~~(Sha.vs true (gb s) hh t 4)) &&& (Sha.vs true (gb s) hh t 6)))) + (Sha.K true t))) rfl rfl) (ev (U64 (Sha.w true (gb s) t)) rfl rfl) add64) ?_
     refine q_as (ev (U64 (((((Sha.vs true (gb s) hh t 7) + (Sha.th true (Sha.vs true (gb s) hh t 4) 9 false)) + (((Sha.vs true (gb s) hh t 4) &&& (Sha.vs true (gb s) hh t 5)) ^^^ ((~~~(Sha.vs true (gb s) hh t 4)) &&& (Sha.vs true (gb s) hh t 6)))) + (Sha.K true t)) + (Sha.w true (gb s) t))) rfl rfl) ?_
     refine q_nil ?_
     intro w35 hb36
     replace o_vc := o_vc.step hb36
     replace r_rp := r_rp.step hb36
     replace r_g := r_g.step hb36
     replace r_b_h := r_b_h.step hb36
     replace r_b_6 := r_b_6.step hb36
     replace r_b_v := r_b_v.step hb36
     replace r_g34 := r_g34.step hb36
     replace hk := thenB hk hb36
     refine then_n ?_
     refine wp_seq ?_
     refine region_q ShaRT.mixed (by kernel_rfl) ?_
     refine q_mv (ev (pt rp 0) s3_0 rfl) ?_
     refine q_mv (ev (U64 (Sha.vs true (gb s) hh t 0)) rfl rfl) ?_
     refine q_call (v := U64 (Sha.th true (Sha.vs true (gb s) hh t 0) 6 false)) (Tryd.func52) (by kernel_rfl) rfl (m4 (ev (pt rp 0) rfl rfl) (ev (U64 (Sha.vs true (gb s) hh t 0)) rfl rfl) (evc (.int .i64 6)) (evc (.bool false))) (fun w' hw' => three_tf rp ou g cap bg (Sha.vs true (gb s) hh t 0) 6 (by omega) w' (r_rp.step hw')) ?_
     refine q_mv (ev (U64 (Sha.vs true (gb s) hh t 0)) rfl rfl) ?_
     refine q_val (fun w' hw' => y_ia1z (i := 1) (ev (pt b_v 0) s3_12 rfl) (evc (.int .i64 1)) Tryd.underlying40 ShaRT.sz39 (by omega) (by omega)) ?_
     refine q_val (v := U64 (Sha.vs true (gb s) hh t 1)) (fun w' hw' => y_ld (ev (pt b_v 1) rfl rfl) ShaRT.sc39 (cls_cell (r_b_v.val (by omega) rfl) r_b_v.lt w' hw')) ?_
     refine q_val (fun w' hw' => y_bin (ev (U64 (Sha.vs true (gb s) hh t 0)) rfl rfl) (ev (U64 (Sha.vs true (gb s) hh t 1)) rfl rfl) and64) ?_
     refine q_mv (ev (U64 (Sha.vs true (gb s) hh t 0)) rfl rfl) ?_
     refine q_val (fun w' hw' => y_ia1z (i := 2) (ev (pt b_v 0) s3_12 rfl) (evc (.int .i64 2)) Tryd.underlying40 ShaRT.sz39 (by omega) (by omega)) ?_
     refine q_val (v := U64 (Sha.vs true (gb s) hh t 2)) (fun w' hw' => y_ld (ev (pt b_v 2) rfl rfl) ShaRT.sc39 (cls_cell (r_b_v.val (by omega) rfl) r_b_v.lt w' hw')) ?_
     refine q_val (fun w' hw' => y_bin (ev (U64 (Sha.vs true (gb s) hh t 0)) rfl rfl) (ev (U64 (Sha.vs true (gb s) hh t 2)) rfl rfl) and64) ?_
     refine q_val (fun w' hw' => y_bin (ev (U64 ((Sha.vs true (gb s) hh t 0) &&& (Sha.vs true (gb s) hh t 1))) rfl rfl) (ev (U64 ((Sha.vs true (gb s) hh t 0) &&& (Sha.vs true (gb s) hh t 2))) rfl rfl) xor64) ?_
     refine q_val (fun w' hw' => y_ia1z (i := 1) (ev (pt b_v 0) s3_12 rfl) (evc (.int .i64 1)) Tryd.underlying40 ShaRT.sz39 (by omega) (by omega)) ?_
     refine q_val (v := U64 (Sha.vs true (gb s) hh t 1)) (fun w' hw' => y_ld (ev (pt b_v 1) rfl rfl) ShaRT.sc39 (cls_cell (r_b_v.val (by omega) rfl) r_b_v.lt w' hw')) ?_
     refine q_val (fun w' hw' => y_ia1z (i := 2) (ev (pt b_v 0) s3_12 rfl) (evc (.int .i64 2)) Tryd.underlying40 ShaRT.sz39 (by omega) (by omega)) ?_
     refine q_val (v := U64 (Sha.vs true (gb s) hh t 2)) (fun w' hw' => y_ld (ev (pt b_v 2) rfl rfl) ShaRT.sc39 (cls_cell (r_b_v.val (by omega) rfl) r_b_v.lt w' hw')) ?_
     refine q_val (fun w' hw' => y_bin (ev (U64 (Sha.vs true (gb s) hh t 1)) rfl rfl) (ev (U64 (Sha.vs true (gb s) hh t 2)) rfl rfl) and64) ?_
     refine q_val (fun w' hw' => y_bin (ev (U64 (((Sha.vs true (gb s) hh t 0) &&& (Sha.vs true (gb s) hh t 1)) ^^^ ((Sha.vs true (gb s) hh t 0) &&& (Sha.vs true (gb s) hh t 2)))) rfl rfl) (ev (U64 ((Sha.vs true (gb s) hh t 1) &&& (Sha.vs true (gb s) hh t 2))) rfl rfl) xor64) ?_
     refine q_val (fun w' hw' => y_bin (ev (U64 (Sha.th true (Sha.vs true (gb s) hh t 0) 6 false)) rfl rfl) (ev (U64 ((((Sha.vs true (gb s) hh t 0) &&& (Sha.vs true (gb s) hh t 1)) ^^^ ((Sha.vs true (gb s) hh t 0) &&& (Sha.vs true (gb s) hh t 2))) ^^^ ((Sha.vs true (gb s) hh t 1) &&& (Sha.vs true (gb s) hh t 2)))) rfl rfl) add64) ?_
     refine q_as (ev (U64 ((Sha.th true (Sha.vs true (gb s) hh t 0) 6 false) + ((((Sha.vs true (gb s) hh t 0) &&& (Sha.vs true (gb s) hh t 1)) ^^^ ((Sha.vs true (gb s) hh t 0) &&& (Sha.vs true (gb s) hh t 2))) ^^^ ((Sha.vs true (gb s) hh t 1) &&& (Sha.vs true (gb s) hh t 2))))) rfl rfl) ?_
     refine q_nil ?_
     intro w37 hb38
     replace o_vc := o_vc.step hb38
     replace r_rp := r_rp.step hb38
     replace r_g := r_g.step hb38
     replace r_b_h := r_b_h.step hb38
     replace r_b_6 := r_b_6.step hb38
     replace r_b_v := r_b_v.step hb38
     replace r_g34 := r_g34.step hb38
     replace hk := thenB hk hb38
     refine then_n ?_
     refine region_t 22 ShaRT.mixed (by kernel_rfl) ?_
     simp only [List.take_succ_cons, List.take_zero, List.drop_succ_cons, List.drop_zero]
     refine q_mv (ev (pt rp 0) s3_0 rfl) ?_
     refine q_mv (ev (U64 (((((Sha.vs true (gb s) hh t 7) + (Sha.th true (Sha.vs true (gb s) hh t 4) 9 false)) + (((Sha.vs true (gb s) hh t 4) &&& (Sha.vs true (gb s) hh t 5)) ^^^ ((~~~(Sha.vs true (gb s) hh t 4)) &&& (Sha.vs true (gb s) hh t 6)))) + (Sha.K true t)) + (Sha.w true (gb s) t))) rfl rfl) ?_
     refine q_mv (ev (U64 ((Sha.th true (Sha.vs true (gb s) hh t 0) 6 false) + ((((Sha.vs true (gb s) hh t 0) &&& (Sha.vs true (gb s) hh t 1)) ^^^ ((Sha.vs true (gb s) hh t 0) &&& (Sha.vs true (gb s) hh t 2))) ^^^ ((Sha.vs true (gb s) hh t 1) &&& (Sha.vs true (gb s) hh t 2))))) rfl rfl) ?_
     refine q_val (fun w' hw' => y_bin (ev (U64 (((((Sha.vs true (gb s) hh t 7) + (Sha.th true (Sha.vs true (gb s) hh t 4) 9 false)) + (((Sha.vs true (gb s) hh t 4) &&& (Sha.vs true (gb s) hh t 5)) ^^^ ((~~~(Sha.vs true (gb s) hh t 4)) &&& (Sha.vs true (gb s) hh t 6)))) + (Sha.K true t)) + (Sha.w true (gb s) t))) rfl rfl) (ev (U64 ((Sha.th true (Sha.vs true (gb s) hh t 0) 6 false) + ((((Sha.vs true (gb s) hh t 0) &&& (Sha.vs true (gb s) hh t 1)) ^^^ ((Sha.vs true (gb s) hh t 0) &&& (Sha.vs true (gb s) hh t 2))) ^^^ ((Sha.vs true (gb s) hh t 1) &&& (Sha.vs true (gb s) hh t 2))))) rfl rfl) add64) ?_
     refine q_call (v := U64 (Sha.wd true ((((((Sha.vs true (gb s) hh t 7) + (Sha.th true (Sha.vs true (gb s) hh t 4) 9 false)) + (((Sha.vs true (gb s) hh t 4) &&& (Sha.vs true (gb s) hh t 5)) ^^^ ((~~~(Sha.vs true (gb s) hh t 4)) &&& (Sha.vs true (gb s) hh t 6)))) + (Sha.K true t)) + (Sha.w true (gb s) t)) + ((Sha.th true (Sha.vs true (gb s) hh t 0) 6 false) + ((((Sha.vs true (gb s) hh t 0) &&& (Sha.vs true (gb s) hh t 1)) ^^^ ((Sha.vs true (gb s) hh t 0) &&& (Sha.vs true (gb s) hh t 2))) ^^^ ((Sha.vs true (gb s) hh t 1) &&& (Sha.vs true (gb s) hh t 2))))))) (Tryd.func51) (by kernel_rfl) rfl (m2 (ev (pt rp 0) rfl rfl) (ev (U64 ((((((Sha.vs true (gb s) hh t 7) + (Sha.th true (Sha.vs true (gb s) hh t 4) 9 false)) + (((Sha.vs true (gb s) hh t 4) &&& (Sha.vs true (gb s) hh t 5)) ^^^ ((~~~(Sha.vs true (gb s) hh t 4)) &&& (Sha.vs true (gb s) hh t 6)))) + (Sha.K true t)) + (Sha.w true (gb s) t)) + ((Sha.th true (Sha.vs true (gb s) hh t 0) 6 false) + ((((Sha.vs true (gb s) hh t 0) &&& (Sha.vs true (gb s) hh t 1)) ^^^ ((Sha.vs true (gb s) hh t 0) &&& (Sha.vs true (gb s) hh t 2))) ^^^ ((Sha.vs true (gb s) hh t 1) &&& (Sha.vs true (gb s) hh t 2)))))) rfl rfl)) (fun w' hw' => word_t rp ou g cap bg ((((((Sha.vs true (gb s) hh t 7) + (Sha.th true (Sha.vs true (gb s) hh t 4) 9 false)) + (((Sha.vs true (gb s) hh t 4) &&& (Sha.vs true (gb s) hh t 5)) ^^^ ((~~~(Sha.vs true (gb s) hh t 4)) &&& (Sha.vs true (gb s) hh t 6)))) + (Sha.K true t)) + (Sha.w true (gb s) t)) + ((Sha.th true (Sha.vs true (gb s) hh t 0) 6 false) + ((((Sha.vs true (gb s) hh t 0) &&& (Sha.vs true (gb s) hh t 1)) ^^^ ((Sha.vs true (gb s) hh t 0) &&& (Sha.vs true (gb s) hh t 2))) ^^^ ((Sha.vs true (gb s) hh t 1) &&& (Sha.vs true (gb s) hh t 2))))) w' (r_rp.step hw')) ?_
     refine q_mv (ev (U64 (Sha.vs true (gb s) hh t 0)) rfl rfl) ?_
     refine q_val (fun w' hw' => y_ia1z (i := 1) (ev (pt b_v 0) s3_12 rfl) (evc (.int .i64 1)) Tryd.underlying40 ShaRT.sz39 (by omega) (by omega)) ?_
     refine q_val (v := U64 (Sha.vs true (gb s) hh t 1)) (fun w' hw' => y_ld (ev (pt b_v 1) rfl rfl) ShaRT.sc39 (cls_cell (r_b_v.val (by omega) rfl) r_b_v.lt w' hw')) ?_
     refine q_val (fun w' hw' => y_ia1z (i := 2) (ev (pt b_v 0) s3_12 rfl) (evc (.int .i64 2)) Tryd.underlying40 ShaRT.sz39 (by omega) (by omega)) ?_
     refine q_val (v := U64 (Sha.vs true (gb s) hh t 2)) (fun w' hw' => y_ld (ev (pt b_v 2) rfl rfl) ShaRT.sc39 (cls_cell (r_b_v.val (by omega) rfl) r_b_v.lt w' hw')) ?_
     refine q_mv (ev (pt rp 0) s3_0 rfl) ?_
     refine q_val (fun w' hw' => y_ia1z (i := 3) (ev (pt b_v 0) s3_12 rfl) (evc (.int .i64 3)) Tryd.underlying40 ShaRT.sz39 (by omega) (by omega)) ?_
     refine q_val (v := U64 (Sha.vs true (gb s) hh t 3)) (fun w' hw' => y_ld (ev (pt b_v 3) rfl rfl) ShaRT.sc39 (cls_cell (r_b_v.val (by omega) rfl) r_b_v.lt w' hw')) ?_
     refine q_mv (ev (U64 (((((Sha.vs true (gb s) hh t 7) + (Sha.th true (Sha.vs true (gb s) hh t 4) 9 false)) + (((Sha.vs true (gb s) hh t 4) &&& (Sha.vs true (gb s) hh t 5)) ^^^ ((~~~(Sha.vs true (gb s) hh t 4)) &&& (Sha.vs true (gb s) hh t 6)))) + (Sha.K true t)) + (Sha.w true (gb s) t))) rfl rfl) ?_
     refine q_val (fun w' hw' => y_bin (ev (U64 (Sha.vs true (gb s) hh t 3)) rfl rfl) (ev (U64 (((((Sha.vs true (gb s) hh t 7) + (Sha.th true (Sha.vs true (gb s) hh t 4) 9 false)) + (((Sha.vs true (gb s) hh t 4) &&& (Sha.vs true (gb s) hh t 5)) ^^^ ((~~~(Sha.vs true (gb s) hh t 4)) &&& (Sha.vs true (gb s) hh t 6)))) + (Sha.K true t)) + (Sha.w true (gb s) t))) rfl rfl) add64) ?_
     refine q_call (v := U64 (Sha.wd true ((Sha.vs true (gb s) hh t 3) + (((((Sha.vs true (gb s) hh t 7) + (Sha.th true (Sha.vs true (gb s) hh t 4) 9 false)) + (((Sha.vs true (gb s) hh t 4) &&& (Sha.vs true (gb s) hh t 5)) ^^^ ((~~~(Sha.vs true (gb s) hh t 4)) &&& (Sha.vs true (gb s) hh t 6)))) + (Sha.K true t)) + (Sha.w true (gb s) t))))) (Tryd.func51) (by kernel_rfl) rfl (m2 (ev (pt rp 0) rfl rfl) (ev (U64 ((Sha.vs true (gb s) hh t 3) + (((((Sha.vs true (gb s) hh t 7) + (Sha.th true (Sha.vs true (gb s) hh t 4) 9 false)) + (((Sha.vs true (gb s) hh t 4) &&& (Sha.vs true (gb s) hh t 5)) ^^^ ((~~~(Sha.vs true (gb s) hh t 4)) &&& (Sha.vs true (gb s) hh t 6)))) + (Sha.K true t)) + (Sha.w true (gb s) t)))) rfl rfl)) (fun w' hw' => word_t rp ou g cap bg ((Sha.vs true (gb s) hh t 3) + (((((Sha.vs true (gb s) hh t 7) + (Sha.th true (Sha.vs true (gb s) hh t 4) 9 false)) + (((Sha.vs true (gb s) hh t 4) &&& (Sha.vs true (gb s) hh t 5)) ^^^ ((~~~(Sha.vs true (gb s) hh t 4)) &&& (Sha.vs true (gb s) hh t 6)))) + (Sha.K true t)) + (Sha.w true (gb s) t))) w' (r_rp.step hw')) ?_
     refine q_mv (ev (U64 (Sha.vs true (gb s) hh t 4)) rfl rfl) ?_
     refine q_val (fun w' hw' => y_ia1z (i := 5) (ev (pt b_v 0) s3_12 rfl) (evc (.int .i64 5)) Tryd.underlying40 ShaRT.sz39 (by omega) (by omega)) ?_
     refine q_val (v := U64 (Sha.vs true (gb s) hh t 5)) (fun w' hw' => y_ld (ev (pt b_v 5) rfl rfl) ShaRT.sc39 (cls_cell (r_b_v.val (by omega) rfl) r_b_v.lt w' hw')) ?_
     refine q_val (fun w' hw' => y_ia1z (i := 6) (ev (pt b_v 0) s3_12 rfl) (evc (.int .i64 6)) Tryd.underlying40 ShaRT.sz39 (by omega) (by omega)) ?_
     refine q_val (v := U64 (Sha.vs true (gb s) hh t 6)) (fun w' hw' => y_ld (ev (pt b_v 6) rfl rfl) ShaRT.sc39 (cls_cell (r_b_v.val (by omega) rfl) r_b_v.lt w' hw')) ?_
     refine q_val (v := .agg (arr 8 (fun j => if j < 1 then U64 (Sha.wd true ((((((Sha.vs true (gb s) hh t 7) + (Sha.th true (Sha.vs true (gb s) hh t 4) 9 false)) + (((Sha.vs true (gb s) hh t 4) &&& (Sha.vs true (gb s) hh t 5)) ^^^ ((~~~(Sha.vs true (gb s) hh t 4)) &&& (Sha.vs true (gb s) hh t 6)))) + (Sha.K true t)) + (Sha.w true (gb s) t)) + ((Sha.th true (Sha.vs true (gb s) hh t 0) 6 false) + ((((Sha.vs true (gb s) hh t 0) &&& (Sha.vs true (gb s) hh t 1)) ^^^ ((Sha.vs true (gb s) hh t 0) &&& (Sha.vs true (gb s) hh t 2))) ^^^ ((Sha.vs true (gb s) hh t 1) &&& (Sha.vs true (gb s) hh t 2)))))) else if j < 2 then U64 (Sha.vs true (gb s) hh t 0) else if j < 3 then U64 (Sha.vs true (gb s) hh t 1) else if j < 4 then U64 (Sha.vs true (gb s) hh t 2) else if j < 5 then U64 (Sha.wd true ((Sha.vs true (gb s) hh t 3) + (((((Sha.vs true (gb s) hh t 7) + (Sha.th true (Sha.vs true (gb s) hh t 4) 9 false)) + (((Sha.vs true (gb s) hh t 4) &&& (Sha.vs true (gb s) hh t 5)) ^^^ ((~~~(Sha.vs true (gb s) hh t 4)) &&& (Sha.vs true (gb s) hh t 6)))) + (Sha.K true t)) + (Sha.w true (gb s) t)))) else if j < 6 then U64 (Sha.vs true (gb s) hh t 4) else if j < 7 then U64 (Sha.vs true (gb s) hh t 5) else U64 (Sha.vs true (gb s) hh t 6)))) (fun w' hw' => y_build (vs := #[(0, U64 (Sha.wd true ((((((Sha.vs true (gb s) hh t 7) + (Sha.th true (Sha.vs true (gb s) hh t 4) 9 false)) + (((Sha.vs true (gb s) hh t 4) &&& (Sha.vs true (gb s) hh t 5)) ^^^ ((~~~(Sha.vs true (gb s) hh t 4)) &&& (Sha.vs true (gb s) hh t 6)))) + (Sha.K true t)) + (Sha.w true (gb s) t)) + ((Sha.th true (Sha.vs true (gb s) hh t 0) 6 false) + ((((Sha.vs true (gb s) hh t 0) &&& (Sha.vs true (gb s) hh t 1)) ^^^ ((Sha.vs true (gb s) hh t 0) &&& (Sha.vs true (gb s) hh t 2))) ^^^ ((Sha.vs true (gb s) hh t 1) &&& (Sha.vs true (gb s) hh t 2))))))), (1, U64 (Sha.vs true (gb s) hh t 0)), (2, U64 (Sha.vs true (gb s) hh t 1)), (3, U64 (Sha.vs true (gb s) hh t 2)), (4, U64 (Sha.wd true ((Sha.vs true (gb s) hh t 3) + (((((Sha.vs true (gb s) hh t 7) + (Sha.th true (Sha.vs true (gb s) hh t 4) 9 false)) + (((Sha.vs true (gb s) hh t 4) &&& (Sha.vs true (gb s) hh t 5)) ^^^ ((~~~(Sha.vs true (gb s) hh t 4)) &&& (Sha.vs true (gb s) hh t 6)))) + (Sha.K true t)) + (Sha.w true (gb s) t))))), (5, U64 (Sha.vs true (gb s) hh t 4)), (6, U64 (Sha.vs true (gb s) hh t 5)), (7, U64 (Sha.vs true (gb s) hh t 6))]) (mp_cons (ev (U64 (Sha.wd true ((((((Sha.vs true (gb s) hh t 7) + (Sha.th true (Sha.vs true (gb s) hh t 4) 9 false)) + (((Sha.vs true (gb s) hh t 4) &&& (Sha.vs true (gb s) hh t 5)) ^^^ ((~~~(Sha.vs true (gb s) hh t 4)) &&& (Sha.vs true (gb s) hh t 6)))) + (Sha.K true t)) + (Sha.w true (gb s) t)) + ((Sha.th true (Sha.vs true (gb s) hh t 0) 6 false) + ((((Sha.vs true (gb s) hh t 0) &&& (Sha.vs true (gb s) hh t 1)) ^^^ ((Sha.vs true (gb s) hh t 0) &&& (Sha.vs true (gb s) hh t 2))) ^^^ ((Sha.vs true (gb s) hh t 1) &&& (Sha.vs true (gb s) hh t 2))))))) rfl rfl) (mp_cons (ev (U64 (Sha.vs true (gb s) hh t 0)) rfl rfl) (mp_cons (ev (U64 (Sha.vs true (gb s) hh t 1)) rfl rfl) (mp_cons (ev (U64 (Sha.vs true (gb s) hh t 2)) rfl rfl) (mp_cons (ev (U64 (Sha.wd true ((Sha.vs true (gb s) hh t 3) + (((((Sha.vs true (gb s) hh t 7) + (Sha.th true (Sha.vs true (gb s) hh t 4) 9 false)) + (((Sha.vs true (gb s) hh t 4) &&& (Sha.vs true (gb s) hh t 5)) ^^^ ((~~~(Sha.vs true (gb s) hh t 4)) &&& (Sha.vs true (gb s) hh t 6)))) + (Sha.K true t)) + (Sha.w true (gb s) t))))) rfl rfl) (mp_cons (ev (U64 (Sha.vs true (gb s) hh t 4)) rfl rfl) (mp_cons (ev (U64 (Sha.vs true (gb s) hh t 5)) rfl rfl) (mp_cons (ev (U64 (Sha.vs true (gb s) hh t 6)) rfl rfl) mp0)))))))) (fun w => by kernel_rfl)) ?_
     refine q_nil ?_
     intro w39 hb40
     replace o_vc := o_vc.step hb40
     replace r_rp := r_rp.step hb40
     replace r_g := r_g.step hb40
     replace r_b_h := r_b_h.step hb40
     replace r_b_6 := r_b_6.step hb40
     replace r_b_v := r_b_v.step hb40
     replace r_g34 := r_g34.step hb40
     replace hk := thenB hk hb40
     refine w_sta (k := 8) (G := fun j => if j < 1 then U64 (Sha.wd true ((((((Sha.vs true (gb s) hh t 7) + (Sha.th true (Sha.vs true (gb s) hh t 4) 9 false)) + (((Sha.vs true (gb s) hh t 4) &&& (Sha.vs true (gb s) hh t 5)) ^^^ ((~~~(Sha.vs true (gb s) hh t 4)) &&& (Sha.vs true (gb s) hh t 6)))) + (Sha.K true t)) + (Sha.w true (gb s) t)) + ((Sha.th true (Sha.vs true (gb s) hh t 0) 6 false) + ((((Sha.vs true (gb s) hh t 0) &&& (Sha.vs true (gb s) hh t 1)) ^^^ ((Sha.vs true (gb s) hh t 0) &&& (Sha.vs true (gb s) hh t 2))) ^^^ ((Sha.vs true (gb s) hh t 1) &&& (Sha.vs true (gb s) hh t 2)))))) else if j < 2 then U64 (Sha.vs true (gb s) hh t 0) else if j < 3 then U64 (Sha.vs true (gb s) hh t 1) else if j < 4 then U64 (Sha.vs true (gb s) hh t 2) else if j < 5 then U64 (Sha.wd true ((Sha.vs true (gb s) hh t 3) + (((((Sha.vs true (gb s) hh t 7) + (Sha.th true (Sha.vs true (gb s) hh t 4) 9 false)) + (((Sha.vs true (gb s) hh t 4) &&& (Sha.vs true (gb s) hh t 5)) ^^^ ((~~~(Sha.vs true (gb s) hh t 4)) &&& (Sha.vs true (gb s) hh t 6)))) + (Sha.K true t)) + (Sha.w true (gb s) t)))) else if j < 6 then U64 (Sha.vs true (gb s) hh t 4) else if j < 7 then U64 (Sha.vs true (gb s) hh t 5) else U64 (Sha.vs true (gb s) hh t 6)) (ev (pt b_v 0) s3_12 rfl) (ev (.agg (arr 8 (fun j => if j < 1 then U64 (Sha.wd true ((((((Sha.vs true (gb s) hh t 7) + (Sha.th true (Sha.vs true (gb s) hh t 4) 9 false)) + (((Sha.vs true (gb s) hh t 4) &&& (Sha.vs true (gb s) hh t 5)) ^^^ ((~~~(Sha.vs true (gb s) hh t 4)) &&& (Sha.vs true (gb s) hh t 6)))) + (Sha.K true t)) + (Sha.w true (gb s) t)) + ((Sha.th true (Sha.vs true (gb s) hh t 0) 6 false) + ((((Sha.vs true (gb s) hh t 0) &&& (Sha.vs true (gb s) hh t 1)) ^^^ ((Sha.vs true (gb s) hh t 0) &&& (Sha.vs true (gb s) hh t 2))) ^^^ ((Sha.vs true (gb s) hh t 1) &&& (Sha.vs true (gb s) hh t 2)))))) else if j < 2 then U64 (Sha.vs true (gb s) hh t 0) else if j < 3 then U64 (Sha.vs true (gb s) hh t 1) else if j < 4 then U64 (Sha.vs true (gb s) hh t 2) else if j < 5 then U64 (Sha.wd true ((Sha.vs true (gb s) hh t 3) + (((((Sha.vs true (gb s) hh t 7) + (Sha.th true (Sha.vs true (gb s) hh t 4) 9 false)) + (((Sha.vs true (gb s) hh t 4) &&& (Sha.vs true (gb s) hh t 5)) ^^^ ((~~~(Sha.vs true (gb s) hh t 4)) &&& (Sha.vs true (gb s) hh t 6)))) + (Sha.K true t)) + (Sha.w true (gb s) t)))) else if j < 6 then U64 (Sha.vs true (gb s) hh t 4) else if j < 7 then U64 (Sha.vs true (gb s) hh t 5) else U64 (Sha.vs true (gb s) hh t 6)))) rfl rfl) oc ShaRT.sz40 r_b_v (by omega) ?_
     clear r_b_v; intro w41 r_b_v hg42 _
     replace r_b_v := r_b_v.congr (g := fun j => if j < 1 then U64 (Sha.wd true ((((((Sha.vs true (gb s) hh t 7) + (Sha.th true (Sha.vs true (gb s) hh t 4) 9 false)) + (((Sha.vs true (gb s) hh t 4) &&& (Sha.vs true (gb s) hh t 5)) ^^^ ((~~~(Sha.vs true (gb s) hh t 4)) &&& (Sha.vs true (gb s) hh t 6)))) + (Sha.K true t)) + (Sha.w true (gb s) t)) + ((Sha.th true (Sha.vs true (gb s) hh t 0) 6 false) + ((((Sha.vs true (gb s) hh t 0) &&& (Sha.vs true (gb s) hh t 1)) ^^^ ((Sha.vs true (gb s) hh t 0) &&& (Sha.vs true (gb s) hh t 2))) ^^^ ((Sha.vs true (gb s) hh t 1) &&& (Sha.vs true (gb s) hh t 2)))))) else if j < 2 then U64 (Sha.vs true (gb s) hh t 0) else if j < 3 then U64 (Sha.vs true (gb s) hh t 1) else if j < 4 then U64 (Sha.vs true (gb s) hh t 2) else if j < 5 then U64 (Sha.wd true ((Sha.vs true (gb s) hh t 3) + (((((Sha.vs true (gb s) hh t 7) + (Sha.th true (Sha.vs true (gb s) hh t 4) 9 false)) + (((Sha.vs true (gb s) hh t 4) &&& (Sha.vs true (gb s) hh t 5)) ^^^ ((~~~(Sha.vs true (gb s) hh t 4)) &&& (Sha.vs true (gb s) hh t 6)))) + (Sha.K true t)) + (Sha.w true (gb s) t)))) else if j < 6 then U64 (Sha.vs true (gb s) hh t 4) else if j < 7 then U64 (Sha.vs true (gb s) hh t 5) else U64 (Sha.vs true (gb s) hh t 6)) (fun j hj => by rw [if_pos ⟨Nat.zero_le _, by omega⟩]; first | rfl | (simp only [Nat.sub_zero]))
     replace o_vc := o_vc.stepG hg42 no_vc_b_v
     replace r_rp := r_rp.stepG hg42 (by omega)
     replace r_g := r_g.stepG hg42 (by omega)
     replace r_b_h := r_b_h.stepG hg42 (by omega)
     replace r_b_6 := r_b_6.stepG hg42 (by omega)
     replace r_g34 := r_g34.stepG hg42 (by omega)
     replace hk := thenG hk hg42 (by omega)
     refine wpList_nil ?_
     refine inb_n ?_
     refine then_n ?_
     refine wp_region_lit ?_
     refine w_mv (ev (.int .i64 ((t : Nat) : Int)) s3_13 rfl) ?_
     refine w_val (y_bin (ev (.int .i64 ((t : Nat) : Int)) rfl rfl) (evc (.int .i64 1)) (b_add (by omega))) ?_
     refine w_as (ev (.int .i64 (((t : Nat) : Int) + 1)) rfl rfl) ?_
     refine wpList_nil ?_
     exact then_n ⟨_, (by omega), t + 1, vc, rfl, _, rfl, iv, s3_0, s3_1, s3_2, s3_4, s3_6, s3_7, s3_8, s3_9, s3_12, (etv (b := .int .i64 (((t : Nat) : Int) + 1)) rfl), r_rp, r_g, r_b_h, r_b_6, (r_b_v.congr (fun j hj => by exact Sha.rnd_row true (gb s) hh t j hj _ _ rfl rfl)), o_vc, no_vc_rp, no_vc_g, no_vc_b_h, no_vc_b_6, no_vc_b_v, hk⟩
    ·skip
     refine wp_exit ?_
     refine then_x ?_
     replace r_b_v := r_b_v.congr (g := fun j => U64 (Sha.vs true (gb s) hh 64 j)) (fun j hj => by rw [show t = 64 from by omega])
     refine then_x ?_
     refine inb_x ?_
     refine then_n ?_
     refine wp_seq ?_
     refine sr ?_
     refine w_as (evc (.int .i64 0)) ?_
     refine nt ?_
     refine wp_block ?_
     refine c_loop (fun dN aN wl => ∃ (q : Nat) (vd : Value), dN = (8 - q) ∧ ∃ f43, aN = fr 183 f43 ∧ (q ≤ 8) ∧ f43 0 = pt rp 0 ∧ f43 1 = .agg (arr 8 (fun j => U64 (hh j))) ∧ f43 2 = .string (str s) ∧ f43 4 = pt b_h 0 ∧ f43 6 = pt b_6 0 ∧ f43 7 = vd ∧ f43 8 = .int .i64 4 ∧ f43 9 = .int .i64 ((i : Nat) : Int) ∧ f43 12 = pt b_v 0 ∧ f43 13 = .int .i64 ((t : Nat) : Int) ∧ f43 18 = .int .i64 ((q : Nat) : Int) ∧ Row wl rp 44 25 (Sha.rrow (.int .i64 256) (.int .i64 ((ou : Nat) : Int)) (.int .i64 64) (.int .i64 64) (.slice (some ⟨g, 0, none⟩) 64 cap) bg (fun i => U64 (BitVec.ofNat 64 (Sha.trn true i)))) ∧ Row wl g 39 64 (fun j => U64 (Sha.K true j)) ∧ Row wl b_h 40 8 (fun j => if j < q then (fun j => U64 (Sha.comp true (gb s) hh j)) j else (fun j => U64 (hh j)) j) ∧ Row wl b_6 40 8 (fun j => U64 (0#64)) ∧ Row wl b_v 40 8 (fun j => U64 (Sha.vs true (gb s) hh 64 j)) ∧ Own wl w0.heap.size 39 1 vd 64 (fun j => U64 (Sha.w true (gb s) j)) ∧ vd.ownBlock ≠ some rp ∧ vd.ownBlock ≠ some g ∧ vd.ownBlock ≠ some b_h ∧ vd.ownBlock ≠ some b_6 ∧ vd.ownBlock ≠ some b_v ∧ Below w0.heap.size w0 wl) (8 - 0) ?_ ?_
     · exact ⟨0, vc, rfl, _, rfl, iv, s3_0, s3_1, s3_2, s3_4, s3_6, (Eq.trans (b := vc) s3_7 (by first | with_reducible rfl | (with_reducible congr 1 <;> omega) | (with_reducible congr 2 <;> omega) | (with_reducible congr 3 <;> omega) | rfl)), s3_8, s3_9, s3_12, s3_13, (etv (b := .int .i64 0) rfl), r_rp, r_g, (r_b_h.cg), r_b_6, r_b_v, o_vc, no_vc_rp, no_vc_g, no_vc_b_h, no_vc_b_6, no_vc_b_v, hk⟩
     ·skip
      clear r_rp r_g r_b_h r_b_6 r_b_v o_vc hk
      rintro _ _ w44 ⟨q, vd, rfl, f43, rfl, i4_0, s4_0, s4_1, s4_2, s4_4, s4_6, s4_7, s4_8, s4_9, s4_12, s4_13, s4_18, r_rp, r_g, r_b_h, r_b_6, r_b_v, o_vd, no_vd_rp, no_vd_g, no_vd_b_h, no_vd_b_6, no_vd_b_v, hk⟩
      refine wp_seq ?_
      refine sr ?_
      refine w_mv (ev (.int .i64 ((q : Nat) : Int)) s4_18 rfl) ?_
      refine w_val (y_bin (ev (.int .i64 ((q : Nat) : Int)) rfl rfl) (evc (.int .i64 8)) b_lss) ?_
      refine nt ?_
      refine c_if (p := ((q : Nat) : Int) < 8) (ev (.bool (decide (((q : Nat) : Int) < 8))) rfl rfl) (fun hc45 => ?_) (fun hc45 => ?_)
      ·skip
       refine wp_skip ?_
       refine then_n ?_
       refine wp_seq ?_
       refine wp_block ?_
       refine region_t 11 ShaRT.mixed (by kernel_rfl) ?_
       simp only [List.take_succ_cons, List.take_zero, List.drop_succ_cons, List.drop_zero]
       refine q_mv (ev (.int .i64 ((q : Nat) : Int)) s4_18 rfl) ?_
       refine q_mv (ev (pt rp 0) s4_0 rfl) ?_
       refine q_mv (ev (.int .i64 ((q : Nat) : Int)) s4_18 rfl) ?_
       refine q_val (fun w' hw' => y_ia1z (i := q) (ev (pt b_h 0) s4_4 rfl) (ev (.int .i64 ((q : Nat) : Int)) rfl rfl) Tryd.underlying40 ShaRT.sz39 (by omega) (by omega)) ?_
       refine q_val (v := U64 (hh q)) (fun w' hw' => y_ld (ev (pt b_h q) rfl rfl) ShaRT.sc39 (cls_cell (r_b_h.val (by omega) ((if_neg (by omega)).trans rfl)) r_b_h.lt w' hw')) ?_
       refine q_mv (ev (.int .i64 ((q : Nat) : Int)) s4_18 rfl) ?_
       refine q_val (fun w' hw' => y_ia1z (i := q) (ev (pt b_v 0) s4_12 rfl) (ev (.int .i64 ((q : Nat) : Int)) rfl rfl) Tryd.underlying40 ShaRT.sz39 (by omega) (by omega)) ?_
       refine q_val (v := U64 (Sha.vs true (gb s) hh 64 q)) (fun w' hw' => y_ld (ev (pt b_v q) rfl rfl) ShaRT.sc39 (cls_cell (r_b_v.val (by omega) rfl) r_b_v.lt w' hw')) ?_
       refine q_val (fun w' hw' => y_bin (ev (U64 (hh q)) rfl rfl) (ev (U64 (Sha.vs true (gb s) hh 64 q)) rfl rfl) add64) ?_
       refine q_call (v := U64 (Sha.wd true ((hh q) + (Sha.vs true (gb s) hh 64 q)))) (Tryd.func51) (by kernel_rfl) rfl (m2 (ev (pt rp 0) rfl rfl) (ev (U64 ((hh q) + (Sha.vs true (gb s) hh 64 q))) rfl rfl)) (fun w' hw' => word_t rp ou g cap bg ((hh q) + (Sha.vs true (gb s) hh 64 q)) w' (r_rp.step hw')) ?_
       refine q_val (fun w' hw' => y_ia1z (i := q) (ev (pt b_h 0) s4_4 rfl) (ev (.int .i64 ((q : Nat) : Int)) rfl rfl) Tryd.underlying40 ShaRT.sz39 (by omega) (by omega)) ?_
       refine q_nil ?_
       intro w46 hb47
       replace o_vd := o_vd.step hb47
       replace r_rp := r_rp.step hb47
       replace r_g := r_g.step hb47
       replace r_b_h := r_b_h.step hb47
       replace r_b_6 := r_b_6.step hb47
       replace r_b_v := r_b_v.step hb47
       replace hk := thenB hk hb47
       refine w_st (v := U64 (Sha.wd true ((hh q) + (Sha.vs true (gb s) hh 64 q)))) (ev (pt b_h q) rfl rfl) (ev (U64 (Sha.wd true ((hh q) + (Sha.vs true (gb s) hh 64 q)))) rfl rfl) rfl rfl ShaRT.sz39 r_b_h (by omega) ?_
       clear r_b_h; intro w48 r_b_h hg49 _
       replace o_vd := o_vd.stepG hg49 no_vd_b_h
       replace r_rp := r_rp.stepG hg49 (by omega)
       replace r_g := r_g.stepG hg49 (by omega)
       replace r_b_6 := r_b_6.stepG hg49 (by omega)
       replace r_b_v := r_b_v.stepG hg49 (by omega)
       replace hk := thenG hk hg49 (by omega)
       refine wpList_nil ?_
       refine inb_n ?_
       refine then_n ?_
       refine wp_region_lit ?_
       refine w_mv (ev (.int .i64 ((q : Nat) : Int)) s4_18 rfl) ?_
       refine w_val (y_bin (ev (.int .i64 ((q : Nat) : Int)) rfl rfl) (evc (.int .i64 1)) (b_add (by omega))) ?_
       refine w_as (ev (.int .i64 (((q : Nat) : Int) + 1)) rfl rfl) ?_
       refine wpList_nil ?_
       exact then_n ⟨_, (by omega), q + 1, vd, rfl, _, rfl, iv, s4_0, s4_1, s4_2, s4_4, s4_6, s4_7, s4_8, s4_9, s4_12, s4_13, (etv (b := .int .i64 (((q : Nat) : Int) + 1)) rfl), r_rp, r_g, (r_b_h.congr (fun j hj => by (try dsimp only); by_cases e : j = q; (rw [if_pos e, if_pos (by omega), e]; rfl); (rw [if_neg e]; by_cases e2 : j < q; (rw [if_pos e2]; exact (if_pos (by omega)).symm); (rw [if_neg e2]; exact (if_neg (by omega)).symm)))), r_b_6, r_b_v, o_vd, no_vd_rp, no_vd_g, no_vd_b_h, no_vd_b_6, no_vd_b_v, hk⟩
      ·skip
       refine wp_exit ?_
       refine then_x ?_
       replace r_b_h := r_b_h.congr (g := fun j => U64 (Sha.comp true (gb s) hh j)) (fun j hj => by (try dsimp only); rw [if_pos (by omega)])
       refine then_x ?_
       refine inb_x ?_
       refine then_n ?_
       refine sr ?_
       refine w_val (v := .agg (arr 8 (fun j => U64 (Sha.comp true (gb s) hh j)))) (y_lda (ev (pt b_h 0) s4_4 rfl) ShaRT.ag40 ShaRT.sz40 (fun j hj => by rw [Nat.zero_add]; exact (r_b_h.cell (by omega)))) ?_
       refine w_sta (k := 8) (G := fun j => U64 (Sha.comp true (gb s) hh j)) (ev (pt b_6 0) s4_6 rfl) (ev (.agg (arr 8 (fun j => U64 (Sha.comp true (gb s) hh j)))) rfl rfl) oc ShaRT.sz40 r_b_6 (by omega) ?_
       clear r_b_6; intro w50 r_b_6 hg51 _
       replace r_b_6 := r_b_6.congr (g := fun j => U64 (Sha.comp true (gb s) hh j)) (fun j hj => by rw [if_pos ⟨Nat.zero_le _, by omega⟩]; first | rfl | (simp only [Nat.sub_zero]))
       replace o_vd := o_vd.stepG hg51 no_vd_b_6
       replace r_rp := r_rp.stepG hg51 (by omega)
       replace r_g := r_g.stepG hg51 (by omega)
       replace r_b_h := r_b_h.stepG hg51 (by omega)
       replace r_b_v := r_b_v.stepG hg51 (by omega)
       replace hk := thenG hk hg51 (by omega)
       refine nt ?_
       refine wp_ret ?_
       refine fin_arr (F := fun j => U64 (Sha.comp true (gb s) hh j)) rfl (ev (pt b_6 0) s4_6 rfl) ShaRT.ag40 ShaRT.sz40 r_b_6 (by omega) ?_
       exact ⟨rfl, hk⟩

set_option maxRecDepth 100000 in
set_option maxHeartbeats 1000000 in
theorem word_f (rp ou g cap : Nat) (bg : Nat → BitVec 64) (kd : Int) (hkd : kd ≠ 256) (x : BitVec 64) (w0 : World) (r_rp : Row w0 rp 44 25 (Sha.rrow (.int .i64 kd) (.int .i64 ((ou : Nat) : Int)) (.int .i64 128) (.int .i64 80) (.slice (some ⟨g, 0, none⟩) 80 cap) bg (fun i => U64 (BitVec.ofNat 64 (Sha.trn false i))))) : Calls Tryd.prog 51 #[pt rp 0, U64 x] w0 fun e w' => e = .returned (U64 (Sha.wd false x)) ∧ Below w0.heap.size w0 w' := by
 refine enter (n := 13) Tryd.func51 rfl rfl rfl ?_
 have hk : Below w0.heap.size w0 w0 := Below.refl _ _
 have lt_rp := r_rp.lt
 refine sr ?_
 refine w_as (evc (U64 (0#64))) ?_
 refine nt ?_
 refine wp_seq ?_
 refine sr ?_
 refine w_mv (ev (pt rp 0) rfl rfl) ?_
 refine w_val (y_nc (ev (pt rp 0) rfl rfl)) ?_
 refine w_val (v := pt rp 0) (y_off (y_fa (ev (pt rp 0) rfl rfl) (ShaRT.fa44_0 _ _)) (by first | rfl | omega)) ?_
 refine w_val (v := .int .i64 kd) (y_ld (ev (pt rp 0) rfl rfl) ShaRT.sc3 (r_rp.val (by omega) (etv (if_pos (by omega))))) ?_
 refine w_val (y_bin (ev (.int .i64 kd) rfl rfl) (evc (.int .i64 256)) b_eql) ?_
 refine nt ?_
 have hc1 : ¬ (kd = 256) := by exact hkd
 refine c_f (p := kd = 256) (ev (.bool (decide (kd = 256))) rfl rfl) hc1 ?_
 refine wp_skip ?_
 refine then_n ?_
 refine sr ?_
 refine w_mv (ev (U64 x) rfl rfl) ?_
 refine w_as (ev (U64 x) rfl rfl) ?_
 refine nt ?_
 refine wp_ret ?_
 refine fin_ret1 rfl (ev (U64 x) rfl rfl) ?_
 refine ⟨congrArg Ending.returned ?_, hk⟩
 show (U64 x : Value) = U64 (Sha.wd false x)
 rfl

set_option maxRecDepth 100000 in
set_option maxHeartbeats 1000000 in
theorem turn_f (rp ou g cap : Nat) (bg : Nat → BitVec 64) (kd : Int) (hkd : kd ≠ 256) (x : BitVec 64) (n : Nat) (hn : n ≤ 64) (w0 : World) (r_rp : Row w0 rp 44 25 (Sha.rrow (.int .i64 kd) (.int .i64 ((ou : Nat) : Int)) (.int .i64 128) (.int .i64 80) (.slice (some ⟨g, 0, none⟩) 80 cap) bg (fun i => U64 (BitVec.ofNat 64 (Sha.trn false i))))) : Calls Tryd.prog 58 #[pt rp 0, U64 x, U64 (BitVec.ofNat 64 n)] w0 fun e w' => e = .returned (U64 (Sha.tn false x n)) ∧ Below w0.heap.size w0 w' := by
 refine enter (n := 30) Tryd.func58 rfl rfl rfl ?_
 have hk : Below w0.heap.size w0 w0 := Below.refl _ _
 have lt_rp := r_rp.lt
 refine sr ?_
 refine w_as (evc (U64 (0#64))) ?_
 refine nt ?_
 refine wp_seq ?_
 refine sr ?_
 refine w_mv (ev (pt rp 0) rfl rfl) ?_
 refine w_val (y_nc (ev (pt rp 0) rfl rfl)) ?_
 refine w_val (v := pt rp 0) (y_off (y_fa (ev (pt rp 0) rfl rfl) (ShaRT.fa44_0 _ _)) (by first | rfl | omega)) ?_
 refine w_val (v := .int .i64 kd) (y_ld (ev (pt rp 0) rfl rfl) ShaRT.sc3 (r_rp.val (by omega) (etv (if_pos (by omega))))) ?_
 refine w_val (y_bin (ev (.int .i64 kd) rfl rfl) (evc (.int .i64 256)) b_eql) ?_
 refine nt ?_
 have hc1 : ¬ (kd = 256) := by exact hkd
 refine c_f (p := kd = 256) (ev (.bool (decide (kd = 256))) rfl rfl) hc1 ?_
 refine wp_skip ?_
 refine then_n ?_
 refine sr ?_
 refine w_mv (ev (U64 x) rfl rfl) ?_
 refine w_mv (ev (U64 (BitVec.ofNat 64 n)) rfl rfl) ?_
 refine w_val (y_bin (ev (U64 x) rfl rfl) (ev (U64 (BitVec.ofNat 64 n)) rfl rfl) (shr64 (c := n) (by rw [BitVec.toNat_ofNat]; omega))) ?_
 refine w_mv (ev (U64 x) rfl rfl) ?_
 refine w_mv (ev (U64 (BitVec.ofNat 64 n)) rfl rfl) ?_
 refine w_val (y_bin (evc (U64 (64#64))) (ev (U64 (BitVec.ofNat 64 n)) rfl rfl) sub64) ?_
 refine w_val (y_bin (ev (U64 x) rfl rfl) (ev (U64 ((64#64) - (BitVec.ofNat 64 n))) rfl rfl) (shl64 (c := (((64#64) - (BitVec.ofNat 64 n)).toNat)) rfl)) ?_
 refine w_val (y_bin (ev (U64 (x >>> n)) rfl rfl) (ev (U64 (x <<< (((64#64) - (BitVec.ofNat 64 n)).toNat))) rfl rfl) or64) ?_
 refine w_as (ev (U64 ((x >>> n) ||| (x <<< (((64#64) - (BitVec.ofNat 64 n)).toNat)))) rfl rfl) ?_
 refine nt ?_
 refine wp_ret ?_
 refine fin_ret1 rfl (ev (U64 ((x >>> n) ||| (x <<< (((64#64) - (BitVec.ofNat 64 n)).toNat)))) rfl rfl) ?_
 refine ⟨congrArg Ending.returned ?_, hk⟩
 show (U64 ((x >>> n) ||| (x <<< (((64#64) - (BitVec.ofNat 64 n)).toNat))) : Value) = U64 (Sha.tn false x n)
 rw [Sha.sub_ofNat 64 n (by omega) (by omega)]; rfl

set_option maxRecDepth 100000 in
set_option maxHeartbeats 1000000 in
theorem three_ft (rp ou g cap : Nat) (bg : Nat → BitVec 64) (kd : Int) (hkd : kd ≠ 256) (x : BitVec 64) (a : Nat) (ha : a + 2 < 12) (w0 : World) (r_rp : Row w0 rp 44 25 (Sha.rrow (.int .i64 kd) (.int .i64 ((ou : Nat) : Int)) (.int .i64 128) (.int .i64 80) (.slice (some ⟨g, 0, none⟩) 80 cap) bg (fun i => U64 (BitVec.ofNat 64 (Sha.trn false i))))) : Calls Tryd.prog 52 #[pt rp 0, U64 x, .int .i64 ((a : Nat) : Int), .bool true] w0 fun e w' => e = .returned (U64 (Sha.th false x a true)) ∧ Below w0.heap.size w0 w' := by
 have ht0 := Nat.le_of_lt (Sha.trn_lt false a)
 have ht1 := Nat.le_of_lt (Sha.trn_lt false (a + 1))
 have ht2 := Nat.le_of_lt (Sha.trn_lt false (a + 2))
 refine enter (n := 52) Tryd.func52 rfl rfl rfl ?_
 have hk : Below w0.heap.size w0 w0 := Below.refl _ _
 have lt_rp := r_rp.lt
 refine sr ?_
 refine w_as (evc (U64 (0#64))) ?_
 refine nt ?_
 refine sr ?_
 refine w_mv (ev (pt rp 0) rfl rfl) ?_
 refine w_mv (ev (U64 x) rfl rfl) ?_
 refine w_mv (ev (pt rp 0) rfl rfl) ?_
 refine w_mv (ev (.int .i64 ((a : Nat) : Int)) rfl rfl) ?_
 refine w_val (y_bin (ev (.int .i64 ((a : Nat) : Int)) rfl rfl) (evc (.int .i64 2)) (b_add (by omega))) ?_
 refine w_val (y_nc (ev (pt rp 0) rfl rfl)) ?_
 refine w_val (v := pt rp 13) (y_off (y_fa (ev (pt rp 0) rfl rfl) (ShaRT.fa44_6 _ _)) (by first | rfl | omega)) ?_
 refine w_val (v := pt rp (13 + (a + 2))) (y_off (y_ia1 (i := (a + 2)) (ev (pt rp 13) rfl rfl) (ev (.int .i64 (((a : Nat) : Int) + 2)) rfl rfl) Tryd.underlying42 ShaRT.sz41 (by omega) (by omega)) (by first | rfl | omega)) ?_
 refine w_val (v := U64 (BitVec.ofNat 64 (Sha.trn false (a + 2)))) (y_ld (ev (pt rp (13 + (a + 2))) rfl rfl) ShaRT.sc41 (r_rp.val (by omega) ((if_neg (by omega)).trans ((if_neg (by omega)).trans ((if_neg (by omega)).trans ((if_neg (by omega)).trans ((if_neg (by omega)).trans ((if_neg (by omega)).trans (by first | with_reducible rfl | (with_reducible congr 1 <;> omega) | (with_reducible congr 2 <;> omega) | (with_reducible congr 3 <;> omega) | rfl))))))))) ?_
 refine w_call (Tryd.func58) (by kernel_rfl) rfl (m3 (ev (pt rp 0) rfl rfl) (ev (U64 x) rfl rfl) (ev (U64 (BitVec.ofNat 64 (Sha.trn false (a + 2)))) rfl rfl)) (turn_f rp ou g cap bg kd hkd x (Sha.trn false (a + 2)) (by omega) w0 r_rp) ?_
 rintro _ w1 ⟨rfl, hb2⟩
 refine ⟨_, rfl, ?_⟩
 replace r_rp := r_rp.step hb2
 replace hk := thenB hk hb2
 refine w_as (ev (U64 (Sha.tn false x (Sha.trn false (a + 2)))) rfl rfl) ?_
 refine nt ?_
 refine wp_seq ?_
 refine sr ?_
 refine w_mv (ev (.bool true) rfl rfl) ?_
 refine nt ?_
 refine c_tt (ev (.bool true) rfl rfl) ?_
 refine wp_region_lit ?_
 refine w_mv (ev (U64 x) rfl rfl) ?_
 refine w_mv (ev (pt rp 0) rfl rfl) ?_
 refine w_mv (ev (.int .i64 ((a : Nat) : Int)) rfl rfl) ?_
 refine w_val (y_bin (ev (.int .i64 ((a : Nat) : Int)) rfl rfl) (evc (.int .i64 2)) (b_add (by omega))) ?_
 refine w_val (y_nc (ev (pt rp 0) rfl rfl)) ?_
 refine w_val (v := pt rp 13) (y_off (y_fa (ev (pt rp 0) rfl rfl) (ShaRT.fa44_6 _ _)) (by first | rfl | omega)) ?_
 refine w_val (v := pt rp (13 + (a + 2))) (y_off (y_ia1 (i := (a + 2)) (ev (pt rp 13) rfl rfl) (ev (.int .i64 (((a : Nat) : Int) + 2)) rfl rfl) Tryd.underlying42 ShaRT.sz41 (by omega) (by omega)) (by first | rfl | omega)) ?_
 refine w_val (v := U64 (BitVec.ofNat 64 (Sha.trn false (a + 2)))) (y_ld (ev (pt rp (13 + (a + 2))) rfl rfl) ShaRT.sc41 (r_rp.val (by omega) ((if_neg (by omega)).trans ((if_neg (by omega)).trans ((if_neg (by omega)).trans ((if_neg (by omega)).trans ((if_neg (by omega)).trans ((if_neg (by omega)).trans (by first | with_reducible rfl | (with_reducible congr 1 <;> omega) | (with_reducible congr 2 <;> omega) | (with_reducible congr 3 <;> omega) | rfl))))))))) ?_
 refine w_val (y_bin (ev (U64 x) rfl rfl) (ev (U64 (BitVec.ofNat 64 (Sha.trn false (a + 2)))) rfl rfl) (shr64 (c := (Sha.trn false (a + 2))) (by rw [BitVec.toNat_ofNat]; omega))) ?_
 refine w_as (ev (U64 (x >>> (Sha.trn false (a + 2)))) rfl rfl) ?_
 refine nt ?_
 refine wp_seq ?_
 refine region_q ShaRT.mixed (by kernel_rfl) ?_
 refine q_mv (ev (pt rp 0) rfl rfl) ?_
 refine q_mv (ev (U64 x) rfl rfl) ?_
 refine q_mv (ev (pt rp 0) rfl rfl) ?_
 refine q_mv (ev (.int .i64 ((a : Nat) : Int)) rfl rfl) ?_
 refine q_val (fun w' hw' => y_nc (ev (pt rp 0) rfl rfl)) ?_
 refine q_val (v := pt rp 13) (fun w' hw' => y_off (y_fa (ev (pt rp 0) rfl rfl) (ShaRT.fa44_6 _ _)) (by first | rfl | omega)) ?_
 refine q_val (v := pt rp (13 + a)) (fun w' hw' => y_off (y_ia1 (i := a) (ev (pt rp 13) rfl rfl) (ev (.int .i64 ((a : Nat) : Int)) rfl rfl) Tryd.underlying42 ShaRT.sz41 (by omega) (by omega)) (by first | rfl | omega)) ?_
 refine q_val (v := U64 (BitVec.ofNat 64 (Sha.trn false a))) (fun w' hw' => y_ld (ev (pt rp (13 + a)) rfl rfl) ShaRT.sc41 (cls_cell (r_rp.val (by omega) ((if_neg (by omega)).trans ((if_neg (by omega)).trans ((if_neg (by omega)).trans ((if_neg (by omega)).trans ((if_neg (by omega)).trans ((if_neg (by omega)).trans (by first | with_reducible rfl | (with_reducible congr 1 <;> omega) | (with_reducible congr 2 <;> omega) | (with_reducible congr 3 <;> omega) | rfl)))))))) r_rp.lt w' hw')) ?_
 refine q_call (v := U64 (Sha.tn false x (Sha.trn false a))) (Tryd.func58) (by kernel_rfl) rfl (m3 (ev (pt rp 0) rfl rfl) (ev (U64 x) rfl rfl) (ev (U64 (BitVec.ofNat 64 (Sha.trn false a))) rfl rfl)) (fun w' hw' => turn_f rp ou g cap bg kd hkd x (Sha.trn false a) (by omega) w' (r_rp.step hw')) ?_
 refine q_mv (ev (pt rp 0) rfl rfl) ?_
 refine q_mv (ev (U64 x) rfl rfl) ?_
 refine q_mv (ev (pt rp 0) rfl rfl) ?_
 refine q_mv (ev (.int .i64 ((a : Nat) : Int)) rfl rfl) ?_
 refine q_val (fun w' hw' => y_bin (ev (.int .i64 ((a : Nat) : Int)) rfl rfl) (evc (.int .i64 1)) (b_add (by omega))) ?_
 refine q_val (fun w' hw' => y_nc (ev (pt rp 0) rfl rfl)) ?_
 refine q_val (v := pt rp 13) (fun w' hw' => y_off (y_fa (ev (pt rp 0) rfl rfl) (ShaRT.fa44_6 _ _)) (by first | rfl | omega)) ?_
 refine q_val (v := pt rp (13 + (a + 1))) (fun w' hw' => y_off (y_ia1 (i := (a + 1)) (ev (pt rp 13) rfl rfl) (ev (.int .i64 (((a : Nat) : Int) + 1)) rfl rfl) Tryd.underlying42 ShaRT.sz41 (by omega) (by omega)) (by first | rfl | omega)) ?_
 refine q_val (v := U64 (BitVec.ofNat 64 (Sha.trn false (a + 1)))) (fun w' hw' => y_ld (ev (pt rp (13 + (a + 1))) rfl rfl) ShaRT.sc41 (cls_cell (r_rp.val (by omega) ((if_neg (by omega)).trans ((if_neg (by omega)).trans ((if_neg (by omega)).trans ((if_neg (by omega)).trans ((if_neg (by omega)).trans ((if_neg (by omega)).trans (by first | with_reducible rfl | (with_reducible congr 1 <;> omega) | (with_reducible congr 2 <;> omega) | (with_reducible congr 3 <;> omega) | rfl)))))))) r_rp.lt w' hw')) ?_
 refine q_call (v := U64 (Sha.tn false x (Sha.trn false (a + 1)))) (Tryd.func58) (by kernel_rfl) rfl (m3 (ev (pt rp 0) rfl rfl) (ev (U64 x) rfl rfl) (ev (U64 (BitVec.ofNat 64 (Sha.trn false (a + 1)))) rfl rfl)) (fun w' hw' => turn_f rp ou g cap bg kd hkd x (Sha.trn false (a + 1)) (by omega) w' (r_rp.step hw')) ?_
 refine q_val (fun w' hw' => y_bin (ev (U64 (Sha.tn false x (Sha.trn false a))) rfl rfl) (ev (U64 (Sha.tn false x (Sha.trn false (a + 1)))) rfl rfl) xor64) ?_
 refine q_mv (ev (U64 (x >>> (Sha.trn false (a + 2)))) rfl rfl) ?_
 refine q_val (fun w' hw' => y_bin (ev (U64 ((Sha.tn false x (Sha.trn false a)) ^^^ (Sha.tn false x (Sha.trn false (a + 1))))) rfl rfl) (ev (U64 (x >>> (Sha.trn false (a + 2)))) rfl rfl) xor64) ?_
 refine q_as (ev (U64 (((Sha.tn false x (Sha.trn false a)) ^^^ (Sha.tn false x (Sha.trn false (a + 1)))) ^^^ (x >>> (Sha.trn false (a + 2))))) rfl rfl) ?_
 refine q_nil ?_
 intro w3 hb4
 replace r_rp := r_rp.step hb4
 replace hk := thenB hk hb4
 refine then_n ?_
 refine wp_ret ?_
 refine fin_ret1 rfl (ev (U64 (((Sha.tn false x (Sha.trn false a)) ^^^ (Sha.tn false x (Sha.trn false (a + 1)))) ^^^ (x >>> (Sha.trn false (a + 2))))) rfl rfl) ?_
 refine ⟨congrArg Ending.returned ?_, hk⟩
 show (U64 (((Sha.tn false x (Sha.trn false a)) ^^^ (Sha.tn false x (Sha.trn false (a + 1)))) ^^^ (x >>> (Sha.trn false (a + 2)))) : Value) = U64 (Sha.th false x a true)
 rfl

set_option maxRecDepth 100000 in
set_option maxHeartbeats 1000000 in
theorem three_ff (rp ou g cap : Nat) (bg : Nat → BitVec 64) (kd : Int) (hkd : kd ≠ 256) (x : BitVec 64) (a : Nat) (ha : a + 2 < 12) (w0 : World) (r_rp : Row w0 rp 44 25 (Sha.rrow (.int .i64 kd) (.int .i64 ((ou : Nat) : Int)) (.int .i64 128) (.int .i64 80) (.slice (some ⟨g, 0, none⟩) 80 cap) bg (fun i => U64 (BitVec.ofNat 64 (Sha.trn false i))))) : Calls Tryd.prog 52 #[pt rp 0, U64 x, .int .i64 ((a : Nat) : Int), .bool false] w0 fun e w' => e = .returned (U64 (Sha.th false x a false)) ∧ Below w0.heap.size w0 w' := by
 have ht0 := Nat.le_of_lt (Sha.trn_lt false a)
 have ht1 := Nat.le_of_lt (Sha.trn_lt false (a + 1))
 have ht2 := Nat.le_of_lt (Sha.trn_lt false (a + 2))
 refine enter (n := 52) Tryd.func52 rfl rfl rfl ?_
 have hk : Below w0.heap.size w0 w0 := Below.refl _ _
 have lt_rp := r_rp.lt
 refine sr ?_
 refine w_as (evc (U64 (0#64))) ?_
 refine nt ?_
 refine sr ?_
 refine w_mv (ev (pt rp 0) rfl rfl) ?_
 refine w_mv (ev (U64 x) rfl rfl) ?_
 refine w_mv (ev (pt rp 0) rfl rfl) ?_
 refine w_mv (ev (.int .i64 ((a : Nat) : Int)) rfl rfl) ?_
 refine w_val (y_bin (ev (.int .i64 ((a : Nat) : Int)) rfl rfl) (evc (.int .i64 2)) (b_add (by omega))) ?_
 refine w_val (y_nc (ev (pt rp 0) rfl rfl)) ?_
 refine w_val (v := pt rp 13) (y_off (y_fa (ev (pt rp 0) rfl rfl) (ShaRT.fa44_6 _ _)) (by first | rfl | omega)) ?_
 refine w_val (v := pt rp (13 + (a + 2))) (y_off (y_ia1 (i := (a + 2)) (ev (pt rp 13) rfl rfl) (ev (.int .i64 (((a : Nat) : Int) + 2)) rfl rfl) Tryd.underlying42 ShaRT.sz41 (by omega) (by omega)) (by first | rfl | omega)) ?_
 refine w_val (v := U64 (BitVec.ofNat 64 (Sha.trn false (a + 2)))) (y_ld (ev (pt rp (13 + (a + 2))) rfl rfl) ShaRT.sc41 (r_rp.val (by omega) ((if_neg (by omega)).trans ((if_neg (by omega)).trans ((if_neg (by omega)).trans ((if_neg (by omega)).trans ((if_neg (by omega)).trans ((if_neg (by omega)).trans (by first | with_reducible rfl | (with_reducible congr 1 <;> omega) | (with_reducible congr 2 <;> omega) | (with_reducible congr 3 <;> omega) | rfl))))))))) ?_
 refine w_call (Tryd.func58) (by kernel_rfl) rfl (m3 (ev (pt rp 0) rfl rfl) (ev (U64 x) rfl rfl) (ev (U64 (BitVec.ofNat 64 (Sha.trn false (a + 2)))) rfl rfl)) (turn_f rp ou g cap bg kd hkd x (Sha.trn false (a + 2)) (by omega) w0 r_rp) ?_
 rintro _ w1 ⟨rfl, hb2⟩
 refine ⟨_, rfl, ?_⟩
 replace r_rp := r_rp.step hb2
 replace hk := thenB hk hb2
 refine w_as (ev (U64 (Sha.tn false x (Sha.trn false (a + 2)))) rfl rfl) ?_
 refine nt ?_
 refine wp_seq ?_
 refine sr ?_
 refine w_mv (ev (.bool false) rfl rfl) ?_
 refine nt ?_
 refine c_ff (ev (.bool false) rfl rfl) ?_
 refine wp_skip ?_
 refine then_n ?_
 refine wp_seq ?_
 refine region_q ShaRT.mixed (by kernel_rfl) ?_
 refine q_mv (ev (pt rp 0) rfl rfl) ?_
 refine q_mv (ev (U64 x) rfl rfl) ?_
 refine q_mv (ev (pt rp 0) rfl rfl) ?_
 refine q_mv (ev (.int .i64 ((a : Nat) : Int)) rfl rfl) ?_
 refine q_val (fun w' hw' => y_nc (ev (pt rp 0) rfl rfl)) ?_
 refine q_val (v := pt rp 13) (fun w' hw' => y_off (y_fa (ev (pt rp 0) rfl rfl) (ShaRT.fa44_6 _ _)) (by first | rfl | omega)) ?_
 refine q_val (v := pt rp (13 + a)) (fun w' hw' => y_off (y_ia1 (i := a) (ev (pt rp 13) rfl rfl) (ev (.int .i64 ((a : Nat) : Int)) rfl rfl) Tryd.underlying42 ShaRT.sz41 (by omega) (by omega)) (by first | rfl | omega)) ?_
 refine q_val (v := U64 (BitVec.ofNat 64 (Sha.trn false a))) (fun w' hw' => y_ld (ev (pt rp (13 + a)) rfl rfl) ShaRT.sc41 (cls_cell (r_rp.val (by omega) ((if_neg (by omega)).trans ((if_neg (by omega)).trans ((if_neg (by omega)).trans ((if_neg (by omega)).trans ((if_neg (by omega)).trans ((if_neg (by omega)).trans (by first | with_reducible rfl | (with_reducible congr 1 <;> omega) | (with_reducible congr 2 <;> omega) | (with_reducible congr 3 <;> omega) | rfl)))))))) r_rp.lt w' hw')) ?_
 refine q_call (v := U64 (Sha.tn false x (Sha.trn false a))) (Tryd.func58) (by kernel_rfl) rfl (m3 (ev (pt rp 0) rfl rfl) (ev (U64 x) rfl rfl) (ev (U64 (BitVec.ofNat 64 (Sha.trn false a))) rfl rfl)) (fun w' hw' => turn_f rp ou g cap bg kd hkd x (Sha.trn false a) (by omega) w' (r_rp.step hw')) ?_
 refine q_mv (ev (pt rp 0) rfl rfl) ?_
 refine q_mv (ev (U64 x) rfl rfl) ?_
 refine q_mv (ev (pt rp 0) rfl rfl) ?_
 refine q_mv (ev (.int .i64 ((a : Nat) : Int)) rfl rfl) ?_
 refine q_val (fun w' hw' => y_bin (ev (.int .i64 ((a : Nat) : Int)) rfl rfl) (evc (.int .i64 1)) (b_add (by omega))) ?_
 refine q_val (fun w' hw' => y_nc (ev (pt rp 0) rfl rfl)) ?_
 refine q_val (v := pt rp 13) (fun w' hw' => y_off (y_fa (ev (pt rp 0) rfl rfl) (ShaRT.fa44_6 _ _)) (by first | rfl | omega)) ?_
 refine q_val (v := pt rp (13 + (a + 1))) (fun w' hw' => y_off (y_ia1 (i := (a + 1)) (ev (pt rp 13) rfl rfl) (ev (.int .i64 (((a : Nat) : Int) + 1)) rfl rfl) Tryd.underlying42 ShaRT.sz41 (by omega) (by omega)) (by first | rfl | omega)) ?_
 refine q_val (v := U64 (BitVec.ofNat 64 (Sha.trn false (a + 1)))) (fun w' hw' => y_ld (ev (pt rp (13 + (a + 1))) rfl rfl) ShaRT.sc41 (cls_cell (r_rp.val (by omega) ((if_neg (by omega)).trans ((if_neg (by omega)).trans ((if_neg (by omega)).trans ((if_neg (by omega)).trans ((if_neg (by omega)).trans ((if_neg (by omega)).trans (by first | with_reducible rfl | (with_reducible congr 1 <;> omega) | (with_reducible congr 2 <;> omega) | (with_reducible congr 3 <;> omega) | rfl)))))))) r_rp.lt w' hw')) ?_
 refine q_call (v := U64 (Sha.tn false x (Sha.trn false (a + 1)))) (Tryd.func58) (by kernel_rfl) rfl (m3 (ev (pt rp 0) rfl rfl) (ev (U64 x) rfl rfl) (ev (U64 (BitVec.ofNat 64 (Sha.trn false (a + 1)))) rfl rfl)) (fun w' hw' => turn_f rp ou g cap bg kd hkd x (Sha.trn false (a + 1)) (by omega) w' (r_rp.step hw')) ?_
 refine q_val (fun w' hw' => y_bin (ev (U64 (Sha.tn false x (Sha.trn false a))) rfl rfl) (ev (U64 (Sha.tn false x (Sha.trn false (a + 1)))) rfl rfl) xor64) ?_
 refine q_mv (ev (U64 (Sha.tn false x (Sha.trn false (a + 2)))) rfl rfl) ?_
 refine q_val (fun w' hw' => y_bin (ev (U64 ((Sha.tn false x (Sha.trn false a)) ^^^ (Sha.tn false x (Sha.trn false (a + 1))))) rfl rfl) (ev (U64 (Sha.tn false x (Sha.trn false (a + 2)))) rfl rfl) xor64) ?_
 refine q_as (ev (U64 (((Sha.tn false x (Sha.trn false a)) ^^^ (Sha.tn false x (Sha.trn false (a + 1)))) ^^^ (Sha.tn false x (Sha.trn false (a + 2))))) rfl rfl) ?_
 refine q_nil ?_
 intro w3 hb4
 replace r_rp := r_rp.step hb4
 replace hk := thenB hk hb4
 refine then_n ?_
 refine wp_ret ?_
 refine fin_ret1 rfl (ev (U64 (((Sha.tn false x (Sha.trn false a)) ^^^ (Sha.tn false x (Sha.trn false (a + 1)))) ^^^ (Sha.tn false x (Sha.trn false (a + 2))))) rfl rfl) ?_
 refine ⟨congrArg Ending.returned ?_, hk⟩
 show (U64 (((Sha.tn false x (Sha.trn false a)) ^^^ (Sha.tn false x (Sha.trn false (a + 1)))) ^^^ (Sha.tn false x (Sha.trn false (a + 2)))) : Value) = U64 (Sha.th false x a false)
 rfl

set_option maxRecDepth 100000 in
set_option maxHeartbeats 1000000 in
theorem block_f (rp ou g cap : Nat) (bg : Nat → BitVec 64) (kd : Int) (hkd : kd ≠ 256) (hh : Nat → BitVec 64) (s : List (BitVec 8)) (hs : s.length = 128) (w0 : World) (r_rp : Row w0 rp 44 25 (Sha.rrow (.int .i64 kd) (.int .i64 ((ou : Nat) : Int)) (.int .i64 128) (.int .i64 80) (.slice (some ⟨g, 0, none⟩) 80 cap) bg (fun i => U64 (BitVec.ofNat 64 (Sha.trn false i))))) (r_g : Row w0 g 39 80 (fun j => U64 (Sha.K false j))) : Calls Tryd.prog 43 #[pt rp 0, .agg (arr 8 (fun j => U64 (hh j))), .string (str s)] w0 fun e w' => e = .returned (.agg (arr 8 (fun j => U64 (Sha.comp false (gb s) hh j)))) ∧ Below w0.heap.size w0 w' := by
 refine enter (n := 183) Tryd.func43 rfl rfl rfl ?_
 have hk : Below w0.heap.size w0 w0 := Below.refl _ _
 have lt_rp := r_rp.lt
 have lt_g := r_g.lt
 refine sr ?_
 refine w_box (m := 8) (F := fun j => U64 (hh j)) (ev (.agg (arr 8 (fun j => U64 (hh j)))) rfl rfl) rfl ?_
 intro b_h w1 hbe_b_h r_b_h hb2
 have ne_rp_b_h : rp ≠ b_h := by have := r_rp.lt; omega
 have ne_g_b_h : g ≠ b_h := by have := r_g.lt; omega
 have ge_b_h : w0.heap.size ≤ b_h := by have := hk.size; omega
 clear hbe_b_h
 replace r_rp := r_rp.step hb2
 replace r_g := r_g.step hb2
 replace hk := thenB hk hb2
 refine w_alloc (m := 8) (F := fun j => U64 (0#64)) (by kernel_rfl) ?_
 intro b_6 w3 hbe_b_6 r_b_6 hb4
 have ne_rp_b_6 : rp ≠ b_6 := by have := r_rp.lt; omega
 have ne_g_b_6 : g ≠ b_6 := by have := r_g.lt; omega
 have ne_b_h_b_6 : b_h ≠ b_6 := by have := r_b_h.lt; omega
 have ge_b_6 : w0.heap.size ≤ b_6 := by have := hk.size; omega
 clear hbe_b_6
 replace r_rp := r_rp.step hb4
 replace r_g := r_g.step hb4
 replace r_b_h := r_b_h.step hb4
 replace hk := thenB hk hb4
 refine nt ?_
 refine sr ?_
 refine w_as (evc (.slice none 0 0)) ?_
 refine nt ?_
 refine sr ?_
 refine w_mv (ev (pt rp 0) rfl rfl) ?_
 refine w_val (y_nc (ev (pt rp 0) rfl rfl)) ?_
 refine w_val (v := pt rp 2) (y_off (y_fa (ev (pt rp 0) rfl rfl) (ShaRT.fa44_2 _ _)) (by first | rfl | omega)) ?_
 refine w_val (v := .int .i64 128) (y_ld (ev (pt rp 2) rfl rfl) ShaRT.sc3 (r_rp.val (by omega) ((if_neg (by omega)).trans ((if_neg (by omega)).trans (etv (if_pos (by omega))))))) ?_
 refine w_val (y_bin (ev (.int .i64 128) rfl rfl) (evc (.int .i64 16)) (b_quo (by omega))) ?_
 refine w_as (ev (.int .i64 8) rfl rfl) ?_
 refine nt ?_
 refine wp_seq ?_
 refine sr ?_
 refine w_as (evc (.int .i64 0)) ?_
 refine nt ?_
 refine wp_block ?_
 refine c_loop (fun dN aN wl => ∃ (i : Nat) (va : Value), dN = (80 - i) ∧ ∃ f5, aN = fr 183 f5 ∧ (i ≤ 80) ∧ f5 0 = pt rp 0 ∧ f5 1 = .agg (arr 8 (fun j => U64 (hh j))) ∧ f5 2 = .string (str s) ∧ f5 4 = pt b_h 0 ∧ f5 6 = pt b_6 0 ∧ f5 7 = va ∧ f5 8 = .int .i64 8 ∧ f5 9 = .int .i64 ((i : Nat) : Int) ∧ Row wl rp 44 25 (Sha.rrow (.int .i64 kd) (.int .i64 ((ou : Nat) : Int)) (.int .i64 128) (.int .i64 80) (.slice (some ⟨g, 0, none⟩) 80 cap) bg (fun i => U64 (BitVec.ofNat 64 (Sha.trn false i)))) ∧ Row wl g 39 80 (fun j => U64 (Sha.K false j)) ∧ Row wl b_h 40 8 (fun j => U64 (hh j)) ∧ Row wl b_6 40 8 (fun j => U64 (0#64)) ∧ Own wl w0.heap.size 39 1 va i (fun j => U64 (Sha.w false (gb s) j)) ∧ va.ownBlock ≠ some rp ∧ va.ownBlock ≠ some g ∧ va.ownBlock ≠ some b_h ∧ va.ownBlock ≠ some b_6 ∧ Below w0.heap.size w0 wl) (80 - 0) ?_ ?_
 · exact ⟨0, (.slice none 0 0), rfl, _, rfl, iv, rfl, rfl, rfl, rfl, rfl, (etv (b := .slice none 0 0) rfl), rfl, (etv (b := .int .i64 0) rfl), r_rp, r_g, r_b_h, r_b_6, Own.nil, (fun e => by cases e), (fun e => by cases e), (fun e => by cases e), (fun e => by cases e), hk⟩
 ·skip
  clear r_rp r_g r_b_h r_b_6 hk
  rintro _ _ w6 ⟨i, va, rfl, f5, rfl, i1_0, s1_0, s1_1, s1_2, s1_4, s1_6, s1_7, s1_8, s1_9, r_rp, r_g, r_b_h, r_b_6, o_va, no_va_rp, no_va_g, no_va_b_h, no_va_b_6, hk⟩
  refine wp_seq ?_
  refine sr ?_
  refine w_mv (ev (.int .i64 ((i : Nat) : Int)) s1_9 rfl) ?_
  refine w_mv (ev (pt rp 0) s1_0 rfl) ?_
  refine w_val (y_nc (ev (pt rp 0) rfl rfl)) ?_
  refine w_val (v := pt rp 3) (y_off (y_fa (ev (pt rp 0) rfl rfl) (ShaRT.fa44_3 _ _)) (by first | rfl | omega)) ?_
  refine w_val (v := .int .i64 80) (y_ld (ev (pt rp 3) rfl rfl) ShaRT.sc3 (r_rp.val (by omega) ((if_neg (by omega)).trans ((if_neg (by omega)).trans ((if_neg (by omega)).trans (etv (if_pos (by omega)))))))) ?_
  refine w_val (y_bin (ev (.int .i64 ((i : Nat) : Int)) rfl rfl) (ev (.int .i64 80) rfl rfl) b_lss) ?_
  refine nt ?_
  refine c_if (p := ((i : Nat) : Int) < 80) (ev (.bool (decide (((i : Nat) : Int) < 80))) rfl rfl) (fun hc7 => ?_) (fun hc7 => ?_)
  ·skip
   refine wp_skip ?_
   refine then_n ?_
   refine wp_seq ?_
   refine wp_block ?_
   refine sr ?_
   refine w_as (evc (U64 (0#64))) ?_
   refine nt ?_
   refine wp_seq ?_
   refine sr ?_
   refine w_mv (ev (.int .i64 ((i : Nat) : Int)) s1_9 rfl) ?_
   refine w_val (y_bin (ev (.int .i64 ((i : Nat) : Int)) rfl rfl) (evc (.int .i64 16)) b_lss) ?_
   refine nt ?_
   refine c_if (p := ((i : Nat) : Int) < 16) (ev (.bool (decide (((i : Nat) : Int) < 16))) rfl rfl) (fun hc8 => ?_) (fun hc8 => ?_)
   ·skip
    refine sr ?_
    refine w_as (evc (.int .i64 0)) ?_
    refine nt ?_
    refine wp_block ?_
    refine c_loop (fun dN aN wl => ∃ (k : Nat) (vb : Value), dN = (8 - k) ∧ ∃ f9, aN = fr 183 f9 ∧ (k ≤ 8) ∧ f9 0 = pt rp 0 ∧ f9 1 = .agg (arr 8 (fun j => U64 (hh j))) ∧ f9 2 = .string (str s) ∧ f9 4 = pt b_h 0 ∧ f9 6 = pt b_6 0 ∧ f9 7 = vb ∧ f9 8 = .int .i64 8 ∧ f9 9 = .int .i64 ((i : Nat) : Int) ∧ f9 10 = U64 (Sha.bw (fun j => gb s (8 * i + j)) k) ∧ f9 11 = .int .i64 ((k : Nat) : Int) ∧ Row wl rp 44 25 (Sha.rrow (.int .i64 kd) (.int .i64 ((ou : Nat) : Int)) (.int .i64 128) (.int .i64 80) (.slice (some ⟨g, 0, none⟩) 80 cap) bg (fun i => U64 (BitVec.ofNat 64 (Sha.trn false i)))) ∧ Row wl g 39 80 (fun j => U64 (Sha.K false j)) ∧ Row wl b_h 40 8 (fun j => U64 (hh j)) ∧ Row wl b_6 40 8 (fun j => U64 (0#64)) ∧ Own wl w0.heap.size 39 1 vb i (fun j => U64 (Sha.w false (gb s) j)) ∧ vb.ownBlock ≠ some rp ∧ vb.ownBlock ≠ some g ∧ vb.ownBlock ≠ some b_h ∧ vb.ownBlock ≠ some b_6 ∧ Below w0.heap.size w0 wl) (8 - 0) ?_ ?_
    · exact ⟨0, va, rfl, _, rfl, iv, s1_0, s1_1, s1_2, s1_4, s1_6, (Eq.trans (b := va) s1_7 (by first | with_reducible rfl | (with_reducible congr 1 <;> omega) | (with_reducible congr 2 <;> omega) | (with_reducible congr 3 <;> omega) | rfl)), s1_8, s1_9, (Eq.trans (b := U64 (0#64)) rfl (by rfl)), (etv (b := .int .i64 0) rfl), r_rp, r_g, r_b_h, r_b_6, o_va, no_va_rp, no_va_g, no_va_b_h, no_va_b_6, hk⟩
    ·skip
     clear r_rp r_g r_b_h r_b_6 o_va hk
     rintro _ _ w10 ⟨k, vb, rfl, f9, rfl, i2_0, s2_0, s2_1, s2_2, s2_4, s2_6, s2_7, s2_8, s2_9, s2_10, s2_11, r_rp, r_g, r_b_h, r_b_6, o_vb, no_vb_rp, no_vb_g, no_vb_b_h, no_vb_b_6, hk⟩
     refine wp_seq ?_
     refine sr ?_
     refine w_mv (ev (.int .i64 ((k : Nat) : Int)) s2_11 rfl) ?_
     refine w_mv (ev (.int .i64 8) s2_8 rfl) ?_
     refine w_val (y_bin (ev (.int .i64 ((k : Nat) : Int)) rfl rfl) (ev (.int .i64 8) rfl rfl) b_lss) ?_
     refine nt ?_
     refine c_if (p := ((k : Nat) : Int) < 8) (ev (.bool (decide (((k : Nat) : Int) < 8))) rfl rfl) (fun hc11 => ?_) (fun hc11 => ?_)
     ·skip
      refine wp_skip ?_
      refine then_n ?_
      refine wp_seq ?_
      refine wp_block ?_
      refine wp_region_lit ?_
      refine w_mv (ev (U64 (Sha.bw (fun j => gb s (8 * i + j)) k)) s2_10 rfl) ?_
      refine w_val (y_bin (ev (U64 (Sha.bw (fun j => gb s (8 * i + j)) k)) rfl rfl) (evc (U64 (256#64))) mul64) ?_
      refine w_mv (ev (.string (str s)) s2_2 rfl) ?_
      refine w_mv (ev (.int .i64 8) s2_8 rfl) ?_
      refine w_mv (ev (.int .i64 ((i : Nat) : Int)) s2_9 rfl) ?_
      refine w_val (y_bin (ev (.int .i64 8) rfl rfl) (ev (.int .i64 ((i : Nat) : Int)) rfl rfl) (b_mul (by omega))) ?_
      refine w_mv (ev (.int .i64 ((k : Nat) : Int)) s2_11 rfl) ?_
      refine w_val (y_bin (ev (.int .i64 (8 * ((i : Nat) : Int))) rfl rfl) (ev (.int .i64 ((k : Nat) : Int)) rfl rfl) (b_add (by omega))) ?_
      refine w_val (v := U8 (gb s ((8 * i) + k))) (y_idx (ev (.string (str s)) rfl rfl) (ev (.int .i64 ((8 * ((i : Nat) : Int)) + ((k : Nat) : Int))) rfl rfl) Tryd.underlying9 (by omega) (by omega)) ?_
      refine w_val (y_u8_u64 (ev (U8 (gb s ((8 * i) + k))) rfl rfl) ShaRT.so5 Tryd.underlying39) ?_
      refine w_val (y_bin (ev (U64 ((Sha.bw (fun j => gb s (8 * i + j)) k) * (256#64))) rfl rfl) (ev (U64 ((gb s ((8 * i) + k)).setWidth 64)) rfl rfl) add64) ?_
      refine w_as (ev (U64 (((Sha.bw (fun j => gb s (8 * i + j)) k) * (256#64)) + ((gb s ((8 * i) + k)).setWidth 64))) rfl rfl) ?_
      refine wpList_nil ?_
      refine inb_n ?_
      refine then_n ?_
      refine wp_region_lit ?_
      refine w_mv (ev (.int .i64 ((k : Nat) : Int)) s2_11 rfl) ?_
      refine w_val (y_bin (ev (.int .i64 ((k : Nat) : Int)) rfl rfl) (evc (.int .i64 1)) (b_add (by omega))) ?_
      refine w_as (ev (.int .i64 (((k : Nat) : Int) + 1)) rfl rfl) ?_
      refine wpList_nil ?_
      exact then_n ⟨_, (by omega), k + 1, vb, rfl, _, rfl, iv, s2_0, s2_1, s2_2, s2_4, s2_6, s2_7, s2_8, s2_9, (Eq.trans (b := U64 (((Sha.bw (fun j => gb s (8 * i + j)) k) * (256#64)) + ((gb s ((8 * i) + k)).setWidth 64))) rfl (by rfl)), (etv (b := .int .i64 (((k : Nat) : Int) + 1)) rfl), r_rp, r_g, r_b_h, r_b_6, o_vb, no_vb_rp, no_vb_g, no_vb_b_h, no_vb_b_6, hk⟩
     ·skip
      refine wp_exit ?_
      refine then_x ?_
      refine then_x ?_
      refine inb_x ?_
      refine then_n ?_
      refine wp_region_lit ?_
      refine w_mv (ev vb s2_7 rfl) ?_
      refine w_mv (ev (U64 (Sha.bw (fun j => gb s (8 * i + j)) k)) s2_10 rfl) ?_
      refine w_bs1 (m := 1) (e := 39) (F := fun j => U64 (Sha.bw (fun j => gb s (8 * i + j)) k)) (ev (U64 (Sha.bw (fun j => gb s (8 * i + j)) k)) rfl rfl) (fun w => by kernel_rfl) ?_
      intro b_81 w12 hbe_b_81 r_b_81 hb13
      have ne_rp_b_81 : rp ≠ b_81 := by have := r_rp.lt; omega
      have ne_g_b_81 : g ≠ b_81 := by have := r_g.lt; omega
      have ne_b_h_b_81 : b_h ≠ b_81 := by have := r_b_h.lt; omega
      have ne_b_6_b_81 : b_6 ≠ b_81 := by have := r_b_6.lt; omega
      have no_vb_b_81 : vb.ownBlock ≠ some b_81 := o_vb.apart (by omega)
      have ge_b_81 : w0.heap.size ≤ b_81 := by have := hk.size; omega
      clear hbe_b_81
      replace o_vb := o_vb.step hb13
      replace r_rp := r_rp.step hb13
      replace r_g := r_g.step hb13
      replace r_b_h := r_b_h.step hb13
      replace r_b_6 := r_b_6.step hb13
      replace hk := thenB hk hb13
      refine w_app (k := i) (m := 1) (size := 1) (bytes := 8) (ev vb rfl rfl) (ev (.slice (some ⟨b_81, 0, none⟩) 1 1) rfl rfl) Tryd.underlying38 (by kernel_rfl) (by decide) o_vb hk.size r_b_81 (by omega) oca (by simp only [maxLen]; omega) (by omega) ?_
      intro v14 w15 o_v14 hg16 hv17
      have no_v14_rp := no_new no_vb_rp r_rp.lt hv17
      replace r_rp := r_rp.stepO hg16 no_vb_rp
      have no_v14_g := no_new no_vb_g r_g.lt hv17
      replace r_g := r_g.stepO hg16 no_vb_g
      have no_v14_b_h := no_new no_vb_b_h r_b_h.lt hv17
      replace r_b_h := r_b_h.stepO hg16 no_vb_b_h
      have no_v14_b_6 := no_new no_vb_b_6 r_b_6.lt hv17
      replace r_b_6 := r_b_6.stepO hg16 no_vb_b_6
      have no_v14_b_81 := no_new no_vb_b_81 r_b_81.lt hv17
      replace r_b_81 := r_b_81.stepO hg16 no_vb_b_81
      replace hk := thenO hk hg16 (fun g e => (o_vb.block_lt g e).2)
      clear o_vb
      refine w_as (ev v14 rfl rfl) ?_
      refine wpList_nil ?_
      refine inb_n ?_
      refine then_n ?_
      refine wp_region_lit ?_
      refine w_mv (ev (.int .i64 ((i : Nat) : Int)) s2_9 rfl) ?_
      refine w_val (y_bin (ev (.int .i64 ((i : Nat) : Int)) rfl rfl) (evc (.int .i64 1)) (b_add (by omega))) ?_
      refine w_as (ev (.int .i64 (((i : Nat) : Int) + 1)) rfl rfl) ?_
      refine wpList_nil ?_
      exact then_n ⟨_, (by omega), i + 1, v14, rfl, _, rfl, iv, s2_0, s2_1, s2_2, s2_4, s2_6, rfl, s2_8, (etv (b := .int .i64 (((i : Nat) : Int) + 1)) rfl), (r_rp.cg), r_g, r_b_h, r_b_6, (own_n (o_v14.congr (fun j hj => by (try dsimp only); by_cases e : j < i * 1; (rw [if_pos e]); (rw [if_neg e, show j = i from by omega]; first | exact congrArg U64 (Sha.w_lo_k false (gb s) i k (by omega) (by show k = 8; omega)).symm | exact congrArg U64 (Sha.w_hi false (gb s) i (by omega)).symm))) (by omega)), no_v14_rp, no_v14_g, no_v14_b_h, no_v14_b_6, hk⟩
   ·skip
    obtain ⟨g18, cap18, hv18, ge_g18, hc_g18, hob_g18, r_g18⟩ := o_va.opened (by omega)
    have ne_rp_g18 : rp ≠ g18 := fun e => no_va_rp (by rw [hob_g18, e])
    have ne_g_g18 : g ≠ g18 := fun e => no_va_g (by rw [hob_g18, e])
    have ne_b_h_g18 : b_h ≠ g18 := fun e => no_va_b_h (by rw [hob_g18, e])
    have ne_b_6_g18 : b_6 ≠ g18 := fun e => no_va_b_6 (by rw [hob_g18, e])
    refine region_q ShaRT.mixed (by kernel_rfl) ?_
    refine q_mv (ev (pt rp 0) s1_0 rfl) ?_
    refine q_mv (ev (pt rp 0) s1_0 rfl) ?_
    refine q_mv (ev va s1_7 rfl) ?_
    refine q_mv (ev (.int .i64 ((i : Nat) : Int)) s1_9 rfl) ?_
    refine q_val (fun w' hw' => y_bin (ev (.int .i64 ((i : Nat) : Int)) rfl rfl) (evc (.int .i64 2)) (b_sub (by omega))) ?_
    refine q_val (fun w' hw' => y_is1z (i := (i - 2)) (ev (.slice (some ⟨g18, 0, none⟩) i cap18) (Eq.trans (b := va) rfl hv18) rfl) (ev (.int .i64 (((i : Nat) : Int) - 2)) rfl rfl) Tryd.underlying38 ShaRT.sz39 (by omega) (by omega)) ?_
    refine q_val (v := U64 (Sha.w false (gb s) (i - 2))) (fun w' hw' => y_ld (ev (pt g18 (i - 2)) rfl rfl) ShaRT.sc39 (cls_cell (r_g18.val (by omega) rfl) r_g18.lt w' hw')) ?_
    refine q_call (v := U64 (Sha.th false (Sha.w false (gb s) (i - 2)) 3 true)) (Tryd.func52) (by kernel_rfl) rfl (m4 (ev (pt rp 0) rfl rfl) (ev (U64 (Sha.w false (gb s) (i - 2))) rfl rfl) (evc (.int .i64 3)) (evc (.bool true))) (fun w' hw' => three_ft rp ou g cap bg kd hkd (Sha.w false (gb s) (i - 2)) 3 (by omega) w' (r_rp.step hw')) ?_
    refine q_mv (ev va s1_7 rfl) ?_
    refine q_mv (ev (.int .i64 ((i : Nat) : Int)) s1_9 rfl) ?_
    refine q_val (fun w' hw' => y_bin (ev (.int .i64 ((i : Nat) : Int)) rfl rfl) (evc (.int .i64 7)) (b_sub (by omega))) ?_
    refine q_val (fun w' hw' => y_is1z (i := (i - 7)) (ev (.slice (some ⟨g18, 0, none⟩) i cap18) (Eq.trans (b := va) rfl hv18) rfl) (ev (.int .i64 (((i : Nat) : Int) - 7)) rfl rfl) Tryd.underlying38 ShaRT.sz39 (by omega) (by omega)) ?_
    refine q_val (v := U64 (Sha.w false (gb s) (i - 7))) (fun w' hw' => y_ld (ev (pt g18 (i - 7)) rfl rfl) ShaRT.sc39 (cls_cell (r_g18.val (by omega) rfl) r_g18.lt w' hw')) ?_
    refine q_val (fun w' hw' => y_bin (ev (U64 (Sha.th false (Sha.w false (gb s) (i - 2)) 3 true)) rfl rfl) (ev (U64 (Sha.w false (gb s) (i - 7))) rfl rfl) add64) ?_
    refine q_mv (ev (pt rp 0) s1_0 rfl) ?_
    refine q_mv (ev va s1_7 rfl) ?_
    refine q_mv (ev (.int .i64 ((i : Nat) : Int)) s1_9 rfl) ?_
    refine q_val (fun w' hw' => y_bin (ev (.int .i64 ((i : Nat) : Int)) rfl rfl) (evc (.int .i64 15)) (b_sub (by omega))) ?_
    refine q_val (fun w' hw' => y_is1z (i := (i - 15)) (ev (.slice (some ⟨g18, 0, none⟩) i cap18) (Eq.trans (b := va) rfl hv18) rfl) (ev (.int .i64 (((i : Nat) : Int) - 15)) rfl rfl) Tryd.underlying38 ShaRT.sz39 (by omega) (by omega)) ?_
    refine q_val (v := U64 (Sha.w false (gb s) (i - 15))) (fun w' hw' => y_ld (ev (pt g18 (i - 15)) rfl rfl) ShaRT.sc39 (cls_cell (r_g18.val (by omega) rfl) r_g18.lt w' hw')) ?_
    refine q_call (v := U64 (Sha.th false (Sha.w false (gb s) (i - 15)) 0 true)) (Tryd.func52) (by kernel_rfl) rfl (m4 (ev (pt rp 0) rfl rfl) (ev (U64 (Sha.w false (gb s) (i - 15))) rfl rfl) (evc (.int .i64 0)) (evc (.bool true))) (fun w' hw' => three_ft rp ou g cap bg kd hkd (Sha.w false (gb s) (i - 15)) 0 (by omega) w' (r_rp.step hw')) ?_
    refine q_val (fun w' hw' => y_bin (ev (U64 ((Sha.th false (Sha.w false (gb s) (i - 2)) 3 true) + (Sha.w false (gb s) (i - 7)))) rfl rfl) (ev (U64 (Sha.th false (Sha.w false (gb s) (i - 15)) 0 true)) rfl rfl) add64) ?_
    refine q_mv (ev va s1_7 rfl) ?_
    refine q_mv (ev (.int .i64 ((i : Nat) : Int)) s1_9 rfl) ?_
    refine q_val (fun w' hw' => y_bin (ev (.int .i64 ((i : Nat) : Int)) rfl rfl) (evc (.int .i64 16)) (b_sub (by omega))) ?_
    refine q_val (fun w' hw' => y_is1z (i := (i - 16)) (ev (.slice (some ⟨g18, 0, none⟩) i cap18) (Eq.trans (b := va) rfl hv18) rfl) (ev (.int .i64 (((i : Nat) : Int) - 16)) rfl rfl) Tryd.underlying38 ShaRT.sz39 (by omega) (by omega)) ?_
    refine q_val (v := U64 (Sha.w false (gb s) (i - 16))) (fun w' hw' => y_ld (ev (pt g18 (i - 16)) rfl rfl) ShaRT.sc39 (cls_cell (r_g18.val (by omega) rfl) r_g18.lt w' hw')) ?_
    refine q_val (fun w' hw' => y_bin (ev (U64 (((Sha.th false (Sha.w false (gb s) (i - 2)) 3 true) + (Sha.w false (gb s) (i - 7))) + (Sha.th false (Sha.w false (gb s) (i - 15)) 0 true))) rfl rfl) (ev (U64 (Sha.w false (gb s) (i - 16))) rfl rfl) add64) ?_
    refine q_call (v := U64 (Sha.wd false ((((Sha.th false (Sha.w false (gb s) (i - 2)) 3 true) + (Sha.w false (gb s) (i - 7))) + (Sha.th false (Sha.w false (gb s) (i - 15)) 0 true)) + (Sha.w false (gb s) (i - 16))))) (Tryd.func51) (by kernel_rfl) rfl (m2 (ev (pt rp 0) rfl rfl) (ev (U64 ((((Sha.th false (Sha.w false (gb s) (i - 2)) 3 true) + (Sha.w false (gb s) (i - 7))) + (Sha.th false (Sha.w false (gb s) (i - 15)) 0 true)) + (Sha.w false (gb s) (i - 16)))) rfl rfl)) (fun w' hw' => word_f rp ou g cap bg kd hkd ((((Sha.th false (Sha.w false (gb s) (i - 2)) 3 true) + (Sha.w false (gb s) (i - 7))) + (Sha.th false (Sha.w false (gb s) (i - 15)) 0 true)) + (Sha.w false (gb s) (i - 16))) w' (r_rp.step hw')) ?_
    refine q_as (ev (U64 (Sha.wd false ((((Sha.th false (Sha.w false (gb s) (i - 2)) 3 true) + (Sha.w false (gb s) (i - 7))) + (Sha.th false (Sha.w false (gb s) (i - 15)) 0 true)) + (Sha.w false (gb s) (i - 16))))) rfl rfl) ?_
    refine q_nil ?_
    intro w19 hb20
    replace o_va := o_va.step hb20
    replace r_rp := r_rp.step hb20
    replace r_g := r_g.step hb20
    replace r_b_h := r_b_h.step hb20
    replace r_b_6 := r_b_6.step hb20
    replace r_g18 := r_g18.step hb20
    replace hk := thenB hk hb20
    refine then_n ?_
    refine wp_region_lit ?_
    refine w_mv (ev va s1_7 rfl) ?_
    refine w_mv (ev (U64 (Sha.wd false ((((Sha.th false (Sha.w false (gb s) (i - 2)) 3 true) + (Sha.w false (gb s) (i - 7))) + (Sha.th false (Sha.w false (gb s) (i - 15)) 0 true)) + (Sha.w false (gb s) (i - 16))))) rfl rfl) ?_
    refine w_bs1 (m := 1) (e := 39) (F := fun j => U64 (Sha.wd false ((((Sha.th false (Sha.w false (gb s) (i - 2)) 3 true) + (Sha.w false (gb s) (i - 7))) + (Sha.th false (Sha.w false (gb s) (i - 15)) 0 true)) + (Sha.w false (gb s) (i - 16))))) (ev (U64 (Sha.wd false ((((Sha.th false (Sha.w false (gb s) (i - 2)) 3 true) + (Sha.w false (gb s) (i - 7))) + (Sha.th false (Sha.w false (gb s) (i - 15)) 0 true)) + (Sha.w false (gb s) (i - 16))))) rfl rfl) (fun w => by kernel_rfl) ?_
    intro b_81 w21 hbe_b_81 r_b_81 hb22
    have ne_rp_b_81 : rp ≠ b_81 := by have := r_rp.lt; omega
    have ne_g_b_81 : g ≠ b_81 := by have := r_g.lt; omega
    have ne_b_h_b_81 : b_h ≠ b_81 := by have := r_b_h.lt; omega
    have ne_b_6_b_81 : b_6 ≠ b_81 := by have := r_b_6.lt; omega
    have ne_g18_b_81 : g18 ≠ b_81 := by have := r_g18.lt; omega
    have no_va_b_81 : va.ownBlock ≠ some b_81 := o_va.apart (by omega)
    have ge_b_81 : w0.heap.size ≤ b_81 := by have := hk.size; omega
    clear hbe_b_81
    replace o_va := o_va.step hb22
    replace r_rp := r_rp.step hb22
    replace r_g := r_g.step hb22
    replace r_b_h := r_b_h.step hb22
    replace r_b_6 := r_b_6.step hb22
    replace r_g18 := r_g18.step hb22
    replace hk := thenB hk hb22
    clear r_g18
    refine w_app (k := i) (m := 1) (size := 1) (bytes := 8) (ev va rfl rfl) (ev (.slice (some ⟨b_81, 0, none⟩) 1 1) rfl rfl) Tryd.underlying38 (by kernel_rfl) (by decide) o_va hk.size r_b_81 (by omega) oca (by simp only [maxLen]; omega) (by omega) ?_
    intro v23 w24 o_v23 hg25 hv26
    have no_v23_rp := no_new no_va_rp r_rp.lt hv26
    replace r_rp := r_rp.stepO hg25 no_va_rp
    have no_v23_g := no_new no_va_g r_g.lt hv26
    replace r_g := r_g.stepO hg25 no_va_g
    have no_v23_b_h := no_new no_va_b_h r_b_h.lt hv26
    replace r_b_h := r_b_h.stepO hg25 no_va_b_h
    have no_v23_b_6 := no_new no_va_b_6 r_b_6.lt hv26
    replace r_b_6 := r_b_6.stepO hg25 no_va_b_6
    have no_v23_b_81 := no_new no_va_b_81 r_b_81.lt hv26
    replace r_b_81 := r_b_81.stepO hg25 no_va_b_81
    replace hk := thenO hk hg25 (fun g e => (o_va.block_lt g e).2)
    clear o_va
    refine w_as (ev v23 rfl rfl) ?_
    refine wpList_nil ?_
    refine inb_n ?_
    refine then_n ?_
    refine wp_region_lit ?_
    refine w_mv (ev (.int .i64 ((i : Nat) : Int)) s1_9 rfl) ?_
    refine w_val (y_bin (ev (.int .i64 ((i : Nat) : Int)) rfl rfl) (evc (.int .i64 1)) (b_add (by omega))) ?_
    refine w_as (ev (.int .i64 (((i : Nat) : Int) + 1)) rfl rfl) ?_
    refine wpList_nil ?_
    exact then_n ⟨_, (by omega), i + 1, v23, rfl, _, rfl, iv, s1_0, s1_1, s1_2, s1_4, s1_6, rfl, s1_8, (etv (b := .int .i64 (((i : Nat) : Int) + 1)) rfl), (r_rp.cg), r_g, r_b_h, r_b_6, (own_n (o_v23.congr (fun j hj => by (try dsimp only); by_cases e : j < i * 1; (rw [if_pos e]); (rw [if_neg e, show j = i from by omega]; first | exact congrArg U64 (Sha.w_lo_k false (gb s) i k (by omega) (by show k = 8; omega)).symm | exact congrArg U64 (Sha.w_hi false (gb s) i (by omega)).symm))) (by omega)), no_v23_rp, no_v23_g, no_v23_b_h, no_v23_b_6, hk⟩
  ·skip
   refine wp_exit ?_
   refine then_x ?_
   refine then_x ?_
   refine inb_x ?_
   refine then_n ?_
   refine sr ?_
   refine w_val (v := .agg (arr 8 (fun j => U64 (hh j)))) (y_lda (ev (pt b_h 0) s1_4 rfl) ShaRT.ag40 ShaRT.sz40 (fun j hj => by rw [Nat.zero_add]; exact (r_b_h.cell (by omega)))) ?_
   refine w_alloc (m := 8) (F := fun j => U64 (0#64)) (by kernel_rfl) ?_
   intro b_v w27 hbe_b_v r_b_v hb28
   have ne_rp_b_v : rp ≠ b_v := by have := r_rp.lt; omega
   have ne_g_b_v : g ≠ b_v := by have := r_g.lt; omega
   have ne_b_h_b_v : b_h ≠ b_v := by have := r_b_h.lt; omega
   have ne_b_6_b_v : b_6 ≠ b_v := by have := r_b_6.lt; omega
   have no_va_b_v : va.ownBlock ≠ some b_v := o_va.apart (by omega)
   have ge_b_v : w0.heap.size ≤ b_v := by have := hk.size; omega
   clear hbe_b_v
   replace o_va := o_va.step hb28
   replace r_rp := r_rp.step hb28
   replace r_g := r_g.step hb28
   replace r_b_h := r_b_h.step hb28
   replace r_b_6 := r_b_6.step hb28
   replace hk := thenB hk hb28
   refine w_sta (k := 8) (G := fun j => U64 (hh j)) (ev (pt b_v 0) rfl rfl) (ev (.agg (arr 8 (fun j => U64 (hh j)))) rfl rfl) oc ShaRT.sz40 r_b_v (by omega) ?_
   clear r_b_v; intro w29 r_b_v hg30 _
   replace r_b_v := r_b_v.congr (g := fun j => U64 (hh j)) (fun j hj => by rw [if_pos ⟨Nat.zero_le _, by omega⟩]; first | rfl | (simp only [Nat.sub_zero]))
   replace o_va := o_va.stepG hg30 no_va_b_v
   replace r_rp := r_rp.stepG hg30 (by omega)
   replace r_g := r_g.stepG hg30 (by omega)
   replace r_b_h := r_b_h.stepG hg30 (by omega)
   replace r_b_6 := r_b_6.stepG hg30 (by omega)
   replace hk := thenG hk hg30 (by omega)
   refine nt ?_
   refine wp_seq ?_
   refine sr ?_
   refine w_as (evc (.int .i64 0)) ?_
   refine nt ?_
   refine wp_block ?_
   refine c_loop (fun dN aN wl => ∃ (t : Nat) (vc : Value), dN = (80 - t) ∧ ∃ f31, aN = fr 183 f31 ∧ (t ≤ 80) ∧ f31 0 = pt rp 0 ∧ f31 1 = .agg (arr 8 (fun j => U64 (hh j))) ∧ f31 2 = .string (str s) ∧ f31 4 = pt b_h 0 ∧ f31 6 = pt b_6 0 ∧ f31 7 = vc ∧ f31 8 = .int .i64 8 ∧ f31 9 = .int .i64 ((i : Nat) : Int) ∧ f31 12 = pt b_v 0 ∧ f31 13 = .int .i64 ((t : Nat) : Int) ∧ Row wl rp 44 25 (Sha.rrow (.int .i64 kd) (.int .i64 ((ou : Nat) : Int)) (.int .i64 128) (.int .i64 80) (.slice (some ⟨g, 0, none⟩) 80 cap) bg (fun i => U64 (BitVec.ofNat 64 (Sha.trn false i)))) ∧ Row wl g 39 80 (fun j => U64 (Sha.K false j)) ∧ Row wl b_h 40 8 (fun j => U64 (hh j)) ∧ Row wl b_6 40 8 (fun j => U64 (0#64)) ∧ Row wl b_v 40 8 (fun j => U64 (Sha.vs false (gb s) hh t j)) ∧ Own wl w0.heap.size 39 1 vc 80 (fun j => U64 (Sha.w false (gb s) j)) ∧ vc.ownBlock ≠ some rp ∧ vc.ownBlock ≠ some g ∧ vc.ownBlock ≠ some b_h ∧ vc.ownBlock ≠ some b_6 ∧ vc.ownBlock ≠ some b_v ∧ Below w0.heap.size w0 wl) (80 - 0) ?_ ?_
   · exact ⟨0, va, rfl, _, rfl, iv, s1_0, s1_1, s1_2, s1_4, s1_6, (Eq.trans (b := va) s1_7 (by first | with_reducible rfl | (with_reducible congr 1 <;> omega) | (with_reducible congr 2 <;> omega) | (with_reducible congr 3 <;> omega) | rfl)), s1_8, s1_9, rfl, (etv (b := .int .i64 0) rfl), r_rp, r_g, r_b_h, r_b_6, (r_b_v.congr (fun j hj => by rfl)), (own_n (o_va.cg) (by omega)), no_va_rp, no_va_g, no_va_b_h, no_va_b_6, no_va_b_v, hk⟩
   ·skip
    clear r_rp r_g r_b_h r_b_6 r_b_v o_va hk
    rintro _ _ w32 ⟨t, vc, rfl, f31, rfl, i3_0, s3_0, s3_1, s3_2, s3_4, s3_6, s3_7, s3_8, s3_9, s3_12, s3_13, r_rp, r_g, r_b_h, r_b_6, r_b_v, o_vc, no_vc_rp, no_vc_g, no_vc_b_h, no_vc_b_6, no_vc_b_v, hk⟩
    refine wp_seq ?_
    refine sr ?_
    refine w_mv (ev (.int .i64 ((t : Nat) : Int)) s3_13 rfl) ?_
    refine w_mv (ev (pt rp 0) s3_0 rfl) ?_
    refine w_val (y_nc (ev (pt rp 0) rfl rfl)) ?_
    refine w_val (v := pt rp 3) (y_off (y_fa (ev (pt rp 0) rfl rfl) (ShaRT.fa44_3 _ _)) (by first | rfl | omega)) ?_
    refine w_val (v := .int .i64 80) (y_ld (ev (pt rp 3) rfl rfl) ShaRT.sc3 (r_rp.val (by omega) ((if_neg (by omega)).trans ((if_neg (by omega)).trans ((if_neg (by omega)).trans (etv (if_pos (by omega)))))))) ?_
    refine w_val (y_bin (ev (.int .i64 ((t : Nat) : Int)) rfl rfl) (ev (.int .i64 80) rfl rfl) b_lss) ?_
    refine nt ?_
    refine c_if (p := ((t : Nat) : Int) < 80) (ev (.bool (decide (((t : Nat) : Int) < 80))) rfl rfl) (fun hc33 => ?_) (fun hc33 => ?_)
    ·skip
     refine wp_skip ?_
     refine then_n ?_
     refine wp_seq ?_
     refine wp_block ?_
     refine sr ?_
     refine w_val (y_ia1z (i := 4) (ev (pt b_v 0) s3_12 rfl) (evc (.int .i64 4)) Tryd.underlying40 ShaRT.sz39 (by omega) (by omega)) ?_
     refine w_val (v := U64 (Sha.vs false (gb s) hh t 4)) (y_ld (ev (pt b_v 4) rfl rfl) ShaRT.sc39 (r_b_v.val (by omega) rfl)) ?_
     refine w_as (ev (U64 (Sha.vs false (gb s) hh t 4)) rfl rfl) ?_
     refine nt ?_
     refine sr ?_
     refine w_val (y_ia1z (i := 0) (ev (pt b_v 0) s3_12 rfl) (evc (.int .i64 0)) Tryd.underlying40 ShaRT.sz39 (by omega) (by omega)) ?_
     refine w_val (v := U64 (Sha.vs false (gb s) hh t 0)) (y_ld (ev (pt b_v 0) rfl rfl) ShaRT.sc39 (r_b_v.val (by omega) rfl)) ?_
     refine w_as (ev (U64 (Sha.vs false (gb s) hh t 0)) rfl rfl) ?_
     refine nt ?_
     refine wp_seq ?_
     obtain ⟨g34, cap34, hv34, ge_g34, hc_g34, hob_g34, r_g34⟩ := o_vc.opened (by omega)
     have ne_rp_g34 : rp ≠ g34 := fun e => no_vc_rp (by rw [hob_g34, e])
     have ne_g_g34 : g ≠ g34 := fun e => no_vc_g (by rw [hob_g34, e])
     have ne_b_h_g34 : b_h ≠ g34 := fun e => no_vc_b_h (by rw [hob_g34, e])
     have ne_b_6_g34 : b_6 ≠ g34 := fun e => no_vc_b_6 (by rw [hob_g34, e])
     have ne_b_v_g34 : b_v ≠ g34 := fun e => no_vc_b_v (by rw [hob_g34, e])
     refine region_q ShaRT.mixed (by kernel_rfl) ?_
     refine q_val (fun w' hw' => y_ia1z (i := 7) (ev (pt b_v 0) s3_12 rfl) (evc (.int .i64 7)) Tryd.underlying40 ShaRT.sz39 (by omega) (by omega)) ?_
     refine q_val (v := U64 (Sha.vs false (gb s) hh t 7)) (fun w' hw' => y_ld (ev (pt b_v 7) rfl rfl) ShaRT.sc39 (cls_cell (r_b_v.val (by omega) rfl) r_b_v.lt w' hw')) ?_
     refine q_mv (ev (pt rp 0) s3_0 rfl) ?_
     refine q_mv (ev (U64 (Sha.vs false (gb s) hh t 4)) rfl rfl) ?_
     refine q_call (v := U64 (Sha.th false (Sha.vs false (gb s) hh t 4) 9 false)) (Tryd.func52) (by kernel_rfl) rfl (m4 (ev (pt rp 0) rfl rfl) (ev (U64 (Sha.vs false (gb s) hh t 4)) rfl rfl) (evc (.int .i64 9)) (evc (.bool false))) (fun w' hw' => three_ff rp ou g cap bg kd hkd (Sha.vs false (gb s) hh t 4) 9 (by omega) w' (r_rp.step hw')) ?_
     refine q_val (fun w' hw' => y_bin (ev (U64 (Sha.vs false (gb s) hh t 7)) rfl rfl) (ev (U64 (Sha.th false (Sha.vs false (gb s) hh t 4) 9 false)) rfl rfl) add64) ?_
     refine q_mv (ev (U64 (Sha.vs false (gb s) hh t 4)) rfl rfl) ?_
     refine q_val (fun w' hw' => y_ia1z (i := 5) (ev (pt b_v 0) s3_12 rfl) (evc (.int .i64 5)) Tryd.underlying40 ShaRT.sz39 (by omega) (by omega)) ?_
     refine q_val (v := U64 (Sha.vs false (gb s) hh t 5)) (fun w' hw' => y_ld (ev (pt b_v 5) rfl rfl) ShaRT.sc39 (cls_cell (r_b_v.val (by omega) rfl) r_b_v.lt w' hw')) ?_
     refine q_val (fun w' hw' => y_bin (ev (U64 (Sha.vs false (gb s) hh t 4)) rfl rfl) (ev (U64 (Sha.vs false (gb s) hh t 5)) rfl rfl) and64) ?_
     refine q_mv (ev (U64 (Sha.vs false (gb s) hh t 4)) rfl rfl) ?_
     refine q_val (v := U64 (~~~(Sha.vs false (gb s) hh t 4))) (fun w' hw' => y_not64 (ev (U64 (Sha.vs false (gb s) hh t 4)) rfl rfl)) ?_
     refine q_val (fun w' hw' => y_ia1z (i := 6) (ev (pt b_v 0) s3_12 rfl) (evc (.int .i64 6)) Tryd.underlying40 ShaRT.sz39 (by omega) (by omega)) ?_
     refine q_val (v := U64 (Sha.vs false (gb s) hh t 6)) (fun w' hw' => y_ld (ev (pt b_v 6) rfl rfl) ShaRT.sc39 (cls_cell (r_b_v.val (by omega) rfl) r_b_v.lt w' hw')) ?_
     refine q_val (fun w' hw' => y_bin (ev (U64 (~~~(Sha.vs false (gb s) hh t 4))) rfl rfl) (ev (U64 (Sha.vs false (gb s) hh t 6)) rfl rfl) and64) ?_
     refine q_val (fun w' hw' => y_bin (ev (U64 ((Sha.vs false (gb s) hh t 4) &&& (Sha.vs false (gb s) hh t 5))) rfl rfl) (ev (U64 ((~~~(Sha.vs false (gb s) hh t 4)) &&& (Sha.vs false (gb s) hh t 6))) rfl rfl) xor64) ?_
     refine q_val (fun w' hw' => y_bin (ev (U64 ((Sha.vs false (gb s) hh t 7) + (Sha.th false (Sha.vs false (gb s) hh t 4) 9 false))) rfl rfl) (ev (U64 (((Sha.vs false (gb s) hh t 4) &&& (Sha.vs false (gb s) hh t 5)) ^^^ ((~~~(Sha.vs false (gb s) hh t 4)) &&& (Sha.vs false (gb s) hh t 6)))) rfl rfl) add64) ?_
     refine q_mv (ev (pt rp 0) s3_0 rfl) ?_
     refine q_val (fun w' hw' => y_nc (ev (pt rp 0) rfl rfl)) ?_
     refine q_val (v := pt rp 4) (fun w' hw' => y_off (y_fa (ev (pt rp 0) rfl rfl) (ShaRT.fa44_4 _ _)) (by first | rfl | omega)) ?_
     refine q_val (v := .slice (some ⟨g, 0, none⟩) 80 cap) (fun w' hw' => y_ld (ev (pt rp 4) rfl rfl) ShaRT.sc38 (cls_cell (r_rp.val (by omega) ((if_neg (by omega)).trans ((if_neg (by omega)).trans ((if_neg (by omega)).trans ((if_neg (by omega)).trans (etv (if_pos (by omega)))))))) r_rp.lt w' hw')) ?_
     refine q_mv (ev (.int .i64 ((t : Nat) : Int)) s3_13 rfl) ?_
     refine q_val (fun w' hw' => y_is1z (i := t) (ev (.slice (some ⟨g, 0, none⟩) 80 cap) rfl rfl) (ev (.int .i64 ((t : Nat) : Int)) rfl rfl) Tryd.underlying38 ShaRT.sz39 (by omega) (by omega)) ?_
     refine q_val (v := U64 (Sha.K false t)) (fun w' hw' => y_ld (ev (pt g t) rfl rfl) ShaRT.sc39 (cls_cell (r_g.val (by omega) rfl) r_g.lt w' hw')) ?_
     refine q_val (fun w' hw' => y_bin (ev (U64 (((Sha.vs false (gb s) hh t 7) + (Sha.th false (Sha.vs false (gb s) hh t 4) 9 false)) + (((Sha.vs false (gb s) hh t 4) &&& (Sha.vs false (gb s) hh t 5)) ^^^ ((~~~(Sha.vs false (gb s) hh t 4)) &&& (Sha.vs false (gb s) hh t 6))))) rfl rfl) (ev (U64 (Sha.K false t)) rfl rfl) add64) ?_
     refine q_mv (ev vc s3_7 rfl) ?_
     refine q_mv (ev (.int .i64 ((t : Nat) : Int)) s3_13 rfl) ?_
     refine q_val (fun w' hw' => y_is1z (i := t) (ev (.slice (some ⟨g34, 0, none⟩) 80 cap34) (Eq.trans (b := vc) rfl hv34) rfl) (ev (.int .i64 ((t : Nat) : Int)) rfl rfl) Tryd.underlying38 ShaRT.sz39 (by omega) (by omega)) ?_
     refine q_val (v := U64 (Sha.w false (gb s) t)) (fun w' hw' => y_ld (ev (pt g34 t) rfl rfl) ShaRT.sc39 (cls_cell (r_g34.val (by omega) rfl) r_g34.lt w' hw')) ?_
     refine q_val (fun w' hw' => y_bin (ev (U64 ((((Sha.vs false (gb s) hh t 7) + (Sha.th false (Sha.vs false (gb s) hh t 4) 9 false)) + (((Sha.vs false (gb s) hh t 4) &&& (Sha.vs false (gb s) hh t 5)) ^^^ ((~~~(Sha.vs false (gb s) hh t 4)) &&& (Sha.vs false (gb s) hh t 6)))) + (Sha.K false t))) rfl rfl) (ev (U64 (Sha.w false (gb s) t)) rfl rfl) add64) ?_
     refine q_as (ev (U64 (((((Sha.vs false (gb s) hh t 7) + (Sha.th false (Sha.vs false (gb s) hh t 4) 9 false)) + (((Sha.vs false (gb s) hh t 4) &&& (Sha.vs false (gb s) hh t 5)) ^^^ ((~~~(Sha.vs false (gb s) hh t 4)) &&& (Sha.vs false (gb s) hh t 6)))) + (Sha.K false t)) + (Sha.w false (gb s) t))) rfl rfl) ?_
     refine q_nil ?_
     intro w35 hb36
     replace o_vc := o_vc.step hb36
     replace r_rp := r_rp.step hb36
     replace r_g := r_g.step hb36
     replace r_b_h := r_b_h.step hb36
     replace r_b_6 := r_b_6.step hb36
     replace r_b_v := r_b_v.step hb36
     replace r_g34 := r_g34.step hb36
     replace hk := thenB hk hb36
     refine then_n ?_
     refine wp_seq ?_
     refine region_q ShaRT.mixed (by kernel_rfl) ?_
     refine q_mv (ev (pt rp 0) s3_0 rfl) ?_
     refine q_mv (ev (U64 (Sha.vs false (gb s) hh t 0)) rfl rfl) ?_
     refine q_call (v := U64 (Sha.th false (Sha.vs false (gb s) hh t 0) 6 false)) (Tryd.func52) (by kernel_rfl) rfl (m4 (ev (pt rp 0) rfl rfl) (ev (U64 (Sha.vs false (gb s) hh t 0)) rfl rfl) (evc (.int .i64 6)) (evc (.bool false))) (fun w' hw' => three_ff rp ou g cap bg kd hkd (Sha.vs false (gb s) hh t 0) 6 (by omega) w' (r_rp.step hw')) ?_
     refine q_mv (ev (U64 (Sha.vs false (gb s) hh t 0)) rfl rfl) ?_
     refine q_val (fun w' hw' => y_ia1z (i := 1) (ev (pt b_v 0) s3_12 rfl) (evc (.int .i64 1)) Tryd.underlying40 ShaRT.sz39 (by omega) (by omega)) ?_
     refine q_val (v := U64 (Sha.vs false (gb s) hh t 1)) (fun w' hw' => y_ld (ev (pt b_v 1) rfl rfl) ShaRT.sc39 (cls_cell (r_b_v.val (by omega) rfl) r_b_v.lt w' hw')) ?_
     refine q_val (fun w' hw' => y_bin (ev (U64 (Sha.vs false (gb s) hh t 0)) rfl rfl) (ev (U64 (Sha.vs false (gb s) hh t 1)) rfl rfl) and64) ?_
     refine q_mv (ev (U64 (Sha.vs false (gb s) hh t 0)) rfl rfl) ?_
     refine q_val (fun w' hw' => y_ia1z (i := 2) (ev (pt b_v 0) s3_12 rfl) (evc (.int .i64 2)) Tryd.underlying40 ShaRT.sz39 (by omega) (by omega)) ?_
     refine q_val (v := U64 (Sha.vs false (gb s) hh t 2)) (fun w' hw' => y_ld (ev (pt b_v 2) rfl rfl) ShaRT.sc39 (cls_cell (r_b_v.val (by omega) rfl) r_b_v.lt w' hw')) ?_
     refine q_val (fun w' hw' => y_bin (ev (U64 (Sha.vs false (gb s) hh t 0)) rfl rfl) (ev (U64 (Sha.vs false (gb s) hh t 2)) rfl rfl) and64) ?_
     refine q_val (fun w' hw' => y_bin (ev (U64 ((Sha.vs false (gb s) hh t 0) &&& (Sha.vs false (gb s) hh t 1))) rfl rfl) (ev (U64 ((Sha.vs false (gb s) hh t 0) &&& (Sha.vs false (gb s) hh t 2))) rfl rfl) xor64) ?_
     refine q_val (fun w' hw' => y_ia1z (i := 1) (ev (pt b_v 0) s3_12 rfl) (evc (.int .i64 1)) Tryd.underlying40 ShaRT.sz39 (by omega) (by omega)) ?_
     refine q_val (v := U64 (Sha.vs false (gb s) hh t 1)) (fun w' hw' => y_ld (ev (pt b_v 1) rfl rfl) ShaRT.sc39 (cls_cell (r_b_v.val (by omega) rfl) r_b_v.lt w' hw')) ?_
     refine q_val (fun w' hw' => y_ia1z (i := 2) (ev (pt b_v 0) s3_12 rfl) (evc (.int .i64 2)) Tryd.underlying40 ShaRT.sz39 (by omega) (by omega)) ?_
     refine q_val (v := U64 (Sha.vs false (gb s) hh t 2)) (fun w' hw' => y_ld (ev (pt b_v 2) rfl rfl) ShaRT.sc39 (cls_cell (r_b_v.val (by omega) rfl) r_b_v.lt w' hw')) ?_
     refine q_val (fun w' hw' => y_bin (ev (U64 (Sha.vs false (gb s) hh t 1)) rfl rfl) (ev (U64 (Sha.vs false (gb s) hh t 2)) rfl rfl) and64) ?_
     refine q_val (fun w' hw' => y_bin (ev (U64 (((Sha.vs false (gb s) hh t 0) &&& (Sha.vs false (gb s) hh t 1)) ^^^ ((Sha.vs false (gb s) hh t 0) &&& (Sha.vs false (gb s) hh t 2)))) rfl rfl) (ev (U64 ((Sha.vs false (gb s) hh t 1) &&& (Sha.vs false (gb s) hh t 2))) rfl rfl) xor64) ?_
     refine q_val (fun w' hw' => y_bin (ev (U64 (Sha.th false (Sha.vs false (gb s) hh t 0) 6 false)) rfl rfl) (ev (U64 ((((Sha.vs false (gb s) hh t 0) &&& (Sha.vs false (gb s) hh t 1)) ^^^ ((Sha.vs false (gb s) hh t 0) &&& (Sha.vs false (gb s) hh t 2))) ^^^ ((Sha.vs false (gb s) hh t 1) &&& (Sha.vs false (gb s) hh t 2)))) rfl rfl) add64) ?_
     refine q_as (ev (U64 ((Sha.th false (Sha.vs false (gb s) hh t 0) 6 false) + ((((Sha.vs false (gb s) hh t 0) &&& (Sha.vs false (gb s) hh t 1)) ^^^ ((Sha.vs false (gb s) hh t 0) &&& (Sha.vs false (gb s) hh t 2))) ^^^ ((Sha.vs false (gb s) hh t 1) &&& (Sha.vs false (gb s) hh t 2))))) rfl rfl) ?_
     refine q_nil ?_
     intro w37 hb38
     replace o_vc := o_vc.step hb38
     replace r_rp := r_rp.step hb38
     replace r_g := r_g.step hb38
     replace r_b_h := r_b_h.step hb38
     replace r_b_6 := r_b_6.step hb38
     replace r_b_v := r_b_v.step hb38
     replace r_g34 := r_g34.step hb38
     replace hk := thenB hk hb38
     refine then_n ?_
     refine region_t 22 ShaRT.mixed (by kernel_rfl) ?_
     simp only [List.take_succ_cons, List.take_zero, List.drop_succ_cons, List.drop_zero]
     refine q_mv (ev (pt rp 0) s3_0 rfl) ?_
     refine q_mv (ev (U64 (((((Sha.vs false (gb s) hh t 7) + (Sha.th false (Sha.vs false (gb s) hh t 4) 9 false)) + (((Sha.vs false (gb s) hh t 4) &&& (Sha.vs false (gb s) hh t 5)) ^^^ ((~~~(Sha.vs false (gb s) hh t 4)) &&& (Sha.vs false (gb s) hh t 6)))) + (Sha.K false t)) + (Sha.w false (gb s) t))) rfl rfl) ?_
     refine q_mv (ev (U64 ((Sha.th false (Sha.vs false (gb s) hh t 0) 6 false) + ((((Sha.vs false (gb s) hh t 0) &&& (Sha.vs false (gb s) hh t 1)) ^^^ ((Sha.vs false (gb s) hh t 0) &&& (Sha.vs false (gb s) hh t 2))) ^^^ ((Sha.vs false (gb s) hh t 1) &&& (Sha.vs false (gb s) hh t 2))))) rfl rfl) ?_
     refine q_val (fun w' hw' => y_bin (ev (U64 (((((Sha.vs false (gb s) hh t 7) + (Sha.th false (Sha.vs false (gb s) hh t 4) 9 false)) + (((Sha.vs false (gb s) hh t 4) &&& (Sha.vs false (gb s) hh t 5)) ^^^ ((~~~(Sha.vs false (gb s) hh t 4)) &&& (Sha.vs false (gb s) hh t 6)))) + (Sha.K false t)) + (Sha.w false (gb s) t))) rfl rfl) (ev (U64 ((Sha.th false (Sha.vs false (gb s) hh t 0) 6 false) + ((((Sha.vs false (gb s) hh t 0) &&& (Sha.vs false (gb s) hh t 1)) ^^^ ((Sha.vs false (gb s) hh t 0) &&& (Sha.vs false (gb s) hh t 2))) ^^^ ((Sha.vs false (gb s) hh t 1) &&& (Sha.vs false (gb s) hh t 2))))) rfl rfl) add64) ?_
     refine q_call (v := U64 (Sha.wd false ((((((Sha.vs false (gb s) hh t 7) + (Sha.th false (Sha.vs false (gb s) hh t 4) 9 false)) + (((Sha.vs false (gb s) hh t 4) &&& (Sha.vs false (gb s) hh t 5)) ^^^ ((~~~(Sha.vs false (gb s) hh t 4)) &&& (Sha.vs false (gb s) hh t 6)))) + (Sha.K false t)) + (Sha.w false (gb s) t)) + ((Sha.th false (Sha.vs false (gb s) hh t 0) 6 false) + ((((Sha.vs false (gb s) hh t 0) &&& (Sha.vs false (gb s) hh t 1)) ^^^ ((Sha.vs false (gb s) hh t 0) &&& (Sha.vs false (gb s) hh t 2))) ^^^ ((Sha.vs false (gb s) hh t 1) &&& (Sha.vs false (gb s) hh t 2))))))) (Tryd.func51) (by kernel_rfl) rfl (m2 (ev (pt rp 0) rfl rfl) (ev (U64 ((((((Sha.vs false (gb s) hh t 7) + (Sha.th false (Sha.vs false (gb s) hh t 4) 9 false)) + (((Sha.vs false (gb s) hh t 4) &&& (Sha.vs false (gb s) hh t 5)) ^^^ ((~~~(Sha.vs false (gb s) hh t 4)) &&& (Sha.vs false (gb s) hh t 6)))) + (Sha.K false t)) + (Sha.w false (gb s) t)) + ((Sha.th false (Sha.vs false (gb s) hh t 0) 6 false) + ((((Sha.vs false (gb s) hh t 0) &&& (Sha.vs false (gb s) hh t 1)) ^^^ ((Sha.vs false (gb s) hh t 0) &&& (Sha.vs false (gb s) hh t 2))) ^^^ ((Sha.vs false (gb s) hh t 1) &&& (Sha.vs false (gb s) hh t 2)))))) rfl rfl)) (fun w' hw' => word_f rp ou g cap bg kd hkd ((((((Sha.vs false (gb s) hh t 7) + (Sha.th false (Sha.vs false (gb s) hh t 4) 9 false)) + (((Sha.vs false (gb s) hh t 4) &&& (Sha.vs false (gb s) hh t 5)) ^^^ ((~~~(Sha.vs false (gb s) hh t 4)) &&& (Sha.vs false (gb s) hh t 6)))) + (Sha.K false t)) + (Sha.w false (gb s) t)) + ((Sha.th false (Sha.vs false (gb s) hh t 0) 6 false) + ((((Sha.vs false (gb s) hh t 0) &&& (Sha.vs false (gb s) hh t 1)) ^^^ ((Sha.vs false (gb s) hh t 0) &&& (Sha.vs false (gb s) hh t 2))) ^^^ ((Sha.vs false (gb s) hh t 1) &&& (Sha.vs false (gb s) hh t 2))))) w' (r_rp.step hw')) ?_
     refine q_mv (ev (U64 (Sha.vs false (gb s) hh t 0)) rfl rfl) ?_
     refine q_val (fun w' hw' => y_ia1z (i := 1) (ev (pt b_v 0) s3_12 rfl) (evc (.int .i64 1)) Tryd.underlying40 ShaRT.sz39 (by omega) (by omega)) ?_
     refine q_val (v := U64 (Sha.vs false (gb s) hh t 1)) (fun w' hw' => y_ld (ev (pt b_v 1) rfl rfl) ShaRT.sc39 (cls_cell (r_b_v.val (by omega) rfl) r_b_v.lt w' hw')) ?_
     refine q_val (fun w' hw' => y_ia1z (i := 2) (ev (pt b_v 0) s3_12 rfl) (evc (.int .i64 2)) Tryd.underlying40 ShaRT.sz39 (by omega) (by omega)) ?_
     refine q_val (v := U64 (Sha.vs false (gb s) hh t 2)) (fun w' hw' => y_ld (ev (pt b_v 2) rfl rfl) ShaRT.sc39 (cls_cell (r_b_v.val (by omega) rfl) r_b_v.lt w' hw')) ?_
     refine q_mv (ev (pt rp 0) s3_0 rfl) ?_
     refine q_val (fun w' hw' => y_ia1z (i := 3) (ev (pt b_v 0) s3_12 rfl) (evc (.int .i64 3)) Tryd.underlying40 ShaRT.sz39 (by omega) (by omega)) ?_
     refine q_val (v := U64 (Sha.vs false (gb s) hh t 3)) (fun w' hw' => y_ld (ev (pt b_v 3) rfl rfl) ShaRT.sc39 (cls_cell (r_b_v.val (by omega) rfl) r_b_v.lt w' hw')) ?_
     refine q_mv (ev (U64 (((((Sha.vs false (gb s) hh t 7) + (Sha.th false (Sha.vs false (gb s) hh t 4) 9 false)) + (((Sha.vs false (gb s) hh t 4) &&& (Sha.vs false (gb s) hh t 5)) ^^^ ((~~~(Sha.vs false (gb s) hh t 4)) &&& (Sha.vs false (gb s) hh t 6)))) + (Sha.K false t)) + (Sha.w false (gb s) t))) rfl rfl) ?_
     refine q_val (fun w' hw' => y_bin (ev (U64 (Sha.vs false (gb s) hh t 3)) rfl rfl) (ev (U64 (((((Sha.vs false (gb s) hh t 7) + (Sha.th false (Sha.vs false (gb s) hh t 4) 9 false)) + (((Sha.vs false (gb s) hh t 4) &&& (Sha.vs false (gb s) hh t 5)) ^^^ ((~~~(Sha.vs false (gb s) hh t 4)) &&& (Sha.vs false (gb s) hh t 6)))) + (Sha.K false t)) + (Sha.w false (gb s) t))) rfl rfl) add64) ?_
     refine q_call (v := U64 (Sha.wd false ((Sha.vs false (gb s) hh t 3) + (((((Sha.vs false (gb s) hh t 7) + (Sha.th false (Sha.vs false (gb s) hh t 4) 9 false)) + (((Sha.vs false (gb s) hh t 4) &&& (Sha.vs false (gb s) hh t 5)) ^^^ ((~~~(Sha.vs false (gb s) hh t 4)) &&& (Sha.vs false (gb s) hh t 6)))) + (Sha.K false t)) + (Sha.w false (gb s) t))))) (Tryd.func51) (by kernel_rfl) rfl (m2 (ev (pt rp 0) rfl rfl) (ev (U64 ((Sha.vs false (gb s) hh t 3) + (((((Sha.vs false (gb s) hh t 7) + (Sha.th false (Sha.vs false (gb s) hh t 4) 9 false)) + (((Sha.vs false (gb s) hh t 4) &&& (Sha.vs false (gb s) hh t 5)) ^^^ ((~~~(Sha.vs false (gb s) hh t 4)) &&& (Sha.vs false (gb s) hh t 6)))) + (Sha.K false t)) + (Sha.w false (gb s) t)))) rfl rfl)) (fun w' hw' => word_f rp ou g cap bg kd hkd ((Sha.vs false (gb s) hh t 3) + (((((Sha.vs false (gb s) hh t 7) + (Sha.th false (Sha.vs false (gb s) hh t 4) 9 false)) + (((Sha.vs false (gb s) hh t 4) &&& (Sha.vs false (gb s) hh t 5)) ^^^ ((~~~(Sha.vs false (gb s) hh t 4)) &&& (Sha.vs false (gb s) hh t 6)))) + (Sha.K false t)) + (Sha.w false (gb s) t))) w' (r_rp.step hw')) ?_
     refine q_mv (ev (U64 (Sha.vs false (gb s) hh t 4)) rfl rfl) ?_
     refine q_val (fun w' hw' => y_ia1z (i := 5) (ev (pt b_v 0) s3_12 rfl) (evc (.int .i64 5)) Tryd.underlying40 ShaRT.sz39 (by omega) (by omega)) ?_
     refine q_val (v := U64 (Sha.vs false (gb s) hh t 5)) (fun w' hw' => y_ld (ev (pt b_v 5) rfl rfl) ShaRT.sc39 (cls_cell (r_b_v.val (by omega) rfl) r_b_v.lt w' hw')) ?_
     refine q_val (fun w' hw' => y_ia1z (i := 6) (ev (pt b_v 0) s3_12 rfl) (evc (.int .i64 6)) Tryd.underlying40 ShaRT.sz39 (by omega) (by omega)) ?_
     refine q_val (v := U64 (Sha.vs false (gb s) hh t 6)) (fun w' hw' => y_ld (ev (pt b_v 6) rfl rfl) ShaRT.sc39 (cls_cell (r_b_v.val (by omega) rfl) r_b_v.lt w' hw')) ?_
     refine q_val (v := .agg (arr 8 (fun j => if j < 1 then U64 (Sha.wd false ((((((Sha.vs false (gb s) hh t 7) + (Sha.th false (Sha.vs false (gb s) hh t 4) 9 false)) + (((Sha.vs false (gb s) hh t 4) &&& (Sha.vs false (gb s) hh t 5)) ^^^ ((~~~(Sha.vs false (gb s) hh t 4)) &&& (Sha.vs false (gb s) hh t 6)))) + (Sha.K false t)) + (Sha.w false (gb s) t)) + ((Sha.th false (Sha.vs false (gb s) hh t 0) 6 false) + ((((Sha.vs false (gb s) hh t 0) &&& (Sha.vs false (gb s) hh t 1)) ^^^ ((Sha.vs false (gb s) hh t 0) &&& (Sha.vs false (gb s) hh t 2))) ^^^ ((Sha.vs false (gb s) hh t 1) &&& (Sha.vs false (gb s) hh t 2)))))) else if j < 2 then U64 (Sha.vs false (gb s) hh t 0) else if j < 3 then U64 (Sha.vs false (gb s) hh t 1) else if j < 4 then U64 (Sha.vs false (gb s) hh t 2) else if j < 5 then U64 (Sha.wd false ((Sha.vs false (gb s) hh t 3) + (((((Sha.vs false (gb s) hh t 7) + (Sha.th false (Sha.vs false (gb s) hh t 4) 9 false)) + (((Sha.vs false (gb s) hh t 4) &&& (Sha.vs false (gb s) hh t 5)) ^^^ ((~~~(Sha.vs false (gb s) hh t 4)) &&& (Sha.vs false (gb s) hh t 6)))) + (Sha.K false t)) + (Sha.w false (gb s) t)))) else if j < 6 then U64 (Sha.vs false (gb s) hh t 4) else if j < 7 then U64 (Sha.vs false (gb s) hh t 5) else U64 (Sha.vs false (gb s) hh t 6)))) (fun w' hw' => y_build (vs := #[(0, U64 (Sha.wd false ((((((Sha.vs false (gb s) hh t 7) + (Sha.th false (Sha.vs false (gb s) hh t 4) 9 false)) + (((Sha.vs false (gb s) hh t 4) &&& (Sha.vs false (gb s) hh t 5)) ^^^ ((~~~(Sha.vs false (gb s) hh t 4)) &&& (Sha.vs false (gb s) hh t 6)))) + (Sha.K false t)) + (Sha.w false (gb s) t)) + ((Sha.th false (Sha.vs false (gb s) hh t 0) 6 false) + ((((Sha.vs false (gb s) hh t 0) &&& (Sha.vs false (gb s) hh t 1)) ^^^ ((Sha.vs false (gb s) hh t 0) &&& (Sha.vs false (gb s) hh t 2))) ^^^ ((Sha.vs false (gb s) hh t 1) &&& (Sha.vs false (gb s) hh t 2))))))), (1, U64 (Sha.vs false (gb s) hh t 0)), (2, U64 (Sha.vs false (gb s) hh t 1)), (3, U64 (Sha.vs false (gb s) hh t 2)), (4, U64 (Sha.wd false ((Sha.vs false (gb s) hh t 3) + (((((Sha.vs false (gb s) hh t 7) + (Sha.th false (Sha.vs false (gb s) hh t 4) 9 false)) + (((Sha.vs false (gb s) hh t 4) &&& (Sha.vs false (gb s) hh t 5)) ^^^ ((~~~(Sha.vs false (gb s) hh t 4)) &&& (Sha.vs false (gb s) hh t 6)))) + (Sha.K false t)) + (Sha.w false (gb s) t))))), (5, U64 (Sha.vs false (gb s) hh t 4)), (6, U64 (Sha.vs false (gb s) hh t 5)), (7, U64 (Sha.vs false (gb s) hh t 6))]) (mp_cons (ev (U64 (Sha.wd false ((((((Sha.vs false (gb s) hh t 7) + (Sha.th false (Sha.vs false (gb s) hh t 4) 9 false)) + (((Sha.vs false (gb s) hh t 4) &&& (Sha.vs false (gb s) hh t 5)) ^^^ ((~~~(Sha.vs false (gb s) hh t 4)) &&& (Sha.vs false (gb s) hh t 6)))) + (Sha.K false t)) + (Sha.w false (gb s) t)) + ((Sha.th false (Sha.vs false (gb s) hh t 0) 6 false) + ((((Sha.vs false (gb s) hh t 0) &&& (Sha.vs false (gb s) hh t 1)) ^^^ ((Sha.vs false (gb s) hh t 0) &&& (Sha.vs false (gb s) hh t 2))) ^^^ ((Sha.vs false (gb s) hh t 1) &&& (Sha.vs false (gb s) hh t 2))))))) rfl rfl) (mp_cons (ev (U64 (Sha.vs false (gb s) hh t 0)) rfl rfl) (mp_cons (ev (U64 (Sha.vs false (gb s) hh t 1)) rfl rfl) (mp_cons (ev (U64 (Sha.vs false (gb s) hh t 2)) rfl rfl) (mp_cons (ev (U64 (Sha.wd false ((Sha.vs false (gb s) hh t 3) + (((((Sha.vs false (gb s) hh t 7) + (Sha.th false (Sha.vs false (gb s) hh t 4) 9 false)) + (((Sha.vs false (gb s) hh t 4) &&& (Sha.vs false (gb s) hh t 5)) ^^^ ((~~~(Sha.vs false (gb s) hh t 4)) &&& (Sha.vs false (gb s) hh t 6)))) + (Sha.K false t)) + (Sha.w false (gb s) t))))) rfl rfl) (mp_cons (ev (U64 (Sha.vs false (gb s) hh t 4)) rfl rfl) (mp_cons (ev (U64 (Sha.vs false (gb s) hh t 5)) rfl rfl) (mp_cons (ev (U64 (Sha.vs false (gb s) hh t 6)) rfl rfl) mp0)))))))) (fun w => by kernel_rfl)) ?_
     refine q_nil ?_
     intro w39 hb40
     replace o_vc := o_vc.step hb40
     replace r_rp := r_rp.step hb40
     replace r_g := r_g.step hb40
     replace r_b_h := r_b_h.step hb40
     replace r_b_6 := r_b_6.step hb40
     replace r_b_v := r_b_v.step hb40
     replace r_g34 := r_g34.step hb40
     replace hk := thenB hk hb40
     refine w_sta (k := 8) (G := fun j => if j < 1 then U64 (Sha.wd false ((((((Sha.vs false (gb s) hh t 7) + (Sha.th false (Sha.vs false (gb s) hh t 4) 9 false)) + (((Sha.vs false (gb s) hh t 4) &&& (Sha.vs false (gb s) hh t 5)) ^^^ ((~~~(Sha.vs false (gb s) hh t 4)) &&& (Sha.vs false (gb s) hh t 6)))) + (Sha.K false t)) + (Sha.w false (gb s) t)) + ((Sha.th false (Sha.vs false (gb s) hh t 0) 6 false) + ((((Sha.vs false (gb s) hh t 0) &&& (Sha.vs false (gb s) hh t 1)) ^^^ ((Sha.vs false (gb s) hh t 0) &&& (Sha.vs false (gb s) hh t 2))) ^^^ ((Sha.vs false (gb s) hh t 1) &&& (Sha.vs false (gb s) hh t 2)))))) else if j < 2 then U64 (Sha.vs false (gb s) hh t 0) else if j < 3 then U64 (Sha.vs false (gb s) hh t 1) else if j < 4 then U64 (Sha.vs false (gb s) hh t 2) else if j < 5 then U64 (Sha.wd false ((Sha.vs false (gb s) hh t 3) + (((((Sha.vs false (gb s) hh t 7) + (Sha.th false (Sha.vs false (gb s) hh t 4) 9 false)) + (((Sha.vs false (gb s) hh t 4) &&& (Sha.vs false (gb s) hh t 5)) ^^^ ((~~~(Sha.vs false (gb s) hh t 4)) &&& (Sha.vs false (gb s) hh t 6)))) + (Sha.K false t)) + (Sha.w false (gb s) t)))) else if j < 6 then U64 (Sha.vs false (gb s) hh t 4) else if j < 7 then U64 (Sha.vs false (gb s) hh t 5) else U64 (Sha.vs false (gb s) hh t 6)) (ev (pt b_v 0) s3_12 rfl) (ev (.agg (arr 8 (fun j => if j < 1 then U64 (Sha.wd false ((((((Sha.vs false (gb s) hh t 7) + (Sha.th false (Sha.vs false (gb s) hh t 4) 9 false)) + (((Sha.vs false (gb s) hh t 4) &&& (Sha.vs false (gb s) hh t 5)) ^^^ ((~~~(Sha.vs false (gb s) hh t 4)) &&& (Sha.vs false (gb s) hh t 6)))) + (Sha.K false t)) + (Sha.w false (gb s) t)) + ((Sha.th false (Sha.vs false (gb s) hh t 0) 6 false) + ((((Sha.vs false (gb s) hh t 0) &&& (Sha.vs false (gb s) hh t 1)) ^^^ ((Sha.vs false (gb s) hh t 0) &&& (Sha.vs false (gb s) hh t 2))) ^^^ ((Sha.vs false (gb s) hh t 1) &&& (Sha.vs false (gb s) hh t 2)))))) else if j < 2 then U64 (Sha.vs false (gb s) hh t 0) else if j < 3 then U64 (Sha.vs false (gb s) hh t 1) else if j < 4 then U64 (Sha.vs false (gb s) hh t 2) else if j < 5 then U64 (Sha.wd false ((Sha.vs false (gb s) hh t 3) + (((((Sha.vs false (gb s) hh t 7) + (Sha.th false (Sha.vs false (gb s) hh t 4) 9 false)) + (((Sha.vs false (gb s) hh t 4) &&& (Sha.vs false (gb s) hh t 5)) ^^^ ((~~~(Sha.vs false (gb s) hh t 4)) &&& (Sha.vs false (gb s) hh t 6)))) + (Sha.K false t)) + (Sha.w false (gb s) t)))) else if j < 6 then U64 (Sha.vs false (gb s) hh t 4) else if j < 7 then U64 (Sha.vs false (gb s) hh t 5) else U64 (Sha.vs false (gb s) hh t 6)))) rfl rfl) oc ShaRT.sz40 r_b_v (by omega) ?_
     clear r_b_v; intro w41 r_b_v hg42 _
     replace r_b_v := r_b_v.congr (g := fun j => if j < 1 then U64 (Sha.wd false ((((((Sha.vs false (gb s) hh t 7) + (Sha.th false (Sha.vs false (gb s) hh t 4) 9 false)) + (((Sha.vs false (gb s) hh t 4) &&& (Sha.vs false (gb s) hh t 5)) ^^^ ((~~~(Sha.vs false (gb s) hh t 4)) &&& (Sha.vs false (gb s) hh t 6)))) + (Sha.K false t)) + (Sha.w false (gb s) t)) + ((Sha.th false (Sha.vs false (gb s) hh t 0) 6 false) + ((((Sha.vs false (gb s) hh t 0) &&& (Sha.vs false (gb s) hh t 1)) ^^^ ((Sha.vs false (gb s) hh t 0) &&& (Sha.vs false (gb s) hh t 2))) ^^^ ((Sha.vs false (gb s) hh t 1) &&& (Sha.vs false (gb s) hh t 2)))))) else if j < 2 then U64 (Sha.vs false (gb s) hh t 0) else if j < 3 then U64 (Sha.vs false (gb s) hh t 1) else if j < 4 then U64 (Sha.vs false (gb s) hh t 2) else if j < 5 then U64 (Sha.wd false ((Sha.vs false (gb s) hh t 3) + (((((Sha.vs false (gb s) hh t 7) + (Sha.th false (Sha.vs false (gb s) hh t 4) 9 false)) + (((Sha.vs false (gb s) hh t 4) &&& (Sha.vs false (gb s) hh t 5)) ^^^ ((~~~(Sha.vs false (gb s) hh t 4)) &&& (Sha.vs false (gb s) hh t 6)))) + (Sha.K false t)) + (Sha.w false (gb s) t)))) else if j < 6 then U64 (Sha.vs false (gb s) hh t 4) else if j < 7 then U64 (Sha.vs false (gb s) hh t 5) else U64 (Sha.vs false (gb s) hh t 6)) (fun j hj => by rw [if_pos ⟨Nat.zero_le _, by omega⟩]; first | rfl | (simp only [Nat.sub_zero]))
     replace o_vc := o_vc.stepG hg42 no_vc_b_v
     replace r_rp := r_rp.stepG hg42 (by omega)
     replace r_g := r_g.stepG hg42 (by omega)
     replace r_b_h := r_b_h.stepG hg42 (by omega)
     replace r_b_6 := r_b_6.stepG hg42 (by omega)
     replace r_g34 := r_g34.stepG hg42 (by omega)
     replace hk := thenG hk hg42 (by omega)
     refine wpList_nil ?_
     refine inb_n ?_
     refine then_n ?_
     refine wp_region_lit ?_
     refine w_mv (ev (.int .i64 ((t : Nat) : Int)) s3_13 rfl) ?_
     refine w_val (y_bin (ev (.int .i64 ((t : Nat) : Int)) rfl rfl) (evc (.int .i64 1)) (b_add (by omega))) ?_
     refine w_as (ev (.int .i64 (((t : Nat) : Int) + 1)) rfl rfl) ?_
     refine wpList_nil ?_
     exact then_n ⟨_, (by omega), t + 1, vc, rfl, _, rfl, iv, s3_0, s3_1, s3_2, s3_4, s3_6, s3_7, s3_8, s3_9, s3_12, (etv (b := .int .i64 (((t : Nat) : Int) + 1)) rfl), r_rp, r_g, r_b_h, r_b_6, (r_b_v.congr (fun j hj => by exact Sha.rnd_row false (gb s) hh t j hj _ _ rfl rfl)), o_vc, no_vc_rp, no_vc_g, no_vc_b_h, no_vc_b_6, no_vc_b_v, hk⟩
    ·skip
     refine wp_exit ?_
     refine then_x ?_
     replace r_b_v := r_b_v.congr (g := fun j => U64 (Sha.vs false (gb s) hh 80 j)) (fun j hj => by rw [show t = 80 from by omega])
     refine then_x ?_
     refine inb_x ?_
     refine then_n ?_
     refine wp_seq ?_
     refine sr ?_
     refine w_as (evc (.int .i64 0)) ?_
     refine nt ?_
     refine wp_block ?_
     refine c_loop (fun dN aN wl => ∃ (q : Nat) (vd : Value), dN = (8 - q) ∧ ∃ f43, aN = fr 183 f43 ∧ (q ≤ 8) ∧ f43 0 = pt rp 0 ∧ f43 1 = .agg (arr 8 (fun j => U64 (hh j))) ∧ f43 2 = .string (str s) ∧ f43 4 = pt b_h 0 ∧ f43 6 = pt b_6 0 ∧ f43 7 = vd ∧ f43 8 = .int .i64 8 ∧ f43 9 = .int .i64 ((i : Nat) : Int) ∧ f43 12 = pt b_v 0 ∧ f43 13 = .int .i64 ((t : Nat) : Int) ∧ f43 18 = .int .i64 ((q : Nat) : Int) ∧ Row wl rp 44 25 (Sha.rrow (.int .i64 kd) (.int .i64 ((ou : Nat) : Int)) (.int .i64 128) (.int .i64 80) (.slice (some ⟨g, 0, none⟩) 80 cap) bg (fun i => U64 (BitVec.ofNat 64 (Sha.trn false i)))) ∧ Row wl g 39 80 (fun j => U64 (Sha.K false j)) ∧ Row wl b_h 40 8 (fun j => if j < q then (fun j => U64 (Sha.comp false (gb s) hh j)) j else (fun j => U64 (hh j)) j) ∧ Row wl b_6 40 8 (fun j => U64 (0#64)) ∧ Row wl b_v 40 8 (fun j => U64 (Sha.vs false (gb s) hh 80 j)) ∧ Own wl w0.heap.size 39 1 vd 80 (fun j => U64 (Sha.w false (gb s) j)) ∧ vd.ownBlock ≠ some rp ∧ vd.ownBlock ≠ some g ∧ vd.ownBlock ≠ some b_h ∧ vd.ownBlock ≠ some b_6 ∧ vd.ownBlock ≠ some b_v ∧ Below w0.heap.size w0 wl) (8 - 0) ?_ ?_
     · exact ⟨0, vc, rfl, _, rfl, iv, s3_0, s3_1, s3_2, s3_4, s3_6, (Eq.trans (b := vc) s3_7 (by first | with_reducible rfl | (with_reducible congr 1 <;> omega) | (with_reducible congr 2 <;> omega) | (with_reducible congr 3 <;> omega) | rfl)), s3_8, s3_9, s3_12, s3_13, (etv (b := .int .i64 0) rfl), r_rp, r_g, (r_b_h.cg), r_b_6, r_b_v, o_vc, no_vc_rp, no_vc_g, no_vc_b_h, no_vc_b_6, no_vc_b_v, hk⟩
     ·skip
      clear r_rp r_g r_b_h r_b_6 r_b_v o_vc hk
      rintro _ _ w44 ⟨q, vd, rfl, f43, rfl, i4_0, s4_0, s4_1, s4_2, s4_4, s4_6, s4_7, s4_8, s4_9, s4_12, s4_13, s4_18, r_rp, r_g, r_b_h, r_b_6, r_b_v, o_vd, no_vd_rp, no_vd_g, no_vd_b_h, no_vd_b_6, no_vd_b_v, hk⟩
      refine wp_seq ?_
      refine sr ?_
      refine w_mv (ev (.int .i64 ((q : Nat) : Int)) s4_18 rfl) ?_
      refine w_val (y_bin (ev (.int .i64 ((q : Nat) : Int)) rfl rfl) (evc (.int .i64 8)) b_lss) ?_
      refine nt ?_
      refine c_if (p := ((q : Nat) : Int) < 8) (ev (.bool (decide (((q : Nat) : Int) < 8))) rfl rfl) (fun hc45 => ?_) (fun hc45 => ?_)
      ·skip
       refine wp_skip ?_
       refine then_n ?_
       refine wp_seq ?_
       refine wp_block ?_
       refine region_t 11 ShaRT.mixed (by kernel_rfl) ?_
       simp only [List.take_succ_cons, List.take_zero, List.drop_succ_cons, List.drop_zero]
       refine q_mv (ev (.int .i64 ((q : Nat) : Int)) s4_18 rfl) ?_
       refine q_mv (ev (pt rp 0) s4_0 rfl) ?_
       refine q_mv (ev (.int .i64 ((q : Nat) : Int)) s4_18 rfl) ?_
       refine q_val (fun w' hw' => y_ia1z (i := q) (ev (pt b_h 0) s4_4 rfl) (ev (.int .i64 ((q : Nat) : Int)) rfl rfl) Tryd.underlying40 ShaRT.sz39 (by omega) (by omega)) ?_
       refine q_val (v := U64 (hh q)) (fun w' hw' => y_ld (ev (pt b_h q) rfl rfl) ShaRT.sc39 (cls_cell (r_b_h.val (by omega) ((if_neg (by omega)).trans rfl)) r_b_h.lt w' hw')) ?_
       refine q_mv (ev (.int .i64 ((q : Nat) : Int)) s4_18 rfl) ?_
       refine q_val (fun w' hw' => y_ia1z (i := q) (ev (pt b_v 0) s4_12 rfl) (ev (.int .i64 ((q : Nat) : Int)) rfl rfl) Tryd.underlying40 ShaRT.sz39 (by omega) (by omega)) ?_
       refine q_val (v := U64 (Sha.vs false (gb s) hh 80 q)) (fun w' hw' => y_ld (ev (pt b_v q) rfl rfl) ShaRT.sc39 (cls_cell (r_b_v.val (by omega) rfl) r_b_v.lt w' hw')) ?_
       refine q_val (fun w' hw' => y_bin (ev (U64 (hh q)) rfl rfl) (ev (U64 (Sha.vs false (gb s) hh 80 q)) rfl rfl) add64) ?_
       refine q_call (v := U64 (Sha.wd false ((hh q) + (Sha.vs false (gb s) hh 80 q)))) (Tryd.func51) (by kernel_rfl) rfl (m2 (ev (pt rp 0) rfl rfl) (ev (U64 ((hh q) + (Sha.vs false (gb s) hh 80 q))) rfl rfl)) (fun w' hw' => word_f rp ou g cap bg kd hkd ((hh q) + (Sha.vs false (gb s) hh 80 q)) w' (r_rp.step hw')) ?_
       refine q_val (fun w' hw' => y_ia1z (i := q) (ev (pt b_h 0) s4_4 rfl) (ev (.int .i64 ((q : Nat) : Int)) rfl rfl) Tryd.underlying40 ShaRT.sz39 (by omega) (by omega)) ?_
       refine q_nil ?_
       intro w46 hb47
       replace o_vd := o_vd.step hb47
       replace r_rp := r_rp.step hb47
       replace r_g := r_g.step hb47
       replace r_b_h := r_b_h.step hb47
       replace r_b_6 := r_b_6.step hb47
       replace r_b_v := r_b_v.step hb47
       replace hk := thenB hk hb47
       refine w_st (v := U64 (Sha.wd false ((hh q) + (Sha.vs false (gb s) hh 80 q)))) (ev (pt b_h q) rfl rfl) (ev (U64 (Sha.wd false ((hh q) + (Sha.vs false (gb s) hh 80 q)))) rfl rfl) rfl rfl ShaRT.sz39 r_b_h (by omega) ?_
       clear r_b_h; intro w48 r_b_h hg49 _
       replace o_vd := o_vd.stepG hg49 no_vd_b_h
       replace r_rp := r_rp.stepG hg49 (by omega)
       replace r_g := r_g.stepG hg49 (by omega)
       replace r_b_6 := r_b_6.stepG hg49 (by omega)
       replace r_b_v := r_b_v.stepG hg49 (by omega)
       replace hk := thenG hk hg49 (by omega)
       refine wpList_nil ?_
       refine inb_n ?_
       refine then_n ?_
       refine wp_region_lit ?_
       refine w_mv (ev (.int .i64 ((q : Nat) : Int)) s4_18 rfl) ?_
       refine w_val (y_bin (ev (.int .i64 ((q : Nat) : Int)) rfl rfl) (evc (.int .i64 1)) (b_add (by omega))) ?_
       refine w_as (ev (.int .i64 (((q : Nat) : Int) + 1)) rfl rfl) ?_
       refine wpList_nil ?_
       exact then_n ⟨_, (by omega), q + 1, vd, rfl, _, rfl, iv, s4_0, s4_1, s4_2, s4_4, s4_6, s4_7, s4_8, s4_9, s4_12, s4_13, (etv (b := .int .i64 (((q : Nat) : Int) + 1)) rfl), r_rp, r_g, (r_b_h.congr (fun j hj => by (try dsimp only); by_cases e : j = q; (rw [if_pos e, if_pos (by omega), e]; rfl); (rw [if_neg e]; by_cases e2 : j < q; (rw [if_pos e2]; exact (if_pos (by omega)).symm); (rw [if_neg e2]; exact (if_neg (by omega)).symm)))), r_b_6, r_b_v, o_vd, no_vd_rp, no_vd_g, no_vd_b_h, no_vd_b_6, no_vd_b_v, hk⟩
      ·skip
       refine wp_exit ?_
       refine then_x ?_
       replace r_b_h := r_b_h.congr (g := fun j => U64 (Sha.comp false (gb s) hh j)) (fun j hj => by (try dsimp only); rw [if_pos (by omega)])
       refine then_x ?_
       refine inb_x ?_
       refine then_n ?_
       refine sr ?_
       refine w_val (v := .agg (arr 8 (fun j => U64 (Sha.comp false (gb s) hh j)))) (y_lda (ev (pt b_h 0) s4_4 rfl) ShaRT.ag40 ShaRT.sz40 (fun j hj => by rw [Nat.zero_add]; exact (r_b_h.cell (by omega)))) ?_
       refine w_sta (k := 8) (G := fun j => U64 (Sha.comp false (gb s) hh j)) (ev (pt b_6 0) s4_6 rfl) (ev (.agg (arr 8 (fun j => U64 (Sha.comp false (gb s) hh j)))) rfl rfl) oc ShaRT.sz40 r_b_6 (by omega) ?_
       clear r_b_6; intro w50 r_b_6 hg51 _
       replace r_b_6 := r_b_6.congr (g := fun j => U64 (Sha.comp false (gb s) hh j)) (fun j hj => by rw [if_pos ⟨Nat.zero_le _, by omega⟩]; first | rfl | (simp only [Nat.sub_zero]))
       replace o_vd := o_vd.stepG hg51 no_vd_b_6
       replace r_rp := r_rp.stepG hg51 (by omega)
       replace r_g := r_g.stepG hg51 (by omega)
       replace r_b_h := r_b_h.stepG hg51 (by omega)
       replace r_b_v := r_b_v.stepG hg51 (by omega)
       replace hk := thenG hk hg51 (by omega)
       refine nt ?_
       refine wp_ret ?_
       refine fin_arr (F := fun j => U64 (Sha.comp false (gb s) hh j)) rfl (ev (pt b_6 0) s4_6 rfl) ShaRT.ag40 ShaRT.sz40 r_b_6 (by omega) ?_
       exact ⟨rfl, hk⟩
end Go.Proofs.YtieepglpejlkoaaDoor
