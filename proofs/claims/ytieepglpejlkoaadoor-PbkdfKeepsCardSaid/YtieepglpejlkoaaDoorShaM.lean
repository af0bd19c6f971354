/-
  The reference's rules. Conditions as each says.
-/
import Derived.Test.YtieepglpejlkoaaDoorRows
import Derived.Test.YtieepglpejlkoaaDoorShaN
import Derived.Test.YtieepglpejlkoaaDoorShaR
import Derived.ProofKit
namespace Go.Proofs.YtieepglpejlkoaaDoor
open Go.RowKit
set_option linter.unusedSimpArgs false
set_option linter.unusedVariables false
namespace ShaMT
theorem mixed : Tryd.prog.follows .mixedOrders = true := by kernel_rfl
theorem ag85 : (Tryd.prog.underlying 85).map isAggD = some true := by rw [Tryd.underlying85]; rfl
theorem fa44_0 (g off : Nat) : ∀ w, (Instr.fieldAt 44 (.pointer (some ⟨g, off, none⟩)) 0).run Tryd.prog w = .ok (.pointer (some ⟨g, off + 0, none⟩)) w := fun w => by kernel_rfl
theorem fa44_2 (g off : Nat) : ∀ w, (Instr.fieldAt 44 (.pointer (some ⟨g, off, none⟩)) 2).run Tryd.prog w = .ok (.pointer (some ⟨g, off + 2, none⟩)) w := fun w => by kernel_rfl
theorem fa44_3 (g off : Nat) : ∀ w, (Instr.fieldAt 44 (.pointer (some ⟨g, off, none⟩)) 3).run Tryd.prog w = .ok (.pointer (some ⟨g, off + 3, none⟩)) w := fun w => by kernel_rfl
theorem fa44_4 (g off : Nat) : ∀ w, (Instr.fieldAt 44 (.pointer (some ⟨g, off, none⟩)) 4).run Tryd.prog w = .ok (.pointer (some ⟨g, off + 4, none⟩)) w := fun w => by kernel_rfl
theorem fa44_5 (g off : Nat) : ∀ w, (Instr.fieldAt 44 (.pointer (some ⟨g, off, none⟩)) 5).run Tryd.prog w = .ok (.pointer (some ⟨g, off + 5, none⟩)) w := fun w => by kernel_rfl
theorem fa44_6 (g off : Nat) : ∀ w, (Instr.fieldAt 44 (.pointer (some ⟨g, off, none⟩)) 6).run Tryd.prog w = .ok (.pointer (some ⟨g, off + 13, none⟩)) w := fun w => by kernel_rfl
theorem sc3 : (Tryd.prog.underlying 3).map scal = some true := by rw [Tryd.underlying3]; rfl
theorem sc38 : (Tryd.prog.underlying 38).map scal = some true := by rw [Tryd.underlying38]; rfl
theorem sc39 : (Tryd.prog.underlying 39).map scal = some true := by rw [Tryd.underlying39]; rfl
theorem so3 : (Tryd.prog.underlying 3).isSome = true := by rw [Tryd.underlying3]; rfl
theorem sz3 : (Tryd.prog.info? 3).map (·.size) = some 1 := by kernel_rfl
theorem sz38 : (Tryd.prog.info? 38).map (·.size) = some 1 := by kernel_rfl
theorem sz39 : (Tryd.prog.info? 39).map (·.size) = some 1 := by kernel_rfl
theorem sz42 : (Tryd.prog.info? 42).map (·.size) = some 12 := by kernel_rfl
theorem sz85 : (Tryd.prog.info? 85).map (·.size) = some 4 := by kernel_rfl
end ShaMT
set_option maxRecDepth 100000 in
set_option maxHeartbeats 1000000 in
theorem known_256  (w0 : World) : Calls Tryd.prog 21 #[.int .i64 256] w0 fun e w' => e = .returned (.bool true) ∧ Below w0.heap.size w0 w' := by
 refine enter (n := 13) Tryd.func21 rfl rfl rfl ?_
 have hk : Below w0.heap.size w0 w0 := Below.refl _ _
 refine sr ?_
 refine w_as (evc (.bool false)) ?_
 refine nt ?_
 refine sr ?_
 refine w_mv (ev (.int .i64 256) rfl rfl) ?_
 refine w_val (y_bin (ev (.int .i64 256) rfl rfl) (evc (.int .i64 256)) b_eql) ?_
 refine w_mv (ev (.bool true) rfl rfl) ?_
 first | with_reducible refine w_skip ?_ ?_ | refine w_skip ?_ ?_
 · exact want_no (j := 2) rfl rfl (ev (.bool true) rfl rfl) rfl
 first | with_reducible refine w_skip ?_ ?_ | refine w_skip ?_ ?_
 · exact want_no (j := 2) rfl rfl (ev (.bool true) rfl rfl) rfl
 refine w_val (y_pick_t (ev (.bool true) rfl rfl) (evc (.bool true))) ?_
 refine w_mv (ev (.bool true) rfl rfl) ?_
 first | with_reducible refine w_skip ?_ ?_ | refine w_skip ?_ ?_
 · exact want_no (j := 6) rfl rfl (ev (.bool true) rfl rfl) rfl
 first | with_reducible refine w_skip ?_ ?_ | refine w_skip ?_ ?_
 · exact want_no (j := 6) rfl rfl (ev (.bool true) rfl rfl) rfl
 refine w_val (y_pick_t (ev (.bool true) rfl rfl) (evc (.bool true))) ?_
 refine w_as (ev (.bool true) rfl rfl) ?_
 refine nt ?_
 refine wp_ret ?_
 refine fin_ret1 rfl (ev (.bool true) rfl rfl) ?_
 exact ⟨rfl, hk⟩

set_option maxRecDepth 100000 in
set_option maxHeartbeats 1000000 in
theorem known_384  (w0 : World) : Calls Tryd.prog 21 #[.int .i64 384] w0 fun e w' => e = .returned (.bool true) ∧ Below w0.heap.size w0 w' := by
 refine enter (n := 13) Tryd.func21 rfl rfl rfl ?_
 have hk : Below w0.heap.size w0 w0 := Below.refl _ _
 refine sr ?_
 refine w_as (evc (.bool false)) ?_
 refine nt ?_
 refine sr ?_
 refine w_mv (ev (.int .i64 384) rfl rfl) ?_
 refine w_val (y_bin (ev (.int .i64 384) rfl rfl) (evc (.int .i64 256)) b_eql) ?_
 refine w_mv (ev (.bool false) rfl rfl) ?_
 refine w_val_g (v := .int .i64 384) (want_yes (j := 2) rfl rfl (ev (.bool false) rfl rfl) rfl) (y_mv (ev (.int .i64 384) rfl rfl)) ?_
 refine w_val_g (want_yes (j := 2) rfl rfl (ev (.bool false) rfl rfl) rfl) (y_bin (ev (.int .i64 384) rfl rfl) (evc (.int .i64 384)) b_eql) ?_
 refine w_val (y_pick_f (ev (.bool false) rfl rfl) (ev (.bool true) rfl rfl)) ?_
 refine w_mv (ev (.bool true) rfl rfl) ?_
 first | with_reducible refine w_skip ?_ ?_ | refine w_skip ?_ ?_
 · exact want_no (j := 6) rfl rfl (ev (.bool true) rfl rfl) rfl
 first | with_reducible refine w_skip ?_ ?_ | refine w_skip ?_ ?_
 · exact want_no (j := 6) rfl rfl (ev (.bool true) rfl rfl) rfl
 refine w_val (y_pick_t (ev (.bool true) rfl rfl) (evc (.bool true))) ?_
 refine w_as (ev (.bool true) rfl rfl) ?_
 refine nt ?_
 refine wp_ret ?_
 refine fin_ret1 rfl (ev (.bool true) rfl rfl) ?_
 exact ⟨rfl, hk⟩

set_option maxRecDepth 100000 in
set_option maxHeartbeats 1000000 in
theorem known_512  (w0 : World) : Calls Tryd.prog 21 #[.int .i64 512] w0 fun e w' => e = .returned (.bool true) ∧ Below w0.heap.size w0 w' := by
 refine enter (n := 13) Tryd.func21 rfl rfl rfl ?_
 have hk : Below w0.heap.size w0 w0 := Below.refl _ _
 refine sr ?_
 refine w_as (evc (.bool false)) ?_
 refine nt ?_
 refine sr ?_
 refine w_mv (ev (.int .i64 512) rfl rfl) ?_
 refine w_val (y_bin (ev (.int .i64 512) rfl rfl) (evc (.int .i64 256)) b_eql) ?_
 refine w_mv (ev (.bool false) rfl rfl) ?_
 refine w_val_g (v := .int .i64 512) (want_yes (j := 2) rfl rfl (ev (.bool false) rfl rfl) rfl) (y_mv (ev (.int .i64 512) rfl rfl)) ?_
 refine w_val_g (want_yes (j := 2) rfl rfl (ev (.bool false) rfl rfl) rfl) (y_bin (ev (.int .i64 512) rfl rfl) (evc (.int .i64 384)) b_eql) ?_
 refine w_val (y_pick_f (ev (.bool false) rfl rfl) (ev (.bool false) rfl rfl)) ?_
 refine w_mv (ev (.bool false) rfl rfl) ?_
 refine w_val_g (v := .int .i64 512) (want_yes (j := 6) rfl rfl (ev (.bool false) rfl rfl) rfl) (y_mv (ev (.int .i64 512) rfl rfl)) ?_
 refine w_val_g (want_yes (j := 6) rfl rfl (ev (.bool false) rfl rfl) rfl) (y_bin (ev (.int .i64 512) rfl rfl) (evc (.int .i64 512)) b_eql) ?_
 refine w_val (y_pick_f (ev (.bool false) rfl rfl) (ev (.bool true) rfl rfl)) ?_
 refine w_as (ev (.bool true) rfl rfl) ?_
 refine nt ?_
 refine wp_ret ?_
 refine fin_ret1 rfl (ev (.bool true) rfl rfl) ?_
 exact ⟨rfl, hk⟩

set_option maxRecDepth 100000 in
set_option maxHeartbeats 1000000 in
theorem known_no (k : Int) (k1 : k ≠ 256) (k2 : k ≠ 384) (k3 : k ≠ 512) (w0 : World) : Calls Tryd.prog 21 #[.int .i64 k] w0 fun e w' => e = .returned (.bool false) ∧ Below w0.heap.size w0 w' := by
 refine enter (n := 13) Tryd.func21 rfl rfl rfl ?_
 have hk : Below w0.heap.size w0 w0 := Below.refl _ _
 refine sr ?_
 refine w_as (evc (.bool false)) ?_
 refine nt ?_
 refine sr ?_
 refine w_mv (ev (.int .i64 k) rfl rfl) ?_
 refine w_val (y_bin (ev (.int .i64 k) rfl rfl) (evc (.int .i64 256)) b_eql) ?_
 refine w_mv (ev (.bool (decide (k = 256))) rfl rfl) ?_
 have hc1 : ¬ (k = 256) := by exact k1
 refine w_val_g (v := .int .i64 k) (want_yes (j := 2) rfl rfl (ev (.bool false) (Eq.trans (b := .bool (decide (k = 256))) rfl (by rw [decide_eq_false hc1])) rfl) rfl) (y_mv (ev (.int .i64 k) rfl rfl)) ?_
 refine w_val_g (want_yes (j := 2) rfl rfl (ev (.bool false) (Eq.trans (b := .bool (decide (k = 256))) rfl (by rw [decide_eq_false hc1])) rfl) rfl) (y_bin (ev (.int .i64 k) rfl rfl) (evc (.int .i64 384)) b_eql) ?_
 refine w_val (y_pick_f (ev (.bool false) (Eq.trans (b := .bool (decide (k = 256))) rfl (by rw [decide_eq_false hc1])) rfl) (ev (.bool (decide (k = 384))) rfl rfl)) ?_
 refine w_mv (ev (.bool (decide (k = 384))) rfl rfl) ?_
 have hc2 : ¬ (k = 384) := by exact k2
 refine w_val_g (v := .int .i64 k) (want_yes (j := 6) rfl rfl (ev (.bool false) (Eq.trans (b := .bool (decide (k = 384))) rfl (by rw [decide_eq_false hc2])) rfl) rfl) (y_mv (ev (.int .i64 k) rfl rfl)) ?_
 refine w_val_g (want_yes (j := 6) rfl rfl (ev (.bool false) (Eq.trans (b := .bool (decide (k = 384))) rfl (by rw [decide_eq_false hc2])) rfl) rfl) (y_bin (ev (.int .i64 k) rfl rfl) (evc (.int .i64 512)) b_eql) ?_
 refine w_val (y_pick_f (ev (.bool false) (Eq.trans (b := .bool (decide (k = 384))) rfl (by rw [decide_eq_false hc2])) rfl) (ev (.bool (decide (k = 512))) rfl rfl)) ?_
 refine w_as (ev (.bool (decide (k = 512))) rfl rfl) ?_
 refine nt ?_
 refine wp_ret ?_
 have hc3 : ¬ (k = 512) := by exact k3
 refine fin_ret1 rfl (ev (.bool false) (Eq.trans (b := .bool (decide (k = 512))) rfl (by rw [decide_eq_false hc3])) rfl) ?_
 exact ⟨rfl, hk⟩

set_option maxRecDepth 100000 in
set_option maxHeartbeats 1000000 in
theorem cut_t (rp : Nat) (x : BitVec 64) (w0 : World) {F : Nat → Value} (r_rp : Row w0 rp 44 25 F) (hF : F 0 = .int .i64 256) : Calls Tryd.prog 39 #[pt rp 0, U64 x] w0 fun e w' => e = .returned (U64 (Sha.cutw true x)) ∧ Below w0.heap.size w0 w' := by
 refine enter (n := 13) Tryd.func39 rfl rfl rfl ?_
 have hk : Below w0.heap.size w0 w0 := Below.refl _ _
 have lt_rp := r_rp.lt
 refine sr ?_
 refine w_as (evc (U64 (0#64))) ?_
 refine nt ?_
 refine wp_seq ?_
 refine sr ?_
 refine w_mv (ev (pt rp 0) rfl rfl) ?_
 refine w_val (y_nc (ev (pt rp 0) rfl rfl)) ?_
 refine w_val (v := pt rp 0) (y_off (y_fa (ev (pt rp 0) rfl rfl) (ShaMT.fa44_0 _ _)) (by first | rfl | omega)) ?_
 refine w_val (v := .int .i64 256) (y_ld (ev (pt rp 0) rfl rfl) ShaMT.sc3 (r_rp.val (by omega) hF)) ?_
 refine w_val (y_bin (ev (.int .i64 256) rfl rfl) (evc (.int .i64 256)) b_eql) ?_
 refine nt ?_
 refine c_tt (ev (.bool true) rfl rfl) ?_
 refine sr ?_
 refine w_mv (ev (U64 x) rfl rfl) ?_
 refine w_val (y_bin (ev (U64 x) rfl rfl) (evc (.int .u64 32)) (shr64 (c := 32) rfl)) ?_
 refine w_as (ev (U64 (x >>> 32)) rfl rfl) ?_
 refine nt ?_
 refine wp_ret ?_
 refine then_r ?_
 refine fin_ret1 rfl (ev (U64 (x >>> 32)) rfl rfl) ?_
 refine ⟨congrArg Ending.returned ?_, hk⟩
 show (U64 (x >>> 32) : Value) = U64 (Sha.cutw true x)
 rfl

set_option maxRecDepth 100000 in
set_option maxHeartbeats 1000000 in
theorem make_256  (w0 : World) : Calls Tryd.prog 22 #[.int .i64 256] w0 fun e w' => ∃ rp g cap, e = .returned (.pointer (some ⟨rp, 0, none⟩)) ∧ w0.heap.size ≤ rp ∧ w0.heap.size ≤ g ∧ rp ≠ g ∧ Row w' rp 44 25 (Sha.rrow (.int .i64 256) (.int .i64 32) (.int .i64 64) (.int .i64 64) (.slice (some ⟨g, 0, none⟩) 64 cap) (Sha.H0 256) (fun i => U64 (BitVec.ofNat 64 (Sha.trn true i)))) ∧ Row w' g 39 (64 * 1) (fun j => U64 (Sha.K true j)) ∧ Below w0.heap.size w0 w' := by
 refine enter (n := 88) Tryd.func22 rfl rfl rfl ?_
 have hk : Below w0.heap.size w0 w0 := Below.refl _ _
 refine sr ?_
 refine w_as (evc (.pointer none)) ?_
 refine nt ?_
 refine sr ?_
 refine w_mv (ev (.int .i64 256) rfl rfl) ?_
 refine w_mv (ev (.int .i64 256) rfl rfl) ?_
 refine w_val (y_bin (ev (.int .i64 256) rfl rfl) (evc (.int .i64 8)) (b_quo (by omega))) ?_
 refine w_val (v := .agg (arr 12 (fun j => if j < 1 then U64 (1#64) else if j < 2 then U64 (8#64) else if j < 3 then U64 (7#64) else if j < 4 then U64 (19#64) else if j < 5 then U64 (61#64) else if j < 6 then U64 (6#64) else if j < 7 then U64 (28#64) else if j < 8 then U64 (34#64) else if j < 9 then U64 (39#64) else if j < 10 then U64 (14#64) else if j < 11 then U64 (18#64) else U64 (41#64)))) (y_build (vs := #[(0, U64 (1#64)), (1, U64 (8#64)), (2, U64 (7#64)), (3, U64 (19#64)), (4, U64 (61#64)), (5, U64 (6#64)), (6, U64 (28#64)), (7, U64 (34#64)), (8, U64 (39#64)), (9, U64 (14#64)), (10, U64 (18#64)), (11, U64 (41#64))]) (mp_cons (evc (U64 (1#64))) (mp_cons (evc (U64 (8#64))) (mp_cons (evc (U64 (7#64))) (mp_cons (evc (U64 (19#64))) (mp_cons (evc (U64 (61#64))) (mp_cons (evc (U64 (6#64))) (mp_cons (evc (U64 (28#64))) (mp_cons (evc (U64 (34#64))) (mp_cons (evc (U64 (39#64))) (mp_cons (evc (U64 (14#64))) (mp_cons (evc (U64 (18#64))) (mp_cons (evc (U64 (41#64))) mp0)))))))))))) (fun w => by kernel_rfl)) ?_
 refine w_val (v := .agg (arr 25 (fun j => if j < 1 then .int .i64 256 else if j < 2 then .int .i64 32 else if j < 3 then .int .i64 128 else if j < 4 then .int .i64 80 else if j < 5 then .slice none 0 0 else if j < 13 then U64 (0#64) else U64 (BitVec.ofNat 64 (Sha.trn false (j - 13)))))) (y_build (vs := #[(0, .int .i64 256), (1, .int .i64 32), (2, .int .i64 128), (3, .int .i64 80), (6, .agg (arr 12 (fun j => if j < 1 then U64 (1#64) else if j < 2 then U64 (8#64) else if j < 3 then U64 (7#64) else if j < 4 then U64 (19#64) else if j < 5 then U64 (61#64) else if j < 6 then U64 (6#64) else if j < 7 then U64 (28#64) else if j < 8 then U64 (34#64) else if j < 9 then U64 (39#64) else if j < 10 then U64 (14#64) else if j < 11 then U64 (18#64) else U64 (41#64))))]) (mp_cons (ev (.int .i64 256) rfl rfl) (mp_cons (ev (.int .i64 32) rfl rfl) (mp_cons (evc (.int .i64 128)) (mp_cons (evc (.int .i64 80)) (mp_cons (ev (.agg (arr 12 (fun j => if j < 1 then U64 (1#64) else if j < 2 then U64 (8#64) else if j < 3 then U64 (7#64) else if j < 4 then U64 (19#64) else if j < 5 then U64 (61#64) else if j < 6 then U64 (6#64) else if j < 7 then U64 (28#64) else if j < 8 then U64 (34#64) else if j < 9 then U64 (39#64) else if j < 10 then U64 (14#64) else if j < 11 then U64 (18#64) else U64 (41#64)))) rfl rfl) mp0))))) (fun w => by kernel_rfl)) ?_
 refine w_box (m := 25) (F := fun j => if j < 1 then .int .i64 256 else if j < 2 then .int .i64 32 else if j < 3 then .int .i64 128 else if j < 4 then .int .i64 80 else if j < 5 then .slice none 0 0 else if j < 13 then U64 (0#64) else U64 (BitVec.ofNat 64 (Sha.trn false (j - 13)))) (ev (.agg (arr 25 (fun j => if j < 1 then .int .i64 256 else if j < 2 then .int .i64 32 else if j < 3 then .int .i64 128 else if j < 4 then .int .i64 80 else if j < 5 then .slice none 0 0 else if j < 13 then U64 (0#64) else U64 (BitVec.ofNat 64 (Sha.trn false (j - 13)))))) rfl rfl) rfl ?_
 intro b_14 w1 hbe_b_14 r_b_14 hb2
 have ge_b_14 : w0.heap.size ≤ b_14 := by have := hk.size; omega
 clear hbe_b_14
 replace hk := thenB hk hb2
 refine w_as (ev (pt b_14 0) rfl rfl) ?_
 refine nt ?_
 refine sr ?_
 refine w_as (evc (.int .i64 0)) ?_
 refine nt ?_
 refine wp_seq ?_
 refine sr ?_
 refine w_mv (ev (.int .i64 256) rfl rfl) ?_
 refine w_val (y_bin (ev (.int .i64 256) rfl rfl) (evc (.int .i64 384)) b_eql) ?_
 refine nt ?_
 refine c_ff (ev (.bool false) rfl rfl) ?_
 refine wp_skip ?_
 refine then_n ?_
 refine wp_seq ?_
 refine sr ?_
 refine w_mv (ev (.int .i64 256) rfl rfl) ?_
 refine w_val (y_bin (ev (.int .i64 256) rfl rfl) (evc (.int .i64 256)) b_eql) ?_
 refine nt ?_
 refine c_tt (ev (.bool true) rfl rfl) ?_
 refine sr ?_
 refine w_mv (ev (pt b_14 0) rfl rfl) ?_
 refine w_val (y_nc (ev (pt b_14 0) rfl rfl)) ?_
 refine w_val (v := pt b_14 2) (y_off (y_fa (ev (pt b_14 0) rfl rfl) (ShaMT.fa44_2 _ _)) (by first | rfl | omega)) ?_
 refine w_st (v := .int .i64 64) (ev (pt b_14 2) rfl rfl) (evc (.int .i64 64)) rfl rfl ShaMT.sz3 r_b_14 (by omega) ?_
 clear r_b_14; intro w3 r_b_14 hg4 _
 replace hk := thenG hk hg4 (by omega)
 refine nt ?_
 refine sr ?_
 refine w_mv (ev (pt b_14 0) rfl rfl) ?_
 refine w_val (y_nc (ev (pt b_14 0) rfl rfl)) ?_
 refine w_val (v := pt b_14 3) (y_off (y_fa (ev (pt b_14 0) rfl rfl) (ShaMT.fa44_3 _ _)) (by first | rfl | omega)) ?_
 refine w_st (v := .int .i64 64) (ev (pt b_14 3) rfl rfl) (evc (.int .i64 64)) rfl rfl ShaMT.sz3 r_b_14 (by omega) ?_
 clear r_b_14; intro w5 r_b_14 hg6 _
 replace hk := thenG hk hg6 (by omega)
 refine nt ?_
 refine wp_region_lit ?_
 refine w_mv (ev (pt b_14 0) rfl rfl) ?_
 refine w_val (v := .agg (arr 12 (fun j => if j < 1 then U64 (7#64) else if j < 2 then U64 (18#64) else if j < 3 then U64 (3#64) else if j < 4 then U64 (17#64) else if j < 5 then U64 (19#64) else if j < 6 then U64 (10#64) else if j < 7 then U64 (2#64) else if j < 8 then U64 (13#64) else if j < 9 then U64 (22#64) else if j < 10 then U64 (6#64) else if j < 11 then U64 (11#64) else U64 (25#64)))) (y_build (vs := #[(0, U64 (7#64)), (1, U64 (18#64)), (2, U64 (3#64)), (3, U64 (17#64)), (4, U64 (19#64)), (5, U64 (10#64)), (6, U64 (2#64)), (7, U64 (13#64)), (8, U64 (22#64)), (9, U64 (6#64)), (10, U64 (11#64)), (11, U64 (25#64))]) (mp_cons (evc (U64 (7#64))) (mp_cons (evc (U64 (18#64))) (mp_cons (evc (U64 (3#64))) (mp_cons (evc (U64 (17#64))) (mp_cons (evc (U64 (19#64))) (mp_cons (evc (U64 (10#64))) (mp_cons (evc (U64 (2#64))) (mp_cons (evc (U64 (13#64))) (mp_cons (evc (U64 (22#64))) (mp_cons (evc (U64 (6#64))) (mp_cons (evc (U64 (11#64))) (mp_cons (evc (U64 (25#64))) mp0)))))))))))) (fun w => by kernel_rfl)) ?_
 refine w_val (y_nc (ev (pt b_14 0) rfl rfl)) ?_
 refine w_val (v := pt b_14 13) (y_off (y_fa (ev (pt b_14 0) rfl rfl) (ShaMT.fa44_6 _ _)) (by first | rfl | omega)) ?_
 refine w_sta (k := 12) (G := fun j => if j < 1 then U64 (7#64) else if j < 2 then U64 (18#64) else if j < 3 then U64 (3#64) else if j < 4 then U64 (17#64) else if j < 5 then U64 (19#64) else if j < 6 then U64 (10#64) else if j < 7 then U64 (2#64) else if j < 8 then U64 (13#64) else if j < 9 then U64 (22#64) else if j < 10 then U64 (6#64) else if j < 11 then U64 (11#64) else U64 (25#64)) (ev (pt b_14 13) rfl rfl) (ev (.agg (arr 12 (fun j => if j < 1 then U64 (7#64) else if j < 2 then U64 (18#64) else if j < 3 then U64 (3#64) else if j < 4 then U64 (17#64) else if j < 5 then U64 (19#64) else if j < 6 then U64 (10#64) else if j < 7 then U64 (2#64) else if j < 8 then U64 (13#64) else if j < 9 then U64 (22#64) else if j < 10 then U64 (6#64) else if j < 11 then U64 (11#64) else U64 (25#64)))) rfl rfl) oc ShaMT.sz42 r_b_14 (by omega) ?_
 clear r_b_14; intro w7 r_b_14 hg8 _
 replace hk := thenG hk hg8 (by omega)
 refine nt ?_
 refine wp_seq ?_
 replace r_b_14 := r_b_14.congr (g := Sha.rrow (.int .i64 256) (.int .i64 32) (.int .i64 64) (.int .i64 64) (.slice none 0 0) (fun _ => 0#64) (fun i => U64 (BitVec.ofNat 64 (Sha.trn true i)))) (fun j hj => by rcases (by omega : j = 0 ∨ j = 1 ∨ j = 2 ∨ j = 3 ∨ j = 4 ∨ j = 5 ∨ j = 6 ∨ j = 7 ∨ j = 8 ∨ j = 9 ∨ j = 10 ∨ j = 11 ∨ j = 12 ∨ j = 13 ∨ j = 14 ∨ j = 15 ∨ j = 16 ∨ j = 17 ∨ j = 18 ∨ j = 19 ∨ j = 20 ∨ j = 21 ∨ j = 22 ∨ j = 23 ∨ j = 24) with h | h | h | h | h | h | h | h | h | h | h | h | h | h | h | h | h | h | h | h | h | h | h | h | h <;> (subst h; rfl))
 refine wp_region_lit ?_
 refine w_as (evc (.int .i64 0)) ?_
 refine nt ?_
 refine wp_seq ?_
 refine sr ?_
 refine w_as (evc (U64 (2#64))) ?_
 refine nt ?_
 refine wp_block ?_
 refine c_loop (fun dN aN wl => ∃ (p : Nat) (vk : Value), dN = (410 - p) ∧ ∃ f9, aN = fr 88 f9 ∧ (2 ≤ p) ∧ (p ≤ 410) ∧ f9 0 = .int .i64 256 ∧ f9 2 = .pointer none ∧ f9 3 = pt b_14 0 ∧ f9 4 = .int .i64 0 ∧ f9 5 = .int .i64 (((Sha.pc p) : Nat) : Int) ∧ f9 6 = U64 (BitVec.ofNat 64 p) ∧ Row wl b_14 44 25 (Sha.rrow (.int .i64 256) (.int .i64 32) (.int .i64 64) (.int .i64 64) (vk) (Sha.bg 0 256 p) (fun i => U64 (BitVec.ofNat 64 (Sha.trn true i)))) ∧ Own wl w0.heap.size 39 1 vk (min (Sha.pc p) 64) (fun j => U64 (Sha.K true j)) ∧ vk.ownBlock ≠ some b_14 ∧ Below w0.heap.size w0 wl) (410 - 2) ?_ ?_
 · exact ⟨2, (.slice none 0 0), rfl, _, rfl, iv, iv, rfl, rfl, rfl, rfl, (Eq.trans (b := .int .i64 0) rfl (by rfl)), (Eq.trans (b := U64 (2#64)) rfl (by rfl)), (r_b_14.congr (fun j hj => by rcases (by omega : j = 0 ∨ j = 1 ∨ j = 2 ∨ j = 3 ∨ j = 4 ∨ j = 5 ∨ j = 6 ∨ j = 7 ∨ j = 8 ∨ j = 9 ∨ j = 10 ∨ j = 11 ∨ j = 12 ∨ j = 13 ∨ j = 14 ∨ j = 15 ∨ j = 16 ∨ j = 17 ∨ j = 18 ∨ j = 19 ∨ j = 20 ∨ j = 21 ∨ j = 22 ∨ j = 23 ∨ j = 24) with h | h | h | h | h | h | h | h | h | h | h | h | h | h | h | h | h | h | h | h | h | h | h | h | h <;> (subst h; rfl))), Own.nil, (fun e => by cases e), hk⟩
 ·skip
  clear r_b_14 hk
  rintro _ _ w10 ⟨p, vk, rfl, f9, rfl, i1_0, i1_1, s1_0, s1_2, s1_3, s1_4, s1_5, s1_6, r_b_14, o_vk, no_vk_b_14, hk⟩
  have hp9 := Sha.pc_lt p i1_1
  have hpw : (BitVec.ofNat 64 p).toNat = p := by rw [BitVec.toNat_ofNat]; omega
  refine wp_seq ?_
  refine sr ?_
  refine w_mv (ev (.int .i64 (((Sha.pc p) : Nat) : Int)) s1_5 rfl) ?_
  refine w_val (y_bin (ev (.int .i64 (((Sha.pc p) : Nat) : Int)) rfl rfl) (evc (.int .i64 80)) b_lss) ?_
  refine nt ?_
  refine c_if (p := (((Sha.pc p) : Nat) : Int) < 80) (ev (.bool (decide ((((Sha.pc p) : Nat) : Int) < 80))) rfl rfl) (fun hc11 => ?_) (fun hc11 => ?_)
  ·skip
   refine wp_skip ?_
   refine then_n ?_
   refine wp_seq ?_
   refine wp_block ?_
   refine sr ?_
   refine w_as (evc (.bool true)) ?_
   refine nt ?_
   refine wp_seq ?_
   refine sr ?_
   refine w_as (evc (U64 (2#64))) ?_
   refine nt ?_
   refine wp_block ?_
   refine c_loop (fun dN aN wl => ∃ (q : Nat) (vj : Value), dN = (22 - q) ∧ ∃ f12, aN = fr 88 f12 ∧ (2 ≤ q) ∧ (q ≤ 21) ∧ (q = 2 ∨ (q - 1) * (q - 1) ≤ p) ∧ f12 0 = .int .i64 256 ∧ f12 2 = .pointer none ∧ f12 3 = pt b_14 0 ∧ f12 4 = .int .i64 0 ∧ f12 5 = .int .i64 (((Sha.pc p) : Nat) : Int) ∧ f12 6 = U64 (BitVec.ofNat 64 p) ∧ f12 7 = .bool (Sha.np p q) ∧ f12 8 = U64 (BitVec.ofNat 64 q) ∧ Row wl b_14 44 25 (Sha.rrow (.int .i64 256) (.int .i64 32) (.int .i64 64) (.int .i64 64) (vj) (Sha.bg 0 256 p) (fun i => U64 (BitVec.ofNat 64 (Sha.trn true i)))) ∧ Own wl w0.heap.size 39 1 vj (min (Sha.pc p) 64) (fun j => U64 (Sha.K true j)) ∧ vj.ownBlock ≠ some b_14 ∧ Below w0.heap.size w0 wl) (22 - 2) ?_ ?_
   · exact ⟨2, vk, rfl, _, rfl, iv, (by decide), (by exact Or.inl rfl), s1_0, s1_2, s1_3, s1_4, s1_5, s1_6, (Eq.trans (b := .bool true) rfl (by exact congrArg Value.bool (Sha.np_two p).symm)), (Eq.trans (b := U64 (2#64)) rfl (by rfl)), (r_b_14.congr (fun j hj => by rfl)), o_vk, no_vk_b_14, hk⟩
   ·skip
    clear r_b_14 o_vk hk
    rintro _ _ w13 ⟨q, vj, rfl, f12, rfl, i2_0, i2_1, i2_2, s2_0, s2_2, s2_3, s2_4, s2_5, s2_6, s2_7, s2_8, r_b_14, o_vj, no_vj_b_14, hk⟩
    refine wp_seq ?_
    refine sr ?_
    refine w_mv (ev (U64 (BitVec.ofNat 64 q)) s2_8 rfl) ?_
    refine w_mv (ev (U64 (BitVec.ofNat 64 q)) s2_8 rfl) ?_
    refine w_val (y_bin (ev (U64 (BitVec.ofNat 64 q)) rfl rfl) (ev (U64 (BitVec.ofNat 64 q)) rfl rfl) mul64) ?_
    refine w_mv (ev (U64 (BitVec.ofNat 64 p)) s2_6 rfl) ?_
    refine w_val (y_bin (ev (U64 ((BitVec.ofNat 64 q) * (BitVec.ofNat 64 q))) rfl rfl) (ev (U64 (BitVec.ofNat 64 p)) rfl rfl) leq64) ?_
    refine nt ?_
    refine c_if (p := ((BitVec.ofNat 64 q) * (BitVec.ofNat 64 q)).toNat ≤ (BitVec.ofNat 64 p).toNat) (ev (.bool (decide (((BitVec.ofNat 64 q) * (BitVec.ofNat 64 q)).toNat ≤ (BitVec.ofNat 64 p).toNat))) rfl rfl) (fun hc14 => ?_) (fun hc14 => ?_)
    ·skip
     refine wp_skip ?_
     refine then_n ?_
     refine wp_seq ?_
     refine wp_block ?_
     refine sr ?_
     refine w_mv (ev (U64 (BitVec.ofNat 64 p)) s2_6 rfl) ?_
     refine w_mv (ev (U64 (BitVec.ofNat 64 q)) s2_8 rfl) ?_
     refine w_val (y_bin (ev (U64 (BitVec.ofNat 64 p)) rfl rfl) (ev (U64 (BitVec.ofNat 64 q)) rfl rfl) (rem64 (by exact Sha.ofNat_ne q (by omega) (by omega)))) ?_
     refine w_val (y_bin (ev (U64 ((BitVec.ofNat 64 p) % (BitVec.ofNat 64 q))) rfl rfl) (evc (U64 (0#64))) eql64) ?_
     refine nt ?_
     refine c_if (p := ((BitVec.ofNat 64 p) % (BitVec.ofNat 64 q)) = (0#64)) (ev (.bool (decide (((BitVec.ofNat 64 p) % (BitVec.ofNat 64 q)) = (0#64)))) rfl rfl) (fun hc15 => ?_) (fun hc15 => ?_)
     ·skip
      refine wp_region_lit ?_
      refine w_as (evc (.bool false)) ?_
      refine wpList_nil ?_
      refine inb_n ?_
      refine then_n ?_
      refine wp_region_lit ?_
      refine w_mv (ev (U64 (BitVec.ofNat 64 q)) s2_8 rfl) ?_
      refine w_val (y_bin (ev (U64 (BitVec.ofNat 64 q)) rfl rfl) (evc (U64 (1#64))) add64) ?_
      refine w_as (ev (U64 ((BitVec.ofNat 64 q) + (1#64))) rfl rfl) ?_
      refine wpList_nil ?_
      exact then_n ⟨_, (by omega), q + 1, vj, rfl, _, rfl, iv, (by have := Sha.sq_le q p (by omega) (by rw [Sha.sq_word q (by omega), hpw] at *; omega); omega), (by refine Or.inr ?_; rw [show q + 1 - 1 = q from by omega]; rw [Sha.sq_word q (by omega), hpw] at *; omega), s2_0, s2_2, s2_3, s2_4, s2_5, s2_6, (Eq.trans (b := .bool false) rfl (by first | exact congrArg Value.bool (Sha.np_div p q (by omega) (by omega) (by omega) (by assumption)).symm | exact congrArg Value.bool (Sha.np_no p q (by omega) (by omega) (by omega) (by assumption)).symm)), (Eq.trans (b := U64 ((BitVec.ofNat 64 q) + (1#64))) rfl (by exact congrArg U64 (BitVec.ofNat_add (n := 64) q 1).symm)), r_b_14, o_vj, no_vj_b_14, hk⟩
     ·skip
      refine wp_skip ?_
      refine inb_n ?_
      refine then_n ?_
      refine wp_region_lit ?_
      refine w_mv (ev (U64 (BitVec.ofNat 64 q)) s2_8 rfl) ?_
      refine w_val (y_bin (ev (U64 (BitVec.ofNat 64 q)) rfl rfl) (evc (U64 (1#64))) add64) ?_
      refine w_as (ev (U64 ((BitVec.ofNat 64 q) + (1#64))) rfl rfl) ?_
      refine wpList_nil ?_
      exact then_n ⟨_, (by omega), q + 1, vj, rfl, _, rfl, iv, (by have := Sha.sq_le q p (by omega) (by rw [Sha.sq_word q (by omega), hpw] at *; omega); omega), (by refine Or.inr ?_; rw [show q + 1 - 1 = q from by omega]; rw [Sha.sq_word q (by omega), hpw] at *; omega), s2_0, s2_2, s2_3, s2_4, s2_5, s2_6, (by refine Eq.trans (b := .bool (Sha.np p q)) ?_ ?_; exact s2_7; (first | exact congrArg Value.bool (Sha.np_div p q (by omega) (by omega) (by omega) (by assumption)).symm | exact congrArg Value.bool (Sha.np_no p q (by omega) (by omega) (by omega) (by assumption)).symm)), (Eq.trans (b := U64 ((BitVec.ofNat 64 q) + (1#64))) rfl (by exact congrArg U64 (BitVec.ofNat_add (n := 64) q 1).symm)), r_b_14, o_vj, no_vj_b_14, hk⟩
    ·skip
     refine wp_exit ?_
     refine then_x ?_
     refine then_x ?_
     refine inb_x ?_
     refine then_n ?_
     refine wp_seq ?_
     refine sr ?_
     refine w_mv (ev (.bool (Sha.ip p)) (by refine Eq.trans (b := .bool (Sha.np p q)) ?_ ?_; exact s2_7; (exact congrArg Value.bool (Sha.np_done p q (by omega) (by omega) (by omega) (by omega) i2_2 (by rw [Sha.sq_word q (by omega), hpw] at *; omega)))) rfl) ?_
     refine w_val (y_not (ev (.bool (Sha.ip p)) rfl rfl)) ?_
     refine nt ?_
     refine c_ifb (ev (.bool (!(Sha.ip p))) rfl rfl) (fun hc16 => ?_) (fun hc16 => ?_)
     ·skip
      refine wp_exit ?_
      refine then_x ?_
      refine inb_x ?_
      refine then_n ?_
      refine wp_region_lit ?_
      refine w_mv (ev (U64 (BitVec.ofNat 64 p)) s2_6 rfl) ?_
      refine w_val (y_bin (ev (U64 (BitVec.ofNat 64 p)) rfl rfl) (evc (U64 (1#64))) add64) ?_
      refine w_as (ev (U64 ((BitVec.ofNat 64 p) + (1#64))) rfl rfl) ?_
      refine wpList_nil ?_
      have hpc := Sha.pc_no p (by omega) (by simpa using hc16)
      exact then_n ⟨_, (by omega), p + 1, vj, rfl, _, rfl, iv, iv, s2_0, s2_2, s2_3, s2_4, (by refine Eq.trans (b := .int .i64 (((Sha.pc p) : Nat) : Int)) ?_ ?_; exact s2_5; (congr 1; omega)), (Eq.trans (b := U64 ((BitVec.ofNat 64 p) + (1#64))) rfl (by exact congrArg U64 (BitVec.ofNat_add (n := 64) p 1).symm)), (r_b_14.congr (fun j hj => by first | (exfalso; omega) | exact Sha.rr_a _ _ _ _ _ _ _ _ (Sha.bg_no 0 256 p (by omega)) j | exact Sha.rr_b _ _ _ _ _ _ _ _ _ (Sha.bg_no 0 256 p (by omega)) j | exact Sha.rr_d _ _ _ _ _ _ _ _ _ _ _ (by omega) (Sha.bg_yes 0 256 p _ hpc (by omega) (by omega) (Sha.H_of_256 p (by omega) hip_ (by omega))) j)), (own_n (o_vj.congr (fun j hj => by first | (with_reducible rfl) | ((try dsimp only); by_cases e : j < min (Sha.pc p) 64 * 1; (rw [if_pos e]); (rw [if_neg e, show j = Sha.pc p from by omega]; exact congrArg U64 (Sha.K_of true p (by omega) hip_))))) (by omega)), no_vj_b_14, hk⟩
     ·skip
      refine wp_skip ?_
      refine then_n ?_
      refine wp_seq ?_
      refine sr ?_
      refine w_mv (ev (.int .i64 (((Sha.pc p) : Nat) : Int)) s2_5 rfl) ?_
      refine w_mv (ev (pt b_14 0) s2_3 rfl) ?_
      refine w_val (y_nc (ev (pt b_14 0) rfl rfl)) ?_
      refine w_val (v := pt b_14 3) (y_off (y_fa (ev (pt b_14 0) rfl rfl) (ShaMT.fa44_3 _ _)) (by first | rfl | omega)) ?_
      refine w_val (v := .int .i64 64) (y_ld (ev (pt b_14 3) rfl rfl) ShaMT.sc3 (r_b_14.val (by omega) ((if_neg (by omega)).trans ((if_neg (by omega)).trans ((if_neg (by omega)).trans (etv (if_pos (by omega)))))))) ?_
      refine w_val (y_bin (ev (.int .i64 (((Sha.pc p) : Nat) : Int)) rfl rfl) (ev (.int .i64 64) rfl rfl) b_lss) ?_
      refine nt ?_
      refine c_if (p := (((Sha.pc p) : Nat) : Int) < 64) (ev (.bool (decide ((((Sha.pc p) : Nat) : Int) < 64))) rfl rfl) (fun hc17 => ?_) (fun hc17 => ?_)
      ·skip
       refine region_dc (Nat.testBit 15360) 14 ShaMT.mixed rfl ?_
       intro w18 hb19
       replace o_vj := o_vj.step hb19
       replace r_b_14 := r_b_14.step hb19
       replace hk := thenB hk hb19
       have hS : Cls w18 w18 := Below.refl _ _
       refine d_pure (v := pt b_14 0) 0 rfl (by kernel_rfl) (by kernel_rfl) (by kernel_rfl) (by kernel_rfl) (fun _ _ _ h => h) (fun w' => y_mv (ev (pt b_14 0) s2_3 rfl)) ?_
       refine d_pure (v := pt b_14 0) 1 rfl (by kernel_rfl) (by kernel_rfl) (by kernel_rfl) (by kernel_rfl) (fun _ _ _ h => h) (fun w' => y_mv (ev (pt b_14 0) s2_3 rfl)) ?_
       refine d_pure (v := pt b_14 0) 2 rfl (by kernel_rfl) (by kernel_rfl) (by kernel_rfl) (by kernel_rfl) (fun _ _ _ h => h) (fun w' => y_nc (ev (pt b_14 0) rfl rfl)) ?_
       refine d_pure (v := pt b_14 4) 3 rfl (by kernel_rfl) (by kernel_rfl) (by kernel_rfl) (by kernel_rfl) (fun _ _ _ h => h) (fun w' => y_off (y_fa (ev (pt b_14 0) rfl rfl) (ShaMT.fa44_4 _ _)) (by first | rfl | omega)) ?_
       refine d_take (v := vj) 4 (Nat.testBit 15376) rfl (by kernel_rfl) (by kernel_rfl) (by kernel_rfl) (by kernel_rfl) (by kernel_rfl) (by kernel_rfl) (fun _ _ _ h => h) hS (fun w' hw' => y_ld (ev (pt b_14 4) rfl rfl) ShaMT.sc38 (cls_cell (r_b_14.val (by omega) ((if_neg (by omega)).trans ((if_neg (by omega)).trans ((if_neg (by omega)).trans ((if_neg (by omega)).trans (etv (if_pos (by omega)))))))) r_b_14.lt w' hw')) ?_
       refine d_pure (v := pt b_14 0) 5 rfl (by kernel_rfl) (by kernel_rfl) (by kernel_rfl) (by kernel_rfl) (fun _ _ _ h => h) (fun w' => y_mv (ev (pt b_14 0) s2_3 rfl)) ?_
       refine d_pure (v := U64 (BitVec.ofNat 64 p)) 6 rfl (by kernel_rfl) (by kernel_rfl) (by kernel_rfl) (by kernel_rfl) (fun _ _ _ h => h) (fun w' => y_mv (ev (U64 (BitVec.ofNat 64 p)) s2_6 rfl)) ?_
       refine d_one 7 (by kernel_rfl) rfl ?_
       refine w_call (Tryd.func40) (by kernel_rfl) rfl (m2 (ev (U64 (BitVec.ofNat 64 p)) rfl rfl) (evc (.int .i64 3))) (root_3 p (by omega) w18) ?_
       rintro _ w20 ⟨rfl, hb21⟩
       refine ⟨_, rfl, ?_⟩
       replace o_vj := o_vj.step hb21
       replace r_b_14 := r_b_14.step hb21
       replace hk := thenB hk hb21
       replace hS := thenB hS hb21
       refine wpList_nil ?_
       refine then_n ⟨fun _ h => thenB h (by assumption), ?_⟩
       refine d_one 8 (by kernel_rfl) rfl ?_
       refine w_call (Tryd.func39) (by kernel_rfl) rfl (m2 (ev (pt b_14 0) rfl rfl) (ev (U64 (BitVec.ofNat 64 (Sha.rt p 3 69))) rfl rfl)) (cut_t b_14 (BitVec.ofNat 64 (Sha.rt p 3 69)) w20 (F := Sha.rrow (.int .i64 256) (.int .i64 32) (.int .i64 64) (.int .i64 64) (vj) (Sha.bg 0 256 p) (fun i => U64 (BitVec.ofNat 64 (Sha.trn true i)))) r_b_14 rfl) ?_
       rintro _ w22 ⟨rfl, hb23⟩
       refine ⟨_, rfl, ?_⟩
       replace o_vj := o_vj.step hb23
       replace r_b_14 := r_b_14.step hb23
       replace hk := thenB hk hb23
       replace hS := thenB hS hb23
       refine wpList_nil ?_
       refine then_n ⟨fun _ h => thenB h (by assumption), ?_⟩
       refine d_one 9 (by kernel_rfl) rfl ?_
       refine w_bs1 (m := 1) (e := 39) (F := fun j => U64 (Sha.cutw true (BitVec.ofNat 64 (Sha.rt p 3 69)))) (ev (U64 (Sha.cutw true (BitVec.ofNat 64 (Sha.rt p 3 69)))) rfl rfl) (fun w => by kernel_rfl) ?_
       intro b_61 w24 hbe_b_61 r_b_61 hb25
       have ne_b_14_b_61 : b_14 ≠ b_61 := by have := r_b_14.lt; omega
       have no_vj_b_61 : vj.ownBlock ≠ some b_61 := o_vj.apart (by omega)
       have ge_b_61 : w0.heap.size ≤ b_61 := by have := hk.size; omega
       clear hbe_b_61
       replace o_vj := o_vj.step hb25
       replace r_b_14 := r_b_14.step hb25
       replace hk := thenB hk hb25
       replace hS := thenB hS hb25
       refine wpList_nil ?_
       refine then_n ⟨fun _ h => thenB h (by assumption), ?_⟩
       refine d_one 10 (by kernel_rfl) rfl ?_
       refine w_app (k := (min (Sha.pc p) 64)) (m := 1) (size := 1) (bytes := 8) (ev vj rfl rfl) (ev (.slice (some ⟨b_61, 0, none⟩) 1 1) rfl rfl) Tryd.underlying38 (by kernel_rfl) (by decide) o_vj hk.size r_b_61 (by omega) oca (by simp only [maxLen]; omega) (by omega) ?_
       intro v26 w27 o_v26 hg28 hv29
       have no_v26_b_14 := no_new no_vj_b_14 r_b_14.lt hv29
       replace r_b_14 := r_b_14.stepO hg28 no_vj_b_14
       have no_v26_b_61 := no_new no_vj_b_61 r_b_61.lt hv29
       replace r_b_61 := r_b_61.stepO hg28 no_vj_b_61
       replace hk := thenO hk hg28 (fun g e => (o_vj.block_lt g e).2)
       clear o_vj
       clear hS
       refine wpList_nil ?_
       refine then_n ⟨fun hD => absurd hD (by decide), ?_⟩
       refine d_one 11 (by kernel_rfl) rfl ?_
       refine w_val (y_nc (ev (pt b_14 0) rfl rfl)) ?_
       refine wpList_nil ?_
       refine then_n ⟨fun hD => absurd hD (by decide), ?_⟩
       refine d_one 12 (by kernel_rfl) rfl ?_
       refine w_val (v := pt b_14 4) (y_off (y_fa (ev (pt b_14 0) rfl rfl) (ShaMT.fa44_4 _ _)) (by first | rfl | omega)) ?_
       refine wpList_nil ?_
       refine then_n ⟨fun hD => absurd hD (by decide), ?_⟩
       refine d_one 13 (by kernel_rfl) rfl ?_
       refine w_st (v := v26) (ev (pt b_14 4) rfl rfl) (ev v26 rfl rfl) (o_v26.one) (o_v26.cells) ShaMT.sz38 r_b_14 (by omega) ?_
       clear r_b_14; intro w30 r_b_14 hg31 _
       replace o_v26 := o_v26.stepG hg31 no_v26_b_14
       replace r_b_61 := r_b_61.stepG hg31 (by omega)
       replace hk := thenG hk hg31 (by omega)
       refine wpList_nil ?_
       refine then_n ⟨fun hD => absurd hD (by decide), ?_⟩
       refine d_done (by kernel_rfl) ?_
       refine then_n ?_
       refine wp_seq ?_
       refine sr ?_
       refine w_mv (ev (.int .i64 (((Sha.pc p) : Nat) : Int)) s2_5 rfl) ?_
       refine w_mv (ev (.int .i64 0) s2_4 rfl) ?_
       refine w_val (y_bin (ev (.int .i64 (((Sha.pc p) : Nat) : Int)) rfl rfl) (ev (.int .i64 0) rfl rfl) b_geq) ?_
       refine w_mv (ev (.bool (decide (0 ≤ (((Sha.pc p) : Nat) : Int)))) rfl rfl) ?_
       by_cases hc32 : 0 ≤ (((Sha.pc p) : Nat) : Int)
       ·skip
        refine w_val_g (v := .int .i64 (((Sha.pc p) : Nat) : Int)) (want_yes (j := 3) rfl rfl (ev (.bool true) (Eq.trans (b := .bool (decide (0 ≤ (((Sha.pc p) : Nat) : Int)))) rfl (by rw [decide_eq_true hc32])) rfl) rfl) (y_mv (ev (.int .i64 (((Sha.pc p) : Nat) : Int)) s2_5 rfl)) ?_
        refine w_val_g (v := .int .i64 0) (want_yes (j := 3) rfl rfl (ev (.bool true) (Eq.trans (b := .bool (decide (0 ≤ (((Sha.pc p) : Nat) : Int)))) rfl (by rw [decide_eq_true hc32])) rfl) rfl) (y_mv (ev (.int .i64 0) s2_4 rfl)) ?_
        refine w_val_g (want_yes (j := 3) rfl rfl (ev (.bool true) (Eq.trans (b := .bool (decide (0 ≤ (((Sha.pc p) : Nat) : Int)))) rfl (by rw [decide_eq_true hc32])) rfl) rfl) (y_bin (ev (.int .i64 0) rfl rfl) (evc (.int .i64 8)) (b_add (by omega))) ?_
        refine w_val_g (want_yes (j := 3) rfl rfl (ev (.bool true) (Eq.trans (b := .bool (decide (0 ≤ (((Sha.pc p) : Nat) : Int)))) rfl (by rw [decide_eq_true hc32])) rfl) rfl) (y_bin (ev (.int .i64 (((Sha.pc p) : Nat) : Int)) rfl rfl) (ev (.int .i64 8) rfl rfl) b_lss) ?_
        refine w_val (y_pick_t (ev (.bool true) (Eq.trans (b := .bool (decide (0 ≤ (((Sha.pc p) : Nat) : Int)))) rfl (by rw [decide_eq_true hc32])) rfl) (ev (.bool (decide ((((Sha.pc p) : Nat) : Int) < 8))) rfl rfl)) ?_
        refine nt ?_
        refine c_if (p := (((Sha.pc p) : Nat) : Int) < 8) (ev (.bool (decide ((((Sha.pc p) : Nat) : Int) < 8))) rfl rfl) (fun hc33 => ?_) (fun hc33 => ?_)
        ·skip
         refine region_t 11 ShaMT.mixed (by kernel_rfl) ?_
         simp only [List.take_succ_cons, List.take_zero, List.drop_succ_cons, List.drop_zero]
         refine q_mv (ev (pt b_14 0) s2_3 rfl) ?_
         refine q_mv (ev (.int .i64 (((Sha.pc p) : Nat) : Int)) s2_5 rfl) ?_
         refine q_mv (ev (.int .i64 0) s2_4 rfl) ?_
         refine q_val (fun w' hw' => y_bin (ev (.int .i64 (((Sha.pc p) : Nat) : Int)) rfl rfl) (ev (.int .i64 0) rfl rfl) (b_sub (by omega))) ?_
         refine q_mv (ev (pt b_14 0) s2_3 rfl) ?_
         refine q_mv (ev (U64 (BitVec.ofNat 64 p)) s2_6 rfl) ?_
         refine q_call (v := U64 (BitVec.ofNat 64 (Sha.rt p 2 69))) (Tryd.func40) (by kernel_rfl) rfl (m2 (ev (U64 (BitVec.ofNat 64 p)) rfl rfl) (evc (.int .i64 2))) (fun w' hw' => root_2 p (by omega) w') ?_
         refine q_call (v := U64 (Sha.cutw true (BitVec.ofNat 64 (Sha.rt p 2 69)))) (Tryd.func39) (by kernel_rfl) rfl (m2 (ev (pt b_14 0) rfl rfl) (ev (U64 (BitVec.ofNat 64 (Sha.rt p 2 69))) rfl rfl)) (fun w' hw' => cut_t b_14 (BitVec.ofNat 64 (Sha.rt p 2 69)) w' (F := fun j => if j = 4 then v26 else (Sha.rrow (.int .i64 256) (.int .i64 32) (.int .i64 64) (.int .i64 64) (vj) (Sha.bg 0 256 p) (fun i => U64 (BitVec.ofNat 64 (Sha.trn true i)))) j) (r_b_14.step hw') rfl) ?_
         refine q_val (fun w' hw' => y_nc (ev (pt b_14 0) rfl rfl)) ?_
         refine q_val (v := pt b_14 5) (fun w' hw' => y_off (y_fa (ev (pt b_14 0) rfl rfl) (ShaMT.fa44_5 _ _)) (by first | rfl | omega)) ?_
         refine q_val (v := pt b_14 (5 + ((Sha.pc p) - 0))) (fun w' hw' => y_off (y_ia1 (i := ((Sha.pc p) - 0)) (ev (pt b_14 5) rfl rfl) (ev (.int .i64 ((((Sha.pc p) : Nat) : Int) - 0)) rfl rfl) Tryd.underlying40 ShaMT.sz39 (by omega) (by omega)) (by first | rfl | omega)) ?_
         refine q_nil ?_
         intro w34 hb35
         replace o_v26 := o_v26.step hb35
         replace r_b_14 := r_b_14.step hb35
         replace r_b_61 := r_b_61.step hb35
         replace hk := thenB hk hb35
         refine w_st (v := U64 (Sha.cutw true (BitVec.ofNat 64 (Sha.rt p 2 69)))) (ev (pt b_14 (5 + ((Sha.pc p) - 0))) rfl rfl) (ev (U64 (Sha.cutw true (BitVec.ofNat 64 (Sha.rt p 2 69)))) rfl rfl) rfl rfl ShaMT.sz39 r_b_14 (by omega) ?_
         clear r_b_14; intro w36 r_b_14 hg37 _
         replace o_v26 := o_v26.stepG hg37 no_v26_b_14
         replace r_b_61 := r_b_61.stepG hg37 (by omega)
         replace hk := thenG hk hg37 (by omega)
         refine nt ?_
         refine wp_region_lit ?_
         refine w_mv (ev (.int .i64 (((Sha.pc p) : Nat) : Int)) s2_5 rfl) ?_
         refine w_val (y_bin (ev (.int .i64 (((Sha.pc p) : Nat) : Int)) rfl rfl) (evc (.int .i64 1)) (b_add (by omega))) ?_
         refine w_as (ev (.int .i64 ((((Sha.pc p) : Nat) : Int) + 1)) rfl rfl) ?_
         refine wpList_nil ?_
         refine inb_n ?_
         refine then_n ?_
         refine wp_region_lit ?_
         refine w_mv (ev (U64 (BitVec.ofNat 64 p)) s2_6 rfl) ?_
         refine w_val (y_bin (ev (U64 (BitVec.ofNat 64 p)) rfl rfl) (evc (U64 (1#64))) add64) ?_
         refine w_as (ev (U64 ((BitVec.ofNat 64 p) + (1#64))) rfl rfl) ?_
         refine wpList_nil ?_
         have hip_ : Sha.ip p = true := by simpa using hc16
         have hpc := Sha.pc_yes p (by omega) hip_
         exact then_n ⟨_, (by omega), p + 1, v26, rfl, _, rfl, iv, iv, s2_0, s2_2, s2_3, s2_4, (Eq.trans (b := .int .i64 ((((Sha.pc p) : Nat) : Int) + 1)) rfl (by congr 1; omega)), (Eq.trans (b := U64 ((BitVec.ofNat 64 p) + (1#64))) rfl (by exact congrArg U64 (BitVec.ofNat_add (n := 64) p 1).symm)), (r_b_14.congr (fun j hj => by first | (exfalso; omega) | exact Sha.rr_a _ _ _ _ _ _ _ _ (Sha.bg_no 0 256 p (by omega)) j | exact Sha.rr_b _ _ _ _ _ _ _ _ _ (Sha.bg_no 0 256 p (by omega)) j | exact Sha.rr_d _ _ _ _ _ _ _ _ _ _ _ (by omega) (Sha.bg_yes 0 256 p _ hpc (by omega) (by omega) (Sha.H_of_256 p (by omega) hip_ (by omega))) j)), (own_n (o_v26.congr (fun j hj => by first | (with_reducible rfl) | ((try dsimp only); by_cases e : j < min (Sha.pc p) 64 * 1; (rw [if_pos e]); (rw [if_neg e, show j = Sha.pc p from by omega]; exact congrArg U64 (Sha.K_of true p (by omega) hip_))))) (by omega)), no_v26_b_14, hk⟩
        ·skip
         refine wp_skip ?_
         refine then_n ?_
         refine wp_region_lit ?_
         refine w_mv (ev (.int .i64 (((Sha.pc p) : Nat) : Int)) s2_5 rfl) ?_
         refine w_val (y_bin (ev (.int .i64 (((Sha.pc p) : Nat) : Int)) rfl rfl) (evc (.int .i64 1)) (b_add (by omega))) ?_
         refine w_as (ev (.int .i64 ((((Sha.pc p) : Nat) : Int) + 1)) rfl rfl) ?_
         refine wpList_nil ?_
         refine inb_n ?_
         refine then_n ?_
         refine wp_region_lit ?_
         refine w_mv (ev (U64 (BitVec.ofNat 64 p)) s2_6 rfl) ?_
         refine w_val (y_bin (ev (U64 (BitVec.ofNat 64 p)) rfl rfl) (evc (U64 (1#64))) add64) ?_
         refine w_as (ev (U64 ((BitVec.ofNat 64 p) + (1#64))) rfl rfl) ?_
         refine wpList_nil ?_
         have hip_ : Sha.ip p = true := by simpa using hc16
         have hpc := Sha.pc_yes p (by omega) hip_
         exact then_n ⟨_, (by omega), p + 1, v26, rfl, _, rfl, iv, iv, s2_0, s2_2, s2_3, s2_4, (Eq.trans (b := .int .i64 ((((Sha.pc p) : Nat) : Int) + 1)) rfl (by congr 1; omega)), (Eq.trans (b := U64 ((BitVec.ofNat 64 p) + (1#64))) rfl (by exact congrArg U64 (BitVec.ofNat_add (n := 64) p 1).symm)), (r_b_14.congr (fun j hj => by first | (exfalso; omega) | exact Sha.rr_a _ _ _ _ _ _ _ _ (Sha.bg_no 0 256 p (by omega)) j | exact Sha.rr_b _ _ _ _ _ _ _ _ _ (Sha.bg_no 0 256 p (by omega)) j | exact Sha.rr_d _ _ _ _ _ _ _ _ _ _ _ (by omega) (Sha.bg_yes 0 256 p _ hpc (by omega) (by omega) (Sha.H_of_256 p (by omega) hip_ (by omega))) j)), (own_n (o_v26.congr (fun j hj => by first | (with_reducible rfl) | ((try dsimp only); by_cases e : j < min (Sha.pc p) 64 * 1; (rw [if_pos e]); (rw [if_neg e, show j = Sha.pc p from by omega]; exact congrArg U64 (Sha.K_of true p (by omega) hip_))))) (by omega)), no_v26_b_14, hk⟩
       ·skip
        first | with_reducible refine w_skip ?_ ?_ | refine w_skip ?_ ?_
        · exact want_no (j := 3) rfl rfl (ev (.bool false) (Eq.trans (b := .bool (decide (0 ≤ (((Sha.pc p) : Nat) : Int)))) rfl (by rw [decide_eq_false hc32])) rfl) rfl
        first | with_reducible refine w_skip ?_ ?_ | refine w_skip ?_ ?_
        · exact want_no (j := 3) rfl rfl (ev (.bool false) (Eq.trans (b := .bool (decide (0 ≤ (((Sha.pc p) : Nat) : Int)))) rfl (by rw [decide_eq_false hc32])) rfl) rfl
        first | with_reducible refine w_skip ?_ ?_ | refine w_skip ?_ ?_
        · exact want_no (j := 3) rfl rfl (ev (.bool false) (Eq.trans (b := .bool (decide (0 ≤ (((Sha.pc p) : Nat) : Int)))) rfl (by rw [decide_eq_false hc32])) rfl) rfl
        first | with_reducible refine w_skip ?_ ?_ | refine w_skip ?_ ?_
        · exact want_no (j := 3) rfl rfl (ev (.bool false) (Eq.trans (b := .bool (decide (0 ≤ (((Sha.pc p) : Nat) : Int)))) rfl (by rw [decide_eq_false hc32])) rfl) rfl
        refine w_val (y_pick_f (ev (.bool false) (Eq.trans (b := .bool (decide (0 ≤ (((Sha.pc p) : Nat) : Int)))) rfl (by rw [decide_eq_false hc32])) rfl) (evc (.bool false))) ?_
        refine nt ?_
        refine c_ff (ev (.bool false) rfl rfl) ?_
        refine wp_skip ?_
        refine then_n ?_
        refine wp_region_lit ?_
        refine w_mv (ev (.int .i64 (((Sha.pc p) : Nat) : Int)) s2_5 rfl) ?_
        refine w_val (y_bin (ev (.int .i64 (((Sha.pc p) : Nat) : Int)) rfl rfl) (evc (.int .i64 1)) (b_add (by omega))) ?_
        refine w_as (ev (.int .i64 ((((Sha.pc p) : Nat) : Int) + 1)) rfl rfl) ?_
        refine wpList_nil ?_
        refine inb_n ?_
        refine then_n ?_
        refine wp_region_lit ?_
        refine w_mv (ev (U64 (BitVec.ofNat 64 p)) s2_6 rfl) ?_
        refine w_val (y_bin (ev (U64 (BitVec.ofNat 64 p)) rfl rfl) (evc (U64 (1#64))) add64) ?_
        refine w_as (ev (U64 ((BitVec.ofNat 64 p) + (1#64))) rfl rfl) ?_
        refine wpList_nil ?_
        have hip_ : Sha.ip p = true := by simpa using hc16
        have hpc := Sha.pc_yes p (by omega) hip_
        exact then_n ⟨_, (by omega), p + 1, v26, rfl, _, rfl, iv, iv, s2_0, s2_2, s2_3, s2_4, (Eq.trans (b := .int .i64 ((((Sha.pc p) : Nat) : Int) + 1)) rfl (by congr 1; omega)), (Eq.trans (b := U64 ((BitVec.ofNat 64 p) + (1#64))) rfl (by exact congrArg U64 (BitVec.ofNat_add (n := 64) p 1).symm)), (r_b_14.congr (fun j hj => by first | (exfalso; omega) | exact Sha.rr_a _ _ _ _ _ _ _ _ (Sha.bg_no 0 256 p (by omega)) j | exact Sha.rr_b _ _ _ _ _ _ _ _ _ (Sha.bg_no 0 256 p (by omega)) j | exact Sha.rr_d _ _ _ _ _ _ _ _ _ _ _ (by omega) (Sha.bg_yes 0 256 p _ hpc (by omega) (by omega) (Sha.H_of_256 p (by omega) hip_ (by omega))) j)), (own_n (o_v26.congr (fun j hj => by first | (with_reducible rfl) | ((try dsimp only); by_cases e : j < min (Sha.pc p) 64 * 1; (rw [if_pos e]); (rw [if_neg e, show j = Sha.pc p from by omega]; exact congrArg U64 (Sha.K_of true p (by omega) hip_))))) (by omega)), no_v26_b_14, hk⟩
      ·skip
       refine wp_skip ?_
       refine then_n ?_
       refine wp_seq ?_
       refine sr ?_
       refine w_mv (ev (.int .i64 (((Sha.pc p) : Nat) : Int)) s2_5 rfl) ?_
       refine w_mv (ev (.int .i64 0) s2_4 rfl) ?_
       refine w_val (y_bin (ev (.int .i64 (((Sha.pc p) : Nat) : Int)) rfl rfl) (ev (.int .i64 0) rfl rfl) b_geq) ?_
       refine w_mv (ev (.bool (decide (0 ≤ (((Sha.pc p) : Nat) : Int)))) rfl rfl) ?_
       by_cases hc38 : 0 ≤ (((Sha.pc p) : Nat) : Int)
       ·skip
        refine w_val_g (v := .int .i64 (((Sha.pc p) : Nat) : Int)) (want_yes (j := 3) rfl rfl (ev (.bool true) (Eq.trans (b := .bool (decide (0 ≤ (((Sha.pc p) : Nat) : Int)))) rfl (by rw [decide_eq_true hc38])) rfl) rfl) (y_mv (ev (.int .i64 (((Sha.pc p) : Nat) : Int)) s2_5 rfl)) ?_
        refine w_val_g (v := .int .i64 0) (want_yes (j := 3) rfl rfl (ev (.bool true) (Eq.trans (b := .bool (decide (0 ≤ (((Sha.pc p) : Nat) : Int)))) rfl (by rw [decide_eq_true hc38])) rfl) rfl) (y_mv (ev (.int .i64 0) s2_4 rfl)) ?_
        refine w_val_g (want_yes (j := 3) rfl rfl (ev (.bool true) (Eq.trans (b := .bool (decide (0 ≤ (((Sha.pc p) : Nat) : Int)))) rfl (by rw [decide_eq_true hc38])) rfl) rfl) (y_bin (ev (.int .i64 0) rfl rfl) (evc (.int .i64 8)) (b_add (by omega))) ?_
        refine w_val_g (want_yes (j := 3) rfl rfl (ev (.bool true) (Eq.trans (b := .bool (decide (0 ≤ (((Sha.pc p) : Nat) : Int)))) rfl (by rw [decide_eq_true hc38])) rfl) rfl) (y_bin (ev (.int .i64 (((Sha.pc p) : Nat) : Int)) rfl rfl) (ev (.int .i64 8) rfl rfl) b_lss) ?_
        refine w_val (y_pick_t (ev (.bool true) (Eq.trans (b := .bool (decide (0 ≤ (((Sha.pc p) : Nat) : Int)))) rfl (by rw [decide_eq_true hc38])) rfl) (ev (.bool (decide ((((Sha.pc p) : Nat) : Int) < 8))) rfl rfl)) ?_
        refine nt ?_
        refine c_if (p := (((Sha.pc p) : Nat) : Int) < 8) (ev (.bool (decide ((((Sha.pc p) : Nat) : Int) < 8))) rfl rfl) (fun hc39 => ?_) (fun hc39 => ?_)
        ·skip
         refine region_t 11 ShaMT.mixed (by kernel_rfl) ?_
         simp only [List.take_succ_cons, List.take_zero, List.drop_succ_cons, List.drop_zero]
         refine q_mv (ev (pt b_14 0) s2_3 rfl) ?_
         refine q_mv (ev (.int .i64 (((Sha.pc p) : Nat) : Int)) s2_5 rfl) ?_
         refine q_mv (ev (.int .i64 0) s2_4 rfl) ?_
         refine q_val (fun w' hw' => y_bin (ev (.int .i64 (((Sha.pc p) : Nat) : Int)) rfl rfl) (ev (.int .i64 0) rfl rfl) (b_sub (by omega))) ?_
         refine q_mv (ev (pt b_14 0) s2_3 rfl) ?_
         refine q_mv (ev (U64 (BitVec.ofNat 64 p)) s2_6 rfl) ?_
         refine q_call (v := U64 (BitVec.ofNat 64 (Sha.rt p 2 69))) (Tryd.func40) (by kernel_rfl) rfl (m2 (ev (U64 (BitVec.ofNat 64 p)) rfl rfl) (evc (.int .i64 2))) (fun w' hw' => root_2 p (by omega) w') ?_
         refine q_call (v := U64 (Sha.cutw true (BitVec.ofNat 64 (Sha.rt p 2 69)))) (Tryd.func39) (by kernel_rfl) rfl (m2 (ev (pt b_14 0) rfl rfl) (ev (U64 (BitVec.ofNat 64 (Sha.rt p 2 69))) rfl rfl)) (fun w' hw' => cut_t b_14 (BitVec.ofNat 64 (Sha.rt p 2 69)) w' (F := Sha.rrow (.int .i64 256) (.int .i64 32) (.int .i64 64) (.int .i64 64) (vj) (Sha.bg 0 256 p) (fun i => U64 (BitVec.ofNat 64 (Sha.trn true i)))) (r_b_14.step hw') rfl) ?_
         refine q_val (fun w' hw' => y_nc (ev (pt b_14 0) rfl rfl)) ?_
         refine q_val (v := pt b_14 5) (fun w' hw' => y_off (y_fa (ev (pt b_14 0) rfl rfl) (ShaMT.fa44_5 _ _)) (by first | rfl | omega)) ?_
         refine q_val (v := pt b_14 (5 + ((Sha.pc p) - 0))) (fun w' hw' => y_off (y_ia1 (i := ((Sha.pc p) - 0)) (ev (pt b_14 5) rfl rfl) (ev (.int .i64 ((((Sha.pc p) : Nat) : Int) - 0)) rfl rfl) Tryd.underlying40 ShaMT.sz39 (by omega) (by omega)) (by first | rfl | omega)) ?_
         refine q_nil ?_
         intro w40 hb41
         replace o_vj := o_vj.step hb41
         replace r_b_14 := r_b_14.step hb41
         replace hk := thenB hk hb41
         refine w_st (v := U64 (Sha.cutw true (BitVec.ofNat 64 (Sha.rt p 2 69)))) (ev (pt b_14 (5 + ((Sha.pc p) - 0))) rfl rfl) (ev (U64 (Sha.cutw true (BitVec.ofNat 64 (Sha.rt p 2 69)))) rfl rfl) rfl rfl ShaMT.sz39 r_b_14 (by omega) ?_
         clear r_b_14; intro w42 r_b_14 hg43 _
         replace o_vj := o_vj.stepG hg43 no_vj_b_14
         replace hk := thenG hk hg43 (by omega)
         refine nt ?_
         refine wp_region_lit ?_
         refine w_mv (ev (.int .i64 (((Sha.pc p) : Nat) : Int)) s2_5 rfl) ?_
         refine w_val (y_bin (ev (.int .i64 (((Sha.pc p) : Nat) : Int)) rfl rfl) (evc (.int .i64 1)) (b_add (by omega))) ?_
         refine w_as (ev (.int .i64 ((((Sha.pc p) : Nat) : Int) + 1)) rfl rfl) ?_
         refine wpList_nil ?_
         refine inb_n ?_
         refine then_n ?_
         refine wp_region_lit ?_
         refine w_mv (ev (U64 (BitVec.ofNat 64 p)) s2_6 rfl) ?_
         refine w_val (y_bin (ev (U64 (BitVec.ofNat 64 p)) rfl rfl) (evc (U64 (1#64))) add64) ?_
         refine w_as (ev (U64 ((BitVec.ofNat 64 p) + (1#64))) rfl rfl) ?_
         refine wpList_nil ?_
         have hip_ : Sha.ip p = true := by simpa using hc16
         have hpc := Sha.pc_yes p (by omega) hip_
         exact then_n ⟨_, (by omega), p + 1, vj, rfl, _, rfl, iv, iv, s2_0, s2_2, s2_3, s2_4, (Eq.trans (b := .int .i64 ((((Sha.pc p) : Nat) : Int) + 1)) rfl (by congr 1; omega)), (Eq.trans (b := U64 ((BitVec.ofNat 64 p) + (1#64))) rfl (by exact congrArg U64 (BitVec.ofNat_add (n := 64) p 1).symm)), (r_b_14.congr (fun j hj => by first | (exfalso; omega) | exact Sha.rr_a _ _ _ _ _ _ _ _ (Sha.bg_no 0 256 p (by omega)) j | exact Sha.rr_b _ _ _ _ _ _ _ _ _ (Sha.bg_no 0 256 p (by omega)) j | exact Sha.rr_d _ _ _ _ _ _ _ _ _ _ _ (by omega) (Sha.bg_yes 0 256 p _ hpc (by omega) (by omega) (Sha.H_of_256 p (by omega) hip_ (by omega))) j)), (own_n (o_vj.congr (fun j hj => by first | (with_reducible rfl) | ((try dsimp only); by_cases e : j < min (Sha.pc p) 64 * 1; (rw [if_pos e]); (rw [if_neg e, show j = Sha.pc p from by omega]; exact congrArg U64 (Sha.K_of true p (by omega) hip_))))) (by omega)), no_vj_b_14, hk⟩
        ·skip
         refine wp_skip ?_
         refine then_n ?_
         refine wp_region_lit ?_
         refine w_mv (ev (.int .i64 (((Sha.pc p) : Nat) : Int)) s2_5 rfl) ?_
         refine w_val (y_bin (ev (.int .i64 (((Sha.pc p) : Nat) : Int)) rfl rfl) (evc (.int .i64 1)) (b_add (by omega))) ?_
         refine w_as (ev (.int .i64 ((((Sha.pc p) : Nat) : Int) + 1)) rfl rfl) ?_
         refine wpList_nil ?_
         refine inb_n ?_
         refine then_n ?_
         refine wp_region_lit ?_
         refine w_mv (ev (U64 (BitVec.ofNat 64 p)) s2_6 rfl) ?_
         refine w_val (y_bin (ev (U64 (BitVec.ofNat 64 p)) rfl rfl) (evc (U64 (1#64))) add64) ?_
         refine w_as (ev (U64 ((BitVec.ofNat 64 p) + (1#64))) rfl rfl) ?_
         refine wpList_nil ?_
         have hip_ : Sha.ip p = true := by simpa using hc16
         have hpc := Sha.pc_yes p (by omega) hip_
         exact then_n ⟨_, (by omega), p + 1, vj, rfl, _, rfl, iv, iv, s2_0, s2_2, s2_3, s2_4, (Eq.trans (b := .int .i64 ((((Sha.pc p) : Nat) : Int) + 1)) rfl (by congr 1; omega)), (Eq.trans (b := U64 ((BitVec.ofNat 64 p) + (1#64))) rfl (by exact congrArg U64 (BitVec.ofNat_add (n := 64) p 1).symm)), (r_b_14.congr (fun j hj => by first | (exfalso; omega) | exact Sha.rr_a _ _ _ _ _ _ _ _ (Sha.bg_no 0 256 p (by omega)) j | exact Sha.rr_b _ _ _ _ _ _ _ _ _ (Sha.bg_no 0 256 p (by omega)) j | exact Sha.rr_d _ _ _ _ _ _ _ _ _ _ _ (by omega) (Sha.bg_yes 0 256 p _ hpc (by omega) (by omega) (Sha.H_of_256 p (by omega) hip_ (by omega))) j)), (own_n (o_vj.congr (fun j hj => by first | (with_reducible rfl) | ((try dsimp only); by_cases e : j < min (Sha.pc p) 64 * 1; (rw [if_pos e]); (rw [if_neg e, show j = Sha.pc p from by omega]; exact congrArg U64 (Sha.K_of true p (by omega) hip_))))) (by omega)), no_vj_b_14, hk⟩
       ·skip
        first | with_reducible refine w_skip ?_ ?_ | refine w_skip ?_ ?_
        · exact want_no (j := 3) rfl rfl (ev (.bool false) (Eq.trans (b := .bool (decide (0 ≤ (((Sha.pc p) : Nat) : Int)))) rfl (by rw [decide_eq_false hc38])) rfl) rfl
        first | with_reducible refine w_skip ?_ ?_ | refine w_skip ?_ ?_
        · exact want_no (j := 3) rfl rfl (ev (.bool false) (Eq.trans (b := .bool (decide (0 ≤ (((Sha.pc p) : Nat) : Int)))) rfl (by rw [decide_eq_false hc38])) rfl) rfl
        first | with_reducible refine w_skip ?_ ?_ | refine w_skip ?_ ?_
        · exact want_no (j := 3) rfl rfl (ev (.bool false) (Eq.trans (b := .bool (decide (0 ≤ (((Sha.pc p) : Nat) : Int)))) rfl (by rw [decide_eq_false hc38])) rfl) rfl
        first | with_reducible refine w_skip ?_ ?_ | refine w_skip ?_ ?_
        · exact want_no (j := 3) rfl rfl (ev (.bool false) (Eq.trans (b := .bool (decide (0 ≤ (((Sha.pc p) : Nat) : Int)))) rfl (by rw [decide_eq_false hc38])) rfl) rfl
        refine w_val (y_pick_f (ev (.bool false) (Eq.trans (b := .bool (decide (0 ≤ (((Sha.pc p) : Nat) : Int)))) rfl (by rw [decide_eq_false hc38])) rfl) (evc (.bool false))) ?_
        refine nt ?_
        refine c_ff (ev (.bool false) rfl rfl) ?_
        refine wp_skip ?_
        refine then_n ?_
        refine wp_region_lit ?_
        refine w_mv (ev (.int .i64 (((Sha.pc p) : Nat) : Int)) s2_5 rfl) ?_
        refine w_val (y_bin (ev (.int .i64 (((Sha.pc p) : Nat) : Int)) rfl rfl) (evc (.int .i64 1)) (b_add (by omega))) ?_
        refine w_as (ev (.int .i64 ((((Sha.pc p) : Nat) : Int) + 1)) rfl rfl) ?_
        refine wpList_nil ?_
        refine inb_n ?_
        refine then_n ?_
        refine wp_region_lit ?_
        refine w_mv (ev (U64 (BitVec.ofNat 64 p)) s2_6 rfl) ?_
        refine w_val (y_bin (ev (U64 (BitVec.ofNat 64 p)) rfl rfl) (evc (U64 (1#64))) add64) ?_
        refine w_as (ev (U64 ((BitVec.ofNat 64 p) + (1#64))) rfl rfl) ?_
        refine wpList_nil ?_
        have hip_ : Sha.ip p = true := by simpa using hc16
        have hpc := Sha.pc_yes p (by omega) hip_
        exact then_n ⟨_, (by omega), p + 1, vj, rfl, _, rfl, iv, iv, s2_0, s2_2, s2_3, s2_4, (Eq.trans (b := .int .i64 ((((Sha.pc p) : Nat) : Int) + 1)) rfl (by congr 1; omega)), (Eq.trans (b := U64 ((BitVec.ofNat 64 p) + (1#64))) rfl (by exact congrArg U64 (BitVec.ofNat_add (n := 64) p 1).symm)), (r_b_14.congr (fun j hj => by first | (exfalso; omega) | exact Sha.rr_a _ _ _ _ _ _ _ _ (Sha.bg_no 0 256 p (by omega)) j | exact Sha.rr_b _ _ _ _ _ _ _ _ _ (Sha.bg_no 0 256 p (by omega)) j | exact Sha.rr_d _ _ _ _ _ _ _ _ _ _ _ (by omega) (Sha.bg_yes 0 256 p _ hpc (by omega) (by omega) (Sha.H_of_256 p (by omega) hip_ (by omega))) j)), (own_n (o_vj.congr (fun j hj => by first | (with_reducible rfl) | ((try dsimp only); by_cases e : j < min (Sha.pc p) 64 * 1; (rw [if_pos e]); (rw [if_neg e, show j = Sha.pc p from by omega]; exact congrArg U64 (Sha.K_of true p (by omega) hip_))))) (by omega)), no_vj_b_14, hk⟩
  ·skip
   refine wp_exit ?_
   refine then_x ?_
   refine then_x ?_
   refine inb_x ?_
   refine then_n ?_
   refine sr ?_
   refine w_mv (ev (pt b_14 0) s1_3 rfl) ?_
   refine w_as (ev (pt b_14 0) rfl rfl) ?_
   refine nt ?_
   refine wp_ret ?_
   refine fin_ret1 rfl (ev (pt b_14 0) rfl rfl) ?_
   obtain ⟨g44, cap44, hv44, ge_g44, hc_g44, hob_g44, r_g44⟩ := o_vk.opened (by omega)
   have ne_b_14_g44 : b_14 ≠ g44 := fun e => no_vk_b_14 (by rw [hob_g44, e])
   have hmn : min (Sha.pc p) 64 = 64 := by omega
   rw [hmn] at hv44 r_g44
   refine ⟨b_14, g44, cap44, rfl, ge_b_14, ge_g44, ne_b_14_g44, r_b_14.congr (fun j hj => ?_), r_g44, hk⟩
   rw [hv44]; exact Sha.rr_a _ _ _ _ _ _ _ _ (fun i hi => if_pos (by omega)) j

set_option maxRecDepth 100000 in
set_option maxHeartbeats 1000000 in
theorem cut_f (rp : Nat) (x : BitVec 64) (kd : Int) (hkd : kd ≠ 256) (w0 : World) {F : Nat → Value} (r_rp : Row w0 rp 44 25 F) (hF : F 0 = .int .i64 kd) : Calls Tryd.prog 39 #[pt rp 0, U64 x] w0 fun e w' => e = .returned (U64 (Sha.cutw false x)) ∧ Below w0.heap.size w0 w' := by
 refine enter (n := 13) Tryd.func39 rfl rfl rfl ?_
 have hk : Below w0.heap.size w0 w0 := Below.refl _ _
 have lt_rp := r_rp.lt
 refine sr ?_
 refine w_as (evc (U64 (0#64))) ?_
 refine nt ?_
 refine wp_seq ?_
 refine sr ?_
 refine w_mv (ev (pt rp 0) rfl rfl) ?_
 refine w_val (y_nc (ev (pt rp 0) rfl rfl)) ?_
 refine w_val (v := pt rp 0) (y_off (y_fa (ev (pt rp 0) rfl rfl) (ShaMT.fa44_0 _ _)) (by first | rfl | omega)) ?_
 refine w_val (v := .int .i64 kd) (y_ld (ev (pt rp 0) rfl rfl) ShaMT.sc3 (r_rp.val (by omega) hF)) ?_
 refine w_val (y_bin (ev (.int .i64 kd) rfl rfl) (evc (.int .i64 256)) b_eql) ?_
 refine nt ?_
 have hc1 : ¬ (kd = 256) := by exact hkd
 refine c_f (p := kd = 256) (ev (.bool (decide (kd = 256))) rfl rfl) hc1 ?_
 refine wp_skip ?_
 refine then_n ?_
 refine sr ?_
 refine w_mv (ev (U64 x) rfl rfl) ?_
 refine w_as (ev (U64 x) rfl rfl) ?_
 refine nt ?_
 refine wp_ret ?_
 refine fin_ret1 rfl (ev (U64 x) rfl rfl) ?_
 refine ⟨congrArg Ending.returned ?_, hk⟩
 show (U64 x : Value) = U64 (Sha.cutw false x)
 rfl

set_option maxRecDepth 100000 in
set_option maxHeartbeats 1000000 in
theorem make_384  (w0 : World) : Calls Tryd.prog 22 #[.int .i64 384] w0 fun e w' => ∃ rp g cap, e = .returned (.pointer (some ⟨rp, 0, none⟩)) ∧ w0.heap.size ≤ rp ∧ w0.heap.size ≤ g ∧ rp ≠ g ∧ Row w' rp 44 25 (Sha.rrow (.int .i64 384) (.int .i64 48) (.int .i64 128) (.int .i64 80) (.slice (some ⟨g, 0, none⟩) 80 cap) (Sha.H0 384) (fun i => U64 (BitVec.ofNat 64 (Sha.trn false i)))) ∧ Row w' g 39 (80 * 1) (fun j => U64 (Sha.K false j)) ∧ Below w0.heap.size w0 w' := by
 refine enter (n := 88) Tryd.func22 rfl rfl rfl ?_
 have hk : Below w0.heap.size w0 w0 := Below.refl _ _
 refine sr ?_
 refine w_as (evc (.pointer none)) ?_
 refine nt ?_
 refine sr ?_
 refine w_mv (ev (.int .i64 384) rfl rfl) ?_
 refine w_mv (ev (.int .i64 384) rfl rfl) ?_
 refine w_val (y_bin (ev (.int .i64 384) rfl rfl) (evc (.int .i64 8)) (b_quo (by omega))) ?_
 refine w_val (v := .agg (arr 12 (fun j => if j < 1 then U64 (1#64) else if j < 2 then U64 (8#64) else if j < 3 then U64 (7#64) else if j < 4 then U64 (19#64) else if j < 5 then U64 (61#64) else if j < 6 then U64 (6#64) else if j < 7 then U64 (28#64) else if j < 8 then U64 (34#64) else if j < 9 then U64 (39#64) else if j < 10 then U64 (14#64) else if j < 11 then U64 (18#64) else U64 (41#64)))) (y_build (vs := #[(0, U64 (1#64)), (1, U64 (8#64)), (2, U64 (7#64)), (3, U64 (19#64)), (4, U64 (61#64)), (5, U64 (6#64)), (6, U64 (28#64)), (7, U64 (34#64)), (8, U64 (39#64)), (9, U64 (14#64)), (10, U64 (18#64)), (11, U64 (41#64))]) (mp_cons (evc (U64 (1#64))) (mp_cons (evc (U64 (8#64))) (mp_cons (evc (U64 (7#64))) (mp_cons (evc (U64 (19#64))) (mp_cons (evc (U64 (61#64))) (mp_cons (evc (U64 (6#64))) (mp_cons (evc (U64 (28#64))) (mp_cons (evc (U64 (34#64))) (mp_cons (evc (U64 (39#64))) (mp_cons (evc (U64 (14#64))) (mp_cons (evc (U64 (18#64))) (mp_cons (evc (U64 (41#64))) mp0)))))))))))) (fun w => by kernel_rfl)) ?_
 refine w_val (v := .agg (arr 25 (fun j => if j < 1 then .int .i64 384 else if j < 2 then .int .i64 48 else if j < 3 then .int .i64 128 else if j < 4 then .int .i64 80 else if j < 5 then .slice none 0 0 else if j < 13 then U64 (0#64) else U64 (BitVec.ofNat 64 (Sha.trn false (j - 13)))))) (y_build (vs := #[(0, .int .i64 384), (1, .int .i64 48), (2, .int .i64 128), (3, .int .i64 80), (6, .agg (arr 12 (fun j => if j < 1 then U64 (1#64) else if j < 2 then U64 (8#64) else if j < 3 then U64 (7#64) else if j < 4 then U64 (19#64) else if j < 5 then U64 (61#64) else if j < 6 then U64 (6#64) else if j < 7 then U64 (28#64) else if j < 8 then U64 (34#64) else if j < 9 then U64 (39#64) else if j < 10 then U64 (14#64) else if j < 11 then U64 (18#64) else U64 (41#64))))]) (mp_cons (ev (.int .i64 384) rfl rfl) (mp_cons (ev (.int .i64 48) rfl rfl) (mp_cons (evc (.int .i64 128)) (mp_cons (evc (.int .i64 80)) (mp_cons (ev (.agg (arr 12 (fun j => if j < 1 then U64 (1#64) else if j < 2 then U64 (8#64) else if j < 3 then U64 (7#64) else if j < 4 then U64 (19#64) else if j < 5 then U64 (61#64) else if j < 6 then U64 (6#64) else if j < 7 then U64 (28#64) else if j < 8 then U64 (34#64) else if j < 9 then U64 (39#64) else if j < 10 then U64 (14#64) else if j < 11 then U64 (18#64) else U64 (41#64)))) rfl rfl) mp0))))) (fun w => by kernel_rfl)) ?_
 refine w_box (m := 25) (F := fun j => if j < 1 then .int .i64 384 else if j < 2 then .int .i64 48 else if j < 3 then .int .i64 128 else if j < 4 then .int .i64 80 else if j < 5 then .slice none 0 0 else if j < 13 then U64 (0#64) else U64 (BitVec.ofNat 64 (Sha.trn false (j - 13)))) (ev (.agg (arr 25 (fun j => if j < 1 then .int .i64 384 else if j < 2 then .int .i64 48 else if j < 3 then .int .i64 128 else if j < 4 then .int .i64 80 else if j < 5 then .slice none 0 0 else if j < 13 then U64 (0#64) else U64 (BitVec.ofNat 64 (Sha.trn false (j - 13)))))) rfl rfl) rfl ?_
 intro b_14 w1 hbe_b_14 r_b_14 hb2
 have ge_b_14 : w0.heap.size ≤ b_14 := by have := hk.size; omega
 clear hbe_b_14
 replace hk := thenB hk hb2
 refine w_as (ev (pt b_14 0) rfl rfl) ?_
 refine nt ?_
 refine sr ?_
 refine w_as (evc (.int .i64 0)) ?_
 refine nt ?_
 refine wp_seq ?_
 refine sr ?_
 refine w_mv (ev (.int .i64 384) rfl rfl) ?_
 refine w_val (y_bin (ev (.int .i64 384) rfl rfl) (evc (.int .i64 384)) b_eql) ?_
 refine nt ?_
 refine c_tt (ev (.bool true) rfl rfl) ?_
 refine wp_region_lit ?_
 refine w_as (evc (.int .i64 8)) ?_
 refine nt ?_
 refine wp_seq ?_
 refine sr ?_
 refine w_mv (ev (.int .i64 384) rfl rfl) ?_
 refine w_val (y_bin (ev (.int .i64 384) rfl rfl) (evc (.int .i64 256)) b_eql) ?_
 refine nt ?_
 refine c_ff (ev (.bool false) rfl rfl) ?_
 refine wp_skip ?_
 refine then_n ?_
 refine wp_seq ?_
 replace r_b_14 := r_b_14.congr (g := Sha.rrow (.int .i64 384) (.int .i64 48) (.int .i64 128) (.int .i64 80) (.slice none 0 0) (fun _ => 0#64) (fun i => U64 (BitVec.ofNat 64 (Sha.trn false i)))) (fun j hj => by rcases (by omega : j = 0 ∨ j = 1 ∨ j = 2 ∨ j = 3 ∨ j = 4 ∨ j = 5 ∨ j = 6 ∨ j = 7 ∨ j = 8 ∨ j = 9 ∨ j = 10 ∨ j = 11 ∨ j = 12 ∨ j = 13 ∨ j = 14 ∨ j = 15 ∨ j = 16 ∨ j = 17 ∨ j = 18 ∨ j = 19 ∨ j = 20 ∨ j = 21 ∨ j = 22 ∨ j = 23 ∨ j = 24) with h | h | h | h | h | h | h | h | h | h | h | h | h | h | h | h | h | h | h | h | h | h | h | h | h <;> (subst h; rfl))
 refine wp_region_lit ?_
 refine w_as (evc (.int .i64 0)) ?_
 refine nt ?_
 refine wp_seq ?_
 refine sr ?_
 refine w_as (evc (U64 (2#64))) ?_
 refine nt ?_
 refine wp_block ?_
 refine c_loop (fun dN aN wl => ∃ (p : Nat) (vk : Value), dN = (410 - p) ∧ ∃ f3, aN = fr 88 f3 ∧ (2 ≤ p) ∧ (p ≤ 410) ∧ f3 0 = .int .i64 384 ∧ f3 2 = .pointer none ∧ f3 3 = pt b_14 0 ∧ f3 4 = .int .i64 8 ∧ f3 5 = .int .i64 (((Sha.pc p) : Nat) : Int) ∧ f3 6 = U64 (BitVec.ofNat 64 p) ∧ Row wl b_14 44 25 (Sha.rrow (.int .i64 384) (.int .i64 48) (.int .i64 128) (.int .i64 80) (vk) (Sha.bg 8 384 p) (fun i => U64 (BitVec.ofNat 64 (Sha.trn false i)))) ∧ Own wl w0.heap.size 39 1 vk (min (Sha.pc p) 80) (fun j => U64 (Sha.K false j)) ∧ vk.ownBlock ≠ some b_14 ∧ Below w0.heap.size w0 wl) (410 - 2) ?_ ?_
 · exact ⟨2, (.slice none 0 0), rfl, _, rfl, iv, iv, rfl, rfl, rfl, rfl, (Eq.trans (b := .int .i64 0) rfl (by rfl)), (Eq.trans (b := U64 (2#64)) rfl (by rfl)), (r_b_14.congr (fun j hj => by rcases (by omega : j = 0 ∨ j = 1 ∨ j = 2 ∨ j = 3 ∨ j = 4 ∨ j = 5 ∨ j = 6 ∨ j = 7 ∨ j = 8 ∨ j = 9 ∨ j = 10 ∨ j = 11 ∨ j = 12 ∨ j = 13 ∨ j = 14 ∨ j = 15 ∨ j = 16 ∨ j = 17 ∨ j = 18 ∨ j = 19 ∨ j = 20 ∨ j = 21 ∨ j = 22 ∨ j = 23 ∨ j = 24) with h | h | h | h | h | h | h | h | h | h | h | h | h | h | h | h | h | h | h | h | h | h | h | h | h <;> (subst h; rfl))), Own.nil, (fun e => by cases e), hk⟩
 ·skip
  clear r_b_14 hk
  rintro _ _ w4 ⟨p, vk, rfl, f3, rfl, i1_0, i1_1, s1_0, s1_2, s1_3, s1_4, s1_5, s1_6, r_b_14, o_vk, no_vk_b_14, hk⟩
  have hp9 := Sha.pc_lt p i1_1
  have hpw : (BitVec.ofNat 64 p).toNat = p := by rw [BitVec.toNat_ofNat]; omega
  refine wp_seq ?_
  refine sr ?_
  refine w_mv (ev (.int .i64 (((Sha.pc p) : Nat) : Int)) s1_5 rfl) ?_
  refine w_val (y_bin (ev (.int .i64 (((Sha.pc p) : Nat) : Int)) rfl rfl) (evc (.int .i64 80)) b_lss) ?_
  refine nt ?_
  refine c_if (p := (((Sha.pc p) : Nat) : Int) < 80) (ev (.bool (decide ((((Sha.pc p) : Nat) : Int) < 80))) rfl rfl) (fun hc5 => ?_) (fun hc5 => ?_)
  ·skip
   refine wp_skip ?_
   refine then_n ?_
   refine wp_seq ?_
   refine wp_block ?_
   refine sr ?_
   refine w_as (evc (.bool true)) ?_
   refine nt ?_
   refine wp_seq ?_
   refine sr ?_
   refine w_as (evc (U64 (2#64))) ?_
   refine nt ?_
   refine wp_block ?_
   refine c_loop (fun dN aN wl => ∃ (q : Nat) (vj : Value), dN = (22 - q) ∧ ∃ f6, aN = fr 88 f6 ∧ (2 ≤ q) ∧ (q ≤ 21) ∧ (q = 2 ∨ (q - 1) * (q - 1) ≤ p) ∧ f6 0 = .int .i64 384 ∧ f6 2 = .pointer none ∧ f6 3 = pt b_14 0 ∧ f6 4 = .int .i64 8 ∧ f6 5 = .int .i64 (((Sha.pc p) : Nat) : Int) ∧ f6 6 = U64 (BitVec.ofNat 64 p) ∧ f6 7 = .bool (Sha.np p q) ∧ f6 8 = U64 (BitVec.ofNat 64 q) ∧ Row wl b_14 44 25 (Sha.rrow (.int .i64 384) (.int .i64 48) (.int .i64 128) (.int .i64 80) (vj) (Sha.bg 8 384 p) (fun i => U64 (BitVec.ofNat 64 (Sha.trn false i)))) ∧ Own wl w0.heap.size 39 1 vj (min (Sha.pc p) 80) (fun j => U64 (Sha.K false j)) ∧ vj.ownBlock ≠ some b_14 ∧ Below w0.heap.size w0 wl) (22 - 2) ?_ ?_
   · exact ⟨2, vk, rfl, _, rfl, iv, (by decide), (by exact Or.inl rfl), s1_0, s1_2, s1_3, s1_4, s1_5, s1_6, (Eq.trans (b := .bool true) rfl (by exact congrArg Value.bool (Sha.np_two p).symm)), (Eq.trans (b := U64 (2#64)) rfl (by rfl)), (r_b_14.congr (fun j hj => by rfl)), o_vk, no_vk_b_14, hk⟩
   ·skip
    clear r_b_14 o_vk hk
    rintro _ _ w7 ⟨q, vj, rfl, f6, rfl, i2_0, i2_1, i2_2, s2_0, s2_2, s2_3, s2_4, s2_5, s2_6, s2_7, s2_8, r_b_14, o_vj, no_vj_b_14, hk⟩
    refine wp_seq ?_
    refine sr ?_
    refine w_mv (ev (U64 (BitVec.ofNat 64 q)) s2_8 rfl) ?_
    refine w_mv (ev (U64 (BitVec.ofNat 64 q)) s2_8 rfl) ?_
    refine w_val (y_bin (ev (U64 (BitVec.ofNat 64 q)) rfl rfl) (ev (U64 (BitVec.ofNat 64 q)) rfl rfl) mul64) ?_
    refine w_mv (ev (U64 (BitVec.ofNat 64 p)) s2_6 rfl) ?_
    refine w_val (y_bin (ev (U64 ((BitVec.ofNat 64 q) * (BitVec.ofNat 64 q))) rfl rfl) (ev (U64 (BitVec.ofNat 64 p)) rfl rfl) leq64) ?_
    refine nt ?_
    refine c_if (p := ((BitVec.ofNat 64 q) * (BitVec.ofNat 64 q)).toNat ≤ (BitVec.ofNat 64 p).toNat) (ev (.bool (decide (((BitVec.ofNat 64 q) * (BitVec.ofNat 64 q)).toNat ≤ (BitVec.ofNat 64 p).toNat))) rfl rfl) (fun hc8 => ?_) (fun hc8 => ?_)
    ·skip
     refine wp_skip ?_
     refine then_n ?_
     refine wp_seq ?_
     refine wp_block ?_
     refine sr ?_
     refine w_mv (ev (U64 (BitVec.ofNat 64 p)) s2_6 rfl) ?_
     refine w_mv (ev (U64 (BitVec.ofNat 64 q)) s2_8 rfl) ?_
     refine w_val (y_bin (ev (U64 (BitVec.ofNat 64 p)) rfl rfl) (ev (U64 (BitVec.ofNat 64 q)) rfl rfl) (rem64 (by exact Sha.ofNat_ne q (by omega) (by omega)))) ?_
     refine w_val (y_bin (ev (U64 ((BitVec.ofNat 64 p) % (BitVec.ofNat 64 q))) rfl rfl) (evc (U64 (0#64))) eql64) ?_
     refine nt ?_
     refine c_if (p := ((BitVec.ofNat 64 p) % (BitVec.ofNat 64 q)) = (0#64)) (ev (.bool (decide (((BitVec.ofNat 64 p) % (BitVec.ofNat 64 q)) = (0#64)))) rfl rfl) (fun hc9 => ?_) (fun hc9 => ?_)
     ·skip
      refine wp_region_lit ?_
      refine w_as (evc (.bool false)) ?_
      refine wpList_nil ?_
      refine inb_n ?_
      refine then_n ?_
      refine wp_region_lit ?_
      refine w_mv (ev (U64 (BitVec.ofNat 64 q)) s2_8 rfl) ?_
      refine w_val (y_bin (ev (U64 (BitVec.ofNat 64 q)) rfl rfl) (evc (U64 (1#64))) add64) ?_
      refine w_as (ev (U64 ((BitVec.ofNat 64 q) + (1#64))) rfl rfl) ?_
      refine wpList_nil ?_
      exact then_n ⟨_, (by omega), q + 1, vj, rfl, _, rfl, iv, (by have := Sha.sq_le q p (by omega) (by rw [Sha.sq_word q (by omega), hpw] at *; omega); omega), (by refine Or.inr ?_; rw [show q + 1 - 1 = q from by omega]; rw [Sha.sq_word q (by omega), hpw] at *; omega), s2_0, s2_2, s2_3, s2_4, s2_5, s2_6, (Eq.trans (b := .bool false) rfl (by first | exact congrArg Value.bool (Sha.np_div p q (by omega) (by omega) (by omega) (by assumption)).symm | exact congrArg Value.bool (Sha.np_no p q (by omega) (by omega) (by omega) (by assumption)).symm)), (Eq.trans (b := U64 ((BitVec.ofNat 64 q) + (1#64))) rfl (by exact congrArg U64 (BitVec.ofNat_add (n := 64) q 1).symm)), r_b_14, o_vj, no_vj_b_14, hk⟩
     ·skip
      refine wp_skip ?_
      refine inb_n ?_
      refine then_n ?_
      refine wp_region_lit ?_
      refine w_mv (ev (U64 (BitVec.ofNat 64 q)) s2_8 rfl) ?_
      refine w_val (y_bin (ev (U64 (BitVec.ofNat 64 q)) rfl rfl) (evc (U64 (1#64))) add64) ?_
      refine w_as (ev (U64 ((BitVec.ofNat 64 q) + (1#64))) rfl rfl) ?_
      refine wpList_nil ?_
      exact then_n ⟨_, (by omega), q + 1, vj, rfl, _, rfl, iv, (by have := Sha.sq_le q p (by omega) (by rw [Sha.sq_word q (by omega), hpw] at *; omega); omega), (by refine Or.inr ?_; rw [show q + 1 - 1 = q from by omega]; rw [Sha.sq_word q (by omega), hpw] at *; omega), s2_0, s2_2, s2_3, s2_4, s2_5, s2_6, (by refine Eq.trans (b := .bool (Sha.np p q)) ?_ ?_; exact s2_7; (first | exact congrArg Value.bool (Sha.np_div p q (by omega) (by omega) (by omega) (by assumption)).symm | exact congrArg Value.bool (Sha.np_no p q (by omega) (by omega) (by omega) (by assumption)).symm)), (Eq.trans (b := U64 ((BitVec.ofNat 64 q) + (1#64))) rfl (by exact congrArg U64 (BitVec.ofNat_add (n := 64) q 1).symm)), r_b_14, o_vj, no_vj_b_14, hk⟩
    ·skip
     refine wp_exit ?_
     refine then_x ?_
     refine then_x ?_
     refine inb_x ?_
     refine then_n ?_
     refine wp_seq ?_
     refine sr ?_
     refine w_mv (ev (.bool (Sha.ip p)) (by refine Eq.trans (b := .bool (Sha.np p q)) ?_ ?_; exact s2_7; (exact congrArg Value.bool (Sha.np_done p q (by omega) (by omega) (by omega) (by omega) i2_2 (by rw [Sha.sq_word q (by omega), hpw] at *; omega)))) rfl) ?_
     refine w_val (y_not (ev (.bool (Sha.ip p)) rfl rfl)) ?_
     refine nt ?_
     refine c_ifb (ev (.bool (!(Sha.ip p))) rfl rfl) (fun hc10 => ?_) (fun hc10 => ?_)
     ·skip
      refine wp_exit ?_
      refine then_x ?_
      refine inb_x ?_
      refine then_n ?_
      refine wp_region_lit ?_
      refine w_mv (ev (U64 (BitVec.ofNat 64 p)) s2_6 rfl) ?_
      refine w_val (y_bin (ev (U64 (BitVec.ofNat 64 p)) rfl rfl) (evc (U64 (1#64))) add64) ?_
      refine w_as (ev (U64 ((BitVec.ofNat 64 p) + (1#64))) rfl rfl) ?_
      refine wpList_nil ?_
      have hpc := Sha.pc_no p (by omega) (by simpa using hc10)
      exact then_n ⟨_, (by omega), p + 1, vj, rfl, _, rfl, iv, iv, s2_0, s2_2, s2_3, s2_4, (by refine Eq.trans (b := .int .i64 (((Sha.pc p) : Nat) : Int)) ?_ ?_; exact s2_5; (congr 1; omega)), (Eq.trans (b := U64 ((BitVec.ofNat 64 p) + (1#64))) rfl (by exact congrArg U64 (BitVec.ofNat_add (n := 64) p 1).symm)), (r_b_14.congr (fun j hj => by first | (exfalso; omega) | exact Sha.rr_a _ _ _ _ _ _ _ _ (Sha.bg_no 8 384 p (by omega)) j | exact Sha.rr_b _ _ _ _ _ _ _ _ _ (Sha.bg_no 8 384 p (by omega)) j | exact Sha.rr_d _ _ _ _ _ _ _ _ _ _ _ (by omega) (Sha.bg_yes 8 384 p _ hpc (by omega) (by omega) (Sha.H_of_384 p (by omega) hip_ (by omega) (by omega))) j)), (own_n (o_vj.congr (fun j hj => by first | (with_reducible rfl) | ((try dsimp only); by_cases e : j < min (Sha.pc p) 80 * 1; (rw [if_pos e]); (rw [if_neg e, show j = Sha.pc p from by omega]; exact congrArg U64 (Sha.K_of false p (by omega) hip_))))) (by omega)), no_vj_b_14, hk⟩
     ·skip
      refine wp_skip ?_
      refine then_n ?_
      refine wp_seq ?_
      refine sr ?_
      refine w_mv (ev (.int .i64 (((Sha.pc p) : Nat) : Int)) s2_5 rfl) ?_
      refine w_mv (ev (pt b_14 0) s2_3 rfl) ?_
      refine w_val (y_nc (ev (pt b_14 0) rfl rfl)) ?_
      refine w_val (v := pt b_14 3) (y_off (y_fa (ev (pt b_14 0) rfl rfl) (ShaMT.fa44_3 _ _)) (by first | rfl | omega)) ?_
      refine w_val (v := .int .i64 80) (y_ld (ev (pt b_14 3) rfl rfl) ShaMT.sc3 (r_b_14.val (by omega) ((if_neg (by omega)).trans ((if_neg (by omega)).trans ((if_neg (by omega)).trans (etv (if_pos (by omega)))))))) ?_
      refine w_val (y_bin (ev (.int .i64 (((Sha.pc p) : Nat) : Int)) rfl rfl) (ev (.int .i64 80) rfl rfl) b_lss) ?_
      refine nt ?_
      refine c_if (p := (((Sha.pc p) : Nat) : Int) < 80) (ev (.bool (decide ((((Sha.pc p) : Nat) : Int) < 80))) rfl rfl) (fun hc11 => ?_) (fun hc11 => ?_)
      ·skip
       refine region_dc (Nat.testBit 15360) 14 ShaMT.mixed rfl ?_
       intro w12 hb13
       replace o_vj := o_vj.step hb13
       replace r_b_14 := r_b_14.step hb13
       replace hk := thenB hk hb13
       have hS : Cls w12 w12 := Below.refl _ _
       refine d_pure (v := pt b_14 0) 0 rfl (by kernel_rfl) (by kernel_rfl) (by kernel_rfl) (by kernel_rfl) (fun _ _ _ h => h) (fun w' => y_mv (ev (pt b_14 0) s2_3 rfl)) ?_
       refine d_pure (v := pt b_14 0) 1 rfl (by kernel_rfl) (by kernel_rfl) (by kernel_rfl) (by kernel_rfl) (fun _ _ _ h => h) (fun w' => y_mv (ev (pt b_14 0) s2_3 rfl)) ?_
       refine d_pure (v := pt b_14 0) 2 rfl (by kernel_rfl) (by kernel_rfl) (by kernel_rfl) (by kernel_rfl) (fun _ _ _ h => h) (fun w' => y_nc (ev (pt b_14 0) rfl rfl)) ?_
       refine d_pure (v := pt b_14 4) 3 rfl (by kernel_rfl) (by kernel_rfl) (by kernel_rfl) (by kernel_rfl) (fun _ _ _ h => h) (fun w' => y_off (y_fa (ev (pt b_14 0) rfl rfl) (ShaMT.fa44_4 _ _)) (by first | rfl | omega)) ?_
       refine d_take (v := vj) 4 (Nat.testBit 15376) rfl (by kernel_rfl) (by kernel_rfl) (by kernel_rfl) (by kernel_rfl) (by kernel_rfl) (by kernel_rfl) (fun _ _ _ h => h) hS (fun w' hw' => y_ld (ev (pt b_14 4) rfl rfl) ShaMT.sc38 (cls_cell (r_b_14.val (by omega) ((if_neg (by omega)).trans ((if_neg (by omega)).trans ((if_neg (by omega)).trans ((if_neg (by omega)).trans (etv (if_pos (by omega)))))))) r_b_14.lt w' hw')) ?_
       refine d_pure (v := pt b_14 0) 5 rfl (by kernel_rfl) (by kernel_rfl) (by kernel_rfl) (by kernel_rfl) (fun _ _ _ h => h) (fun w' => y_mv (ev (pt b_14 0) s2_3 rfl)) ?_
       refine d_pure (v := U64 (BitVec.ofNat 64 p)) 6 rfl (by kernel_rfl) (by kernel_rfl) (by kernel_rfl) (by kernel_rfl) (fun _ _ _ h => h) (fun w' => y_mv (ev (U64 (BitVec.ofNat 64 p)) s2_6 rfl)) ?_
       refine d_one 7 (by kernel_rfl) rfl ?_
       refine w_call (Tryd.func40) (by kernel_rfl) rfl (m2 (ev (U64 (BitVec.ofNat 64 p)) rfl rfl) (evc (.int .i64 3))) (root_3 p (by omega) w12) ?_
       rintro _ w14 ⟨rfl, hb15⟩
       refine ⟨_, rfl, ?_⟩
       replace o_vj := o_vj.step hb15
       replace r_b_14 := r_b_14.step hb15
       replace hk := thenB hk hb15
       replace hS := thenB hS hb15
       refine wpList_nil ?_
       refine then_n ⟨fun _ h => thenB h (by assumption), ?_⟩
       refine d_one 8 (by kernel_rfl) rfl ?_
       refine w_call (Tryd.func39) (by kernel_rfl) rfl (m2 (ev (pt b_14 0) rfl rfl) (ev (U64 (BitVec.ofNat 64 (Sha.rt p 3 69))) rfl rfl)) (cut_f b_14 (BitVec.ofNat 64 (Sha.rt p 3 69)) 384 (by decide) w14 (F := Sha.rrow (.int .i64 384) (.int .i64 48) (.int .i64 128) (.int .i64 80) (vj) (Sha.bg 8 384 p) (fun i => U64 (BitVec.ofNat 64 (Sha.trn false i)))) r_b_14 rfl) ?_
       rintro _ w16 ⟨rfl, hb17⟩
       refine ⟨_, rfl, ?_⟩
       replace o_vj := o_vj.step hb17
       replace r_b_14 := r_b_14.step hb17
       replace hk := thenB hk hb17
       replace hS := thenB hS hb17
       refine wpList_nil ?_
       refine then_n ⟨fun _ h => thenB h (by assumption), ?_⟩
       refine d_one 9 (by kernel_rfl) rfl ?_
       refine w_bs1 (m := 1) (e := 39) (F := fun j => U64 (Sha.cutw false (BitVec.ofNat 64 (Sha.rt p 3 69)))) (ev (U64 (Sha.cutw false (BitVec.ofNat 64 (Sha.rt p 3 69)))) rfl rfl) (fun w => by kernel_rfl) ?_
       intro b_61 w18 hbe_b_61 r_b_61 hb19
       have ne_b_14_b_61 : b_14 ≠ b_61 := by have := r_b_14.lt; omega
       have no_vj_b_61 : vj.ownBlock ≠ some b_61 := o_vj.apart (by omega)
       have ge_b_61 : w0.heap.size ≤ b_61 := by have := hk.size; omega
       clear hbe_b_61
       replace o_vj := o_vj.step hb19
       replace r_b_14 := r_b_14.step hb19
       replace hk := thenB hk hb19
       replace hS := thenB hS hb19
       refine wpList_nil ?_
       refine then_n ⟨fun _ h => thenB h (by assumption), ?_⟩
       refine d_one 10 (by kernel_rfl) rfl ?_
       refine w_app (k := (min (Sha.pc p) 80)) (m := 1) (size := 1) (bytes := 8) (ev vj rfl rfl) (ev (.slice (some ⟨b_61, 0, none⟩) 1 1) rfl rfl) Tryd.underlying38 (by kernel_rfl) (by decide) o_vj hk.size r_b_61 (by omega) oca (by simp only [maxLen]; omega) (by omega) ?_
       intro v20 w21 o_v20 hg22 hv23
       have no_v20_b_14 := no_new no_vj_b_14 r_b_14.lt hv23
       replace r_b_14 := r_b_14.stepO hg22 no_vj_b_14
       have no_v20_b_61 := no_new no_vj_b_61 r_b_61.lt hv23
       replace r_b_61 := r_b_61.stepO hg22 no_vj_b_61
       replace hk := thenO hk hg22 (fun g e => (o_vj.block_lt g e).2)
       clear o_vj
       clear hS
       refine wpList_nil ?_
       refine then_n ⟨fun hD => absurd hD (by decide), ?_⟩
       refine d_one 11 (by kernel_rfl) rfl ?_
       refine w_val (y_nc (ev (pt b_14 0) rfl rfl)) ?_
       refine wpList_nil ?_
       refine then_n ⟨fun hD => absurd hD (by decide), ?_⟩
       refine d_one 12 (by kernel_rfl) rfl ?_
       refine w_val (v := pt b_14 4) (y_off (y_fa (ev (pt b_14 0) rfl rfl) (ShaMT.fa44_4 _ _)) (by first | rfl | omega)) ?_
       refine wpList_nil ?_
       refine then_n ⟨fun hD => absurd hD (by decide), ?_⟩
       refine d_one 13 (by kernel_rfl) rfl ?_
       refine w_st (v := v20) (ev (pt b_14 4) rfl rfl) (ev v20 rfl rfl) (o_v20.one) (o_v20.cells) ShaMT.sz38 r_b_14 (by omega) ?_
       clear r_b_14; intro w24 r_b_14 hg25 _
       replace o_v20 := o_v20.stepG hg25 no_v20_b_14
       replace r_b_61 := r_b_61.stepG hg25 (by omega)
       replace hk := thenG hk hg25 (by omega)
       refine wpList_nil ?_
       refine then_n ⟨fun hD => absurd hD (by decide), ?_⟩
       refine d_done (by kernel_rfl) ?_
       refine then_n ?_
       refine wp_seq ?_
       refine sr ?_
       refine w_mv (ev (.int .i64 (((Sha.pc p) : Nat) : Int)) s2_5 rfl) ?_
       refine w_mv (ev (.int .i64 8) s2_4 rfl) ?_
       refine w_val (y_bin (ev (.int .i64 (((Sha.pc p) : Nat) : Int)) rfl rfl) (ev (.int .i64 8) rfl rfl) b_geq) ?_
       refine w_mv (ev (.bool (decide (8 ≤ (((Sha.pc p) : Nat) : Int)))) rfl rfl) ?_
       by_cases hc26 : 8 ≤ (((Sha.pc p) : Nat) : Int)
       ·skip
        refine w_val_g (v := .int .i64 (((Sha.pc p) : Nat) : Int)) (want_yes (j := 3) rfl rfl (ev (.bool true) (Eq.trans (b := .bool (decide (8 ≤ (((Sha.pc p) : Nat) : Int)))) rfl (by rw [decide_eq_true hc26])) rfl) rfl) (y_mv (ev (.int .i64 (((Sha.pc p) : Nat) : Int)) s2_5 rfl)) ?_
        refine w_val_g (v := .int .i64 8) (want_yes (j := 3) rfl rfl (ev (.bool true) (Eq.trans (b := .bool (decide (8 ≤ (((Sha.pc p) : Nat) : Int)))) rfl (by rw [decide_eq_true hc26])) rfl) rfl) (y_mv (ev (.int .i64 8) s2_4 rfl)) ?_
        refine w_val_g (want_yes (j := 3) rfl rfl (ev (.bool true) (Eq.trans (b := .bool (decide (8 ≤ (((Sha.pc p) : Nat) : Int)))) rfl (by rw [decide_eq_true hc26])) rfl) rfl) (y_bin (ev (.int .i64 8) rfl rfl) (evc (.int .i64 8)) (b_add (by omega))) ?_
        refine w_val_g (want_yes (j := 3) rfl rfl (ev (.bool true) (Eq.trans (b := .bool (decide (8 ≤ (((Sha.pc p) : Nat) : Int)))) rfl (by rw [decide_eq_true hc26])) rfl) rfl) (y_bin (ev (.int .i64 (((Sha.pc p) : Nat) : Int)) rfl rfl) (ev (.int .i64 16) rfl rfl) b_lss) ?_
        refine w_val (y_pick_t (ev (.bool true) (Eq.trans (b := .bool (decide (8 ≤ (((Sha.pc p) : Nat) : Int)))) rfl (by rw [decide_eq_true hc26])) rfl) (ev (.bool (decide ((((Sha.pc p) : Nat) : Int) < 16))) rfl rfl)) ?_
        refine nt ?_
        refine c_if (p := (((Sha.pc p) : Nat) : Int) < 16) (ev (.bool (decide ((((Sha.pc p) : Nat) : Int) < 16))) rfl rfl) (fun hc27 => ?_) (fun hc27 => ?_)
        ·skip
         refine region_t 11 ShaMT.mixed (by kernel_rfl) ?_
         simp only [List.take_succ_cons, List.take_zero, List.drop_succ_cons, List.drop_zero]
         refine q_mv (ev (pt b_14 0) s2_3 rfl) ?_
         refine q_mv (ev (.int .i64 (((Sha.pc p) : Nat) : Int)) s2_5 rfl) ?_
         refine q_mv (ev (.int .i64 8) s2_4 rfl) ?_
         refine q_val (fun w' hw' => y_bin (ev (.int .i64 (((Sha.pc p) : Nat) : Int)) rfl rfl) (ev (.int .i64 8) rfl rfl) (b_sub (by omega))) ?_
         refine q_mv (ev (pt b_14 0) s2_3 rfl) ?_
         refine q_mv (ev (U64 (BitVec.ofNat 64 p)) s2_6 rfl) ?_
         refine q_call (v := U64 (BitVec.ofNat 64 (Sha.rt p 2 69))) (Tryd.func40) (by kernel_rfl) rfl (m2 (ev (U64 (BitVec.ofNat 64 p)) rfl rfl) (evc (.int .i64 2))) (fun w' hw' => root_2 p (by omega) w') ?_
         refine q_call (v := U64 (Sha.cutw false (BitVec.ofNat 64 (Sha.rt p 2 69)))) (Tryd.func39) (by kernel_rfl) rfl (m2 (ev (pt b_14 0) rfl rfl) (ev (U64 (BitVec.ofNat 64 (Sha.rt p 2 69))) rfl rfl)) (fun w' hw' => cut_f b_14 (BitVec.ofNat 64 (Sha.rt p 2 69)) 384 (by decide) w' (F := fun j => if j = 4 then v20 else (Sha.rrow (.int .i64 384) (.int .i64 48) (.int .i64 128) (.int .i64 80) (vj) (Sha.bg 8 384 p) (fun i => U64 (BitVec.ofNat 64 (Sha.trn false i)))) j) (r_b_14.step hw') rfl) ?_
         refine q_val (fun w' hw' => y_nc (ev (pt b_14 0) rfl rfl)) ?_
         refine q_val (v := pt b_14 5) (fun w' hw' => y_off (y_fa (ev (pt b_14 0) rfl rfl) (ShaMT.fa44_5 _ _)) (by first | rfl | omega)) ?_
         refine q_val (v := pt b_14 (5 + ((Sha.pc p) - 8))) (fun w' hw' => y_off (y_ia1 (i := ((Sha.pc p) - 8)) (ev (pt b_14 5) rfl rfl) (ev (.int .i64 ((((Sha.pc p) : Nat) : Int) - 8)) rfl rfl) Tryd.underlying40 ShaMT.sz39 (by omega) (by omega)) (by first | rfl | omega)) ?_
         refine q_nil ?_
         intro w28 hb29
         replace o_v20 := o_v20.step hb29
         replace r_b_14 := r_b_14.step hb29
         replace r_b_61 := r_b_61.step hb29
         replace hk := thenB hk hb29
         refine w_st (v := U64 (Sha.cutw false (BitVec.ofNat 64 (Sha.rt p 2 69)))) (ev (pt b_14 (5 + ((Sha.pc p) - 8))) rfl rfl) (ev (U64 (Sha.cutw false (BitVec.ofNat 64 (Sha.rt p 2 69)))) rfl rfl) rfl rfl ShaMT.sz39 r_b_14 (by omega) ?_
         clear r_b_14; intro w30 r_b_14 hg31 _
         replace o_v20 := o_v20.stepG hg31 no_v20_b_14
         replace r_b_61 := r_b_61.stepG hg31 (by omega)
         replace hk := thenG hk hg31 (by omega)
         refine nt ?_
         refine wp_region_lit ?_
         refine w_mv (ev (.int .i64 (((Sha.pc p) : Nat) : Int)) s2_5 rfl) ?_
         refine w_val (y_bin (ev (.int .i64 (((Sha.pc p) : Nat) : Int)) rfl rfl) (evc (.int .i64 1)) (b_add (by omega))) ?_
         refine w_as (ev (.int .i64 ((((Sha.pc p) : Nat) : Int) + 1)) rfl rfl) ?_
         refine wpList_nil ?_
         refine inb_n ?_
         refine then_n ?_
         refine wp_region_lit ?_
         refine w_mv (ev (U64 (BitVec.ofNat 64 p)) s2_6 rfl) ?_
         refine w_val (y_bin (ev (U64 (BitVec.ofNat 64 p)) rfl rfl) (evc (U64 (1#64))) add64) ?_
         refine w_as (ev (U64 ((BitVec.ofNat 64 p) + (1#64))) rfl rfl) ?_
         refine wpList_nil ?_
         have hip_ : Sha.ip p = true := by simpa using hc10
         have hpc := Sha.pc_yes p (by omega) hip_
         exact then_n ⟨_, (by omega), p + 1, v20, rfl, _, rfl, iv, iv, s2_0, s2_2, s2_3, s2_4, (Eq.trans (b := .int .i64 ((((Sha.pc p) : Nat) : Int) + 1)) rfl (by congr 1; omega)), (Eq.trans (b := U64 ((BitVec.ofNat 64 p) + (1#64))) rfl (by exact congrArg U64 (BitVec.ofNat_add (n := 64) p 1).symm)), (r_b_14.congr (fun j hj => by first | (exfalso; omega) | exact Sha.rr_a _ _ _ _ _ _ _ _ (Sha.bg_no 8 384 p (by omega)) j | exact Sha.rr_b _ _ _ _ _ _ _ _ _ (Sha.bg_no 8 384 p (by omega)) j | exact Sha.rr_d _ _ _ _ _ _ _ _ _ _ _ (by omega) (Sha.bg_yes 8 384 p _ hpc (by omega) (by omega) (Sha.H_of_384 p (by omega) hip_ (by omega) (by omega))) j)), (own_n (o_v20.congr (fun j hj => by first | (with_reducible rfl) | ((try dsimp only); by_cases e : j < min (Sha.pc p) 80 * 1; (rw [if_pos e]); (rw [if_neg e, show j = Sha.pc p from by omega]; exact congrArg U64 (Sha.K_of false p (by omega) hip_))))) (by omega)), no_v20_b_14, hk⟩
        ·skip
         refine wp_skip ?_
         refine then_n ?_
         refine wp_region_lit ?_
         refine w_mv (ev (.int .i64 (((Sha.pc p) : Nat) : Int)) s2_5 rfl) ?_
         refine w_val (y_bin (ev (.int .i64 (((Sha.pc p) : Nat) : Int)) rfl rfl) (evc (.int .i64 1)) (b_add (by omega))) ?_
         refine w_as (ev (.int .i64 ((((Sha.pc p) : Nat) : Int) + 1)) rfl rfl) ?_
         refine wpList_nil ?_
         refine inb_n ?_
         refine then_n ?_
         refine wp_region_lit ?_
         refine w_mv (ev (U64 (BitVec.ofNat 64 p)) s2_6 rfl) ?_
         refine w_val (y_bin (ev (U64 (BitVec.ofNat 64 p)) rfl rfl) (evc (U64 (1#64))) add64) ?_
         refine w_as (ev (U64 ((BitVec.ofNat 64 p) + (1#64))) rfl rfl) ?_
         refine wpList_nil ?_
         have hip_ : Sha.ip p = true := by simpa using hc10
         have hpc := Sha.pc_yes p (by omega) hip_
         exact then_n ⟨_, (by omega), p + 1, v20, rfl, _, rfl, iv, iv, s2_0, s2_2, s2_3, s2_4, (Eq.trans (b := .int .i64 ((((Sha.pc p) : Nat) : Int) + 1)) rfl (by congr 1; omega)), (Eq.trans (b := U64 ((BitVec.ofNat 64 p) + (1#64))) rfl (by exact congrArg U64 (BitVec.ofNat_add (n := 64) p 1).symm)), (r_b_14.congr (fun j hj => by first | (exfalso; omega) | exact Sha.rr_a _ _ _ _ _ _ _ _ (Sha.bg_no 8 384 p (by omega)) j | exact Sha.rr_b _ _ _ _ _ _ _ _ _ (Sha.bg_no 8 384 p (by omega)) j | exact Sha.rr_d _ _ _ _ _ _ _ _ _ _ _ (by omega) (Sha.bg_yes 8 384 p _ hpc (by omega) (by omega) (Sha.H_of_384 p (by omega) hip_ (by omega) (by omega))) j)), (own_n (o_v20.congr (fun j hj => by first | (with_reducible rfl) | ((try dsimp only); by_cases e : j < min (Sha.pc p) 80 * 1; (rw [if_pos e]); (rw [if_neg e, show j = Sha.pc p from by omega]; exact congrArg U64 (Sha.K_of false p (by omega) hip_))))) (by omega)), no_v20_b_14, hk⟩
       ·skip
        first | with_reducible refine w_skip ?_ ?_ | refine w_skip ?_ ?_
        · exact want_no (j := 3) rfl rfl (ev (.bool false) (Eq.trans (b := .bool (decide (8 ≤ (((Sha.pc p) : Nat) : Int)))) rfl (by rw [decide_eq_false hc26])) rfl) rfl
        first | with_reducible refine w_skip ?_ ?_ | refine w_skip ?_ ?_
        · exact want_no (j := 3) rfl rfl (ev (.bool false) (Eq.trans (b := .bool (decide (8 ≤ (((Sha.pc p) : Nat) : Int)))) rfl (by rw [decide_eq_false hc26])) rfl) rfl
        first | with_reducible refine w_skip ?_ ?_ | refine w_skip ?_ ?_
        · exact want_no (j := 3) rfl rfl (ev (.bool false) (Eq.trans (b := .bool (decide (8 ≤ (((Sha.pc p) : Nat) : Int)))) rfl (by rw [decide_eq_false hc26])) rfl) rfl
        first | with_reducible refine w_skip ?_ ?_ | refine w_skip ?_ ?_
        · exact want_no (j := 3) rfl rfl (ev (.bool false) (Eq.trans (b := .bool (decide (8 ≤ (((Sha.pc p) : Nat) : Int)))) rfl (by rw [decide_eq_false hc26])) rfl) rfl
        refine w_val (y_pick_f (ev (.bool false) (Eq.trans (b := .bool (decide (8 ≤ (((Sha.pc p) : Nat) : Int)))) rfl (by rw [decide_eq_false hc26])) rfl) (evc (.bool false))) ?_
        refine nt ?_
        refine c_ff (ev (.bool false) rfl rfl) ?_
        refine wp_skip ?_
        refine then_n ?_
        refine wp_region_lit ?_
        refine w_mv (ev (.int .i64 (((Sha.pc p) : Nat) : Int)) s2_5 rfl) ?_
        refine w_val (y_bin (ev (.int .i64 (((Sha.pc p) : Nat) : Int)) rfl rfl) (evc (.int .i64 1)) (b_add (by omega))) ?_
        refine w_as (ev (.int .i64 ((((Sha.pc p) : Nat) : Int) + 1)) rfl rfl) ?_
        refine wpList_nil ?_
        refine inb_n ?_
        refine then_n ?_
        refine wp_region_lit ?_
        refine w_mv (ev (U64 (BitVec.ofNat 64 p)) s2_6 rfl) ?_
        refine w_val (y_bin (ev (U64 (BitVec.ofNat 64 p)) rfl rfl) (evc (U64 (1#64))) add64) ?_
        refine w_as (ev (U64 ((BitVec.ofNat 64 p) + (1#64))) rfl rfl) ?_
        refine wpList_nil ?_
        have hip_ : Sha.ip p = true := by simpa using hc10
        have hpc := Sha.pc_yes p (by omega) hip_
        exact then_n ⟨_, (by omega), p + 1, v20, rfl, _, rfl, iv, iv, s2_0, s2_2, s2_3, s2_4, (Eq.trans (b := .int .i64 ((((Sha.pc p) : Nat) : Int) + 1)) rfl (by congr 1; omega)), (Eq.trans (b := U64 ((BitVec.ofNat 64 p) + (1#64))) rfl (by exact congrArg U64 (BitVec.ofNat_add (n := 64) p 1).symm)), (r_b_14.congr (fun j hj => by first | (exfalso; omega) | exact Sha.rr_a _ _ _ _ _ _ _ _ (Sha.bg_no 8 384 p (by omega)) j | exact Sha.rr_b _ _ _ _ _ _ _ _ _ (Sha.bg_no 8 384 p (by omega)) j | exact Sha.rr_d _ _ _ _ _ _ _ _ _ _ _ (by omega) (Sha.bg_yes 8 384 p _ hpc (by omega) (by omega) (Sha.H_of_384 p (by omega) hip_ (by omega) (by omega))) j)), (own_n (o_v20.congr (fun j hj => by first | (with_reducible rfl) | ((try dsimp only); by_cases e : j < min (Sha.pc p) 80 * 1; (rw [if_pos e]); (rw [if_neg e, show j = Sha.pc p from by omega]; exact congrArg U64 (Sha.K_of false p (by omega) hip_))))) (by omega)), no_v20_b_14, hk⟩
      ·skip
       refine wp_skip ?_
       refine then_n ?_
       refine wp_seq ?_
       refine sr ?_
       refine w_mv (ev (.int .i64 (((Sha.pc p) : Nat) : Int)) s2_5 rfl) ?_
       refine w_mv (ev (.int .i64 8) s2_4 rfl) ?_
       refine w_val (y_bin (ev (.int .i64 (((Sha.pc p) : Nat) : Int)) rfl rfl) (ev (.int .i64 8) rfl rfl) b_geq) ?_
       refine w_mv (ev (.bool (decide (8 ≤ (((Sha.pc p) : Nat) : Int)))) rfl rfl) ?_
       by_cases hc32 : 8 ≤ (((Sha.pc p) : Nat) : Int)
       ·skip
        refine w_val_g (v := .int .i64 (((Sha.pc p) : Nat) : Int)) (want_yes (j := 3) rfl rfl (ev (.bool true) (Eq.trans (b := .bool (decide (8 ≤ (((Sha.pc p) : Nat) : Int)))) rfl (by rw [decide_eq_true hc32])) rfl) rfl) (y_mv (ev (.int .i64 (((Sha.pc p) : Nat) : Int)) s2_5 rfl)) ?_
        refine w_val_g (v := .int .i64 8) (want_yes (j := 3) rfl rfl (ev (.bool true) (Eq.trans (b := .bool (decide (8 ≤ (((Sha.pc p) : Nat) : Int)))) rfl (by rw [decide_eq_true hc32])) rfl) rfl) (y_mv (ev (.int .i64 8) s2_4 rfl)) ?_
        refine w_val_g (want_yes (j := 3) rfl rfl (ev (.bool true) (Eq.trans (b := .bool (decide (8 ≤ (((Sha.pc p) : Nat) : Int)))) rfl (by rw [decide_eq_true hc32])) rfl) rfl) (y_bin (ev (.int .i64 8) rfl rfl) (evc (.int .i64 8)) (b_add (by omega))) ?_
        refine w_val_g (want_yes (j := 3) rfl rfl (ev (.bool true) (Eq.trans (b := .bool (decide (8 ≤ (((Sha.pc p) : Nat) : Int)))) rfl (by rw [decide_eq_true hc32])) rfl) rfl) (y_bin (ev (.int .i64 (((Sha.pc p) : Nat) : Int)) rfl rfl) (ev (.int .i64 16) rfl rfl) b_lss) ?_
        refine w_val (y_pick_t (ev (.bool true) (Eq.trans (b := .bool (decide (8 ≤ (((Sha.pc p) : Nat) : Int)))) rfl (by rw [decide_eq_true hc32])) rfl) (ev (.bool (decide ((((Sha.pc p) : Nat) : Int) < 16))) rfl rfl)) ?_
        refine nt ?_
        refine c_if (p := (((Sha.pc p) : Nat) : Int) < 16) (ev (.bool (decide ((((Sha.pc p) : Nat) : Int) < 16))) rfl rfl) (fun hc33 => ?_) (fun hc33 => ?_)
        ·skip
         refine region_t 11 ShaMT.mixed (by kernel_rfl) ?_
         simp only [List.take_succ_cons, List.take_zero, List.drop_succ_cons, List.drop_zero]
         refine q_mv (ev (pt b_14 0) s2_3 rfl) ?_
         refine q_mv (ev (.int .i64 (((Sha.pc p) : Nat) : Int)) s2_5 rfl) ?_
         refine q_mv (ev (.int .i64 8) s2_4 rfl) ?_
         refine q_val (fun w' hw' => y_bin (ev (.int .i64 (((Sha.pc p) : Nat) : Int)) rfl rfl) (ev (.int .i64 8) rfl rfl) (b_sub (by omega))) ?_
         refine q_mv (ev (pt b_14 0) s2_3 rfl) ?_
         refine q_mv (ev (U64 (BitVec.ofNat 64 p)) s2_6 rfl) ?_
         refine q_call (v := U64 (BitVec.ofNat 64 (Sha.rt p 2 69))) (Tryd.func40) (by kernel_rfl) rfl (m2 (ev (U64 (BitVec.ofNat 64 p)) rfl rfl) (evc (.int .i64 2))) (fun w' hw' => root_2 p (by omega) w') ?_
         refine q_call (v := U64 (Sha.cutw false (BitVec.ofNat 64 (Sha.rt p 2 69)))) (Tryd.func39) (by kernel_rfl) rfl (m2 (ev (pt b_14 0) rfl rfl) (ev (U64 (BitVec.ofNat 64 (Sha.rt p 2 69))) rfl rfl)) (fun w' hw' => cut_f b_14 (BitVec.ofNat 64 (Sha.rt p 2 69)) 384 (by decide) w' (F := Sha.rrow (.int .i64 384) (.int .i64 48) (.int .i64 128) (.int .i64 80) (vj) (Sha.bg 8 384 p) (fun i => U64 (BitVec.ofNat 64 (Sha.trn false i)))) (r_b_14.step hw') rfl) ?_
         refine q_val (fun w' hw' => y_nc (ev (pt b_14 0) rfl rfl)) ?_
         refine q_val (v := pt b_14 5) (fun w' hw' => y_off (y_fa (ev (pt b_14 0) rfl rfl) (ShaMT.fa44_5 _ _)) (by first | rfl | omega)) ?_
         refine q_val (v := pt b_14 (5 + ((Sha.pc p) - 8))) (fun w' hw' => y_off (y_ia1 (i := ((Sha.pc p) - 8)) (ev (pt b_14 5) rfl rfl) (ev (.int .i64 ((((Sha.pc p) : Nat) : Int) - 8)) rfl rfl) Tryd.underlying40 ShaMT.sz39 (by omega) (by omega)) (by first | rfl | omega)) ?_
         refine q_nil ?_
         intro w34 hb35
         replace o_vj := o_vj.step hb35
         replace r_b_14 := r_b_14.step hb35
         replace hk := thenB hk hb35
         refine w_st (v := U64 (Sha.cutw false (BitVec.ofNat 64 (Sha.rt p 2 69)))) (ev (pt b_14 (5 + ((Sha.pc p) - 8))) rfl rfl) (ev (U64 (Sha.cutw false (BitVec.ofNat 64 (Sha.rt p 2 69)))) rfl rfl) rfl rfl ShaMT.sz39 r_b_14 (by omega) ?_
         clear r_b_14; intro w36 r_b_14 hg37 _
         replace o_vj := o_vj.stepG hg37 no_vj_b_14
         replace hk := thenG hk hg37 (by omega)
         refine nt ?_
         refine wp_region_lit ?_
         refine w_mv (ev (.int .i64 (((Sha.pc p) : Nat) : Int)) s2_5 rfl) ?_
         refine w_val (y_bin (ev (.int .i64 (((Sha.pc p) : Nat) : Int)) rfl rfl) (evc (.int .i64 1)) (b_add (by omega))) ?_
         refine w_as (ev (.int .i64 ((((Sha.pc p) : Nat) : Int) + 1)) rfl rfl) ?_
         refine wpList_nil ?_
         refine inb_n ?_
         refine then_n ?_
         refine wp_region_lit ?_
         refine w_mv (ev (U64 (BitVec.ofNat 64 p)) s2_6 rfl) ?_
         refine w_val (y_bin (ev (U64 (BitVec.ofNat 64 p)) rfl rfl) (evc (U64 (1#64))) add64) ?_
         refine w_as (ev (U64 ((BitVec.ofNat 64 p) + (1#64))) rfl rfl) ?_
         refine wpList_nil ?_
         have hip_ : Sha.ip p = true := by simpa using hc10
         have hpc := Sha.pc_yes p (by omega) hip_
         exact then_n ⟨_, (by omega), p + 1, vj, rfl, _, rfl, iv, iv, s2_0, s2_2, s2_3, s2_4, (Eq.trans (b := .int .i64 ((((Sha.pc p) : Nat) : Int) + 1)) rfl (by congr 1; omega)), (Eq.trans (b := U64 ((BitVec.ofNat 64 p) + (1#64))) rfl (by exact congrArg U64 (BitVec.ofNat_add (n := 64) p 1).symm)), (r_b_14.congr (fun j hj => by first | (exfalso; omega) | exact Sha.rr_a _ _ _ _ _ _ _ _ (Sha.bg_no 8 384 p (by omega)) j | exact Sha.rr_b _ _ _ _ _ _ _ _ _ (Sha.bg_no 8 384 p (by omega)) j | exact Sha.rr_d _ _ _ _ _ _ _ _ _ _ _ (by omega) (Sha.bg_yes 8 384 p _ hpc (by omega) (by omega) (Sha.H_of_384 p (by omega) hip_ (by omega) (by omega))) j)), (own_n (o_vj.congr (fun j hj => by first | (with_reducible rfl) | ((try dsimp only); by_cases e : j < min (Sha.pc p) 80 * 1; (rw [if_pos e]); (rw [if_neg e, show j = Sha.pc p from by omega]; exact congrArg U64 (Sha.K_of false p (by omega) hip_))))) (by omega)), no_vj_b_14, hk⟩
        ·skip
         refine wp_skip ?_
         refine then_n ?_
         refine wp_region_lit ?_
         refine w_mv (ev (.int .i64 (((Sha.pc p) : Nat) : Int)) s2_5 rfl) ?_
         refine w_val (y_bin (ev (.int .i64 (((Sha.pc p) : Nat) : Int)) rfl rfl) (evc (.int .i64 1)) (b_add (by omega))) ?_
         refine w_as (ev (.int .i64 ((((Sha.pc p) : Nat) : Int) + 1)) rfl rfl) ?_
         refine wpList_nil ?_
         refine inb_n ?_
         refine then_n ?_
         refine wp_region_lit ?_
         refine w_mv (ev (U64 (BitVec.ofNat 64 p)) s2_6 rfl) ?_
         refine w_val (y_bin (ev (U64 (BitVec.ofNat 64 p)) rfl rfl) (evc (U64 (1#64))) add64) ?_
         refine w_as (ev (U64 ((BitVec.ofNat 64 p) + (1#64))) rfl rfl) ?_
         refine wpList_nil ?_
         have hip_ : Sha.ip p = true := by simpa using hc10
         have hpc := Sha.pc_yes p (by omega) hip_
         exact then_n ⟨_, (by omega), p + 1, vj, rfl, _, rfl, iv, iv, s2_0, s2_2, s2_3, s2_4, (Eq.trans (b := .int .i64 ((((Sha.pc p) : Nat) : Int) + 1)) rfl (by congr 1; omega)), (Eq.trans (b := U64 ((BitVec.ofNat 64 p) + (1#64))) rfl (by exact congrArg U64 (BitVec.ofNat_add (n := 64) p 1).symm)), (r_b_14.congr (fun j hj => by first | (exfalso; omega) | exact Sha.rr_a _ _ _ _ _ _ _ _ (Sha.bg_no 8 384 p (by omega)) j | exact Sha.rr_b _ _ _ _ _ _ _ _ _ (Sha.bg_no 8 384 p (by omega)) j | exact Sha.rr_d _ _ _ _ _ _ _ _ _ _ _ (by omega) (Sha.bg_yes 8 384 p _ hpc (by omega) (by omega) (Sha.H_of_384 p (by omega) hip_ (by omega) (by omega))) j)), (own_n (o_vj.congr (fun j hj => by first | (with_reducible rfl) | ((try dsimp only); by_cases e : j < min (Sha.pc p) 80 * 1; (rw [if_pos e]); (rw [if_neg e, show j = Sha.pc p from by omega]; exact congrArg U64 (Sha.K_of false p (by omega) hip_))))) (by omega)), no_vj_b_14, hk⟩
       ·skip
        first | with_reducible refine w_skip ?_ ?_ | refine w_skip ?_ ?_
        · exact want_no (j := 3) rfl rfl (ev (.bool false) (Eq.trans (b := .bool (decide (8 ≤ (((Sha.pc p) : Nat) : Int)))) rfl (by rw [decide_eq_false hc32])) rfl) rfl
        first | with_reducible refine w_skip ?_ ?_ | refine w_skip ?_ ?_
        · exact want_no (j := 3) rfl rfl (ev (.bool false) (Eq.trans (b := .bool (decide (8 ≤ (((Sha.pc p) : Nat) : Int)))) rfl (by rw [decide_eq_false hc32])) rfl) rfl
        first | with_reducible refine w_skip ?_ ?_ | refine w_skip ?_ ?_
        · exact want_no (j := 3) rfl rfl (ev (.bool false) (Eq.trans (b := .bool (decide (8 ≤ (((Sha.pc p) : Nat) : Int)))) rfl (by rw [decide_eq_false hc32])) rfl) rfl
        first | with_reducible refine w_skip ?_ ?_ | refine w_skip ?_ ?_
        · exact want_no (j := 3) rfl rfl (ev (.bool false) (Eq.trans (b := .bool (decide (8 ≤ (((Sha.pc p) : Nat) : Int)))) rfl (by rw [decide_eq_false hc32])) rfl) rfl
        refine w_val (y_pick_f (ev (.bool false) (Eq.trans (b := .bool (decide (8 ≤ (((Sha.pc p) : Nat) : Int)))) rfl (by rw [decide_eq_false hc32])) rfl) (evc (.bool false))) ?_
        refine nt ?_
        refine c_ff (ev (.bool false) rfl rfl) ?_
        refine wp_skip ?_
        refine then_n ?_
        refine wp_region_lit ?_
        refine w_mv (ev (.int .i64 (((Sha.pc p) : Nat) : Int)) s2_5 rfl) ?_
        refine w_val (y_bin (ev (.int .i64 (((Sha.pc p) : Nat) : Int)) rfl rfl) (evc (.int .i64 1)) (b_add (by omega))) ?_
        refine w_as (ev (.int .i64 ((((Sha.pc p) : Nat) : Int) + 1)) rfl rfl) ?_
        refine wpList_nil ?_
        refine inb_n ?_
        refine then_n ?_
        refine wp_region_lit ?_
        refine w_mv (ev (U64 (BitVec.ofNat 64 p)) s2_6 rfl) ?_
        refine w_val (y_bin (ev (U64 (BitVec.ofNat 64 p)) rfl rfl) (evc (U64 (1#64))) add64) ?_
        refine w_as (ev (U64 ((BitVec.ofNat 64 p) + (1#64))) rfl rfl) ?_
        refine wpList_nil ?_
        have hip_ : Sha.ip p = true := by simpa using hc10
        have hpc := Sha.pc_yes p (by omega) hip_
        exact then_n ⟨_, (by omega), p + 1, vj, rfl, _, rfl, iv, iv, s2_0, s2_2, s2_3, s2_4, (Eq.trans (b := .int .i64 ((((Sha.pc p) : Nat) : Int) + 1)) rfl (by congr 1; omega)), (Eq.trans (b := U64 ((BitVec.ofNat 64 p) + (1#64))) rfl (by exact congrArg U64 (BitVec.ofNat_add (n := 64) p 1).symm)), (r_b_14.congr (fun j hj => by first | (exfalso; omega) | exact Sha.rr_a _ _ _ _ _ _ _ _ (Sha.bg_no 8 384 p (by omega)) j | exact Sha.rr_b _ _ _ _ _ _ _ _ _ (Sha.bg_no 8 384 p (by omega)) j | exact Sha.rr_d _ _ _ _ _ _ _ _ _ _ _ (by omega) (Sha.bg_yes 8 384 p _ hpc (by omega) (by omega) (Sha.H_of_384 p (by omega) hip_ (by omega) (by omega))) j)), (own_n (o_vj.congr (fun j hj => by first | (with_reducible rfl) | ((try dsimp only); by_cases e : j < min (Sha.pc p) 80 * 1; (rw [if_pos e]); (rw [if_neg e, show j = Sha.pc p from by omega]; exact congrArg U64 (Sha.K_of false p (by omega) hip_))))) (by omega)), no_vj_b_14, hk⟩
  ·skip
   refine wp_exit ?_
   refine then_x ?_
   refine then_x ?_
   refine inb_x ?_
   refine then_n ?_
   refine sr ?_
   refine w_mv (ev (pt b_14 0) s1_3 rfl) ?_
   refine w_as (ev (pt b_14 0) rfl rfl) ?_
   refine nt ?_
   refine wp_ret ?_
   refine fin_ret1 rfl (ev (pt b_14 0) rfl rfl) ?_
   obtain ⟨g38, cap38, hv38, ge_g38, hc_g38, hob_g38, r_g38⟩ := o_vk.opened (by omega)
   have ne_b_14_g38 : b_14 ≠ g38 := fun e => no_vk_b_14 (by rw [hob_g38, e])
   have hmn : min (Sha.pc p) 80 = 80 := by omega
   rw [hmn] at hv38 r_g38
   refine ⟨b_14, g38, cap38, rfl, ge_b_14, ge_g38, ne_b_14_g38, r_b_14.congr (fun j hj => ?_), r_g38, hk⟩
   rw [hv38]; exact Sha.rr_a _ _ _ _ _ _ _ _ (fun i hi => if_pos (by omega)) j

set_option maxRecDepth 100000 in
set_option maxHeartbeats 1000000 in
theorem make_512  (w0 : World) : Calls Tryd.prog 22 #[.int .i64 512] w0 fun e w' => ∃ rp g cap, e = .returned (.pointer (some ⟨rp, 0, none⟩)) ∧ w0.heap.size ≤ rp ∧ w0.heap.size ≤ g ∧ rp ≠ g ∧ Row w' rp 44 25 (Sha.rrow (.int .i64 512) (.int .i64 64) (.int .i64 128) (.int .i64 80) (.slice (some ⟨g, 0, none⟩) 80 cap) (Sha.H0 512) (fun i => U64 (BitVec.ofNat 64 (Sha.trn false i)))) ∧ Row w' g 39 (80 * 1) (fun j => U64 (Sha.K false j)) ∧ Below w0.heap.size w0 w' := by
 refine enter (n := 88) Tryd.func22 rfl rfl rfl ?_
 have hk : Below w0.heap.size w0 w0 := Below.refl _ _
 refine sr ?_
 refine w_as (evc (.pointer none)) ?_
 refine nt ?_
 refine sr ?_
 refine w_mv (ev (.int .i64 512) rfl rfl) ?_
 refine w_mv (ev (.int .i64 512) rfl rfl) ?_
 refine w_val (y_bin (ev (.int .i64 512) rfl rfl) (evc (.int .i64 8)) (b_quo (by omega))) ?_
 refine w_val (v := .agg (arr 12 (fun j => if j < 1 then U64 (1#64) else if j < 2 then U64 (8#64) else if j < 3 then U64 (7#64) else if j < 4 then U64 (19#64) else if j < 5 then U64 (61#64) else if j < 6 then U64 (6#64) else if j < 7 then U64 (28#64) else if j < 8 then U64 (34#64) else if j < 9 then U64 (39#64) else if j < 10 then U64 (14#64) else if j < 11 then U64 (18#64) else U64 (41#64)))) (y_build (vs := #[(0, U64 (1#64)), (1, U64 (8#64)), (2, U64 (7#64)), (3, U64 (19#64)), (4, U64 (61#64)), (5, U64 (6#64)), (6, U64 (28#64)), (7, U64 (34#64)), (8, U64 (39#64)), (9, U64 (14#64)), (10, U64 (18#64)), (11, U64 (41#64))]) (mp_cons (evc (U64 (1#64))) (mp_cons (evc (U64 (8#64))) (mp_cons (evc (U64 (7#64))) (mp_cons (evc (U64 (19#64))) (mp_cons (evc (U64 (61#64))) (mp_cons (evc (U64 (6#64))) (mp_cons (evc (U64 (28#64))) (mp_cons (evc (U64 (34#64))) (mp_cons (evc (U64 (39#64))) (mp_cons (evc (U64 (14#64))) (mp_cons (evc (U64 (18#64))) (mp_cons (evc (U64 (41#64))) mp0)))))))))))) (fun w => by kernel_rfl)) ?_
 refine w_val (v := .agg (arr 25 (fun j => if j < 1 then .int .i64 512 else if j < 2 then .int .i64 64 else if j < 3 then .int .i64 128 else if j < 4 then .int .i64 80 else if j < 5 then .slice none 0 0 else if j < 13 then U64 (0#64) else U64 (BitVec.ofNat 64 (Sha.trn false (j - 13)))))) (y_build (vs := #[(0, .int .i64 512), (1, .int .i64 64), (2, .int .i64 128), (3, .int .i64 80), (6, .agg (arr 12 (fun j => if j < 1 then U64 (1#64) else if j < 2 then U64 (8#64) else if j < 3 then U64 (7#64) else if j < 4 then U64 (19#64) else if j < 5 then U64 (61#64) else if j < 6 then U64 (6#64) else if j < 7 then U64 (28#64) else if j < 8 then U64 (34#64) else if j < 9 then U64 (39#64) else if j < 10 then U64 (14#64) else if j < 11 then U64 (18#64) else U64 (41#64))))]) (mp_cons (ev (.int .i64 512) rfl rfl) (mp_cons (ev (.int .i64 64) rfl rfl) (mp_cons (evc (.int .i64 128)) (mp_cons (evc (.int .i64 80)) (mp_cons (ev (.agg (arr 12 (fun j => if j < 1 then U64 (1#64) else if j < 2 then U64 (8#64) else if j < 3 then U64 (7#64) else if j < 4 then U64 (19#64) else if j < 5 then U64 (61#64) else if j < 6 then U64 (6#64) else if j < 7 then U64 (28#64) else if j < 8 then U64 (34#64) else if j < 9 then U64 (39#64) else if j < 10 then U64 (14#64) else if j < 11 then U64 (18#64) else U64 (41#64)))) rfl rfl) mp0))))) (fun w => by kernel_rfl)) ?_
 refine w_box (m := 25) (F := fun j => if j < 1 then .int .i64 512 else if j < 2 then .int .i64 64 else if j < 3 then .int .i64 128 else if j < 4 then .int .i64 80 else if j < 5 then .slice none 0 0 else if j < 13 then U64 (0#64) else U64 (BitVec.ofNat 64 (Sha.trn false (j - 13)))) (ev (.agg (arr 25 (fun j => if j < 1 then .int .i64 512 else if j < 2 then .int .i64 64 else if j < 3 then .int .i64 128 else if j < 4 then .int .i64 80 else if j < 5 then .slice none 0 0 else if j < 13 then U64 (0#64) else U64 (BitVec.ofNat 64 (Sha.trn false (j - 13)))))) rfl rfl) rfl ?_
 intro b_14 w1 hbe_b_14 r_b_14 hb2
 have ge_b_14 : w0.heap.size ≤ b_14 := by have := hk.size; omega
 clear hbe_b_14
 replace hk := thenB hk hb2
 refine w_as (ev (pt b_14 0) rfl rfl) ?_
 refine nt ?_
 refine sr ?_
 refine w_as (evc (.int .i64 0)) ?_
 refine nt ?_
 refine wp_seq ?_
 refine sr ?_
 refine w_mv (ev (.int .i64 512) rfl rfl) ?_
 refine w_val (y_bin (ev (.int .i64 512) rfl rfl) (evc (.int .i64 384)) b_eql) ?_
 refine nt ?_
 refine c_ff (ev (.bool false) rfl rfl) ?_
 refine wp_skip ?_
 refine then_n ?_
 refine wp_seq ?_
 refine sr ?_
 refine w_mv (ev (.int .i64 512) rfl rfl) ?_
 refine w_val (y_bin (ev (.int .i64 512) rfl rfl) (evc (.int .i64 256)) b_eql) ?_
 refine nt ?_
 refine c_ff (ev (.bool false) rfl rfl) ?_
 refine wp_skip ?_
 refine then_n ?_
 refine wp_seq ?_
 replace r_b_14 := r_b_14.congr (g := Sha.rrow (.int .i64 512) (.int .i64 64) (.int .i64 128) (.int .i64 80) (.slice none 0 0) (fun _ => 0#64) (fun i => U64 (BitVec.ofNat 64 (Sha.trn false i)))) (fun j hj => by rcases (by omega : j = 0 ∨ j = 1 ∨ j = 2 ∨ j = 3 ∨ j = 4 ∨ j = 5 ∨ j = 6 ∨ j = 7 ∨ j = 8 ∨ j = 9 ∨ j = 10 ∨ j = 11 ∨ j = 12 ∨ j = 13 ∨ j = 14 ∨ j = 15 ∨ j = 16 ∨ j = 17 ∨ j = 18 ∨ j = 19 ∨ j = 20 ∨ j = 21 ∨ j = 22 ∨ j = 23 ∨ j = 24) with h | h | h | h | h | h | h | h | h | h | h | h | h | h | h | h | h | h | h | h | h | h | h | h | h <;> (subst h; rfl))
 refine wp_region_lit ?_
 refine w_as (evc (.int .i64 0)) ?_
 refine nt ?_
 refine wp_seq ?_
 refine sr ?_
 refine w_as (evc (U64 (2#64))) ?_
 refine nt ?_
 refine wp_block ?_
 refine c_loop (fun dN aN wl => ∃ (p : Nat) (vk : Value), dN = (410 - p) ∧ ∃ f3, aN = fr 88 f3 ∧ (2 ≤ p) ∧ (p ≤ 410) ∧ f3 0 = .int .i64 512 ∧ f3 2 = .pointer none ∧ f3 3 = pt b_14 0 ∧ f3 4 = .int .i64 0 ∧ f3 5 = .int .i64 (((Sha.pc p) : Nat) : Int) ∧ f3 6 = U64 (BitVec.ofNat 64 p) ∧ Row wl b_14 44 25 (Sha.rrow (.int .i64 512) (.int .i64 64) (.int .i64 128) (.int .i64 80) (vk) (Sha.bg 0 512 p) (fun i => U64 (BitVec.ofNat 64 (Sha.trn false i)))) ∧ Own wl w0.heap.size 39 1 vk (min (Sha.pc p) 80) (fun j => U64 (Sha.K false j)) ∧ vk.ownBlock ≠ some b_14 ∧ Below w0.heap.size w0 wl) (410 - 2) ?_ ?_
 · exact ⟨2, (.slice none 0 0), rfl, _, rfl, iv, iv, rfl, rfl, rfl, rfl, (Eq.trans (b := .int .i64 0) rfl (by rfl)), (Eq.trans (b := U64 (2#64)) rfl (by rfl)), (r_b_14.congr (fun j hj => by rcases (by omega : j = 0 ∨ j = 1 ∨ j = 2 ∨ j = 3 ∨ j = 4 ∨ j = 5 ∨ j = 6 ∨ j = 7 ∨ j = 8 ∨ j = 9 ∨ j = 10 ∨ j = 11 ∨ j = 12 ∨ j = 13 ∨ j = 14 ∨ j = 15 ∨ j = 16 ∨ j = 17 ∨ j = 18 ∨ j = 19 ∨ j = 20 ∨ j = 21 ∨ j = 22 ∨ j = 23 ∨ j = 24) with h | h | h | h | h | h | h | h | h | h | h | h | h | h | h | h | h | h | h | h | h | h | h | h | h <;> (subst h; rfl))), Own.nil, (fun e => by cases e), hk⟩
 ·skip
  clear r_b_14 hk
  rintro _ _ w4 ⟨p, vk, rfl, f3, rfl, i1_0, i1_1, s1_0, s1_2, s1_3, s1_4, s1_5, s1_6, r_b_14, o_vk, no_vk_b_14, hk⟩
  have hp9 := Sha.pc_lt p i1_1
  have hpw : (BitVec.ofNat 64 p).toNat = p := by rw [BitVec.toNat_ofNat]; omega
  refine wp_seq ?_
  refine sr ?_
  refine w_mv (ev (.int .i64 (((Sha.pc p) : Nat) : Int)) s1_5 rfl) ?_
  refine w_val (y_bin (ev (.int .i64 (((Sha.pc p) : Nat) : Int)) rfl rfl) (evc (.int .i64 80)) b_lss) ?_
  refine nt ?_
  refine c_if (p := (((Sha.pc p) : Nat) : Int) < 80) (ev (.bool (decide ((((Sha.pc p) : Nat) : Int) < 80))) rfl rfl) (fun hc5 => ?_) (fun hc5 => ?_)
  ·skip
   refine wp_skip ?_
   refine then_n ?_
   refine wp_seq ?_
   refine wp_block ?_
   refine sr ?_
   refine w_as (evc (.bool true)) ?_
   refine nt ?_
   refine wp_seq ?_
   refine sr ?_
   refine w_as (evc (U64 (2#64))) ?_
   refine nt ?_
   refine wp_block ?_
   refine c_loop (fun dN aN wl => ∃ (q : Nat) (vj : Value), dN = (22 - q) ∧ ∃ f6, aN = fr 88 f6 ∧ (2 ≤ q) ∧ (q ≤ 21) ∧ (q = 2 ∨ (q - 1) * (q - 1) ≤ p) ∧ f6 0 = .int .i64 512 ∧ f6 2 = .pointer none ∧ f6 3 = pt b_14 0 ∧ f6 4 = .int .i64 0 ∧ f6 5 = .int .i64 (((Sha.pc p) : Nat) : Int) ∧ f6 6 = U64 (BitVec.ofNat 64 p) ∧ f6 7 = .bool (Sha.np p q) ∧ f6 8 = U64 (BitVec.ofNat 64 q) ∧ Row wl b_14 44 25 (Sha.rrow (.int .i64 512) (.int .i64 64) (.int .i64 128) (.int .i64 80) (vj) (Sha.bg 0 512 p) (fun i => U64 (BitVec.ofNat 64 (Sha.trn false i)))) ∧ Own wl w0.heap.size 39 1 vj (min (Sha.pc p) 80) (fun j => U64 (Sha.K false j)) ∧ vj.ownBlock ≠ some b_14 ∧ Below w0.heap.size w0 wl) (22 - 2) ?_ ?_
   · exact ⟨2, vk, rfl, _, rfl, iv, (by decide), (by exact Or.inl rfl), s1_0, s1_2, s1_3, s1_4, s1_5, s1_6, (Eq.trans (b := .bool true) rfl (by exact congrArg Value.bool (Sha.np_two p).symm)), (Eq.trans (b := U64 (2#64)) rfl (by rfl)), (r_b_14.congr (fun j hj => by rfl)), o_vk, no_vk_b_14, hk⟩
   ·skip
    clear r_b_14 o_vk hk
    rintro _ _ w7 ⟨q, vj, rfl, f6, rfl, i2_0, i2_1, i2_2, s2_0, s2_2, s2_3, s2_4, s2_5, s2_6, s2_7, s2_8, r_b_14, o_vj, no_vj_b_14, hk⟩
    refine wp_seq ?_
    refine sr ?_
    refine w_mv (ev (U64 (BitVec.ofNat 64 q)) s2_8 rfl) ?_
    refine w_mv (ev (U64 (BitVec.ofNat 64 q)) s2_8 rfl) ?_
    refine w_val (y_bin (ev (U64 (BitVec.ofNat 64 q)) rfl rfl) (ev (U64 (BitVec.ofNat 64 q)) rfl rfl) mul64) ?_
    refine w_mv (ev (U64 (BitVec.ofNat 64 p)) s2_6 rfl) ?_
    refine w_val (y_bin (ev (U64 ((BitVec.ofNat 64 q) * (BitVec.ofNat 64 q))) rfl rfl) (ev (U64 (BitVec.ofNat 64 p)) rfl rfl) leq64) ?_
    refine nt ?_
    refine c_if (p := ((BitVec.ofNat 64 q) * (BitVec.ofNat 64 q)).toNat ≤ (BitVec.ofNat 64 p).toNat) (ev (.bool (decide (((BitVec.ofNat 64 q) * (BitVec.ofNat 64 q)).toNat ≤ (BitVec.ofNat 64 p).toNat))) rfl rfl) (fun hc8 => ?_) (fun hc8 => ?_)
    ·skip
     refine wp_skip ?_
     refine then_n ?_
     refine wp_seq ?_
     refine wp_block ?_
     refine sr ?_
     refine w_mv (ev (U64 (BitVec.ofNat 64 p)) s2_6 rfl) ?_
     refine w_mv (ev (U64 (BitVec.ofNat 64 q)) s2_8 rfl) ?_
     refine w_val (y_bin (ev (U64 (BitVec.ofNat 64 p)) rfl rfl) (ev (U64 (BitVec.ofNat 64 q)) rfl rfl) (rem64 (by exact Sha.ofNat_ne q (by omega) (by omega)))) ?_
     refine w_val (y_bin (ev (U64 ((BitVec.ofNat 64 p) % (BitVec.ofNat 64 q))) rfl rfl) (evc (U64 (0#64))) eql64) ?_
     refine nt ?_
     refine c_if (p := ((BitVec.ofNat 64 p) % (BitVec.ofNat 64 q)) = (0#64)) (ev (.bool (decide (((BitVec.ofNat 64 p) % (BitVec.ofNat 64 q)) = (0#64)))) rfl rfl) (fun hc9 => ?_) (fun hc9 => ?_)
     ·skip
      refine wp_region_lit ?_
      refine w_as (evc (.bool false)) ?_
      refine wpList_nil ?_
      refine inb_n ?_
      refine then_n ?_
      refine wp_region_lit ?_
      refine w_mv (ev (U64 (BitVec.ofNat 64 q)) s2_8 rfl) ?_
      refine w_val (y_bin (ev (U64 (BitVec.ofNat 64 q)) rfl rfl) (evc (U64 (1#64))) add64) ?_
      refine w_as (ev (U64 ((BitVec.ofNat 64 q) + (1#64))) rfl rfl) ?_
      refine wpList_nil ?_
      exact then_n ⟨_, (by omega), q + 1, vj, rfl, _, rfl, iv, (by have := Sha.sq_le q p (by omega) (by rw [Sha.sq_word q (by omega), hpw] at *; omega); omega), (by refine Or.inr ?_; rw [show q + 1 - 1 = q from by omega]; rw [Sha.sq_word q (by omega), hpw] at *; omega), s2_0, s2_2, s2_3, s2_4, s2_5, s2_6, (Eq.trans (b := .bool false) rfl (by first | exact congrArg Value.bool (Sha.np_div p q (by omega) (by omega) (by omega) (by assumption)).symm | exact congrArg Value.bool (Sha.np_no p q (by omega) (by omega) (by omega) (by assumption)).symm)), (Eq.trans (b := U64 ((BitVec.ofNat 64 q) + (1#64))) rfl (by exact congrArg U64 (BitVec.ofNat_add (n := 64) q 1).symm)), r_b_14, o_vj, no_vj_b_14, hk⟩
     ·skip
      refine wp_skip ?_
      refine inb_n ?_
      refine then_n ?_
      refine wp_region_lit ?_
      refine w_mv (ev (U64 (BitVec.ofNat 64 q)) s2_8 rfl) ?_
      refine w_val (y_bin (ev (U64 (BitVec.ofNat 64 q)) rfl rfl) (evc (U64 (1#64))) add64) ?_
      refine w_as (ev (U64 ((BitVec.ofNat 64 q) + (1#64))) rfl rfl) ?_
      refine wpList_nil ?_
      exact then_n ⟨_, (by omega), q + 1, vj, rfl, _, rfl, iv, (by have := Sha.sq_le q p (by omega) (by rw [Sha.sq_word q (by omega), hpw] at *; omega); omega), (by refine Or.inr ?_; rw [show q + 1 - 1 = q from by omega]; rw [Sha.sq_word q (by omega), hpw] at *; omega), s2_0, s2_2, s2_3, s2_4, s2_5, s2_6, (by refine Eq.trans (b := .bool (Sha.np p q)) ?_ ?_; exact s2_7; (first | exact congrArg Value.bool (Sha.np_div p q (by omega) (by omega) (by omega) (by assumption)).symm | exact congrArg Value.bool (Sha.np_no p q (by omega) (by omega) (by omega) (by assumption)).symm)), (Eq.trans (b := U64 ((BitVec.ofNat 64 q) + (1#64))) rfl (by exact congrArg U64 (BitVec.ofNat_add (n := 64) q 1).symm)), r_b_14, o_vj, no_vj_b_14, hk⟩
    ·skip
     refine wp_exit ?_
     refine then_x ?_
     refine then_x ?_
     refine inb_x ?_
     refine then_n ?_
     refine wp_seq ?_
     refine sr ?_
     refine w_mv (ev (.bool (Sha.ip p)) (by refine Eq.trans (b := .bool (Sha.np p q)) ?_ ?_; exact s2_7; (exact congrArg Value.bool (Sha.np_done p q (by omega) (by omega) (by omega) (by omega) i2_2 (by rw [Sha.sq_word q (by omega), hpw] at *; omega)))) rfl) ?_
     refine w_val (y_not (ev (.bool (Sha.ip p)) rfl rfl)) ?_
     refine nt ?_
     refine c_ifb (ev (.bool (!(Sha.ip p))) rfl rfl) (fun hc10 => ?_) (fun hc10 => ?_)
     ·skip
      refine wp_exit ?_
      refine then_x ?_
      refine inb_x ?_
      refine then_n ?_
      refine wp_region_lit ?_
      refine w_mv (ev (U64 (BitVec.ofNat 64 p)) s2_6 rfl) ?_
      refine w_val (y_bin (ev (U64 (BitVec.ofNat 64 p)) rfl rfl) (evc (U64 (1#64))) add64) ?_
      refine w_as (ev (U64 ((BitVec.ofNat 64 p) + (1#64))) rfl rfl) ?_
      refine wpList_nil ?_
      have hpc := Sha.pc_no p (by omega) (by simpa using hc10)
      exact then_n ⟨_, (by omega), p + 1, vj, rfl, _, rfl, iv, iv, s2_0, s2_2, s2_3, s2_4, (by refine Eq.trans (b := .int .i64 (((Sha.pc p) : Nat) : Int)) ?_ ?_; exact s2_5; (congr 1; omega)), (Eq.trans (b := U64 ((BitVec.ofNat 64 p) + (1#64))) rfl (by exact congrArg U64 (BitVec.ofNat_add (n := 64) p 1).symm)), (r_b_14.congr (fun j hj => by first | (exfalso; omega) | exact Sha.rr_a _ _ _ _ _ _ _ _ (Sha.bg_no 0 512 p (by omega)) j | exact Sha.rr_b _ _ _ _ _ _ _ _ _ (Sha.bg_no 0 512 p (by omega)) j | exact Sha.rr_d _ _ _ _ _ _ _ _ _ _ _ (by omega) (Sha.bg_yes 0 512 p _ hpc (by omega) (by omega) (Sha.H_of_512 p (by omega) hip_ (by omega))) j)), (own_n (o_vj.congr (fun j hj => by first | (with_reducible rfl) | ((try dsimp only); by_cases e : j < min (Sha.pc p) 80 * 1; (rw [if_pos e]); (rw [if_neg e, show j = Sha.pc p from by omega]; exact congrArg U64 (Sha.K_of false p (by omega) hip_))))) (by omega)), no_vj_b_14, hk⟩
     ·skip
      refine wp_skip ?_
      refine then_n ?_
      refine wp_seq ?_
      refine sr ?_
      refine w_mv (ev (.int .i64 (((Sha.pc p) : Nat) : Int)) s2_5 rfl) ?_
      refine w_mv (ev (pt b_14 0) s2_3 rfl) ?_
      refine w_val (y_nc (ev (pt b_14 0) rfl rfl)) ?_
      refine w_val (v := pt b_14 3) (y_off (y_fa (ev (pt b_14 0) rfl rfl) (ShaMT.fa44_3 _ _)) (by first | rfl | omega)) ?_
      refine w_val (v := .int .i64 80) (y_ld (ev (pt b_14 3) rfl rfl) ShaMT.sc3 (r_b_14.val (by omega) ((if_neg (by omega)).trans ((if_neg (by omega)).trans ((if_neg (by omega)).trans (etv (if_pos (by omega)))))))) ?_
      refine w_val (y_bin (ev (.int .i64 (((Sha.pc p) : Nat) : Int)) rfl rfl) (ev (.int .i64 80) rfl rfl) b_lss) ?_
      refine nt ?_
      refine c_if (p := (((Sha.pc p) : Nat) : Int) < 80) (ev (.bool (decide ((((Sha.pc p) : Nat) : Int) < 80))) rfl rfl) (fun hc11 => ?_) (fun hc11 => ?_)
      ·skip
       refine region_dc (Nat.testBit 15360) 14 ShaMT.mixed rfl ?_
       intro w12 hb13
       replace o_vj := o_vj.step hb13
       replace r_b_14 := r_b_14.step hb13
       replace hk := thenB hk hb13
       have hS : Cls w12 w12 := Below.refl _ _
       refine d_pure (v := pt b_14 0) 0 rfl (by kernel_rfl) (by kernel_rfl) (by kernel_rfl) (by kernel_rfl) (fun _ _ _ h => h) (fun w' => y_mv (ev (pt b_14 0) s2_3 rfl)) ?_
       refine d_pure (v := pt b_14 0) 1 rfl (by kernel_rfl) (by kernel_rfl) (by kernel_rfl) (by kernel_rfl) (fun _ _ _ h => h) (fun w' => y_mv (ev (pt b_14 0) s2_3 rfl)) ?_
       refine d_pure (v := pt b_14 0) 2 rfl (by kernel_rfl) (by kernel_rfl) (by kernel_rfl) (by kernel_rfl) (fun _ _ _ h => h) (fun w' => y_nc (ev (pt b_14 0) rfl rfl)) ?_
       refine d_pure (v := pt b_14 4) 3 rfl (by kernel_rfl) (by kernel_rfl) (by kernel_rfl) (by kernel_rfl) (fun _ _ _ h => h) (fun w' => y_off (y_fa (ev (pt b_14 0) rfl rfl) (ShaMT.fa44_4 _ _)) (by first | rfl | omega)) ?_
       refine d_take (v := vj) 4 (Nat.testBit 15376) rfl (by kernel_rfl) (by kernel_rfl) (by kernel_rfl) (by kernel_rfl) (by kernel_rfl) (by kernel_rfl) (fun _ _ _ h => h) hS (fun w' hw' => y_ld (ev (pt b_14 4) rfl rfl) ShaMT.sc38 (cls_cell (r_b_14.val (by omega) ((if_neg (by omega)).trans ((if_neg (by omega)).trans ((if_neg (by omega)).trans ((if_neg (by omega)).trans (etv (if_pos (by omega)))))))) r_b_14.lt w' hw')) ?_
       refine d_pure (v := pt b_14 0) 5 rfl (by kernel_rfl) (by kernel_rfl) (by kernel_rfl) (by kernel_rfl) (fun _ _ _ h => h) (fun w' => y_mv (ev (pt b_14 0) s2_3 rfl)) ?_
       refine d_pure (v := U64 (BitVec.ofNat 64 p)) 6 rfl (by kernel_rfl) (by kernel_rfl) (by kernel_rfl) (by kernel_rfl) (fun _ _ _ h => h) (fun w' => y_mv (ev (U64 (BitVec.ofNat 64 p)) s2_6 rfl)) ?_
       refine d_one 7 (by kernel_rfl) rfl ?_
       refine w_call (Tryd.func40) (by kernel_rfl) rfl (m2 (ev (U64 (BitVec.ofNat 64 p)) rfl rfl) (evc (.int .i64 3))) (root_3 p (by omega) w12) ?_
       rintro _ w14 ⟨rfl, hb15⟩
       refine ⟨_, rfl, ?_⟩
       replace o_vj := o_vj.step hb15
       replace r_b_14 := r_b_14.step hb15
       replace hk := thenB hk hb15
       replace hS := thenB hS hb15
       refine wpList_nil ?_
       refine then_n ⟨fun _ h => thenB h (by assumption), ?_⟩
       refine d_one 8 (by kernel_rfl) rfl ?_
       refine w_call (Tryd.func39) (by kernel_rfl) rfl (m2 (ev (pt b_14 0) rfl rfl) (ev (U64 (BitVec.ofNat 64 (Sha.rt p 3 69))) rfl rfl)) (cut_f b_14 (BitVec.ofNat 64 (Sha.rt p 3 69)) 512 (by decide) w14 (F := Sha.rrow (.int .i64 512) (.int .i64 64) (.int .i64 128) (.int .i64 80) (vj) (Sha.bg 0 512 p) (fun i => U64 (BitVec.ofNat 64 (Sha.trn false i)))) r_b_14 rfl) ?_
       rintro _ w16 ⟨rfl, hb17⟩
       refine ⟨_, rfl, ?_⟩
       replace o_vj := o_vj.step hb17
       replace r_b_14 := r_b_14.step hb17
       replace hk := thenB hk hb17
       replace hS := thenB hS hb17
       refine wpList_nil ?_
       refine then_n ⟨fun _ h => thenB h (by assumption), ?_⟩
       refine d_one 9 (by kernel_rfl) rfl ?_
       refine w_bs1 (m := 1) (e := 39) (F := fun j => U64 (Sha.cutw false (BitVec.ofNat 64 (Sha.rt p 3 69)))) (ev (U64 (Sha.cutw false (BitVec.ofNat 64 (Sha.rt p 3 69)))) rfl rfl) (fun w => by kernel_rfl) ?_
       intro b_61 w18 hbe_b_61 r_b_61 hb19
       have ne_b_14_b_61 : b_14 ≠ b_61 := by have := r_b_14.lt; omega
       have no_vj_b_61 : vj.ownBlock ≠ some b_61 := o_vj.apart (by omega)
       have ge_b_61 : w0.heap.size ≤ b_61 := by have := hk.size; omega
       clear hbe_b_61
       replace o_vj := o_vj.step hb19
       replace r_b_14 := r_b_14.step hb19
       replace hk := thenB hk hb19
       replace hS := thenB hS hb19
       refine wpList_nil ?_
       refine then_n ⟨fun _ h => thenB h (by assumption), ?_⟩
       refine d_one 10 (by kernel_rfl) rfl ?_
       refine w_app (k := (min (Sha.pc p) 80)) (m := 1) (size := 1) (bytes := 8) (ev vj rfl rfl) (ev (.slice (some ⟨b_61, 0, none⟩) 1 1) rfl rfl) Tryd.underlying38 (by kernel_rfl) (by decide) o_vj hk.size r_b_61 (by omega) oca (by simp only [maxLen]; omega) (by omega) ?_
       intro v20 w21 o_v20 hg22 hv23
       have no_v20_b_14 := no_new no_vj_b_14 r_b_14.lt hv23
       replace r_b_14 := r_b_14.stepO hg22 no_vj_b_14
       have no_v20_b_61 := no_new no_vj_b_61 r_b_61.lt hv23
       replace r_b_61 := r_b_61.stepO hg22 no_vj_b_61
       replace hk := thenO hk hg22 (fun g e => (o_vj.block_lt g e).2)
       clear o_vj
       clear hS
       refine wpList_nil ?_
       refine then_n ⟨fun hD => absurd hD (by decide), ?_⟩
       refine d_one 11 (by kernel_rfl) rfl ?_
       refine w_val (y_nc (ev (pt b_14 0) rfl rfl)) ?_
       refine wpList_nil ?_
       refine then_n ⟨fun hD => absurd hD (by decide), ?_⟩
       refine d_one 12 (by kernel_rfl) rfl ?_
       refine w_val (v := pt b_14 4) (y_off (y_fa (ev (pt b_14 0) rfl rfl) (ShaMT.fa44_4 _ _)) (by first | rfl | omega)) ?_
       refine wpList_nil ?_
       refine then_n ⟨fun hD => absurd hD (by decide), ?_⟩
       refine d_one 13 (by kernel_rfl) rfl ?_
       refine w_st (v := v20) (ev (pt b_14 4) rfl rfl) (ev v20 rfl rfl) (o_v20.one) (o_v20.cells) ShaMT.sz38 r_b_14 (by omega) ?_
       clear r_b_14; intro w24 r_b_14 hg25 _
       replace o_v20 := o_v20.stepG hg25 no_v20_b_14
       replace r_b_61 := r_b_61.stepG hg25 (by omega)
       replace hk := thenG hk hg25 (by omega)
       refine wpList_nil ?_
       refine then_n ⟨fun hD => absurd hD (by decide), ?_⟩
       refine d_done (by kernel_rfl) ?_
       refine then_n ?_
       refine wp_seq ?_
       refine sr ?_
       refine w_mv (ev (.int .i64 (((Sha.pc p) : Nat) : Int)) s2_5 rfl) ?_
       refine w_mv (ev (.int .i64 0) s2_4 rfl) ?_
       refine w_val (y_bin (ev (.int .i64 (((Sha.pc p) : Nat) : Int)) rfl rfl) (ev (.int .i64 0) rfl rfl) b_geq) ?_
       refine w_mv (ev (.bool (decide (0 ≤ (((Sha.pc p) : Nat) : Int)))) rfl rfl) ?_
       by_cases hc26 : 0 ≤ (((Sha.pc p) : Nat) : Int)
       ·skip
        refine w_val_g (v := .int .i64 (((Sha.pc p) : Nat) : Int)) (want_yes (j := 3) rfl rfl (ev (.bool true) (Eq.trans (b := .bool (decide (0 ≤ (((Sha.pc p) : Nat) : Int)))) rfl (by rw [decide_eq_true hc26])) rfl) rfl) (y_mv (ev (.int .i64 (((Sha.pc p) : Nat) : Int)) s2_5 rfl)) ?_
        refine w_val_g (v := .int .i64 0) (want_yes (j := 3) rfl rfl (ev (.bool true) (Eq.trans (b := .bool (decide (0 ≤ (((Sha.pc p) : Nat) : Int)))) rfl (by rw [decide_eq_true hc26])) rfl) rfl) (y_mv (ev (.int .i64 0) s2_4 rfl)) ?_
        refine w_val_g (want_yes (j := 3) rfl rfl (ev (.bool true) (Eq.trans (b := .bool (decide (0 ≤ (((Sha.pc p) : Nat) : Int)))) rfl (by rw [decide_eq_true hc26])) rfl) rfl) (y_bin (ev (.int .i64 0) rfl rfl) (evc (.int .i64 8)) (b_add (by omega))) ?_
        refine w_val_g (want_yes (j := 3) rfl rfl (ev (.bool true) (Eq.trans (b := .bool (decide (0 ≤ (((Sha.pc p) : Nat) : Int)))) rfl (by rw [decide_eq_true hc26])) rfl) rfl) (y_bin (ev (.int .i64 (((Sha.pc p) : Nat) : Int)) rfl rfl) (ev (.int .i64 8) rfl rfl) b_lss) ?_
        refine w_val (y_pick_t (ev (.bool true) (Eq.trans (b := .bool (decide (0 ≤ (((Sha.pc p) : Nat) : Int)))) rfl (by rw [decide_eq_true hc26])) rfl) (ev (.bool (decide ((((Sha.pc p) : Nat) : Int) < 8))) rfl rfl)) ?_
        refine nt ?_
        refine c_if (p := (((Sha.pc p) : Nat) : Int) < 8) (ev (.bool (decide ((((Sha.pc p) : Nat) : Int) < 8))) rfl rfl) (fun hc27 => ?_) (fun hc27 => ?_)
        ·skip
         refine region_t 11 ShaMT.mixed (by kernel_rfl) ?_
         simp only [List.take_succ_cons, List.take_zero, List.drop_succ_cons, List.drop_zero]
         refine q_mv (ev (pt b_14 0) s2_3 rfl) ?_
         refine q_mv (ev (.int .i64 (((Sha.pc p) : Nat) : Int)) s2_5 rfl) ?_
         refine q_mv (ev (.int .i64 0) s2_4 rfl) ?_
         refine q_val (fun w' hw' => y_bin (ev (.int .i64 (((Sha.pc p) : Nat) : Int)) rfl rfl) (ev (.int .i64 0) rfl rfl) (b_sub (by omega))) ?_
         refine q_mv (ev (pt b_14 0) s2_3 rfl) ?_
         refine q_mv (ev (U64 (BitVec.ofNat 64 p)) s2_6 rfl) ?_
         refine q_call (v := U64 (BitVec.ofNat 64 (Sha.rt p 2 69))) (Tryd.func40) (by kernel_rfl) rfl (m2 (ev (U64 (BitVec.ofNat 64 p)) rfl rfl) (evc (.int .i64 2))) (fun w' hw' => root_2 p (by omega) w') ?_
         refine q_call (v := U64 (Sha.cutw false (BitVec.ofNat 64 (Sha.rt p 2 69)))) (Tryd.func39) (by kernel_rfl) rfl (m2 (ev (pt b_14 0) rfl rfl) (ev (U64 (BitVec.ofNat 64 (Sha.rt p 2 69))) rfl rfl)) (fun w' hw' => cut_f b_14 (BitVec.ofNat 64 (Sha.rt p 2 69)) 512 (by decide) w' (F := fun j => if j = 4 then v20 else (Sha.rrow (.int .i64 512) (.int .i64 64) (.int .i64 128) (.int .i64 80) (vj) (Sha.bg 0 512 p) (fun i => U64 (BitVec.ofNat 64 (Sha.trn false i)))) j) (r_b_14.step hw') rfl) ?_
         refine q_val (fun w' hw' => y_nc (ev (pt b_14 0) rfl rfl)) ?_
         refine q_val (v := pt b_14 5) (fun w' hw' => y_off (y_fa (ev (pt b_14 0) rfl rfl) (ShaMT.fa44_5 _ _)) (by first | rfl | omega)) ?_
         refine q_val (v := pt b_14 (5 + ((Sha.pc p) - 0))) (fun w' hw' => y_off (y_ia1 (i := ((Sha.pc p) - 0)) (ev (pt b_14 5) rfl rfl) (ev (.int .i64 ((((Sha.pc p) : Nat) : Int) - 0)) rfl rfl) Tryd.underlying40 ShaMT.sz39 (by omega) (by omega)) (by first | rfl | omega)) ?_
         refine q_nil ?_
         intro w28 hb29
         replace o_v20 := o_v20.step hb29
         replace r_b_14 := r_b_14.step hb29
         replace r_b_61 := r_b_61.step hb29
         replace hk := thenB hk hb29
         refine w_st (v := U64 (Sha.cutw false (BitVec.ofNat 64 (Sha.rt p 2 69)))) (ev (pt b_14 (5 + ((Sha.pc p) - 0))) rfl rfl) (ev (U64 (Sha.cutw false (BitVec.ofNat 64 (Sha.rt p 2 69)))) rfl rfl) rfl rfl ShaMT.sz39 r_b_14 (by omega) ?_
         clear r_b_14; intro w30 r_b_14 hg31 _
         replace o_v20 := o_v20.stepG hg31 no_v20_b_14
         replace r_b_61 := r_b_61.stepG hg31 (by omega)
         replace hk := thenG hk hg31 (by omega)
         refine nt ?_
         refine wp_region_lit ?_
         refine w_mv (ev (.int .i64 (((Sha.pc p) : Nat) : Int)) s2_5 rfl) ?_
         refine w_val (y_bin (ev (.int .i64 (((Sha.pc p) : Nat) : Int)) rfl rfl) (evc (.int .i64 1)) (b_add (by omega))) ?_
         refine w_as (ev (.int .i64 ((((Sha.pc p) : Nat) : Int) + 1)) rfl rfl) ?_
         refine wpList_nil ?_
         refine inb_n ?_
         refine then_n ?_
         refine wp_region_lit ?_
         refine w_mv (ev (U64 (BitVec.ofNat 64 p)) s2_6 rfl) ?_
         refine w_val (y_bin (ev (U64 (BitVec.ofNat 64 p)) rfl rfl) (evc (U64 (1#64))) add64) ?_
         refine w_as (ev (U64 ((BitVec.ofNat 64 p) + (1#64))) rfl rfl) ?_
         refine wpList_nil ?_
         have hip_ : Sha.ip p = true := by simpa using hc10
         have hpc := Sha.pc_yes p (by omega) hip_
         exact then_n ⟨_, (by omega), p + 1, v20, rfl, _, rfl, iv, iv, s2_0, s2_2, s2_3, s2_4, (Eq.trans (b := .int .i64 ((((Sha.pc p) : Nat) : Int) + 1)) rfl (by congr 1; omega)), (Eq.trans (b := U64 ((BitVec.ofNat 64 p) + (1#64))) rfl (by exact congrArg U64 (BitVec.ofNat_add (n := 64) p 1).symm)), (r_b_14.congr (fun j hj => by first | (exfalso; omega) | exact Sha.rr_a _ _ _ _ _ _ _ _ (Sha.bg_no 0 512 p (by omega)) j | exact Sha.rr_b _ _ _ _ _ _ _ _ _ (Sha.bg_no 0 512 p (by omega)) j | exact Sha.rr_d _ _ _ _ _ _ _ _ _ _ _ (by omega) (Sha.bg_yes 0 512 p _ hpc (by omega) (by omega) (Sha.H_of_512 p (by omega) hip_ (by omega))) j)), (own_n (o_v20.congr (fun j hj => by first | (with_reducible rfl) | ((try dsimp only); by_cases e : j < min (Sha.pc p) 80 * 1; (rw [if_pos e]); (rw [if_neg e, show j = Sha.pc p from by omega]; exact congrArg U64 (Sha.K_of false p (by omega) hip_))))) (by omega)), no_v20_b_14, hk⟩
        ·skip
         refine wp_skip ?_
         refine then_n ?_
         refine wp_region_lit ?_
         refine w_mv (ev (.int .i64 (((Sha.pc p) : Nat) : Int)) s2_5 rfl) ?_
         refine w_val (y_bin (ev (.int .i64 (((Sha.pc p) : Nat) : Int)) rfl rfl) (evc (.int .i64 1)) (b_add (by omega))) ?_
         refine w_as (ev (.int .i64 ((((Sha.pc p) : Nat) : Int) + 1)) rfl rfl) ?_
         refine wpList_nil ?_
         refine inb_n ?_
         refine then_n ?_
         refine wp_region_lit ?_
         refine w_mv (ev (U64 (BitVec.ofNat 64 p)) s2_6 rfl) ?_
         refine w_val (y_bin (ev (U64 (BitVec.ofNat 64 p)) rfl rfl) (evc (U64 (1#64))) add64) ?_
         refine w_as (ev (U64 ((BitVec.ofNat 64 p) + (1#64))) rfl rfl) ?_
         refine wpList_nil ?_
         have hip_ : Sha.ip p = true := by simpa using hc10
         have hpc := Sha.pc_yes p (by omega) hip_
         exact then_n ⟨_, (by omega), p + 1, v20, rfl, _, rfl, iv, iv, s2_0, s2_2, s2_3, s2_4, (Eq.trans (b := .int .i64 ((((Sha.pc p) : Nat) : Int) + 1)) rfl (by congr 1; omega)), (Eq.trans (b := U64 ((BitVec.ofNat 64 p) + (1#64))) rfl (by exact congrArg U64 (BitVec.ofNat_add (n := 64) p 1).symm)), (r_b_14.congr (fun j hj => by first | (exfalso; omega) | exact Sha.rr_a _ _ _ _ _ _ _ _ (Sha.bg_no 0 512 p (by omega)) j | exact Sha.rr_b _ _ _ _ _ _ _ _ _ (Sha.bg_no 0 512 p (by omega)) j | exact Sha.rr_d _ _ _ _ _ _ _ _ _ _ _ (by omega) (Sha.bg_yes 0 512 p _ hpc (by omega) (by omega) (Sha.H_of_512 p (by omega) hip_ (by omega))) j)), (own_n (o_v20.congr (fun j hj => by first | (with_reducible rfl) | ((try dsimp only); by_cases e : j < min (Sha.pc p) 80 * 1; (rw [if_pos e]); (rw [if_neg e, show j = Sha.pc p from by omega]; exact congrArg U64 (Sha.K_of false p (by omega) hip_))))) (by omega)), no_v20_b_14, hk⟩
       ·skip
        first | with_reducible refine w_skip ?_ ?_ | refine w_skip ?_ ?_
        · exact want_no (j := 3) rfl rfl (ev (.bool false) (Eq.trans (b := .bool (decide (0 ≤ (((Sha.pc p) : Nat) : Int)))) rfl (by rw [decide_eq_false hc26])) rfl) rfl
        first | with_reducible refine w_skip ?_ ?_ | refine w_skip ?_ ?_
        · exact want_no (j := 3) rfl rfl (ev (.bool false) (Eq.trans (b := .bool (decide (0 ≤ (((Sha.pc p) : Nat) : Int)))) rfl (by rw [decide_eq_false hc26])) rfl) rfl
        first | with_reducible refine w_skip ?_ ?_ | refine w_skip ?_ ?_
        · exact want_no (j := 3) rfl rfl (ev (.bool false) (Eq.trans (b := .bool (decide (0 ≤ (((Sha.pc p) : Nat) : Int)))) rfl (by rw [decide_eq_false hc26])) rfl) rfl
        first | with_reducible refine w_skip ?_ ?_ | refine w_skip ?_ ?_
        · exact want_no (j := 3) rfl rfl (ev (.bool false) (Eq.trans (b := .bool (decide (0 ≤ (((Sha.pc p) : Nat) : Int)))) rfl (by rw [decide_eq_false hc26])) rfl) rfl
        refine w_val (y_pick_f (ev (.bool false) (Eq.trans (b := .bool (decide (0 ≤ (((Sha.pc p) : Nat) : Int)))) rfl (by rw [decide_eq_false hc26])) rfl) (evc (.bool false))) ?_
        refine nt ?_
        refine c_ff (ev (.bool false) rfl rfl) ?_
        refine wp_skip ?_
        refine then_n ?_
        refine wp_region_lit ?_
        refine w_mv (ev (.int .i64 (((Sha.pc p) : Nat) : Int)) s2_5 rfl) ?_
        refine w_val (y_bin (ev (.int .i64 (((Sha.pc p) : Nat) : Int)) rfl rfl) (evc (.int .i64 1)) (b_add (by omega))) ?_
        refine w_as (ev (.int .i64 ((((Sha.pc p) : Nat) : Int) + 1)) rfl rfl) ?_
        refine wpList_nil ?_
        refine inb_n ?_
        refine then_n ?_
        refine wp_region_lit ?_
        refine w_mv (ev (U64 (BitVec.ofNat 64 p)) s2_6 rfl) ?_
        refine w_val (y_bin (ev (U64 (BitVec.ofNat 64 p)) rfl rfl) (evc (U64 (1#64))) add64) ?_
        refine w_as (ev (U64 ((BitVec.ofNat 64 p) + (1#64))) rfl rfl) ?_
        refine wpList_nil ?_
        have hip_ : Sha.ip p = true := by simpa using hc10
        have hpc := Sha.pc_yes p (by omega) hip_
        exact then_n ⟨_, (by omega), p + 1, v20, rfl, _, rfl, iv, iv, s2_0, s2_2, s2_3, s2_4, (Eq.trans (b := .int .i64 ((((Sha.pc p) : Nat) : Int) + 1)) rfl (by congr 1; omega)), (Eq.trans (b := U64 ((BitVec.ofNat 64 p) + (1#64))) rfl (by exact congrArg U64 (BitVec.ofNat_add (n := 64) p 1).symm)), (r_b_14.congr (fun j hj => by first | (exfalso; omega) | exact Sha.rr_a _ _ _ _ _ _ _ _ (Sha.bg_no 0 512 p (by omega)) j | exact Sha.rr_b _ _ _ _ _ _ _ _ _ (Sha.bg_no 0 512 p (by omega)) j | exact Sha.rr_d _ _ _ _ _ _ _ _ _ _ _ (by omega) (Sha.bg_yes 0 512 p _ hpc (by omega) (by omega) (Sha.H_of_512 p (by omega) hip_ (by omega))) j)), (own_n (o_v20.congr (fun j hj => by first | (with_reducible rfl) | ((try dsimp only); by_cases e : j < min (Sha.pc p) 80 * 1; (rw [if_pos e]); (rw [if_neg e, show j = Sha.pc p from by omega]; exact congrArg U64 (Sha.K_of false p (by omega) hip_))))) (by omega)), no_v20_b_14, hk⟩
      ·skip
       refine wp_skip ?_
       refine then_n ?_
       refine wp_seq ?_
       refine sr ?_
       refine w_mv (ev (.int .i64 (((Sha.pc p) : Nat) : Int)) s2_5 rfl) ?_
       refine w_mv (ev (.int .i64 0) s2_4 rfl) ?_
       refine w_val (y_bin (ev (.int .i64 (((Sha.pc p) : Nat) : Int)) rfl rfl) (ev (.int .i64 0) rfl rfl) b_geq) ?_
       refine w_mv (ev (.bool (decide (0 ≤ (((Sha.pc p) : Nat) : Int)))) rfl rfl) ?_
       by_cases hc32 : 0 ≤ (((Sha.pc p) : Nat) : Int)
       ·skip
        refine w_val_g (v := .int .i64 (((Sha.pc p) : Nat) : Int)) (want_yes (j := 3) rfl rfl (ev (.bool true) (Eq.trans (b := .bool (decide (0 ≤ (((Sha.pc p) : Nat) : Int)))) rfl (by rw [decide_eq_true hc32])) rfl) rfl) (y_mv (ev (.int .i64 (((Sha.pc p) : Nat) : Int)) s2_5 rfl)) ?_
        refine w_val_g (v := .int .i64 0) (want_yes (j := 3) rfl rfl (ev (.bool true) (Eq.trans (b := .bool (decide (0 ≤ (((Sha.pc p) : Nat) : Int)))) rfl (by rw [decide_eq_true hc32])) rfl) rfl) (y_mv (ev (.int .i64 0) s2_4 rfl)) ?_
        refine w_val_g (want_yes (j := 3) rfl rfl (ev (.bool true) (Eq.trans (b := .bool (decide (0 ≤ (((Sha.pc p) : Nat) : Int)))) rfl (by rw [decide_eq_true hc32])) rfl) rfl) (y_bin (ev (.int .i64 0) rfl rfl) (evc (.int .i64 8)) (b_add (by omega))) ?_
        refine w_val_g (want_yes (j := 3) rfl rfl (ev (.bool true) (Eq.trans (b := .bool (decide (0 ≤ (((Sha.pc p) : Nat) : Int)))) rfl (by rw [decide_eq_true hc32])) rfl) rfl) (y_bin (ev (.int .i64 (((Sha.pc p) : Nat) : Int)) rfl rfl) (ev (.int .i64 8) rfl rfl) b_lss) ?_
        refine w_val (y_pick_t (ev (.bool true) (Eq.trans (b := .bool (decide (0 ≤ (((Sha.pc p) : Nat) : Int)))) rfl (by rw [decide_eq_true hc32])) rfl) (ev (.bool (decide ((((Sha.pc p) : Nat) : Int) < 8))) rfl rfl)) ?_
        refine nt ?_
        refine c_if (p := (((Sha.pc p) : Nat) : Int) < 8) (ev (.bool (decide ((((Sha.pc p) : Nat) : Int) < 8))) rfl rfl) (fun hc33 => ?_) (fun hc33 => ?_)
        ·skip
         refine region_t 11 ShaMT.mixed (by kernel_rfl) ?_
         simp only [List.take_succ_cons, List.take_zero, List.drop_succ_cons, List.drop_zero]
         refine q_mv (ev (pt b_14 0) s2_3 rfl) ?_
         refine q_mv (ev (.int .i64 (((Sha.pc p) : Nat) : Int)) s2_5 rfl) ?_
         refine q_mv (ev (.int .i64 0) s2_4 rfl) ?_
         refine q_val (fun w' hw' => y_bin (ev (.int .i64 (((Sha.pc p) : Nat) : Int)) rfl rfl) (ev (.int .i64 0) rfl rfl) (b_sub (by omega))) ?_
         refine q_mv (ev (pt b_14 0) s2_3 rfl) ?_
         refine q_mv (ev (U64 (BitVec.ofNat 64 p)) s2_6 rfl) ?_
         refine q_call (v := U64 (BitVec.ofNat 64 (Sha.rt p 2 69))) (Tryd.func40) (by kernel_rfl) rfl (m2 (ev (U64 (BitVec.ofNat 64 p)) rfl rfl) (evc (.int .i64 2))) (fun w' hw' => root_2 p (by omega) w') ?_
         refine q_call (v := U64 (Sha.cutw false (BitVec.ofNat 64 (Sha.rt p 2 69)))) (Tryd.func39) (by kernel_rfl) rfl (m2 (ev (pt b_14 0) rfl rfl) (ev (U64 (BitVec.ofNat 64 (Sha.rt p 2 69))) rfl rfl)) (fun w' hw' => cut_f b_14 (BitVec.ofNat 64 (Sha.rt p 2 69)) 512 (by decide) w' (F := Sha.rrow (.int .i64 512) (.int .i64 64) (.int .i64 128) (.int .i64 80) (vj) (Sha.bg 0 512 p) (fun i => U64 (BitVec.ofNat 64 (Sha.trn false i)))) (r_b_14.step hw') rfl) ?_
         refine q_val (fun w' hw' => y_nc (ev (pt b_14 0) rfl rfl)) ?_
         refine q_val (v := pt b_14 5) (fun w' hw' => y_off (y_fa (ev (pt b_14 0) rfl rfl) (ShaMT.fa44_5 _ _)) (by first | rfl | omega)) ?_
         refine q_val (v := pt b_14 (5 + ((Sha.pc p) - 0))) (fun w' hw' => y_off (y_ia1 (i := ((Sha.pc p) - 0)) (ev (pt b_14 5) rfl rfl) (ev (.int .i64 ((((Sha.pc p) : Nat) : Int) - 0)) rfl rfl) Tryd.underlying40 ShaMT.sz39 (by omega) (by omega)) (by first | rfl | omega)) ?_
         refine q_nil ?_
         intro w34 hb35
         replace o_vj := o_vj.step hb35
         replace r_b_14 := r_b_14.step hb35
         replace hk := thenB hk hb35
         refine w_st (v := U64 (Sha.cutw false (BitVec.ofNat 64 (Sha.rt p 2 69)))) (ev (pt b_14 (5 + ((Sha.pc p) - 0))) rfl rfl) (ev (U64 (Sha.cutw false (BitVec.ofNat 64 (Sha.rt p 2 69)))) rfl rfl) rfl rfl ShaMT.sz39 r_b_14 (by omega) ?_
         clear r_b_14; intro w36 r_b_14 hg37 _
         replace o_vj := o_vj.stepG hg37 no_vj_b_14
         replace hk := thenG hk hg37 (by omega)
         refine nt ?_
         refine wp_region_lit ?_
         refine w_mv (ev (.int .i64 (((Sha.pc p) : Nat) : Int)) s2_5 rfl) ?_
         refine w_val (y_bin (ev (.int .i64 (((Sha.pc p) : Nat) : Int)) rfl rfl) (evc (.int .i64 1)) (b_add (by omega))) ?_
         refine w_as (ev (.int .i64 ((((Sha.pc p) : Nat) : Int) + 1)) rfl rfl) ?_
         refine wpList_nil ?_
         refine inb_n ?_
         refine then_n ?_
         refine wp_region_lit ?_
         refine w_mv (ev (U64 (BitVec.ofNat 64 p)) s2_6 rfl) ?_
         refine w_val (y_bin (ev (U64 (BitVec.ofNat 64 p)) rfl rfl) (evc (U64 (1#64))) add64) ?_
         refine w_as (ev (U64 ((BitVec.ofNat 64 p) + (1#64))) rfl rfl) ?_
         refine wpList_nil ?_
         have hip_ : Sha.ip p = true := by simpa using hc10
         have hpc := Sha.pc_yes p (by omega) hip_
         exact then_n ⟨_, (by omega), p + 1, vj, rfl, _, rfl, iv, iv, s2_0, s2_2, s2_3, s2_4, (Eq.trans (b := .int .i64 ((((Sha.pc p) : Nat) : Int) + 1)) rfl (by congr 1; omega)), (Eq.trans (b := U64 ((BitVec.ofNat 64 p) + (1#64))) rfl (by exact congrArg U64 (BitVec.ofNat_add (n := 64) p 1).symm)), (r_b_14.congr (fun j hj => by first | (exfalso; omega) | exact Sha.rr_a _ _ _ _ _ _ _ _ (Sha.bg_no 0 512 p (by omega)) j | exact Sha.rr_b _ _ _ _ _ _ _ _ _ (Sha.bg_no 0 512 p (by omega)) j | exact Sha.rr_d _ _ _ _ _ _ _ _ _ _ _ (by omega) (Sha.bg_yes 0 512 p _ hpc (by omega) (by omega) (Sha.H_of_512 p (by omega) hip_ (by omega))) j)), (own_n (o_vj.congr (fun j hj => by first | (with_reducible rfl) | ((try dsimp only); by_cases e : j < min (Sha.pc p) 80 * 1; (rw [if_pos e]); (rw [if_neg e, show j = Sha.pc p from by omega]; exact congrArg U64 (Sha.K_of false p (by omega) hip_))))) (by omega)), no_vj_b_14, hk⟩
        ·skip
         refine wp_skip ?_
         refine then_n ?_
         refine wp_region_lit ?_
         refine w_mv (ev (.int .i64 (((Sha.pc p) : Nat) : Int)) s2_5 rfl) ?_
         refine w_val (y_bin (ev (.int .i64 (((Sha.pc p) : Nat) : Int)) rfl rfl) (evc (.int .i64 1)) (b_add (by omega))) ?_
         refine w_as (ev (.int .i64 ((((Sha.pc p) : Nat) : Int) + 1)) rfl rfl) ?_
         refine wpList_nil ?_
         refine inb_n ?_
         refine then_n ?_
         refine wp_region_lit ?_
         refine w_mv (ev (U64 (BitVec.ofNat 64 p)) s2_6 rfl) ?_
         refine w_val (y_bin (ev (U64 (BitVec.ofNat 64 p)) rfl rfl) (evc (U64 (1#64))) add64) ?_
         refine w_as (ev (U64 ((BitVec.ofNat 64 p) + (1#64))) rfl rfl) ?_
         refine wpList_nil ?_
         have hip_ : Sha.ip p = true := by simpa using hc10
         have hpc := Sha.pc_yes p (by omega) hip_
         exact then_n ⟨_, (by omega), p + 1, vj, rfl, _, rfl, iv, iv, s2_0, s2_2, s2_3, s2_4, (Eq.trans (b := .int .i64 ((((Sha.pc p) : Nat) : Int) + 1)) rfl (by congr 1; omega)), (Eq.trans (b := U64 ((BitVec.ofNat 64 p) + (1#64))) rfl (by exact congrArg U64 (BitVec.ofNat_add (n := 64) p 1).symm)), (r_b_14.congr (fun j hj => by first | (exfalso; omega) | exact Sha.rr_a _ _ _ _ _ _ _ _ (Sha.bg_no 0 512 p (by omega)) j | exact Sha.rr_b _ _ _ _ _ _ _ _ _ (Sha.bg_no 0 512 p (by omega)) j | exact Sha.rr_d _ _ _ _ _ _ _ _ _ _ _ (by omega) (Sha.bg_yes 0 512 p _ hpc (by omega) (by omega) (Sha.H_of_512 p (by omega) hip_ (by omega))) j)), (own_n (o_vj.congr (fun j hj => by first | (with_reducible rfl) | ((try dsimp only); by_cases e : j < min (Sha.pc p) 80 * 1; (rw [if_pos e]); (rw [if_neg e, show j = Sha.pc p from by omega]; exact congrArg U64 (Sha.K_of false p (by omega) hip_))))) (by omega)), no_vj_b_14, hk⟩
       ·skip
        first | with_reducible refine w_skip ?_ ?_ | refine w_skip ?_ ?_
        · exact want_no (j := 3) rfl rfl (ev (.bool false) (Eq.trans (b := .bool (decide (0 ≤ (((Sha.pc p) : Nat) : Int)))) rfl (by rw [decide_eq_false hc32])) rfl) rfl
        first | with_reducible refine w_skip ?_ ?_ | refine w_skip ?_ ?_
        · exact want_no (j := 3) rfl rfl (ev (.bool false) (Eq.trans (b := .bool (decide (0 ≤ (((Sha.pc p) : Nat) : Int)))) rfl (by rw [decide_eq_false hc32])) rfl) rfl
        first | with_reducible refine w_skip ?_ ?_ | refine w_skip ?_ ?_
        · exact want_no (j := 3) rfl rfl (ev (.bool false) (Eq.trans (b := .bool (decide (0 ≤ (((Sha.pc p) : Nat) : Int)))) rfl (by rw [decide_eq_false hc32])) rfl) rfl
        first | with_reducible refine w_skip ?_ ?_ | refine w_skip ?_ ?_
        · exact want_no (j := 3) rfl rfl (ev (.bool false) (Eq.trans (b := .bool (decide (0 ≤ (((Sha.pc p) : Nat) : Int)))) rfl (by rw [decide_eq_false hc32])) rfl) rfl
        refine w_val (y_pick_f (ev (.bool false) (Eq.trans (b := .bool (decide (0 ≤ (((Sha.pc p) : Nat) : Int)))) rfl (by rw [decide_eq_false hc32])) rfl) (evc (.bool false))) ?_
        refine nt ?_
        refine c_ff (ev (.bool false) rfl rfl) ?_
        refine wp_skip ?_
        refine then_n ?_
        refine wp_region_lit ?_
        refine w_mv (ev (.int .i64 (((Sha.pc p) : Nat) : Int)) s2_5 rfl) ?_
        refine w_val (y_bin (ev (.int .i64 (((Sha.pc p) : Nat) : Int)) rfl rfl) (evc (.int .i64 1)) (b_add (by omega))) ?_
        refine w_as (ev (.int .i64 ((((Sha.pc p) : Nat) : Int) + 1)) rfl rfl) ?_
        refine wpList_nil ?_
        refine inb_n ?_
        refine then_n ?_
        refine wp_region_lit ?_
        refine w_mv (ev (U64 (BitVec.ofNat 64 p)) s2_6 rfl) ?_
        refine w_val (y_bin (ev (U64 (BitVec.ofNat 64 p)) rfl rfl) (evc (U64 (1#64))) add64) ?_
        refine w_as (ev (U64 ((BitVec.ofNat 64 p) + (1#64))) rfl rfl) ?_
        refine wpList_nil ?_
        have hip_ : Sha.ip p = true := by simpa using hc10
        have hpc := Sha.pc_yes p (by omega) hip_
        exact then_n ⟨_, (by omega), p + 1, vj, rfl, _, rfl, iv, iv, s2_0, s2_2, s2_3, s2_4, (Eq.trans (b := .int .i64 ((((Sha.pc p) : Nat) : Int) + 1)) rfl (by congr 1; omega)), (Eq.trans (b := U64 ((BitVec.ofNat 64 p) + (1#64))) rfl (by exact congrArg U64 (BitVec.ofNat_add (n := 64) p 1).symm)), (r_b_14.congr (fun j hj => by first | (exfalso; omega) | exact Sha.rr_a _ _ _ _ _ _ _ _ (Sha.bg_no 0 512 p (by omega)) j | exact Sha.rr_b _ _ _ _ _ _ _ _ _ (Sha.bg_no 0 512 p (by omega)) j | exact Sha.rr_d _ _ _ _ _ _ _ _ _ _ _ (by omega) (Sha.bg_yes 0 512 p _ hpc (by omega) (by omega) (Sha.H_of_512 p (by omega) hip_ (by omega))) j)), (own_n (o_vj.congr (fun j hj => by first | (with_reducible rfl) | ((try dsimp only); by_cases e : j < min (Sha.pc p) 80 * 1; (rw [if_pos e]); (rw [if_neg e, show j = Sha.pc p from by omega]; exact congrArg U64 (Sha.K_of false p (by omega) hip_))))) (by omega)), no_vj_b_14, hk⟩
  ·skip
   refine wp_exit ?_
   refine then_x ?_
   refine then_x ?_
   refine inb_x ?_
   refine then_n ?_
   refine sr ?_
   refine w_mv (ev (pt b_14 0) s1_3 rfl) ?_
   refine w_as (ev (pt b_14 0) rfl rfl) ?_
   refine nt ?_
   refine wp_ret ?_
   refine fin_ret1 rfl (ev (pt b_14 0) rfl rfl) ?_
   obtain ⟨g38, cap38, hv38, ge_g38, hc_g38, hob_g38, r_g38⟩ := o_vk.opened (by omega)
   have ne_b_14_g38 : b_14 ≠ g38 := fun e => no_vk_b_14 (by rw [hob_g38, e])
   have hmn : min (Sha.pc p) 80 = 80 := by omega
   rw [hmn] at hv38 r_g38
   refine ⟨b_14, g38, cap38, rfl, ge_b_14, ge_g38, ne_b_14_g38, r_b_14.congr (fun j hj => ?_), r_g38, hk⟩
   rw [hv38]; exact Sha.rr_a _ _ _ _ _ _ _ _ (fun i hi => if_pos (by omega)) j
end Go.Proofs.YtieepglpejlkoaaDoor
