/-
  The reference's rules. Conditions as each says.
-/
import Derived.Test.YtepogbfkmflooaaDoorRows
import Derived.Test.YtepogbfkmflooaaDoorShaN
import Derived.Test.YtepogbfkmflooaaDoorShaR
import Derived.Test.YtepogbfkmflooaaDoorGenSh
import Derived.ProofKit
namespace Go.Proofs.YtepogbfkmflooaaDoor
open Go.RowKit
set_option linter.unusedSimpArgs false
set_option linter.unusedVariables false
set_option maxRecDepth 100000
set_option maxHeartbeats 1000000
namespace ShaMT
theorem mixed : Tryd.prog.follows .mixedOrders = true := by kernel_rfl
theorem ag139 : (Tryd.prog.underlying 139).map isAggD = some true := by rw [Tryd.underlying139]; rfl
theorem fa90_0 (g off : Nat) : ∀ w, (Instr.fieldAt 90 (.pointer (some ⟨g, off, none⟩)) 0).run Tryd.prog w = .ok (.pointer (some ⟨g, off + 0, none⟩)) w := fun w => by kernel_rfl
theorem fa90_2 (g off : Nat) : ∀ w, (Instr.fieldAt 90 (.pointer (some ⟨g, off, none⟩)) 2).run Tryd.prog w = .ok (.pointer (some ⟨g, off + 2, none⟩)) w := fun w => by kernel_rfl
theorem fa90_3 (g off : Nat) : ∀ w, (Instr.fieldAt 90 (.pointer (some ⟨g, off, none⟩)) 3).run Tryd.prog w = .ok (.pointer (some ⟨g, off + 3, none⟩)) w := fun w => by kernel_rfl
theorem fa90_4 (g off : Nat) : ∀ w, (Instr.fieldAt 90 (.pointer (some ⟨g, off, none⟩)) 4).run Tryd.prog w = .ok (.pointer (some ⟨g, off + 4, none⟩)) w := fun w => by kernel_rfl
theorem fa90_5 (g off : Nat) : ∀ w, (Instr.fieldAt 90 (.pointer (some ⟨g, off, none⟩)) 5).run Tryd.prog w = .ok (.pointer (some ⟨g, off + 5, none⟩)) w := fun w => by kernel_rfl
theorem fa90_6 (g off : Nat) : ∀ w, (Instr.fieldAt 90 (.pointer (some ⟨g, off, none⟩)) 6).run Tryd.prog w = .ok (.pointer (some ⟨g, off + 13, none⟩)) w := fun w => by kernel_rfl
theorem sc3 : (Tryd.prog.underlying 3).map scal = some true := by rw [Tryd.underlying3]; rfl
theorem sc58 : (Tryd.prog.underlying 58).map scal = some true := by rw [Tryd.underlying58]; rfl
theorem sc87 : (Tryd.prog.underlying 87).map scal = some true := by rw [Tryd.underlying87]; rfl
theorem so3 : (Tryd.prog.underlying 3).isSome = true := by rw [Tryd.underlying3]; rfl
theorem sz139 : (Tryd.prog.info? 139).map (·.size) = some 4 := by kernel_rfl
theorem sz3 : (Tryd.prog.info? 3).map (·.size) = some 1 := by kernel_rfl
theorem sz58 : (Tryd.prog.info? 58).map (·.size) = some 1 := by kernel_rfl
theorem sz86 : (Tryd.prog.info? 86).map (·.size) = some 12 := by kernel_rfl
theorem sz87 : (Tryd.prog.info? 87).map (·.size) = some 1 := by kernel_rfl
end ShaMT
theorem known_256  (w0 : World) : Calls Tryd.prog 54 #[.int .i64 256] w0 fun e w' => e = .returned (.bool true) ∧ Below w0.heap.size w0 w' := by
 refine enter (n := 13) Tryd.func54 rfl rfl rfl ?_
 have hk : Below w0.heap.size w0 w0 := Below.refl _ _
 refine sr (w_as Ev.c (nt (sr (w_mv ei (w_val (y_bin ei Ev.c b_eql) (w_mv eb ?_))))))
 with_reducible refine w_skip ?_ ?_
 exact wn rfl rfl eb
 with_reducible refine w_skip ?_ ?_
 exact wn rfl rfl eb
 refine w_val (y_pick_t eb Ev.c) (w_mv eb ?_)
 with_reducible refine w_skip ?_ ?_
 exact wn rfl rfl eb
 with_reducible refine w_skip ?_ ?_
 exact wn rfl rfl eb
 refine w_val (y_pick_t eb Ev.c) (w_as eb (nt (wp_ret (fin_ret1 rfl eb ?_))))
 exact ⟨rfl, hk⟩

theorem known_384  (w0 : World) : Calls Tryd.prog 54 #[.int .i64 384] w0 fun e w' => e = .returned (.bool true) ∧ Below w0.heap.size w0 w' := by
 refine enter (n := 13) Tryd.func54 rfl rfl rfl ?_
 have hk : Below w0.heap.size w0 w0 := Below.refl _ _
 refine sr (w_as Ev.c (nt (sr (w_mv ei (w_val (y_bin ei Ev.c b_eql) (w_mv eb (w_val_g (v := .int .i64 384) (wy rfl rfl eb) (y_mv ei) (w_val_g (wy rfl rfl eb) (y_bin ei Ev.c b_eql) (w_val (y_pick_f eb eb) (w_mv eb ?_))))))))))
 with_reducible refine w_skip ?_ ?_
 exact wn rfl rfl eb
 with_reducible refine w_skip ?_ ?_
 exact wn rfl rfl eb
 refine w_val (y_pick_t eb Ev.c) (w_as eb (nt (wp_ret (fin_ret1 rfl eb ?_))))
 exact ⟨rfl, hk⟩

theorem known_512  (w0 : World) : Calls Tryd.prog 54 #[.int .i64 512] w0 fun e w' => e = .returned (.bool true) ∧ Below w0.heap.size w0 w' := by
 refine enter (n := 13) Tryd.func54 rfl rfl rfl ?_
 have hk : Below w0.heap.size w0 w0 := Below.refl _ _
 refine sr (w_as Ev.c (nt (sr (w_mv ei (w_val (y_bin ei Ev.c b_eql) (w_mv eb (w_val_g (v := .int .i64 512) (wy rfl rfl eb) (y_mv ei) (w_val_g (wy rfl rfl eb) (y_bin ei Ev.c b_eql) (w_val (y_pick_f eb eb) (w_mv eb (w_val_g (v := .int .i64 512) (wy rfl rfl eb) (y_mv ei) (w_val_g (wy rfl rfl eb) (y_bin ei Ev.c b_eql) (w_val (y_pick_f eb eb) (w_as eb (nt (wp_ret (fin_ret1 rfl eb ?_)))))))))))))))))
 exact ⟨rfl, hk⟩

theorem known_no (k : Int) (k1 : k ≠ 256) (k2 : k ≠ 384) (k3 : k ≠ 512) (w0 : World) : Calls Tryd.prog 54 #[.int .i64 k] w0 fun e w' => e = .returned (.bool false) ∧ Below w0.heap.size w0 w' := by
 refine enter (n := 13) Tryd.func54 rfl rfl rfl ?_
 have hk : Below w0.heap.size w0 w0 := Below.refl _ _
 refine sr (w_as Ev.c (nt (sr (w_mv ei (w_val (y_bin ei Ev.c b_eql) (w_mv eb ?_))))))
 have hc1 : ¬ (k = 256) := by exact k1
 refine w_val_g (v := .int .i64 k) (wy rfl rfl (eb (df hc1))) (y_mv ei) (w_val_g (wy rfl rfl (eb (df hc1))) (y_bin ei Ev.c b_eql) (w_val (y_pick_f (eb (df hc1)) eb) (w_mv eb ?_)))
 have hc2 : ¬ (k = 384) := by exact k2
 refine w_val_g (v := .int .i64 k) (wy rfl rfl (eb (df hc2))) (y_mv ei) (w_val_g (wy rfl rfl (eb (df hc2))) (y_bin ei Ev.c b_eql) (w_val (y_pick_f (eb (df hc2)) eb) (w_as eb (nt (wp_ret ?_)))))
 have hc3 : ¬ (k = 512) := by exact k3
 refine fin_ret1 rfl (eb (df hc3)) ?_
 exact ⟨rfl, hk⟩

theorem cut_t (rp : Nat) (x : BitVec 64) (w0 : World) {F : Nat → Value} (r_rp : Row w0 rp 90 25 F) (hF : F 0 = .int .i64 256) : Calls Tryd.prog 55 #[pt rp 0, U64 x] w0 fun e w' => e = .returned (U64 (Sha.cutw true x)) ∧ Below w0.heap.size w0 w' := by
 refine enter (n := 13) Tryd.func55 rfl rfl rfl ?_
 have hk : Below w0.heap.size w0 w0 := Below.refl _ _
 have lt_rp := r_rp.lt
 refine sr (w_as (evc (U64 (0#64))) (nt (wp_seq (sr (w_mv (ex (pt rp 0)) (w_val (y_nc (ex (pt rp 0))) (w_val (v := pt rp 0) (y_off (y_fa (ex (pt rp 0)) (ShaMT.fa90_0 _ _)) ro) (w_val (v := .int .i64 256) (y_ld (ex (pt rp 0)) ShaMT.sc3 (r_rp.val om hF)) (w_val (y_bin ei Ev.c b_eql) (nt (c_tt eb (sr (w_mv e6 (w_val (y_bin e6 (evc (.int .u64 32)) (shr64 (c := 32) rfl)) (w_as e6 (nt (wp_ret (then_r (fin_ret1 rfl e6 ?_)))))))))))))))))))
 refine ⟨congrArg Ending.returned ?_, hk⟩
 show (U64 (x >>> 32) : Value) = U64 (Sha.cutw true x)
 rfl

theorem make_256  (w0 : World) : Calls Tryd.prog 40 #[.int .i64 256] w0 fun e w' => ∃ rp g cap, e = .returned (.pointer (some ⟨rp, 0, none⟩)) ∧ w0.heap.size ≤ rp ∧ w0.heap.size ≤ g ∧ rp ≠ g ∧ Row w' rp 90 25 (Sha.rrow (.int .i64 256) (.int .i64 32) (.int .i64 64) (.int .i64 64) (.slice (some ⟨g, 0, none⟩) 64 cap) (Sha.H0 256) (fun i => U64 (BitVec.ofNat 64 (Sha.trn true i)))) ∧ Row w' g 58 (64 * 1) (fun j => U64 (Sha.K true j)) ∧ Below w0.heap.size w0 w' := by
 refine enter (n := 88) Tryd.func40 rfl rfl rfl ?_
 have hk : Below w0.heap.size w0 w0 := Below.refl _ _
 refine sr (w_as Ev.c (nt (sr (w_mv ei (w_mv ei (w_val (y_bin ei Ev.c (b_quo om)) (w_val (v := .agg (arr 12 (fun j => if j < 1 then U64 (1#64) else if j < 2 then U64 (8#64) else if j < 3 then U64 (7#64) else if j < 4 then U64 (19#64) else if j < 5 then U64 (61#64) else if j < 6 then U64 (6#64) else if j < 7 then U64 (28#64) else if j < 8 then U64 (34#64) else if j < 9 then U64 (39#64) else if j < 10 then U64 (14#64) else if j < 11 then U64 (18#64) else U64 (41#64)))) (y_build (vs := #[(0, U64 (1#64)), (1, U64 (8#64)), (2, U64 (7#64)), (3, U64 (19#64)), (4, U64 (61#64)), (5, U64 (6#64)), (6, U64 (28#64)), (7, U64 (34#64)), (8, U64 (39#64)), (9, U64 (14#64)), (10, U64 (18#64)), (11, U64 (41#64))]) (mp_cons (evc (U64 (1#64))) (mp_cons (evc (U64 (8#64))) (mp_cons (evc (U64 (7#64))) (mp_cons (evc (U64 (19#64))) (mp_cons (evc (U64 (61#64))) (mp_cons (evc (U64 (6#64))) (mp_cons (evc (U64 (28#64))) (mp_cons (evc (U64 (34#64))) (mp_cons (evc (U64 (39#64))) (mp_cons (evc (U64 (14#64))) (mp_cons (evc (U64 (18#64))) (mp_cons (evc (U64 (41#64))) mp0)))))))))))) (fun w => by kernel_rfl)) (w_val (v := .agg (arr 25 (fun j => if j < 1 then .int .i64 256 else if j < 2 then .int .i64 32 else if j < 3 then .int .i64 128 else if j < 4 then .int .i64 80 else if j < 5 then .slice none 0 0 else if j < 13 then U64 (0#64) else U64 (BitVec.ofNat 64 (Sha.trn false (j - 13)))))) (y_build (vs := #[(0, .int .i64 256), (1, .int .i64 32), (2, .int .i64 128), (3, .int .i64 80), (6, .agg (arr 12 (fun j => if j < 1 then U64 (1#64) else if j < 2 then U64 (8#64) else if j < 3 then U64 (7#64) else if j < 4 then U64 (19#64) else if j < 5 then U64 (61#64) else if j < 6 then U64 (6#64) else if j < 7 then U64 (28#64) else if j < 8 then U64 (34#64) else if j < 9 then U64 (39#64) else if j < 10 then U64 (14#64) else if j < 11 then U64 (18#64) else U64 (41#64))))]) (mp_cons ei (mp_cons ei (mp_cons Ev.c (mp_cons Ev.c (mp_cons ea mp0))))) (fun w => by kernel_rfl)) (w_box (m := 25) (F := fun j => if j < 1 then .int .i64 256 else if j < 2 then .int .i64 32 else if j < 3 then .int .i64 128 else if j < 4 then .int .i64 80 else if j < 5 then .slice none 0 0 else if j < 13 then U64 (0#64) else U64 (BitVec.ofNat 64 (Sha.trn false (j - 13)))) ea rfl ?_)))))))))
 intro b_14 w1 hbe_b_14 r_b_14 hb2
 have ge_b_14 := gb_ hk.size hbe_b_14
 clear hbe_b_14
 replace hk := thenB hk hb2
 refine w_as (ex (pt b_14 0)) (nt (sr (w_as Ev.c (nt (wp_seq (sr (w_mv ei (w_val (y_bin ei Ev.c b_eql) (nt (c_ff eb (wp_skip (then_n (wp_seq (sr (w_mv ei (w_val (y_bin ei Ev.c b_eql) (nt (c_tt eb (sr (w_mv (ex (pt b_14 0)) (w_val (y_nc (ex (pt b_14 0))) (w_val (v := pt b_14 2) (y_off (y_fa (ex (pt b_14 0)) (ShaMT.fa90_2 _ _)) ro) (w_st (v := .int .i64 64) (ex (pt b_14 2)) Ev.c rfl rfl ShaMT.sz3 r_b_14 om ?_)))))))))))))))))))))))
 clear r_b_14; intro w3 r_b_14 hg4 _
 replace hk := thenG hk hg4 om
 refine nt (sr (w_mv (ex (pt b_14 0)) (w_val (y_nc (ex (pt b_14 0))) (w_val (v := pt b_14 3) (y_off (y_fa (ex (pt b_14 0)) (ShaMT.fa90_3 _ _)) ro) (w_st (v := .int .i64 64) (ex (pt b_14 3)) Ev.c rfl rfl ShaMT.sz3 r_b_14 om ?_)))))
 clear r_b_14; intro w5 r_b_14 hg6 _
 replace hk := thenG hk hg6 om
 refine nt (wp_region_lit (w_mv (ex (pt b_14 0)) (w_val (v := .agg (arr 12 (fun j => if j < 1 then U64 (7#64) else if j < 2 then U64 (18#64) else if j < 3 then U64 (3#64) else if j < 4 then U64 (17#64) else if j < 5 then U64 (19#64) else if j < 6 then U64 (10#64) else if j < 7 then U64 (2#64) else if j < 8 then U64 (13#64) else if j < 9 then U64 (22#64) else if j < 10 then U64 (6#64) else if j < 11 then U64 (11#64) else U64 (25#64)))) (y_build (vs := #[(0, U64 (7#64)), (1, U64 (18#64)), (2, U64 (3#64)), (3, U64 (17#64)), (4, U64 (19#64)), (5, U64 (10#64)), (6, U64 (2#64)), (7, U64 (13#64)), (8, U64 (22#64)), (9, U64 (6#64)), (10, U64 (11#64)), (11, U64 (25#64))]) (mp_cons (evc (U64 (7#64))) (mp_cons (evc (U64 (18#64))) (mp_cons (evc (U64 (3#64))) (mp_cons (evc (U64 (17#64))) (mp_cons (evc (U64 (19#64))) (mp_cons (evc (U64 (10#64))) (mp_cons (evc (U64 (2#64))) (mp_cons (evc (U64 (13#64))) (mp_cons (evc (U64 (22#64))) (mp_cons (evc (U64 (6#64))) (mp_cons (evc (U64 (11#64))) (mp_cons (evc (U64 (25#64))) mp0)))))))))))) (fun w => by kernel_rfl)) (w_val (y_nc (ex (pt b_14 0))) (w_val (v := pt b_14 13) (y_off (y_fa (ex (pt b_14 0)) (ShaMT.fa90_6 _ _)) ro) (w_sta (k := 12) (G := fun j => if j < 1 then U64 (7#64) else if j < 2 then U64 (18#64) else if j < 3 then U64 (3#64) else if j < 4 then U64 (17#64) else if j < 5 then U64 (19#64) else if j < 6 then U64 (10#64) else if j < 7 then U64 (2#64) else if j < 8 then U64 (13#64) else if j < 9 then U64 (22#64) else if j < 10 then U64 (6#64) else if j < 11 then U64 (11#64) else U64 (25#64)) (ex (pt b_14 13)) ea oc ShaMT.sz86 r_b_14 om ?_))))))
 clear r_b_14; intro w7 r_b_14 hg8 _
 replace hk := thenG hk hg8 om
 refine nt (wp_seq ?_)
 replace r_b_14 := r_b_14.congr (g := Sha.rrow (.int .i64 256) (.int .i64 32) (.int .i64 64) (.int .i64 64) (.slice none 0 0) (fun _ => 0#64) (fun i => U64 (BitVec.ofNat 64 (Sha.trn true i)))) (fun j hj => by rcases (by omega : j = 0 ∨ j = 1 ∨ j = 2 ∨ j = 3 ∨ j = 4 ∨ j = 5 ∨ j = 6 ∨ j = 7 ∨ j = 8 ∨ j = 9 ∨ j = 10 ∨ j = 11 ∨ j = 12 ∨ j = 13 ∨ j = 14 ∨ j = 15 ∨ j = 16 ∨ j = 17 ∨ j = 18 ∨ j = 19 ∨ j = 20 ∨ j = 21 ∨ j = 22 ∨ j = 23 ∨ j = 24) with h | h | h | h | h | h | h | h | h | h | h | h | h | h | h | h | h | h | h | h | h | h | h | h | h <;> (subst h; rfl))
 refine wp_region_lit (w_as Ev.c (nt (wp_seq (sr (w_as (evc (U64 (2#64))) (nt (wp_block ?_)))))))
 refine c_loop (fun dN aN wl => ∃ (p : Nat) (vk : Value), dN = (410 - p) ∧ ∃ f9, aN = fr 88 f9 ∧ (2 ≤ p) ∧ (p ≤ 410) ∧ f9 2 = .pointer none ∧ f9 3 = pt b_14 0 ∧ f9 4 = .int .i64 0 ∧ f9 5 = .int .i64 (((Sha.pc p) : Nat) : Int) ∧ f9 6 = U64 (BitVec.ofNat 64 p) ∧ Row wl b_14 90 25 (Sha.rrow (.int .i64 256) (.int .i64 32) (.int .i64 64) (.int .i64 64) (vk) (Sha.bg 0 256 p) (fun i => U64 (BitVec.ofNat 64 (Sha.trn true i)))) ∧ Own wl w0.heap.size 58 1 vk (min (Sha.pc p) 64) (fun j => U64 (Sha.K true j)) ∧ vk.ownBlock ≠ some b_14 ∧ Below w0.heap.size w0 wl) (410 - 2) ?_ ?_
 · exact ⟨2, (.slice none 0 0), rfl, _, rfl, iv, iv, rfl, rfl, rfl, (Eq.trans (b := .int .i64 0) rfl (by rfl)), (Eq.trans (b := U64 (2#64)) rfl (by rfl)), (r_b_14.congr (fun j hj => by rcases (by omega : j = 0 ∨ j = 1 ∨ j = 2 ∨ j = 3 ∨ j = 4 ∨ j = 5 ∨ j = 6 ∨ j = 7 ∨ j = 8 ∨ j = 9 ∨ j = 10 ∨ j = 11 ∨ j = 12 ∨ j = 13 ∨ j = 14 ∨ j = 15 ∨ j = 16 ∨ j = 17 ∨ j = 18 ∨ j = 19 ∨ j = 20 ∨ j = 21 ∨ j = 22 ∨ j = 23 ∨ j = 24) with h | h | h | h | h | h | h | h | h | h | h | h | h | h | h | h | h | h | h | h | h | h | h | h | h <;> (subst h; rfl))), Own.nil, (fun e => by cases e), hk⟩
 ·skip
  clear r_b_14 hk
  rintro _ _ w10 ⟨p, vk, rfl, f9, rfl, i1_0, i1_1, s1_2, s1_3, s1_4, s1_5, s1_6, r_b_14, o_vk, no_vk_b_14, hk⟩
  have hp9 := Sha.pc_lt p i1_1
  have hpw : (BitVec.ofNat 64 p).toNat = p := by rw [BitVec.toNat_ofNat]; omega
  refine wp_seq (sr (w_mv (ei s1_5) (w_val (y_bin ei Ev.c b_lss) (nt ?_))))
  refine c_if (p := (((Sha.pc p) : Nat) : Int) < 80) eb (fun hc11 => ?_) (fun hc11 => ?_)
  ·skip
   refine wp_skip (then_n (wp_seq (wp_block (sr (w_as Ev.c (nt (wp_seq (sr (w_as (evc (U64 (2#64))) (nt (wp_block ?_)))))))))))
   refine c_loop (fun dN aN wl => ∃ (q : Nat) (vj : Value), dN = (22 - q) ∧ ∃ f12, aN = fr 88 f12 ∧ (2 ≤ q) ∧ (q ≤ 21) ∧ (q = 2 ∨ (q - 1) * (q - 1) ≤ p) ∧ f12 2 = .pointer none ∧ f12 3 = pt b_14 0 ∧ f12 4 = .int .i64 0 ∧ f12 5 = .int .i64 (((Sha.pc p) : Nat) : Int) ∧ f12 6 = U64 (BitVec.ofNat 64 p) ∧ f12 7 = .bool (Sha.np p q) ∧ f12 8 = U64 (BitVec.ofNat 64 q) ∧ Row wl b_14 90 25 (Sha.rrow (.int .i64 256) (.int .i64 32) (.int .i64 64) (.int .i64 64) (vj) (Sha.bg 0 256 p) (fun i => U64 (BitVec.ofNat 64 (Sha.trn true i)))) ∧ Own wl w0.heap.size 58 1 vj (min (Sha.pc p) 64) (fun j => U64 (Sha.K true j)) ∧ vj.ownBlock ≠ some b_14 ∧ Below w0.heap.size w0 wl) (22 - 2) ?_ ?_
   · exact ⟨2, vk, rfl, _, rfl, iv, (by decide), (by exact Or.inl rfl), s1_2, s1_3, s1_4, s1_5, s1_6, (Eq.trans (b := .bool true) rfl (by exact congrArg Value.bool (Sha.np_two p).symm)), (Eq.trans (b := U64 (2#64)) rfl (by rfl)), (r_b_14.congr (fun j hj => by rfl)), o_vk, no_vk_b_14, hk⟩
   ·skip
    clear r_b_14 o_vk hk
    rintro _ _ w13 ⟨q, vj, rfl, f12, rfl, i2_0, i2_1, i2_2, s2_2, s2_3, s2_4, s2_5, s2_6, s2_7, s2_8, r_b_14, o_vj, no_vj_b_14, hk⟩
    refine wp_seq (sr (w_mv (e6 s2_8) (w_mv (e6 s2_8) (w_val (y_bin e6 e6 mul64) (w_mv (e6 s2_6) (w_val (y_bin e6 e6 leq64) (nt ?_)))))))
    refine c_if (p := ((BitVec.ofNat 64 q) * (BitVec.ofNat 64 q)).toNat ≤ (BitVec.ofNat 64 p).toNat) eb (fun hc14 => ?_) (fun hc14 => ?_)
    ·skip
     refine wp_skip (then_n (wp_seq (wp_block (sr (w_mv (e6 s2_6) (w_mv (e6 s2_8) (w_val (y_bin e6 e6 (rem64 (by exact Sha.ofNat_ne q om om))) (w_val (y_bin e6 (evc (U64 (0#64))) eql64) (nt ?_)))))))))
     refine c_if (p := ((BitVec.ofNat 64 p) % (BitVec.ofNat 64 q)) = (0#64)) eb (fun hc15 => ?_) (fun hc15 => ?_)
     ·skip
      refine wp_region_lit (w_as Ev.c (wpList_nil (inb_n (then_n (wp_region_lit (w_mv (e6 s2_8) (w_val (y_bin e6 (evc (U64 (1#64))) add64) (w_as e6 (wpList_nil ?_)))))))))
      exact then_n ⟨_, om, q + 1, vj, rfl, _, rfl, iv, (by have := Sha.sq_le q p om (by rw [Sha.sq_word q om, hpw] at *; omega); omega), (by refine Or.inr ?_; rw [show q + 1 - 1 = q from by omega]; rw [Sha.sq_word q om, hpw] at *; omega), s2_2, s2_3, s2_4, s2_5, s2_6, (Eq.trans (b := .bool false) rfl (by first | exact congrArg Value.bool (Sha.np_div p q om om om (by assumption)).symm | exact congrArg Value.bool (Sha.np_no p q om om om (by assumption)).symm)), (Eq.trans (b := U64 ((BitVec.ofNat 64 q) + (1#64))) rfl (by exact congrArg U64 (BitVec.ofNat_add (n := 64) q 1).symm)), r_b_14, o_vj, no_vj_b_14, hk⟩
     ·skip
      refine wp_skip (inb_n (then_n (wp_region_lit (w_mv (e6 s2_8) (w_val (y_bin e6 (evc (U64 (1#64))) add64) (w_as e6 (wpList_nil ?_)))))))
      exact then_n ⟨_, om, q + 1, vj, rfl, _, rfl, iv, (by have := Sha.sq_le q p om (by rw [Sha.sq_word q om, hpw] at *; omega); omega), (by refine Or.inr ?_; rw [show q + 1 - 1 = q from by omega]; rw [Sha.sq_word q om, hpw] at *; omega), s2_2, s2_3, s2_4, s2_5, s2_6, (by refine Eq.trans (b := .bool (Sha.np p q)) ?_ ?_; exact s2_7; (first | exact congrArg Value.bool (Sha.np_div p q om om om (by assumption)).symm | exact congrArg Value.bool (Sha.np_no p q om om om (by assumption)).symm)), (Eq.trans (b := U64 ((BitVec.ofNat 64 q) + (1#64))) rfl (by exact congrArg U64 (BitVec.ofNat_add (n := 64) q 1).symm)), r_b_14, o_vj, no_vj_b_14, hk⟩
    ·skip
     refine wp_exit (then_x (then_x (inb_x (then_n (wp_seq (sr ?_))))))
     refine w_mv (ex (.bool (Sha.ip p)) (by refine Eq.trans (b := .bool (Sha.np p q)) ?_ ?_; exact s2_7; (exact congrArg Value.bool (Sha.np_done p q om om om om i2_2 (by rw [Sha.sq_word q om, hpw] at *; omega))))) ?_
     refine w_val (y_not eb) (nt ?_)
     refine c_ifb eb (fun hc16 => ?_) (fun hc16 => ?_)
     ·skip
      refine wp_exit (then_x (inb_x (then_n (wp_region_lit (w_mv (e6 s2_6) (w_val (y_bin e6 (evc (U64 (1#64))) add64) (w_as e6 (wpList_nil ?_))))))))
      have hpc := Sha.pc_no p om (by simpa using hc16)
      exact then_n ⟨_, om, p + 1, vj, rfl, _, rfl, iv, iv, s2_2, s2_3, s2_4, (by refine Eq.trans (b := .int .i64 (((Sha.pc p) : Nat) : Int)) ?_ ?_; exact s2_5; (congr 1; omega)), (Eq.trans (b := U64 ((BitVec.ofNat 64 p) + (1#64))) rfl (by exact congrArg U64 (BitVec.ofNat_add (n := 64) p 1).symm)), (r_b_14.congr (fun j hj => by first | (exfalso; omega) | exact Sha.rr_a _ _ _ _ _ _ _ _ (Sha.bg_no 0 256 p om) j | exact Sha.rr_b _ _ _ _ _ _ _ _ _ (Sha.bg_no 0 256 p om) j | exact Sha.rr_d _ _ _ _ _ _ _ _ _ _ _ om (Sha.bg_yes 0 256 p _ hpc om om (Sha.H_of_256 p om hip_ om)) j)), (own_n (o_vj.congr (fun j hj => by first | (with_reducible rfl) | ((try dsimp only); by_cases e : j < min (Sha.pc p) 64 * 1; (rw [if_pos e]); (rw [if_neg e, show j = Sha.pc p from by omega]; exact congrArg U64 (Sha.K_of true p om hip_))))) om), no_vj_b_14, hk⟩
     ·skip
      refine wp_skip (then_n (wp_seq (sr (w_mv (ei s2_5) (w_mv (ex (pt b_14 0) s2_3) (w_val (y_nc (ex (pt b_14 0))) (w_val (v := pt b_14 3) (y_off (y_fa (ex (pt b_14 0)) (ShaMT.fa90_3 _ _)) ro) (w_val (v := .int .i64 64) (y_ld (ex (pt b_14 3)) ShaMT.sc3 (r_b_14.val om (ng (ng (ng pz))))) (w_val (y_bin ei ei b_lss) (nt ?_))))))))))
      refine c_if (p := (((Sha.pc p) : Nat) : Int) < 64) eb (fun hc17 => ?_) (fun hc17 => ?_)
      ·skip
       refine region_dc (Nat.testBit 15360) 14 ShaMT.mixed rfl ?_
       intro w18 hb19
       replace o_vj := o_vj.step hb19
       replace r_b_14 := r_b_14.step hb19
       replace hk := thenB hk hb19
       have hS : Cls w18 w18 := Below.refl _ _
       refine dp 0 rfl (fun w' => y_mv (ex (pt b_14 0) s2_3)) (dp 1 rfl (fun w' => y_mv (ex (pt b_14 0) s2_3)) (dp (v := pt b_14 0) 2 rfl (fun w' => y_nc (ex (pt b_14 0))) (dp (v := pt b_14 4) 3 rfl (fun w' => y_off (y_fa (ex (pt b_14 0)) (ShaMT.fa90_4 _ _)) ro) (d_take (v := vj) 4 (Nat.testBit 15376) rfl kr kr kr kr kr kr (fun _ _ _ h => h) hS (fun w' hw' => y_ld (ex (pt b_14 4)) ShaMT.sc87 (cls_cell (r_b_14.val om (ng (ng (ng (ng pz))))) r_b_14.lt w' hw')) (dp 5 rfl (fun w' => y_mv (ex (pt b_14 0) s2_3)) (dp 6 rfl (fun w' => y_mv (e6 s2_6)) (d_one 7 kr rfl (w_call (Tryd.func56) kr rfl (m2 e6 Ev.c) (root_3 p om w18) ?_))))))))
       rintro _ w20 ⟨rfl, hb21⟩
       refine ⟨_, rfl, ?_⟩
       replace o_vj := o_vj.step hb21
       replace r_b_14 := r_b_14.step hb21
       replace hk := thenB hk hb21
       replace hS := thenB hS hb21
       refine wpList_nil ?_
       refine then_n ⟨fun _ h => thenB h (by assumption), ?_⟩
       refine d_one 8 kr rfl (w_call (Tryd.func55) kr rfl (m2 (ex (pt b_14 0)) e6) (cut_t b_14 (BitVec.ofNat 64 (Sha.rt p 3 69)) w20 (F := Sha.rrow (.int .i64 256) (.int .i64 32) (.int .i64 64) (.int .i64 64) (vj) (Sha.bg 0 256 p) (fun i => U64 (BitVec.ofNat 64 (Sha.trn true i)))) r_b_14 rfl) ?_)
       rintro _ w22 ⟨rfl, hb23⟩
       refine ⟨_, rfl, ?_⟩
       replace o_vj := o_vj.step hb23
       replace r_b_14 := r_b_14.step hb23
       replace hk := thenB hk hb23
       replace hS := thenB hS hb23
       refine wpList_nil ?_
       refine then_n ⟨fun _ h => thenB h (by assumption), ?_⟩
       refine d_one 9 kr rfl (w_bs1 (m := 1) (e := 58) (F := fun j => U64 (Sha.cutw true (BitVec.ofNat 64 (Sha.rt p 3 69)))) e6 (fun w => by kernel_rfl) ?_)
       intro b_61 w24 hbe_b_61 r_b_61 hb25
       have ne_b_14_b_61 := r_b_14.nb hbe_b_61
       have no_vj_b_61 : vj.ownBlock ≠ some b_61 := o_vj.apart om
       have ge_b_61 := gb_ hk.size hbe_b_61
       clear hbe_b_61
       replace o_vj := o_vj.step hb25
       replace r_b_14 := r_b_14.step hb25
       replace hk := thenB hk hb25
       replace hS := thenB hS hb25
       refine wpList_nil ?_
       refine then_n ⟨fun _ h => thenB h (by assumption), ?_⟩
       refine d_one 10 kr rfl (w_app (k := (min (Sha.pc p) 64)) (m := 1) (size := 1) (bytes := 8) (ex vj) el Tryd.underlying87 kr (by decide) o_vj hk.size r_b_61 om oca (by simp only [maxLen]; omega) om ?_)
       intro v26 w27 o_v26 hg28 hv29
       have no_v26_b_14 := no_new no_vj_b_14 r_b_14.lt hv29
       replace r_b_14 := r_b_14.stepO hg28 no_vj_b_14
       have no_v26_b_61 := no_new no_vj_b_61 r_b_61.lt hv29
       replace r_b_61 := r_b_61.stepO hg28 no_vj_b_61
       replace hk := thenO hk hg28 (fun g e => (o_vj.block_lt g e).2)
       clear o_vj
       clear hS
       refine wpList_nil ?_
       refine then_n ⟨fun hD => absurd hD (by decide), ?_⟩
       refine d_one 11 kr rfl (w_val (y_nc (ex (pt b_14 0))) (wpList_nil ?_))
       refine then_n ⟨fun hD => absurd hD (by decide), ?_⟩
       refine d_one 12 kr rfl (w_val (v := pt b_14 4) (y_off (y_fa (ex (pt b_14 0)) (ShaMT.fa90_4 _ _)) ro) (wpList_nil ?_))
       refine then_n ⟨fun hD => absurd hD (by decide), ?_⟩
       refine d_one 13 kr rfl (w_st (v := v26) (ex (pt b_14 4)) (ex v26) (o_v26.one) (o_v26.cells) ShaMT.sz87 r_b_14 om ?_)
       clear r_b_14; intro w30 r_b_14 hg31 _
       replace o_v26 := o_v26.stepG hg31 no_v26_b_14
       replace r_b_61 := r_b_61.stepG hg31 om
       replace hk := thenG hk hg31 om
       refine wpList_nil ?_
       refine then_n ⟨fun hD => absurd hD (by decide), ?_⟩
       refine d_done kr (then_n (wp_seq (sr (w_mv (ei s2_5) (w_mv (ei s2_4) (w_val (y_bin ei ei b_geq) (w_mv eb ?_)))))))
       by_cases hc32 : 0 ≤ (((Sha.pc p) : Nat) : Int)
       ·skip
        refine w_val_g (v := .int .i64 (((Sha.pc p) : Nat) : Int)) (wy rfl rfl (eb (dt hc32))) (y_mv (ei s2_5)) (w_val_g (v := .int .i64 0) (wy rfl rfl (eb (dt hc32))) (y_mv (ei s2_4)) (w_val_g (wy rfl rfl (eb (dt hc32))) (y_bin ei Ev.c (b_add om)) (w_val_g (wy rfl rfl (eb (dt hc32))) (y_bin ei ei b_lss) (w_val (y_pick_t (eb (dt hc32)) eb) (nt ?_)))))
        refine c_if (p := (((Sha.pc p) : Nat) : Int) < 8) eb (fun hc33 => ?_) (fun hc33 => ?_)
        ·skip
         refine region_t 11 ShaMT.mixed kr ?_
         simp only [List.take_succ_cons, List.take_zero, List.drop_succ_cons, List.drop_zero]
         refine q_mv (ex (pt b_14 0) s2_3) (q_mv (ei s2_5) (q_mv (ei s2_4) (q_val (fun w' hw' => y_bin ei ei (b_sub om)) (q_mv (ex (pt b_14 0) s2_3) (q_mv (e6 s2_6) (q_call (v := U64 (BitVec.ofNat 64 (Sha.rt p 2 69))) (Tryd.func56) kr rfl (m2 e6 Ev.c) (fun w' hw' => root_2 p om w') (q_call (v := U64 (Sha.cutw true (BitVec.ofNat 64 (Sha.rt p 2 69)))) (Tryd.func55) kr rfl (m2 (ex (pt b_14 0)) e6) (fun w' hw' => cut_t b_14 (BitVec.ofNat 64 (Sha.rt p 2 69)) w' (F := fun j => if j = 4 then v26 else (Sha.rrow (.int .i64 256) (.int .i64 32) (.int .i64 64) (.int .i64 64) (vj) (Sha.bg 0 256 p) (fun i => U64 (BitVec.ofNat 64 (Sha.trn true i)))) j) (r_b_14.step hw') rfl) (q_val (fun w' hw' => y_nc (ex (pt b_14 0))) (q_val (v := pt b_14 5) (fun w' hw' => y_off (y_fa (ex (pt b_14 0)) (ShaMT.fa90_5 _ _)) ro) (q_val (v := pt b_14 (5 + ((Sha.pc p) - 0))) (fun w' hw' => y_off (y_ia1 (i := ((Sha.pc p) - 0)) (ex (pt b_14 5)) ei Tryd.underlying88 ShaMT.sz58 om om) ro) (q_nil ?_)))))))))))
         intro w34 hb35
         replace o_v26 := o_v26.step hb35
         replace r_b_14 := r_b_14.step hb35
         replace r_b_61 := r_b_61.step hb35
         replace hk := thenB hk hb35
         refine w_st (v := U64 (Sha.cutw true (BitVec.ofNat 64 (Sha.rt p 2 69)))) (ex (pt b_14 (5 + ((Sha.pc p) - 0)))) e6 rfl rfl ShaMT.sz58 r_b_14 om ?_
         clear r_b_14; intro w36 r_b_14 hg37 _
         replace o_v26 := o_v26.stepG hg37 no_v26_b_14
         replace r_b_61 := r_b_61.stepG hg37 om
         replace hk := thenG hk hg37 om
         refine nt (wp_region_lit (w_mv (ei s2_5) (w_val (y_bin ei Ev.c (b_add om)) (w_as ei (wpList_nil (inb_n (then_n (wp_region_lit (w_mv (e6 s2_6) (w_val (y_bin e6 (evc (U64 (1#64))) add64) (w_as e6 (wpList_nil ?_))))))))))))
         have hip_ : Sha.ip p = true := by simpa using hc16
         have hpc := Sha.pc_yes p om hip_
         exact then_n ⟨_, om, p + 1, v26, rfl, _, rfl, iv, iv, s2_2, s2_3, s2_4, (Eq.trans (b := .int .i64 ((((Sha.pc p) : Nat) : Int) + 1)) rfl (by congr 1; omega)), (Eq.trans (b := U64 ((BitVec.ofNat 64 p) + (1#64))) rfl (by exact congrArg U64 (BitVec.ofNat_add (n := 64) p 1).symm)), (r_b_14.congr (fun j hj => by first | (exfalso; omega) | exact Sha.rr_a _ _ _ _ _ _ _ _ (Sha.bg_no 0 256 p om) j | exact Sha.rr_b _ _ _ _ _ _ _ _ _ (Sha.bg_no 0 256 p om) j | exact Sha.rr_d _ _ _ _ _ _ _ _ _ _ _ om (Sha.bg_yes 0 256 p _ hpc om om (Sha.H_of_256 p om hip_ om)) j)), (own_n (o_v26.congr (fun j hj => by first | (with_reducible rfl) | ((try dsimp only); by_cases e : j < min (Sha.pc p) 64 * 1; (rw [if_pos e]); (rw [if_neg e, show j = Sha.pc p from by omega]; exact congrArg U64 (Sha.K_of true p om hip_))))) om), no_v26_b_14, hk⟩
        ·skip
         refine wp_skip (then_n (wp_region_lit (w_mv (ei s2_5) (w_val (y_bin ei Ev.c (b_add om)) (w_as ei (wpList_nil (inb_n (then_n (wp_region_lit (w_mv (e6 s2_6) (w_val (y_bin e6 (evc (U64 (1#64))) add64) (w_as e6 (wpList_nil ?_)))))))))))))
         have hip_ : Sha.ip p = true := by simpa using hc16
         have hpc := Sha.pc_yes p om hip_
         exact then_n ⟨_, om, p + 1, v26, rfl, _, rfl, iv, iv, s2_2, s2_3, s2_4, (Eq.trans (b := .int .i64 ((((Sha.pc p) : Nat) : Int) + 1)) rfl (by congr 1; omega)), (Eq.trans (b := U64 ((BitVec.ofNat 64 p) + (1#64))) rfl (by exact congrArg U64 (BitVec.ofNat_add (n := 64) p 1).symm)), (r_b_14.congr (fun j hj => by first | (exfalso; omega) | exact Sha.rr_a _ _ _ _ _ _ _ _ (Sha.bg_no 0 256 p om) j | exact Sha.rr_b _ _ _ _ _ _ _ _ _ (Sha.bg_no 0 256 p om) j | exact Sha.rr_d _ _ _ _ _ _ _ _ _ _ _ om (Sha.bg_yes 0 256 p _ hpc om om (Sha.H_of_256 p om hip_ om)) j)), (own_n (o_v26.congr (fun j hj => by first | (with_reducible rfl) | ((try dsimp only); by_cases e : j < min (Sha.pc p) 64 * 1; (rw [if_pos e]); (rw [if_neg e, show j = Sha.pc p from by omega]; exact congrArg U64 (Sha.K_of true p om hip_))))) om), no_v26_b_14, hk⟩
       ·skip
        with_reducible refine w_skip ?_ ?_
        exact wn rfl rfl (eb (df hc32))
        with_reducible refine w_skip ?_ ?_
        exact wn rfl rfl (eb (df hc32))
        with_reducible refine w_skip ?_ ?_
        exact wn rfl rfl (eb (df hc32))
        with_reducible refine w_skip ?_ ?_
        exact wn rfl rfl (eb (df hc32))
        refine w_val (y_pick_f (eb (df hc32)) Ev.c) (nt (c_ff eb (wp_skip (then_n (wp_region_lit (w_mv (ei s2_5) (w_val (y_bin ei Ev.c (b_add om)) (w_as ei (wpList_nil (inb_n (then_n (wp_region_lit (w_mv (e6 s2_6) (w_val (y_bin e6 (evc (U64 (1#64))) add64) (w_as e6 (wpList_nil ?_))))))))))))))))
        have hip_ : Sha.ip p = true := by simpa using hc16
        have hpc := Sha.pc_yes p om hip_
        exact then_n ⟨_, om, p + 1, v26, rfl, _, rfl, iv, iv, s2_2, s2_3, s2_4, (Eq.trans (b := .int .i64 ((((Sha.pc p) : Nat) : Int) + 1)) rfl (by congr 1; omega)), (Eq.trans (b := U64 ((BitVec.ofNat 64 p) + (1#64))) rfl (by exact congrArg U64 (BitVec.ofNat_add (n := 64) p 1).symm)), (r_b_14.congr (fun j hj => by first | (exfalso; omega) | exact Sha.rr_a _ _ _ _ _ _ _ _ (Sha.bg_no 0 256 p om) j | exact Sha.rr_b _ _ _ _ _ _ _ _ _ (Sha.bg_no 0 256 p om) j | exact Sha.rr_d _ _ _ _ _ _ _ _ _ _ _ om (Sha.bg_yes 0 256 p _ hpc om om (Sha.H_of_256 p om hip_ om)) j)), (own_n (o_v26.congr (fun j hj => by first | (with_reducible rfl) | ((try dsimp only); by_cases e : j < min (Sha.pc p) 64 * 1; (rw [if_pos e]); (rw [if_neg e, show j = Sha.pc p from by omega]; exact congrArg U64 (Sha.K_of true p om hip_))))) om), no_v26_b_14, hk⟩
      ·skip
       refine wp_skip (then_n (wp_seq (sr (w_mv (ei s2_5) (w_mv (ei s2_4) (w_val (y_bin ei ei b_geq) (w_mv eb ?_)))))))
       by_cases hc38 : 0 ≤ (((Sha.pc p) : Nat) : Int)
       ·skip
        refine w_val_g (v := .int .i64 (((Sha.pc p) : Nat) : Int)) (wy rfl rfl (eb (dt hc38))) (y_mv (ei s2_5)) (w_val_g (v := .int .i64 0) (wy rfl rfl (eb (dt hc38))) (y_mv (ei s2_4)) (w_val_g (wy rfl rfl (eb (dt hc38))) (y_bin ei Ev.c (b_add om)) (w_val_g (wy rfl rfl (eb (dt hc38))) (y_bin ei ei b_lss) (w_val (y_pick_t (eb (dt hc38)) eb) (nt ?_)))))
        refine c_if (p := (((Sha.pc p) : Nat) : Int) < 8) eb (fun hc39 => ?_) (fun hc39 => ?_)
        ·skip
         refine region_t 11 ShaMT.mixed kr ?_
         simp only [List.take_succ_cons, List.take_zero, List.drop_succ_cons, List.drop_zero]
         refine q_mv (ex (pt b_14 0) s2_3) (q_mv (ei s2_5) (q_mv (ei s2_4) (q_val (fun w' hw' => y_bin ei ei (b_sub om)) (q_mv (ex (pt b_14 0) s2_3) (q_mv (e6 s2_6) (q_call (v := U64 (BitVec.ofNat 64 (Sha.rt p 2 69))) (Tryd.func56) kr rfl (m2 e6 Ev.c) (fun w' hw' => root_2 p om w') (q_call (v := U64 (Sha.cutw true (BitVec.ofNat 64 (Sha.rt p 2 69)))) (Tryd.func55) kr rfl (m2 (ex (pt b_14 0)) e6) (fun w' hw' => cut_t b_14 (BitVec.ofNat 64 (Sha.rt p 2 69)) w' (F := Sha.rrow (.int .i64 256) (.int .i64 32) (.int .i64 64) (.int .i64 64) (vj) (Sha.bg 0 256 p) (fun i => U64 (BitVec.ofNat 64 (Sha.trn true i)))) (r_b_14.step hw') rfl) (q_val (fun w' hw' => y_nc (ex (pt b_14 0))) (q_val (v := pt b_14 5) (fun w' hw' => y_off (y_fa (ex (pt b_14 0)) (ShaMT.fa90_5 _ _)) ro) (q_val (v := pt b_14 (5 + ((Sha.pc p) - 0))) (fun w' hw' => y_off (y_ia1 (i := ((Sha.pc p) - 0)) (ex (pt b_14 5)) ei Tryd.underlying88 ShaMT.sz58 om om) ro) (q_nil ?_)))))))))))
         intro w40 hb41
         replace o_vj := o_vj.step hb41
         replace r_b_14 := r_b_14.step hb41
         replace hk := thenB hk hb41
         refine w_st (v := U64 (Sha.cutw true (BitVec.ofNat 64 (Sha.rt p 2 69)))) (ex (pt b_14 (5 + ((Sha.pc p) - 0)))) e6 rfl rfl ShaMT.sz58 r_b_14 om ?_
         clear r_b_14; intro w42 r_b_14 hg43 _
         replace o_vj := o_vj.stepG hg43 no_vj_b_14
         replace hk := thenG hk hg43 om
         refine nt (wp_region_lit (w_mv (ei s2_5) (w_val (y_bin ei Ev.c (b_add om)) (w_as ei (wpList_nil (inb_n (then_n (wp_region_lit (w_mv (e6 s2_6) (w_val (y_bin e6 (evc (U64 (1#64))) add64) (w_as e6 (wpList_nil ?_))))))))))))
         have hip_ : Sha.ip p = true := by simpa using hc16
         have hpc := Sha.pc_yes p om hip_
         exact then_n ⟨_, om, p + 1, vj, rfl, _, rfl, iv, iv, s2_2, s2_3, s2_4, (Eq.trans (b := .int .i64 ((((Sha.pc p) : Nat) : Int) + 1)) rfl (by congr 1; omega)), (Eq.trans (b := U64 ((BitVec.ofNat 64 p) + (1#64))) rfl (by exact congrArg U64 (BitVec.ofNat_add (n := 64) p 1).symm)), (r_b_14.congr (fun j hj => by first | (exfalso; omega) | exact Sha.rr_a _ _ _ _ _ _ _ _ (Sha.bg_no 0 256 p om) j | exact Sha.rr_b _ _ _ _ _ _ _ _ _ (Sha.bg_no 0 256 p om) j | exact Sha.rr_d _ _ _ _ _ _ _ _ _ _ _ om (Sha.bg_yes 0 256 p _ hpc om om (Sha.H_of_256 p om hip_ om)) j)), (own_n (o_vj.congr (fun j hj => by first | (with_reducible rfl) | ((try dsimp only); by_cases e : j < min (Sha.pc p) 64 * 1; (rw [if_pos e]); (rw [if_neg e, show j = Sha.pc p from by omega]; exact congrArg U64 (Sha.K_of true p om hip_))))) om), no_vj_b_14, hk⟩
        ·skip
         refine wp_skip (then_n (wp_region_lit (w_mv (ei s2_5) (w_val (y_bin ei Ev.c (b_add om)) (w_as ei (wpList_nil (inb_n (then_n (wp_region_lit (w_mv (e6 s2_6) (w_val (y_bin e6 (evc (U64 (1#64))) add64) (w_as e6 (wpList_nil ?_)))))))))))))
         have hip_ : Sha.ip p = true := by simpa using hc16
         have hpc := Sha.pc_yes p om hip_
         exact then_n ⟨_, om, p + 1, vj, rfl, _, rfl, iv, iv, s2_2, s2_3, s2_4, (Eq.trans (b := .int .i64 ((((Sha.pc p) : Nat) : Int) + 1)) rfl (by congr 1; omega)), (Eq.trans (b := U64 ((BitVec.ofNat 64 p) + (1#64))) rfl (by exact congrArg U64 (BitVec.ofNat_add (n := 64) p 1).symm)), (r_b_14.congr (fun j hj => by first | (exfalso; omega) | exact Sha.rr_a _ _ _ _ _ _ _ _ (Sha.bg_no 0 256 p om) j | exact Sha.rr_b _ _ _ _ _ _ _ _ _ (Sha.bg_no 0 256 p om) j | exact Sha.rr_d _ _ _ _ _ _ _ _ _ _ _ om (Sha.bg_yes 0 256 p _ hpc om om (Sha.H_of_256 p om hip_ om)) j)), (own_n (o_vj.congr (fun j hj => by first | (with_reducible rfl) | ((try dsimp only); by_cases e : j < min (Sha.pc p) 64 * 1; (rw [if_pos e]); (rw [if_neg e, show j = Sha.pc p from by omega]; exact congrArg U64 (Sha.K_of true p om hip_))))) om), no_vj_b_14, hk⟩
       ·skip
        with_reducible refine w_skip ?_ ?_
        exact wn rfl rfl (eb (df hc38))
        with_reducible refine w_skip ?_ ?_
        exact wn rfl rfl (eb (df hc38))
        with_reducible refine w_skip ?_ ?_
        exact wn rfl rfl (eb (df hc38))
        with_reducible refine w_skip ?_ ?_
        exact wn rfl rfl (eb (df hc38))
        refine w_val (y_pick_f (eb (df hc38)) Ev.c) (nt (c_ff eb (wp_skip (then_n (wp_region_lit (w_mv (ei s2_5) (w_val (y_bin ei Ev.c (b_add om)) (w_as ei (wpList_nil (inb_n (then_n (wp_region_lit (w_mv (e6 s2_6) (w_val (y_bin e6 (evc (U64 (1#64))) add64) (w_as e6 (wpList_nil ?_))))))))))))))))
        have hip_ : Sha.ip p = true := by simpa using hc16
        have hpc := Sha.pc_yes p om hip_
        exact then_n ⟨_, om, p + 1, vj, rfl, _, rfl, iv, iv, s2_2, s2_3, s2_4, (Eq.trans (b := .int .i64 ((((Sha.pc p) : Nat) : Int) + 1)) rfl (by congr 1; omega)), (Eq.trans (b := U64 ((BitVec.ofNat 64 p) + (1#64))) rfl (by exact congrArg U64 (BitVec.ofNat_add (n := 64) p 1).symm)), (r_b_14.congr (fun j hj => by first | (exfalso; omega) | exact Sha.rr_a _ _ _ _ _ _ _ _ (Sha.bg_no 0 256 p om) j | exact Sha.rr_b _ _ _ _ _ _ _ _ _ (Sha.bg_no 0 256 p om) j | exact Sha.rr_d _ _ _ _ _ _ _ _ _ _ _ om (Sha.bg_yes 0 256 p _ hpc om om (Sha.H_of_256 p om hip_ om)) j)), (own_n (o_vj.congr (fun j hj => by first | (with_reducible rfl) | ((try dsimp only); by_cases e : j < min (Sha.pc p) 64 * 1; (rw [if_pos e]); (rw [if_neg e, show j = Sha.pc p from by omega]; exact congrArg U64 (Sha.K_of true p om hip_))))) om), no_vj_b_14, hk⟩
  ·skip
   refine wp_exit (then_x (then_x (inb_x (then_n (sr (w_mv (ex (pt b_14 0) s1_3) (w_as (ex (pt b_14 0)) (nt (wp_ret (fin_ret1 rfl (ex (pt b_14 0)) ?_))))))))))
   obtain ⟨g44, cap44, hv44, ge_g44, hc_g44, hob_g44, r_g44⟩ := o_vk.opened om
   have ne_b_14_g44 : b_14 ≠ g44 := fun e => no_vk_b_14 (by rw [hob_g44, e])
   have hmn : min (Sha.pc p) 64 = 64 := by omega
   rw [hmn] at hv44 r_g44
   refine ⟨b_14, g44, cap44, rfl, ge_b_14, ge_g44, ne_b_14_g44, r_b_14.congr (fun j hj => ?_), r_g44, hk⟩
   rw [hv44]; exact Sha.rr_a _ _ _ _ _ _ _ _ (fun i hi => if_pos om) j

theorem cut_f (rp : Nat) (x : BitVec 64) (kd : Int) (hkd : kd ≠ 256) (w0 : World) {F : Nat → Value} (r_rp : Row w0 rp 90 25 F) (hF : F 0 = .int .i64 kd) : Calls Tryd.prog 55 #[pt rp 0, U64 x] w0 fun e w' => e = .returned (U64 (Sha.cutw false x)) ∧ Below w0.heap.size w0 w' := by
 refine enter (n := 13) Tryd.func55 rfl rfl rfl ?_
 have hk : Below w0.heap.size w0 w0 := Below.refl _ _
 have lt_rp := r_rp.lt
 refine sr (w_as (evc (U64 (0#64))) (nt (wp_seq (sr (w_mv (ex (pt rp 0)) (w_val (y_nc (ex (pt rp 0))) (w_val (v := pt rp 0) (y_off (y_fa (ex (pt rp 0)) (ShaMT.fa90_0 _ _)) ro) (w_val (v := .int .i64 kd) (y_ld (ex (pt rp 0)) ShaMT.sc3 (r_rp.val om hF)) (w_val (y_bin ei Ev.c b_eql) (nt ?_))))))))))
 have hc1 : ¬ (kd = 256) := by exact hkd
 refine c_f (p := kd = 256) eb hc1 (wp_skip (then_n (sr (w_mv e6 (w_as e6 (nt (wp_ret (fin_ret1 rfl e6 ?_))))))))
 refine ⟨congrArg Ending.returned ?_, hk⟩
 show (U64 x : Value) = U64 (Sha.cutw false x)
 rfl

theorem make_384  (w0 : World) : Calls Tryd.prog 40 #[.int .i64 384] w0 fun e w' => ∃ rp g cap, e = .returned (.pointer (some ⟨rp, 0, none⟩)) ∧ w0.heap.size ≤ rp ∧ w0.heap.size ≤ g ∧ rp ≠ g ∧ Row w' rp 90 25 (Sha.rrow (.int .i64 384) (.int .i64 48) (.int .i64 128) (.int .i64 80) (.slice (some ⟨g, 0, none⟩) 80 cap) (Sha.H0 384) (fun i => U64 (BitVec.ofNat 64 (Sha.trn false i)))) ∧ Row w' g 58 (80 * 1) (fun j => U64 (Sha.K false j)) ∧ Below w0.heap.size w0 w' := by
 refine enter (n := 88) Tryd.func40 rfl rfl rfl ?_
 have hk : Below w0.heap.size w0 w0 := Below.refl _ _
 refine sr (w_as Ev.c (nt (sr (w_mv ei (w_mv ei (w_val (y_bin ei Ev.c (b_quo om)) (w_val (v := .agg (arr 12 (fun j => if j < 1 then U64 (1#64) else if j < 2 then U64 (8#64) else if j < 3 then U64 (7#64) else if j < 4 then U64 (19#64) else if j < 5 then U64 (61#64) else if j < 6 then U64 (6#64) else if j < 7 then U64 (28#64) else if j < 8 then U64 (34#64) else if j < 9 then U64 (39#64) else if j < 10 then U64 (14#64) else if j < 11 then U64 (18#64) else U64 (41#64)))) (y_build (vs := #[(0, U64 (1#64)), (1, U64 (8#64)), (2, U64 (7#64)), (3, U64 (19#64)), (4, U64 (61#64)), (5, U64 (6#64)), (6, U64 (28#64)), (7, U64 (34#64)), (8, U64 (39#64)), (9, U64 (14#64)), (10, U64 (18#64)), (11, U64 (41#64))]) (mp_cons (evc (U64 (1#64))) (mp_cons (evc (U64 (8#64))) (mp_cons (evc (U64 (7#64))) (mp_cons (evc (U64 (19#64))) (mp_cons (evc (U64 (61#64))) (mp_cons (evc (U64 (6#64))) (mp_cons (evc (U64 (28#64))) (mp_cons (evc (U64 (34#64))) (mp_cons (evc (U64 (39#64))) (mp_cons (evc (U64 (14#64))) (mp_cons (evc (U64 (18#64))) (mp_cons (evc (U64 (41#64))) mp0)))))))))))) (fun w => by kernel_rfl)) (w_val (v := .agg (arr 25 (fun j => if j < 1 then .int .i64 384 else if j < 2 then .int .i64 48 else if j < 3 then .int .i64 128 else if j < 4 then .int .i64 80 else if j < 5 then .slice none 0 0 else if j < 13 then U64 (0#64) else U64 (BitVec.ofNat 64 (Sha.trn false (j - 13)))))) (y_build (vs := #[(0, .int .i64 384), (1, .int .i64 48), (2, .int .i64 128), (3, .int .i64 80), (6, .agg (arr 12 (fun j => if j < 1 then U64 (1#64) else if j < 2 then U64 (8#64) else if j < 3 then U64 (7#64) else if j < 4 then U64 (19#64) else if j < 5 then U64 (61#64) else if j < 6 then U64 (6#64) else if j < 7 then U64 (28#64) else if j < 8 then U64 (34#64) else if j < 9 then U64 (39#64) else if j < 10 then U64 (14#64) else if j < 11 then U64 (18#64) else U64 (41#64))))]) (mp_cons ei (mp_cons ei (mp_cons Ev.c (mp_cons Ev.c (mp_cons ea mp0))))) (fun w => by kernel_rfl)) (w_box (m := 25) (F := fun j => if j < 1 then .int .i64 384 else if j < 2 then .int .i64 48 else if j < 3 then .int .i64 128 else if j < 4 then .int .i64 80 else if j < 5 then .slice none 0 0 else if j < 13 then U64 (0#64) else U64 (BitVec.ofNat 64 (Sha.trn false (j - 13)))) ea rfl ?_)))))))))
 intro b_14 w1 hbe_b_14 r_b_14 hb2
 have ge_b_14 := gb_ hk.size hbe_b_14
 clear hbe_b_14
 replace hk := thenB hk hb2
 refine w_as (ex (pt b_14 0)) (nt (sr (w_as Ev.c (nt (wp_seq (sr (w_mv ei (w_val (y_bin ei Ev.c b_eql) (nt (c_tt eb (wp_region_lit (w_as Ev.c (nt (wp_seq (sr (w_mv ei (w_val (y_bin ei Ev.c b_eql) (nt (c_ff eb (wp_skip (then_n (wp_seq ?_))))))))))))))))))))))
 replace r_b_14 := r_b_14.congr (g := Sha.rrow (.int .i64 384) (.int .i64 48) (.int .i64 128) (.int .i64 80) (.slice none 0 0) (fun _ => 0#64) (fun i => U64 (BitVec.ofNat 64 (Sha.trn false i)))) (fun j hj => by rcases (by omega : j = 0 ∨ j = 1 ∨ j = 2 ∨ j = 3 ∨ j = 4 ∨ j = 5 ∨ j = 6 ∨ j = 7 ∨ j = 8 ∨ j = 9 ∨ j = 10 ∨ j = 11 ∨ j = 12 ∨ j = 13 ∨ j = 14 ∨ j = 15 ∨ j = 16 ∨ j = 17 ∨ j = 18 ∨ j = 19 ∨ j = 20 ∨ j = 21 ∨ j = 22 ∨ j = 23 ∨ j = 24) with h | h | h | h | h | h | h | h | h | h | h | h | h | h | h | h | h | h | h | h | h | h | h | h | h <;> (subst h; rfl))
 refine wp_region_lit (w_as Ev.c (nt (wp_seq (sr (w_as (evc (U64 (2#64))) (nt (wp_block ?_)))))))
 refine c_loop (fun dN aN wl => ∃ (p : Nat) (vk : Value), dN = (410 - p) ∧ ∃ f3, aN = fr 88 f3 ∧ (2 ≤ p) ∧ (p ≤ 410) ∧ f3 2 = .pointer none ∧ f3 3 = pt b_14 0 ∧ f3 4 = .int .i64 8 ∧ f3 5 = .int .i64 (((Sha.pc p) : Nat) : Int) ∧ f3 6 = U64 (BitVec.ofNat 64 p) ∧ Row wl b_14 90 25 (Sha.rrow (.int .i64 384) (.int .i64 48) (.int .i64 128) (.int .i64 80) (vk) (Sha.bg 8 384 p) (fun i => U64 (BitVec.ofNat 64 (Sha.trn false i)))) ∧ Own wl w0.heap.size 58 1 vk (min (Sha.pc p) 80) (fun j => U64 (Sha.K false j)) ∧ vk.ownBlock ≠ some b_14 ∧ Below w0.heap.size w0 wl) (410 - 2) ?_ ?_
 · exact ⟨2, (.slice none 0 0), rfl, _, rfl, iv, iv, rfl, rfl, rfl, (Eq.trans (b := .int .i64 0) rfl (by rfl)), (Eq.trans (b := U64 (2#64)) rfl (by rfl)), (r_b_14.congr (fun j hj => by rcases (by omega : j = 0 ∨ j = 1 ∨ j = 2 ∨ j = 3 ∨ j = 4 ∨ j = 5 ∨ j = 6 ∨ j = 7 ∨ j = 8 ∨ j = 9 ∨ j = 10 ∨ j = 11 ∨ j = 12 ∨ j = 13 ∨ j = 14 ∨ j = 15 ∨ j = 16 ∨ j = 17 ∨ j = 18 ∨ j = 19 ∨ j = 20 ∨ j = 21 ∨ j = 22 ∨ j = 23 ∨ j = 24) with h | h | h | h | h | h | h | h | h | h | h | h | h | h | h | h | h | h | h | h | h | h | h | h | h <;> (subst h; rfl))), Own.nil, (fun e => by cases e), hk⟩
 ·skip
  clear r_b_14 hk
  rintro _ _ w4 ⟨p, vk, rfl, f3, rfl, i1_0, i1_1, s1_2, s1_3, s1_4, s1_5, s1_6, r_b_14, o_vk, no_vk_b_14, hk⟩
  have hp9 := Sha.pc_lt p i1_1
  have hpw : (BitVec.ofNat 64 p).toNat = p := by rw [BitVec.toNat_ofNat]; omega
  refine wp_seq (sr (w_mv (ei s1_5) (w_val (y_bin ei Ev.c b_lss) (nt ?_))))
  refine c_if (p := (((Sha.pc p) : Nat) : Int) < 80) eb (fun hc5 => ?_) (fun hc5 => ?_)
  ·skip
   refine wp_skip (then_n (wp_seq (wp_block (sr (w_as Ev.c (nt (wp_seq (sr (w_as (evc (U64 (2#64))) (nt (wp_block ?_)))))))))))
   refine c_loop (fun dN aN wl => ∃ (q : Nat) (vj : Value), dN = (22 - q) ∧ ∃ f6, aN = fr 88 f6 ∧ (2 ≤ q) ∧ (q ≤ 21) ∧ (q = 2 ∨ (q - 1) * (q - 1) ≤ p) ∧ f6 2 = .pointer none ∧ f6 3 = pt b_14 0 ∧ f6 4 = .int .i64 8 ∧ f6 5 = .int .i64 (((Sha.pc p) : Nat) : Int) ∧ f6 6 = U64 (BitVec.ofNat 64 p) ∧ f6 7 = .bool (Sha.np p q) ∧ f6 8 = U64 (BitVec.ofNat 64 q) ∧ Row wl b_14 90 25 (Sha.rrow (.int .i64 384) (.int .i64 48) (.int .i64 128) (.int .i64 80) (vj) (Sha.bg 8 384 p) (fun i => U64 (BitVec.ofNat 64 (Sha.trn false i)))) ∧ Own wl w0.heap.size 58 1 vj (min (Sha.pc p) 80) (fun j => U64 (Sha.K false j)) ∧ vj.ownBlock ≠ some b_14 ∧ Below w0.heap.size w0 wl) (22 - 2) ?_ ?_
   · exact ⟨2, vk, rfl, _, rfl, iv, (by decide), (by exact Or.inl rfl), s1_2, s1_3, s1_4, s1_5, s1_6, (Eq.trans (b := .bool true) rfl (by exact congrArg Value.bool (Sha.np_two p).symm)), (Eq.trans (b := U64 (2#64)) rfl (by rfl)), (r_b_14.congr (fun j hj => by rfl)), o_vk, no_vk_b_14, hk⟩
   ·skip
    clear r_b_14 o_vk hk
    rintro _ _ w7 ⟨q, vj, rfl, f6, rfl, i2_0, i2_1, i2_2, s2_2, s2_3, s2_4, s2_5, s2_6, s2_7, s2_8, r_b_14, o_vj, no_vj_b_14, hk⟩
    refine wp_seq (sr (w_mv (e6 s2_8) (w_mv (e6 s2_8) (w_val (y_bin e6 e6 mul64) (w_mv (e6 s2_6) (w_val (y_bin e6 e6 leq64) (nt ?_)))))))
    refine c_if (p := ((BitVec.ofNat 64 q) * (BitVec.ofNat 64 q)).toNat ≤ (BitVec.ofNat 64 p).toNat) eb (fun hc8 => ?_) (fun hc8 => ?_)
    ·skip
     refine wp_skip (then_n (wp_seq (wp_block (sr (w_mv (e6 s2_6) (w_mv (e6 s2_8) (w_val (y_bin e6 e6 (rem64 (by exact Sha.ofNat_ne q om om))) (w_val (y_bin e6 (evc (U64 (0#64))) eql64) (nt ?_)))))))))
     refine c_if (p := ((BitVec.ofNat 64 p) % (BitVec.ofNat 64 q)) = (0#64)) eb (fun hc9 => ?_) (fun hc9 => ?_)
     ·skip
      refine wp_region_lit (w_as Ev.c (wpList_nil (inb_n (then_n (wp_region_lit (w_mv (e6 s2_8) (w_val (y_bin e6 (evc (U64 (1#64))) add64) (w_as e6 (wpList_nil ?_)))))))))
      exact then_n ⟨_, om, q + 1, vj, rfl, _, rfl, iv, (by have := Sha.sq_le q p om (by rw [Sha.sq_word q om, hpw] at *; omega); omega), (by refine Or.inr ?_; rw [show q + 1 - 1 = q from by omega]; rw [Sha.sq_word q om, hpw] at *; omega), s2_2, s2_3, s2_4, s2_5, s2_6, (Eq.trans (b := .bool false) rfl (by first | exact congrArg Value.bool (Sha.np_div p q om om om (by assumption)).symm | exact congrArg Value.bool (Sha.np_no p q om om om (by assumption)).symm)), (Eq.trans (b := U64 ((BitVec.ofNat 64 q) + (1#64))) rfl (by exact congrArg U64 (BitVec.ofNat_add (n := 64) q 1).symm)), r_b_14, o_vj, no_vj_b_14, hk⟩
     ·skip
      refine wp_skip (inb_n (then_n (wp_region_lit (w_mv (e6 s2_8) (w_val (y_bin e6 (evc (U64 (1#64))) add64) (w_as e6 (wpList_nil ?_)))))))
      exact then_n ⟨_, om, q + 1, vj, rfl, _, rfl, iv, (by have := Sha.sq_le q p om (by rw [Sha.sq_word q om, hpw] at *; omega); omega), (by refine Or.inr ?_; rw [show q + 1 - 1 = q from by omega]; rw [Sha.sq_word q om, hpw] at *; omega), s2_2, s2_3, s2_4, s2_5, s2_6, (by refine Eq.trans (b := .bool (Sha.np p q)) ?_ ?_; exact s2_7; (first | exact congrArg Value.bool (Sha.np_div p q om om om (by assumption)).symm | exact congrArg Value.bool (Sha.np_no p q om om om (by assumption)).symm)), (Eq.trans (b := U64 ((BitVec.ofNat 64 q) + (1#64))) rfl (by exact congrArg U64 (BitVec.ofNat_add (n := 64) q 1).symm)), r_b_14, o_vj, no_vj_b_14, hk⟩
    ·skip
     refine wp_exit (then_x (then_x (inb_x (then_n (wp_seq (sr ?_))))))
     refine w_mv (ex (.bool (Sha.ip p)) (by refine Eq.trans (b := .bool (Sha.np p q)) ?_ ?_; exact s2_7; (exact congrArg Value.bool (Sha.np_done p q om om om om i2_2 (by rw [Sha.sq_word q om, hpw] at *; omega))))) ?_
     refine w_val (y_not eb) (nt ?_)
     refine c_ifb eb (fun hc10 => ?_) (fun hc10 => ?_)
     ·skip
      refine wp_exit (then_x (inb_x (then_n (wp_region_lit (w_mv (e6 s2_6) (w_val (y_bin e6 (evc (U64 (1#64))) add64) (w_as e6 (wpList_nil ?_))))))))
      have hpc := Sha.pc_no p om (by simpa using hc10)
      exact then_n ⟨_, om, p + 1, vj, rfl, _, rfl, iv, iv, s2_2, s2_3, s2_4, (by refine Eq.trans (b := .int .i64 (((Sha.pc p) : Nat) : Int)) ?_ ?_; exact s2_5; (congr 1; omega)), (Eq.trans (b := U64 ((BitVec.ofNat 64 p) + (1#64))) rfl (by exact congrArg U64 (BitVec.ofNat_add (n := 64) p 1).symm)), (r_b_14.congr (fun j hj => by first | (exfalso; omega) | exact Sha.rr_a _ _ _ _ _ _ _ _ (Sha.bg_no 8 384 p om) j | exact Sha.rr_b _ _ _ _ _ _ _ _ _ (Sha.bg_no 8 384 p om) j | exact Sha.rr_d _ _ _ _ _ _ _ _ _ _ _ om (Sha.bg_yes 8 384 p _ hpc om om (Sha.H_of_384 p om hip_ om om)) j)), (own_n (o_vj.congr (fun j hj => by first | (with_reducible rfl) | ((try dsimp only); by_cases e : j < min (Sha.pc p) 80 * 1; (rw [if_pos e]); (rw [if_neg e, show j = Sha.pc p from by omega]; exact congrArg U64 (Sha.K_of false p om hip_))))) om), no_vj_b_14, hk⟩
     ·skip
      refine wp_skip (then_n (wp_seq (sr (w_mv (ei s2_5) (w_mv (ex (pt b_14 0) s2_3) (w_val (y_nc (ex (pt b_14 0))) (w_val (v := pt b_14 3) (y_off (y_fa (ex (pt b_14 0)) (ShaMT.fa90_3 _ _)) ro) (w_val (v := .int .i64 80) (y_ld (ex (pt b_14 3)) ShaMT.sc3 (r_b_14.val om (ng (ng (ng pz))))) (w_val (y_bin ei ei b_lss) (nt ?_))))))))))
      refine c_if (p := (((Sha.pc p) : Nat) : Int) < 80) eb (fun hc11 => ?_) (fun hc11 => ?_)
      ·skip
       refine region_dc (Nat.testBit 15360) 14 ShaMT.mixed rfl ?_
       intro w12 hb13
       replace o_vj := o_vj.step hb13
       replace r_b_14 := r_b_14.step hb13
       replace hk := thenB hk hb13
       have hS : Cls w12 w12 := Below.refl _ _
       refine dp 0 rfl (fun w' => y_mv (ex (pt b_14 0) s2_3)) (dp 1 rfl (fun w' => y_mv (ex (pt b_14 0) s2_3)) (dp (v := pt b_14 0) 2 rfl (fun w' => y_nc (ex (pt b_14 0))) (dp (v := pt b_14 4) 3 rfl (fun w' => y_off (y_fa (ex (pt b_14 0)) (ShaMT.fa90_4 _ _)) ro) (d_take (v := vj) 4 (Nat.testBit 15376) rfl kr kr kr kr kr kr (fun _ _ _ h => h) hS (fun w' hw' => y_ld (ex (pt b_14 4)) ShaMT.sc87 (cls_cell (r_b_14.val om (ng (ng (ng (ng pz))))) r_b_14.lt w' hw')) (dp 5 rfl (fun w' => y_mv (ex (pt b_14 0) s2_3)) (dp 6 rfl (fun w' => y_mv (e6 s2_6)) (d_one 7 kr rfl (w_call (Tryd.func56) kr rfl (m2 e6 Ev.c) (root_3 p om w12) ?_))))))))
       rintro _ w14 ⟨rfl, hb15⟩
       refine ⟨_, rfl, ?_⟩
       replace o_vj := o_vj.step hb15
       replace r_b_14 := r_b_14.step hb15
       replace hk := thenB hk hb15
       replace hS := thenB hS hb15
       refine wpList_nil ?_
       refine then_n ⟨fun _ h => thenB h (by assumption), ?_⟩
       refine d_one 8 kr rfl (w_call (Tryd.func55) kr rfl (m2 (ex (pt b_14 0)) e6) (cut_f b_14 (BitVec.ofNat 64 (Sha.rt p 3 69)) 384 (by decide) w14 (F := Sha.rrow (.int .i64 384) (.int .i64 48) (.int .i64 128) (.int .i64 80) (vj) (Sha.bg 8 384 p) (fun i => U64 (BitVec.ofNat 64 (Sha.trn false i)))) r_b_14 rfl) ?_)
       rintro _ w16 ⟨rfl, hb17⟩
       refine ⟨_, rfl, ?_⟩
       replace o_vj := o_vj.step hb17
       replace r_b_14 := r_b_14.step hb17
       replace hk := thenB hk hb17
       replace hS := thenB hS hb17
       refine wpList_nil ?_
       refine then_n ⟨fun _ h => thenB h (by assumption), ?_⟩
       refine d_one 9 kr rfl (w_bs1 (m := 1) (e := 58) (F := fun j => U64 (Sha.cutw false (BitVec.ofNat 64 (Sha.rt p 3 69)))) e6 (fun w => by kernel_rfl) ?_)
       intro b_61 w18 hbe_b_61 r_b_61 hb19
       have ne_b_14_b_61 := r_b_14.nb hbe_b_61
       have no_vj_b_61 : vj.ownBlock ≠ some b_61 := o_vj.apart om
       have ge_b_61 := gb_ hk.size hbe_b_61
       clear hbe_b_61
       replace o_vj := o_vj.step hb19
       replace r_b_14 := r_b_14.step hb19
       replace hk := thenB hk hb19
       replace hS := thenB hS hb19
       refine wpList_nil ?_
       refine then_n ⟨fun _ h => thenB h (by assumption), ?_⟩
       refine d_one 10 kr rfl (w_app (k := (min (Sha.pc p) 80)) (m := 1) (size := 1) (bytes := 8) (ex vj) el Tryd.underlying87 kr (by decide) o_vj hk.size r_b_61 om oca (by simp only [maxLen]; omega) om ?_)
       intro v20 w21 o_v20 hg22 hv23
       have no_v20_b_14 := no_new no_vj_b_14 r_b_14.lt hv23
       replace r_b_14 := r_b_14.stepO hg22 no_vj_b_14
       have no_v20_b_61 := no_new no_vj_b_61 r_b_61.lt hv23
       replace r_b_61 := r_b_61.stepO hg22 no_vj_b_61
       replace hk := thenO hk hg22 (fun g e => (o_vj.block_lt g e).2)
       clear o_vj
       clear hS
       refine wpList_nil ?_
       refine then_n ⟨fun hD => absurd hD (by decide), ?_⟩
       refine d_one 11 kr rfl (w_val (y_nc (ex (pt b_14 0))) (wpList_nil ?_))
       refine then_n ⟨fun hD => absurd hD (by decide), ?_⟩
       refine d_one 12 kr rfl (w_val (v := pt b_14 4) (y_off (y_fa (ex (pt b_14 0)) (ShaMT.fa90_4 _ _)) ro) (wpList_nil ?_))
       refine then_n ⟨fun hD => absurd hD (by decide), ?_⟩
       refine d_one 13 kr rfl (w_st (v := v20) (ex (pt b_14 4)) (ex v20) (o_v20.one) (o_v20.cells) ShaMT.sz87 r_b_14 om ?_)
       clear r_b_14; intro w24 r_b_14 hg25 _
       replace o_v20 := o_v20.stepG hg25 no_v20_b_14
       replace r_b_61 := r_b_61.stepG hg25 om
       replace hk := thenG hk hg25 om
       refine wpList_nil ?_
       refine then_n ⟨fun hD => absurd hD (by decide), ?_⟩
       refine d_done kr (then_n (wp_seq (sr (w_mv (ei s2_5) (w_mv (ei s2_4) (w_val (y_bin ei ei b_geq) (w_mv eb ?_)))))))
       by_cases hc26 : 8 ≤ (((Sha.pc p) : Nat) : Int)
       ·skip
        refine w_val_g (v := .int .i64 (((Sha.pc p) : Nat) : Int)) (wy rfl rfl (eb (dt hc26))) (y_mv (ei s2_5)) (w_val_g (v := .int .i64 8) (wy rfl rfl (eb (dt hc26))) (y_mv (ei s2_4)) (w_val_g (wy rfl rfl (eb (dt hc26))) (y_bin ei Ev.c (b_add om)) (w_val_g (wy rfl rfl (eb (dt hc26))) (y_bin ei ei b_lss) (w_val (y_pick_t (eb (dt hc26)) eb) (nt ?_)))))
        refine c_if (p := (((Sha.pc p) : Nat) : Int) < 16) eb (fun hc27 => ?_) (fun hc27 => ?_)
        ·skip
         refine region_t 11 ShaMT.mixed kr ?_
         simp only [List.take_succ_cons, List.take_zero, List.drop_succ_cons, List.drop_zero]
         refine q_mv (ex (pt b_14 0) s2_3) (q_mv (ei s2_5) (q_mv (ei s2_4) (q_val (fun w' hw' => y_bin ei ei (b_sub om)) (q_mv (ex (pt b_14 0) s2_3) (q_mv (e6 s2_6) (q_call (v := U64 (BitVec.ofNat 64 (Sha.rt p 2 69))) (Tryd.func56) kr rfl (m2 e6 Ev.c) (fun w' hw' => root_2 p om w') (q_call (v := U64 (Sha.cutw false (BitVec.ofNat 64 (Sha.rt p 2 69)))) (Tryd.func55) kr rfl (m2 (ex (pt b_14 0)) e6) (fun w' hw' => cut_f b_14 (BitVec.ofNat 64 (Sha.rt p 2 69)) 384 (by decide) w' (F := fun j => if j = 4 then v20 else (Sha.rrow (.int .i64 384) (.int .i64 48) (.int .i64 128) (.int .i64 80) (vj) (Sha.bg 8 384 p) (fun i => U64 (BitVec.ofNat 64 (Sha.trn false i)))) j) (r_b_14.step hw') rfl) (q_val (fun w' hw' => y_nc (ex (pt b_14 0))) (q_val (v := pt b_14 5) (fun w' hw' => y_off (y_fa (ex (pt b_14 0)) (ShaMT.fa90_5 _ _)) ro) (q_val (v := pt b_14 (5 + ((Sha.pc p) - 8))) (fun w' hw' => y_off (y_ia1 (i := ((Sha.pc p) - 8)) (ex (pt b_14 5)) ei Tryd.underlying88 ShaMT.sz58 om om) ro) (q_nil ?_)))))))))))
         intro w28 hb29
         replace o_v20 := o_v20.step hb29
         replace r_b_14 := r_b_14.step hb29
         replace r_b_61 := r_b_61.step hb29
         replace hk := thenB hk hb29
         refine w_st (v := U64 (Sha.cutw false (BitVec.ofNat 64 (Sha.rt p 2 69)))) (ex (pt b_14 (5 + ((Sha.pc p) - 8)))) e6 rfl rfl ShaMT.sz58 r_b_14 om ?_
         clear r_b_14; intro w30 r_b_14 hg31 _
         replace o_v20 := o_v20.stepG hg31 no_v20_b_14
         replace r_b_61 := r_b_61.stepG hg31 om
         replace hk := thenG hk hg31 om
         refine nt (wp_region_lit (w_mv (ei s2_5) (w_val (y_bin ei Ev.c (b_add om)) (w_as ei (wpList_nil (inb_n (then_n (wp_region_lit (w_mv (e6 s2_6) (w_val (y_bin e6 (evc (U64 (1#64))) add64) (w_as e6 (wpList_nil ?_))))))))))))
         have hip_ : Sha.ip p = true := by simpa using hc10
         have hpc := Sha.pc_yes p om hip_
         exact then_n ⟨_, om, p + 1, v20, rfl, _, rfl, iv, iv, s2_2, s2_3, s2_4, (Eq.trans (b := .int .i64 ((((Sha.pc p) : Nat) : Int) + 1)) rfl (by congr 1; omega)), (Eq.trans (b := U64 ((BitVec.ofNat 64 p) + (1#64))) rfl (by exact congrArg U64 (BitVec.ofNat_add (n := 64) p 1).symm)), (r_b_14.congr (fun j hj => by first | (exfalso; omega) | exact Sha.rr_a _ _ _ _ _ _ _ _ (Sha.bg_no 8 384 p om) j | exact Sha.rr_b _ _ _ _ _ _ _ _ _ (Sha.bg_no 8 384 p om) j | exact Sha.rr_d _ _ _ _ _ _ _ _ _ _ _ om (Sha.bg_yes 8 384 p _ hpc om om (Sha.H_of_384 p om hip_ om om)) j)), (own_n (o_v20.congr (fun j hj => by first | (with_reducible rfl) | ((try dsimp only); by_cases e : j < min (Sha.pc p) 80 * 1; (rw [if_pos e]); (rw [if_neg e, show j = Sha.pc p from by omega]; exact congrArg U64 (Sha.K_of false p om hip_))))) om), no_v20_b_14, hk⟩
        ·skip
         refine wp_skip (then_n (wp_region_lit (w_mv (ei s2_5) (w_val (y_bin ei Ev.c (b_add om)) (w_as ei (wpList_nil (inb_n (then_n (wp_region_lit (w_mv (e6 s2_6) (w_val (y_bin e6 (evc (U64 (1#64))) add64) (w_as e6 (wpList_nil ?_)))))))))))))
         have hip_ : Sha.ip p = true := by simpa using hc10
         have hpc := Sha.pc_yes p om hip_
         exact then_n ⟨_, om, p + 1, v20, rfl, _, rfl, iv, iv, s2_2, s2_3, s2_4, (Eq.trans (b := .int .i64 ((((Sha.pc p) : Nat) : Int) + 1)) rfl (by congr 1; omega)), (Eq.trans (b := U64 ((BitVec.ofNat 64 p) + (1#64))) rfl (by exact congrArg U64 (BitVec.ofNat_add (n := 64) p 1).symm)), (r_b_14.congr (fun j hj => by first | (exfalso; omega) | exact Sha.rr_a _ _ _ _ _ _ _ _ (Sha.bg_no 8 384 p om) j | exact Sha.rr_b _ _ _ _ _ _ _ _ _ (Sha.bg_no 8 384 p om) j | exact Sha.rr_d _ _ _ _ _ _ _ _ _ _ _ om (Sha.bg_yes 8 384 p _ hpc om om (Sha.H_of_384 p om hip_ om om)) j)), (own_n (o_v20.congr (fun j hj => by first | (with_reducible rfl) | ((try dsimp only); by_cases e : j < min (Sha.pc p) 80 * 1; (rw [if_pos e]); (rw [if_neg e, show j = Sha.pc p from by omega]; exact congrArg U64 (Sha.K_of false p om hip_))))) om), no_v20_b_14, hk⟩
       ·skip
        with_reducible refine w_skip ?_ ?_
        exact wn rfl rfl (eb (df hc26))
        with_reducible refine w_skip ?_ ?_
        exact wn rfl rfl (eb (df hc26))
        with_reducible refine w_skip ?_ ?_
        exact wn rfl rfl (eb (df hc26))
        with_reducible refine w_skip ?_ ?_
        exact wn rfl rfl (eb (df hc26))
        refine w_val (y_pick_f (eb (df hc26)) Ev.c) (nt (c_ff eb (wp_skip (then_n (wp_region_lit (w_mv (ei s2_5) (w_val (y_bin ei Ev.c (b_add om)) (w_as ei (wpList_nil (inb_n (then_n (wp_region_lit (w_mv (e6 s2_6) (w_val (y_bin e6 (evc (U64 (1#64))) add64) (w_as e6 (wpList_nil ?_))))))))))))))))
        have hip_ : Sha.ip p = true := by simpa using hc10
        have hpc := Sha.pc_yes p om hip_
        exact then_n ⟨_, om, p + 1, v20, rfl, _, rfl, iv, iv, s2_2, s2_3, s2_4, (Eq.trans (b := .int .i64 ((((Sha.pc p) : Nat) : Int) + 1)) rfl (by congr 1; omega)), (Eq.trans (b := U64 ((BitVec.ofNat 64 p) + (1#64))) rfl (by exact congrArg U64 (BitVec.ofNat_add (n := 64) p 1).symm)), (r_b_14.congr (fun j hj => by first | (exfalso; omega) | exact Sha.rr_a _ _ _ _ _ _ _ _ (Sha.bg_no 8 384 p om) j | exact Sha.rr_b _ _ _ _ _ _ _ _ _ (Sha.bg_no 8 384 p om) j | exact Sha.rr_d _ _ _ _ _ _ _ _ _ _ _ om (Sha.bg_yes 8 384 p _ hpc om om (Sha.H_of_384 p om hip_ om om)) j)), (own_n (o_v20.congr (fun j hj => by first | (with_reducible rfl) | ((try dsimp only); by_cases e : j < min (Sha.pc p) 80 * 1; (rw [if_pos e]); (rw [if_neg e, show j = Sha.pc p from by omega]; exact congrArg U64 (Sha.K_of false p om hip_))))) om), no_v20_b_14, hk⟩
      ·skip
       refine wp_skip (then_n (wp_seq (sr (w_mv (ei s2_5) (w_mv (ei s2_4) (w_val (y_bin ei ei b_geq) (w_mv eb ?_)))))))
       by_cases hc32 : 8 ≤ (((Sha.pc p) : Nat) : Int)
       ·skip
        refine w_val_g (v := .int .i64 (((Sha.pc p) : Nat) : Int)) (wy rfl rfl (eb (dt hc32))) (y_mv (ei s2_5)) (w_val_g (v := .int .i64 8) (wy rfl rfl (eb (dt hc32))) (y_mv (ei s2_4)) (w_val_g (wy rfl rfl (eb (dt hc32))) (y_bin ei Ev.c (b_add om)) (w_val_g (wy rfl rfl (eb (dt hc32))) (y_bin ei ei b_lss) (w_val (y_pick_t (eb (dt hc32)) eb) (nt ?_)))))
        refine c_if (p := (((Sha.pc p) : Nat) : Int) < 16) eb (fun hc33 => ?_) (fun hc33 => ?_)
        ·skip
         refine region_t 11 ShaMT.mixed kr ?_
         simp only [List.take_succ_cons, List.take_zero, List.drop_succ_cons, List.drop_zero]
         refine q_mv (ex (pt b_14 0) s2_3) (q_mv (ei s2_5) (q_mv (ei s2_4) (q_val (fun w' hw' => y_bin ei ei (b_sub om)) (q_mv (ex (pt b_14 0) s2_3) (q_mv (e6 s2_6) (q_call (v := U64 (BitVec.ofNat 64 (Sha.rt p 2 69))) (Tryd.func56) kr rfl (m2 e6 Ev.c) (fun w' hw' => root_2 p om w') (q_call (v := U64 (Sha.cutw false (BitVec.ofNat 64 (Sha.rt p 2 69)))) (Tryd.func55) kr rfl (m2 (ex (pt b_14 0)) e6) (fun w' hw' => cut_f b_14 (BitVec.ofNat 64 (Sha.rt p 2 69)) 384 (by decide) w' (F := Sha.rrow (.int .i64 384) (.int .i64 48) (.int .i64 128) (.int .i64 80) (vj) (Sha.bg 8 384 p) (fun i => U64 (BitVec.ofNat 64 (Sha.trn false i)))) (r_b_14.step hw') rfl) (q_val (fun w' hw' => y_nc (ex (pt b_14 0))) (q_val (v := pt b_14 5) (fun w' hw' => y_off (y_fa (ex (pt b_14 0)) (ShaMT.fa90_5 _ _)) ro) (q_val (v := pt b_14 (5 + ((Sha.pc p) - 8))) (fun w' hw' => y_off (y_ia1 (i := ((Sha.pc p) - 8)) (ex (pt b_14 5)) ei Tryd.underlying88 ShaMT.sz58 om om) ro) (q_nil ?_)))))))))))
         intro w34 hb35
         replace o_vj := o_vj.step hb35
         replace r_b_14 := r_b_14.step hb35
         replace hk := thenB hk hb35
         refine w_st (v := U64 (Sha.cutw false (BitVec.ofNat 64 (Sha.rt p 2 69)))) (ex (pt b_14 (5 + ((Sha.pc p) - 8)))) e6 rfl rfl ShaMT.sz58 r_b_14 om ?_
         clear r_b_14; intro w36 r_b_14 hg37 _
         replace o_vj := o_vj.stepG hg37 no_vj_b_14
         replace hk := thenG hk hg37 om
         refine nt (wp_region_lit (w_mv (ei s2_5) (w_val (y_bin ei Ev.c (b_add om)) (w_as ei (wpList_nil (inb_n (then_n (wp_region_lit (w_mv (e6 s2_6) (w_val (y_bin e6 (evc (U64 (1#64))) add64) (w_as e6 (wpList_nil ?_))))))))))))
         have hip_ : Sha.ip p = true := by simpa using hc10
         have hpc := Sha.pc_yes p om hip_
         exact then_n ⟨_, om, p + 1, vj, rfl, _, rfl, iv, iv, s2_2, s2_3, s2_4, (Eq.trans (b := .int .i64 ((((Sha.pc p) : Nat) : Int) + 1)) rfl (by congr 1; omega)), (Eq.trans (b := U64 ((BitVec.ofNat 64 p) + (1#64))) rfl (by exact congrArg U64 (BitVec.ofNat_add (n := 64) p 1).symm)), (r_b_14.congr (fun j hj => by first | (exfalso; omega) | exact Sha.rr_a _ _ _ _ _ _ _ _ (Sha.bg_no 8 384 p om) j | exact Sha.rr_b _ _ _ _ _ _ _ _ _ (Sha.bg_no 8 384 p om) j | exact Sha.rr_d _ _ _ _ _ _ _ _ _ _ _ om (Sha.bg_yes 8 384 p _ hpc om om (Sha.H_of_384 p om hip_ om om)) j)), (own_n (o_vj.congr (fun j hj => by first | (with_reducible rfl) | ((try dsimp only); by_cases e : j < min (Sha.pc p) 80 * 1; (rw [if_pos e]); (rw [if_neg e, show j = Sha.pc p from by omega]; exact congrArg U64 (Sha.K_of false p om hip_))))) om), no_vj_b_14, hk⟩
        ·skip
         refine wp_skip (then_n (wp_region_lit (w_mv (ei s2_5) (w_val (y_bin ei Ev.c (b_add om)) (w_as ei (wpList_nil (inb_n (then_n (wp_region_lit (w_mv (e6 s2_6) (w_val (y_bin e6 (evc (U64 (1#64))) add64) (w_as e6 (wpList_nil ?_)))))))))))))
         have hip_ : Sha.ip p = true := by simpa using hc10
         have hpc := Sha.pc_yes p om hip_
         exact then_n ⟨_, om, p + 1, vj, rfl, _, rfl, iv, iv, s2_2, s2_3, s2_4, (Eq.trans (b := .int .i64 ((((Sha.pc p) : Nat) : Int) + 1)) rfl (by congr 1; omega)), (Eq.trans (b := U64 ((BitVec.ofNat 64 p) + (1#64))) rfl (by exact congrArg U64 (BitVec.ofNat_add (n := 64) p 1).symm)), (r_b_14.congr (fun j hj => by first | (exfalso; omega) | exact Sha.rr_a _ _ _ _ _ _ _ _ (Sha.bg_no 8 384 p om) j | exact Sha.rr_b _ _ _ _ _ _ _ _ _ (Sha.bg_no 8 384 p om) j | exact Sha.rr_d _ _ _ _ _ _ _ _ _ _ _ om (Sha.bg_yes 8 384 p _ hpc om om (Sha.H_of_384 p om hip_ om om)) j)), (own_n (o_vj.congr (fun j hj => by first | (with_reducible rfl) | ((try dsimp only); by_cases e : j < min (Sha.pc p) 80 * 1; (rw [if_pos e]); (rw [if_neg e, show j = Sha.pc p from by omega]; exact congrArg U64 (Sha.K_of false p om hip_))))) om), no_vj_b_14, hk⟩
       ·skip
        with_reducible refine w_skip ?_ ?_
        exact wn rfl rfl (eb (df hc32))
        with_reducible refine w_skip ?_ ?_
        exact wn rfl rfl (eb (df hc32))
        with_reducible refine w_skip ?_ ?_
        exact wn rfl rfl (eb (df hc32))
        with_reducible refine w_skip ?_ ?_
        exact wn rfl rfl (eb (df hc32))
        refine w_val (y_pick_f (eb (df hc32)) Ev.c) (nt (c_ff eb (wp_skip (then_n (wp_region_lit (w_mv (ei s2_5) (w_val (y_bin ei Ev.c (b_add om)) (w_as ei (wpList_nil (inb_n (then_n (wp_region_lit (w_mv (e6 s2_6) (w_val (y_bin e6 (evc (U64 (1#64))) add64) (w_as e6 (wpList_nil ?_))))))))))))))))
        have hip_ : Sha.ip p = true := by simpa using hc10
        have hpc := Sha.pc_yes p om hip_
        exact then_n ⟨_, om, p + 1, vj, rfl, _, rfl, iv, iv, s2_2, s2_3, s2_4, (Eq.trans (b := .int .i64 ((((Sha.pc p) : Nat) : Int) + 1)) rfl (by congr 1; omega)), (Eq.trans (b := U64 ((BitVec.ofNat 64 p) + (1#64))) rfl (by exact congrArg U64 (BitVec.ofNat_add (n := 64) p 1).symm)), (r_b_14.congr (fun j hj => by first | (exfalso; omega) | exact Sha.rr_a _ _ _ _ _ _ _ _ (Sha.bg_no 8 384 p om) j | exact Sha.rr_b _ _ _ _ _ _ _ _ _ (Sha.bg_no 8 384 p om) j | exact Sha.rr_d _ _ _ _ _ _ _ _ _ _ _ om (Sha.bg_yes 8 384 p _ hpc om om (Sha.H_of_384 p om hip_ om om)) j)), (own_n (o_vj.congr (fun j hj => by first | (with_reducible rfl) | ((try dsimp only); by_cases e : j < min (Sha.pc p) 80 * 1; (rw [if_pos e]); (rw [if_neg e, show j = Sha.pc p from by omega]; exact congrArg U64 (Sha.K_of false p om hip_))))) om), no_vj_b_14, hk⟩
  ·skip
   refine wp_exit (then_x (then_x (inb_x (then_n (sr (w_mv (ex (pt b_14 0) s1_3) (w_as (ex (pt b_14 0)) (nt (wp_ret (fin_ret1 rfl (ex (pt b_14 0)) ?_))))))))))
   obtain ⟨g38, cap38, hv38, ge_g38, hc_g38, hob_g38, r_g38⟩ := o_vk.opened om
   have ne_b_14_g38 : b_14 ≠ g38 := fun e => no_vk_b_14 (by rw [hob_g38, e])
   have hmn : min (Sha.pc p) 80 = 80 := by omega
   rw [hmn] at hv38 r_g38
   refine ⟨b_14, g38, cap38, rfl, ge_b_14, ge_g38, ne_b_14_g38, r_b_14.congr (fun j hj => ?_), r_g38, hk⟩
   rw [hv38]; exact Sha.rr_a _ _ _ _ _ _ _ _ (fun i hi => if_pos om) j

theorem make_512  (w0 : World) : Calls Tryd.prog 40 #[.int .i64 512] w0 fun e w' => ∃ rp g cap, e = .returned (.pointer (some ⟨rp, 0, none⟩)) ∧ w0.heap.size ≤ rp ∧ w0.heap.size ≤ g ∧ rp ≠ g ∧ Row w' rp 90 25 (Sha.rrow (.int .i64 512) (.int .i64 64) (.int .i64 128) (.int .i64 80) (.slice (some ⟨g, 0, none⟩) 80 cap) (Sha.H0 512) (fun i => U64 (BitVec.ofNat 64 (Sha.trn false i)))) ∧ Row w' g 58 (80 * 1) (fun j => U64 (Sha.K false j)) ∧ Below w0.heap.size w0 w' := by
 refine enter (n := 88) Tryd.func40 rfl rfl rfl ?_
 have hk : Below w0.heap.size w0 w0 := Below.refl _ _
 refine sr (w_as Ev.c (nt (sr (w_mv ei (w_mv ei (w_val (y_bin ei Ev.c (b_quo om)) (w_val (v := .agg (arr 12 (fun j => if j < 1 then U64 (1#64) else if j < 2 then U64 (8#64) else if j < 3 then U64 (7#64) else if j < 4 then U64 (19#64) else if j < 5 then U64 (61#64) else if j < 6 then U64 (6#64) else if j < 7 then U64 (28#64) else if j < 8 then U64 (34#64) else if j < 9 then U64 (39#64) else if j < 10 then U64 (14#64) else if j < 11 then U64 (18#64) else U64 (41#64)))) (y_build (vs := #[(0, U64 (1#64)), (1, U64 (8#64)), (2, U64 (7#64)), (3, U64 (19#64)), (4, U64 (61#64)), (5, U64 (6#64)), (6, U64 (28#64)), (7, U64 (34#64)), (8, U64 (39#64)), (9, U64 (14#64)), (10, U64 (18#64)), (11, U64 (41#64))]) (mp_cons (evc (U64 (1#64))) (mp_cons (evc (U64 (8#64))) (mp_cons (evc (U64 (7#64))) (mp_cons (evc (U64 (19#64))) (mp_cons (evc (U64 (61#64))) (mp_cons (evc (U64 (6#64))) (mp_cons (evc (U64 (28#64))) (mp_cons (evc (U64 (34#64))) (mp_cons (evc (U64 (39#64))) (mp_cons (evc (U64 (14#64))) (mp_cons (evc (U64 (18#64))) (mp_cons (evc (U64 (41#64))) mp0)))))))))))) (fun w => by kernel_rfl)) (w_val (v := .agg (arr 25 (fun j => if j < 1 then .int .i64 512 else if j < 2 then .int .i64 64 else if j < 3 then .int .i64 128 else if j < 4 then .int .i64 80 else if j < 5 then .slice none 0 0 else if j < 13 then U64 (0#64) else U64 (BitVec.ofNat 64 (Sha.trn false (j - 13)))))) (y_build (vs := #[(0, .int .i64 512), (1, .int .i64 64), (2, .int .i64 128), (3, .int .i64 80), (6, .agg (arr 12 (fun j => if j < 1 then U64 (1#64) else if j < 2 then U64 (8#64) else if j < 3 then U64 (7#64) else if j < 4 then U64 (19#64) else if j < 5 then U64 (61#64) else if j < 6 then U64 (6#64) else if j < 7 then U64 (28#64) else if j < 8 then U64 (34#64) else if j < 9 then U64 (39#64) else if j < 10 then U64 (14#64) else if j < 11 then U64 (18#64) else U64 (41#64))))]) (mp_cons ei (mp_cons ei (mp_cons Ev.c (mp_cons Ev.c (mp_cons ea mp0))))) (fun w => by kernel_rfl)) (w_box (m := 25) (F := fun j => if j < 1 then .int .i64 512 else if j < 2 then .int .i64 64 else if j < 3 then .int .i64 128 else if j < 4 then .int .i64 80 else if j < 5 then .slice none 0 0 else if j < 13 then U64 (0#64) else U64 (BitVec.ofNat 64 (Sha.trn false (j - 13)))) ea rfl ?_)))))))))
 intro b_14 w1 hbe_b_14 r_b_14 hb2
 have ge_b_14 := gb_ hk.size hbe_b_14
 clear hbe_b_14
 replace hk := thenB hk hb2
 refine w_as (ex (pt b_14 0)) (nt (sr (w_as Ev.c (nt (wp_seq (sr (w_mv ei (w_val (y_bin ei Ev.c b_eql) (nt (c_ff eb (wp_skip (then_n (wp_seq (sr (w_mv ei (w_val (y_bin ei Ev.c b_eql) (nt (c_ff eb (wp_skip (then_n (wp_seq ?_)))))))))))))))))))))
 replace r_b_14 := r_b_14.congr (g := Sha.rrow (.int .i64 512) (.int .i64 64) (.int .i64 128) (.int .i64 80) (.slice none 0 0) (fun _ => 0#64) (fun i => U64 (BitVec.ofNat 64 (Sha.trn false i)))) (fun j hj => by rcases (by omega : j = 0 ∨ j = 1 ∨ j = 2 ∨ j = 3 ∨ j = 4 ∨ j = 5 ∨ j = 6 ∨ j = 7 ∨ j = 8 ∨ j = 9 ∨ j = 10 ∨ j = 11 ∨ j = 12 ∨ j = 13 ∨ j = 14 ∨ j = 15 ∨ j = 16 ∨ j = 17 ∨ j = 18 ∨ j = 19 ∨ j = 20 ∨ j = 21 ∨ j = 22 ∨ j = 23 ∨ j = 24) with h | h | h | h | h | h | h | h | h | h | h | h | h | h | h | h | h | h | h | h | h | h | h | h | h <;> (subst h; rfl))
 refine wp_region_lit (w_as Ev.c (nt (wp_seq (sr (w_as (evc (U64 (2#64))) (nt (wp_block ?_)))))))
 refine c_loop (fun dN aN wl => ∃ (p : Nat) (vk : Value), dN = (410 - p) ∧ ∃ f3, aN = fr 88 f3 ∧ (2 ≤ p) ∧ (p ≤ 410) ∧ f3 2 = .pointer none ∧ f3 3 = pt b_14 0 ∧ f3 4 = .int .i64 0 ∧ f3 5 = .int .i64 (((Sha.pc p) : Nat) : Int) ∧ f3 6 = U64 (BitVec.ofNat 64 p) ∧ Row wl b_14 90 25 (Sha.rrow (.int .i64 512) (.int .i64 64) (.int .i64 128) (.int .i64 80) (vk) (Sha.bg 0 512 p) (fun i => U64 (BitVec.ofNat 64 (Sha.trn false i)))) ∧ Own wl w0.heap.size 58 1 vk (min (Sha.pc p) 80) (fun j => U64 (Sha.K false j)) ∧ vk.ownBlock ≠ some b_14 ∧ Below w0.heap.size w0 wl) (410 - 2) ?_ ?_
 · exact ⟨2, (.slice none 0 0), rfl, _, rfl, iv, iv, rfl, rfl, rfl, (Eq.trans (b := .int .i64 0) rfl (by rfl)), (Eq.trans (b := U64 (2#64)) rfl (by rfl)), (r_b_14.congr (fun j hj => by rcases (by omega : j = 0 ∨ j = 1 ∨ j = 2 ∨ j = 3 ∨ j = 4 ∨ j = 5 ∨ j = 6 ∨ j = 7 ∨ j = 8 ∨ j = 9 ∨ j = 10 ∨ j = 11 ∨ j = 12 ∨ j = 13 ∨ j = 14 ∨ j = 15 ∨ j = 16 ∨ j = 17 ∨ j = 18 ∨ j = 19 ∨ j = 20 ∨ j = 21 ∨ j = 22 ∨ j = 23 ∨ j = 24) with h | h | h | h | h | h | h | h | h | h | h | h | h | h | h | h | h | h | h | h | h | h | h | h | h <;> (subst h; rfl))), Own.nil, (fun e => by cases e), hk⟩
 ·skip
  clear r_b_14 hk
  rintro _ _ w4 ⟨p, vk, rfl, f3, rfl, i1_0, i1_1, s1_2, s1_3, s1_4, s1_5, s1_6, r_b_14, o_vk, no_vk_b_14, hk⟩
  have hp9 := Sha.pc_lt p i1_1
  have hpw : (BitVec.ofNat 64 p).toNat = p := by rw [BitVec.toNat_ofNat]; omega
  refine wp_seq (sr (w_mv (ei s1_5) (w_val (y_bin ei Ev.c b_lss) (nt ?_))))
  refine c_if (p := (((Sha.pc p) : Nat) : Int) < 80) eb (fun hc5 => ?_) (fun hc5 => ?_)
  ·skip
   refine wp_skip (then_n (wp_seq (wp_block (sr (w_as Ev.c (nt (wp_seq (sr (w_as (evc (U64 (2#64))) (nt (wp_block ?_)))))))))))
   refine c_loop (fun dN aN wl => ∃ (q : Nat) (vj : Value), dN = (22 - q) ∧ ∃ f6, aN = fr 88 f6 ∧ (2 ≤ q) ∧ (q ≤ 21) ∧ (q = 2 ∨ (q - 1) * (q - 1) ≤ p) ∧ f6 2 = .pointer none ∧ f6 3 = pt b_14 0 ∧ f6 4 = .int .i64 0 ∧ f6 5 = .int .i64 (((Sha.pc p) : Nat) : Int) ∧ f6 6 = U64 (BitVec.ofNat 64 p) ∧ f6 7 = .bool (Sha.np p q) ∧ f6 8 = U64 (BitVec.ofNat 64 q) ∧ Row wl b_14 90 25 (Sha.rrow (.int .i64 512) (.int .i64 64) (.int .i64 128) (.int .i64 80) (vj) (Sha.bg 0 512 p) (fun i => U64 (BitVec.ofNat 64 (Sha.trn false i)))) ∧ Own wl w0.heap.size 58 1 vj (min (Sha.pc p) 80) (fun j => U64 (Sha.K false j)) ∧ vj.ownBlock ≠ some b_14 ∧ Below w0.heap.size w0 wl) (22 - 2) ?_ ?_
   · exact ⟨2, vk, rfl, _, rfl, iv, (by decide), (by exact Or.inl rfl), s1_2, s1_3, s1_4, s1_5, s1_6, (Eq.trans (b := .bool true) rfl (by exact congrArg Value.bool (Sha.np_two p).symm)), (Eq.trans (b := U64 (2#64)) rfl (by rfl)), (r_b_14.congr (fun j hj => by rfl)), o_vk, no_vk_b_14, hk⟩
   ·skip
    clear r_b_14 o_vk hk
    rintro _ _ w7 ⟨q, vj, rfl, f6, rfl, i2_0, i2_1, i2_2, s2_2, s2_3, s2_4, s2_5, s2_6, s2_7, s2_8, r_b_14, o_vj, no_vj_b_14, hk⟩
    refine wp_seq (sr (w_mv (e6 s2_8) (w_mv (e6 s2_8) (w_val (y_bin e6 e6 mul64) (w_mv (e6 s2_6) (w_val (y_bin e6 e6 leq64) (nt ?_)))))))
    refine c_if (p := ((BitVec.ofNat 64 q) * (BitVec.ofNat 64 q)).toNat ≤ (BitVec.ofNat 64 p).toNat) eb (fun hc8 => ?_) (fun hc8 => ?_)
    ·skip
     refine wp_skip (then_n (wp_seq (wp_block (sr (w_mv (e6 s2_6) (w_mv (e6 s2_8) (w_val (y_bin e6 e6 (rem64 (by exact Sha.ofNat_ne q om om))) (w_val (y_bin e6 (evc (U64 (0#64))) eql64) (nt ?_)))))))))
     refine c_if (p := ((BitVec.ofNat 64 p) % (BitVec.ofNat 64 q)) = (0#64)) eb (fun hc9 => ?_) (fun hc9 => ?_)
     ·skip
      refine wp_region_lit (w_as Ev.c (wpList_nil (inb_n (then_n (wp_region_lit (w_mv (e6 s2_8) (w_val (y_bin e6 (evc (U64 (1#64))) add64) (w_as e6 (wpList_nil ?_)))))))))
      exact then_n ⟨_, om, q + 1, vj, rfl, _, rfl, iv, (by have := Sha.sq_le q p om (by rw [Sha.sq_word q om, hpw] at *; omega); omega), (by refine Or.inr ?_; rw [show q + 1 - 1 = q from by omega]; rw [Sha.sq_word q om, hpw] at *; omega), s2_2, s2_3, s2_4, s2_5, s2_6, (Eq.trans (b := .bool false) rfl (by first | exact congrArg Value.bool (Sha.np_div p q om om om (by assumption)).symm | exact congrArg Value.bool (Sha.np_no p q om om om (by assumption)).symm)), (Eq.trans (b := U64 ((BitVec.ofNat 64 q) + (1#64))) rfl (by exact congrArg U64 (BitVec.ofNat_add (n := 64) q 1).symm)), r_b_14, o_vj, no_vj_b_14, hk⟩
     ·skip
      refine wp_skip (inb_n (then_n (wp_region_lit (w_mv (e6 s2_8) (w_val (y_bin e6 (evc (U64 (1#64))) add64) (w_as e6 (wpList_nil ?_)))))))
      exact then_n ⟨_, om, q + 1, vj, rfl, _, rfl, iv, (by have := Sha.sq_le q p om (by rw [Sha.sq_word q om, hpw] at *; omega); omega), (by refine Or.inr ?_; rw [show q + 1 - 1 = q from by omega]; rw [Sha.sq_word q om, hpw] at *; omega), s2_2, s2_3, s2_4, s2_5, s2_6, (by refine Eq.trans (b := .bool (Sha.np p q)) ?_ ?_; exact s2_7; (first | exact congrArg Value.bool (Sha.np_div p q om om om (by assumption)).symm | exact congrArg Value.bool (Sha.np_no p q om om om (by assumption)).symm)), (Eq.trans (b := U64 ((BitVec.ofNat 64 q) + (1#64))) rfl (by exact congrArg U64 (BitVec.ofNat_add (n := 64) q 1).symm)), r_b_14, o_vj, no_vj_b_14, hk⟩
    ·skip
     refine wp_exit (then_x (then_x (inb_x (then_n (wp_seq (sr ?_))))))
     refine w_mv (ex (.bool (Sha.ip p)) (by refine Eq.trans (b := .bool (Sha.np p q)) ?_ ?_; exact s2_7; (exact congrArg Value.bool (Sha.np_done p q om om om om i2_2 (by rw [Sha.sq_word q om, hpw] at *; omega))))) ?_
     refine w_val (y_not eb) (nt ?_)
     refine c_ifb eb (fun hc10 => ?_) (fun hc10 => ?_)
     ·skip
      refine wp_exit (then_x (inb_x (then_n (wp_region_lit (w_mv (e6 s2_6) (w_val (y_bin e6 (evc (U64 (1#64))) add64) (w_as e6 (wpList_nil ?_))))))))
      have hpc := Sha.pc_no p om (by simpa using hc10)
      exact then_n ⟨_, om, p + 1, vj, rfl, _, rfl, iv, iv, s2_2, s2_3, s2_4, (by refine Eq.trans (b := .int .i64 (((Sha.pc p) : Nat) : Int)) ?_ ?_; exact s2_5; (congr 1; omega)), (Eq.trans (b := U64 ((BitVec.ofNat 64 p) + (1#64))) rfl (by exact congrArg U64 (BitVec.ofNat_add (n := 64) p 1).symm)), (r_b_14.congr (fun j hj => by first | (exfalso; omega) | exact Sha.rr_a _ _ _ _ _ _ _ _ (Sha.bg_no 0 512 p om) j | exact Sha.rr_b _ _ _ _ _ _ _ _ _ (Sha.bg_no 0 512 p om) j | exact Sha.rr_d _ _ _ _ _ _ _ _ _ _ _ om (Sha.bg_yes 0 512 p _ hpc om om (Sha.H_of_512 p om hip_ om)) j)), (own_n (o_vj.congr (fun j hj => by first | (with_reducible rfl) | ((try dsimp only); by_cases e : j < min (Sha.pc p) 80 * 1; (rw [if_pos e]); (rw [if_neg e, show j = Sha.pc p from by omega]; exact congrArg U64 (Sha.K_of false p om hip_))))) om), no_vj_b_14, hk⟩
     ·skip
      refine wp_skip (then_n (wp_seq (sr (w_mv (ei s2_5) (w_mv (ex (pt b_14 0) s2_3) (w_val (y_nc (ex (pt b_14 0))) (w_val (v := pt b_14 3) (y_off (y_fa (ex (pt b_14 0)) (ShaMT.fa90_3 _ _)) ro) (w_val (v := .int .i64 80) (y_ld (ex (pt b_14 3)) ShaMT.sc3 (r_b_14.val om (ng (ng (ng pz))))) (w_val (y_bin ei ei b_lss) (nt ?_))))))))))
      refine c_if (p := (((Sha.pc p) : Nat) : Int) < 80) eb (fun hc11 => ?_) (fun hc11 => ?_)
      ·skip
       refine region_dc (Nat.testBit 15360) 14 ShaMT.mixed rfl ?_
       intro w12 hb13
       replace o_vj := o_vj.step hb13
       replace r_b_14 := r_b_14.step hb13
       replace hk := thenB hk hb13
       have hS : Cls w12 w12 := Below.refl _ _
       refine dp 0 rfl (fun w' => y_mv (ex (pt b_14 0) s2_3)) (dp 1 rfl (fun w' => y_mv (ex (pt b_14 0) s2_3)) (dp (v := pt b_14 0) 2 rfl (fun w' => y_nc (ex (pt b_14 0))) (dp (v := pt b_14 4) 3 rfl (fun w' => y_off (y_fa (ex (pt b_14 0)) (ShaMT.fa90_4 _ _)) ro) (d_take (v := vj) 4 (Nat.testBit 15376) rfl kr kr kr kr kr kr (fun _ _ _ h => h) hS (fun w' hw' => y_ld (ex (pt b_14 4)) ShaMT.sc87 (cls_cell (r_b_14.val om (ng (ng (ng (ng pz))))) r_b_14.lt w' hw')) (dp 5 rfl (fun w' => y_mv (ex (pt b_14 0) s2_3)) (dp 6 rfl (fun w' => y_mv (e6 s2_6)) (d_one 7 kr rfl (w_call (Tryd.func56) kr rfl (m2 e6 Ev.c) (root_3 p om w12) ?_))))))))
       rintro _ w14 ⟨rfl, hb15⟩
       refine ⟨_, rfl, ?_⟩
       replace o_vj := o_vj.step hb15
       replace r_b_14 := r_b_14.step hb15
       replace hk := thenB hk hb15
       replace hS := thenB hS hb15
       refine wpList_nil ?_
       refine then_n ⟨fun _ h => thenB h (by assumption), ?_⟩
       refine d_one 8 kr rfl (w_call (Tryd.func55) kr rfl (m2 (ex (pt b_14 0)) e6) (cut_f b_14 (BitVec.ofNat 64 (Sha.rt p 3 69)) 512 (by decide) w14 (F := Sha.rrow (.int .i64 512) (.int .i64 64) (.int .i64 128) (.int .i64 80) (vj) (Sha.bg 0 512 p) (fun i => U64 (BitVec.ofNat 64 (Sha.trn false i)))) r_b_14 rfl) ?_)
       rintro _ w16 ⟨rfl, hb17⟩
       refine ⟨_, rfl, ?_⟩
       replace o_vj := o_vj.step hb17
       replace r_b_14 := r_b_14.step hb17
       replace hk := thenB hk hb17
       replace hS := thenB hS hb17
       refine wpList_nil ?_
       refine then_n ⟨fun _ h => thenB h (by assumption), ?_⟩
       refine d_one 9 kr rfl (w_bs1 (m := 1) (e := 58) (F := fun j => U64 (Sha.cutw false (BitVec.ofNat 64 (Sha.rt p 3 69)))) e6 (fun w => by kernel_rfl) ?_)
       intro b_61 w18 hbe_b_61 r_b_61 hb19
       have ne_b_14_b_61 := r_b_14.nb hbe_b_61
       have no_vj_b_61 : vj.ownBlock ≠ some b_61 := o_vj.apart om
       have ge_b_61 := gb_ hk.size hbe_b_61
       clear hbe_b_61
       replace o_vj := o_vj.step hb19
       replace r_b_14 := r_b_14.step hb19
       replace hk := thenB hk hb19
       replace hS := thenB hS hb19
       refine wpList_nil ?_
       refine then_n ⟨fun _ h => thenB h (by assumption), ?_⟩
       refine d_one 10 kr rfl (w_app (k := (min (Sha.pc p) 80)) (m := 1) (size := 1) (bytes := 8) (ex vj) el Tryd.underlying87 kr (by decide) o_vj hk.size r_b_61 om oca (by simp only [maxLen]; omega) om ?_)
       intro v20 w21 o_v20 hg22 hv23
       have no_v20_b_14 := no_new no_vj_b_14 r_b_14.lt hv23
       replace r_b_14 := r_b_14.stepO hg22 no_vj_b_14
       have no_v20_b_61 := no_new no_vj_b_61 r_b_61.lt hv23
       replace r_b_61 := r_b_61.stepO hg22 no_vj_b_61
       replace hk := thenO hk hg22 (fun g e => (o_vj.block_lt g e).2)
       clear o_vj
       clear hS
       refine wpList_nil ?_
       refine then_n ⟨fun hD => absurd hD (by decide), ?_⟩
       refine d_one 11 kr rfl (w_val (y_nc (ex (pt b_14 0))) (wpList_nil ?_))
       refine then_n ⟨fun hD => absurd hD (by decide), ?_⟩
       refine d_one 12 kr rfl (w_val (v := pt b_14 4) (y_off (y_fa (ex (pt b_14 0)) (ShaMT.fa90_4 _ _)) ro) (wpList_nil ?_))
       refine then_n ⟨fun hD => absurd hD (by decide), ?_⟩
       refine d_one 13 kr rfl (w_st (v := v20) (ex (pt b_14 4)) (ex v20) (o_v20.one) (o_v20.cells) ShaMT.sz87 r_b_14 om ?_)
       clear r_b_14; intro w24 r_b_14 hg25 _
       replace o_v20 := o_v20.stepG hg25 no_v20_b_14
       replace r_b_61 := r_b_61.stepG hg25 om
       replace hk := thenG hk hg25 om
       refine wpList_nil ?_
       refine then_n ⟨fun hD => absurd hD (by decide), ?_⟩
       refine d_done kr (then_n (wp_seq (sr (w_mv (ei s2_5) (w_mv (ei s2_4) (w_val (y_bin ei ei b_geq) (w_mv eb ?_)))))))
       by_cases hc26 : 0 ≤ (((Sha.pc p) : Nat) : Int)
       ·skip
        refine w_val_g (v := .int .i64 (((Sha.pc p) : Nat) : Int)) (wy rfl rfl (eb (dt hc26))) (y_mv (ei s2_5)) (w_val_g (v := .int .i64 0) (wy rfl rfl (eb (dt hc26))) (y_mv (ei s2_4)) (w_val_g (wy rfl rfl (eb (dt hc26))) (y_bin ei Ev.c (b_add om)) (w_val_g (wy rfl rfl (eb (dt hc26))) (y_bin ei ei b_lss) (w_val (y_pick_t (eb (dt hc26)) eb) (nt ?_)))))
        refine c_if (p := (((Sha.pc p) : Nat) : Int) < 8) eb (fun hc27 => ?_) (fun hc27 => ?_)
        ·skip
         refine region_t 11 ShaMT.mixed kr ?_
         simp only [List.take_succ_cons, List.take_zero, List.drop_succ_cons, List.drop_zero]
         refine q_mv (ex (pt b_14 0) s2_3) (q_mv (ei s2_5) (q_mv (ei s2_4) (q_val (fun w' hw' => y_bin ei ei (b_sub om)) (q_mv (ex (pt b_14 0) s2_3) (q_mv (e6 s2_6) (q_call (v := U64 (BitVec.ofNat 64 (Sha.rt p 2 69))) (Tryd.func56) kr rfl (m2 e6 Ev.c) (fun w' hw' => root_2 p om w') (q_call (v := U64 (Sha.cutw false (BitVec.ofNat 64 (Sha.rt p 2 69)))) (Tryd.func55) kr rfl (m2 (ex (pt b_14 0)) e6) (fun w' hw' => cut_f b_14 (BitVec.ofNat 64 (Sha.rt p 2 69)) 512 (by decide) w' (F := fun j => if j = 4 then v20 else (Sha.rrow (.int .i64 512) (.int .i64 64) (.int .i64 128) (.int .i64 80) (vj) (Sha.bg 0 512 p) (fun i => U64 (BitVec.ofNat 64 (Sha.trn false i)))) j) (r_b_14.step hw') rfl) (q_val (fun w' hw' => y_nc (ex (pt b_14 0))) (q_val (v := pt b_14 5) (fun w' hw' => y_off (y_fa (ex (pt b_14 0)) (ShaMT.fa90_5 _ _)) ro) (q_val (v := pt b_14 (5 + ((Sha.pc p) - 0))) (fun w' hw' => y_off (y_ia1 (i := ((Sha.pc p) - 0)) (ex (pt b_14 5)) ei Tryd.underlying88 ShaMT.sz58 om om) ro) (q_nil ?_)))))))))))
         intro w28 hb29
         replace o_v20 := o_v20.step hb29
         replace r_b_14 := r_b_14.step hb29
         replace r_b_61 := r_b_61.step hb29
         replace hk := thenB hk hb29
         refine w_st (v := U64 (Sha.cutw false (BitVec.ofNat 64 (Sha.rt p 2 69)))) (ex (pt b_14 (5 + ((Sha.pc p) - 0)))) e6 rfl rfl ShaMT.sz58 r_b_14 om ?_
         clear r_b_14; intro w30 r_b_14 hg31 _
         replace o_v20 := o_v20.stepG hg31 no_v20_b_14
         replace r_b_61 := r_b_61.stepG hg31 om
         replace hk := thenG hk hg31 om
         refine nt (wp_region_lit (w_mv (ei s2_5) (w_val (y_bin ei Ev.c (b_add om)) (w_as ei (wpList_nil (inb_n (then_n (wp_region_lit (w_mv (e6 s2_6) (w_val (y_bin e6 (evc (U64 (1#64))) add64) (w_as e6 (wpList_nil ?_))))))))))))
         have hip_ : Sha.ip p = true := by simpa using hc10
         have hpc := Sha.pc_yes p om hip_
         exact then_n ⟨_, om, p + 1, v20, rfl, _, rfl, iv, iv, s2_2, s2_3, s2_4, (Eq.trans (b := .int .i64 ((((Sha.pc p) : Nat) : Int) + 1)) rfl (by congr 1; omega)), (Eq.trans (b := U64 ((BitVec.ofNat 64 p) + (1#64))) rfl (by exact congrArg U64 (BitVec.ofNat_add (n := 64) p 1).symm)), (r_b_14.congr (fun j hj => by first | (exfalso; omega) | exact Sha.rr_a _ _ _ _ _ _ _ _ (Sha.bg_no 0 512 p om) j | exact Sha.rr_b _ _ _ _ _ _ _ _ _ (Sha.bg_no 0 512 p om) j | exact Sha.rr_d _ _ _ _ _ _ _ _ _ _ _ om (Sha.bg_yes 0 512 p _ hpc om om (Sha.H_of_512 p om hip_ om)) j)), (own_n (o_v20.congr (fun j hj => by first | (with_reducible rfl) | ((try dsimp only); by_cases e : j < min (Sha.pc p) 80 * 1; (rw [if_pos e]); (rw [if_neg e, show j = Sha.pc p from by omega]; exact congrArg U64 (Sha.K_of false p om hip_))))) om), no_v20_b_14, hk⟩
        ·skip
         refine wp_skip (then_n (wp_region_lit (w_mv (ei s2_5) (w_val (y_bin ei Ev.c (b_add om)) (w_as ei (wpList_nil (inb_n (then_n (wp_region_lit (w_mv (e6 s2_6) (w_val (y_bin e6 (evc (U64 (1#64))) add64) (w_as e6 (wpList_nil ?_)))))))))))))
         have hip_ : Sha.ip p = true := by simpa using hc10
         have hpc := Sha.pc_yes p om hip_
         exact then_n ⟨_, om, p + 1, v20, rfl, _, rfl, iv, iv, s2_2, s2_3, s2_4, (Eq.trans (b := .int .i64 ((((Sha.pc p) : Nat) : Int) + 1)) rfl (by congr 1; omega)), (Eq.trans (b := U64 ((BitVec.ofNat 64 p) + (1#64))) rfl (by exact congrArg U64 (BitVec.ofNat_add (n := 64) p 1).symm)), (r_b_14.congr (fun j hj => by first | (exfalso; omega) | exact Sha.rr_a _ _ _ _ _ _ _ _ (Sha.bg_no 0 512 p om) j | exact Sha.rr_b _ _ _ _ _ _ _ _ _ (Sha.bg_no 0 512 p om) j | exact Sha.rr_d _ _ _ _ _ _ _ _ _ _ _ om (Sha.bg_yes 0 512 p _ hpc om om (Sha.H_of_512 p om hip_ om)) j)), (own_n (o_v20.congr (fun j hj => by first | (with_reducible rfl) | ((try dsimp only); by_cases e : j < min (Sha.pc p) 80 * 1; (rw [if_pos e]); (rw [if_neg e, show j = Sha.pc p from by omega]; exact congrArg U64 (Sha.K_of false p om hip_))))) om), no_v20_b_14, hk⟩
       ·skip
        with_reducible refine w_skip ?_ ?_
        exact wn rfl rfl (eb (df hc26))
        with_reducible refine w_skip ?_ ?_
        exact wn rfl rfl (eb (df hc26))
        with_reducible refine w_skip ?_ ?_
        exact wn rfl rfl (eb (df hc26))
        with_reducible refine w_skip ?_ ?_
        exact wn rfl rfl (eb (df hc26))
        refine w_val (y_pick_f (eb (df hc26)) Ev.c) (nt (c_ff eb (wp_skip (then_n (wp_region_lit (w_mv (ei s2_5) (w_val (y_bin ei Ev.c (b_add om)) (w_as ei (wpList_nil (inb_n (then_n (wp_region_lit (w_mv (e6 s2_6) (w_val (y_bin e6 (evc (U64 (1#64))) add64) (w_as e6 (wpList_nil ?_))))))))))))))))
        have hip_ : Sha.ip p = true := by simpa using hc10
        have hpc := Sha.pc_yes p om hip_
        exact then_n ⟨_, om, p + 1, v20, rfl, _, rfl, iv, iv, s2_2, s2_3, s2_4, (Eq.trans (b := .int .i64 ((((Sha.pc p) : Nat) : Int) + 1)) rfl (by congr 1; omega)), (Eq.trans (b := U64 ((BitVec.ofNat 64 p) + (1#64))) rfl (by exact congrArg U64 (BitVec.ofNat_add (n := 64) p 1).symm)), (r_b_14.congr (fun j hj => by first | (exfalso; omega) | exact Sha.rr_a _ _ _ _ _ _ _ _ (Sha.bg_no 0 512 p om) j | exact Sha.rr_b _ _ _ _ _ _ _ _ _ (Sha.bg_no 0 512 p om) j | exact Sha.rr_d _ _ _ _ _ _ _ _ _ _ _ om (Sha.bg_yes 0 512 p _ hpc om om (Sha.H_of_512 p om hip_ om)) j)), (own_n (o_v20.congr (fun j hj => by first | (with_reducible rfl) | ((try dsimp only); by_cases e : j < min (Sha.pc p) 80 * 1; (rw [if_pos e]); (rw [if_neg e, show j = Sha.pc p from by omega]; exact congrArg U64 (Sha.K_of false p om hip_))))) om), no_v20_b_14, hk⟩
      ·skip
       refine wp_skip (then_n (wp_seq (sr (w_mv (ei s2_5) (w_mv (ei s2_4) (w_val (y_bin ei ei b_geq) (w_mv eb ?_)))))))
       by_cases hc32 : 0 ≤ (((Sha.pc p) : Nat) : Int)
       ·skip
        refine w_val_g (v := .int .i64 (((Sha.pc p) : Nat) : Int)) (wy rfl rfl (eb (dt hc32))) (y_mv (ei s2_5)) (w_val_g (v := .int .i64 0) (wy rfl rfl (eb (dt hc32))) (y_mv (ei s2_4)) (w_val_g (wy rfl rfl (eb (dt hc32))) (y_bin ei Ev.c (b_add om)) (w_val_g (wy rfl rfl (eb (dt hc32))) (y_bin ei ei b_lss) (w_val (y_pick_t (eb (dt hc32)) eb) (nt ?_)))))
        refine c_if (p := (((Sha.pc p) : Nat) : Int) < 8) eb (fun hc33 => ?_) (fun hc33 => ?_)
        ·skip
         refine region_t 11 ShaMT.mixed kr ?_
         simp only [List.take_succ_cons, List.take_zero, List.drop_succ_cons, List.drop_zero]
         refine q_mv (ex (pt b_14 0) s2_3) (q_mv (ei s2_5) (q_mv (ei s2_4) (q_val (fun w' hw' => y_bin ei ei (b_sub om)) (q_mv (ex (pt b_14 0) s2_3) (q_mv (e6 s2_6) (q_call (v := U64 (BitVec.ofNat 64 (Sha.rt p 2 69))) (Tryd.func56) kr rfl (m2 e6 Ev.c) (fun w' hw' => root_2 p om w') (q_call (v := U64 (Sha.cutw false (BitVec.ofNat 64 (Sha.rt p 2 69)))) (Tryd.func55) kr rfl (m2 (ex (pt b_14 0)) e6) (fun w' hw' => cut_f b_14 (BitVec.ofNat 64 (Sha.rt p 2 69)) 512 (by decide) w' (F := Sha.rrow (.int .i64 512) (.int .i64 64) (.int .i64 128) (.int .i64 80) (vj) (Sha.bg 0 512 p) (fun i => U64 (BitVec.ofNat 64 (Sha.trn false i)))) (r_b_14.step hw') rfl) (q_val (fun w' hw' => y_nc (ex (pt b_14 0))) (q_val (v := pt b_14 5) (fun w' hw' => y_off (y_fa (ex (pt b_14 0)) (ShaMT.fa90_5 _ _)) ro) (q_val (v := pt b_14 (5 + ((Sha.pc p) - 0))) (fun w' hw' => y_off (y_ia1 (i := ((Sha.pc p) - 0)) (ex (pt b_14 5)) ei Tryd.underlying88 ShaMT.sz58 om om) ro) (q_nil ?_)))))))))))
         intro w34 hb35
         replace o_vj := o_vj.step hb35
         replace r_b_14 := r_b_14.step hb35
         replace hk := thenB hk hb35
         refine w_st (v := U64 (Sha.cutw false (BitVec.ofNat 64 (Sha.rt p 2 69)))) (ex (pt b_14 (5 + ((Sha.pc p) - 0)))) e6 rfl rfl ShaMT.sz58 r_b_14 om ?_
         clear r_b_14; intro w36 r_b_14 hg37 _
         replace o_vj := o_vj.stepG hg37 no_vj_b_14
         replace hk := thenG hk hg37 om
         refine nt (wp_region_lit (w_mv (ei s2_5) (w_val (y_bin ei Ev.c (b_add om)) (w_as ei (wpList_nil (inb_n (then_n (wp_region_lit (w_mv (e6 s2_6) (w_val (y_bin e6 (evc (U64 (1#64))) add64) (w_as e6 (wpList_nil ?_))))))))))))
         have hip_ : Sha.ip p = true := by simpa using hc10
         have hpc := Sha.pc_yes p om hip_
         exact then_n ⟨_, om, p + 1, vj, rfl, _, rfl, iv, iv, s2_2, s2_3, s2_4, (Eq.trans (b := .int .i64 ((((Sha.pc p) : Nat) : Int) + 1)) rfl (by congr 1; omega)), (Eq.trans (b := U64 ((BitVec.ofNat 64 p) + (1#64))) rfl (by exact congrArg U64 (BitVec.ofNat_add (n := 64) p 1).symm)), (r_b_14.congr (fun j hj => by first | (exfalso; omega) | exact Sha.rr_a _ _ _ _ _ _ _ _ (Sha.bg_no 0 512 p om) j | exact Sha.rr_b _ _ _ _ _ _ _ _ _ (Sha.bg_no 0 512 p om) j | exact Sha.rr_d _ _ _ _ _ _ _ _ _ _ _ om (Sha.bg_yes 0 512 p _ hpc om om (Sha.H_of_512 p om hip_ om)) j)), (own_n (o_vj.congr (fun j hj => by first | (with_reducible rfl) | ((try dsimp only); by_cases e : j < min (Sha.pc p) 80 * 1; (rw [if_pos e]); (rw [if_neg e, show j = Sha.pc p from by omega]; exact congrArg U64 (Sha.K_of false p om hip_))))) om), no_vj_b_14, hk⟩
        ·skip
         refine wp_skip (then_n (wp_region_lit (w_mv (ei s2_5) (w_val (y_bin ei Ev.c (b_add om)) (w_as ei (wpList_nil (inb_n (then_n (wp_region_lit (w_mv (e6 s2_6) (w_val (y_bin e6 (evc (U64 (1#64))) add64) (w_as e6 (wpList_nil ?_)))))))))))))
         have hip_ : Sha.ip p = true := by simpa using hc10
         have hpc := Sha.pc_yes p om hip_
         exact then_n ⟨_, om, p + 1, vj, rfl, _, rfl, iv, iv, s2_2, s2_3, s2_4, (Eq.trans (b := .int .i64 ((((Sha.pc p) : Nat) : Int) + 1)) rfl (by congr 1; omega)), (Eq.trans (b := U64 ((BitVec.ofNat 64 p) + (1#64))) rfl (by exact congrArg U64 (BitVec.ofNat_add (n := 64) p 1).symm)), (r_b_14.congr (fun j hj => by first | (exfalso; omega) | exact Sha.rr_a _ _ _ _ _ _ _ _ (Sha.bg_no 0 512 p om) j | exact Sha.rr_b _ _ _ _ _ _ _ _ _ (Sha.bg_no 0 512 p om) j | exact Sha.rr_d _ _ _ _ _ _ _ _ _ _ _ om (Sha.bg_yes 0 512 p _ hpc om om (Sha.H_of_512 p om hip_ om)) j)), (own_n (o_vj.congr (fun j hj => by first | (with_reducible rfl) | ((try dsimp only); by_cases e : j < min (Sha.pc p) 80 * 1; (rw [if_pos e]); (rw [if_neg e, show j = Sha.pc p from by omega]; exact congrArg U64 (Sha.K_of false p om hip_))))) om), no_vj_b_14, hk⟩
       ·skip
        with_reducible refine w_skip ?_ ?_
        exact wn rfl rfl (eb (df hc32))
        with_reducible refine w_skip ?_ ?_
        exact wn rfl rfl (eb (df hc32))
        with_reducible refine w_skip ?_ ?_
        exact wn rfl rfl (eb (df hc32))
        with_reducible refine w_skip ?_ ?_
        exact wn rfl rfl (eb (df hc32))
        refine w_val (y_pick_f (eb (df hc32)) Ev.c) (nt (c_ff eb (wp_skip (then_n (wp_region_lit (w_mv (ei s2_5) (w_val (y_bin ei Ev.c (b_add om)) (w_as ei (wpList_nil (inb_n (then_n (wp_region_lit (w_mv (e6 s2_6) (w_val (y_bin e6 (evc (U64 (1#64))) add64) (w_as e6 (wpList_nil ?_))))))))))))))))
        have hip_ : Sha.ip p = true := by simpa using hc10
        have hpc := Sha.pc_yes p om hip_
        exact then_n ⟨_, om, p + 1, vj, rfl, _, rfl, iv, iv, s2_2, s2_3, s2_4, (Eq.trans (b := .int .i64 ((((Sha.pc p) : Nat) : Int) + 1)) rfl (by congr 1; omega)), (Eq.trans (b := U64 ((BitVec.ofNat 64 p) + (1#64))) rfl (by exact congrArg U64 (BitVec.ofNat_add (n := 64) p 1).symm)), (r_b_14.congr (fun j hj => by first | (exfalso; omega) | exact Sha.rr_a _ _ _ _ _ _ _ _ (Sha.bg_no 0 512 p om) j | exact Sha.rr_b _ _ _ _ _ _ _ _ _ (Sha.bg_no 0 512 p om) j | exact Sha.rr_d _ _ _ _ _ _ _ _ _ _ _ om (Sha.bg_yes 0 512 p _ hpc om om (Sha.H_of_512 p om hip_ om)) j)), (own_n (o_vj.congr (fun j hj => by first | (with_reducible rfl) | ((try dsimp only); by_cases e : j < min (Sha.pc p) 80 * 1; (rw [if_pos e]); (rw [if_neg e, show j = Sha.pc p from by omega]; exact congrArg U64 (Sha.K_of false p om hip_))))) om), no_vj_b_14, hk⟩
  ·skip
   refine wp_exit (then_x (then_x (inb_x (then_n (sr (w_mv (ex (pt b_14 0) s1_3) (w_as (ex (pt b_14 0)) (nt (wp_ret (fin_ret1 rfl (ex (pt b_14 0)) ?_))))))))))
   obtain ⟨g38, cap38, hv38, ge_g38, hc_g38, hob_g38, r_g38⟩ := o_vk.opened om
   have ne_b_14_g38 : b_14 ≠ g38 := fun e => no_vk_b_14 (by rw [hob_g38, e])
   have hmn : min (Sha.pc p) 80 = 80 := by omega
   rw [hmn] at hv38 r_g38
   refine ⟨b_14, g38, cap38, rfl, ge_b_14, ge_g38, ne_b_14_g38, r_b_14.congr (fun j hj => ?_), r_g38, hk⟩
   rw [hv38]; exact Sha.rr_a _ _ _ _ _ _ _ _ (fun i hi => if_pos om) j
end Go.Proofs.YtepogbfkmflooaaDoor
