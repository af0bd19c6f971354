/-
  The reference's rules. Conditions as each says.
-/
import Derived.Test.YtdmbfimjbmfbaaaGreatDoorRows
import Derived.Test.YtdmbfimjbmfbaaaGreatDoorShaN
import Derived.Test.YtdmbfimjbmfbaaaGreatDoorShaR
import Derived.Test.YtdmbfimjbmfbaaaGreatDoorGenSh
import Derived.ProofKit
namespace Go.Proofs.YtdmbfimjbmfbaaaGreatDoor
open Go.RowKit
set_option linter.unusedSimpArgs false
set_option linter.unusedVariables false
set_option maxRecDepth 100000
set_option maxHeartbeats 1000000
namespace ShaMT
theorem mixed : Tryz.prog.follows .mixedOrders = true := by kernel_rfl
theorem ag132 : (Tryz.prog.underlying 132).map isAggD = some true := by rw [Tryz.underlying132]; rfl
theorem fa96_0 (g off : Nat) : ∀ w, (Instr.fieldAt 96 (.pointer (some ⟨g, off, none⟩)) 0).run Tryz.prog w = .ok (.pointer (some ⟨g, off + 0, none⟩)) w := fun w => by kernel_rfl
theorem fa96_2 (g off : Nat) : ∀ w, (Instr.fieldAt 96 (.pointer (some ⟨g, off, none⟩)) 2).run Tryz.prog w = .ok (.pointer (some ⟨g, off + 2, none⟩)) w := fun w => by kernel_rfl
theorem fa96_3 (g off : Nat) : ∀ w, (Instr.fieldAt 96 (.pointer (some ⟨g, off, none⟩)) 3).run Tryz.prog w = .ok (.pointer (some ⟨g, off + 3, none⟩)) w := fun w => by kernel_rfl
theorem fa96_4 (g off : Nat) : ∀ w, (Instr.fieldAt 96 (.pointer (some ⟨g, off, none⟩)) 4).run Tryz.prog w = .ok (.pointer (some ⟨g, off + 4, none⟩)) w := fun w => by kernel_rfl
theorem fa96_5 (g off : Nat) : ∀ w, (Instr.fieldAt 96 (.pointer (some ⟨g, off, none⟩)) 5).run Tryz.prog w = .ok (.pointer (some ⟨g, off + 5, none⟩)) w := fun w => by kernel_rfl
theorem fa96_6 (g off : Nat) : ∀ w, (Instr.fieldAt 96 (.pointer (some ⟨g, off, none⟩)) 6).run Tryz.prog w = .ok (.pointer (some ⟨g, off + 13, none⟩)) w := fun w => by kernel_rfl
theorem sc3 : (Tryz.prog.underlying 3).map scal = some true := by rw [Tryz.underlying3]; rfl
theorem sc91 : (Tryz.prog.underlying 91).map scal = some true := by rw [Tryz.underlying91]; rfl
theorem sc92 : (Tryz.prog.underlying 92).map scal = some true := by rw [Tryz.underlying92]; rfl
theorem so3 : (Tryz.prog.underlying 3).isSome = true := by rw [Tryz.underlying3]; rfl
theorem sz132 : (Tryz.prog.info? 132).map (·.size) = some 4 := by kernel_rfl
theorem sz3 : (Tryz.prog.info? 3).map (·.size) = some 1 := by kernel_rfl
theorem sz91 : (Tryz.prog.info? 91).map (·.size) = some 1 := by kernel_rfl
theorem sz92 : (Tryz.prog.info? 92).map (·.size) = some 1 := by kernel_rfl
theorem sz94 : (Tryz.prog.info? 94).map (·.size) = some 12 := by kernel_rfl
end ShaMT
theorem known_256  (w0 : World) : Calls Tryz.prog 27 #[.int .i64 256] w0 fun e w' => e = .returned (.bool true) ∧ Below w0.heap.size w0 w' := by
 refine enter (n := 13) Tryz.func27 rfl rfl rfl ?_
 have hk : Below w0.heap.size w0 w0 := Below.refl _ _
 refine sr (w_as Ev.c (nt (sr (w_mv ei (w_val (y_bin ei Ev.c b_eql) (w_mv eb ?_))))))
 with_reducible refine w_skip ?_ ?_
 exact wn rfl rfl eb
 with_reducible refine w_skip ?_ ?_
 exact wn rfl rfl eb
 refine w_val (y_pick_t eb Ev.c) (w_mv eb ?_)
 with_reducible refine w_skip ?_ ?_
 exact wn rfl rfl eb
 with_reducible refine w_skip ?_ ?_
 exact wn rfl rfl eb
 refine w_val (y_pick_t eb Ev.c) (w_as eb (nt (wp_ret (fin_ret1 rfl eb ?_))))
 exact ⟨rfl, hk⟩

theorem known_384  (w0 : World) : Calls Tryz.prog 27 #[.int .i64 384] w0 fun e w' => e = .returned (.bool true) ∧ Below w0.heap.size w0 w' := by
 refine enter (n := 13) Tryz.func27 rfl rfl rfl ?_
 have hk : Below w0.heap.size w0 w0 := Below.refl _ _
 refine sr (w_as Ev.c (nt (sr (w_mv ei (w_val (y_bin ei Ev.c b_eql) (w_mv eb (w_val_g (v := .int .i64 384) (wy rfl rfl eb) (y_mv ei) (w_val_g (wy rfl rfl eb) (y_bin ei Ev.c b_eql) (w_val (y_pick_f eb eb) (w_mv eb ?_))))))))))
 with_reducible refine w_skip ?_ ?_
 exact wn rfl rfl eb
 with_reducible refine w_skip ?_ ?_
 exact wn rfl rfl eb
 refine w_val (y_pick_t eb Ev.c) (w_as eb (nt (wp_ret (fin_ret1 rfl eb ?_))))
 exact ⟨rfl, hk⟩

theorem known_512  (w0 : World) : Calls Tryz.prog 27 #[.int .i64 512] w0 fun e w' => e = .returned (.bool true) ∧ Below w0.heap.size w0 w' := by
 refine enter (n := 13) Tryz.func27 rfl rfl rfl ?_
 have hk : Below w0.heap.size w0 w0 := Below.refl _ _
 refine sr (w_as Ev.c (nt (sr (w_mv ei (w_val (y_bin ei Ev.c b_eql) (w_mv eb (w_val_g (v := .int .i64 512) (wy rfl rfl eb) (y_mv ei) (w_val_g (wy rfl rfl eb) (y_bin ei Ev.c b_eql) (w_val (y_pick_f eb eb) (w_mv eb (w_val_g (v := .int .i64 512) (wy rfl rfl eb) (y_mv ei) (w_val_g (wy rfl rfl eb) (y_bin ei Ev.c b_eql) (w_val (y_pick_f eb eb) (w_as eb (nt (wp_ret (fin_ret1 rfl eb ?_)))))))))))))))))
 exact ⟨rfl, hk⟩

theorem cut_t (rp : Nat) (x : BitVec 64) (w0 : World) {F : Nat → Value} (r_rp : Row w0 rp 96 25 F) (hF : F 0 = .int .i64 256) : Calls Tryz.prog 39 #[pt rp 0, U64 x] w0 fun e w' => e = .returned (U64 (Sha.cutw true x)) ∧ Below w0.heap.size w0 w' := by
 refine enter (n := 13) Tryz.func39 rfl rfl rfl ?_
 have hk : Below w0.heap.size w0 w0 := Below.refl _ _
 have aa := r_rp.lt
 refine sr (w_as (evc (U64 (0#64))) (nt (wp_seq (sr (w_mv (ex (pt rp 0)) (w_val (y_nc (ex (pt rp 0))) (w_val (v := pt rp 0) (y_off (y_fa (ex (pt rp 0)) (ShaMT.fa96_0 _ _)) ro) (w_val (v := .int .i64 256) (y_ld (ex (pt rp 0)) ShaMT.sc3 (r_rp.val om hF)) (w_val (y_bin ei Ev.c b_eql) (nt (c_tt eb (sr (w_mv e6 (w_val (y_bin e6 (evc (.int .u64 32)) (shr64 (c := 32) rfl)) (w_as e6 (nt (wp_ret (then_r (fin_ret1 rfl e6 ?_)))))))))))))))))))
 refine ⟨congrArg Ending.returned ?_, hk⟩
 show (U64 (x >>> 32) : Value) = U64 (Sha.cutw true x)
 rfl

theorem make_256  (w0 : World) : Calls Tryz.prog 29 #[.int .i64 256] w0 fun e w' => ∃ rp g cap, e = .returned (.pointer (some ⟨rp, 0, none⟩)) ∧ w0.heap.size ≤ rp ∧ w0.heap.size ≤ g ∧ rp ≠ g ∧ Row w' rp 96 25 (Sha.rrow (.int .i64 256) (.int .i64 32) (.int .i64 64) (.int .i64 64) (.slice (some ⟨g, 0, none⟩) 64 cap) (Sha.H0 256) (fun i => U64 (BitVec.ofNat 64 (Sha.trn true i)))) ∧ Row w' g 92 (64 * 1) (fun j => U64 (Sha.K true j)) ∧ Below w0.heap.size w0 w' := by
 refine enter (n := 88) Tryz.func29 rfl rfl rfl ?_
 have hk : Below w0.heap.size w0 w0 := Below.refl _ _
 refine sr (w_as Ev.c (nt (sr (w_mv ei (w_mv ei (w_val (y_bin ei Ev.c (b_quo om)) (w_val (v := .agg (arr 12 (fun j => if j < 1 then U64 (1#64) else if j < 2 then U64 (8#64) else if j < 3 then U64 (7#64) else if j < 4 then U64 (19#64) else if j < 5 then U64 (61#64) else if j < 6 then U64 (6#64) else if j < 7 then U64 (28#64) else if j < 8 then U64 (34#64) else if j < 9 then U64 (39#64) else if j < 10 then U64 (14#64) else if j < 11 then U64 (18#64) else U64 (41#64)))) (y_build (vs := #[(0, U64 (1#64)), (1, U64 (8#64)), (2, U64 (7#64)), (3, U64 (19#64)), (4, U64 (61#64)), (5, U64 (6#64)), (6, U64 (28#64)), (7, U64 (34#64)), (8, U64 (39#64)), (9, U64 (14#64)), (10, U64 (18#64)), (11, U64 (41#64))]) (mp_cons (evc (U64 (1#64))) (mp_cons (evc (U64 (8#64))) (mp_cons (evc (U64 (7#64))) (mp_cons (evc (U64 (19#64))) (mp_cons (evc (U64 (61#64))) (mp_cons (evc (U64 (6#64))) (mp_cons (evc (U64 (28#64))) (mp_cons (evc (U64 (34#64))) (mp_cons (evc (U64 (39#64))) (mp_cons (evc (U64 (14#64))) (mp_cons (evc (U64 (18#64))) (mp_cons (evc (U64 (41#64))) mp0)))))))))))) (fun w => by kernel_rfl)) (w_val (v := .agg (arr 25 (fun j => if j < 1 then .int .i64 256 else if j < 2 then .int .i64 32 else if j < 3 then .int .i64 128 else if j < 4 then .int .i64 80 else if j < 5 then .slice none 0 0 else if j < 13 then U64 (0#64) else U64 (BitVec.ofNat 64 (Sha.trn false (j - 13)))))) (y_build (vs := #[(0, .int .i64 256), (1, .int .i64 32), (2, .int .i64 128), (3, .int .i64 80), (6, .agg (arr 12 (fun j => if j < 1 then U64 (1#64) else if j < 2 then U64 (8#64) else if j < 3 then U64 (7#64) else if j < 4 then U64 (19#64) else if j < 5 then U64 (61#64) else if j < 6 then U64 (6#64) else if j < 7 then U64 (28#64) else if j < 8 then U64 (34#64) else if j < 9 then U64 (39#64) else if j < 10 then U64 (14#64) else if j < 11 then U64 (18#64) else U64 (41#64))))]) (mp_cons ei (mp_cons ei (mp_cons Ev.c (mp_cons Ev.c (mp_cons ea mp0))))) (fun w => by kernel_rfl)) (w_box (m := 25) (F := fun j => if j < 1 then .int .i64 256 else if j < 2 then .int .i64 32 else if j < 3 then .int .i64 128 else if j < 4 then .int .i64 80 else if j < 5 then .slice none 0 0 else if j < 13 then U64 (0#64) else U64 (BitVec.ofNat 64 (Sha.trn false (j - 13)))) ea rfl ?_)))))))))
 intro ab w1 au aa b3
 have ay := gb_ hk.size au
 clear au
 replace hk := thenB hk b3
 refine w_as (ex (pt ab 0)) (nt (sr (w_as Ev.c (nt (wp_seq (sr (w_mv ei (w_val (y_bin ei Ev.c b_eql) (nt (c_ff eb (wp_skip (then_n (wp_seq (sr (w_mv ei (w_val (y_bin ei Ev.c b_eql) (nt (c_tt eb (sr (w_mv (ex (pt ab 0)) (w_val (y_nc (ex (pt ab 0))) (w_val (v := pt ab 2) (y_off (y_fa (ex (pt ab 0)) (ShaMT.fa96_2 _ _)) ro) (w_st (v := .int .i64 64) (ex (pt ab 2)) Ev.c rfl rfl ShaMT.sz3 aa om ?_)))))))))))))))))))))))
 clear aa; intro w3 aa b6 _
 replace hk := thenG hk b6 om
 refine nt (sr (w_mv (ex (pt ab 0)) (w_val (y_nc (ex (pt ab 0))) (w_val (v := pt ab 3) (y_off (y_fa (ex (pt ab 0)) (ShaMT.fa96_3 _ _)) ro) (w_st (v := .int .i64 64) (ex (pt ab 3)) Ev.c rfl rfl ShaMT.sz3 aa om ?_)))))
 clear aa; intro w5 aa b4 _
 replace hk := thenG hk b4 om
 refine nt (wp_region_lit (w_mv (ex (pt ab 0)) (w_val (v := .agg (arr 12 (fun j => if j < 1 then U64 (7#64) else if j < 2 then U64 (18#64) else if j < 3 then U64 (3#64) else if j < 4 then U64 (17#64) else if j < 5 then U64 (19#64) else if j < 6 then U64 (10#64) else if j < 7 then U64 (2#64) else if j < 8 then U64 (13#64) else if j < 9 then U64 (22#64) else if j < 10 then U64 (6#64) else if j < 11 then U64 (11#64) else U64 (25#64)))) (y_build (vs := #[(0, U64 (7#64)), (1, U64 (18#64)), (2, U64 (3#64)), (3, U64 (17#64)), (4, U64 (19#64)), (5, U64 (10#64)), (6, U64 (2#64)), (7, U64 (13#64)), (8, U64 (22#64)), (9, U64 (6#64)), (10, U64 (11#64)), (11, U64 (25#64))]) (mp_cons (evc (U64 (7#64))) (mp_cons (evc (U64 (18#64))) (mp_cons (evc (U64 (3#64))) (mp_cons (evc (U64 (17#64))) (mp_cons (evc (U64 (19#64))) (mp_cons (evc (U64 (10#64))) (mp_cons (evc (U64 (2#64))) (mp_cons (evc (U64 (13#64))) (mp_cons (evc (U64 (22#64))) (mp_cons (evc (U64 (6#64))) (mp_cons (evc (U64 (11#64))) (mp_cons (evc (U64 (25#64))) mp0)))))))))))) (fun w => by kernel_rfl)) (w_val (y_nc (ex (pt ab 0))) (w_val (v := pt ab 13) (y_off (y_fa (ex (pt ab 0)) (ShaMT.fa96_6 _ _)) ro) (w_sta (k := 12) (G := fun j => if j < 1 then U64 (7#64) else if j < 2 then U64 (18#64) else if j < 3 then U64 (3#64) else if j < 4 then U64 (17#64) else if j < 5 then U64 (19#64) else if j < 6 then U64 (10#64) else if j < 7 then U64 (2#64) else if j < 8 then U64 (13#64) else if j < 9 then U64 (22#64) else if j < 10 then U64 (6#64) else if j < 11 then U64 (11#64) else U64 (25#64)) (ex (pt ab 13)) ea oc ShaMT.sz94 aa om ?_))))))
 clear aa; intro w7 aa b7 _
 replace hk := thenG hk b7 om
 refine nt (wp_seq ?_)
 replace aa := aa.congr (g := Sha.rrow (.int .i64 256) (.int .i64 32) (.int .i64 64) (.int .i64 64) (.slice none 0 0) (fun _ => 0#64) (fun i => U64 (BitVec.ofNat 64 (Sha.trn true i)))) (fun j hj => by rcases (by omega : j = 0 ∨ j = 1 ∨ j = 2 ∨ j = 3 ∨ j = 4 ∨ j = 5 ∨ j = 6 ∨ j = 7 ∨ j = 8 ∨ j = 9 ∨ j = 10 ∨ j = 11 ∨ j = 12 ∨ j = 13 ∨ j = 14 ∨ j = 15 ∨ j = 16 ∨ j = 17 ∨ j = 18 ∨ j = 19 ∨ j = 20 ∨ j = 21 ∨ j = 22 ∨ j = 23 ∨ j = 24) with h | h | h | h | h | h | h | h | h | h | h | h | h | h | h | h | h | h | h | h | h | h | h | h | h <;> (subst h; rfl))
 refine wp_region_lit (w_as Ev.c (nt (wp_seq (sr (w_as (evc (U64 (2#64))) (nt (wp_block ?_)))))))
 refine c_loop (fun dN aN wl => ∃ (p : Nat) (vk : Value), dN = (410 - p) ∧ ∃ f9, aN = fr 88 f9 ∧ (2 ≤ p) ∧ (p ≤ 410) ∧ f9 2 = .pointer none ∧ f9 3 = pt ab 0 ∧ f9 4 = .int .i64 0 ∧ f9 5 = .int .i64 (((Sha.pc p) : Nat) : Int) ∧ f9 6 = U64 (BitVec.ofNat 64 p) ∧ Row wl ab 96 25 (Sha.rrow (.int .i64 256) (.int .i64 32) (.int .i64 64) (.int .i64 64) (vk) (Sha.bg 0 256 p) (fun i => U64 (BitVec.ofNat 64 (Sha.trn true i)))) ∧ Own wl w0.heap.size 92 1 vk (min (Sha.pc p) 64) (fun j => U64 (Sha.K true j)) ∧ vk.ownBlock ≠ some ab ∧ Below w0.heap.size w0 wl) (410 - 2) ?_ ?_
 · exact ⟨2, (.slice none 0 0), rfl, _, rfl, iv, iv, rfl, rfl, rfl, (Eq.trans (b := .int .i64 0) rfl (by rfl)), (Eq.trans (b := U64 (2#64)) rfl (by rfl)), (aa.congr (fun j hj => by rcases (by omega : j = 0 ∨ j = 1 ∨ j = 2 ∨ j = 3 ∨ j = 4 ∨ j = 5 ∨ j = 6 ∨ j = 7 ∨ j = 8 ∨ j = 9 ∨ j = 10 ∨ j = 11 ∨ j = 12 ∨ j = 13 ∨ j = 14 ∨ j = 15 ∨ j = 16 ∨ j = 17 ∨ j = 18 ∨ j = 19 ∨ j = 20 ∨ j = 21 ∨ j = 22 ∨ j = 23 ∨ j = 24) with h | h | h | h | h | h | h | h | h | h | h | h | h | h | h | h | h | h | h | h | h | h | h | h | h <;> (subst h; rfl))), Own.nil, (fun e => by cases e), hk⟩
 ·skip
  clear aa hk
  rintro _ _ cf ⟨p, vk, rfl, f9, rfl, b0, br, bt, bo, bu, bl, bw, aa, a8, am, hk⟩
  have cg := Sha.pc_lt p br
  have bk : (BitVec.ofNat 64 p).toNat = p := by rw [BitVec.toNat_ofNat]; omega
  refine wp_seq (sr (w_mv (ei bl) (w_val (y_bin ei Ev.c b_lss) (nt ?_))))
  refine c_if (p := (((Sha.pc p) : Nat) : Int) < 80) eb (fun hc11 => ?_) (fun hc11 => ?_)
  ·skip
   refine wp_skip (then_n (wp_seq (wp_block (sr (w_as Ev.c (nt (wp_seq (sr (w_as (evc (U64 (2#64))) (nt (wp_block ?_)))))))))))
   refine c_loop (fun dN aN wl => ∃ (q : Nat) (vj : Value), dN = (22 - q) ∧ ∃ a0, aN = fr 88 a0 ∧ (2 ≤ q) ∧ (q ≤ 21) ∧ (q = 2 ∨ (q - 1) * (q - 1) ≤ p) ∧ a0 2 = .pointer none ∧ a0 3 = pt ab 0 ∧ a0 4 = .int .i64 0 ∧ a0 5 = .int .i64 (((Sha.pc p) : Nat) : Int) ∧ a0 6 = U64 (BitVec.ofNat 64 p) ∧ a0 7 = .bool (Sha.np p q) ∧ a0 8 = U64 (BitVec.ofNat 64 q) ∧ Row wl ab 96 25 (Sha.rrow (.int .i64 256) (.int .i64 32) (.int .i64 64) (.int .i64 64) (vj) (Sha.bg 0 256 p) (fun i => U64 (BitVec.ofNat 64 (Sha.trn true i)))) ∧ Own wl w0.heap.size 92 1 vj (min (Sha.pc p) 64) (fun j => U64 (Sha.K true j)) ∧ vj.ownBlock ≠ some ab ∧ Below w0.heap.size w0 wl) (22 - 2) ?_ ?_
   · exact ⟨2, vk, rfl, _, rfl, iv, (by decide), (by exact Or.inl rfl), bt, bo, bu, bl, bw, (Eq.trans (b := .bool true) rfl (by exact congrArg Value.bool (Sha.np_two p).symm)), (Eq.trans (b := U64 (2#64)) rfl (by rfl)), (aa.congr (fun j hj => by rfl)), a8, am, hk⟩
   ·skip
    clear aa a8 hk
    rintro _ _ cc ⟨q, vj, rfl, a0, rfl, b8, b1, bx, ar, ai, ak, aj, al, bh, ax, aa, af, ac, hk⟩
    refine wp_seq (sr (w_mv (e6 ax) (w_mv (e6 ax) (w_val (y_bin e6 e6 mul64) (w_mv (e6 al) (w_val (y_bin e6 e6 leq64) (nt ?_)))))))
    refine c_if (p := ((BitVec.ofNat 64 q) * (BitVec.ofNat 64 q)).toNat ≤ (BitVec.ofNat 64 p).toNat) eb (fun hc14 => ?_) (fun hc14 => ?_)
    ·skip
     refine wp_skip (then_n (wp_seq (wp_block (sr (w_mv (e6 al) (w_mv (e6 ax) (w_val (y_bin e6 e6 (rem64 (by exact Sha.ofNat_ne q om om))) (w_val (y_bin e6 (evc (U64 (0#64))) eql64) (nt ?_)))))))))
     refine c_if (p := ((BitVec.ofNat 64 p) % (BitVec.ofNat 64 q)) = (0#64)) eb (fun hc15 => ?_) (fun hc15 => ?_)
     ·skip
      refine wp_region_lit (w_as Ev.c (wpList_nil (inb_n (then_n (wp_region_lit (w_mv (e6 ax) (w_val (y_bin e6 (evc (U64 (1#64))) add64) (w_as e6 (wpList_nil ?_)))))))))
      exact then_n ⟨_, om, q + 1, vj, rfl, _, rfl, iv, (by have := Sha.sq_le q p om (by rw [Sha.sq_word q om, bk] at *; omega); omega), (by refine Or.inr ?_; rw [show q + 1 - 1 = q from by omega]; rw [Sha.sq_word q om, bk] at *; omega), ar, ai, ak, aj, al, (Eq.trans (b := .bool false) rfl (by first | exact congrArg Value.bool (Sha.np_div p q om om om (by assumption)).symm | exact congrArg Value.bool (Sha.np_no p q om om om (by assumption)).symm)), (Eq.trans (b := U64 ((BitVec.ofNat 64 q) + (1#64))) rfl (by exact congrArg U64 (BitVec.ofNat_add (n := 64) q 1).symm)), aa, af, ac, hk⟩
     ·skip
      refine wp_skip (inb_n (then_n (wp_region_lit (w_mv (e6 ax) (w_val (y_bin e6 (evc (U64 (1#64))) add64) (w_as e6 (wpList_nil ?_)))))))
      exact then_n ⟨_, om, q + 1, vj, rfl, _, rfl, iv, (by have := Sha.sq_le q p om (by rw [Sha.sq_word q om, bk] at *; omega); omega), (by refine Or.inr ?_; rw [show q + 1 - 1 = q from by omega]; rw [Sha.sq_word q om, bk] at *; omega), ar, ai, ak, aj, al, (by refine Eq.trans (b := .bool (Sha.np p q)) ?_ ?_; exact bh; (first | exact congrArg Value.bool (Sha.np_div p q om om om (by assumption)).symm | exact congrArg Value.bool (Sha.np_no p q om om om (by assumption)).symm)), (Eq.trans (b := U64 ((BitVec.ofNat 64 q) + (1#64))) rfl (by exact congrArg U64 (BitVec.ofNat_add (n := 64) q 1).symm)), aa, af, ac, hk⟩
    ·skip
     refine wp_exit (then_x (then_x (inb_x (then_n (wp_seq (sr ?_))))))
     refine w_mv (ex (.bool (Sha.ip p)) (by refine Eq.trans (b := .bool (Sha.np p q)) ?_ ?_; exact bh; (exact congrArg Value.bool (Sha.np_done p q om om om om bx (by rw [Sha.sq_word q om, bk] at *; omega))))) ?_
     refine w_val (y_not eb) (nt ?_)
     refine c_ifb eb (fun hc16 => ?_) (fun hc16 => ?_)
     ·skip
      refine wp_exit (then_x (inb_x (then_n (wp_region_lit (w_mv (e6 al) (w_val (y_bin e6 (evc (U64 (1#64))) add64) (w_as e6 (wpList_nil ?_))))))))
      have aw := Sha.pc_no p om (by simpa using hc16)
      exact then_n ⟨_, om, p + 1, vj, rfl, _, rfl, iv, iv, ar, ai, ak, (by refine Eq.trans (b := .int .i64 (((Sha.pc p) : Nat) : Int)) ?_ ?_; exact aj; (congr 1; omega)), (Eq.trans (b := U64 ((BitVec.ofNat 64 p) + (1#64))) rfl (by exact congrArg U64 (BitVec.ofNat_add (n := 64) p 1).symm)), (aa.congr (fun j hj => by first | (exfalso; omega) | exact Sha.rr_a _ _ _ _ _ _ _ _ (Sha.bg_no 0 256 p om) j | exact Sha.rr_b _ _ _ _ _ _ _ _ _ (Sha.bg_no 0 256 p om) j | exact Sha.rr_d _ _ _ _ _ _ _ _ _ _ _ om (Sha.bg_yes 0 256 p _ aw om om (Sha.H_of_256 p om ae om)) j)), (own_n (af.congr (fun j hj => by first | (with_reducible rfl) | ((try dsimp only); by_cases e : j < min (Sha.pc p) 64 * 1; (rw [if_pos e]); (rw [if_neg e, show j = Sha.pc p from by omega]; exact congrArg U64 (Sha.K_of true p om ae))))) om), ac, hk⟩
     ·skip
      refine wp_skip (then_n (wp_seq (sr (w_mv (ei aj) (w_mv (ex (pt ab 0) ai) (w_val (y_nc (ex (pt ab 0))) (w_val (v := pt ab 3) (y_off (y_fa (ex (pt ab 0)) (ShaMT.fa96_3 _ _)) ro) (w_val (v := .int .i64 64) (y_ld (ex (pt ab 3)) ShaMT.sc3 (aa.val om (ng (ng (ng pz))))) (w_val (y_bin ei ei b_lss) (nt ?_))))))))))
      refine c_if (p := (((Sha.pc p) : Nat) : Int) < 64) eb (fun hc17 => ?_) (fun hc17 => ?_)
      ·skip
       refine region_dc (Nat.testBit 15360) 14 ShaMT.mixed rfl ?_
       intro bv bb
       replace af := af.step bb
       replace aa := aa.step bb
       replace hk := thenB hk bb
       have hS : Cls bv bv := Below.refl _ _
       refine dp 0 rfl (fun w' => y_mv (ex (pt ab 0) ai)) (dp 1 rfl (fun w' => y_mv (ex (pt ab 0) ai)) (dp (v := pt ab 0) 2 rfl (fun w' => y_nc (ex (pt ab 0))) (dp (v := pt ab 4) 3 rfl (fun w' => y_off (y_fa (ex (pt ab 0)) (ShaMT.fa96_4 _ _)) ro) (d_take (v := vj) 4 (Nat.testBit 15376) rfl kr kr kr kr kr kr (fun _ _ _ h => h) hS (fun w' hw' => y_ld (ex (pt ab 4)) ShaMT.sc91 (cls_cell (aa.val om (ng (ng (ng (ng pz))))) aa.lt w' hw')) (dp 5 rfl (fun w' => y_mv (ex (pt ab 0) ai)) (dp 6 rfl (fun w' => y_mv (e6 al)) (d_one 7 kr rfl (w_call (Tryz.func40) kr rfl (m2 e6 Ev.c) (root_3 p om bv) ?_))))))))
       rintro _ b5 ⟨rfl, a2⟩
       refine ⟨_, rfl, ?_⟩
       replace af := af.step a2
       replace aa := aa.step a2
       replace hk := thenB hk a2
       replace hS := thenB hS a2
       refine wpList_nil ?_
       refine then_n ⟨fun _ h => thenB h (by assumption), ?_⟩
       refine d_one 8 kr rfl (w_call (Tryz.func39) kr rfl (m2 (ex (pt ab 0)) e6) (cut_t ab (BitVec.ofNat 64 (Sha.rt p 3 69)) b5 (F := Sha.rrow (.int .i64 256) (.int .i64 32) (.int .i64 64) (.int .i64 64) (vj) (Sha.bg 0 256 p) (fun i => U64 (BitVec.ofNat 64 (Sha.trn true i)))) aa rfl) ?_)
       rintro _ cj ⟨rfl, a3⟩
       refine ⟨_, rfl, ?_⟩
       replace af := af.step a3
       replace aa := aa.step a3
       replace hk := thenB hk a3
       replace hS := thenB hS a3
       refine wpList_nil ?_
       refine then_n ⟨fun _ h => thenB h (by assumption), ?_⟩
       refine d_one 9 kr rfl (w_bs1 (m := 1) (e := 92) (F := fun j => U64 (Sha.cutw true (BitVec.ofNat 64 (Sha.rt p 3 69)))) e6 (fun w => by kernel_rfl) ?_)
       intro bs cd an ag az
       have a4 := aa.nb an
       have ao : vj.ownBlock ≠ some bs := af.apart om
       have bp := gb_ hk.size an
       clear an
       replace af := af.step az
       replace aa := aa.step az
       replace hk := thenB hk az
       replace hS := thenB hS az
       refine wpList_nil ?_
       refine then_n ⟨fun _ h => thenB h (by assumption), ?_⟩
       refine d_one 10 kr rfl (w_app (k := (min (Sha.pc p) 64)) (m := 1) (size := 1) (bytes := 8) (ex vj) el Tryz.underlying91 kr (by decide) af hk.size ag om oca (by simp only [maxLen]; omega) om ?_)
       intro bf ce ah be bi
       have ad := no_new ac aa.lt bi
       replace aa := aa.stepO be ac
       have a6 := no_new ao ag.lt bi
       replace ag := ag.stepO be ao
       replace hk := thenO hk be (fun g e => (af.block_lt g e).2)
       clear af
       clear hS
       refine wpList_nil ?_
       refine then_n ⟨fun hD => absurd hD (by decide), ?_⟩
       refine d_one 11 kr rfl (w_val (y_nc (ex (pt ab 0))) (wpList_nil ?_))
       refine then_n ⟨fun hD => absurd hD (by decide), ?_⟩
       refine d_one 12 kr rfl (w_val (v := pt ab 4) (y_off (y_fa (ex (pt ab 0)) (ShaMT.fa96_4 _ _)) ro) (wpList_nil ?_))
       refine then_n ⟨fun hD => absurd hD (by decide), ?_⟩
       refine d_one 13 kr rfl (w_st (v := bf) (ex (pt ab 4)) (ex bf) (ah.one) (ah.cells) ShaMT.sz91 aa om ?_)
       clear aa; intro cb aa a9 _
       replace ah := ah.stepG a9 ad
       replace ag := ag.stepG a9 om
       replace hk := thenG hk a9 om
       refine wpList_nil ?_
       refine then_n ⟨fun hD => absurd hD (by decide), ?_⟩
       refine d_done kr (then_n (wp_seq (sr (w_mv (ei aj) (w_mv (ei ak) (w_val (y_bin ei ei b_geq) (w_mv eb ?_)))))))
       by_cases ap : 0 ≤ (((Sha.pc p) : Nat) : Int)
       ·skip
        refine w_val_g (v := .int .i64 (((Sha.pc p) : Nat) : Int)) (wy rfl rfl (eb (dt ap))) (y_mv (ei aj)) (w_val_g (v := .int .i64 0) (wy rfl rfl (eb (dt ap))) (y_mv (ei ak)) (w_val_g (wy rfl rfl (eb (dt ap))) (y_bin ei Ev.c (b_add om)) (w_val_g (wy rfl rfl (eb (dt ap))) (y_bin ei ei b_lss) (w_val (y_pick_t (eb (dt ap)) eb) (nt ?_)))))
        refine c_if (p := (((Sha.pc p) : Nat) : Int) < 8) eb (fun hc33 => ?_) (fun hc33 => ?_)
        ·skip
         refine region_t 11 ShaMT.mixed kr ?_
         simp only [List.take_succ_cons, List.take_zero, List.drop_succ_cons, List.drop_zero]
         refine q_mv (ex (pt ab 0) ai) (q_mv (ei aj) (q_mv (ei ak) (q_val (fun w' hw' => y_bin ei ei (b_sub om)) (q_mv (ex (pt ab 0) ai) (q_mv (e6 al) (q_call (v := U64 (BitVec.ofNat 64 (Sha.rt p 2 69))) (Tryz.func40) kr rfl (m2 e6 Ev.c) (fun w' hw' => root_2 p om w') (q_call (v := U64 (Sha.cutw true (BitVec.ofNat 64 (Sha.rt p 2 69)))) (Tryz.func39) kr rfl (m2 (ex (pt ab 0)) e6) (fun w' hw' => cut_t ab (BitVec.ofNat 64 (Sha.rt p 2 69)) w' (F := fun j => if j = 4 then bf else (Sha.rrow (.int .i64 256) (.int .i64 32) (.int .i64 64) (.int .i64 64) (vj) (Sha.bg 0 256 p) (fun i => U64 (BitVec.ofNat 64 (Sha.trn true i)))) j) (aa.step hw') rfl) (q_val (fun w' hw' => y_nc (ex (pt ab 0))) (q_val (v := pt ab 5) (fun w' hw' => y_off (y_fa (ex (pt ab 0)) (ShaMT.fa96_5 _ _)) ro) (q_val (v := pt ab (5 + ((Sha.pc p) - 0))) (fun w' hw' => y_off (y_ia1 (i := ((Sha.pc p) - 0)) (ex (pt ab 5)) ei Tryz.underlying93 ShaMT.sz92 om om) ro) (q_nil ?_)))))))))))
         intro b9 a5
         replace ah := ah.step a5
         replace aa := aa.step a5
         replace ag := ag.step a5
         replace hk := thenB hk a5
         refine w_st (v := U64 (Sha.cutw true (BitVec.ofNat 64 (Sha.rt p 2 69)))) (ex (pt ab (5 + ((Sha.pc p) - 0)))) e6 rfl rfl ShaMT.sz92 aa om ?_
         clear aa; intro ca aa bd _
         replace ah := ah.stepG bd ad
         replace ag := ag.stepG bd om
         replace hk := thenG hk bd om
         refine nt (wp_region_lit (w_mv (ei aj) (w_val (y_bin ei Ev.c (b_add om)) (w_as ei (wpList_nil (inb_n (then_n (wp_region_lit (w_mv (e6 al) (w_val (y_bin e6 (evc (U64 (1#64))) add64) (w_as e6 (wpList_nil ?_))))))))))))
         have ae : Sha.ip p = true := by simpa using hc16
         have aw := Sha.pc_yes p om ae
         exact then_n ⟨_, om, p + 1, bf, rfl, _, rfl, iv, iv, ar, ai, ak, (Eq.trans (b := .int .i64 ((((Sha.pc p) : Nat) : Int) + 1)) rfl (by congr 1; omega)), (Eq.trans (b := U64 ((BitVec.ofNat 64 p) + (1#64))) rfl (by exact congrArg U64 (BitVec.ofNat_add (n := 64) p 1).symm)), (aa.congr (fun j hj => by first | (exfalso; omega) | exact Sha.rr_a _ _ _ _ _ _ _ _ (Sha.bg_no 0 256 p om) j | exact Sha.rr_b _ _ _ _ _ _ _ _ _ (Sha.bg_no 0 256 p om) j | exact Sha.rr_d _ _ _ _ _ _ _ _ _ _ _ om (Sha.bg_yes 0 256 p _ aw om om (Sha.H_of_256 p om ae om)) j)), (own_n (ah.congr (fun j hj => by first | (with_reducible rfl) | ((try dsimp only); by_cases e : j < min (Sha.pc p) 64 * 1; (rw [if_pos e]); (rw [if_neg e, show j = Sha.pc p from by omega]; exact congrArg U64 (Sha.K_of true p om ae))))) om), ad, hk⟩
        ·skip
         refine wp_skip (then_n (wp_region_lit (w_mv (ei aj) (w_val (y_bin ei Ev.c (b_add om)) (w_as ei (wpList_nil (inb_n (then_n (wp_region_lit (w_mv (e6 al) (w_val (y_bin e6 (evc (U64 (1#64))) add64) (w_as e6 (wpList_nil ?_)))))))))))))
         have ae : Sha.ip p = true := by simpa using hc16
         have aw := Sha.pc_yes p om ae
         exact then_n ⟨_, om, p + 1, bf, rfl, _, rfl, iv, iv, ar, ai, ak, (Eq.trans (b := .int .i64 ((((Sha.pc p) : Nat) : Int) + 1)) rfl (by congr 1; omega)), (Eq.trans (b := U64 ((BitVec.ofNat 64 p) + (1#64))) rfl (by exact congrArg U64 (BitVec.ofNat_add (n := 64) p 1).symm)), (aa.congr (fun j hj => by first | (exfalso; omega) | exact Sha.rr_a _ _ _ _ _ _ _ _ (Sha.bg_no 0 256 p om) j | exact Sha.rr_b _ _ _ _ _ _ _ _ _ (Sha.bg_no 0 256 p om) j | exact Sha.rr_d _ _ _ _ _ _ _ _ _ _ _ om (Sha.bg_yes 0 256 p _ aw om om (Sha.H_of_256 p om ae om)) j)), (own_n (ah.congr (fun j hj => by first | (with_reducible rfl) | ((try dsimp only); by_cases e : j < min (Sha.pc p) 64 * 1; (rw [if_pos e]); (rw [if_neg e, show j = Sha.pc p from by omega]; exact congrArg U64 (Sha.K_of true p om ae))))) om), ad, hk⟩
       ·skip
        with_reducible refine w_skip ?_ ?_
        exact wn rfl rfl (eb (df ap))
        with_reducible refine w_skip ?_ ?_
        exact wn rfl rfl (eb (df ap))
        with_reducible refine w_skip ?_ ?_
        exact wn rfl rfl (eb (df ap))
        with_reducible refine w_skip ?_ ?_
        exact wn rfl rfl (eb (df ap))
        refine w_val (y_pick_f (eb (df ap)) Ev.c) (nt (c_ff eb (wp_skip (then_n (wp_region_lit (w_mv (ei aj) (w_val (y_bin ei Ev.c (b_add om)) (w_as ei (wpList_nil (inb_n (then_n (wp_region_lit (w_mv (e6 al) (w_val (y_bin e6 (evc (U64 (1#64))) add64) (w_as e6 (wpList_nil ?_))))))))))))))))
        have ae : Sha.ip p = true := by simpa using hc16
        have aw := Sha.pc_yes p om ae
        exact then_n ⟨_, om, p + 1, bf, rfl, _, rfl, iv, iv, ar, ai, ak, (Eq.trans (b := .int .i64 ((((Sha.pc p) : Nat) : Int) + 1)) rfl (by congr 1; omega)), (Eq.trans (b := U64 ((BitVec.ofNat 64 p) + (1#64))) rfl (by exact congrArg U64 (BitVec.ofNat_add (n := 64) p 1).symm)), (aa.congr (fun j hj => by first | (exfalso; omega) | exact Sha.rr_a _ _ _ _ _ _ _ _ (Sha.bg_no 0 256 p om) j | exact Sha.rr_b _ _ _ _ _ _ _ _ _ (Sha.bg_no 0 256 p om) j | exact Sha.rr_d _ _ _ _ _ _ _ _ _ _ _ om (Sha.bg_yes 0 256 p _ aw om om (Sha.H_of_256 p om ae om)) j)), (own_n (ah.congr (fun j hj => by first | (with_reducible rfl) | ((try dsimp only); by_cases e : j < min (Sha.pc p) 64 * 1; (rw [if_pos e]); (rw [if_neg e, show j = Sha.pc p from by omega]; exact congrArg U64 (Sha.K_of true p om ae))))) om), ad, hk⟩
      ·skip
       refine wp_skip (then_n (wp_seq (sr (w_mv (ei aj) (w_mv (ei ak) (w_val (y_bin ei ei b_geq) (w_mv eb ?_)))))))
       by_cases aq : 0 ≤ (((Sha.pc p) : Nat) : Int)
       ·skip
        refine w_val_g (v := .int .i64 (((Sha.pc p) : Nat) : Int)) (wy rfl rfl (eb (dt aq))) (y_mv (ei aj)) (w_val_g (v := .int .i64 0) (wy rfl rfl (eb (dt aq))) (y_mv (ei ak)) (w_val_g (wy rfl rfl (eb (dt aq))) (y_bin ei Ev.c (b_add om)) (w_val_g (wy rfl rfl (eb (dt aq))) (y_bin ei ei b_lss) (w_val (y_pick_t (eb (dt aq)) eb) (nt ?_)))))
        refine c_if (p := (((Sha.pc p) : Nat) : Int) < 8) eb (fun hc39 => ?_) (fun hc39 => ?_)
        ·skip
         refine region_t 11 ShaMT.mixed kr ?_
         simp only [List.take_succ_cons, List.take_zero, List.drop_succ_cons, List.drop_zero]
         refine q_mv (ex (pt ab 0) ai) (q_mv (ei aj) (q_mv (ei ak) (q_val (fun w' hw' => y_bin ei ei (b_sub om)) (q_mv (ex (pt ab 0) ai) (q_mv (e6 al) (q_call (v := U64 (BitVec.ofNat 64 (Sha.rt p 2 69))) (Tryz.func40) kr rfl (m2 e6 Ev.c) (fun w' hw' => root_2 p om w') (q_call (v := U64 (Sha.cutw true (BitVec.ofNat 64 (Sha.rt p 2 69)))) (Tryz.func39) kr rfl (m2 (ex (pt ab 0)) e6) (fun w' hw' => cut_t ab (BitVec.ofNat 64 (Sha.rt p 2 69)) w' (F := Sha.rrow (.int .i64 256) (.int .i64 32) (.int .i64 64) (.int .i64 64) (vj) (Sha.bg 0 256 p) (fun i => U64 (BitVec.ofNat 64 (Sha.trn true i)))) (aa.step hw') rfl) (q_val (fun w' hw' => y_nc (ex (pt ab 0))) (q_val (v := pt ab 5) (fun w' hw' => y_off (y_fa (ex (pt ab 0)) (ShaMT.fa96_5 _ _)) ro) (q_val (v := pt ab (5 + ((Sha.pc p) - 0))) (fun w' hw' => y_off (y_ia1 (i := ((Sha.pc p) - 0)) (ex (pt ab 5)) ei Tryz.underlying93 ShaMT.sz92 om om) ro) (q_nil ?_)))))))))))
         intro ci ba
         replace af := af.step ba
         replace aa := aa.step ba
         replace hk := thenB hk ba
         refine w_st (v := U64 (Sha.cutw true (BitVec.ofNat 64 (Sha.rt p 2 69)))) (ex (pt ab (5 + ((Sha.pc p) - 0)))) e6 rfl rfl ShaMT.sz92 aa om ?_
         clear aa; intro ch aa bn _
         replace af := af.stepG bn ac
         replace hk := thenG hk bn om
         refine nt (wp_region_lit (w_mv (ei aj) (w_val (y_bin ei Ev.c (b_add om)) (w_as ei (wpList_nil (inb_n (then_n (wp_region_lit (w_mv (e6 al) (w_val (y_bin e6 (evc (U64 (1#64))) add64) (w_as e6 (wpList_nil ?_))))))))))))
         have ae : Sha.ip p = true := by simpa using hc16
         have aw := Sha.pc_yes p om ae
         exact then_n ⟨_, om, p + 1, vj, rfl, _, rfl, iv, iv, ar, ai, ak, (Eq.trans (b := .int .i64 ((((Sha.pc p) : Nat) : Int) + 1)) rfl (by congr 1; omega)), (Eq.trans (b := U64 ((BitVec.ofNat 64 p) + (1#64))) rfl (by exact congrArg U64 (BitVec.ofNat_add (n := 64) p 1).symm)), (aa.congr (fun j hj => by first | (exfalso; omega) | exact Sha.rr_a _ _ _ _ _ _ _ _ (Sha.bg_no 0 256 p om) j | exact Sha.rr_b _ _ _ _ _ _ _ _ _ (Sha.bg_no 0 256 p om) j | exact Sha.rr_d _ _ _ _ _ _ _ _ _ _ _ om (Sha.bg_yes 0 256 p _ aw om om (Sha.H_of_256 p om ae om)) j)), (own_n (af.congr (fun j hj => by first | (with_reducible rfl) | ((try dsimp only); by_cases e : j < min (Sha.pc p) 64 * 1; (rw [if_pos e]); (rw [if_neg e, show j = Sha.pc p from by omega]; exact congrArg U64 (Sha.K_of true p om ae))))) om), ac, hk⟩
        ·skip
         refine wp_skip (then_n (wp_region_lit (w_mv (ei aj) (w_val (y_bin ei Ev.c (b_add om)) (w_as ei (wpList_nil (inb_n (then_n (wp_region_lit (w_mv (e6 al) (w_val (y_bin e6 (evc (U64 (1#64))) add64) (w_as e6 (wpList_nil ?_)))))))))))))
         have ae : Sha.ip p = true := by simpa using hc16
         have aw := Sha.pc_yes p om ae
         exact then_n ⟨_, om, p + 1, vj, rfl, _, rfl, iv, iv, ar, ai, ak, (Eq.trans (b := .int .i64 ((((Sha.pc p) : Nat) : Int) + 1)) rfl (by congr 1; omega)), (Eq.trans (b := U64 ((BitVec.ofNat 64 p) + (1#64))) rfl (by exact congrArg U64 (BitVec.ofNat_add (n := 64) p 1).symm)), (aa.congr (fun j hj => by first | (exfalso; omega) | exact Sha.rr_a _ _ _ _ _ _ _ _ (Sha.bg_no 0 256 p om) j | exact Sha.rr_b _ _ _ _ _ _ _ _ _ (Sha.bg_no 0 256 p om) j | exact Sha.rr_d _ _ _ _ _ _ _ _ _ _ _ om (Sha.bg_yes 0 256 p _ aw om om (Sha.H_of_256 p om ae om)) j)), (own_n (af.congr (fun j hj => by first | (with_reducible rfl) | ((try dsimp only); by_cases e : j < min (Sha.pc p) 64 * 1; (rw [if_pos e]); (rw [if_neg e, show j = Sha.pc p from by omega]; exact congrArg U64 (Sha.K_of true p om ae))))) om), ac, hk⟩
       ·skip
        with_reducible refine w_skip ?_ ?_
        exact wn rfl rfl (eb (df aq))
        with_reducible refine w_skip ?_ ?_
        exact wn rfl rfl (eb (df aq))
        with_reducible refine w_skip ?_ ?_
        exact wn rfl rfl (eb (df aq))
        with_reducible refine w_skip ?_ ?_
        exact wn rfl rfl (eb (df aq))
        refine w_val (y_pick_f (eb (df aq)) Ev.c) (nt (c_ff eb (wp_skip (then_n (wp_region_lit (w_mv (ei aj) (w_val (y_bin ei Ev.c (b_add om)) (w_as ei (wpList_nil (inb_n (then_n (wp_region_lit (w_mv (e6 al) (w_val (y_bin e6 (evc (U64 (1#64))) add64) (w_as e6 (wpList_nil ?_))))))))))))))))
        have ae : Sha.ip p = true := by simpa using hc16
        have aw := Sha.pc_yes p om ae
        exact then_n ⟨_, om, p + 1, vj, rfl, _, rfl, iv, iv, ar, ai, ak, (Eq.trans (b := .int .i64 ((((Sha.pc p) : Nat) : Int) + 1)) rfl (by congr 1; omega)), (Eq.trans (b := U64 ((BitVec.ofNat 64 p) + (1#64))) rfl (by exact congrArg U64 (BitVec.ofNat_add (n := 64) p 1).symm)), (aa.congr (fun j hj => by first | (exfalso; omega) | exact Sha.rr_a _ _ _ _ _ _ _ _ (Sha.bg_no 0 256 p om) j | exact Sha.rr_b _ _ _ _ _ _ _ _ _ (Sha.bg_no 0 256 p om) j | exact Sha.rr_d _ _ _ _ _ _ _ _ _ _ _ om (Sha.bg_yes 0 256 p _ aw om om (Sha.H_of_256 p om ae om)) j)), (own_n (af.congr (fun j hj => by first | (with_reducible rfl) | ((try dsimp only); by_cases e : j < min (Sha.pc p) 64 * 1; (rw [if_pos e]); (rw [if_neg e, show j = Sha.pc p from by omega]; exact congrArg U64 (Sha.K_of true p om ae))))) om), ac, hk⟩
  ·skip
   refine wp_exit (then_x (then_x (inb_x (then_n (sr (w_mv (ex (pt ab 0) bo) (w_as (ex (pt ab 0)) (nt (wp_ret (fin_ret1 rfl (ex (pt ab 0)) ?_))))))))))
   obtain ⟨bz, bm, bj, bc, bq, a1, a7⟩ := a8.opened om
   have av : ab ≠ bz := fun e => am (by rw [a1, e])
   have b2 : min (Sha.pc p) 64 = 64 := by omega
   rw [b2] at bj a7
   refine ⟨ab, bz, bm, rfl, ay, bc, av, aa.congr (fun j hj => ?_), a7, hk⟩
   rw [bj]; exact Sha.rr_a _ _ _ _ _ _ _ _ (fun i hi => if_pos om) j

theorem cut_f (rp : Nat) (x : BitVec 64) (kd : Int) (hkd : kd ≠ 256) (w0 : World) {F : Nat → Value} (r_rp : Row w0 rp 96 25 F) (hF : F 0 = .int .i64 kd) : Calls Tryz.prog 39 #[pt rp 0, U64 x] w0 fun e w' => e = .returned (U64 (Sha.cutw false x)) ∧ Below w0.heap.size w0 w' := by
 refine enter (n := 13) Tryz.func39 rfl rfl rfl ?_
 have hk : Below w0.heap.size w0 w0 := Below.refl _ _
 have aa := r_rp.lt
 refine sr (w_as (evc (U64 (0#64))) (nt (wp_seq (sr (w_mv (ex (pt rp 0)) (w_val (y_nc (ex (pt rp 0))) (w_val (v := pt rp 0) (y_off (y_fa (ex (pt rp 0)) (ShaMT.fa96_0 _ _)) ro) (w_val (v := .int .i64 kd) (y_ld (ex (pt rp 0)) ShaMT.sc3 (r_rp.val om hF)) (w_val (y_bin ei Ev.c b_eql) (nt ?_))))))))))
 have ab : ¬ (kd = 256) := by exact hkd
 refine c_f (p := kd = 256) eb ab (wp_skip (then_n (sr (w_mv e6 (w_as e6 (nt (wp_ret (fin_ret1 rfl e6 ?_))))))))
 refine ⟨congrArg Ending.returned ?_, hk⟩
 show (U64 x : Value) = U64 (Sha.cutw false x)
 rfl

theorem make_384  (w0 : World) : Calls Tryz.prog 29 #[.int .i64 384] w0 fun e w' => ∃ rp g cap, e = .returned (.pointer (some ⟨rp, 0, none⟩)) ∧ w0.heap.size ≤ rp ∧ w0.heap.size ≤ g ∧ rp ≠ g ∧ Row w' rp 96 25 (Sha.rrow (.int .i64 384) (.int .i64 48) (.int .i64 128) (.int .i64 80) (.slice (some ⟨g, 0, none⟩) 80 cap) (Sha.H0 384) (fun i => U64 (BitVec.ofNat 64 (Sha.trn false i)))) ∧ Row w' g 92 (80 * 1) (fun j => U64 (Sha.K false j)) ∧ Below w0.heap.size w0 w' := by
 refine enter (n := 88) Tryz.func29 rfl rfl rfl ?_
 have hk : Below w0.heap.size w0 w0 := Below.refl _ _
 refine sr (w_as Ev.c (nt (sr (w_mv ei (w_mv ei (w_val (y_bin ei Ev.c (b_quo om)) (w_val (v := .agg (arr 12 (fun j => if j < 1 then U64 (1#64) else if j < 2 then U64 (8#64) else if j < 3 then U64 (7#64) else if j < 4 then U64 (19#64) else if j < 5 then U64 (61#64) else if j < 6 then U64 (6#64) else if j < 7 then U64 (28#64) else if j < 8 then U64 (34#64) else if j < 9 then U64 (39#64) else if j < 10 then U64 (14#64) else if j < 11 then U64 (18#64) else U64 (41#64)))) (y_build (vs := #[(0, U64 (1#64)), (1, U64 (8#64)), (2, U64 (7#64)), (3, U64 (19#64)), (4, U64 (61#64)), (5, U64 (6#64)), (6, U64 (28#64)), (7, U64 (34#64)), (8, U64 (39#64)), (9, U64 (14#64)), (10, U64 (18#64)), (11, U64 (41#64))]) (mp_cons (evc (U64 (1#64))) (mp_cons (evc (U64 (8#64))) (mp_cons (evc (U64 (7#64))) (mp_cons (evc (U64 (19#64))) (mp_cons (evc (U64 (61#64))) (mp_cons (evc (U64 (6#64))) (mp_cons (evc (U64 (28#64))) (mp_cons (evc (U64 (34#64))) (mp_cons (evc (U64 (39#64))) (mp_cons (evc (U64 (14#64))) (mp_cons (evc (U64 (18#64))) (mp_cons (evc (U64 (41#64))) mp0)))))))))))) (fun w => by kernel_rfl)) (w_val (v := .agg (arr 25 (fun j => if j < 1 then .int .i64 384 else if j < 2 then .int .i64 48 else if j < 3 then .int .i64 128 else if j < 4 then .int .i64 80 else if j < 5 then .slice none 0 0 else if j < 13 then U64 (0#64) else U64 (BitVec.ofNat 64 (Sha.trn false (j - 13)))))) (y_build (vs := #[(0, .int .i64 384), (1, .int .i64 48), (2, .int .i64 128), (3, .int .i64 80), (6, .agg (arr 12 (fun j => if j < 1 then U64 (1#64) else if j < 2 then U64 (8#64) else if j < 3 then U64 (7#64) else if j < 4 then U64 (19#64) else if j < 5 then U64 (61#64) else if j < 6 then U64 (6#64) else if j < 7 then U64 (28#64) else if j < 8 then U64 (34#64) else if j < 9 then U64 (39#64) else if j < 10 then U64 (14#64) else if j < 11 then U64 (18#64) else U64 (41#64))))]) (mp_cons ei (mp_cons ei (mp_cons Ev.c (mp_cons Ev.c (mp_cons ea mp0))))) (fun w => by kernel_rfl)) (w_box (m := 25) (F := fun j => if j < 1 then .int .i64 384 else if j < 2 then .int .i64 48 else if j < 3 then .int .i64 128 else if j < 4 then .int .i64 80 else if j < 5 then .slice none 0 0 else if j < 13 then U64 (0#64) else U64 (BitVec.ofNat 64 (Sha.trn false (j - 13)))) ea rfl ?_)))))))))
 intro ab w1 av aa b2
 have ay := gb_ hk.size av
 clear av
 replace hk := thenB hk b2
 refine w_as (ex (pt ab 0)) (nt (sr (w_as Ev.c (nt (wp_seq (sr (w_mv ei (w_val (y_bin ei Ev.c b_eql) (nt (c_tt eb (wp_region_lit (w_as Ev.c (nt (wp_seq (sr (w_mv ei (w_val (y_bin ei Ev.c b_eql) (nt (c_ff eb (wp_skip (then_n (wp_seq ?_))))))))))))))))))))))
 replace aa := aa.congr (g := Sha.rrow (.int .i64 384) (.int .i64 48) (.int .i64 128) (.int .i64 80) (.slice none 0 0) (fun _ => 0#64) (fun i => U64 (BitVec.ofNat 64 (Sha.trn false i)))) (fun j hj => by rcases (by omega : j = 0 ∨ j = 1 ∨ j = 2 ∨ j = 3 ∨ j = 4 ∨ j = 5 ∨ j = 6 ∨ j = 7 ∨ j = 8 ∨ j = 9 ∨ j = 10 ∨ j = 11 ∨ j = 12 ∨ j = 13 ∨ j = 14 ∨ j = 15 ∨ j = 16 ∨ j = 17 ∨ j = 18 ∨ j = 19 ∨ j = 20 ∨ j = 21 ∨ j = 22 ∨ j = 23 ∨ j = 24) with h | h | h | h | h | h | h | h | h | h | h | h | h | h | h | h | h | h | h | h | h | h | h | h | h <;> (subst h; rfl))
 refine wp_region_lit (w_as Ev.c (nt (wp_seq (sr (w_as (evc (U64 (2#64))) (nt (wp_block ?_)))))))
 refine c_loop (fun dN aN wl => ∃ (p : Nat) (vk : Value), dN = (410 - p) ∧ ∃ f3, aN = fr 88 f3 ∧ (2 ≤ p) ∧ (p ≤ 410) ∧ f3 2 = .pointer none ∧ f3 3 = pt ab 0 ∧ f3 4 = .int .i64 8 ∧ f3 5 = .int .i64 (((Sha.pc p) : Nat) : Int) ∧ f3 6 = U64 (BitVec.ofNat 64 p) ∧ Row wl ab 96 25 (Sha.rrow (.int .i64 384) (.int .i64 48) (.int .i64 128) (.int .i64 80) (vk) (Sha.bg 8 384 p) (fun i => U64 (BitVec.ofNat 64 (Sha.trn false i)))) ∧ Own wl w0.heap.size 92 1 vk (min (Sha.pc p) 80) (fun j => U64 (Sha.K false j)) ∧ vk.ownBlock ≠ some ab ∧ Below w0.heap.size w0 wl) (410 - 2) ?_ ?_
 · exact ⟨2, (.slice none 0 0), rfl, _, rfl, iv, iv, rfl, rfl, rfl, (Eq.trans (b := .int .i64 0) rfl (by rfl)), (Eq.trans (b := U64 (2#64)) rfl (by rfl)), (aa.congr (fun j hj => by rcases (by omega : j = 0 ∨ j = 1 ∨ j = 2 ∨ j = 3 ∨ j = 4 ∨ j = 5 ∨ j = 6 ∨ j = 7 ∨ j = 8 ∨ j = 9 ∨ j = 10 ∨ j = 11 ∨ j = 12 ∨ j = 13 ∨ j = 14 ∨ j = 15 ∨ j = 16 ∨ j = 17 ∨ j = 18 ∨ j = 19 ∨ j = 20 ∨ j = 21 ∨ j = 22 ∨ j = 23 ∨ j = 24) with h | h | h | h | h | h | h | h | h | h | h | h | h | h | h | h | h | h | h | h | h | h | h | h | h <;> (subst h; rfl))), Own.nil, (fun e => by cases e), hk⟩
 ·skip
  clear aa hk
  rintro _ _ w4 ⟨p, vk, rfl, f3, rfl, bz, bq, bs, bm, bt, bi, bu, aa, a7, am, hk⟩
  have ca := Sha.pc_lt p bq
  have bh : (BitVec.ofNat 64 p).toNat = p := by rw [BitVec.toNat_ofNat]; omega
  refine wp_seq (sr (w_mv (ei bi) (w_val (y_bin ei Ev.c b_lss) (nt ?_))))
  refine c_if (p := (((Sha.pc p) : Nat) : Int) < 80) eb (fun hc5 => ?_) (fun hc5 => ?_)
  ·skip
   refine wp_skip (then_n (wp_seq (wp_block (sr (w_as Ev.c (nt (wp_seq (sr (w_as (evc (U64 (2#64))) (nt (wp_block ?_)))))))))))
   refine c_loop (fun dN aN wl => ∃ (q : Nat) (vj : Value), dN = (22 - q) ∧ ∃ f6, aN = fr 88 f6 ∧ (2 ≤ q) ∧ (q ≤ 21) ∧ (q = 2 ∨ (q - 1) * (q - 1) ≤ p) ∧ f6 2 = .pointer none ∧ f6 3 = pt ab 0 ∧ f6 4 = .int .i64 8 ∧ f6 5 = .int .i64 (((Sha.pc p) : Nat) : Int) ∧ f6 6 = U64 (BitVec.ofNat 64 p) ∧ f6 7 = .bool (Sha.np p q) ∧ f6 8 = U64 (BitVec.ofNat 64 q) ∧ Row wl ab 96 25 (Sha.rrow (.int .i64 384) (.int .i64 48) (.int .i64 128) (.int .i64 80) (vj) (Sha.bg 8 384 p) (fun i => U64 (BitVec.ofNat 64 (Sha.trn false i)))) ∧ Own wl w0.heap.size 92 1 vj (min (Sha.pc p) 80) (fun j => U64 (Sha.K false j)) ∧ vj.ownBlock ≠ some ab ∧ Below w0.heap.size w0 wl) (22 - 2) ?_ ?_
   · exact ⟨2, vk, rfl, _, rfl, iv, (by decide), (by exact Or.inl rfl), bs, bm, bt, bi, bu, (Eq.trans (b := .bool true) rfl (by exact congrArg Value.bool (Sha.np_two p).symm)), (Eq.trans (b := U64 (2#64)) rfl (by rfl)), (aa.congr (fun j hj => by rfl)), a7, am, hk⟩
   ·skip
    clear aa a7 hk
    rintro _ _ w7 ⟨q, vj, rfl, f6, rfl, b4, b0, bw, ar, ah, ak, aj, al, bf, ax, aa, af, ac, hk⟩
    refine wp_seq (sr (w_mv (e6 ax) (w_mv (e6 ax) (w_val (y_bin e6 e6 mul64) (w_mv (e6 al) (w_val (y_bin e6 e6 leq64) (nt ?_)))))))
    refine c_if (p := ((BitVec.ofNat 64 q) * (BitVec.ofNat 64 q)).toNat ≤ (BitVec.ofNat 64 p).toNat) eb (fun hc8 => ?_) (fun hc8 => ?_)
    ·skip
     refine wp_skip (then_n (wp_seq (wp_block (sr (w_mv (e6 al) (w_mv (e6 ax) (w_val (y_bin e6 e6 (rem64 (by exact Sha.ofNat_ne q om om))) (w_val (y_bin e6 (evc (U64 (0#64))) eql64) (nt ?_)))))))))
     refine c_if (p := ((BitVec.ofNat 64 p) % (BitVec.ofNat 64 q)) = (0#64)) eb (fun hc9 => ?_) (fun hc9 => ?_)
     ·skip
      refine wp_region_lit (w_as Ev.c (wpList_nil (inb_n (then_n (wp_region_lit (w_mv (e6 ax) (w_val (y_bin e6 (evc (U64 (1#64))) add64) (w_as e6 (wpList_nil ?_)))))))))
      exact then_n ⟨_, om, q + 1, vj, rfl, _, rfl, iv, (by have := Sha.sq_le q p om (by rw [Sha.sq_word q om, bh] at *; omega); omega), (by refine Or.inr ?_; rw [show q + 1 - 1 = q from by omega]; rw [Sha.sq_word q om, bh] at *; omega), ar, ah, ak, aj, al, (Eq.trans (b := .bool false) rfl (by first | exact congrArg Value.bool (Sha.np_div p q om om om (by assumption)).symm | exact congrArg Value.bool (Sha.np_no p q om om om (by assumption)).symm)), (Eq.trans (b := U64 ((BitVec.ofNat 64 q) + (1#64))) rfl (by exact congrArg U64 (BitVec.ofNat_add (n := 64) q 1).symm)), aa, af, ac, hk⟩
     ·skip
      refine wp_skip (inb_n (then_n (wp_region_lit (w_mv (e6 ax) (w_val (y_bin e6 (evc (U64 (1#64))) add64) (w_as e6 (wpList_nil ?_)))))))
      exact then_n ⟨_, om, q + 1, vj, rfl, _, rfl, iv, (by have := Sha.sq_le q p om (by rw [Sha.sq_word q om, bh] at *; omega); omega), (by refine Or.inr ?_; rw [show q + 1 - 1 = q from by omega]; rw [Sha.sq_word q om, bh] at *; omega), ar, ah, ak, aj, al, (by refine Eq.trans (b := .bool (Sha.np p q)) ?_ ?_; exact bf; (first | exact congrArg Value.bool (Sha.np_div p q om om om (by assumption)).symm | exact congrArg Value.bool (Sha.np_no p q om om om (by assumption)).symm)), (Eq.trans (b := U64 ((BitVec.ofNat 64 q) + (1#64))) rfl (by exact congrArg U64 (BitVec.ofNat_add (n := 64) q 1).symm)), aa, af, ac, hk⟩
    ·skip
     refine wp_exit (then_x (then_x (inb_x (then_n (wp_seq (sr ?_))))))
     refine w_mv (ex (.bool (Sha.ip p)) (by refine Eq.trans (b := .bool (Sha.np p q)) ?_ ?_; exact bf; (exact congrArg Value.bool (Sha.np_done p q om om om om bw (by rw [Sha.sq_word q om, bh] at *; omega))))) ?_
     refine w_val (y_not eb) (nt ?_)
     refine c_ifb eb (fun hc10 => ?_) (fun hc10 => ?_)
     ·skip
      refine wp_exit (then_x (inb_x (then_n (wp_region_lit (w_mv (e6 al) (w_val (y_bin e6 (evc (U64 (1#64))) add64) (w_as e6 (wpList_nil ?_))))))))
      have aw := Sha.pc_no p om (by simpa using hc10)
      exact then_n ⟨_, om, p + 1, vj, rfl, _, rfl, iv, iv, ar, ah, ak, (by refine Eq.trans (b := .int .i64 (((Sha.pc p) : Nat) : Int)) ?_ ?_; exact aj; (congr 1; omega)), (Eq.trans (b := U64 ((BitVec.ofNat 64 p) + (1#64))) rfl (by exact congrArg U64 (BitVec.ofNat_add (n := 64) p 1).symm)), (aa.congr (fun j hj => by first | (exfalso; omega) | exact Sha.rr_a _ _ _ _ _ _ _ _ (Sha.bg_no 8 384 p om) j | exact Sha.rr_b _ _ _ _ _ _ _ _ _ (Sha.bg_no 8 384 p om) j | exact Sha.rr_d _ _ _ _ _ _ _ _ _ _ _ om (Sha.bg_yes 8 384 p _ aw om om (Sha.H_of_384 p om ae om om)) j)), (own_n (af.congr (fun j hj => by first | (with_reducible rfl) | ((try dsimp only); by_cases e : j < min (Sha.pc p) 80 * 1; (rw [if_pos e]); (rw [if_neg e, show j = Sha.pc p from by omega]; exact congrArg U64 (Sha.K_of false p om ae))))) om), ac, hk⟩
     ·skip
      refine wp_skip (then_n (wp_seq (sr (w_mv (ei aj) (w_mv (ex (pt ab 0) ah) (w_val (y_nc (ex (pt ab 0))) (w_val (v := pt ab 3) (y_off (y_fa (ex (pt ab 0)) (ShaMT.fa96_3 _ _)) ro) (w_val (v := .int .i64 80) (y_ld (ex (pt ab 3)) ShaMT.sc3 (aa.val om (ng (ng (ng pz))))) (w_val (y_bin ei ei b_lss) (nt ?_))))))))))
      refine c_if (p := (((Sha.pc p) : Nat) : Int) < 80) eb (fun hc11 => ?_) (fun hc11 => ?_)
      ·skip
       refine region_dc (Nat.testBit 15360) 14 ShaMT.mixed rfl ?_
       intro bv a9
       replace af := af.step a9
       replace aa := aa.step a9
       replace hk := thenB hk a9
       have hS : Cls bv bv := Below.refl _ _
       refine dp 0 rfl (fun w' => y_mv (ex (pt ab 0) ah)) (dp 1 rfl (fun w' => y_mv (ex (pt ab 0) ah)) (dp (v := pt ab 0) 2 rfl (fun w' => y_nc (ex (pt ab 0))) (dp (v := pt ab 4) 3 rfl (fun w' => y_off (y_fa (ex (pt ab 0)) (ShaMT.fa96_4 _ _)) ro) (d_take (v := vj) 4 (Nat.testBit 15376) rfl kr kr kr kr kr kr (fun _ _ _ h => h) hS (fun w' hw' => y_ld (ex (pt ab 4)) ShaMT.sc91 (cls_cell (aa.val om (ng (ng (ng (ng pz))))) aa.lt w' hw')) (dp 5 rfl (fun w' => y_mv (ex (pt ab 0) ah)) (dp 6 rfl (fun w' => y_mv (e6 al)) (d_one 7 kr rfl (w_call (Tryz.func40) kr rfl (m2 e6 Ev.c) (root_3 p om bv) ?_))))))))
       rintro _ b3 ⟨rfl, a0⟩
       refine ⟨_, rfl, ?_⟩
       replace af := af.step a0
       replace aa := aa.step a0
       replace hk := thenB hk a0
       replace hS := thenB hS a0
       refine wpList_nil ?_
       refine then_n ⟨fun _ h => thenB h (by assumption), ?_⟩
       refine d_one 8 kr rfl (w_call (Tryz.func39) kr rfl (m2 (ex (pt ab 0)) e6) (cut_f ab (BitVec.ofNat 64 (Sha.rt p 3 69)) 384 (by decide) b3 (F := Sha.rrow (.int .i64 384) (.int .i64 48) (.int .i64 128) (.int .i64 80) (vj) (Sha.bg 8 384 p) (fun i => U64 (BitVec.ofNat 64 (Sha.trn false i)))) aa rfl) ?_)
       rintro _ cc ⟨rfl, a4⟩
       refine ⟨_, rfl, ?_⟩
       replace af := af.step a4
       replace aa := aa.step a4
       replace hk := thenB hk a4
       replace hS := thenB hS a4
       refine wpList_nil ?_
       refine then_n ⟨fun _ h => thenB h (by assumption), ?_⟩
       refine d_one 9 kr rfl (w_bs1 (m := 1) (e := 92) (F := fun j => U64 (Sha.cutw false (BitVec.ofNat 64 (Sha.rt p 3 69)))) e6 (fun w => by kernel_rfl) ?_)
       intro br cd an ag a2
       have a1 := aa.nb an
       have ao : vj.ownBlock ≠ some br := af.apart om
       have bo := gb_ hk.size an
       clear an
       replace af := af.step a2
       replace aa := aa.step a2
       replace hk := thenB hk a2
       replace hS := thenB hS a2
       refine wpList_nil ?_
       refine then_n ⟨fun _ h => thenB h (by assumption), ?_⟩
       refine d_one 10 kr rfl (w_app (k := (min (Sha.pc p) 80)) (m := 1) (size := 1) (bytes := 8) (ex vj) el Tryz.underlying91 kr (by decide) af hk.size ag om oca (by simp only [maxLen]; omega) om ?_)
       intro be b8 ai bd bj
       have ad := no_new ac aa.lt bj
       replace aa := aa.stepO bd ac
       have a5 := no_new ao ag.lt bj
       replace ag := ag.stepO bd ao
       replace hk := thenO hk bd (fun g e => (af.block_lt g e).2)
       clear af
       clear hS
       refine wpList_nil ?_
       refine then_n ⟨fun hD => absurd hD (by decide), ?_⟩
       refine d_one 11 kr rfl (w_val (y_nc (ex (pt ab 0))) (wpList_nil ?_))
       refine then_n ⟨fun hD => absurd hD (by decide), ?_⟩
       refine d_one 12 kr rfl (w_val (v := pt ab 4) (y_off (y_fa (ex (pt ab 0)) (ShaMT.fa96_4 _ _)) ro) (wpList_nil ?_))
       refine then_n ⟨fun hD => absurd hD (by decide), ?_⟩
       refine d_one 13 kr rfl (w_st (v := be) (ex (pt ab 4)) (ex be) (ai.one) (ai.cells) ShaMT.sz91 aa om ?_)
       clear aa; intro b9 aa ba _
       replace ai := ai.stepG ba ad
       replace ag := ag.stepG ba om
       replace hk := thenG hk ba om
       refine wpList_nil ?_
       refine then_n ⟨fun hD => absurd hD (by decide), ?_⟩
       refine d_done kr (then_n (wp_seq (sr (w_mv (ei aj) (w_mv (ei ak) (w_val (y_bin ei ei b_geq) (w_mv eb ?_)))))))
       by_cases aq : 8 ≤ (((Sha.pc p) : Nat) : Int)
       ·skip
        refine w_val_g (v := .int .i64 (((Sha.pc p) : Nat) : Int)) (wy rfl rfl (eb (dt aq))) (y_mv (ei aj)) (w_val_g (v := .int .i64 8) (wy rfl rfl (eb (dt aq))) (y_mv (ei ak)) (w_val_g (wy rfl rfl (eb (dt aq))) (y_bin ei Ev.c (b_add om)) (w_val_g (wy rfl rfl (eb (dt aq))) (y_bin ei ei b_lss) (w_val (y_pick_t (eb (dt aq)) eb) (nt ?_)))))
        refine c_if (p := (((Sha.pc p) : Nat) : Int) < 16) eb (fun hc27 => ?_) (fun hc27 => ?_)
        ·skip
         refine region_t 11 ShaMT.mixed kr ?_
         simp only [List.take_succ_cons, List.take_zero, List.drop_succ_cons, List.drop_zero]
         refine q_mv (ex (pt ab 0) ah) (q_mv (ei aj) (q_mv (ei ak) (q_val (fun w' hw' => y_bin ei ei (b_sub om)) (q_mv (ex (pt ab 0) ah) (q_mv (e6 al) (q_call (v := U64 (BitVec.ofNat 64 (Sha.rt p 2 69))) (Tryz.func40) kr rfl (m2 e6 Ev.c) (fun w' hw' => root_2 p om w') (q_call (v := U64 (Sha.cutw false (BitVec.ofNat 64 (Sha.rt p 2 69)))) (Tryz.func39) kr rfl (m2 (ex (pt ab 0)) e6) (fun w' hw' => cut_f ab (BitVec.ofNat 64 (Sha.rt p 2 69)) 384 (by decide) w' (F := fun j => if j = 4 then be else (Sha.rrow (.int .i64 384) (.int .i64 48) (.int .i64 128) (.int .i64 80) (vj) (Sha.bg 8 384 p) (fun i => U64 (BitVec.ofNat 64 (Sha.trn false i)))) j) (aa.step hw') rfl) (q_val (fun w' hw' => y_nc (ex (pt ab 0))) (q_val (v := pt ab 5) (fun w' hw' => y_off (y_fa (ex (pt ab 0)) (ShaMT.fa96_5 _ _)) ro) (q_val (v := pt ab (5 + ((Sha.pc p) - 8))) (fun w' hw' => y_off (y_ia1 (i := ((Sha.pc p) - 8)) (ex (pt ab 5)) ei Tryz.underlying93 ShaMT.sz92 om om) ro) (q_nil ?_)))))))))))
         intro cb az
         replace ai := ai.step az
         replace aa := aa.step az
         replace ag := ag.step az
         replace hk := thenB hk az
         refine w_st (v := U64 (Sha.cutw false (BitVec.ofNat 64 (Sha.rt p 2 69)))) (ex (pt ab (5 + ((Sha.pc p) - 8)))) e6 rfl rfl ShaMT.sz92 aa om ?_
         clear aa; intro b7 aa bb _
         replace ai := ai.stepG bb ad
         replace ag := ag.stepG bb om
         replace hk := thenG hk bb om
         refine nt (wp_region_lit (w_mv (ei aj) (w_val (y_bin ei Ev.c (b_add om)) (w_as ei (wpList_nil (inb_n (then_n (wp_region_lit (w_mv (e6 al) (w_val (y_bin e6 (evc (U64 (1#64))) add64) (w_as e6 (wpList_nil ?_))))))))))))
         have ae : Sha.ip p = true := by simpa using hc10
         have aw := Sha.pc_yes p om ae
         exact then_n ⟨_, om, p + 1, be, rfl, _, rfl, iv, iv, ar, ah, ak, (Eq.trans (b := .int .i64 ((((Sha.pc p) : Nat) : Int) + 1)) rfl (by congr 1; omega)), (Eq.trans (b := U64 ((BitVec.ofNat 64 p) + (1#64))) rfl (by exact congrArg U64 (BitVec.ofNat_add (n := 64) p 1).symm)), (aa.congr (fun j hj => by first | (exfalso; omega) | exact Sha.rr_a _ _ _ _ _ _ _ _ (Sha.bg_no 8 384 p om) j | exact Sha.rr_b _ _ _ _ _ _ _ _ _ (Sha.bg_no 8 384 p om) j | exact Sha.rr_d _ _ _ _ _ _ _ _ _ _ _ om (Sha.bg_yes 8 384 p _ aw om om (Sha.H_of_384 p om ae om om)) j)), (own_n (ai.congr (fun j hj => by first | (with_reducible rfl) | ((try dsimp only); by_cases e : j < min (Sha.pc p) 80 * 1; (rw [if_pos e]); (rw [if_neg e, show j = Sha.pc p from by omega]; exact congrArg U64 (Sha.K_of false p om ae))))) om), ad, hk⟩
        ·skip
         refine wp_skip (then_n (wp_region_lit (w_mv (ei aj) (w_val (y_bin ei Ev.c (b_add om)) (w_as ei (wpList_nil (inb_n (then_n (wp_region_lit (w_mv (e6 al) (w_val (y_bin e6 (evc (U64 (1#64))) add64) (w_as e6 (wpList_nil ?_)))))))))))))
         have ae : Sha.ip p = true := by simpa using hc10
         have aw := Sha.pc_yes p om ae
         exact then_n ⟨_, om, p + 1, be, rfl, _, rfl, iv, iv, ar, ah, ak, (Eq.trans (b := .int .i64 ((((Sha.pc p) : Nat) : Int) + 1)) rfl (by congr 1; omega)), (Eq.trans (b := U64 ((BitVec.ofNat 64 p) + (1#64))) rfl (by exact congrArg U64 (BitVec.ofNat_add (n := 64) p 1).symm)), (aa.congr (fun j hj => by first | (exfalso; omega) | exact Sha.rr_a _ _ _ _ _ _ _ _ (Sha.bg_no 8 384 p om) j | exact Sha.rr_b _ _ _ _ _ _ _ _ _ (Sha.bg_no 8 384 p om) j | exact Sha.rr_d _ _ _ _ _ _ _ _ _ _ _ om (Sha.bg_yes 8 384 p _ aw om om (Sha.H_of_384 p om ae om om)) j)), (own_n (ai.congr (fun j hj => by first | (with_reducible rfl) | ((try dsimp only); by_cases e : j < min (Sha.pc p) 80 * 1; (rw [if_pos e]); (rw [if_neg e, show j = Sha.pc p from by omega]; exact congrArg U64 (Sha.K_of false p om ae))))) om), ad, hk⟩
       ·skip
        with_reducible refine w_skip ?_ ?_
        exact wn rfl rfl (eb (df aq))
        with_reducible refine w_skip ?_ ?_
        exact wn rfl rfl (eb (df aq))
        with_reducible refine w_skip ?_ ?_
        exact wn rfl rfl (eb (df aq))
        with_reducible refine w_skip ?_ ?_
        exact wn rfl rfl (eb (df aq))
        refine w_val (y_pick_f (eb (df aq)) Ev.c) (nt (c_ff eb (wp_skip (then_n (wp_region_lit (w_mv (ei aj) (w_val (y_bin ei Ev.c (b_add om)) (w_as ei (wpList_nil (inb_n (then_n (wp_region_lit (w_mv (e6 al) (w_val (y_bin e6 (evc (U64 (1#64))) add64) (w_as e6 (wpList_nil ?_))))))))))))))))
        have ae : Sha.ip p = true := by simpa using hc10
        have aw := Sha.pc_yes p om ae
        exact then_n ⟨_, om, p + 1, be, rfl, _, rfl, iv, iv, ar, ah, ak, (Eq.trans (b := .int .i64 ((((Sha.pc p) : Nat) : Int) + 1)) rfl (by congr 1; omega)), (Eq.trans (b := U64 ((BitVec.ofNat 64 p) + (1#64))) rfl (by exact congrArg U64 (BitVec.ofNat_add (n := 64) p 1).symm)), (aa.congr (fun j hj => by first | (exfalso; omega) | exact Sha.rr_a _ _ _ _ _ _ _ _ (Sha.bg_no 8 384 p om) j | exact Sha.rr_b _ _ _ _ _ _ _ _ _ (Sha.bg_no 8 384 p om) j | exact Sha.rr_d _ _ _ _ _ _ _ _ _ _ _ om (Sha.bg_yes 8 384 p _ aw om om (Sha.H_of_384 p om ae om om)) j)), (own_n (ai.congr (fun j hj => by first | (with_reducible rfl) | ((try dsimp only); by_cases e : j < min (Sha.pc p) 80 * 1; (rw [if_pos e]); (rw [if_neg e, show j = Sha.pc p from by omega]; exact congrArg U64 (Sha.K_of false p om ae))))) om), ad, hk⟩
      ·skip
       refine wp_skip (then_n (wp_seq (sr (w_mv (ei aj) (w_mv (ei ak) (w_val (y_bin ei ei b_geq) (w_mv eb ?_)))))))
       by_cases ap : 8 ≤ (((Sha.pc p) : Nat) : Int)
       ·skip
        refine w_val_g (v := .int .i64 (((Sha.pc p) : Nat) : Int)) (wy rfl rfl (eb (dt ap))) (y_mv (ei aj)) (w_val_g (v := .int .i64 8) (wy rfl rfl (eb (dt ap))) (y_mv (ei ak)) (w_val_g (wy rfl rfl (eb (dt ap))) (y_bin ei Ev.c (b_add om)) (w_val_g (wy rfl rfl (eb (dt ap))) (y_bin ei ei b_lss) (w_val (y_pick_t (eb (dt ap)) eb) (nt ?_)))))
        refine c_if (p := (((Sha.pc p) : Nat) : Int) < 16) eb (fun hc33 => ?_) (fun hc33 => ?_)
        ·skip
         refine region_t 11 ShaMT.mixed kr ?_
         simp only [List.take_succ_cons, List.take_zero, List.drop_succ_cons, List.drop_zero]
         refine q_mv (ex (pt ab 0) ah) (q_mv (ei aj) (q_mv (ei ak) (q_val (fun w' hw' => y_bin ei ei (b_sub om)) (q_mv (ex (pt ab 0) ah) (q_mv (e6 al) (q_call (v := U64 (BitVec.ofNat 64 (Sha.rt p 2 69))) (Tryz.func40) kr rfl (m2 e6 Ev.c) (fun w' hw' => root_2 p om w') (q_call (v := U64 (Sha.cutw false (BitVec.ofNat 64 (Sha.rt p 2 69)))) (Tryz.func39) kr rfl (m2 (ex (pt ab 0)) e6) (fun w' hw' => cut_f ab (BitVec.ofNat 64 (Sha.rt p 2 69)) 384 (by decide) w' (F := Sha.rrow (.int .i64 384) (.int .i64 48) (.int .i64 128) (.int .i64 80) (vj) (Sha.bg 8 384 p) (fun i => U64 (BitVec.ofNat 64 (Sha.trn false i)))) (aa.step hw') rfl) (q_val (fun w' hw' => y_nc (ex (pt ab 0))) (q_val (v := pt ab 5) (fun w' hw' => y_off (y_fa (ex (pt ab 0)) (ShaMT.fa96_5 _ _)) ro) (q_val (v := pt ab (5 + ((Sha.pc p) - 8))) (fun w' hw' => y_off (y_ia1 (i := ((Sha.pc p) - 8)) (ex (pt ab 5)) ei Tryz.underlying93 ShaMT.sz92 om om) ro) (q_nil ?_)))))))))))
         intro b5 bc
         replace af := af.step bc
         replace aa := aa.step bc
         replace hk := thenB hk bc
         refine w_st (v := U64 (Sha.cutw false (BitVec.ofNat 64 (Sha.rt p 2 69)))) (ex (pt ab (5 + ((Sha.pc p) - 8)))) e6 rfl rfl ShaMT.sz92 aa om ?_
         clear aa; intro b6 aa bn _
         replace af := af.stepG bn ac
         replace hk := thenG hk bn om
         refine nt (wp_region_lit (w_mv (ei aj) (w_val (y_bin ei Ev.c (b_add om)) (w_as ei (wpList_nil (inb_n (then_n (wp_region_lit (w_mv (e6 al) (w_val (y_bin e6 (evc (U64 (1#64))) add64) (w_as e6 (wpList_nil ?_))))))))))))
         have ae : Sha.ip p = true := by simpa using hc10
         have aw := Sha.pc_yes p om ae
         exact then_n ⟨_, om, p + 1, vj, rfl, _, rfl, iv, iv, ar, ah, ak, (Eq.trans (b := .int .i64 ((((Sha.pc p) : Nat) : Int) + 1)) rfl (by congr 1; omega)), (Eq.trans (b := U64 ((BitVec.ofNat 64 p) + (1#64))) rfl (by exact congrArg U64 (BitVec.ofNat_add (n := 64) p 1).symm)), (aa.congr (fun j hj => by first | (exfalso; omega) | exact Sha.rr_a _ _ _ _ _ _ _ _ (Sha.bg_no 8 384 p om) j | exact Sha.rr_b _ _ _ _ _ _ _ _ _ (Sha.bg_no 8 384 p om) j | exact Sha.rr_d _ _ _ _ _ _ _ _ _ _ _ om (Sha.bg_yes 8 384 p _ aw om om (Sha.H_of_384 p om ae om om)) j)), (own_n (af.congr (fun j hj => by first | (with_reducible rfl) | ((try dsimp only); by_cases e : j < min (Sha.pc p) 80 * 1; (rw [if_pos e]); (rw [if_neg e, show j = Sha.pc p from by omega]; exact congrArg U64 (Sha.K_of false p om ae))))) om), ac, hk⟩
        ·skip
         refine wp_skip (then_n (wp_region_lit (w_mv (ei aj) (w_val (y_bin ei Ev.c (b_add om)) (w_as ei (wpList_nil (inb_n (then_n (wp_region_lit (w_mv (e6 al) (w_val (y_bin e6 (evc (U64 (1#64))) add64) (w_as e6 (wpList_nil ?_)))))))))))))
         have ae : Sha.ip p = true := by simpa using hc10
         have aw := Sha.pc_yes p om ae
         exact then_n ⟨_, om, p + 1, vj, rfl, _, rfl, iv, iv, ar, ah, ak, (Eq.trans (b := .int .i64 ((((Sha.pc p) : Nat) : Int) + 1)) rfl (by congr 1; omega)), (Eq.trans (b := U64 ((BitVec.ofNat 64 p) + (1#64))) rfl (by exact congrArg U64 (BitVec.ofNat_add (n := 64) p 1).symm)), (aa.congr (fun j hj => by first | (exfalso; omega) | exact Sha.rr_a _ _ _ _ _ _ _ _ (Sha.bg_no 8 384 p om) j | exact Sha.rr_b _ _ _ _ _ _ _ _ _ (Sha.bg_no 8 384 p om) j | exact Sha.rr_d _ _ _ _ _ _ _ _ _ _ _ om (Sha.bg_yes 8 384 p _ aw om om (Sha.H_of_384 p om ae om om)) j)), (own_n (af.congr (fun j hj => by first | (with_reducible rfl) | ((try dsimp only); by_cases e : j < min (Sha.pc p) 80 * 1; (rw [if_pos e]); (rw [if_neg e, show j = Sha.pc p from by omega]; exact congrArg U64 (Sha.K_of false p om ae))))) om), ac, hk⟩
       ·skip
        with_reducible refine w_skip ?_ ?_
        exact wn rfl rfl (eb (df ap))
        with_reducible refine w_skip ?_ ?_
        exact wn rfl rfl (eb (df ap))
        with_reducible refine w_skip ?_ ?_
        exact wn rfl rfl (eb (df ap))
        with_reducible refine w_skip ?_ ?_
        exact wn rfl rfl (eb (df ap))
        refine w_val (y_pick_f (eb (df ap)) Ev.c) (nt (c_ff eb (wp_skip (then_n (wp_region_lit (w_mv (ei aj) (w_val (y_bin ei Ev.c (b_add om)) (w_as ei (wpList_nil (inb_n (then_n (wp_region_lit (w_mv (e6 al) (w_val (y_bin e6 (evc (U64 (1#64))) add64) (w_as e6 (wpList_nil ?_))))))))))))))))
        have ae : Sha.ip p = true := by simpa using hc10
        have aw := Sha.pc_yes p om ae
        exact then_n ⟨_, om, p + 1, vj, rfl, _, rfl, iv, iv, ar, ah, ak, (Eq.trans (b := .int .i64 ((((Sha.pc p) : Nat) : Int) + 1)) rfl (by congr 1; omega)), (Eq.trans (b := U64 ((BitVec.ofNat 64 p) + (1#64))) rfl (by exact congrArg U64 (BitVec.ofNat_add (n := 64) p 1).symm)), (aa.congr (fun j hj => by first | (exfalso; omega) | exact Sha.rr_a _ _ _ _ _ _ _ _ (Sha.bg_no 8 384 p om) j | exact Sha.rr_b _ _ _ _ _ _ _ _ _ (Sha.bg_no 8 384 p om) j | exact Sha.rr_d _ _ _ _ _ _ _ _ _ _ _ om (Sha.bg_yes 8 384 p _ aw om om (Sha.H_of_384 p om ae om om)) j)), (own_n (af.congr (fun j hj => by first | (with_reducible rfl) | ((try dsimp only); by_cases e : j < min (Sha.pc p) 80 * 1; (rw [if_pos e]); (rw [if_neg e, show j = Sha.pc p from by omega]; exact congrArg U64 (Sha.K_of false p om ae))))) om), ac, hk⟩
  ·skip
   refine wp_exit (then_x (then_x (inb_x (then_n (sr (w_mv (ex (pt ab 0) bm) (w_as (ex (pt ab 0)) (nt (wp_ret (fin_ret1 rfl (ex (pt ab 0)) ?_))))))))))
   obtain ⟨bx, bk, bl, a8, bp, a3, a6⟩ := a7.opened om
   have au : ab ≠ bx := fun e => am (by rw [a3, e])
   have b1 : min (Sha.pc p) 80 = 80 := by omega
   rw [b1] at bl a6
   refine ⟨ab, bx, bk, rfl, ay, a8, au, aa.congr (fun j hj => ?_), a6, hk⟩
   rw [bl]; exact Sha.rr_a _ _ _ _ _ _ _ _ (fun i hi => if_pos om) j

theorem make_512  (w0 : World) : Calls Tryz.prog 29 #[.int .i64 512] w0 fun e w' => ∃ rp g cap, e = .returned (.pointer (some ⟨rp, 0, none⟩)) ∧ w0.heap.size ≤ rp ∧ w0.heap.size ≤ g ∧ rp ≠ g ∧ Row w' rp 96 25 (Sha.rrow (.int .i64 512) (.int .i64 64) (.int .i64 128) (.int .i64 80) (.slice (some ⟨g, 0, none⟩) 80 cap) (Sha.H0 512) (fun i => U64 (BitVec.ofNat 64 (Sha.trn false i)))) ∧ Row w' g 92 (80 * 1) (fun j => U64 (Sha.K false j)) ∧ Below w0.heap.size w0 w' := by
 refine enter (n := 88) Tryz.func29 rfl rfl rfl ?_
 have hk : Below w0.heap.size w0 w0 := Below.refl _ _
 refine sr (w_as Ev.c (nt (sr (w_mv ei (w_mv ei (w_val (y_bin ei Ev.c (b_quo om)) (w_val (v := .agg (arr 12 (fun j => if j < 1 then U64 (1#64) else if j < 2 then U64 (8#64) else if j < 3 then U64 (7#64) else if j < 4 then U64 (19#64) else if j < 5 then U64 (61#64) else if j < 6 then U64 (6#64) else if j < 7 then U64 (28#64) else if j < 8 then U64 (34#64) else if j < 9 then U64 (39#64) else if j < 10 then U64 (14#64) else if j < 11 then U64 (18#64) else U64 (41#64)))) (y_build (vs := #[(0, U64 (1#64)), (1, U64 (8#64)), (2, U64 (7#64)), (3, U64 (19#64)), (4, U64 (61#64)), (5, U64 (6#64)), (6, U64 (28#64)), (7, U64 (34#64)), (8, U64 (39#64)), (9, U64 (14#64)), (10, U64 (18#64)), (11, U64 (41#64))]) (mp_cons (evc (U64 (1#64))) (mp_cons (evc (U64 (8#64))) (mp_cons (evc (U64 (7#64))) (mp_cons (evc (U64 (19#64))) (mp_cons (evc (U64 (61#64))) (mp_cons (evc (U64 (6#64))) (mp_cons (evc (U64 (28#64))) (mp_cons (evc (U64 (34#64))) (mp_cons (evc (U64 (39#64))) (mp_cons (evc (U64 (14#64))) (mp_cons (evc (U64 (18#64))) (mp_cons (evc (U64 (41#64))) mp0)))))))))))) (fun w => by kernel_rfl)) (w_val (v := .agg (arr 25 (fun j => if j < 1 then .int .i64 512 else if j < 2 then .int .i64 64 else if j < 3 then .int .i64 128 else if j < 4 then .int .i64 80 else if j < 5 then .slice none 0 0 else if j < 13 then U64 (0#64) else U64 (BitVec.ofNat 64 (Sha.trn false (j - 13)))))) (y_build (vs := #[(0, .int .i64 512), (1, .int .i64 64), (2, .int .i64 128), (3, .int .i64 80), (6, .agg (arr 12 (fun j => if j < 1 then U64 (1#64) else if j < 2 then U64 (8#64) else if j < 3 then U64 (7#64) else if j < 4 then U64 (19#64) else if j < 5 then U64 (61#64) else if j < 6 then U64 (6#64) else if j < 7 then U64 (28#64) else if j < 8 then U64 (34#64) else if j < 9 then U64 (39#64) else if j < 10 then U64 (14#64) else if j < 11 then U64 (18#64) else U64 (41#64))))]) (mp_cons ei (mp_cons ei (mp_cons Ev.c (mp_cons Ev.c (mp_cons ea mp0))))) (fun w => by kernel_rfl)) (w_box (m := 25) (F := fun j => if j < 1 then .int .i64 512 else if j < 2 then .int .i64 64 else if j < 3 then .int .i64 128 else if j < 4 then .int .i64 80 else if j < 5 then .slice none 0 0 else if j < 13 then U64 (0#64) else U64 (BitVec.ofNat 64 (Sha.trn false (j - 13)))) ea rfl ?_)))))))))
 intro ab w1 av aa b2
 have ay := gb_ hk.size av
 clear av
 replace hk := thenB hk b2
 refine w_as (ex (pt ab 0)) (nt (sr (w_as Ev.c (nt (wp_seq (sr (w_mv ei (w_val (y_bin ei Ev.c b_eql) (nt (c_ff eb (wp_skip (then_n (wp_seq (sr (w_mv ei (w_val (y_bin ei Ev.c b_eql) (nt (c_ff eb (wp_skip (then_n (wp_seq ?_)))))))))))))))))))))
 replace aa := aa.congr (g := Sha.rrow (.int .i64 512) (.int .i64 64) (.int .i64 128) (.int .i64 80) (.slice none 0 0) (fun _ => 0#64) (fun i => U64 (BitVec.ofNat 64 (Sha.trn false i)))) (fun j hj => by rcases (by omega : j = 0 ∨ j = 1 ∨ j = 2 ∨ j = 3 ∨ j = 4 ∨ j = 5 ∨ j = 6 ∨ j = 7 ∨ j = 8 ∨ j = 9 ∨ j = 10 ∨ j = 11 ∨ j = 12 ∨ j = 13 ∨ j = 14 ∨ j = 15 ∨ j = 16 ∨ j = 17 ∨ j = 18 ∨ j = 19 ∨ j = 20 ∨ j = 21 ∨ j = 22 ∨ j = 23 ∨ j = 24) with h | h | h | h | h | h | h | h | h | h | h | h | h | h | h | h | h | h | h | h | h | h | h | h | h <;> (subst h; rfl))
 refine wp_region_lit (w_as Ev.c (nt (wp_seq (sr (w_as (evc (U64 (2#64))) (nt (wp_block ?_)))))))
 refine c_loop (fun dN aN wl => ∃ (p : Nat) (vk : Value), dN = (410 - p) ∧ ∃ f3, aN = fr 88 f3 ∧ (2 ≤ p) ∧ (p ≤ 410) ∧ f3 2 = .pointer none ∧ f3 3 = pt ab 0 ∧ f3 4 = .int .i64 0 ∧ f3 5 = .int .i64 (((Sha.pc p) : Nat) : Int) ∧ f3 6 = U64 (BitVec.ofNat 64 p) ∧ Row wl ab 96 25 (Sha.rrow (.int .i64 512) (.int .i64 64) (.int .i64 128) (.int .i64 80) (vk) (Sha.bg 0 512 p) (fun i => U64 (BitVec.ofNat 64 (Sha.trn false i)))) ∧ Own wl w0.heap.size 92 1 vk (min (Sha.pc p) 80) (fun j => U64 (Sha.K false j)) ∧ vk.ownBlock ≠ some ab ∧ Below w0.heap.size w0 wl) (410 - 2) ?_ ?_
 · exact ⟨2, (.slice none 0 0), rfl, _, rfl, iv, iv, rfl, rfl, rfl, (Eq.trans (b := .int .i64 0) rfl (by rfl)), (Eq.trans (b := U64 (2#64)) rfl (by rfl)), (aa.congr (fun j hj => by rcases (by omega : j = 0 ∨ j = 1 ∨ j = 2 ∨ j = 3 ∨ j = 4 ∨ j = 5 ∨ j = 6 ∨ j = 7 ∨ j = 8 ∨ j = 9 ∨ j = 10 ∨ j = 11 ∨ j = 12 ∨ j = 13 ∨ j = 14 ∨ j = 15 ∨ j = 16 ∨ j = 17 ∨ j = 18 ∨ j = 19 ∨ j = 20 ∨ j = 21 ∨ j = 22 ∨ j = 23 ∨ j = 24) with h | h | h | h | h | h | h | h | h | h | h | h | h | h | h | h | h | h | h | h | h | h | h | h | h <;> (subst h; rfl))), Own.nil, (fun e => by cases e), hk⟩
 ·skip
  clear aa hk
  rintro _ _ w4 ⟨p, vk, rfl, f3, rfl, bz, bq, bs, bm, bt, bi, bu, aa, a7, am, hk⟩
  have ca := Sha.pc_lt p bq
  have bh : (BitVec.ofNat 64 p).toNat = p := by rw [BitVec.toNat_ofNat]; omega
  refine wp_seq (sr (w_mv (ei bi) (w_val (y_bin ei Ev.c b_lss) (nt ?_))))
  refine c_if (p := (((Sha.pc p) : Nat) : Int) < 80) eb (fun hc5 => ?_) (fun hc5 => ?_)
  ·skip
   refine wp_skip (then_n (wp_seq (wp_block (sr (w_as Ev.c (nt (wp_seq (sr (w_as (evc (U64 (2#64))) (nt (wp_block ?_)))))))))))
   refine c_loop (fun dN aN wl => ∃ (q : Nat) (vj : Value), dN = (22 - q) ∧ ∃ f6, aN = fr 88 f6 ∧ (2 ≤ q) ∧ (q ≤ 21) ∧ (q = 2 ∨ (q - 1) * (q - 1) ≤ p) ∧ f6 2 = .pointer none ∧ f6 3 = pt ab 0 ∧ f6 4 = .int .i64 0 ∧ f6 5 = .int .i64 (((Sha.pc p) : Nat) : Int) ∧ f6 6 = U64 (BitVec.ofNat 64 p) ∧ f6 7 = .bool (Sha.np p q) ∧ f6 8 = U64 (BitVec.ofNat 64 q) ∧ Row wl ab 96 25 (Sha.rrow (.int .i64 512) (.int .i64 64) (.int .i64 128) (.int .i64 80) (vj) (Sha.bg 0 512 p) (fun i => U64 (BitVec.ofNat 64 (Sha.trn false i)))) ∧ Own wl w0.heap.size 92 1 vj (min (Sha.pc p) 80) (fun j => U64 (Sha.K false j)) ∧ vj.ownBlock ≠ some ab ∧ Below w0.heap.size w0 wl) (22 - 2) ?_ ?_
   · exact ⟨2, vk, rfl, _, rfl, iv, (by decide), (by exact Or.inl rfl), bs, bm, bt, bi, bu, (Eq.trans (b := .bool true) rfl (by exact congrArg Value.bool (Sha.np_two p).symm)), (Eq.trans (b := U64 (2#64)) rfl (by rfl)), (aa.congr (fun j hj => by rfl)), a7, am, hk⟩
   ·skip
    clear aa a7 hk
    rintro _ _ w7 ⟨q, vj, rfl, f6, rfl, b4, b0, bw, ar, ah, ak, aj, al, bf, ax, aa, af, ac, hk⟩
    refine wp_seq (sr (w_mv (e6 ax) (w_mv (e6 ax) (w_val (y_bin e6 e6 mul64) (w_mv (e6 al) (w_val (y_bin e6 e6 leq64) (nt ?_)))))))
    refine c_if (p := ((BitVec.ofNat 64 q) * (BitVec.ofNat 64 q)).toNat ≤ (BitVec.ofNat 64 p).toNat) eb (fun hc8 => ?_) (fun hc8 => ?_)
    ·skip
     refine wp_skip (then_n (wp_seq (wp_block (sr (w_mv (e6 al) (w_mv (e6 ax) (w_val (y_bin e6 e6 (rem64 (by exact Sha.ofNat_ne q om om))) (w_val (y_bin e6 (evc (U64 (0#64))) eql64) (nt ?_)))))))))
     refine c_if (p := ((BitVec.ofNat 64 p) % (BitVec.ofNat 64 q)) = (0#64)) eb (fun hc9 => ?_) (fun hc9 => ?_)
     ·skip
      refine wp_region_lit (w_as Ev.c (wpList_nil (inb_n (then_n (wp_region_lit (w_mv (e6 ax) (w_val (y_bin e6 (evc (U64 (1#64))) add64) (w_as e6 (wpList_nil ?_)))))))))
      exact then_n ⟨_, om, q + 1, vj, rfl, _, rfl, iv, (by have := Sha.sq_le q p om (by rw [Sha.sq_word q om, bh] at *; omega); omega), (by refine Or.inr ?_; rw [show q + 1 - 1 = q from by omega]; rw [Sha.sq_word q om, bh] at *; omega), ar, ah, ak, aj, al, (Eq.trans (b := .bool false) rfl (by first | exact congrArg Value.bool (Sha.np_div p q om om om (by assumption)).symm | exact congrArg Value.bool (Sha.np_no p q om om om (by assumption)).symm)), (Eq.trans (b := U64 ((BitVec.ofNat 64 q) + (1#64))) rfl (by exact congrArg U64 (BitVec.ofNat_add (n := 64) q 1).symm)), aa, af, ac, hk⟩
     ·skip
      refine wp_skip (inb_n (then_n (wp_region_lit (w_mv (e6 ax) (w_val (y_bin e6 (evc (U64 (1#64))) add64) (w_as e6 (wpList_nil ?_)))))))
      exact then_n ⟨_, om, q + 1, vj, rfl, _, rfl, iv, (by have := Sha.sq_le q p om (by rw [Sha.sq_word q om, bh] at *; omega); omega), (by refine Or.inr ?_; rw [show q + 1 - 1 = q from by omega]; rw [Sha.sq_word q om, bh] at *; omega), ar, ah, ak, aj, al, (by refine Eq.trans (b := .bool (Sha.np p q)) ?_ ?_; exact bf; (first | exact congrArg Value.bool (Sha.np_div p q om om om (by assumption)).symm | exact congrArg Value.bool (Sha.np_no p q om om om (by assumption)).symm)), (Eq.trans (b := U64 ((BitVec.ofNat 64 q) + (1#64))) rfl (by exact congrArg U64 (BitVec.ofNat_add (n := 64) q 1).symm)), aa, af, ac, hk⟩
    ·skip
     refine wp_exit (then_x (then_x (inb_x (then_n (wp_seq (sr ?_))))))
     refine w_mv (ex (.bool (Sha.ip p)) (by refine Eq.trans (b := .bool (Sha.np p q)) ?_ ?_; exact bf; (exact congrArg Value.bool (Sha.np_done p q om om om om bw (by rw [Sha.sq_word q om, bh] at *; omega))))) ?_
     refine w_val (y_not eb) (nt ?_)
     refine c_ifb eb (fun hc10 => ?_) (fun hc10 => ?_)
     ·skip
      refine wp_exit (then_x (inb_x (then_n (wp_region_lit (w_mv (e6 al) (w_val (y_bin e6 (evc (U64 (1#64))) add64) (w_as e6 (wpList_nil ?_))))))))
      have aw := Sha.pc_no p om (by simpa using hc10)
      exact then_n ⟨_, om, p + 1, vj, rfl, _, rfl, iv, iv, ar, ah, ak, (by refine Eq.trans (b := .int .i64 (((Sha.pc p) : Nat) : Int)) ?_ ?_; exact aj; (congr 1; omega)), (Eq.trans (b := U64 ((BitVec.ofNat 64 p) + (1#64))) rfl (by exact congrArg U64 (BitVec.ofNat_add (n := 64) p 1).symm)), (aa.congr (fun j hj => by first | (exfalso; omega) | exact Sha.rr_a _ _ _ _ _ _ _ _ (Sha.bg_no 0 512 p om) j | exact Sha.rr_b _ _ _ _ _ _ _ _ _ (Sha.bg_no 0 512 p om) j | exact Sha.rr_d _ _ _ _ _ _ _ _ _ _ _ om (Sha.bg_yes 0 512 p _ aw om om (Sha.H_of_512 p om ae om)) j)), (own_n (af.congr (fun j hj => by first | (with_reducible rfl) | ((try dsimp only); by_cases e : j < min (Sha.pc p) 80 * 1; (rw [if_pos e]); (rw [if_neg e, show j = Sha.pc p from by omega]; exact congrArg U64 (Sha.K_of false p om ae))))) om), ac, hk⟩
     ·skip
      refine wp_skip (then_n (wp_seq (sr (w_mv (ei aj) (w_mv (ex (pt ab 0) ah) (w_val (y_nc (ex (pt ab 0))) (w_val (v := pt ab 3) (y_off (y_fa (ex (pt ab 0)) (ShaMT.fa96_3 _ _)) ro) (w_val (v := .int .i64 80) (y_ld (ex (pt ab 3)) ShaMT.sc3 (aa.val om (ng (ng (ng pz))))) (w_val (y_bin ei ei b_lss) (nt ?_))))))))))
      refine c_if (p := (((Sha.pc p) : Nat) : Int) < 80) eb (fun hc11 => ?_) (fun hc11 => ?_)
      ·skip
       refine region_dc (Nat.testBit 15360) 14 ShaMT.mixed rfl ?_
       intro bv a9
       replace af := af.step a9
       replace aa := aa.step a9
       replace hk := thenB hk a9
       have hS : Cls bv bv := Below.refl _ _
       refine dp 0 rfl (fun w' => y_mv (ex (pt ab 0) ah)) (dp 1 rfl (fun w' => y_mv (ex (pt ab 0) ah)) (dp (v := pt ab 0) 2 rfl (fun w' => y_nc (ex (pt ab 0))) (dp (v := pt ab 4) 3 rfl (fun w' => y_off (y_fa (ex (pt ab 0)) (ShaMT.fa96_4 _ _)) ro) (d_take (v := vj) 4 (Nat.testBit 15376) rfl kr kr kr kr kr kr (fun _ _ _ h => h) hS (fun w' hw' => y_ld (ex (pt ab 4)) ShaMT.sc91 (cls_cell (aa.val om (ng (ng (ng (ng pz))))) aa.lt w' hw')) (dp 5 rfl (fun w' => y_mv (ex (pt ab 0) ah)) (dp 6 rfl (fun w' => y_mv (e6 al)) (d_one 7 kr rfl (w_call (Tryz.func40) kr rfl (m2 e6 Ev.c) (root_3 p om bv) ?_))))))))
       rintro _ b3 ⟨rfl, a0⟩
       refine ⟨_, rfl, ?_⟩
       replace af := af.step a0
       replace aa := aa.step a0
       replace hk := thenB hk a0
       replace hS := thenB hS a0
       refine wpList_nil ?_
       refine then_n ⟨fun _ h => thenB h (by assumption), ?_⟩
       refine d_one 8 kr rfl (w_call (Tryz.func39) kr rfl (m2 (ex (pt ab 0)) e6) (cut_f ab (BitVec.ofNat 64 (Sha.rt p 3 69)) 512 (by decide) b3 (F := Sha.rrow (.int .i64 512) (.int .i64 64) (.int .i64 128) (.int .i64 80) (vj) (Sha.bg 0 512 p) (fun i => U64 (BitVec.ofNat 64 (Sha.trn false i)))) aa rfl) ?_)
       rintro _ cc ⟨rfl, a4⟩
       refine ⟨_, rfl, ?_⟩
       replace af := af.step a4
       replace aa := aa.step a4
       replace hk := thenB hk a4
       replace hS := thenB hS a4
       refine wpList_nil ?_
       refine then_n ⟨fun _ h => thenB h (by assumption), ?_⟩
       refine d_one 9 kr rfl (w_bs1 (m := 1) (e := 92) (F := fun j => U64 (Sha.cutw false (BitVec.ofNat 64 (Sha.rt p 3 69)))) e6 (fun w => by kernel_rfl) ?_)
       intro br cd an ag a2
       have a1 := aa.nb an
       have ao : vj.ownBlock ≠ some br := af.apart om
       have bo := gb_ hk.size an
       clear an
       replace af := af.step a2
       replace aa := aa.step a2
       replace hk := thenB hk a2
       replace hS := thenB hS a2
       refine wpList_nil ?_
       refine then_n ⟨fun _ h => thenB h (by assumption), ?_⟩
       refine d_one 10 kr rfl (w_app (k := (min (Sha.pc p) 80)) (m := 1) (size := 1) (bytes := 8) (ex vj) el Tryz.underlying91 kr (by decide) af hk.size ag om oca (by simp only [maxLen]; omega) om ?_)
       intro be b8 ai bd bj
       have ad := no_new ac aa.lt bj
       replace aa := aa.stepO bd ac
       have a5 := no_new ao ag.lt bj
       replace ag := ag.stepO bd ao
       replace hk := thenO hk bd (fun g e => (af.block_lt g e).2)
       clear af
       clear hS
       refine wpList_nil ?_
       refine then_n ⟨fun hD => absurd hD (by decide), ?_⟩
       refine d_one 11 kr rfl (w_val (y_nc (ex (pt ab 0))) (wpList_nil ?_))
       refine then_n ⟨fun hD => absurd hD (by decide), ?_⟩
       refine d_one 12 kr rfl (w_val (v := pt ab 4) (y_off (y_fa (ex (pt ab 0)) (ShaMT.fa96_4 _ _)) ro) (wpList_nil ?_))
       refine then_n ⟨fun hD => absurd hD (by decide), ?_⟩
       refine d_one 13 kr rfl (w_st (v := be) (ex (pt ab 4)) (ex be) (ai.one) (ai.cells) ShaMT.sz91 aa om ?_)
       clear aa; intro b9 aa ba _
       replace ai := ai.stepG ba ad
       replace ag := ag.stepG ba om
       replace hk := thenG hk ba om
       refine wpList_nil ?_
       refine then_n ⟨fun hD => absurd hD (by decide), ?_⟩
       refine d_done kr (then_n (wp_seq (sr (w_mv (ei aj) (w_mv (ei ak) (w_val (y_bin ei ei b_geq) (w_mv eb ?_)))))))
       by_cases aq : 0 ≤ (((Sha.pc p) : Nat) : Int)
       ·skip
        refine w_val_g (v := .int .i64 (((Sha.pc p) : Nat) : Int)) (wy rfl rfl (eb (dt aq))) (y_mv (ei aj)) (w_val_g (v := .int .i64 0) (wy rfl rfl (eb (dt aq))) (y_mv (ei ak)) (w_val_g (wy rfl rfl (eb (dt aq))) (y_bin ei Ev.c (b_add om)) (w_val_g (wy rfl rfl (eb (dt aq))) (y_bin ei ei b_lss) (w_val (y_pick_t (eb (dt aq)) eb) (nt ?_)))))
        refine c_if (p := (((Sha.pc p) : Nat) : Int) < 8) eb (fun hc27 => ?_) (fun hc27 => ?_)
        ·skip
         refine region_t 11 ShaMT.mixed kr ?_
         simp only [List.take_succ_cons, List.take_zero, List.drop_succ_cons, List.drop_zero]
         refine q_mv (ex (pt ab 0) ah) (q_mv (ei aj) (q_mv (ei ak) (q_val (fun w' hw' => y_bin ei ei (b_sub om)) (q_mv (ex (pt ab 0) ah) (q_mv (e6 al) (q_call (v := U64 (BitVec.ofNat 64 (Sha.rt p 2 69))) (Tryz.func40) kr rfl (m2 e6 Ev.c) (fun w' hw' => root_2 p om w') (q_call (v := U64 (Sha.cutw false (BitVec.ofNat 64 (Sha.rt p 2 69)))) (Tryz.func39) kr rfl (m2 (ex (pt ab 0)) e6) (fun w' hw' => cut_f ab (BitVec.ofNat 64 (Sha.rt p 2 69)) 512 (by decide) w' (F := fun j => if j = 4 then be else (Sha.rrow (.int .i64 512) (.int .i64 64) (.int .i64 128) (.int .i64 80) (vj) (Sha.bg 0 512 p) (fun i => U64 (BitVec.ofNat 64 (Sha.trn false i)))) j) (aa.step hw') rfl) (q_val (fun w' hw' => y_nc (ex (pt ab 0))) (q_val (v := pt ab 5) (fun w' hw' => y_off (y_fa (ex (pt ab 0)) (ShaMT.fa96_5 _ _)) ro) (q_val (v := pt ab (5 + ((Sha.pc p) - 0))) (fun w' hw' => y_off (y_ia1 (i := ((Sha.pc p) - 0)) (ex (pt ab 5)) ei Tryz.underlying93 ShaMT.sz92 om om) ro) (q_nil ?_)))))))))))
         intro cb az
         replace ai := ai.step az
         replace aa := aa.step az
         replace ag := ag.step az
         replace hk := thenB hk az
         refine w_st (v := U64 (Sha.cutw false (BitVec.ofNat 64 (Sha.rt p 2 69)))) (ex (pt ab (5 + ((Sha.pc p) - 0)))) e6 rfl rfl ShaMT.sz92 aa om ?_
         clear aa; intro b7 aa bb _
         replace ai := ai.stepG bb ad
         replace ag := ag.stepG bb om
         replace hk := thenG hk bb om
         refine nt (wp_region_lit (w_mv (ei aj) (w_val (y_bin ei Ev.c (b_add om)) (w_as ei (wpList_nil (inb_n (then_n (wp_region_lit (w_mv (e6 al) (w_val (y_bin e6 (evc (U64 (1#64))) add64) (w_as e6 (wpList_nil ?_))))))))))))
         have ae : Sha.ip p = true := by simpa using hc10
         have aw := Sha.pc_yes p om ae
         exact then_n ⟨_, om, p + 1, be, rfl, _, rfl, iv, iv, ar, ah, ak, (Eq.trans (b := .int .i64 ((((Sha.pc p) : Nat) : Int) + 1)) rfl (by congr 1; omega)), (Eq.trans (b := U64 ((BitVec.ofNat 64 p) + (1#64))) rfl (by exact congrArg U64 (BitVec.ofNat_add (n := 64) p 1).symm)), (aa.congr (fun j hj => by first | (exfalso; omega) | exact Sha.rr_a _ _ _ _ _ _ _ _ (Sha.bg_no 0 512 p om) j | exact Sha.rr_b _ _ _ _ _ _ _ _ _ (Sha.bg_no 0 512 p om) j | exact Sha.rr_d _ _ _ _ _ _ _ _ _ _ _ om (Sha.bg_yes 0 512 p _ aw om om (Sha.H_of_512 p om ae om)) j)), (own_n (ai.congr (fun j hj => by first | (with_reducible rfl) | ((try dsimp only); by_cases e : j < min (Sha.pc p) 80 * 1; (rw [if_pos e]); (rw [if_neg e, show j = Sha.pc p from by omega]; exact congrArg U64 (Sha.K_of false p om ae))))) om), ad, hk⟩
        ·skip
         refine wp_skip (then_n (wp_region_lit (w_mv (ei aj) (w_val (y_bin ei Ev.c (b_add om)) (w_as ei (wpList_nil (inb_n (then_n (wp_region_lit (w_mv (e6 al) (w_val (y_bin e6 (evc (U64 (1#64))) add64) (w_as e6 (wpList_nil ?_)))))))))))))
         have ae : Sha.ip p = true := by simpa using hc10
         have aw := Sha.pc_yes p om ae
         exact then_n ⟨_, om, p + 1, be, rfl, _, rfl, iv, iv, ar, ah, ak, (Eq.trans (b := .int .i64 ((((Sha.pc p) : Nat) : Int) + 1)) rfl (by congr 1; omega)), (Eq.trans (b := U64 ((BitVec.ofNat 64 p) + (1#64))) rfl (by exact congrArg U64 (BitVec.ofNat_add (n := 64) p 1).symm)), (aa.congr (fun j hj => by first | (exfalso; omega) | exact Sha.rr_a _ _ _ _ _ _ _ _ (Sha.bg_no 0 512 p om) j | exact Sha.rr_b _ _ _ _ _ _ _ _ _ (Sha.bg_no 0 512 p om) j | exact Sha.rr_d _ _ _ _ _ _ _ _ _ _ _ om (Sha.bg_yes 0 512 p _ aw om om (Sha.H_of_512 p om ae om)) j)), (own_n (ai.congr (fun j hj => by first | (with_reducible rfl) | ((try dsimp only); by_cases e : j < min (Sha.pc p) 80 * 1; (rw [if_pos e]); (rw [if_neg e, show j = Sha.pc p from by omega]; exact congrArg U64 (Sha.K_of false p om ae))))) om), ad, hk⟩
       ·skip
        with_reducible refine w_skip ?_ ?_
        exact wn rfl rfl (eb (df aq))
        with_reducible refine w_skip ?_ ?_
        exact wn rfl rfl (eb (df aq))
        with_reducible refine w_skip ?_ ?_
        exact wn rfl rfl (eb (df aq))
        with_reducible refine w_skip ?_ ?_
        exact wn rfl rfl (eb (df aq))
        refine w_val (y_pick_f (eb (df aq)) Ev.c) (nt (c_ff eb (wp_skip (then_n (wp_region_lit (w_mv (ei aj) (w_val (y_bin ei Ev.c (b_add om)) (w_as ei (wpList_nil (inb_n (then_n (wp_region_lit (w_mv (e6 al) (w_val (y_bin e6 (evc (U64 (1#64))) add64) (w_as e6 (wpList_nil ?_))))))))))))))))
        have ae : Sha.ip p = true := by simpa using hc10
        have aw := Sha.pc_yes p om ae
        exact then_n ⟨_, om, p + 1, be, rfl, _, rfl, iv, iv, ar, ah, ak, (Eq.trans (b := .int .i64 ((((Sha.pc p) : Nat) : Int) + 1)) rfl (by congr 1; omega)), (Eq.trans (b := U64 ((BitVec.ofNat 64 p) + (1#64))) rfl (by exact congrArg U64 (BitVec.ofNat_add (n := 64) p 1).symm)), (aa.congr (fun j hj => by first | (exfalso; omega) | exact Sha.rr_a _ _ _ _ _ _ _ _ (Sha.bg_no 0 512 p om) j | exact Sha.rr_b _ _ _ _ _ _ _ _ _ (Sha.bg_no 0 512 p om) j | exact Sha.rr_d _ _ _ _ _ _ _ _ _ _ _ om (Sha.bg_yes 0 512 p _ aw om om (Sha.H_of_512 p om ae om)) j)), (own_n (ai.congr (fun j hj => by first | (with_reducible rfl) | ((try dsimp only); by_cases e : j < min (Sha.pc p) 80 * 1; (rw [if_pos e]); (rw [if_neg e, show j = Sha.pc p from by omega]; exact congrArg U64 (Sha.K_of false p om ae))))) om), ad, hk⟩
      ·skip
       refine wp_skip (then_n (wp_seq (sr (w_mv (ei aj) (w_mv (ei ak) (w_val (y_bin ei ei b_geq) (w_mv eb ?_)))))))
       by_cases ap : 0 ≤ (((Sha.pc p) : Nat) : Int)
       ·skip
        refine w_val_g (v := .int .i64 (((Sha.pc p) : Nat) : Int)) (wy rfl rfl (eb (dt ap))) (y_mv (ei aj)) (w_val_g (v := .int .i64 0) (wy rfl rfl (eb (dt ap))) (y_mv (ei ak)) (w_val_g (wy rfl rfl (eb (dt ap))) (y_bin ei Ev.c (b_add om)) (w_val_g (wy rfl rfl (eb (dt ap))) (y_bin ei ei b_lss) (w_val (y_pick_t (eb (dt ap)) eb) (nt ?_)))))
        refine c_if (p := (((Sha.pc p) : Nat) : Int) < 8) eb (fun hc33 => ?_) (fun hc33 => ?_)
        ·skip
         refine region_t 11 ShaMT.mixed kr ?_
         simp only [List.take_succ_cons, List.take_zero, List.drop_succ_cons, List.drop_zero]
         refine q_mv (ex (pt ab 0) ah) (q_mv (ei aj) (q_mv (ei ak) (q_val (fun w' hw' => y_bin ei ei (b_sub om)) (q_mv (ex (pt ab 0) ah) (q_mv (e6 al) (q_call (v := U64 (BitVec.ofNat 64 (Sha.rt p 2 69))) (Tryz.func40) kr rfl (m2 e6 Ev.c) (fun w' hw' => root_2 p om w') (q_call (v := U64 (Sha.cutw false (BitVec.ofNat 64 (Sha.rt p 2 69)))) (Tryz.func39) kr rfl (m2 (ex (pt ab 0)) e6) (fun w' hw' => cut_f ab (BitVec.ofNat 64 (Sha.rt p 2 69)) 512 (by decide) w' (F := Sha.rrow (.int .i64 512) (.int .i64 64) (.int .i64 128) (.int .i64 80) (vj) (Sha.bg 0 512 p) (fun i => U64 (BitVec.ofNat 64 (Sha.trn false i)))) (aa.step hw') rfl) (q_val (fun w' hw' => y_nc (ex (pt ab 0))) (q_val (v := pt ab 5) (fun w' hw' => y_off (y_fa (ex (pt ab 0)) (ShaMT.fa96_5 _ _)) ro) (q_val (v := pt ab (5 + ((Sha.pc p) - 0))) (fun w' hw' => y_off (y_ia1 (i := ((Sha.pc p) - 0)) (ex (pt ab 5)) ei Tryz.underlying93 ShaMT.sz92 om om) ro) (q_nil ?_)))))))))))
         intro b5 bc
         replace af := af.step bc
         replace aa := aa.step bc
         replace hk := thenB hk bc
         refine w_st (v := U64 (Sha.cutw false (BitVec.ofNat 64 (Sha.rt p 2 69)))) (ex (pt ab (5 + ((Sha.pc p) - 0)))) e6 rfl rfl ShaMT.sz92 aa om ?_
         clear aa; intro b6 aa bn _
         replace af := af.stepG bn ac
         replace hk := thenG hk bn om
         refine nt (wp_region_lit (w_mv (ei aj) (w_val (y_bin ei Ev.c (b_add om)) (w_as ei (wpList_nil (inb_n (then_n (wp_region_lit (w_mv (e6 al) (w_val (y_bin e6 (evc (U64 (1#64))) add64) (w_as e6 (wpList_nil ?_))))))))))))
         have ae : Sha.ip p = true := by simpa using hc10
         have aw := Sha.pc_yes p om ae
         exact then_n ⟨_, om, p + 1, vj, rfl, _, rfl, iv, iv, ar, ah, ak, (Eq.trans (b := .int .i64 ((((Sha.pc p) : Nat) : Int) + 1)) rfl (by congr 1; omega)), (Eq.trans (b := U64 ((BitVec.ofNat 64 p) + (1#64))) rfl (by exact congrArg U64 (BitVec.ofNat_add (n := 64) p 1).symm)), (aa.congr (fun j hj => by first | (exfalso; omega) | exact Sha.rr_a _ _ _ _ _ _ _ _ (Sha.bg_no 0 512 p om) j | exact Sha.rr_b _ _ _ _ _ _ _ _ _ (Sha.bg_no 0 512 p om) j | exact Sha.rr_d _ _ _ _ _ _ _ _ _ _ _ om (Sha.bg_yes 0 512 p _ aw om om (Sha.H_of_512 p om ae om)) j)), (own_n (af.congr (fun j hj => by first | (with_reducible rfl) | ((try dsimp only); by_cases e : j < min (Sha.pc p) 80 * 1; (rw [if_pos e]); (rw [if_neg e, show j = Sha.pc p from by omega]; exact congrArg U64 (Sha.K_of false p om ae))))) om), ac, hk⟩
        ·skip
         refine wp_skip (then_n (wp_region_lit (w_mv (ei aj) (w_val (y_bin ei Ev.c (b_add om)) (w_as ei (wpList_nil (inb_n (then_n (wp_region_lit (w_mv (e6 al) (w_val (y_bin e6 (evc (U64 (1#64))) add64) (w_as e6 (wpList_nil ?_)))))))))))))
         have ae : Sha.ip p = true := by simpa using hc10
         have aw := Sha.pc_yes p om ae
         exact then_n ⟨_, om, p + 1, vj, rfl, _, rfl, iv, iv, ar, ah, ak, (Eq.trans (b := .int .i64 ((((Sha.pc p) : Nat) : Int) + 1)) rfl (by congr 1; omega)), (Eq.trans (b := U64 ((BitVec.ofNat 64 p) + (1#64))) rfl (by exact congrArg U64 (BitVec.ofNat_add (n := 64) p 1).symm)), (aa.congr (fun j hj => by first | (exfalso; omega) | exact Sha.rr_a _ _ _ _ _ _ _ _ (Sha.bg_no 0 512 p om) j | exact Sha.rr_b _ _ _ _ _ _ _ _ _ (Sha.bg_no 0 512 p om) j | exact Sha.rr_d _ _ _ _ _ _ _ _ _ _ _ om (Sha.bg_yes 0 512 p _ aw om om (Sha.H_of_512 p om ae om)) j)), (own_n (af.congr (fun j hj => by first | (with_reducible rfl) | ((try dsimp only); by_cases e : j < min (Sha.pc p) 80 * 1; (rw [if_pos e]); (rw [if_neg e, show j = Sha.pc p from by omega]; exact congrArg U64 (Sha.K_of false p om ae))))) om), ac, hk⟩
       ·skip
        with_reducible refine w_skip ?_ ?_
        exact wn rfl rfl (eb (df ap))
        with_reducible refine w_skip ?_ ?_
        exact wn rfl rfl (eb (df ap))
        with_reducible refine w_skip ?_ ?_
        exact wn rfl rfl (eb (df ap))
        with_reducible refine w_skip ?_ ?_
        exact wn rfl rfl (eb (df ap))
        refine w_val (y_pick_f (eb (df ap)) Ev.c) (nt (c_ff eb (wp_skip (then_n (wp_region_lit (w_mv (ei aj) (w_val (y_bin ei Ev.c (b_add om)) (w_as ei (wpList_nil (inb_n (then_n (wp_region_lit (w_mv (e6 al) (w_val (y_bin e6 (evc (U64 (1#64))) add64) (w_as e6 (wpList_nil ?_))))))))))))))))
        have ae : Sha.ip p = true := by simpa using hc10
        have aw := Sha.pc_yes p om ae
        exact then_n ⟨_, om, p + 1, vj, rfl, _, rfl, iv, iv, ar, ah, ak, (Eq.trans (b := .int .i64 ((((Sha.pc p) : Nat) : Int) + 1)) rfl (by congr 1; omega)), (Eq.trans (b := U64 ((BitVec.ofNat 64 p) + (1#64))) rfl (by exact congrArg U64 (BitVec.ofNat_add (n := 64) p 1).symm)), (aa.congr (fun j hj => by first | (exfalso; omega) | exact Sha.rr_a _ _ _ _ _ _ _ _ (Sha.bg_no 0 512 p om) j | exact Sha.rr_b _ _ _ _ _ _ _ _ _ (Sha.bg_no 0 512 p om) j | exact Sha.rr_d _ _ _ _ _ _ _ _ _ _ _ om (Sha.bg_yes 0 512 p _ aw om om (Sha.H_of_512 p om ae om)) j)), (own_n (af.congr (fun j hj => by first | (with_reducible rfl) | ((try dsimp only); by_cases e : j < min (Sha.pc p) 80 * 1; (rw [if_pos e]); (rw [if_neg e, show j = Sha.pc p from by omega]; exact congrArg U64 (Sha.K_of false p om ae))))) om), ac, hk⟩
  ·skip
   refine wp_exit (then_x (then_x (inb_x (then_n (sr (w_mv (ex (pt ab 0) bm) (w_as (ex (pt ab 0)) (nt (wp_ret (fin_ret1 rfl (ex (pt ab 0)) ?_))))))))))
   obtain ⟨bx, bk, bl, a8, bp, a3, a6⟩ := a7.opened om
   have au : ab ≠ bx := fun e => am (by rw [a3, e])
   have b1 : min (Sha.pc p) 80 = 80 := by omega
   rw [b1] at bl a6
   refine ⟨ab, bx, bk, rfl, ay, a8, au, aa.congr (fun j hj => ?_), a6, hk⟩
   rw [bl]; exact Sha.rr_a _ _ _ _ _ _ _ _ (fun i hi => if_pos om) j
end Go.Proofs.YtdmbfimjbmfbaaaGreatDoor
