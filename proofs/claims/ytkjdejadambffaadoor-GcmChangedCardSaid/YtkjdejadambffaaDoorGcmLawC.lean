/-
  The law GcmChanged answers true. No conditions.
-/
import Derived.Test.YtkjdejadambffaaDoorRows
import Derived.Test.YtkjdejadambffaaDoorGcmWakes
import Derived.Test.YtkjdejadambffaaDoorGen
import Derived.ProofKit
namespace Go.Proofs.YtkjdejadambffaaDoor
open Go.RowKit
set_option linter.unusedSimpArgs false
set_option linter.unusedVariables false
set_option maxRecDepth 100000
set_option maxHeartbeats 1000000
namespace GcmLawCT
theorem mixed : Tryd.prog.follows .mixedOrders = true := by kernel_rfl
theorem ag23 : (Tryd.prog.underlying 23).map isAggD = some true := by rw [Tryd.underlying23]; rfl
theorem ag33 : (Tryd.prog.underlying 33).map isAggD = some true := by rw [Tryd.underlying33]; rfl
theorem fa23_0 (g off : Nat) : ∀ w, (Instr.fieldAt 23 (.pointer (some ⟨g, off, none⟩)) 0).run Tryd.prog w = .ok (.pointer (some ⟨g, off + 0, none⟩)) w := fun w => by kernel_rfl
theorem fa23_1 (g off : Nat) : ∀ w, (Instr.fieldAt 23 (.pointer (some ⟨g, off, none⟩)) 1).run Tryd.prog w = .ok (.pointer (some ⟨g, off + 1, none⟩)) w := fun w => by kernel_rfl
theorem fa23_2 (g off : Nat) : ∀ w, (Instr.fieldAt 23 (.pointer (some ⟨g, off, none⟩)) 2).run Tryd.prog w = .ok (.pointer (some ⟨g, off + 2, none⟩)) w := fun w => by kernel_rfl
theorem fa23_3 (g off : Nat) : ∀ w, (Instr.fieldAt 23 (.pointer (some ⟨g, off, none⟩)) 3).run Tryd.prog w = .ok (.pointer (some ⟨g, off + 3, none⟩)) w := fun w => by kernel_rfl
theorem fa33_0 (g off : Nat) : ∀ w, (Instr.fieldAt 33 (.pointer (some ⟨g, off, none⟩)) 0).run Tryd.prog w = .ok (.pointer (some ⟨g, off + 0, none⟩)) w := fun w => by kernel_rfl
theorem fa33_1 (g off : Nat) : ∀ w, (Instr.fieldAt 33 (.pointer (some ⟨g, off, none⟩)) 1).run Tryd.prog w = .ok (.pointer (some ⟨g, off + 1, none⟩)) w := fun w => by kernel_rfl
theorem fa33_2 (g off : Nat) : ∀ w, (Instr.fieldAt 33 (.pointer (some ⟨g, off, none⟩)) 2).run Tryd.prog w = .ok (.pointer (some ⟨g, off + 2, none⟩)) w := fun w => by kernel_rfl
theorem sc3 : (Tryd.prog.underlying 3).map scal = some true := by rw [Tryd.underlying3]; rfl
theorem sc5 : (Tryd.prog.underlying 5).map scal = some true := by rw [Tryd.underlying5]; rfl
theorem sc9 : (Tryd.prog.underlying 9).map scal = some true := by rw [Tryd.underlying9]; rfl
theorem sz23 : (Tryd.prog.info? 23).map (·.size) = some 4 := by kernel_rfl
theorem sz33 : (Tryd.prog.info? 33).map (·.size) = some 3 := by kernel_rfl
theorem sz5 : (Tryd.prog.info? 5).map (·.size) = some 1 := by kernel_rfl
theorem sz9 : (Tryd.prog.info? 9).map (·.size) = some 1 := by kernel_rfl
end GcmLawCT
theorem gcmTurned_n (s : List (BitVec 8)) (fi at_ : Int) (x : BitVec 8) (hs : s.length ≤ 140737488351232) (h : s.length = 0 ∨ at_ < 0) (w0 : World) : Calls Tryd.prog 16 #[.string (str s), .agg (arr 3 (fun j => if j < 1 then .int .i64 fi else if j < 2 then .int .i64 at_ else U8 x))] w0 fun e w' => e = .returned (.string (str s)) ∧ Below w0.heap.size w0 w' := by
 refine enter (n := 31) Tryd.func16 rfl rfl rfl ?_
 have hk : Below w0.heap.size w0 w0 := Below.refl _ _
 refine sr ?_
 refine w_box (m := 3) (F := fun j => if j < 1 then .int .i64 fi else if j < 2 then .int .i64 at_ else U8 x) ea rfl ?_
 intro b_c w1 hbe_b_c r_b_c hb2
 have ge_b_c := gb_ hk.size hbe_b_c
 clear hbe_b_c
 replace hk := thenB hk hb2
 refine w_as (evc (.string (str ([] : List (BitVec 8))))) ?_
 refine nt ?_
 refine wp_seq ?_
 refine sr ?_
 refine w_mv es ?_
 refine w_val (y_len es Tryd.underlying9) ?_
 refine w_val (y_bin ei Ev.c b_eql) ?_
 refine w_mv eb ?_
 by_cases hc3 : ((s.length : Nat) : Int) = 0
 ·skip
  with_reducible refine w_skip ?_ ?_
  exact wn rfl rfl (eb (dt hc3))
  with_reducible refine w_skip ?_ ?_
  exact wn rfl rfl (eb (dt hc3))
  with_reducible refine w_skip ?_ ?_
  exact wn rfl rfl (eb (dt hc3))
  refine w_val (y_pick_t (eb (dt hc3)) Ev.c) ?_
  refine nt ?_
  refine c_tt eb ?_
  refine sr ?_
  refine w_mv es ?_
  refine w_as es ?_
  refine nt ?_
  refine wp_ret ?_
  refine then_r ?_
  refine fin_ret1 rfl es ?_
  exact ⟨rfl, hk⟩
 ·skip
  refine w_val_g (v := pt b_c 1) (wy rfl rfl (eb (df hc3))) (y_off (y_fa (ex (pt b_c 0)) (GcmLawCT.fa33_1 _ _)) (by first | rfl | omega)) ?_
  refine w_val_g (v := .int .i64 at_) (wy rfl rfl (eb (df hc3))) (y_ld (ex (pt b_c 1)) GcmLawCT.sc3 (r_b_c.val (by omega) ((if_neg (by omega)).trans (etv (if_pos (by omega)))))) ?_
  refine w_val_g (wy rfl rfl (eb (df hc3))) (y_bin ei Ev.c b_lss) ?_
  refine w_val (y_pick_f (eb (df hc3)) eb) ?_
  refine nt ?_
  refine c_if (p := at_ < 0) eb (fun hc4 => ?_) (fun hc4 => ?_)
  ·skip
   refine sr ?_
   refine w_mv es ?_
   refine w_as es ?_
   refine nt ?_
   refine wp_ret ?_
   refine then_r ?_
   refine fin_ret1 rfl es ?_
   exact ⟨rfl, hk⟩
  ·skip
   refine wp_skip ?_
   refine then_n ?_
   refine wp_seq ?_
   exfalso; omega

theorem gcmTurned_y (s : List (BitVec 8)) (fi : Int) (a : Nat) (x : BitVec 8) (hs : s.length ≤ 140737488351232) (hsp : 0 < s.length) (w0 : World) : Calls Tryd.prog 16 #[.string (str s), .agg (arr 3 (fun j => if j < 1 then .int .i64 fi else if j < 2 then .int .i64 ((a : Nat) : Int) else U8 x))] w0 fun e w' => e = .returned (.string (str (Gm.turn s a x))) ∧ Below w0.heap.size w0 w' := by
 have hml := Nat.mod_lt a hsp
 refine enter (n := 31) Tryd.func16 rfl rfl rfl ?_
 have hk : Below w0.heap.size w0 w0 := Below.refl _ _
 refine sr ?_
 refine w_box (m := 3) (F := fun j => if j < 1 then .int .i64 fi else if j < 2 then .int .i64 ((a : Nat) : Int) else U8 x) ea rfl ?_
 intro b_c w1 hbe_b_c r_b_c hb2
 have ge_b_c := gb_ hk.size hbe_b_c
 clear hbe_b_c
 replace hk := thenB hk hb2
 refine w_as (evc (.string (str ([] : List (BitVec 8))))) ?_
 refine nt ?_
 refine wp_seq ?_
 refine sr ?_
 refine w_mv es ?_
 refine w_val (y_len es Tryd.underlying9) ?_
 refine w_val (y_bin ei Ev.c b_eql) ?_
 refine w_mv eb ?_
 have hc3 : ¬ (((s.length : Nat) : Int) = 0) := by omega
 refine w_val_g (v := pt b_c 1) (wy rfl rfl (eb (df hc3))) (y_off (y_fa (ex (pt b_c 0)) (GcmLawCT.fa33_1 _ _)) (by first | rfl | omega)) ?_
 refine w_val_g (v := .int .i64 ((a : Nat) : Int)) (wy rfl rfl (eb (df hc3))) (y_ld (ex (pt b_c 1)) GcmLawCT.sc3 (r_b_c.val (by omega) ((if_neg (by omega)).trans (etv (if_pos (by omega)))))) ?_
 refine w_val_g (wy rfl rfl (eb (df hc3))) (y_bin ei Ev.c b_lss) ?_
 refine w_val (y_pick_f (eb (df hc3)) eb) ?_
 refine nt ?_
 have hc4 : ¬ (((a : Nat) : Int) < 0) := by omega
 refine c_f (p := ((a : Nat) : Int) < 0) eb hc4 ?_
 refine wp_skip ?_
 refine then_n ?_
 refine sr ?_
 refine w_mv es ?_
 refine w_bytes es Tryd.underlying9 Tryd.underlying50 Tryd.underlying5 ?_
 intro b_16 cap_b_16 w5 hbe_b_16 hc_b_16 r_b_16 hb6
 have ne_b_c_b_16 := r_b_c.nb hbe_b_16
 have ge_b_16 := gb_ hk.size hbe_b_16
 clear hbe_b_16
 replace r_b_c := r_b_c.step hb6
 replace hk := thenB hk hb6
 refine w_as el ?_
 refine nt ?_
 refine wp_seq ?_
 refine region_t 12 GcmLawCT.mixed (by kernel_rfl) ?_
 simp only [List.take_succ_cons, List.take_zero, List.drop_succ_cons, List.drop_zero]
 refine q_mv el ?_
 refine q_val (v := pt b_c 1) (fun w' hw' => y_off (y_fa (ex (pt b_c 0)) (GcmLawCT.fa33_1 _ _)) (by first | rfl | omega)) ?_
 refine q_val (v := .int .i64 ((a : Nat) : Int)) (fun w' hw' => y_ld (ex (pt b_c 1)) GcmLawCT.sc3 (cls_cell (r_b_c.val (by omega) ((if_neg (by omega)).trans (etv (if_pos (by omega))))) r_b_c.lt w' hw')) ?_
 refine q_mv el ?_
 refine q_val (v := .int .i64 ((s.length : Nat) : Int)) (fun w' hw' => y_len_sl el Tryd.underlying50) ?_
 refine q_val (fun w' hw' => y_bin ei ei (b_rem (by omega))) ?_
 refine q_val (fun w' hw' => y_is1z (i := (a % s.length)) el ei Tryd.underlying50 GcmLawCT.sz5 (by omega) (by omega)) ?_
 refine q_val (v := U8 (gb s (a % s.length))) (fun w' hw' => y_ld (ex (pt b_16 (a % s.length))) GcmLawCT.sc5 (cls_cell (r_b_16.val (by omega) rfl) r_b_16.lt w' hw')) ?_
 refine q_val (v := pt b_c 2) (fun w' hw' => y_off (y_fa (ex (pt b_c 0)) (GcmLawCT.fa33_2 _ _)) (by first | rfl | omega)) ?_
 refine q_val (v := U8 x) (fun w' hw' => y_ld (ex (pt b_c 2)) GcmLawCT.sc5 (cls_cell (r_b_c.val (by omega) ((if_neg (by omega)).trans ((if_neg (by omega)).trans (by first | with_reducible rfl | (with_reducible congr 1 <;> omega) | (with_reducible congr 2 <;> omega) | (with_reducible congr 3 <;> omega) | rfl)))) r_b_c.lt w' hw')) ?_
 refine q_val (fun w' hw' => y_bin e8 e8 xor8) ?_
 refine q_val (fun w' hw' => y_is1z (i := (a % s.length)) el ei Tryd.underlying50 GcmLawCT.sz5 (by omega) (by omega)) ?_
 refine q_nil ?_
 intro w7 hb8
 replace r_b_c := r_b_c.step hb8
 replace r_b_16 := r_b_16.step hb8
 replace hk := thenB hk hb8
 refine w_st (v := U8 ((gb s (a % s.length)) ^^^ x)) (ex (pt b_16 (a % s.length))) e8 rfl rfl GcmLawCT.sz5 r_b_16 (by omega) ?_
 clear r_b_16; intro w9 r_b_16 hg10 _
 replace r_b_c := r_b_c.stepG hg10 (by omega)
 replace hk := thenG hk hg10 (by omega)
 refine nt ?_
 refine sr ?_
 refine w_mv el ?_
 refine w_val (y_str (l := Gm.turn s a x) el (by rw [Gm.turn_len]) Tryd.underlying50 Tryd.underlying5 Tryd.underlying9 (fun j hj => (r_b_16.val (by omega) (by (try dsimp only); rw [Nat.zero_add]; exact Gm.turn_row s a x j hj)))) ?_
 refine w_as es ?_
 refine nt ?_
 refine wp_ret ?_
 refine fin_ret1 rfl es ?_
 exact ⟨rfl, hk⟩

theorem gcmTurned_l (s : List (BitVec 8)) (fi at_ : Int) (x : BitVec 8) (hs : s.length ≤ 140737488351232) (w : World) : Calls Tryd.prog 16 #[.string (str s), .agg (arr 3 (fun j => if j < 1 then .int .i64 fi else if j < 2 then .int .i64 at_ else U8 x))] w fun e w' => e = .returned (.string (str (Gm.turned s at_ x))) ∧ Below w.heap.size w w' := by
  by_cases h : s.length = 0 ∨ at_ < 0
  · rw [Gm.turned_n s at_ x h]
    exact gcmTurned_n s fi at_ x hs h w
  · obtain ⟨a, rfl⟩ : ∃ a : Nat, at_ = (a : Int) := ⟨at_.toNat, by omega⟩
    rw [Gm.turned_y s a x (by omega)]
    exact gcmTurned_y s fi a x hs (by omega) w

theorem gcmChanged_k (key v aad : List (BitVec 8)) (size : Int) (hok : ¬ Aes.okKey key.length) (text : List (BitVec 8)) (ht_ : text.length ≤ 140737488351232) (hkey : key.length ≤ 140737488351232) (hvl : v.length ≤ 140737488351232) (hal : aad.length ≤ 140737488351232) (fi at_ : Int) (x : BitVec 8) (w0 : World) (hF : Gh.Fold w0 Gh.fo) : Calls Tryd.prog 7 #[.agg (arr 4 (fun j => if j < 1 then .string (str key) else if j < 2 then .string (str v) else if j < 3 then .string (str aad) else .int .i64 size)), .string (str text), .agg (arr 3 (fun j => if j < 1 then .int .i64 fi else if j < 2 then .int .i64 at_ else U8 x))] w0 fun e w' => e = .returned (.bool true) ∧ Below w0.heap.size w0 w' := by
 refine enter (n := 113) Tryd.func7 rfl rfl rfl ?_
 have hk : Below w0.heap.size w0 w0 := Below.refl _ _
 refine sr ?_
 refine w_box (m := 4) (F := fun j => if j < 1 then .string (str key) else if j < 2 then .string (str v) else if j < 3 then .string (str aad) else .int .i64 size) ea rfl ?_
 intro b_b w1 hbe_b_b r_b_b hb2
 have ge_b_b := gb_ hk.size hbe_b_b
 clear hbe_b_b
 replace hk := thenB hk hb2
 replace hF := Gh.Fold.below hF hb2
 refine w_box (m := 3) (F := fun j => if j < 1 then .int .i64 fi else if j < 2 then .int .i64 at_ else U8 x) ea rfl ?_
 intro b_c w3 hbe_b_c r_b_c hb4
 have ne_b_b_b_c := r_b_b.nb hbe_b_c
 have ge_b_c := gb_ hk.size hbe_b_c
 clear hbe_b_c
 replace r_b_b := r_b_b.step hb4
 replace hk := thenB hk hb4
 replace hF := Gh.Fold.below hF hb4
 refine w_as Ev.c ?_
 refine nt ?_
 refine wp_seq ?_
 refine sr ?_
 refine w_call (Tryd.func8) (by kernel_rfl) rfl m0 (gcmWakes_c  w3 hF) ?_
 rintro _ w5 ⟨rfl, hb6⟩
 refine ⟨_, rfl, ?_⟩
 replace r_b_b := r_b_b.step hb6
 replace r_b_c := r_b_c.step hb6
 replace hk := thenB hk hb6
 replace hF := Gh.Fold.below hF hb6
 refine w_val (y_not eb) ?_
 refine nt ?_
 refine c_ff eb ?_
 refine wp_skip ?_
 refine then_n ?_
 refine sr ?_
 refine w_val (v := pt b_b 0) (y_off (y_fa (ex (pt b_b 0)) (GcmLawCT.fa23_0 _ _)) (by first | rfl | omega)) ?_
 refine w_val (v := .string (str key)) (y_ld (ex (pt b_b 0)) GcmLawCT.sc9 (r_b_b.val (by omega) (etv (if_pos (by omega))))) ?_
 refine w_val (v := pt b_b 1) (y_off (y_fa (ex (pt b_b 0)) (GcmLawCT.fa23_1 _ _)) (by first | rfl | omega)) ?_
 refine w_val (v := .string (str v)) (y_ld (ex (pt b_b 1)) GcmLawCT.sc9 (r_b_b.val (by omega) ((if_neg (by omega)).trans (etv (if_pos (by omega)))))) ?_
 refine w_val (v := pt b_b 2) (y_off (y_fa (ex (pt b_b 0)) (GcmLawCT.fa23_2 _ _)) (by first | rfl | omega)) ?_
 refine w_val (v := .string (str aad)) (y_ld (ex (pt b_b 2)) GcmLawCT.sc9 (r_b_b.val (by omega) ((if_neg (by omega)).trans ((if_neg (by omega)).trans (etv (if_pos (by omega))))))) ?_
 refine w_mv es ?_
 refine w_val (v := pt b_b 3) (y_off (y_fa (ex (pt b_b 0)) (GcmLawCT.fa23_3 _ _)) (by first | rfl | omega)) ?_
 refine w_val (v := .int .i64 size) (y_ld (ex (pt b_b 3)) GcmLawCT.sc3 (r_b_b.val (by omega) ((if_neg (by omega)).trans ((if_neg (by omega)).trans ((if_neg (by omega)).trans (by first | with_reducible rfl | (with_reducible congr 1 <;> omega) | (with_reducible congr 2 <;> omega) | (with_reducible congr 3 <;> omega) | rfl)))))) ?_
 refine w_call (Tryd.func10) (by kernel_rfl) rfl (m5 es es es es ei) (gmSeal_k key v aad size hok text w5) ?_
 rintro _ w7 ⟨rfl, hb8⟩
 refine ⟨_, rfl, ?_⟩
 replace r_b_b := r_b_b.step hb8
 replace r_b_c := r_b_c.step hb8
 replace hk := thenB hk hb8
 replace hF := Gh.Fold.below hF hb8
 refine w_mv (ex (.tuple #[.string (str ([] : List (BitVec 8))), .int .i64 3])) ?_
 refine w_val ye ?_
 refine w_val ye ?_
 refine w_as es ?_
 refine w_as ei ?_
 refine nt ?_
 refine wp_seq ?_
 refine sr ?_
 refine w_mv ei ?_
 refine w_val (y_bin ei Ev.c b_neq) ?_
 refine nt ?_
 refine c_tt eb ?_
 refine sr ?_
 refine w_mv es ?_
 refine w_val (y_bin es (evc (.string (str ([] : List (BitVec 8))))) b_eqs_same) ?_
 refine w_as eb ?_
 refine nt ?_
 refine wp_ret ?_
 refine then_r ?_
 refine fin_ret1 rfl eb ?_
 exact ⟨rfl, hk⟩

theorem gcmChanged_v (key v aad : List (BitVec 8)) (size : Int) (hok : Aes.okKey key.length) (hv : ¬ (1 ≤ v.length ∧ v.length ≤ 1024)) (text : List (BitVec 8)) (ht_ : text.length ≤ 140737488351232) (hkey : key.length ≤ 140737488351232) (hvl : v.length ≤ 140737488351232) (hal : aad.length ≤ 140737488351232) (fi at_ : Int) (x : BitVec 8) (w0 : World) (hF : Gh.Fold w0 Gh.fo) : Calls Tryd.prog 7 #[.agg (arr 4 (fun j => if j < 1 then .string (str key) else if j < 2 then .string (str v) else if j < 3 then .string (str aad) else .int .i64 size)), .string (str text), .agg (arr 3 (fun j => if j < 1 then .int .i64 fi else if j < 2 then .int .i64 at_ else U8 x))] w0 fun e w' => e = .returned (.bool true) ∧ Below w0.heap.size w0 w' := by
 refine enter (n := 113) Tryd.func7 rfl rfl rfl ?_
 have hk : Below w0.heap.size w0 w0 := Below.refl _ _
 refine sr ?_
 refine w_box (m := 4) (F := fun j => if j < 1 then .string (str key) else if j < 2 then .string (str v) else if j < 3 then .string (str aad) else .int .i64 size) ea rfl ?_
 intro b_b w1 hbe_b_b r_b_b hb2
 have ge_b_b := gb_ hk.size hbe_b_b
 clear hbe_b_b
 replace hk := thenB hk hb2
 replace hF := Gh.Fold.below hF hb2
 refine w_box (m := 3) (F := fun j => if j < 1 then .int .i64 fi else if j < 2 then .int .i64 at_ else U8 x) ea rfl ?_
 intro b_c w3 hbe_b_c r_b_c hb4
 have ne_b_b_b_c := r_b_b.nb hbe_b_c
 have ge_b_c := gb_ hk.size hbe_b_c
 clear hbe_b_c
 replace r_b_b := r_b_b.step hb4
 replace hk := thenB hk hb4
 replace hF := Gh.Fold.below hF hb4
 refine w_as Ev.c ?_
 refine nt ?_
 refine wp_seq ?_
 refine sr ?_
 refine w_call (Tryd.func8) (by kernel_rfl) rfl m0 (gcmWakes_c  w3 hF) ?_
 rintro _ w5 ⟨rfl, hb6⟩
 refine ⟨_, rfl, ?_⟩
 replace r_b_b := r_b_b.step hb6
 replace r_b_c := r_b_c.step hb6
 replace hk := thenB hk hb6
 replace hF := Gh.Fold.below hF hb6
 refine w_val (y_not eb) ?_
 refine nt ?_
 refine c_ff eb ?_
 refine wp_skip ?_
 refine then_n ?_
 refine sr ?_
 refine w_val (v := pt b_b 0) (y_off (y_fa (ex (pt b_b 0)) (GcmLawCT.fa23_0 _ _)) (by first | rfl | omega)) ?_
 refine w_val (v := .string (str key)) (y_ld (ex (pt b_b 0)) GcmLawCT.sc9 (r_b_b.val (by omega) (etv (if_pos (by omega))))) ?_
 refine w_val (v := pt b_b 1) (y_off (y_fa (ex (pt b_b 0)) (GcmLawCT.fa23_1 _ _)) (by first | rfl | omega)) ?_
 refine w_val (v := .string (str v)) (y_ld (ex (pt b_b 1)) GcmLawCT.sc9 (r_b_b.val (by omega) ((if_neg (by omega)).trans (etv (if_pos (by omega)))))) ?_
 refine w_val (v := pt b_b 2) (y_off (y_fa (ex (pt b_b 0)) (GcmLawCT.fa23_2 _ _)) (by first | rfl | omega)) ?_
 refine w_val (v := .string (str aad)) (y_ld (ex (pt b_b 2)) GcmLawCT.sc9 (r_b_b.val (by omega) ((if_neg (by omega)).trans ((if_neg (by omega)).trans (etv (if_pos (by omega))))))) ?_
 refine w_mv es ?_
 refine w_val (v := pt b_b 3) (y_off (y_fa (ex (pt b_b 0)) (GcmLawCT.fa23_3 _ _)) (by first | rfl | omega)) ?_
 refine w_val (v := .int .i64 size) (y_ld (ex (pt b_b 3)) GcmLawCT.sc3 (r_b_b.val (by omega) ((if_neg (by omega)).trans ((if_neg (by omega)).trans ((if_neg (by omega)).trans (by first | with_reducible rfl | (with_reducible congr 1 <;> omega) | (with_reducible congr 2 <;> omega) | (with_reducible congr 3 <;> omega) | rfl)))))) ?_
 refine w_call (Tryd.func10) (by kernel_rfl) rfl (m5 es es es es ei) (gmSeal_v key v aad size hok hv text w5) ?_
 rintro _ w7 ⟨rfl, hb8⟩
 refine ⟨_, rfl, ?_⟩
 replace r_b_b := r_b_b.step hb8
 replace r_b_c := r_b_c.step hb8
 replace hk := thenB hk hb8
 replace hF := Gh.Fold.below hF hb8
 refine w_mv (ex (.tuple #[.string (str ([] : List (BitVec 8))), .int .i64 4])) ?_
 refine w_val ye ?_
 refine w_val ye ?_
 refine w_as es ?_
 refine w_as ei ?_
 refine nt ?_
 refine wp_seq ?_
 refine sr ?_
 refine w_mv ei ?_
 refine w_val (y_bin ei Ev.c b_neq) ?_
 refine nt ?_
 refine c_tt eb ?_
 refine sr ?_
 refine w_mv es ?_
 refine w_val (y_bin es (evc (.string (str ([] : List (BitVec 8))))) b_eqs_same) ?_
 refine w_as eb ?_
 refine nt ?_
 refine wp_ret ?_
 refine then_r ?_
 refine fin_ret1 rfl eb ?_
 exact ⟨rfl, hk⟩

theorem gcmChanged_t (key v aad : List (BitVec 8)) (size : Int) (hok : Aes.okKey key.length) (hv : 1 ≤ v.length ∧ v.length ≤ 1024) (ht : ¬ (12 ≤ size ∧ size ≤ 16)) (text : List (BitVec 8)) (ht_ : text.length ≤ 140737488351232) (hkey : key.length ≤ 140737488351232) (hvl : v.length ≤ 140737488351232) (hal : aad.length ≤ 140737488351232) (fi at_ : Int) (x : BitVec 8) (w0 : World) (hF : Gh.Fold w0 Gh.fo) : Calls Tryd.prog 7 #[.agg (arr 4 (fun j => if j < 1 then .string (str key) else if j < 2 then .string (str v) else if j < 3 then .string (str aad) else .int .i64 size)), .string (str text), .agg (arr 3 (fun j => if j < 1 then .int .i64 fi else if j < 2 then .int .i64 at_ else U8 x))] w0 fun e w' => e = .returned (.bool true) ∧ Below w0.heap.size w0 w' := by
 refine enter (n := 113) Tryd.func7 rfl rfl rfl ?_
 have hk : Below w0.heap.size w0 w0 := Below.refl _ _
 refine sr ?_
 refine w_box (m := 4) (F := fun j => if j < 1 then .string (str key) else if j < 2 then .string (str v) else if j < 3 then .string (str aad) else .int .i64 size) ea rfl ?_
 intro b_b w1 hbe_b_b r_b_b hb2
 have ge_b_b := gb_ hk.size hbe_b_b
 clear hbe_b_b
 replace hk := thenB hk hb2
 replace hF := Gh.Fold.below hF hb2
 refine w_box (m := 3) (F := fun j => if j < 1 then .int .i64 fi else if j < 2 then .int .i64 at_ else U8 x) ea rfl ?_
 intro b_c w3 hbe_b_c r_b_c hb4
 have ne_b_b_b_c := r_b_b.nb hbe_b_c
 have ge_b_c := gb_ hk.size hbe_b_c
 clear hbe_b_c
 replace r_b_b := r_b_b.step hb4
 replace hk := thenB hk hb4
 replace hF := Gh.Fold.below hF hb4
 refine w_as Ev.c ?_
 refine nt ?_
 refine wp_seq ?_
 refine sr ?_
 refine w_call (Tryd.func8) (by kernel_rfl) rfl m0 (gcmWakes_c  w3 hF) ?_
 rintro _ w5 ⟨rfl, hb6⟩
 refine ⟨_, rfl, ?_⟩
 replace r_b_b := r_b_b.step hb6
 replace r_b_c := r_b_c.step hb6
 replace hk := thenB hk hb6
 replace hF := Gh.Fold.below hF hb6
 refine w_val (y_not eb) ?_
 refine nt ?_
 refine c_ff eb ?_
 refine wp_skip ?_
 refine then_n ?_
 refine sr ?_
 refine w_val (v := pt b_b 0) (y_off (y_fa (ex (pt b_b 0)) (GcmLawCT.fa23_0 _ _)) (by first | rfl | omega)) ?_
 refine w_val (v := .string (str key)) (y_ld (ex (pt b_b 0)) GcmLawCT.sc9 (r_b_b.val (by omega) (etv (if_pos (by omega))))) ?_
 refine w_val (v := pt b_b 1) (y_off (y_fa (ex (pt b_b 0)) (GcmLawCT.fa23_1 _ _)) (by first | rfl | omega)) ?_
 refine w_val (v := .string (str v)) (y_ld (ex (pt b_b 1)) GcmLawCT.sc9 (r_b_b.val (by omega) ((if_neg (by omega)).trans (etv (if_pos (by omega)))))) ?_
 refine w_val (v := pt b_b 2) (y_off (y_fa (ex (pt b_b 0)) (GcmLawCT.fa23_2 _ _)) (by first | rfl | omega)) ?_
 refine w_val (v := .string (str aad)) (y_ld (ex (pt b_b 2)) GcmLawCT.sc9 (r_b_b.val (by omega) ((if_neg (by omega)).trans ((if_neg (by omega)).trans (etv (if_pos (by omega))))))) ?_
 refine w_mv es ?_
 refine w_val (v := pt b_b 3) (y_off (y_fa (ex (pt b_b 0)) (GcmLawCT.fa23_3 _ _)) (by first | rfl | omega)) ?_
 refine w_val (v := .int .i64 size) (y_ld (ex (pt b_b 3)) GcmLawCT.sc3 (r_b_b.val (by omega) ((if_neg (by omega)).trans ((if_neg (by omega)).trans ((if_neg (by omega)).trans (by first | with_reducible rfl | (with_reducible congr 1 <;> omega) | (with_reducible congr 2 <;> omega) | (with_reducible congr 3 <;> omega) | rfl)))))) ?_
 refine w_call (Tryd.func10) (by kernel_rfl) rfl (m5 es es es es ei) (gmSeal_t key v aad size hok hv ht text w5) ?_
 rintro _ w7 ⟨rfl, hb8⟩
 refine ⟨_, rfl, ?_⟩
 replace r_b_b := r_b_b.step hb8
 replace r_b_c := r_b_c.step hb8
 replace hk := thenB hk hb8
 replace hF := Gh.Fold.below hF hb8
 refine w_mv (ex (.tuple #[.string (str ([] : List (BitVec 8))), .int .i64 5])) ?_
 refine w_val ye ?_
 refine w_val ye ?_
 refine w_as es ?_
 refine w_as ei ?_
 refine nt ?_
 refine wp_seq ?_
 refine sr ?_
 refine w_mv ei ?_
 refine w_val (y_bin ei Ev.c b_neq) ?_
 refine nt ?_
 refine c_tt eb ?_
 refine sr ?_
 refine w_mv es ?_
 refine w_val (y_bin es (evc (.string (str ([] : List (BitVec 8))))) b_eqs_same) ?_
 refine w_as eb ?_
 refine nt ?_
 refine wp_ret ?_
 refine then_r ?_
 refine fin_ret1 rfl eb ?_
 exact ⟨rfl, hk⟩

theorem gcmChanged_a (key v aad : List (BitVec 8)) (size : Nat) (hok : Aes.okKey key.length) (hv : 1 ≤ v.length ∧ v.length ≤ 1024) (h12 : 12 ≤ size) (h16 : size ≤ 16) (ha : 70000 < aad.length) (text : List (BitVec 8)) (ht_ : text.length ≤ 140737488351232) (hkey : key.length ≤ 140737488351232) (hvl : v.length ≤ 140737488351232) (hal : aad.length ≤ 140737488351232) (fi at_ : Int) (x : BitVec 8) (w0 : World) (hF : Gh.Fold w0 Gh.fo) : Calls Tryd.prog 7 #[.agg (arr 4 (fun j => if j < 1 then .string (str key) else if j < 2 then .string (str v) else if j < 3 then .string (str aad) else .int .i64 ((size : Nat) : Int))), .string (str text), .agg (arr 3 (fun j => if j < 1 then .int .i64 fi else if j < 2 then .int .i64 at_ else U8 x))] w0 fun e w' => e = .returned (.bool true) ∧ Below w0.heap.size w0 w' := by
 refine enter (n := 113) Tryd.func7 rfl rfl rfl ?_
 have hk : Below w0.heap.size w0 w0 := Below.refl _ _
 refine sr ?_
 refine w_box (m := 4) (F := fun j => if j < 1 then .string (str key) else if j < 2 then .string (str v) else if j < 3 then .string (str aad) else .int .i64 ((size : Nat) : Int)) ea rfl ?_
 intro b_b w1 hbe_b_b r_b_b hb2
 have ge_b_b := gb_ hk.size hbe_b_b
 clear hbe_b_b
 replace hk := thenB hk hb2
 replace hF := Gh.Fold.below hF hb2
 refine w_box (m := 3) (F := fun j => if j < 1 then .int .i64 fi else if j < 2 then .int .i64 at_ else U8 x) ea rfl ?_
 intro b_c w3 hbe_b_c r_b_c hb4
 have ne_b_b_b_c := r_b_b.nb hbe_b_c
 have ge_b_c := gb_ hk.size hbe_b_c
 clear hbe_b_c
 replace r_b_b := r_b_b.step hb4
 replace hk := thenB hk hb4
 replace hF := Gh.Fold.below hF hb4
 refine w_as Ev.c ?_
 refine nt ?_
 refine wp_seq ?_
 refine sr ?_
 refine w_call (Tryd.func8) (by kernel_rfl) rfl m0 (gcmWakes_c  w3 hF) ?_
 rintro _ w5 ⟨rfl, hb6⟩
 refine ⟨_, rfl, ?_⟩
 replace r_b_b := r_b_b.step hb6
 replace r_b_c := r_b_c.step hb6
 replace hk := thenB hk hb6
 replace hF := Gh.Fold.below hF hb6
 refine w_val (y_not eb) ?_
 refine nt ?_
 refine c_ff eb ?_
 refine wp_skip ?_
 refine then_n ?_
 refine sr ?_
 refine w_val (v := pt b_b 0) (y_off (y_fa (ex (pt b_b 0)) (GcmLawCT.fa23_0 _ _)) (by first | rfl | omega)) ?_
 refine w_val (v := .string (str key)) (y_ld (ex (pt b_b 0)) GcmLawCT.sc9 (r_b_b.val (by omega) (etv (if_pos (by omega))))) ?_
 refine w_val (v := pt b_b 1) (y_off (y_fa (ex (pt b_b 0)) (GcmLawCT.fa23_1 _ _)) (by first | rfl | omega)) ?_
 refine w_val (v := .string (str v)) (y_ld (ex (pt b_b 1)) GcmLawCT.sc9 (r_b_b.val (by omega) ((if_neg (by omega)).trans (etv (if_pos (by omega)))))) ?_
 refine w_val (v := pt b_b 2) (y_off (y_fa (ex (pt b_b 0)) (GcmLawCT.fa23_2 _ _)) (by first | rfl | omega)) ?_
 refine w_val (v := .string (str aad)) (y_ld (ex (pt b_b 2)) GcmLawCT.sc9 (r_b_b.val (by omega) ((if_neg (by omega)).trans ((if_neg (by omega)).trans (etv (if_pos (by omega))))))) ?_
 refine w_mv es ?_
 refine w_val (v := pt b_b 3) (y_off (y_fa (ex (pt b_b 0)) (GcmLawCT.fa23_3 _ _)) (by first | rfl | omega)) ?_
 refine w_val (v := .int .i64 ((size : Nat) : Int)) (y_ld (ex (pt b_b 3)) GcmLawCT.sc3 (r_b_b.val (by omega) ((if_neg (by omega)).trans ((if_neg (by omega)).trans ((if_neg (by omega)).trans (by first | with_reducible rfl | (with_reducible congr 1 <;> omega) | (with_reducible congr 2 <;> omega) | (with_reducible congr 3 <;> omega) | rfl)))))) ?_
 refine w_call (Tryd.func10) (by kernel_rfl) rfl (m5 es es es es ei) (gmSeal_a key v aad size hok hv h12 h16 ha text w5) ?_
 rintro _ w7 ⟨rfl, hb8⟩
 refine ⟨_, rfl, ?_⟩
 replace r_b_b := r_b_b.step hb8
 replace r_b_c := r_b_c.step hb8
 replace hk := thenB hk hb8
 replace hF := Gh.Fold.below hF hb8
 refine w_mv (ex (.tuple #[.string (str ([] : List (BitVec 8))), .int .i64 6])) ?_
 refine w_val ye ?_
 refine w_val ye ?_
 refine w_as es ?_
 refine w_as ei ?_
 refine nt ?_
 refine wp_seq ?_
 refine sr ?_
 refine w_mv ei ?_
 refine w_val (y_bin ei Ev.c b_neq) ?_
 refine nt ?_
 refine c_tt eb ?_
 refine sr ?_
 refine w_mv es ?_
 refine w_val (y_bin es (evc (.string (str ([] : List (BitVec 8))))) b_eqs_same) ?_
 refine w_as eb ?_
 refine nt ?_
 refine wp_ret ?_
 refine then_r ?_
 refine fin_ret1 rfl eb ?_
 exact ⟨rfl, hk⟩

theorem gcmChanged_z (key v aad : List (BitVec 8)) (size : Nat) (hok : Aes.okKey key.length) (hv : 1 ≤ v.length ∧ v.length ≤ 1024) (h12 : 12 ≤ size) (h16 : size ≤ 16) (ha : aad.length ≤ 70000) (text : List (BitVec 8)) (ht_ : text.length ≤ 140737488351232) (hkey : key.length ≤ 140737488351232) (hvl : v.length ≤ 140737488351232) (hal : aad.length ≤ 140737488351232) (fi at_ : Int) (x : BitVec 8) (hz : 70000 < text.length) (w0 : World) (hF : Gh.Fold w0 Gh.fo) : Calls Tryd.prog 7 #[.agg (arr 4 (fun j => if j < 1 then .string (str key) else if j < 2 then .string (str v) else if j < 3 then .string (str aad) else .int .i64 ((size : Nat) : Int))), .string (str text), .agg (arr 3 (fun j => if j < 1 then .int .i64 fi else if j < 2 then .int .i64 at_ else U8 x))] w0 fun e w' => e = .returned (.bool true) ∧ Below w0.heap.size w0 w' := by
 refine enter (n := 113) Tryd.func7 rfl rfl rfl ?_
 have hk : Below w0.heap.size w0 w0 := Below.refl _ _
 refine sr ?_
 refine w_box (m := 4) (F := fun j => if j < 1 then .string (str key) else if j < 2 then .string (str v) else if j < 3 then .string (str aad) else .int .i64 ((size : Nat) : Int)) ea rfl ?_
 intro b_b w1 hbe_b_b r_b_b hb2
 have ge_b_b := gb_ hk.size hbe_b_b
 clear hbe_b_b
 replace hk := thenB hk hb2
 replace hF := Gh.Fold.below hF hb2
 refine w_box (m := 3) (F := fun j => if j < 1 then .int .i64 fi else if j < 2 then .int .i64 at_ else U8 x) ea rfl ?_
 intro b_c w3 hbe_b_c r_b_c hb4
 have ne_b_b_b_c := r_b_b.nb hbe_b_c
 have ge_b_c := gb_ hk.size hbe_b_c
 clear hbe_b_c
 replace r_b_b := r_b_b.step hb4
 replace hk := thenB hk hb4
 replace hF := Gh.Fold.below hF hb4
 refine w_as Ev.c ?_
 refine nt ?_
 refine wp_seq ?_
 refine sr ?_
 refine w_call (Tryd.func8) (by kernel_rfl) rfl m0 (gcmWakes_c  w3 hF) ?_
 rintro _ w5 ⟨rfl, hb6⟩
 refine ⟨_, rfl, ?_⟩
 replace r_b_b := r_b_b.step hb6
 replace r_b_c := r_b_c.step hb6
 replace hk := thenB hk hb6
 replace hF := Gh.Fold.below hF hb6
 refine w_val (y_not eb) ?_
 refine nt ?_
 refine c_ff eb ?_
 refine wp_skip ?_
 refine then_n ?_
 refine sr ?_
 refine w_val (v := pt b_b 0) (y_off (y_fa (ex (pt b_b 0)) (GcmLawCT.fa23_0 _ _)) (by first | rfl | omega)) ?_
 refine w_val (v := .string (str key)) (y_ld (ex (pt b_b 0)) GcmLawCT.sc9 (r_b_b.val (by omega) (etv (if_pos (by omega))))) ?_
 refine w_val (v := pt b_b 1) (y_off (y_fa (ex (pt b_b 0)) (GcmLawCT.fa23_1 _ _)) (by first | rfl | omega)) ?_
 refine w_val (v := .string (str v)) (y_ld (ex (pt b_b 1)) GcmLawCT.sc9 (r_b_b.val (by omega) ((if_neg (by omega)).trans (etv (if_pos (by omega)))))) ?_
 refine w_val (v := pt b_b 2) (y_off (y_fa (ex (pt b_b 0)) (GcmLawCT.fa23_2 _ _)) (by first | rfl | omega)) ?_
 refine w_val (v := .string (str aad)) (y_ld (ex (pt b_b 2)) GcmLawCT.sc9 (r_b_b.val (by omega) ((if_neg (by omega)).trans ((if_neg (by omega)).trans (etv (if_pos (by omega))))))) ?_
 refine w_mv es ?_
 refine w_val (v := pt b_b 3) (y_off (y_fa (ex (pt b_b 0)) (GcmLawCT.fa23_3 _ _)) (by first | rfl | omega)) ?_
 refine w_val (v := .int .i64 ((size : Nat) : Int)) (y_ld (ex (pt b_b 3)) GcmLawCT.sc3 (r_b_b.val (by omega) ((if_neg (by omega)).trans ((if_neg (by omega)).trans ((if_neg (by omega)).trans (by first | with_reducible rfl | (with_reducible congr 1 <;> omega) | (with_reducible congr 2 <;> omega) | (with_reducible congr 3 <;> omega) | rfl)))))) ?_
 refine w_call (Tryd.func10) (by kernel_rfl) rfl (m5 es es es es ei) (gmSeal_z Gh.fo key v aad size hok hv h12 h16 ha text (by omega) hz w5 hF) ?_
 rintro _ w7 ⟨rfl, hb8⟩
 refine ⟨_, rfl, ?_⟩
 replace r_b_b := r_b_b.step hb8
 replace r_b_c := r_b_c.step hb8
 replace hk := thenB hk hb8
 replace hF := Gh.Fold.below hF hb8
 refine w_mv (ex (.tuple #[.string (str ([] : List (BitVec 8))), .int .i64 6])) ?_
 refine w_val ye ?_
 refine w_val ye ?_
 refine w_as es ?_
 refine w_as ei ?_
 refine nt ?_
 refine wp_seq ?_
 refine sr ?_
 refine w_mv ei ?_
 refine w_val (y_bin ei Ev.c b_neq) ?_
 refine nt ?_
 refine c_tt eb ?_
 refine sr ?_
 refine w_mv es ?_
 refine w_val (y_bin es (evc (.string (str ([] : List (BitVec 8))))) b_eqs_same) ?_
 refine w_as eb ?_
 refine nt ?_
 refine wp_ret ?_
 refine then_r ?_
 refine fin_ret1 rfl eb ?_
 exact ⟨rfl, hk⟩

theorem gmOpen_m (f : Nat → BitVec 64) (key v aad : List (BitVec 8)) (size : Nat) (hok : Aes.okKey key.length) (hv : 1 ≤ v.length ∧ v.length ≤ 1024) (h12 : 12 ≤ size) (h16 : size ≤ 16) (ha : aad.length ≤ 70000) (text : List (BitVec 8)) (hl : text.length ≤ 1000000000000000) (m : Nat) (hm : text.length = m + size) (h7 : m ≤ 70000) (w : World) (hF : Gh.Fold w f) :
    Calls Tryd.prog 14 #[.string (str key), .string (str v), .string (str aad), .string (str text), .int .i64 (size : Int)] w fun e w' => e = .returned (.tuple #[.string (str (Gm.opened f key v aad text m size)), .int .i64 (Gm.openE f key v aad text m size)]) ∧ Below w.heap.size w w' := by
  by_cases hb : Gm.tg f key v aad (text.take m) size = text.drop m
  · rw [(Gm.open_y f key v aad text m size hb).1, (Gm.open_y f key v aad text m size hb).2]
    exact gmOpen_y f key v aad size hok hv h12 h16 ha text hl m hm h7 hb w hF
  · rw [(Gm.open_b f key v aad text m size hb).1, (Gm.open_b f key v aad text m size hb).2]
    exact gmOpen_b f key v aad size hok hv h12 h16 ha text hl m hm h7 hb w hF

theorem gcmChanged_y (key v aad : List (BitVec 8)) (size : Nat) (hok : Aes.okKey key.length) (hv : 1 ≤ v.length ∧ v.length ≤ 1024) (h12 : 12 ≤ size) (h16 : size ≤ 16) (ha : aad.length ≤ 70000) (text : List (BitVec 8)) (ht_ : text.length ≤ 140737488351232) (hkey : key.length ≤ 140737488351232) (hvl : v.length ≤ 140737488351232) (hal : aad.length ≤ 140737488351232) (fi at_ : Int) (x : BitVec 8) (hz : text.length ≤ 70000) (w0 : World) (hF : Gh.Fold w0 Gh.fo) : Calls Tryd.prog 7 #[.agg (arr 4 (fun j => if j < 1 then .string (str key) else if j < 2 then .string (str v) else if j < 3 then .string (str aad) else .int .i64 ((size : Nat) : Int))), .string (str text), .agg (arr 3 (fun j => if j < 1 then .int .i64 fi else if j < 2 then .int .i64 at_ else U8 x))] w0 fun e w' => e = .returned (.bool true) ∧ Below w0.heap.size w0 w' := by
 have hsl := Gm.sealed_len Gh.fo key v aad text size hok h16
 have hF0 := hF.2
 refine enter (n := 113) Tryd.func7 rfl rfl rfl ?_
 have hk : Below w0.heap.size w0 w0 := Below.refl _ _
 refine sr ?_
 refine w_box (m := 4) (F := fun j => if j < 1 then .string (str key) else if j < 2 then .string (str v) else if j < 3 then .string (str aad) else .int .i64 ((size : Nat) : Int)) ea rfl ?_
 intro b_b w1 hbe_b_b r_b_b hb2
 have ge_b_b := gb_ hk.size hbe_b_b
 clear hbe_b_b
 replace hk := thenB hk hb2
 replace hF := Gh.Fold.below hF hb2
 refine w_box (m := 3) (F := fun j => if j < 1 then .int .i64 fi else if j < 2 then .int .i64 at_ else U8 x) ea rfl ?_
 intro b_c w3 hbe_b_c r_b_c hb4
 have ne_b_b_b_c := r_b_b.nb hbe_b_c
 have ge_b_c := gb_ hk.size hbe_b_c
 clear hbe_b_c
 replace r_b_b := r_b_b.step hb4
 replace hk := thenB hk hb4
 replace hF := Gh.Fold.below hF hb4
 refine w_as Ev.c ?_
 refine nt ?_
 refine wp_seq ?_
 refine sr ?_
 refine w_call (Tryd.func8) (by kernel_rfl) rfl m0 (gcmWakes_c  w3 hF) ?_
 rintro _ w5 ⟨rfl, hb6⟩
 refine ⟨_, rfl, ?_⟩
 replace r_b_b := r_b_b.step hb6
 replace r_b_c := r_b_c.step hb6
 replace hk := thenB hk hb6
 replace hF := Gh.Fold.below hF hb6
 refine w_val (y_not eb) ?_
 refine nt ?_
 refine c_ff eb ?_
 refine wp_skip ?_
 refine then_n ?_
 refine sr ?_
 refine w_val (v := pt b_b 0) (y_off (y_fa (ex (pt b_b 0)) (GcmLawCT.fa23_0 _ _)) (by first | rfl | omega)) ?_
 refine w_val (v := .string (str key)) (y_ld (ex (pt b_b 0)) GcmLawCT.sc9 (r_b_b.val (by omega) (etv (if_pos (by omega))))) ?_
 refine w_val (v := pt b_b 1) (y_off (y_fa (ex (pt b_b 0)) (GcmLawCT.fa23_1 _ _)) (by first | rfl | omega)) ?_
 refine w_val (v := .string (str v)) (y_ld (ex (pt b_b 1)) GcmLawCT.sc9 (r_b_b.val (by omega) ((if_neg (by omega)).trans (etv (if_pos (by omega)))))) ?_
 refine w_val (v := pt b_b 2) (y_off (y_fa (ex (pt b_b 0)) (GcmLawCT.fa23_2 _ _)) (by first | rfl | omega)) ?_
 refine w_val (v := .string (str aad)) (y_ld (ex (pt b_b 2)) GcmLawCT.sc9 (r_b_b.val (by omega) ((if_neg (by omega)).trans ((if_neg (by omega)).trans (etv (if_pos (by omega))))))) ?_
 refine w_mv es ?_
 refine w_val (v := pt b_b 3) (y_off (y_fa (ex (pt b_b 0)) (GcmLawCT.fa23_3 _ _)) (by first | rfl | omega)) ?_
 refine w_val (v := .int .i64 ((size : Nat) : Int)) (y_ld (ex (pt b_b 3)) GcmLawCT.sc3 (r_b_b.val (by omega) ((if_neg (by omega)).trans ((if_neg (by omega)).trans ((if_neg (by omega)).trans (by first | with_reducible rfl | (with_reducible congr 1 <;> omega) | (with_reducible congr 2 <;> omega) | (with_reducible congr 3 <;> omega) | rfl)))))) ?_
 refine w_call (Tryd.func10) (by kernel_rfl) rfl (m5 es es es es ei) (gmSeal_y Gh.fo key v aad size hok hv h12 h16 ha text (by omega) hz w5 hF) ?_
 rintro _ w7 ⟨rfl, hb8⟩
 refine ⟨_, rfl, ?_⟩
 replace r_b_b := r_b_b.step hb8
 replace r_b_c := r_b_c.step hb8
 replace hk := thenB hk hb8
 replace hF := Gh.Fold.below hF hb8
 refine w_mv (ex (.tuple #[.string (str (Gm.sealed Gh.fo key v aad text size)), .int .i64 0])) ?_
 refine w_val ye ?_
 refine w_val ye ?_
 refine w_as es ?_
 refine w_as ei ?_
 refine nt ?_
 refine wp_seq ?_
 refine sr ?_
 refine w_mv ei ?_
 refine w_val (y_bin ei Ev.c b_neq) ?_
 refine nt ?_
 refine c_ff eb ?_
 refine wp_skip ?_
 refine then_n ?_
 refine c_cut (fun aN wl => ∃ (key2 : List (BitVec 8)) (v2 : List (BitVec 8)) (aad2 : List (BitVec 8)) (s2 : List (BitVec 8)), ∃ f9, aN = fr 113 f9 ∧ (key2.length = key.length) ∧ (v2.length = v.length) ∧ (aad2.length = aad.length) ∧ (s2.length = text.length + size) ∧ f9 3 = pt b_b 0 ∧ f9 6 = .bool false ∧ f9 7 = .string (str s2) ∧ Row wl b_b 23 4 (fun j => if j < 1 then .string (str key2) else if j < 2 then .string (str v2) else if j < 3 then .string (str aad2) else .int .i64 ((size : Nat) : Int)) ∧ Gh.Fold wl Gh.fo ∧ Below w0.heap.size w0 wl) ?_ ?_
 ·skip
  refine sr ?_
  refine w_val (v := pt b_c 0) (y_off (y_fa (ex (pt b_c 0)) (GcmLawCT.fa33_0 _ _)) (by first | rfl | omega)) ?_
  refine w_val (v := .int .i64 fi) (y_ld (ex (pt b_c 0)) GcmLawCT.sc3 (r_b_c.val (by omega) (etv (if_pos (by omega))))) ?_
  refine nt ?_
  refine wp_block ?_
  refine sr ?_
  refine w_val (y_bin ei Ev.c b_eql) ?_
  refine w_as eb ?_
  refine nt ?_
  refine c_if (p := fi = 0) eb (fun hc11 => ?_) (fun hc11 => ?_)
  ·skip
   refine wp_region_lit ?_
   refine w_val (v := pt b_b 0) (y_off (y_fa (ex (pt b_b 0)) (GcmLawCT.fa23_0 _ _)) (by first | rfl | omega)) ?_
   refine w_val (v := .string (str key)) (y_ld (ex (pt b_b 0)) GcmLawCT.sc9 (r_b_b.val (by omega) (etv (if_pos (by omega))))) ?_
   refine w_val (v := .agg (arr 3 (fun j => if j < 1 then .int .i64 fi else if j < 2 then .int .i64 at_ else U8 x))) (y_lda (ex (pt b_c 0)) GcmLawCT.ag33 GcmLawCT.sz33 (fun j hj => by rw [Nat.zero_add]; exact (r_b_c.cell (by omega)))) ?_
   refine w_call (Tryd.func16) (by kernel_rfl) rfl (m2 es ea) (gcmTurned_l key fi at_ x (by omega) w7) ?_
   rintro _ w12 ⟨rfl, hb13⟩
   refine ⟨_, rfl, ?_⟩
   replace r_b_b := r_b_b.step hb13
   replace r_b_c := r_b_c.step hb13
   replace hk := thenB hk hb13
   replace hF := Gh.Fold.below hF hb13
   refine w_val (v := pt b_b 0) (y_off (y_fa (ex (pt b_b 0)) (GcmLawCT.fa23_0 _ _)) (by first | rfl | omega)) ?_
   refine w_st (v := .string (str (Gm.turned key at_ x))) (ex (pt b_b 0)) es rfl rfl GcmLawCT.sz9 r_b_b (by omega) ?_
   clear r_b_b; intro w14 r_b_b hg15 _
   replace r_b_c := r_b_c.stepG hg15 (by omega)
   replace hk := thenG hk hg15 (by omega)
   replace hF := Gh.Fold.grown hF hg15 (by omega)
   refine wpList_nil ?_
   refine inb_n ?_
   exact then_n ⟨Gm.turned key at_ x, v, aad, Gm.sealed Gh.fo key v aad text size, _, rfl, (by first | omega | (rw [Gm.turned_len]; first | done | omega)), (by first | omega | (rw [Gm.turned_len]; first | done | omega)), (by first | omega | (rw [Gm.turned_len]; first | done | omega)), (by first | omega | (rw [Gm.turned_len]; first | done | omega)), rfl, rfl, rfl, (r_b_b.cg), hF, hk⟩
  ·skip
   refine sr ?_
   refine w_val (y_bin ei Ev.c b_eql) ?_
   refine w_as eb ?_
   refine nt ?_
   refine c_if (p := fi = 1) eb (fun hc16 => ?_) (fun hc16 => ?_)
   ·skip
    refine wp_region_lit ?_
    refine w_val (v := pt b_b 1) (y_off (y_fa (ex (pt b_b 0)) (GcmLawCT.fa23_1 _ _)) (by first | rfl | omega)) ?_
    refine w_val (v := .string (str v)) (y_ld (ex (pt b_b 1)) GcmLawCT.sc9 (r_b_b.val (by omega) ((if_neg (by omega)).trans (etv (if_pos (by omega)))))) ?_
    refine w_val (v := .agg (arr 3 (fun j => if j < 1 then .int .i64 fi else if j < 2 then .int .i64 at_ else U8 x))) (y_lda (ex (pt b_c 0)) GcmLawCT.ag33 GcmLawCT.sz33 (fun j hj => by rw [Nat.zero_add]; exact (r_b_c.cell (by omega)))) ?_
    refine w_call (Tryd.func16) (by kernel_rfl) rfl (m2 es ea) (gcmTurned_l v fi at_ x (by omega) w7) ?_
    rintro _ w17 ⟨rfl, hb18⟩
    refine ⟨_, rfl, ?_⟩
    replace r_b_b := r_b_b.step hb18
    replace r_b_c := r_b_c.step hb18
    replace hk := thenB hk hb18
    replace hF := Gh.Fold.below hF hb18
    refine w_val (v := pt b_b 1) (y_off (y_fa (ex (pt b_b 0)) (GcmLawCT.fa23_1 _ _)) (by first | rfl | omega)) ?_
    refine w_st (v := .string (str (Gm.turned v at_ x))) (ex (pt b_b 1)) es rfl rfl GcmLawCT.sz9 r_b_b (by omega) ?_
    clear r_b_b; intro w19 r_b_b hg20 _
    replace r_b_c := r_b_c.stepG hg20 (by omega)
    replace hk := thenG hk hg20 (by omega)
    replace hF := Gh.Fold.grown hF hg20 (by omega)
    refine wpList_nil ?_
    refine inb_n ?_
    exact then_n ⟨key, Gm.turned v at_ x, aad, Gm.sealed Gh.fo key v aad text size, _, rfl, (by first | omega | (rw [Gm.turned_len]; first | done | omega)), (by first | omega | (rw [Gm.turned_len]; first | done | omega)), (by first | omega | (rw [Gm.turned_len]; first | done | omega)), (by first | omega | (rw [Gm.turned_len]; first | done | omega)), rfl, rfl, rfl, (r_b_b.cg), hF, hk⟩
   ·skip
    refine sr ?_
    refine w_val (y_bin ei Ev.c b_eql) ?_
    refine w_as eb ?_
    refine nt ?_
    refine c_if (p := fi = 2) eb (fun hc21 => ?_) (fun hc21 => ?_)
    ·skip
     refine wp_region_lit ?_
     refine w_val (v := pt b_b 2) (y_off (y_fa (ex (pt b_b 0)) (GcmLawCT.fa23_2 _ _)) (by first | rfl | omega)) ?_
     refine w_val (v := .string (str aad)) (y_ld (ex (pt b_b 2)) GcmLawCT.sc9 (r_b_b.val (by omega) ((if_neg (by omega)).trans ((if_neg (by omega)).trans (etv (if_pos (by omega))))))) ?_
     refine w_val (v := .agg (arr 3 (fun j => if j < 1 then .int .i64 fi else if j < 2 then .int .i64 at_ else U8 x))) (y_lda (ex (pt b_c 0)) GcmLawCT.ag33 GcmLawCT.sz33 (fun j hj => by rw [Nat.zero_add]; exact (r_b_c.cell (by omega)))) ?_
     refine w_call (Tryd.func16) (by kernel_rfl) rfl (m2 es ea) (gcmTurned_l aad fi at_ x (by omega) w7) ?_
     rintro _ w22 ⟨rfl, hb23⟩
     refine ⟨_, rfl, ?_⟩
     replace r_b_b := r_b_b.step hb23
     replace r_b_c := r_b_c.step hb23
     replace hk := thenB hk hb23
     replace hF := Gh.Fold.below hF hb23
     refine w_val (v := pt b_b 2) (y_off (y_fa (ex (pt b_b 0)) (GcmLawCT.fa23_2 _ _)) (by first | rfl | omega)) ?_
     refine w_st (v := .string (str (Gm.turned aad at_ x))) (ex (pt b_b 2)) es rfl rfl GcmLawCT.sz9 r_b_b (by omega) ?_
     clear r_b_b; intro w24 r_b_b hg25 _
     replace r_b_c := r_b_c.stepG hg25 (by omega)
     replace hk := thenG hk hg25 (by omega)
     replace hF := Gh.Fold.grown hF hg25 (by omega)
     refine wpList_nil ?_
     refine inb_n ?_
     exact then_n ⟨key, v, Gm.turned aad at_ x, Gm.sealed Gh.fo key v aad text size, _, rfl, (by first | omega | (rw [Gm.turned_len]; first | done | omega)), (by first | omega | (rw [Gm.turned_len]; first | done | omega)), (by first | omega | (rw [Gm.turned_len]; first | done | omega)), (by first | omega | (rw [Gm.turned_len]; first | done | omega)), rfl, rfl, rfl, (r_b_b.cg), hF, hk⟩
    ·skip
     refine wp_region_lit ?_
     refine w_mv es ?_
     refine w_val (v := .agg (arr 3 (fun j => if j < 1 then .int .i64 fi else if j < 2 then .int .i64 at_ else U8 x))) (y_lda (ex (pt b_c 0)) GcmLawCT.ag33 GcmLawCT.sz33 (fun j hj => by rw [Nat.zero_add]; exact (r_b_c.cell (by omega)))) ?_
     refine w_call (Tryd.func16) (by kernel_rfl) rfl (m2 es ea) (gcmTurned_l (Gm.sealed Gh.fo key v aad text size) fi at_ x (by omega) w7) ?_
     rintro _ w26 ⟨rfl, hb27⟩
     refine ⟨_, rfl, ?_⟩
     replace r_b_b := r_b_b.step hb27
     replace r_b_c := r_b_c.step hb27
     replace hk := thenB hk hb27
     replace hF := Gh.Fold.below hF hb27
     refine w_as es ?_
     refine wpList_nil ?_
     refine inb_n ?_
     exact then_n ⟨key, v, aad, Gm.turned (Gm.sealed Gh.fo key v aad text size) at_ x, _, rfl, (by first | omega | (rw [Gm.turned_len]; first | done | omega)), (by first | omega | (rw [Gm.turned_len]; first | done | omega)), (by first | omega | (rw [Gm.turned_len]; first | done | omega)), (by first | omega | (rw [Gm.turned_len]; first | done | omega)), rfl, rfl, rfl, r_b_b, hF, hk⟩
 ·skip
  clear r_b_b r_b_c hF hk
  rintro _ w28 ⟨key2, v2, aad2, s2, f9, rfl, t10_0, t10_1, t10_2, t10_3, t10_s3, t10_s6, t10_s7, r_b_b, hF, hk⟩
  have hok2 : Aes.okKey key2.length := by rw [t10_0]; exact hok
  have hv2 : 1 ≤ v2.length ∧ v2.length ≤ 1024 := by omega
  have ha2 : aad2.length ≤ 70000 := by omega
  have htk : (s2.take text.length).length = text.length := by rw [List.length_take]; omega
  refine sr ?_
  refine w_mv (es t10_s7) ?_
  refine w_val (y_len es Tryd.underlying9) ?_
  refine w_val (v := pt b_b 3) (y_off (y_fa (ex (pt b_b 0) t10_s3) (GcmLawCT.fa23_3 _ _)) (by first | rfl | omega)) ?_
  refine w_val (v := .int .i64 ((size : Nat) : Int)) (y_ld (ex (pt b_b 3)) GcmLawCT.sc3 (r_b_b.val (by omega) ((if_neg (by omega)).trans ((if_neg (by omega)).trans ((if_neg (by omega)).trans (by first | with_reducible rfl | (with_reducible congr 1 <;> omega) | (with_reducible congr 2 <;> omega) | (with_reducible congr 3 <;> omega) | rfl)))))) ?_
  refine w_val (y_bin ei ei (b_sub (by omega))) ?_
  refine w_as ei ?_
  refine nt ?_
  refine wp_seq ?_
  refine region_q GcmLawCT.mixed (by kernel_rfl) ?_
  refine q_val (v := pt b_b 0) (fun w' hw' => y_off (y_fa (ex (pt b_b 0) t10_s3) (GcmLawCT.fa23_0 _ _)) (by first | rfl | omega)) ?_
  refine q_val (v := .string (str key2)) (fun w' hw' => y_ld (ex (pt b_b 0)) GcmLawCT.sc9 (cls_cell (r_b_b.val (by omega) (etv (if_pos (by omega)))) r_b_b.lt w' hw')) ?_
  refine q_val (v := pt b_b 1) (fun w' hw' => y_off (y_fa (ex (pt b_b 0) t10_s3) (GcmLawCT.fa23_1 _ _)) (by first | rfl | omega)) ?_
  refine q_val (v := .string (str v2)) (fun w' hw' => y_ld (ex (pt b_b 1)) GcmLawCT.sc9 (cls_cell (r_b_b.val (by omega) ((if_neg (by omega)).trans (etv (if_pos (by omega))))) r_b_b.lt w' hw')) ?_
  refine q_val (v := pt b_b 2) (fun w' hw' => y_off (y_fa (ex (pt b_b 0) t10_s3) (GcmLawCT.fa23_2 _ _)) (by first | rfl | omega)) ?_
  refine q_val (v := .string (str aad2)) (fun w' hw' => y_ld (ex (pt b_b 2)) GcmLawCT.sc9 (cls_cell (r_b_b.val (by omega) ((if_neg (by omega)).trans ((if_neg (by omega)).trans (etv (if_pos (by omega)))))) r_b_b.lt w' hw')) ?_
  refine q_mv (es t10_s7) ?_
  refine q_mv (ex (.int .i64 ((text.length : Nat) : Int)) (Eq.trans (b := .int .i64 (((s2.length : Nat) : Int) - ((size : Nat) : Int))) rfl (by congr 1; omega))) ?_
  refine q_val (v := .string (str (s2.take text.length))) (fun w' hw' => y_sls (ex (.string (str s2))) evo.no (evo.s ei) Tryd.underlying9 (bnd_h (h := text.length) (by omega) (by omega))) ?_
  refine q_val (v := pt b_b 3) (fun w' hw' => y_off (y_fa (ex (pt b_b 0) t10_s3) (GcmLawCT.fa23_3 _ _)) (by first | rfl | omega)) ?_
  refine q_val (v := .int .i64 ((size : Nat) : Int)) (fun w' hw' => y_ld (ex (pt b_b 3)) GcmLawCT.sc3 (cls_cell (r_b_b.val (by omega) ((if_neg (by omega)).trans ((if_neg (by omega)).trans ((if_neg (by omega)).trans (by first | with_reducible rfl | (with_reducible congr 1 <;> omega) | (with_reducible congr 2 <;> omega) | (with_reducible congr 3 <;> omega) | rfl))))) r_b_b.lt w' hw')) ?_
  refine q_call (v := .tuple #[.string (str (Gm.tg Gh.fo key2 v2 aad2 (s2.take text.length) size)), .int .i64 0]) (Tryd.func12) (by kernel_rfl) rfl (m5 es es es es ei) (fun w' hw' => gmTag5_y Gh.fo key2 v2 aad2 size hok2 hv2 h12 h16 ha2 (s2.take text.length) (by omega) (by omega) w' (Gh.Fold.below hF hw')) ?_
  refine q_mv (ex (.tuple #[.string (str (Gm.tg Gh.fo key2 v2 aad2 (s2.take text.length) size)), .int .i64 0])) ?_
  refine q_val (fun w' hw' => y_ext (v := .string (str (Gm.tg Gh.fo key2 v2 aad2 (s2.take text.length) size))) (ex (.tuple #[.string (str (Gm.tg Gh.fo key2 v2 aad2 (s2.take text.length) size)), .int .i64 0])) rfl) ?_
  refine q_val (fun w' hw' => y_ext (v := .int .i64 0) (ex (.tuple #[.string (str (Gm.tg Gh.fo key2 v2 aad2 (s2.take text.length) size)), .int .i64 0])) rfl) ?_
  refine q_as es ?_
  refine q_as ei ?_
  refine q_nil ?_
  intro w29 hb30
  replace r_b_b := r_b_b.step hb30
  replace hk := thenB hk hb30
  replace hF := Gh.Fold.below hF hb30
  refine then_n ?_
  refine sr ?_
  refine w_val (v := pt b_b 0) (y_off (y_fa (ex (pt b_b 0) t10_s3) (GcmLawCT.fa23_0 _ _)) (by first | rfl | omega)) ?_
  refine w_val (v := .string (str key2)) (y_ld (ex (pt b_b 0)) GcmLawCT.sc9 (r_b_b.val (by omega) (etv (if_pos (by omega))))) ?_
  refine w_val (v := pt b_b 1) (y_off (y_fa (ex (pt b_b 0) t10_s3) (GcmLawCT.fa23_1 _ _)) (by first | rfl | omega)) ?_
  refine w_val (v := .string (str v2)) (y_ld (ex (pt b_b 1)) GcmLawCT.sc9 (r_b_b.val (by omega) ((if_neg (by omega)).trans (etv (if_pos (by omega)))))) ?_
  refine w_val (v := pt b_b 2) (y_off (y_fa (ex (pt b_b 0) t10_s3) (GcmLawCT.fa23_2 _ _)) (by first | rfl | omega)) ?_
  refine w_val (v := .string (str aad2)) (y_ld (ex (pt b_b 2)) GcmLawCT.sc9 (r_b_b.val (by omega) ((if_neg (by omega)).trans ((if_neg (by omega)).trans (etv (if_pos (by omega))))))) ?_
  refine w_mv (es t10_s7) ?_
  refine w_val (v := pt b_b 3) (y_off (y_fa (ex (pt b_b 0) t10_s3) (GcmLawCT.fa23_3 _ _)) (by first | rfl | omega)) ?_
  refine w_val (v := .int .i64 ((size : Nat) : Int)) (y_ld (ex (pt b_b 3)) GcmLawCT.sc3 (r_b_b.val (by omega) ((if_neg (by omega)).trans ((if_neg (by omega)).trans ((if_neg (by omega)).trans (by first | with_reducible rfl | (with_reducible congr 1 <;> omega) | (with_reducible congr 2 <;> omega) | (with_reducible congr 3 <;> omega) | rfl)))))) ?_
  refine w_call (Tryd.func14) (by kernel_rfl) rfl (m5 es es es es ei) (gmOpen_m Gh.fo key2 v2 aad2 size hok2 hv2 h12 h16 ha2 s2 (by omega) text.length (by omega) hz w29 hF) ?_
  rintro _ w31 ⟨rfl, hb32⟩
  refine ⟨_, rfl, ?_⟩
  replace r_b_b := r_b_b.step hb32
  replace hk := thenB hk hb32
  replace hF := Gh.Fold.below hF hb32
  refine w_mv (ex (.tuple #[.string (str (Gm.opened Gh.fo key2 v2 aad2 s2 text.length size)), .int .i64 (Gm.openE Gh.fo key2 v2 aad2 s2 text.length size)])) ?_
  refine w_val ye ?_
  refine w_val ye ?_
  refine w_as es ?_
  refine w_as ei ?_
  refine nt ?_
  refine wp_seq ?_
  refine sr ?_
  refine w_mv ei ?_
  refine w_val (y_bin ei Ev.c b_neq) ?_
  refine nt ?_
  refine c_ff eb ?_
  refine wp_skip ?_
  refine then_n ?_
  refine wp_seq ?_
  refine sr ?_
  refine w_mv es ?_
  refine w_mv (es t10_s7) ?_
  refine w_mv (ex (.int .i64 ((text.length : Nat) : Int)) (Eq.trans (b := .int .i64 (((s2.length : Nat) : Int) - ((size : Nat) : Int))) rfl (by congr 1; omega))) ?_
  refine w_val (v := .string (str (s2.drop text.length))) (y_slf (ex (.string (str s2))) (evo.s ei) Tryd.underlying9 (bnd_l (l := text.length) (by omega) (by omega))) ?_
  refine w_val (y_bin es es b_nes) ?_
  refine nt ?_
  refine c_if (p := (Gm.tg Gh.fo key2 v2 aad2 (s2.take text.length) size) ≠ (s2.drop text.length)) eb (fun hc33 => ?_) (fun hc33 => ?_)
  ·skip
   refine wp_seq ?_
   have hE : Gm.openE Gh.fo key2 v2 aad2 s2 text.length size = 8 ∧ Gm.opened Gh.fo key2 v2 aad2 s2 text.length size = [] := Gm.open_no _ _ _ _ _ _ _ (by assumption)
   refine wp_region_lit ?_
   refine w_mv ei ?_
   refine w_val (y_bin ei Ev.c b_eql) ?_
   refine w_mv eb ?_
   have hc34 : (Gm.openE Gh.fo key2 v2 aad2 s2 text.length size) = 8 := by exact hE.1
   refine w_val_g (v := .string (str (Gm.opened Gh.fo key2 v2 aad2 s2 text.length size))) (wy rfl rfl (eb (dt hc34))) (y_mv es) ?_
   refine w_val_g (wy rfl rfl (eb (dt hc34))) (y_bin es (evc (.string (str ([] : List (BitVec 8))))) b_eqs) ?_
   refine w_val (y_pick_t (eb (dt hc34)) eb) ?_
   refine w_as eb ?_
   refine nt ?_
   refine wp_ret ?_
   refine then_r ?_
   have hc35 : (Gm.opened Gh.fo key2 v2 aad2 s2 text.length size) = ([] : List (BitVec 8)) := by exact hE.2
   refine fin_ret1 rfl (eb (dt hc35)) ?_
   exact ⟨rfl, hk⟩
  ·skip
   refine wp_skip ?_
   refine then_n ?_
   refine wp_seq ?_
   have hE : Gm.openE Gh.fo key2 v2 aad2 s2 text.length size = 0 ∧ (Gm.opened Gh.fo key2 v2 aad2 s2 text.length size).length = text.length := Gm.open_yes _ _ _ _ _ _ _ (by first | assumption | exact Decidable.not_not.1 (by assumption)) (by omega)
   refine wp_region_lit ?_
   refine w_mv ei ?_
   refine w_val (y_bin ei Ev.c b_eql) ?_
   refine w_mv eb ?_
   have hc36 : (Gm.openE Gh.fo key2 v2 aad2 s2 text.length size) = 0 := by exact hE.1
   refine w_val_g (v := .string (str (Gm.opened Gh.fo key2 v2 aad2 s2 text.length size))) (wy rfl rfl (eb (dt hc36))) (y_mv es) ?_
   refine w_val_g (wy rfl rfl (eb (dt hc36))) (y_len es Tryd.underlying9) ?_
   refine w_val_g (v := .int .i64 ((text.length : Nat) : Int)) (wy rfl rfl (eb (dt hc36))) (y_mv (ex (.int .i64 ((text.length : Nat) : Int)) (Eq.trans (b := .int .i64 (((s2.length : Nat) : Int) - ((size : Nat) : Int))) rfl (by congr 1; omega)))) ?_
   refine w_val_g (wy rfl rfl (eb (dt hc36))) (y_bin ei ei b_eql) ?_
   refine w_val (y_pick_t (eb (dt hc36)) eb) ?_
   refine w_as eb ?_
   refine nt ?_
   refine wp_ret ?_
   have hc37 : (((Gm.opened Gh.fo key2 v2 aad2 s2 text.length size).length : Nat) : Int) = ((text.length : Nat) : Int) := by rw [hE.2]
   refine fin_ret1 rfl (eb (dt hc37)) ?_
   exact ⟨rfl, hk⟩

theorem walk_GcmChanged (key : List (BitVec 8)) (hkey : key.length ≤ 140737488351232) (v : List (BitVec 8)) (hno : v.length ≤ 140737488351232) (aad : List (BitVec 8)) (ha_ : aad.length ≤ 140737488351232) (size : Int) (hw : (Lit.int .i64 size).wf = true) (text : List (BitVec 8)) (ht_ : text.length ≤ 140737488351232) (fi : Int) (hwf : (Lit.int .i64 fi).wf = true) (at_ : Int) (hwa : (Lit.int .i64 at_).wf = true) (x : BitVec 8) (w : World) (hF : Gh.Fold w Gh.fo) : Calls Tryd.prog 7 #[.agg #[.string (str key), .string (str v), .string (str aad), .int .i64 size], .string (str text), .agg #[.int .i64 fi, .int .i64 at_, U8 x]] w fun e w' => e = .returned (.bool true) ∧ Below w.heap.size w w' := by
  by_cases hok : Aes.okKey key.length
  · by_cases hv : 1 ≤ v.length ∧ v.length ≤ 1024
    · by_cases ht : 12 ≤ size ∧ size ≤ 16
      · obtain ⟨k, rfl⟩ : ∃ k : Nat, size = k := ⟨size.toNat, by omega⟩
        by_cases ha : aad.length ≤ 70000
        · by_cases hz : text.length ≤ 70000
          · exact gcmChanged_y key v aad k hok hv (by omega) (by omega) ha text ht_ hkey hno ha_ fi at_ x hz w hF
          · exact gcmChanged_z key v aad k hok hv (by omega) (by omega) ha text ht_ hkey hno ha_ fi at_ x (by omega) w hF
        · exact gcmChanged_a key v aad k hok hv (by omega) (by omega) (by omega) text ht_ hkey hno ha_ fi at_ x w hF
      · exact gcmChanged_t key v aad size hok hv ht text ht_ hkey hno ha_ fi at_ x w hF
    · exact gcmChanged_v key v aad size hok hv text ht_ hkey hno ha_ fi at_ x w hF
  · exact gcmChanged_k key v aad size hok text ht_ hkey hno ha_ fi at_ x w hF
end Go.Proofs.YtkjdejadambffaaDoor
