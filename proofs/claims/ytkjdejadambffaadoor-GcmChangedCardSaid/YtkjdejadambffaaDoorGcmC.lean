/-
  What is wrong, first counters: by the reference. Conditions as each says.
-/
import Derived.Test.YtkjdejadambffaaDoorRows
import Derived.Test.YtkjdejadambffaaDoorGen
import Derived.Test.YtkjdejadambffaaDoorGhR
import Derived.Test.YtkjdejadambffaaDoorAesBase
import Derived.Test.YtkjdejadambffaaDoorOctW
import Derived.Test.YtkjdejadambffaaDoorGcmPlain
import Derived.Test.YtkjdejadambffaaDoorCtrD
import Derived.ProofKit
namespace Go.Proofs.YtkjdejadambffaaDoor
open Go.RowKit
set_option linter.unusedSimpArgs false
set_option linter.unusedVariables false
set_option maxRecDepth 100000
set_option maxHeartbeats 1000000
namespace GcmCT
theorem mixed : Tryd.prog.follows .mixedOrders = true := by kernel_rfl
theorem fa55_0 (g off : Nat) : ∀ w, (Instr.fieldAt 55 (.pointer (some ⟨g, off, none⟩)) 0).run Tryd.prog w = .ok (.pointer (some ⟨g, off + 0, none⟩)) w := fun w => by kernel_rfl
theorem fa55_1 (g off : Nat) : ∀ w, (Instr.fieldAt 55 (.pointer (some ⟨g, off, none⟩)) 1).run Tryd.prog w = .ok (.pointer (some ⟨g, off + 1, none⟩)) w := fun w => by kernel_rfl
theorem fa55_2 (g off : Nat) : ∀ w, (Instr.fieldAt 55 (.pointer (some ⟨g, off, none⟩)) 2).run Tryd.prog w = .ok (.pointer (some ⟨g, off + 2, none⟩)) w := fun w => by kernel_rfl
theorem fa57_0 (g off : Nat) : ∀ w, (Instr.fieldAt 57 (.pointer (some ⟨g, off, none⟩)) 0).run Tryd.prog w = .ok (.pointer (some ⟨g, off + 0, none⟩)) w := fun w => by kernel_rfl
theorem fa57_1 (g off : Nat) : ∀ w, (Instr.fieldAt 57 (.pointer (some ⟨g, off, none⟩)) 1).run Tryd.prog w = .ok (.pointer (some ⟨g, off + 3, none⟩)) w := fun w => by kernel_rfl
theorem sc51 : (Tryd.prog.underlying 51).map scal = some true := by rw [Tryd.underlying51]; rfl
theorem sc9 : (Tryd.prog.underlying 9).map scal = some true := by rw [Tryd.underlying9]; rfl
theorem so3 : (Tryd.prog.underlying 3).isSome = true := by rw [Tryd.underlying3]; rfl
theorem sz9 : (Tryd.prog.info? 9).map (·.size) = some 1 := by kernel_rfl
end GcmCT
theorem gmRefWrong_k (key v aad : List (BitVec 8)) (size : Int) (hok : ¬ Aes.okKey key.length) (w0 : World) : Calls Tryd.prog 20 #[.string (str key), .string (str v), .string (str aad), .int .i64 size] w0 fun e w' => e = .returned (.int .i64 3) ∧ Below w0.heap.size w0 w' := by
 refine enter (n := 33) Tryd.func20 rfl rfl rfl ?_
 have hk : Below w0.heap.size w0 w0 := Below.refl _ _
 refine sr ?_
 refine w_as Ev.c ?_
 refine nt ?_
 refine wp_seq ?_
 refine wp_block ?_
 refine sr ?_
 refine w_mv es ?_
 refine w_call (Tryd.func40) (by kernel_rfl) rfl (m1 es) (right_l_no key w0 hok) ?_
 rintro _ _ ⟨rfl, rfl⟩
 refine ⟨_, rfl, ?_⟩
 refine w_val (y_not eb) ?_
 refine w_as eb ?_
 refine nt ?_
 refine c_tt eb ?_
 refine sr ?_
 refine w_as Ev.c ?_
 refine nt ?_
 refine wp_ret ?_
 refine inb_r ?_
 refine then_r ?_
 refine fin_ret1 rfl ei ?_
 exact ⟨rfl, hk⟩

theorem gmRefWrong_v (key v aad : List (BitVec 8)) (size : Int) (hok : Aes.okKey key.length) (hv : ¬ (1 ≤ v.length ∧ v.length ≤ 1024)) (w0 : World) : Calls Tryd.prog 20 #[.string (str key), .string (str v), .string (str aad), .int .i64 size] w0 fun e w' => e = .returned (.int .i64 4) ∧ Below w0.heap.size w0 w' := by
 refine enter (n := 33) Tryd.func20 rfl rfl rfl ?_
 have hk : Below w0.heap.size w0 w0 := Below.refl _ _
 refine sr ?_
 refine w_as Ev.c ?_
 refine nt ?_
 refine wp_seq ?_
 refine wp_block ?_
 refine sr ?_
 refine w_mv es ?_
 refine w_call (Tryd.func40) (by kernel_rfl) rfl (m1 es) (right_l key w0 hok) ?_
 rintro _ _ ⟨rfl, rfl⟩
 refine ⟨_, rfl, ?_⟩
 refine w_val (y_not eb) ?_
 refine w_as eb ?_
 refine nt ?_
 refine c_ff eb ?_
 refine sr ?_
 refine w_mv es ?_
 refine w_val (y_len es Tryd.underlying9) ?_
 refine w_val (y_bin ei Ev.c b_eql) ?_
 refine w_mv eb ?_
 by_cases hc2 : ((v.length : Nat) : Int) = 0
 ·skip
  with_reducible refine w_skip ?_ ?_
  exact wn rfl rfl (eb (dt hc2))
  with_reducible refine w_skip ?_ ?_
  exact wn rfl rfl (eb (dt hc2))
  with_reducible refine w_skip ?_ ?_
  exact wn rfl rfl (eb (dt hc2))
  refine w_val (y_pick_t (eb (dt hc2)) Ev.c) ?_
  refine w_as eb ?_
  refine nt ?_
  refine c_tt eb ?_
  refine sr ?_
  refine w_as Ev.c ?_
  refine nt ?_
  refine wp_ret ?_
  refine inb_r ?_
  refine then_r ?_
  refine fin_ret1 rfl ei ?_
  exact ⟨rfl, hk⟩
 ·skip
  refine w_val_g (v := .string (str v)) (wy rfl rfl (eb (df hc2))) (y_mv es) ?_
  refine w_val_g (wy rfl rfl (eb (df hc2))) (y_len es Tryd.underlying9) ?_
  refine w_val_g (wy rfl rfl (eb (df hc2))) (y_bin ei Ev.c b_gtr) ?_
  refine w_val (y_pick_f (eb (df hc2)) eb) ?_
  refine w_as eb ?_
  refine nt ?_
  have hc3 : 1024 < ((v.length : Nat) : Int) := by first | omega | (have hv0 := List.length_pos_iff.2 (show v ≠ [] by assumption); omega)
  refine c_t (p := 1024 < ((v.length : Nat) : Int)) eb hc3 ?_
  refine sr ?_
  refine w_as Ev.c ?_
  refine nt ?_
  refine wp_ret ?_
  refine inb_r ?_
  refine then_r ?_
  refine fin_ret1 rfl ei ?_
  exact ⟨rfl, hk⟩

theorem gmRefWrong_t (key v aad : List (BitVec 8)) (size : Int) (hok : Aes.okKey key.length) (hv : 1 ≤ v.length ∧ v.length ≤ 1024) (ht : ¬ (12 ≤ size ∧ size ≤ 16)) (w0 : World) : Calls Tryd.prog 20 #[.string (str key), .string (str v), .string (str aad), .int .i64 size] w0 fun e w' => e = .returned (.int .i64 5) ∧ Below w0.heap.size w0 w' := by
 refine enter (n := 33) Tryd.func20 rfl rfl rfl ?_
 have hk : Below w0.heap.size w0 w0 := Below.refl _ _
 refine sr ?_
 refine w_as Ev.c ?_
 refine nt ?_
 refine wp_seq ?_
 refine wp_block ?_
 refine sr ?_
 refine w_mv es ?_
 refine w_call (Tryd.func40) (by kernel_rfl) rfl (m1 es) (right_l key w0 hok) ?_
 rintro _ _ ⟨rfl, rfl⟩
 refine ⟨_, rfl, ?_⟩
 refine w_val (y_not eb) ?_
 refine w_as eb ?_
 refine nt ?_
 refine c_ff eb ?_
 refine sr ?_
 refine w_mv es ?_
 refine w_val (y_len es Tryd.underlying9) ?_
 refine w_val (y_bin ei Ev.c b_eql) ?_
 refine w_mv eb ?_
 have hc2 : ¬ (((v.length : Nat) : Int) = 0) := by omega
 refine w_val_g (v := .string (str v)) (wy rfl rfl (eb (df hc2))) (y_mv es) ?_
 refine w_val_g (wy rfl rfl (eb (df hc2))) (y_len es Tryd.underlying9) ?_
 refine w_val_g (wy rfl rfl (eb (df hc2))) (y_bin ei Ev.c b_gtr) ?_
 refine w_val (y_pick_f (eb (df hc2)) eb) ?_
 refine w_as eb ?_
 refine nt ?_
 have hc3 : ¬ (1024 < ((v.length : Nat) : Int)) := by omega
 refine c_f (p := 1024 < ((v.length : Nat) : Int)) eb hc3 ?_
 refine sr ?_
 refine w_mv ei ?_
 refine w_val (y_bin ei Ev.c b_lss) ?_
 refine w_mv eb ?_
 by_cases hc4 : size < 12
 ·skip
  with_reducible refine w_skip ?_ ?_
  exact wn rfl rfl (eb (dt hc4))
  with_reducible refine w_skip ?_ ?_
  exact wn rfl rfl (eb (dt hc4))
  refine w_val (y_pick_t (eb (dt hc4)) Ev.c) ?_
  refine w_as eb ?_
  refine nt ?_
  refine c_tt eb ?_
  refine sr ?_
  refine w_as Ev.c ?_
  refine nt ?_
  refine wp_ret ?_
  refine inb_r ?_
  refine then_r ?_
  refine fin_ret1 rfl ei ?_
  exact ⟨rfl, hk⟩
 ·skip
  refine w_val_g (v := .int .i64 size) (wy rfl rfl (eb (df hc4))) (y_mv ei) ?_
  refine w_val_g (wy rfl rfl (eb (df hc4))) (y_bin ei Ev.c b_gtr) ?_
  refine w_val (y_pick_f (eb (df hc4)) eb) ?_
  refine w_as eb ?_
  refine nt ?_
  refine c_if (p := 16 < size) eb (fun hc5 => ?_) (fun hc5 => ?_)
  ·skip
   refine sr ?_
   refine w_as Ev.c ?_
   refine nt ?_
   refine wp_ret ?_
   refine inb_r ?_
   refine then_r ?_
   refine fin_ret1 rfl ei ?_
   exact ⟨rfl, hk⟩
  ·skip
   refine wp_seq ?_
   exfalso; omega

theorem gmRefWrong_a (key v aad : List (BitVec 8)) (size : Nat) (hok : Aes.okKey key.length) (hv : 1 ≤ v.length ∧ v.length ≤ 1024) (h12 : 12 ≤ size) (h16 : size ≤ 16) (ha : 70000 < aad.length) (w0 : World) : Calls Tryd.prog 20 #[.string (str key), .string (str v), .string (str aad), .int .i64 ((size : Nat) : Int)] w0 fun e w' => e = .returned (.int .i64 6) ∧ Below w0.heap.size w0 w' := by
 refine enter (n := 33) Tryd.func20 rfl rfl rfl ?_
 have hk : Below w0.heap.size w0 w0 := Below.refl _ _
 refine sr ?_
 refine w_as Ev.c ?_
 refine nt ?_
 refine wp_seq ?_
 refine wp_block ?_
 refine sr ?_
 refine w_mv es ?_
 refine w_call (Tryd.func40) (by kernel_rfl) rfl (m1 es) (right_l key w0 hok) ?_
 rintro _ _ ⟨rfl, rfl⟩
 refine ⟨_, rfl, ?_⟩
 refine w_val (y_not eb) ?_
 refine w_as eb ?_
 refine nt ?_
 refine c_ff eb ?_
 refine sr ?_
 refine w_mv es ?_
 refine w_val (y_len es Tryd.underlying9) ?_
 refine w_val (y_bin ei Ev.c b_eql) ?_
 refine w_mv eb ?_
 have hc2 : ¬ (((v.length : Nat) : Int) = 0) := by omega
 refine w_val_g (v := .string (str v)) (wy rfl rfl (eb (df hc2))) (y_mv es) ?_
 refine w_val_g (wy rfl rfl (eb (df hc2))) (y_len es Tryd.underlying9) ?_
 refine w_val_g (wy rfl rfl (eb (df hc2))) (y_bin ei Ev.c b_gtr) ?_
 refine w_val (y_pick_f (eb (df hc2)) eb) ?_
 refine w_as eb ?_
 refine nt ?_
 have hc3 : ¬ (1024 < ((v.length : Nat) : Int)) := by omega
 refine c_f (p := 1024 < ((v.length : Nat) : Int)) eb hc3 ?_
 refine sr ?_
 refine w_mv ei ?_
 refine w_val (y_bin ei Ev.c b_lss) ?_
 refine w_mv eb ?_
 have hc4 : ¬ (((size : Nat) : Int) < 12) := by omega
 refine w_val_g (v := .int .i64 ((size : Nat) : Int)) (wy rfl rfl (eb (df hc4))) (y_mv ei) ?_
 refine w_val_g (wy rfl rfl (eb (df hc4))) (y_bin ei Ev.c b_gtr) ?_
 refine w_val (y_pick_f (eb (df hc4)) eb) ?_
 refine w_as eb ?_
 refine nt ?_
 have hc5 : ¬ (16 < ((size : Nat) : Int)) := by omega
 refine c_f (p := 16 < ((size : Nat) : Int)) eb hc5 ?_
 refine sr ?_
 refine w_mv es ?_
 refine w_val (y_len es Tryd.underlying9) ?_
 refine w_val (y_bin ei Ev.c b_gtr) ?_
 refine w_as eb ?_
 refine nt ?_
 have hc6 : 70000 < ((aad.length : Nat) : Int) := by omega
 refine c_t (p := 70000 < ((aad.length : Nat) : Int)) eb hc6 ?_
 refine sr ?_
 refine w_as Ev.c ?_
 refine nt ?_
 refine wp_ret ?_
 refine inb_r ?_
 refine then_r ?_
 refine fin_ret1 rfl ei ?_
 exact ⟨rfl, hk⟩

theorem gmRefWrong_y (key v aad : List (BitVec 8)) (size : Nat) (hok : Aes.okKey key.length) (hv : 1 ≤ v.length ∧ v.length ≤ 1024) (h12 : 12 ≤ size) (h16 : size ≤ 16) (ha : aad.length ≤ 70000) (w0 : World) : Calls Tryd.prog 20 #[.string (str key), .string (str v), .string (str aad), .int .i64 ((size : Nat) : Int)] w0 fun e w' => e = .returned (.int .i64 0) ∧ Below w0.heap.size w0 w' := by
 refine enter (n := 33) Tryd.func20 rfl rfl rfl ?_
 have hk : Below w0.heap.size w0 w0 := Below.refl _ _
 refine sr ?_
 refine w_as Ev.c ?_
 refine nt ?_
 refine wp_seq ?_
 refine wp_block ?_
 refine sr ?_
 refine w_mv es ?_
 refine w_call (Tryd.func40) (by kernel_rfl) rfl (m1 es) (right_l key w0 hok) ?_
 rintro _ _ ⟨rfl, rfl⟩
 refine ⟨_, rfl, ?_⟩
 refine w_val (y_not eb) ?_
 refine w_as eb ?_
 refine nt ?_
 refine c_ff eb ?_
 refine sr ?_
 refine w_mv es ?_
 refine w_val (y_len es Tryd.underlying9) ?_
 refine w_val (y_bin ei Ev.c b_eql) ?_
 refine w_mv eb ?_
 have hc2 : ¬ (((v.length : Nat) : Int) = 0) := by omega
 refine w_val_g (v := .string (str v)) (wy rfl rfl (eb (df hc2))) (y_mv es) ?_
 refine w_val_g (wy rfl rfl (eb (df hc2))) (y_len es Tryd.underlying9) ?_
 refine w_val_g (wy rfl rfl (eb (df hc2))) (y_bin ei Ev.c b_gtr) ?_
 refine w_val (y_pick_f (eb (df hc2)) eb) ?_
 refine w_as eb ?_
 refine nt ?_
 have hc3 : ¬ (1024 < ((v.length : Nat) : Int)) := by omega
 refine c_f (p := 1024 < ((v.length : Nat) : Int)) eb hc3 ?_
 refine sr ?_
 refine w_mv ei ?_
 refine w_val (y_bin ei Ev.c b_lss) ?_
 refine w_mv eb ?_
 have hc4 : ¬ (((size : Nat) : Int) < 12) := by omega
 refine w_val_g (v := .int .i64 ((size : Nat) : Int)) (wy rfl rfl (eb (df hc4))) (y_mv ei) ?_
 refine w_val_g (wy rfl rfl (eb (df hc4))) (y_bin ei Ev.c b_gtr) ?_
 refine w_val (y_pick_f (eb (df hc4)) eb) ?_
 refine w_as eb ?_
 refine nt ?_
 have hc5 : ¬ (16 < ((size : Nat) : Int)) := by omega
 refine c_f (p := 16 < ((size : Nat) : Int)) eb hc5 ?_
 refine sr ?_
 refine w_mv es ?_
 refine w_val (y_len es Tryd.underlying9) ?_
 refine w_val (y_bin ei Ev.c b_gtr) ?_
 refine w_as eb ?_
 refine nt ?_
 have hc6 : ¬ (70000 < ((aad.length : Nat) : Int)) := by omega
 refine c_f (p := 70000 < ((aad.length : Nat) : Int)) eb hc6 ?_
 refine wp_skip ?_
 refine inb_n ?_
 refine then_n ?_
 refine sr ?_
 refine w_as Ev.c ?_
 refine nt ?_
 refine wp_ret ?_
 refine fin_ret1 rfl ei ?_
 exact ⟨rfl, hk⟩

theorem gmRefZeros (n : Nat) (hn : n ≤ 100) (w0 : World) : Calls Tryd.prog 25 #[.int .i64 ((n : Nat) : Int)] w0 fun e w' => e = .returned (.string (str (List.replicate n 0#8))) ∧ Below w0.heap.size w0 w' := by
 refine enter (n := 6) Tryd.func25 rfl rfl rfl ?_
 have hk : Below w0.heap.size w0 w0 := Below.refl _ _
 refine sr ?_
 refine w_as (evc (.string (str ([] : List (BitVec 8))))) ?_
 refine nt ?_
 refine sr ?_
 refine w_mv ei ?_
 refine w_mks (m := n) (bytes := 1) (zv := U8 (0#8)) ei ei (by omega) (by omega) Tryd.underlying50 (by kernel_rfl) rfl (by omega) (by omega) ?_
 intro b_4 w1 hbe_b_4 r_b_4 hb2
 have ge_b_4 := gb_ hk.size hbe_b_4
 clear hbe_b_4
 replace hk := thenB hk hb2
 refine w_val (y_str (l := List.replicate n 0#8) el (by exact List.length_replicate) Tryd.underlying50 Tryd.underlying5 Tryd.underlying9 (fun j hj => (r_b_4.val (by omega) (by exact congrArg U8 (gb_rep n j).symm)))) ?_
 refine w_as es ?_
 refine nt ?_
 refine wp_ret ?_
 refine fin_ret1 rfl es ?_
 exact ⟨rfl, hk⟩

theorem refFilled (s : List (BitVec 8)) (hs : s.length ≤ 1000000) (w0 : World) : Calls Tryd.prog 26 #[.string (str s)] w0 fun e w' => e = .returned (.string (str (Cb.z s))) ∧ Below w0.heap.size w0 w' := by
 have hzl : (Cb.z s).length = s.length + (16 - s.length % 16) % 16 := Cb.z_len s
 refine enter (n := 15) Tryd.func26 rfl rfl rfl ?_
 have hk : Below w0.heap.size w0 w0 := Below.refl _ _
 refine sr ?_
 refine w_as (evc (.string (str ([] : List (BitVec 8))))) ?_
 refine nt ?_
 refine sr ?_
 refine w_mv es ?_
 refine w_bytes_own es Tryd.underlying9 Tryd.underlying50 Tryd.underlying5 (by simp only [maxLen]; omega) hk.size ?_
 intro v1 w2 o_v1 hv4 hb3
 replace hk := thenB hk hb3
 refine w_as (ex v1) ?_
 refine nt ?_
 refine wp_seq ?_
 refine wp_block ?_
 refine c_loop (fun dN aN wl => ∃ (m : Nat) (vo : Value), dN = (16 - m) ∧ ∃ f5, aN = fr 15 f5 ∧ (m ≤ (16 - s.length % 16) % 16) ∧ f5 2 = .string (str ([] : List (BitVec 8))) ∧ f5 3 = vo ∧ Own wl w0.heap.size 5 1 vo (s.length + m) (fun j => U8 (gb s j)) ∧ Below w0.heap.size w0 wl) (16 - 0) ?_ ?_
 · exact ⟨0, v1, rfl, _, rfl, iv, rfl, (etv (b := v1) rfl), (own_n (o_v1.cg) (by omega)), hk⟩
 ·skip
  clear o_v1 hk
  rintro _ _ w6 ⟨m, vo, rfl, f5, rfl, i1_0, s1_2, s1_3, o_vo, hk⟩
  refine wp_seq ?_
  refine sr ?_
  refine w_mv (ex vo s1_3) ?_
  refine w_val (v := .int .i64 (((s.length + m) : Nat) : Int)) (y_len_own (ex vo) o_vo Tryd.underlying50) ?_
  refine w_val (y_bin ei Ev.c (b_rem (by omega))) ?_
  refine w_val (y_bin ei Ev.c b_neq) ?_
  refine nt ?_
  refine c_if (p := ((((s.length + m) : Nat) : Int) % 16) ≠ 0) eb (fun hc7 => ?_) (fun hc7 => ?_)
  ·skip
   refine wp_skip ?_
   refine then_n ?_
   refine wp_block ?_
   refine wp_region_lit ?_
   refine w_mv (ex vo s1_3) ?_
   refine w_bs1 (m := 1) (e := 5) (F := fun j => U8 (0#8)) (evc (U8 (0#8))) (fun w => by kernel_rfl) ?_
   intro b_11 w8 hbe_b_11 r_b_11 hb9
   have no_vo_b_11 : vo.ownBlock ≠ some b_11 := o_vo.apart (by omega)
   have ge_b_11 := gb_ hk.size hbe_b_11
   clear hbe_b_11
   replace o_vo := o_vo.step hb9
   replace hk := thenB hk hb9
   refine w_app (k := (s.length + m)) (m := 1) (size := 1) (bytes := 1) (ex vo) el Tryd.underlying50 (by kernel_rfl) (by decide) o_vo hk.size r_b_11 (by omega) oca (by simp only [maxLen]; omega) (by omega) ?_
   intro v10 w11 o_v10 hg12 hv13
   have no_v10_b_11 := no_new no_vo_b_11 r_b_11.lt hv13
   replace r_b_11 := r_b_11.stepO hg12 no_vo_b_11
   replace hk := thenO hk hg12 (fun g e => (o_vo.block_lt g e).2)
   clear o_vo
   refine w_as (ex v10) ?_
   refine wpList_nil ?_
   refine inb_n ?_
   exact then_n ⟨_, (by omega), m + 1, v10, rfl, _, rfl, iv, s1_2, rfl, (own_n (o_v10.congr (fun j hj => by (try dsimp only); by_cases e : j < (s.length + m) * 1; (rw [if_pos e]); (rw [if_neg e, gb_out s j (by omega)]))) (by omega)), hk⟩
  ·skip
   refine wp_exit ?_
   refine then_x ?_
   refine then_x ?_
   refine inb_x ?_
   refine then_n ?_
   refine sr ?_
   refine w_mv (ex vo s1_3) ?_
   refine w_val (v := .string (str (Cb.z s))) (y_strown (l := Cb.z s) (ex vo) o_vo  (by exact (by rw [hzl]; omega)) (fun j hj => by exact (by rw [Cb.gb_z])) Tryd.underlying50 Tryd.underlying5 Tryd.underlying9) ?_
   refine w_as es ?_
   refine nt ?_
   refine wp_ret ?_
   refine fin_ret1 rfl es ?_
   exact ⟨rfl, hk⟩

theorem gmRefBits (s : List (BitVec 8)) (hs : s.length ≤ 1000000) (w0 : World) : Calls Tryd.prog 27 #[.string (str s)] w0 fun e w' => e = .returned (.string (str (Gm.bl s))) ∧ Below w0.heap.size w0 w' := by
 refine enter (n := 14) Tryd.func27 rfl rfl rfl ?_
 have hk : Below w0.heap.size w0 w0 := Below.refl _ _
 refine sr ?_
 refine w_as (evc (.string (str ([] : List (BitVec 8))))) ?_
 refine nt ?_
 refine sr ?_
 refine w_mv es ?_
 refine w_val (y_len es Tryd.underlying9) ?_
 refine w_val (y_bin Ev.c ei (b_mul (by omega))) ?_
 refine w_val (y_nat_u64 (p := (8 * s.length)) ei (by omega) GcmCT.so3 Tryd.underlying62) ?_
 refine w_call (Tryd.func47) (by kernel_rfl) rfl (m2 e6 Ev.c) (refPut_c (BitVec.ofNat 64 (8 * s.length)) 8 (by decide) (by decide) (BitVec.isLt _) w0) ?_
 rintro _ w1 ⟨rfl, hb2⟩
 refine ⟨_, rfl, ?_⟩
 replace hk := thenB hk hb2
 refine w_mv (ex (.tuple #[.string (str (Oct.be (BitVec.ofNat 64 (8 * s.length)) 8)), .int .i64 0])) ?_
 refine w_val ye ?_
 refine w_val ye ?_
 refine w_as es ?_
 refine w_as ei ?_
 refine nt ?_
 refine sr ?_
 refine w_mv es ?_
 refine w_as es ?_
 refine nt ?_
 refine wp_ret ?_
 refine fin_ret1 rfl es ?_
 refine ⟨congrArg Ending.returned ?_, hk⟩
 show (.string (str (Oct.be (BitVec.ofNat 64 (8 * s.length)) 8)) : Value) = .string (str (Gm.bl s))
 rfl

theorem gmRefFirst (bx g cap : Nat) (key v : List (BitVec 8)) (hok : Aes.okKey key.length) (hv : 1 ≤ v.length ∧ v.length ≤ 1024) (w0 : World) (r_bx : Row w0 bx 69 513 (fun j => if j < 256 then U8 (Aes.sb j) else if j < 512 then U8 (Aes.bk (j - 256)) else .slice (some ⟨g, 0, none⟩) ((Aes.words key).length) cap)) (r_g : Row w0 g 73 ((Aes.words key).length * 4) (fun j => U8 (Aes.byteOf (Aes.gw (Aes.words key) (j / 4)) (j % 4)))) : Calls Tryd.prog 29 #[pt bx 0, .string (str v)] w0 fun e w' => e = .returned (.string (str (Gm.first Gh.fo key v))) ∧ Below w0.heap.size w0 w' := by
 refine enter (n := 27) Tryd.func29 rfl rfl rfl ?_
 have hk : Below w0.heap.size w0 w0 := Below.refl _ _
 have lt_bx := r_bx.lt
 have lt_g := r_g.lt
 refine sr ?_
 refine w_as (evc (.string (str ([] : List (BitVec 8))))) ?_
 refine nt ?_
 refine wp_seq ?_
 refine sr ?_
 refine w_mv es ?_
 refine w_val (y_len es Tryd.underlying9) ?_
 refine w_val (y_bin ei Ev.c b_eql) ?_
 refine nt ?_
 refine c_if (p := ((v.length : Nat) : Int) = 12) eb (fun hc1 => ?_) (fun hc1 => ?_)
 ·skip
  refine sr ?_
  refine w_mv es ?_
  refine w_val (y_bin es (evc (.string (str Gm.n1))) (b_cat (by simp only [List.length_append, List.length_replicate, Gm.bl_len, Cb.z_len, Cb.zn, Gm.n1, List.length_cons, List.length_nil]; omega))) ?_
  refine w_as es ?_
  refine nt ?_
  refine wp_ret ?_
  refine then_r ?_
  refine fin_ret1 rfl es ?_
  refine ⟨congrArg Ending.returned ?_, hk⟩
  show (.string (str (v ++ Gm.n1)) : Value) = .string (str (Gm.first Gh.fo key v))
  first | exact congrArg (fun l => Value.string (str l)) (Gm.first_12 _ key v (by omega)) | exact congrArg (fun l => Value.string (str l)) (Gm.first_n _ key v (by omega))
 ·skip
  refine wp_skip ?_
  refine then_n ?_
  refine sr ?_
  refine w_mv (ex (pt bx 0)) ?_
  refine w_call (Tryd.func25) (by kernel_rfl) rfl (m1 Ev.c) (gmRefZeros 16 (by decide) w0) ?_
  rintro _ w2 ⟨rfl, hb3⟩
  refine ⟨_, rfl, ?_⟩
  replace r_bx := r_bx.step hb3
  replace r_g := r_g.step hb3
  replace hk := thenB hk hb3
  refine w_call (Tryd.func24) (by kernel_rfl) rfl (m2 (ex (pt bx 0)) es) (refEnc_l bx g cap key (List.replicate 16 0#8) w2 hok (by rw [List.length_replicate]) r_bx r_g) ?_
  rintro _ w4 ⟨rfl, hb5⟩
  refine ⟨_, rfl, ?_⟩
  replace r_bx := r_bx.step hb5
  replace r_g := r_g.step hb5
  replace hk := thenB hk hb5
  refine w_mv es ?_
  refine w_call (Tryd.func26) (by kernel_rfl) rfl (m1 es) (refFilled v (by omega) w4) ?_
  rintro _ w6 ⟨rfl, hb7⟩
  refine ⟨_, rfl, ?_⟩
  replace r_bx := r_bx.step hb7
  replace r_g := r_g.step hb7
  replace hk := thenB hk hb7
  refine w_call (Tryd.func25) (by kernel_rfl) rfl (m1 Ev.c) (gmRefZeros 8 (by decide) w6) ?_
  rintro _ w8 ⟨rfl, hb9⟩
  refine ⟨_, rfl, ?_⟩
  replace r_bx := r_bx.step hb9
  replace r_g := r_g.step hb9
  replace hk := thenB hk hb9
  refine w_val (y_bin es es (b_cat (by simp only [List.length_append, List.length_replicate, Gm.bl_len, Cb.z_len, Cb.zn, Gm.n1, List.length_cons, List.length_nil]; omega))) ?_
  refine w_mv es ?_
  refine w_call (Tryd.func27) (by kernel_rfl) rfl (m1 es) (gmRefBits v (by omega) w8) ?_
  rintro _ w10 ⟨rfl, hb11⟩
  refine ⟨_, rfl, ?_⟩
  replace r_bx := r_bx.step hb11
  replace r_g := r_g.step hb11
  replace hk := thenB hk hb11
  refine w_val (y_bin es es (b_cat (by simp only [List.length_append, List.length_replicate, Gm.bl_len, Cb.z_len, Cb.zn, Gm.n1, List.length_cons, List.length_nil]; omega))) ?_
  refine w_call (Tryd.func23) (by kernel_rfl) rfl (m2 es es) (ghRefSum (Aes.enc (Aes.words key) (List.replicate 16 0#8)) (((Cb.z v) ++ (List.replicate 8 0#8)) ++ (Gm.bl v)) (by exact Cb.enc_len _ _ hok) (by simp only [List.length_append, List.length_replicate, Gm.bl_len, Cb.z_len, Cb.zn, Gm.z8]; omega) (by simp only [List.length_append, List.length_replicate, Gm.bl_len, Cb.z_len, Cb.zn, Gm.z8]; omega) w10) ?_
  rintro _ w12 ⟨rfl, hb13⟩
  refine ⟨_, rfl, ?_⟩
  replace r_bx := r_bx.step hb13
  replace r_g := r_g.step hb13
  replace hk := thenB hk hb13
  refine w_mv (ex (.tuple #[.string (str (Gh.sum Gh.fo (Aes.enc (Aes.words key) (List.replicate 16 0#8)) (((Cb.z v) ++ (List.replicate 8 0#8)) ++ (Gm.bl v)))), .int .i64 0])) ?_
  refine w_val ye ?_
  refine w_val ye ?_
  refine w_as es ?_
  refine w_as ei ?_
  refine nt ?_
  refine sr ?_
  refine w_mv es ?_
  refine w_as es ?_
  refine nt ?_
  refine wp_ret ?_
  refine fin_ret1 rfl es ?_
  refine ⟨congrArg Ending.returned ?_, hk⟩
  show (.string (str (Gh.sum Gh.fo (Aes.enc (Aes.words key) (List.replicate 16 0#8)) (((Cb.z v) ++ (List.replicate 8 0#8)) ++ (Gm.bl v)))) : Value) = .string (str (Gm.first Gh.fo key v))
  first | exact congrArg (fun l => Value.string (str l)) (Gm.first_12 _ key v (by omega)) | exact congrArg (fun l => Value.string (str l)) (Gm.first_n _ key v (by omega))
end Go.Proofs.YtkjdejadambffaaDoor
