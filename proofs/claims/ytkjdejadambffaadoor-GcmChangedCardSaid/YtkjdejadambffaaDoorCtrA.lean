/-
  Counters: what the program and the reference compute. Conditions as each says.
-/
import Derived.Test.YtkjdejadambffaaDoorRows
import Derived.Test.YtkjdejadambffaaDoorGen
import Derived.Test.YtkjdejadambffaaDoorAesBase
import Derived.Test.YtkjdejadambffaaDoorOctW
import Derived.Test.YtkjdejadambffaaDoorCtrPlain
import Derived.ProofKit
namespace Go.Proofs.YtkjdejadambffaaDoor
open Go.RowKit
set_option linter.unusedSimpArgs false
set_option linter.unusedVariables false
set_option maxRecDepth 100000
set_option maxHeartbeats 1000000
namespace CtrAT
theorem mixed : Tryd.prog.follows .mixedOrders = true := by kernel_rfl
end CtrAT
theorem wrong_i (s : List (BitVec 8)) (d : Int) (hs : s.length ≠ 16) (w0 : World) : Calls Tryd.prog 66 #[.string (str s), .int .i64 d] w0 fun e w' => e = .returned (.int .i64 4) ∧ Below w0.heap.size w0 w' := by
 refine enter (n := 14) Tryd.func66 rfl rfl rfl ?_
 have hk : Below w0.heap.size w0 w0 := Below.refl _ _
 refine sr ?_
 refine w_as Ev.c ?_
 refine nt ?_
 refine wp_seq ?_
 refine sr ?_
 refine w_mv es ?_
 refine w_val (y_len es Tryd.underlying9) ?_
 refine w_val (y_bin ei Ev.c b_neq) ?_
 refine nt ?_
 refine c_if (p := ((s.length : Nat) : Int) ≠ 16) eb (fun hc1 => ?_) (fun hc1 => ?_)
 ·skip
  refine sr ?_
  refine w_as Ev.c ?_
  refine nt ?_
  refine wp_ret ?_
  refine then_r ?_
  refine fin_ret1 rfl ei ?_
  exact ⟨rfl, hk⟩
 ·skip
  refine wp_skip ?_
  refine then_n ?_
  refine wp_seq ?_
  refine sr ?_
  refine w_mv ei ?_
  refine w_val (y_bin ei Ev.c b_lss) ?_
  refine w_mv eb ?_
  by_cases hc2 : d < 1
  ·skip
   with_reducible refine w_skip ?_ ?_
   exact wn rfl rfl (eb (dt hc2))
   with_reducible refine w_skip ?_ ?_
   exact wn rfl rfl (eb (dt hc2))
   refine w_val (y_pick_t (eb (dt hc2)) Ev.c) ?_
   refine nt ?_
   refine c_tt eb ?_
   refine sr ?_
   refine w_as Ev.c ?_
   refine nt ?_
   refine wp_ret ?_
   refine then_r ?_
   refine fin_ret1 rfl ei ?_
   refine ⟨congrArg Ending.returned ?_, hk⟩
   show (.int .i64 2 : Value) = .int .i64 4
   first | with_reducible rfl | (with_reducible congr 1 <;> omega) | (with_reducible congr 2 <;> omega) | (with_reducible congr 3 <;> omega) | rfl
  ·skip
   refine w_val_g (v := .int .i64 d) (wy rfl rfl (eb (df hc2))) (y_mv ei) ?_
   refine w_val_g (wy rfl rfl (eb (df hc2))) (y_bin ei Ev.c b_gtr) ?_
   refine w_val (y_pick_f (eb (df hc2)) eb) ?_
   refine nt ?_
   refine c_if (p := 16 < d) eb (fun hc3 => ?_) (fun hc3 => ?_)
   ·skip
    refine sr ?_
    refine w_as Ev.c ?_
    refine nt ?_
    refine wp_ret ?_
    refine then_r ?_
    refine fin_ret1 rfl ei ?_
    refine ⟨congrArg Ending.returned ?_, hk⟩
    show (.int .i64 2 : Value) = .int .i64 4
    first | with_reducible rfl | (with_reducible congr 1 <;> omega) | (with_reducible congr 2 <;> omega) | (with_reducible congr 3 <;> omega) | rfl
   ·skip
    refine wp_skip ?_
    refine then_n ?_
    refine sr ?_
    refine w_as Ev.c ?_
    refine nt ?_
    refine wp_ret ?_
    refine fin_ret1 rfl ei ?_
    refine ⟨congrArg Ending.returned ?_, hk⟩
    show (.int .i64 0 : Value) = .int .i64 4
    first | with_reducible rfl | (with_reducible congr 1 <;> omega) | (with_reducible congr 2 <;> omega) | (with_reducible congr 3 <;> omega) | rfl

theorem wrong_d (s : List (BitVec 8)) (d : Int) (hs : s.length = 16) (hd : ¬ (1 ≤ d ∧ d ≤ 16)) (w0 : World) : Calls Tryd.prog 66 #[.string (str s), .int .i64 d] w0 fun e w' => e = .returned (.int .i64 2) ∧ Below w0.heap.size w0 w' := by
 refine enter (n := 14) Tryd.func66 rfl rfl rfl ?_
 have hk : Below w0.heap.size w0 w0 := Below.refl _ _
 refine sr ?_
 refine w_as Ev.c ?_
 refine nt ?_
 refine wp_seq ?_
 refine sr ?_
 refine w_mv es ?_
 refine w_val (y_len es Tryd.underlying9) ?_
 refine w_val (y_bin ei Ev.c b_neq) ?_
 refine nt ?_
 have hc1 : ¬ (((s.length : Nat) : Int) ≠ 16) := by omega
 refine c_f (p := ((s.length : Nat) : Int) ≠ 16) eb hc1 ?_
 refine wp_skip ?_
 refine then_n ?_
 refine wp_seq ?_
 refine sr ?_
 refine w_mv ei ?_
 refine w_val (y_bin ei Ev.c b_lss) ?_
 refine w_mv eb ?_
 by_cases hc2 : d < 1
 ·skip
  with_reducible refine w_skip ?_ ?_
  exact wn rfl rfl (eb (dt hc2))
  with_reducible refine w_skip ?_ ?_
  exact wn rfl rfl (eb (dt hc2))
  refine w_val (y_pick_t (eb (dt hc2)) Ev.c) ?_
  refine nt ?_
  refine c_tt eb ?_
  refine sr ?_
  refine w_as Ev.c ?_
  refine nt ?_
  refine wp_ret ?_
  refine then_r ?_
  refine fin_ret1 rfl ei ?_
  exact ⟨rfl, hk⟩
 ·skip
  refine w_val_g (v := .int .i64 d) (wy rfl rfl (eb (df hc2))) (y_mv ei) ?_
  refine w_val_g (wy rfl rfl (eb (df hc2))) (y_bin ei Ev.c b_gtr) ?_
  refine w_val (y_pick_f (eb (df hc2)) eb) ?_
  refine nt ?_
  refine c_if (p := 16 < d) eb (fun hc3 => ?_) (fun hc3 => ?_)
  ·skip
   refine sr ?_
   refine w_as Ev.c ?_
   refine nt ?_
   refine wp_ret ?_
   refine then_r ?_
   refine fin_ret1 rfl ei ?_
   exact ⟨rfl, hk⟩
  ·skip
   refine wp_skip ?_
   refine then_n ?_
   refine wp_seq ?_
   exfalso; omega

theorem wrong_y (s : List (BitVec 8)) (d : Nat) (hs : s.length = 16) (h1 : 1 ≤ d) (h16 : d ≤ 16) (w0 : World) : Calls Tryd.prog 66 #[.string (str s), .int .i64 ((d : Nat) : Int)] w0 fun e w' => e = .returned (.int .i64 0) ∧ Below w0.heap.size w0 w' := by
 refine enter (n := 14) Tryd.func66 rfl rfl rfl ?_
 have hk : Below w0.heap.size w0 w0 := Below.refl _ _
 refine sr ?_
 refine w_as Ev.c ?_
 refine nt ?_
 refine wp_seq ?_
 refine sr ?_
 refine w_mv es ?_
 refine w_val (y_len es Tryd.underlying9) ?_
 refine w_val (y_bin ei Ev.c b_neq) ?_
 refine nt ?_
 have hc1 : ¬ (((s.length : Nat) : Int) ≠ 16) := by omega
 refine c_f (p := ((s.length : Nat) : Int) ≠ 16) eb hc1 ?_
 refine wp_skip ?_
 refine then_n ?_
 refine wp_seq ?_
 refine sr ?_
 refine w_mv ei ?_
 refine w_val (y_bin ei Ev.c b_lss) ?_
 refine w_mv eb ?_
 have hc2 : ¬ (((d : Nat) : Int) < 1) := by omega
 refine w_val_g (v := .int .i64 ((d : Nat) : Int)) (wy rfl rfl (eb (df hc2))) (y_mv ei) ?_
 refine w_val_g (wy rfl rfl (eb (df hc2))) (y_bin ei Ev.c b_gtr) ?_
 refine w_val (y_pick_f (eb (df hc2)) eb) ?_
 refine nt ?_
 have hc3 : ¬ (16 < ((d : Nat) : Int)) := by omega
 refine c_f (p := 16 < ((d : Nat) : Int)) eb hc3 ?_
 refine wp_skip ?_
 refine then_n ?_
 refine sr ?_
 refine w_as Ev.c ?_
 refine nt ?_
 refine wp_ret ?_
 refine fin_ret1 rfl ei ?_
 exact ⟨rfl, hk⟩

theorem next_i (s : List (BitVec 8)) (d : Int) (hs : s.length ≠ 16) (n : BitVec 64) (w0 : World) : Calls Tryd.prog 37 #[.string (str s), .int .i64 d, U64 n] w0 fun e w' => e = .returned (.tuple #[.string (str ([] : List (BitVec 8))), .int .i64 4]) ∧ Below w0.heap.size w0 w' := by
 refine enter (n := 26) Tryd.func37 rfl rfl rfl ?_
 have hk : Below w0.heap.size w0 w0 := Below.refl _ _
 refine sr ?_
 refine w_as (evc (.string (str ([] : List (BitVec 8))))) ?_
 refine w_as Ev.c ?_
 refine nt ?_
 refine wp_seq ?_
 refine sr ?_
 refine w_mv es ?_
 refine w_mv ei ?_
 refine w_call (Tryd.func66) (by kernel_rfl) rfl (m2 es ei) (wrong_i s d hs w0) ?_
 rintro _ w1 ⟨rfl, hb2⟩
 refine ⟨_, rfl, ?_⟩
 replace hk := thenB hk hb2
 refine w_as ei ?_
 refine nt ?_
 refine sr ?_
 refine w_mv ei ?_
 refine w_val (y_bin ei Ev.c b_neq) ?_
 refine nt ?_
 refine c_tt eb ?_
 refine sr ?_
 refine w_mv ei ?_
 refine w_as (evc (.string (str ([] : List (BitVec 8))))) ?_
 refine w_as ei ?_
 refine nt ?_
 refine wp_ret ?_
 refine then_r ?_
 refine fin_ret2 rfl es ei ?_
 exact ⟨rfl, hk⟩

theorem refNext_i (s : List (BitVec 8)) (d : Int) (hs : s.length ≠ 16) (n : BitVec 64) (w0 : World) : Calls Tryd.prog 41 #[.string (str s), .int .i64 d, U64 n] w0 fun e w' => e = .returned (.tuple #[.string (str ([] : List (BitVec 8))), .int .i64 4]) ∧ Below w0.heap.size w0 w' := by
 refine enter (n := 28) Tryd.func41 rfl rfl rfl ?_
 have hk : Below w0.heap.size w0 w0 := Below.refl _ _
 refine sr ?_
 refine w_as (evc (.string (str ([] : List (BitVec 8))))) ?_
 refine w_as Ev.c ?_
 refine nt ?_
 refine wp_seq ?_
 refine sr ?_
 refine w_mv es ?_
 refine w_val (y_len es Tryd.underlying9) ?_
 refine w_val (y_bin ei Ev.c b_neq) ?_
 refine nt ?_
 have hc1 : ((s.length : Nat) : Int) ≠ 16 := by omega
 refine c_t (p := ((s.length : Nat) : Int) ≠ 16) eb hc1 ?_
 refine sr ?_
 refine w_as (evc (.string (str ([] : List (BitVec 8))))) ?_
 refine w_as Ev.c ?_
 refine nt ?_
 refine wp_ret ?_
 refine then_r ?_
 refine fin_ret2 rfl es ei ?_
 exact ⟨rfl, hk⟩

theorem next_d (s : List (BitVec 8)) (d : Int) (hs : s.length = 16) (hd : ¬ (1 ≤ d ∧ d ≤ 16)) (n : BitVec 64) (w0 : World) : Calls Tryd.prog 37 #[.string (str s), .int .i64 d, U64 n] w0 fun e w' => e = .returned (.tuple #[.string (str ([] : List (BitVec 8))), .int .i64 2]) ∧ Below w0.heap.size w0 w' := by
 refine enter (n := 26) Tryd.func37 rfl rfl rfl ?_
 have hk : Below w0.heap.size w0 w0 := Below.refl _ _
 refine sr ?_
 refine w_as (evc (.string (str ([] : List (BitVec 8))))) ?_
 refine w_as Ev.c ?_
 refine nt ?_
 refine wp_seq ?_
 refine sr ?_
 refine w_mv es ?_
 refine w_mv ei ?_
 refine w_call (Tryd.func66) (by kernel_rfl) rfl (m2 es ei) (wrong_d s d hs hd w0) ?_
 rintro _ w1 ⟨rfl, hb2⟩
 refine ⟨_, rfl, ?_⟩
 replace hk := thenB hk hb2
 refine w_as ei ?_
 refine nt ?_
 refine sr ?_
 refine w_mv ei ?_
 refine w_val (y_bin ei Ev.c b_neq) ?_
 refine nt ?_
 refine c_tt eb ?_
 refine sr ?_
 refine w_mv ei ?_
 refine w_as (evc (.string (str ([] : List (BitVec 8))))) ?_
 refine w_as ei ?_
 refine nt ?_
 refine wp_ret ?_
 refine then_r ?_
 refine fin_ret2 rfl es ei ?_
 exact ⟨rfl, hk⟩

theorem refNext_d (s : List (BitVec 8)) (d : Int) (hs : s.length = 16) (hd : ¬ (1 ≤ d ∧ d ≤ 16)) (n : BitVec 64) (w0 : World) : Calls Tryd.prog 41 #[.string (str s), .int .i64 d, U64 n] w0 fun e w' => e = .returned (.tuple #[.string (str ([] : List (BitVec 8))), .int .i64 2]) ∧ Below w0.heap.size w0 w' := by
 refine enter (n := 28) Tryd.func41 rfl rfl rfl ?_
 have hk : Below w0.heap.size w0 w0 := Below.refl _ _
 refine sr ?_
 refine w_as (evc (.string (str ([] : List (BitVec 8))))) ?_
 refine w_as Ev.c ?_
 refine nt ?_
 refine wp_seq ?_
 refine sr ?_
 refine w_mv es ?_
 refine w_val (y_len es Tryd.underlying9) ?_
 refine w_val (y_bin ei Ev.c b_neq) ?_
 refine nt ?_
 have hc1 : ¬ (((s.length : Nat) : Int) ≠ 16) := by omega
 refine c_f (p := ((s.length : Nat) : Int) ≠ 16) eb hc1 ?_
 refine wp_skip ?_
 refine then_n ?_
 refine wp_seq ?_
 refine sr ?_
 refine w_mv ei ?_
 refine w_val (y_bin ei Ev.c b_lss) ?_
 refine w_mv eb ?_
 by_cases hc2 : d < 1
 ·skip
  with_reducible refine w_skip ?_ ?_
  exact wn rfl rfl (eb (dt hc2))
  with_reducible refine w_skip ?_ ?_
  exact wn rfl rfl (eb (dt hc2))
  refine w_val (y_pick_t (eb (dt hc2)) Ev.c) ?_
  refine nt ?_
  refine c_tt eb ?_
  refine sr ?_
  refine w_as (evc (.string (str ([] : List (BitVec 8))))) ?_
  refine w_as Ev.c ?_
  refine nt ?_
  refine wp_ret ?_
  refine then_r ?_
  refine fin_ret2 rfl es ei ?_
  exact ⟨rfl, hk⟩
 ·skip
  refine w_val_g (v := .int .i64 d) (wy rfl rfl (eb (df hc2))) (y_mv ei) ?_
  refine w_val_g (wy rfl rfl (eb (df hc2))) (y_bin ei Ev.c b_gtr) ?_
  refine w_val (y_pick_f (eb (df hc2)) eb) ?_
  refine nt ?_
  refine c_if (p := 16 < d) eb (fun hc3 => ?_) (fun hc3 => ?_)
  ·skip
   refine sr ?_
   refine w_as (evc (.string (str ([] : List (BitVec 8))))) ?_
   refine w_as Ev.c ?_
   refine nt ?_
   refine wp_ret ?_
   refine then_r ?_
   refine fin_ret2 rfl es ei ?_
   exact ⟨rfl, hk⟩
  ·skip
   refine wp_skip ?_
   refine then_n ?_
   refine wp_seq ?_
   exfalso; omega

theorem next_y (s : List (BitVec 8)) (d : Nat) (hs : s.length = 16) (h1 : 1 ≤ d) (h16 : d ≤ 16) (n : Nat) (hn : n < 18446744073709551616) (w0 : World) : Calls Tryd.prog 37 #[.string (str s), .int .i64 ((d : Nat) : Int), U64 (BitVec.ofNat 64 n)] w0 fun e w' => e = .returned (.tuple #[.string (str (Ct.nx s d n)), .int .i64 0]) ∧ Below w0.heap.size w0 w' := by
 have hto : (BitVec.ofNat 64 n).toNat = n := by rw [BitVec.toNat_ofNat]; omega
 refine enter (n := 26) Tryd.func37 rfl rfl rfl ?_
 have hk : Below w0.heap.size w0 w0 := Below.refl _ _
 refine sr ?_
 refine w_as (evc (.string (str ([] : List (BitVec 8))))) ?_
 refine w_as Ev.c ?_
 refine nt ?_
 refine wp_seq ?_
 refine sr ?_
 refine w_mv es ?_
 refine w_mv ei ?_
 refine w_call (Tryd.func66) (by kernel_rfl) rfl (m2 es ei) (wrong_y s d hs h1 h16 w0) ?_
 rintro _ w1 ⟨rfl, hb2⟩
 refine ⟨_, rfl, ?_⟩
 replace hk := thenB hk hb2
 refine w_as ei ?_
 refine nt ?_
 refine sr ?_
 refine w_mv ei ?_
 refine w_val (y_bin ei Ev.c b_neq) ?_
 refine nt ?_
 refine c_ff eb ?_
 refine wp_skip ?_
 refine then_n ?_
 refine wp_seq ?_
 refine region_q CtrAT.mixed (by kernel_rfl) ?_
 refine q_mv es ?_
 refine q_mv ei ?_
 refine q_val (fun w' hw' => y_bin Ev.c ei (b_sub (by omega))) ?_
 refine q_val (v := .string (str (s.take (16 - d)))) (fun w' hw' => y_sls (ex (.string (str s))) evo.no (evo.s ei) Tryd.underlying9 (bnd_h (h := (16 - d)) (by omega) (by omega))) ?_
 refine q_mv es ?_
 refine q_mv ei ?_
 refine q_val (fun w' hw' => y_bin Ev.c ei (b_sub (by omega))) ?_
 refine q_val (v := .string (str (s.drop (16 - d)))) (fun w' hw' => y_slf (ex (.string (str s))) (evo.s ei) Tryd.underlying9 (bnd_l (l := (16 - d)) (by omega) (by omega))) ?_
 refine q_mv e6 ?_
 refine q_call (v := .string (str (Oct.add (s.drop (16 - d)) (BitVec.ofNat 64 n).toNat))) (Tryd.func67) (by kernel_rfl) rfl (m2 es e6) (fun w' hw' => add_c (s.drop (16 - d)) (BitVec.ofNat 64 n) (by rw [List.length_drop]; omega) w') ?_
 refine q_val (fun w' hw' => y_bin es es (b_cat (by simp only [List.length_append, List.length_take, List.length_drop, Oct.length_add]; omega))) ?_
 refine q_as es ?_
 refine q_as Ev.c ?_
 refine q_nil ?_
 intro w3 hb4
 replace hk := thenB hk hb4
 refine then_n ?_
 refine wp_ret ?_
 refine fin_ret2 rfl es ei ?_
 refine ⟨congrArg Ending.returned ?_, hk⟩
 show (.tuple #[.string (str ((s.take (16 - d)) ++ (Oct.add (s.drop (16 - d)) (BitVec.ofNat 64 n).toNat))), .int .i64 0] : Value) = .tuple #[.string (str (Ct.nx s d n)), .int .i64 0]
 rw [hto]; rfl

theorem refNext_y (s : List (BitVec 8)) (d : Nat) (hs : s.length = 16) (h1 : 1 ≤ d) (h16 : d ≤ 16) (n : Nat) (hn : n < 18446744073709551616) (w0 : World) : Calls Tryd.prog 41 #[.string (str s), .int .i64 ((d : Nat) : Int), U64 (BitVec.ofNat 64 n)] w0 fun e w' => e = .returned (.tuple #[.string (str (Ct.nx s d n)), .int .i64 0]) ∧ Below w0.heap.size w0 w' := by
 have hto : (BitVec.ofNat 64 n).toNat = n := by rw [BitVec.toNat_ofNat]; omega
 refine enter (n := 28) Tryd.func41 rfl rfl rfl ?_
 have hk : Below w0.heap.size w0 w0 := Below.refl _ _
 refine sr ?_
 refine w_as (evc (.string (str ([] : List (BitVec 8))))) ?_
 refine w_as Ev.c ?_
 refine nt ?_
 refine wp_seq ?_
 refine sr ?_
 refine w_mv es ?_
 refine w_val (y_len es Tryd.underlying9) ?_
 refine w_val (y_bin ei Ev.c b_neq) ?_
 refine nt ?_
 have hc1 : ¬ (((s.length : Nat) : Int) ≠ 16) := by omega
 refine c_f (p := ((s.length : Nat) : Int) ≠ 16) eb hc1 ?_
 refine wp_skip ?_
 refine then_n ?_
 refine wp_seq ?_
 refine sr ?_
 refine w_mv ei ?_
 refine w_val (y_bin ei Ev.c b_lss) ?_
 refine w_mv eb ?_
 have hc2 : ¬ (((d : Nat) : Int) < 1) := by omega
 refine w_val_g (v := .int .i64 ((d : Nat) : Int)) (wy rfl rfl (eb (df hc2))) (y_mv ei) ?_
 refine w_val_g (wy rfl rfl (eb (df hc2))) (y_bin ei Ev.c b_gtr) ?_
 refine w_val (y_pick_f (eb (df hc2)) eb) ?_
 refine nt ?_
 have hc3 : ¬ (16 < ((d : Nat) : Int)) := by omega
 refine c_f (p := 16 < ((d : Nat) : Int)) eb hc3 ?_
 refine wp_skip ?_
 refine then_n ?_
 refine wp_seq ?_
 refine region_q CtrAT.mixed (by kernel_rfl) ?_
 refine q_mv es ?_
 refine q_mv ei ?_
 refine q_val (fun w' hw' => y_bin Ev.c ei (b_sub (by omega))) ?_
 refine q_val (v := .string (str (s.take (16 - d)))) (fun w' hw' => y_sls (ex (.string (str s))) evo.no (evo.s ei) Tryd.underlying9 (bnd_h (h := (16 - d)) (by omega) (by omega))) ?_
 refine q_mv es ?_
 refine q_mv ei ?_
 refine q_val (fun w' hw' => y_bin Ev.c ei (b_sub (by omega))) ?_
 refine q_val (v := .string (str (s.drop (16 - d)))) (fun w' hw' => y_slf (ex (.string (str s))) (evo.s ei) Tryd.underlying9 (bnd_l (l := (16 - d)) (by omega) (by omega))) ?_
 refine q_mv e6 ?_
 refine q_call (v := .string (str (Oct.add (s.drop (16 - d)) (BitVec.ofNat 64 n).toNat))) (Tryd.func69) (by kernel_rfl) rfl (m2 es e6) (fun w' hw' => refAddN_c (s.drop (16 - d)) (BitVec.ofNat 64 n) (by rw [List.length_drop]; omega) w') ?_
 refine q_val (fun w' hw' => y_bin es es (b_cat (by simp only [List.length_append, List.length_take, List.length_drop, Oct.length_add]; omega))) ?_
 refine q_as es ?_
 refine q_as Ev.c ?_
 refine q_nil ?_
 intro w4 hb5
 replace hk := thenB hk hb5
 refine then_n ?_
 refine wp_ret ?_
 refine fin_ret2 rfl es ei ?_
 refine ⟨congrArg Ending.returned ?_, hk⟩
 show (.tuple #[.string (str ((s.take (16 - d)) ++ (Oct.add (s.drop (16 - d)) (BitVec.ofNat 64 n).toNat))), .int .i64 0] : Value) = .tuple #[.string (str (Ct.nx s d n)), .int .i64 0]
 rw [hto]; rfl
end Go.Proofs.YtkjdejadambffaaDoor
