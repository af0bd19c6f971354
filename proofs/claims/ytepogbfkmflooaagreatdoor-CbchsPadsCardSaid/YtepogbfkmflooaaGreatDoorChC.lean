/-
  Tags, sealing and opening by the reference. Conditions as each says.
-/
import Derived.Test.YtepogbfkmflooaaGreatDoorRows
import Derived.Test.YtepogbfkmflooaaGreatDoorChA
import Derived.Test.YtepogbfkmflooaaGreatDoorGenSh
import Derived.ProofKit
namespace Go.Proofs.YtepogbfkmflooaaGreatDoor
open Go.RowKit
set_option linter.unusedSimpArgs false
set_option linter.unusedVariables false
set_option maxRecDepth 100000
set_option maxHeartbeats 1000000
namespace ChCT
theorem mixed : Tryz.prog.follows .mixedOrders = true := by kernel_rfl
theorem sc9 : (Tryz.prog.underlying 9).map scal = some true := by rw [Tryz.underlying9]; rfl
theorem so3 : (Tryz.prog.underlying 3).isSome = true := by rw [Tryz.underlying3]; rfl
theorem sz9 : (Tryz.prog.info? 9).map (·.size) = some 1 := by kernel_rfl
end ChCT
theorem chRefWrong_k (key vi aad : List (BitVec 8)) (hk_ : ¬ (key.length = 32 ∨ key.length = 48 ∨ key.length = 64)) (w0 : World) : Calls Tryz.prog 15 #[.string (str key), .string (str vi), .string (str aad)] w0 fun e w' => e = .returned (.int .i64 3) ∧ Below w0.heap.size w0 w' := by
 refine enter (n := 29) Tryz.func15 rfl rfl rfl ?_
 have hk : Below w0.heap.size w0 w0 := Below.refl _ _
 refine sr (w_as Ev.c (nt (wp_seq (wp_block (sr (w_mv es (w_val (y_len es Tryz.underlying9) (w_val (y_bin ei Ev.c b_neq) (w_mv eb ?_)))))))))
 have hc1 : ((key.length : Nat) : Int) ≠ 32 := by omega
 refine w_val_g (v := .string (str key)) (wy rfl rfl (eb (dt hc1))) (y_mv es) (w_val_g (wy rfl rfl (eb (dt hc1))) (y_len es Tryz.underlying9) (w_val_g (wy rfl rfl (eb (dt hc1))) (y_bin ei Ev.c b_neq) (w_val (y_pick_t (eb (dt hc1)) eb) (w_mv eb ?_))))
 have hc2 : ((key.length : Nat) : Int) ≠ 48 := by omega
 refine w_val_g (v := .string (str key)) (wy rfl rfl (eb (dt hc2))) (y_mv es) (w_val_g (wy rfl rfl (eb (dt hc2))) (y_len es Tryz.underlying9) (w_val_g (wy rfl rfl (eb (dt hc2))) (y_bin ei Ev.c b_neq) (w_val (y_pick_t (eb (dt hc2)) eb) (w_as eb (nt ?_)))))
 have hc3 : ((key.length : Nat) : Int) ≠ 64 := by omega
 refine c_t (p := ((key.length : Nat) : Int) ≠ 64) eb hc3 (sr (w_as Ev.c (nt (wp_ret (inb_r (then_r (fin_ret1 rfl ei ?_)))))))
 exact ⟨rfl, hk⟩

theorem chRefWrong_i (key vi aad : List (BitVec 8)) (n kind : Nat) (hkd : Sha.Known kind) (hkn : kind = 16 * n) (hkl : key.length = 2 * n) (hiv : vi.length ≠ 16) (w0 : World) : Calls Tryz.prog 15 #[.string (str key), .string (str vi), .string (str aad)] w0 fun e w' => e = .returned (.int .i64 4) ∧ Below w0.heap.size w0 w' := by
 have hkd' : kind = 256 ∨ kind = 384 ∨ kind = 512 := hkd
 have hnc := Ch.n_cases kind n hkd hkn
 have hok := Ch.key_ok kind n key hkd hkn hkl
 refine enter (n := 29) Tryz.func15 rfl rfl rfl ?_
 have hk : Below w0.heap.size w0 w0 := Below.refl _ _
 refine sr (w_as Ev.c (nt (wp_seq (wp_block (sr (w_mv es (w_val (y_len es Tryz.underlying9) (w_val (y_bin ei Ev.c b_neq) (w_mv eb ?_)))))))))
 by_cases hc1 : ((key.length : Nat) : Int) ≠ 32
 ·skip
  refine w_val_g (v := .string (str key)) (wy rfl rfl (eb (dt hc1))) (y_mv es) (w_val_g (wy rfl rfl (eb (dt hc1))) (y_len es Tryz.underlying9) (w_val_g (wy rfl rfl (eb (dt hc1))) (y_bin ei Ev.c b_neq) (w_val (y_pick_t (eb (dt hc1)) eb) (w_mv eb ?_))))
  by_cases hc2 : ((key.length : Nat) : Int) ≠ 48
  ·skip
   refine w_val_g (v := .string (str key)) (wy rfl rfl (eb (dt hc2))) (y_mv es) (w_val_g (wy rfl rfl (eb (dt hc2))) (y_len es Tryz.underlying9) (w_val_g (wy rfl rfl (eb (dt hc2))) (y_bin ei Ev.c b_neq) (w_val (y_pick_t (eb (dt hc2)) eb) (w_as eb (nt ?_)))))
   refine c_if (p := ((key.length : Nat) : Int) ≠ 64) eb (fun hc3 => ?_) (fun hc3 => ?_)
   ·skip
    refine sr (w_as Ev.c (nt (wp_ret (inb_r (then_r (fin_ret1 rfl ei ?_))))))
    refine ⟨congrArg Ending.returned ?_, hk⟩
    show (.int .i64 3 : Value) = .int .i64 4
    first | with_reducible rfl | (with_reducible congr 1 <;> omega) | (with_reducible congr 2 <;> omega) | (with_reducible congr 3 <;> omega) | rfl
   ·skip
    refine sr (w_mv es (w_val (y_len es Tryz.underlying9) (w_val (y_bin ei Ev.c b_neq) (w_as eb (nt ?_)))))
    have hc4 : ((vi.length : Nat) : Int) ≠ 16 := by omega
    refine c_t (p := ((vi.length : Nat) : Int) ≠ 16) eb hc4 (sr (w_as Ev.c (nt (wp_ret (inb_r (then_r (fin_ret1 rfl ei ?_)))))))
    exact ⟨rfl, hk⟩
  ·skip
   with_reducible refine w_skip ?_ ?_
   exact wn rfl rfl (eb (df hc2))
   with_reducible refine w_skip ?_ ?_
   exact wn rfl rfl (eb (df hc2))
   with_reducible refine w_skip ?_ ?_
   exact wn rfl rfl (eb (df hc2))
   refine w_val (y_pick_f (eb (df hc2)) Ev.c) (w_as eb (nt (c_ff eb (sr (w_mv es (w_val (y_len es Tryz.underlying9) (w_val (y_bin ei Ev.c b_neq) (w_as eb (nt ?_)))))))))
   have hc5 : ((vi.length : Nat) : Int) ≠ 16 := by omega
   refine c_t (p := ((vi.length : Nat) : Int) ≠ 16) eb hc5 (sr (w_as Ev.c (nt (wp_ret (inb_r (then_r (fin_ret1 rfl ei ?_)))))))
   exact ⟨rfl, hk⟩
 ·skip
  with_reducible refine w_skip ?_ ?_
  exact wn rfl rfl (eb (df hc1))
  with_reducible refine w_skip ?_ ?_
  exact wn rfl rfl (eb (df hc1))
  with_reducible refine w_skip ?_ ?_
  exact wn rfl rfl (eb (df hc1))
  refine w_val (y_pick_f (eb (df hc1)) Ev.c) (w_mv eb ?_)
  with_reducible refine w_skip ?_ ?_
  exact wn rfl rfl eb
  with_reducible refine w_skip ?_ ?_
  exact wn rfl rfl eb
  with_reducible refine w_skip ?_ ?_
  exact wn rfl rfl eb
  refine w_val (y_pick_f eb Ev.c) (w_as eb (nt (c_ff eb (sr (w_mv es (w_val (y_len es Tryz.underlying9) (w_val (y_bin ei Ev.c b_neq) (w_as eb (nt ?_)))))))))
  have hc6 : ((vi.length : Nat) : Int) ≠ 16 := by omega
  refine c_t (p := ((vi.length : Nat) : Int) ≠ 16) eb hc6 (sr (w_as Ev.c (nt (wp_ret (inb_r (then_r (fin_ret1 rfl ei ?_)))))))
  exact ⟨rfl, hk⟩

theorem chRefWrong_a (key vi aad : List (BitVec 8)) (n kind : Nat) (hkd : Sha.Known kind) (hkn : kind = 16 * n) (hkl : key.length = 2 * n) (hiv : vi.length = 16) (ha : 70000 < aad.length) (w0 : World) : Calls Tryz.prog 15 #[.string (str key), .string (str vi), .string (str aad)] w0 fun e w' => e = .returned (.int .i64 6) ∧ Below w0.heap.size w0 w' := by
 have hkd' : kind = 256 ∨ kind = 384 ∨ kind = 512 := hkd
 have hnc := Ch.n_cases kind n hkd hkn
 have hok := Ch.key_ok kind n key hkd hkn hkl
 refine enter (n := 29) Tryz.func15 rfl rfl rfl ?_
 have hk : Below w0.heap.size w0 w0 := Below.refl _ _
 refine sr (w_as Ev.c (nt (wp_seq (wp_block (sr (w_mv es (w_val (y_len es Tryz.underlying9) (w_val (y_bin ei Ev.c b_neq) (w_mv eb ?_)))))))))
 by_cases hc1 : ((key.length : Nat) : Int) ≠ 32
 ·skip
  refine w_val_g (v := .string (str key)) (wy rfl rfl (eb (dt hc1))) (y_mv es) (w_val_g (wy rfl rfl (eb (dt hc1))) (y_len es Tryz.underlying9) (w_val_g (wy rfl rfl (eb (dt hc1))) (y_bin ei Ev.c b_neq) (w_val (y_pick_t (eb (dt hc1)) eb) (w_mv eb ?_))))
  by_cases hc2 : ((key.length : Nat) : Int) ≠ 48
  ·skip
   refine w_val_g (v := .string (str key)) (wy rfl rfl (eb (dt hc2))) (y_mv es) (w_val_g (wy rfl rfl (eb (dt hc2))) (y_len es Tryz.underlying9) (w_val_g (wy rfl rfl (eb (dt hc2))) (y_bin ei Ev.c b_neq) (w_val (y_pick_t (eb (dt hc2)) eb) (w_as eb (nt ?_)))))
   refine c_if (p := ((key.length : Nat) : Int) ≠ 64) eb (fun hc3 => ?_) (fun hc3 => ?_)
   ·skip
    refine sr (w_as Ev.c (nt (wp_ret (inb_r (then_r (fin_ret1 rfl ei ?_))))))
    refine ⟨congrArg Ending.returned ?_, hk⟩
    show (.int .i64 3 : Value) = .int .i64 6
    first | with_reducible rfl | (with_reducible congr 1 <;> omega) | (with_reducible congr 2 <;> omega) | (with_reducible congr 3 <;> omega) | rfl
   ·skip
    refine sr (w_mv es (w_val (y_len es Tryz.underlying9) (w_val (y_bin ei Ev.c b_neq) (w_as eb (nt ?_)))))
    have hc4 : ¬ (((vi.length : Nat) : Int) ≠ 16) := by omega
    refine c_f (p := ((vi.length : Nat) : Int) ≠ 16) eb hc4 (sr (w_mv es (w_val (y_len es Tryz.underlying9) (w_val (y_bin ei Ev.c b_gtr) (w_as eb (nt ?_))))))
    have hc5 : 70000 < ((aad.length : Nat) : Int) := by omega
    refine c_t (p := 70000 < ((aad.length : Nat) : Int)) eb hc5 (sr (w_as Ev.c (nt (wp_ret (inb_r (then_r (fin_ret1 rfl ei ?_)))))))
    exact ⟨rfl, hk⟩
  ·skip
   with_reducible refine w_skip ?_ ?_
   exact wn rfl rfl (eb (df hc2))
   with_reducible refine w_skip ?_ ?_
   exact wn rfl rfl (eb (df hc2))
   with_reducible refine w_skip ?_ ?_
   exact wn rfl rfl (eb (df hc2))
   refine w_val (y_pick_f (eb (df hc2)) Ev.c) (w_as eb (nt (c_ff eb (sr (w_mv es (w_val (y_len es Tryz.underlying9) (w_val (y_bin ei Ev.c b_neq) (w_as eb (nt ?_)))))))))
   have hc6 : ¬ (((vi.length : Nat) : Int) ≠ 16) := by omega
   refine c_f (p := ((vi.length : Nat) : Int) ≠ 16) eb hc6 (sr (w_mv es (w_val (y_len es Tryz.underlying9) (w_val (y_bin ei Ev.c b_gtr) (w_as eb (nt ?_))))))
   have hc7 : 70000 < ((aad.length : Nat) : Int) := by omega
   refine c_t (p := 70000 < ((aad.length : Nat) : Int)) eb hc7 (sr (w_as Ev.c (nt (wp_ret (inb_r (then_r (fin_ret1 rfl ei ?_)))))))
   exact ⟨rfl, hk⟩
 ·skip
  with_reducible refine w_skip ?_ ?_
  exact wn rfl rfl (eb (df hc1))
  with_reducible refine w_skip ?_ ?_
  exact wn rfl rfl (eb (df hc1))
  with_reducible refine w_skip ?_ ?_
  exact wn rfl rfl (eb (df hc1))
  refine w_val (y_pick_f (eb (df hc1)) Ev.c) (w_mv eb ?_)
  with_reducible refine w_skip ?_ ?_
  exact wn rfl rfl eb
  with_reducible refine w_skip ?_ ?_
  exact wn rfl rfl eb
  with_reducible refine w_skip ?_ ?_
  exact wn rfl rfl eb
  refine w_val (y_pick_f eb Ev.c) (w_as eb (nt (c_ff eb (sr (w_mv es (w_val (y_len es Tryz.underlying9) (w_val (y_bin ei Ev.c b_neq) (w_as eb (nt ?_)))))))))
  have hc8 : ¬ (((vi.length : Nat) : Int) ≠ 16) := by omega
  refine c_f (p := ((vi.length : Nat) : Int) ≠ 16) eb hc8 (sr (w_mv es (w_val (y_len es Tryz.underlying9) (w_val (y_bin ei Ev.c b_gtr) (w_as eb (nt ?_))))))
  have hc9 : 70000 < ((aad.length : Nat) : Int) := by omega
  refine c_t (p := 70000 < ((aad.length : Nat) : Int)) eb hc9 (sr (w_as Ev.c (nt (wp_ret (inb_r (then_r (fin_ret1 rfl ei ?_)))))))
  exact ⟨rfl, hk⟩

theorem chRefWrong_y (key vi aad : List (BitVec 8)) (n kind : Nat) (hkd : Sha.Known kind) (hkn : kind = 16 * n) (hkl : key.length = 2 * n) (hiv : vi.length = 16) (ha : aad.length ≤ 70000) (w0 : World) : Calls Tryz.prog 15 #[.string (str key), .string (str vi), .string (str aad)] w0 fun e w' => e = .returned (.int .i64 0) ∧ Below w0.heap.size w0 w' := by
 have hkd' : kind = 256 ∨ kind = 384 ∨ kind = 512 := hkd
 have hnc := Ch.n_cases kind n hkd hkn
 have hok := Ch.key_ok kind n key hkd hkn hkl
 refine enter (n := 29) Tryz.func15 rfl rfl rfl ?_
 have hk : Below w0.heap.size w0 w0 := Below.refl _ _
 refine sr (w_as Ev.c (nt (wp_seq (wp_block (sr (w_mv es (w_val (y_len es Tryz.underlying9) (w_val (y_bin ei Ev.c b_neq) (w_mv eb ?_)))))))))
 by_cases hc1 : ((key.length : Nat) : Int) ≠ 32
 ·skip
  refine w_val_g (v := .string (str key)) (wy rfl rfl (eb (dt hc1))) (y_mv es) (w_val_g (wy rfl rfl (eb (dt hc1))) (y_len es Tryz.underlying9) (w_val_g (wy rfl rfl (eb (dt hc1))) (y_bin ei Ev.c b_neq) (w_val (y_pick_t (eb (dt hc1)) eb) (w_mv eb ?_))))
  by_cases hc2 : ((key.length : Nat) : Int) ≠ 48
  ·skip
   refine w_val_g (v := .string (str key)) (wy rfl rfl (eb (dt hc2))) (y_mv es) (w_val_g (wy rfl rfl (eb (dt hc2))) (y_len es Tryz.underlying9) (w_val_g (wy rfl rfl (eb (dt hc2))) (y_bin ei Ev.c b_neq) (w_val (y_pick_t (eb (dt hc2)) eb) (w_as eb (nt ?_)))))
   refine c_if (p := ((key.length : Nat) : Int) ≠ 64) eb (fun hc3 => ?_) (fun hc3 => ?_)
   ·skip
    refine sr (w_as Ev.c (nt (wp_ret (inb_r (then_r (fin_ret1 rfl ei ?_))))))
    refine ⟨congrArg Ending.returned ?_, hk⟩
    show (.int .i64 3 : Value) = .int .i64 0
    first | with_reducible rfl | (with_reducible congr 1 <;> omega) | (with_reducible congr 2 <;> omega) | (with_reducible congr 3 <;> omega) | rfl
   ·skip
    refine sr (w_mv es (w_val (y_len es Tryz.underlying9) (w_val (y_bin ei Ev.c b_neq) (w_as eb (nt ?_)))))
    have hc4 : ¬ (((vi.length : Nat) : Int) ≠ 16) := by omega
    refine c_f (p := ((vi.length : Nat) : Int) ≠ 16) eb hc4 (sr (w_mv es (w_val (y_len es Tryz.underlying9) (w_val (y_bin ei Ev.c b_gtr) (w_as eb (nt ?_))))))
    have hc5 : ¬ (70000 < ((aad.length : Nat) : Int)) := by omega
    refine c_f (p := 70000 < ((aad.length : Nat) : Int)) eb hc5 (wp_skip (inb_n (then_n (sr (w_as Ev.c (nt (wp_ret (fin_ret1 rfl ei ?_))))))))
    exact ⟨rfl, hk⟩
  ·skip
   with_reducible refine w_skip ?_ ?_
   exact wn rfl rfl (eb (df hc2))
   with_reducible refine w_skip ?_ ?_
   exact wn rfl rfl (eb (df hc2))
   with_reducible refine w_skip ?_ ?_
   exact wn rfl rfl (eb (df hc2))
   refine w_val (y_pick_f (eb (df hc2)) Ev.c) (w_as eb (nt (c_ff eb (sr (w_mv es (w_val (y_len es Tryz.underlying9) (w_val (y_bin ei Ev.c b_neq) (w_as eb (nt ?_)))))))))
   have hc6 : ¬ (((vi.length : Nat) : Int) ≠ 16) := by omega
   refine c_f (p := ((vi.length : Nat) : Int) ≠ 16) eb hc6 (sr (w_mv es (w_val (y_len es Tryz.underlying9) (w_val (y_bin ei Ev.c b_gtr) (w_as eb (nt ?_))))))
   have hc7 : ¬ (70000 < ((aad.length : Nat) : Int)) := by omega
   refine c_f (p := 70000 < ((aad.length : Nat) : Int)) eb hc7 (wp_skip (inb_n (then_n (sr (w_as Ev.c (nt (wp_ret (fin_ret1 rfl ei ?_))))))))
   exact ⟨rfl, hk⟩
 ·skip
  with_reducible refine w_skip ?_ ?_
  exact wn rfl rfl (eb (df hc1))
  with_reducible refine w_skip ?_ ?_
  exact wn rfl rfl (eb (df hc1))
  with_reducible refine w_skip ?_ ?_
  exact wn rfl rfl (eb (df hc1))
  refine w_val (y_pick_f (eb (df hc1)) Ev.c) (w_mv eb ?_)
  with_reducible refine w_skip ?_ ?_
  exact wn rfl rfl eb
  with_reducible refine w_skip ?_ ?_
  exact wn rfl rfl eb
  with_reducible refine w_skip ?_ ?_
  exact wn rfl rfl eb
  refine w_val (y_pick_f eb Ev.c) (w_as eb (nt (c_ff eb (sr (w_mv es (w_val (y_len es Tryz.underlying9) (w_val (y_bin ei Ev.c b_neq) (w_as eb (nt ?_)))))))))
  have hc8 : ¬ (((vi.length : Nat) : Int) ≠ 16) := by omega
  refine c_f (p := ((vi.length : Nat) : Int) ≠ 16) eb hc8 (sr (w_mv es (w_val (y_len es Tryz.underlying9) (w_val (y_bin ei Ev.c b_gtr) (w_as eb (nt ?_))))))
  have hc9 : ¬ (70000 < ((aad.length : Nat) : Int)) := by omega
  refine c_f (p := 70000 < ((aad.length : Nat) : Int)) eb hc9 (wp_skip (inb_n (then_n (sr (w_as Ev.c (nt (wp_ret (fin_ret1 rfl ei ?_))))))))
  exact ⟨rfl, hk⟩

theorem chRefTag_k (key vi aad : List (BitVec 8)) (hk_ : ¬ (key.length = 32 ∨ key.length = 48 ∨ key.length = 64)) (text : List (BitVec 8)) (w0 : World) : Calls Tryz.prog 14 #[.string (str key), .string (str vi), .string (str aad), .string (str text)] w0 fun e w' => e = .returned (.tuple #[.string (str ([] : List (BitVec 8))), .int .i64 3]) ∧ Below w0.heap.size w0 w' := by
 refine enter (n := 56) Tryz.func14 rfl rfl rfl ?_
 have hk : Below w0.heap.size w0 w0 := Below.refl _ _
 refine sr (w_as (evc (.string (str ([] : List (BitVec 8))))) (w_as Ev.c (nt (wp_seq (sr (w_mv es (w_mv es (w_mv es (w_call (Tryz.func15) kr rfl (m3 es es es) (chRefWrong_k key vi aad hk_ w0) ?_)))))))))
 rintro _ w1 ⟨rfl, hb2⟩
 refine ⟨_, rfl, ?_⟩
 replace hk := thenB hk hb2
 refine w_as ei (nt (sr (w_mv ei (w_val (y_bin ei Ev.c b_neq) (nt (c_tt eb (sr (w_mv ei (w_as (evc (.string (str ([] : List (BitVec 8))))) (w_as ei (nt (wp_ret (then_r (fin_ret2 rfl es ei ?_))))))))))))))
 exact ⟨rfl, hk⟩

theorem chRefSeal_k (key vi aad : List (BitVec 8)) (hk_ : ¬ (key.length = 32 ∨ key.length = 48 ∨ key.length = 64)) (text : List (BitVec 8)) (w0 : World) : Calls Tryz.prog 10 #[.string (str key), .string (str vi), .string (str aad), .string (str text)] w0 fun e w' => e = .returned (.tuple #[.string (str ([] : List (BitVec 8))), .int .i64 3]) ∧ Below w0.heap.size w0 w' := by
 refine enter (n := 47) Tryz.func10 rfl rfl rfl ?_
 have hk : Below w0.heap.size w0 w0 := Below.refl _ _
 refine sr (w_as (evc (.string (str ([] : List (BitVec 8))))) (w_as Ev.c (nt (wp_seq (sr (w_mv es (w_mv es (w_mv es (w_call (Tryz.func15) kr rfl (m3 es es es) (chRefWrong_k key vi aad hk_ w0) ?_)))))))))
 rintro _ w1 ⟨rfl, hb2⟩
 refine ⟨_, rfl, ?_⟩
 replace hk := thenB hk hb2
 refine w_as ei (nt (sr (w_mv ei (w_val (y_bin ei Ev.c b_neq) (nt (c_tt eb (sr (w_mv ei (w_as (evc (.string (str ([] : List (BitVec 8))))) (w_as ei (nt (wp_ret (then_r (fin_ret2 rfl es ei ?_))))))))))))))
 exact ⟨rfl, hk⟩

theorem chRefTag_i (key vi aad : List (BitVec 8)) (n kind : Nat) (hkd : Sha.Known kind) (hkn : kind = 16 * n) (hkl : key.length = 2 * n) (hiv : vi.length ≠ 16) (text : List (BitVec 8)) (w0 : World) : Calls Tryz.prog 14 #[.string (str key), .string (str vi), .string (str aad), .string (str text)] w0 fun e w' => e = .returned (.tuple #[.string (str ([] : List (BitVec 8))), .int .i64 4]) ∧ Below w0.heap.size w0 w' := by
 refine enter (n := 56) Tryz.func14 rfl rfl rfl ?_
 have hk : Below w0.heap.size w0 w0 := Below.refl _ _
 refine sr (w_as (evc (.string (str ([] : List (BitVec 8))))) (w_as Ev.c (nt (wp_seq (sr (w_mv es (w_mv es (w_mv es (w_call (Tryz.func15) kr rfl (m3 es es es) (chRefWrong_i key vi aad n kind hkd hkn hkl hiv w0) ?_)))))))))
 rintro _ w1 ⟨rfl, hb2⟩
 refine ⟨_, rfl, ?_⟩
 replace hk := thenB hk hb2
 refine w_as ei (nt (sr (w_mv ei (w_val (y_bin ei Ev.c b_neq) (nt (c_tt eb (sr (w_mv ei (w_as (evc (.string (str ([] : List (BitVec 8))))) (w_as ei (nt (wp_ret (then_r (fin_ret2 rfl es ei ?_))))))))))))))
 exact ⟨rfl, hk⟩

theorem chRefSeal_i (key vi aad : List (BitVec 8)) (n kind : Nat) (hkd : Sha.Known kind) (hkn : kind = 16 * n) (hkl : key.length = 2 * n) (hiv : vi.length ≠ 16) (text : List (BitVec 8)) (w0 : World) : Calls Tryz.prog 10 #[.string (str key), .string (str vi), .string (str aad), .string (str text)] w0 fun e w' => e = .returned (.tuple #[.string (str ([] : List (BitVec 8))), .int .i64 4]) ∧ Below w0.heap.size w0 w' := by
 refine enter (n := 47) Tryz.func10 rfl rfl rfl ?_
 have hk : Below w0.heap.size w0 w0 := Below.refl _ _
 refine sr (w_as (evc (.string (str ([] : List (BitVec 8))))) (w_as Ev.c (nt (wp_seq (sr (w_mv es (w_mv es (w_mv es (w_call (Tryz.func15) kr rfl (m3 es es es) (chRefWrong_i key vi aad n kind hkd hkn hkl hiv w0) ?_)))))))))
 rintro _ w1 ⟨rfl, hb2⟩
 refine ⟨_, rfl, ?_⟩
 replace hk := thenB hk hb2
 refine w_as ei (nt (sr (w_mv ei (w_val (y_bin ei Ev.c b_neq) (nt (c_tt eb (sr (w_mv ei (w_as (evc (.string (str ([] : List (BitVec 8))))) (w_as ei (nt (wp_ret (then_r (fin_ret2 rfl es ei ?_))))))))))))))
 exact ⟨rfl, hk⟩

theorem chRefTag_a (key vi aad : List (BitVec 8)) (n kind : Nat) (hkd : Sha.Known kind) (hkn : kind = 16 * n) (hkl : key.length = 2 * n) (hiv : vi.length = 16) (ha : 70000 < aad.length) (text : List (BitVec 8)) (w0 : World) : Calls Tryz.prog 14 #[.string (str key), .string (str vi), .string (str aad), .string (str text)] w0 fun e w' => e = .returned (.tuple #[.string (str ([] : List (BitVec 8))), .int .i64 6]) ∧ Below w0.heap.size w0 w' := by
 refine enter (n := 56) Tryz.func14 rfl rfl rfl ?_
 have hk : Below w0.heap.size w0 w0 := Below.refl _ _
 refine sr (w_as (evc (.string (str ([] : List (BitVec 8))))) (w_as Ev.c (nt (wp_seq (sr (w_mv es (w_mv es (w_mv es (w_call (Tryz.func15) kr rfl (m3 es es es) (chRefWrong_a key vi aad n kind hkd hkn hkl hiv ha w0) ?_)))))))))
 rintro _ w1 ⟨rfl, hb2⟩
 refine ⟨_, rfl, ?_⟩
 replace hk := thenB hk hb2
 refine w_as ei (nt (sr (w_mv ei (w_val (y_bin ei Ev.c b_neq) (nt (c_tt eb (sr (w_mv ei (w_as (evc (.string (str ([] : List (BitVec 8))))) (w_as ei (nt (wp_ret (then_r (fin_ret2 rfl es ei ?_))))))))))))))
 exact ⟨rfl, hk⟩

theorem chRefSeal_a (key vi aad : List (BitVec 8)) (n kind : Nat) (hkd : Sha.Known kind) (hkn : kind = 16 * n) (hkl : key.length = 2 * n) (hiv : vi.length = 16) (ha : 70000 < aad.length) (text : List (BitVec 8)) (w0 : World) : Calls Tryz.prog 10 #[.string (str key), .string (str vi), .string (str aad), .string (str text)] w0 fun e w' => e = .returned (.tuple #[.string (str ([] : List (BitVec 8))), .int .i64 6]) ∧ Below w0.heap.size w0 w' := by
 refine enter (n := 47) Tryz.func10 rfl rfl rfl ?_
 have hk : Below w0.heap.size w0 w0 := Below.refl _ _
 refine sr (w_as (evc (.string (str ([] : List (BitVec 8))))) (w_as Ev.c (nt (wp_seq (sr (w_mv es (w_mv es (w_mv es (w_call (Tryz.func15) kr rfl (m3 es es es) (chRefWrong_a key vi aad n kind hkd hkn hkl hiv ha w0) ?_)))))))))
 rintro _ w1 ⟨rfl, hb2⟩
 refine ⟨_, rfl, ?_⟩
 replace hk := thenB hk hb2
 refine w_as ei (nt (sr (w_mv ei (w_val (y_bin ei Ev.c b_neq) (nt (c_tt eb (sr (w_mv ei (w_as (evc (.string (str ([] : List (BitVec 8))))) (w_as ei (nt (wp_ret (then_r (fin_ret2 rfl es ei ?_))))))))))))))
 exact ⟨rfl, hk⟩

theorem chRefTag_z (key vi aad : List (BitVec 8)) (n kind : Nat) (hkd : Sha.Known kind) (hkn : kind = 16 * n) (hkl : key.length = 2 * n) (hiv : vi.length = 16) (ha : aad.length ≤ 70000) (text : List (BitVec 8)) (hl : text.length ≤ 140737488351232) (ht : 70016 < text.length) (w0 : World) : Calls Tryz.prog 14 #[.string (str key), .string (str vi), .string (str aad), .string (str text)] w0 fun e w' => e = .returned (.tuple #[.string (str ([] : List (BitVec 8))), .int .i64 6]) ∧ Below w0.heap.size w0 w' := by
 refine enter (n := 56) Tryz.func14 rfl rfl rfl ?_
 have hk : Below w0.heap.size w0 w0 := Below.refl _ _
 refine sr (w_as (evc (.string (str ([] : List (BitVec 8))))) (w_as Ev.c (nt (wp_seq (sr (w_mv es (w_mv es (w_mv es (w_call (Tryz.func15) kr rfl (m3 es es es) (chRefWrong_y key vi aad n kind hkd hkn hkl hiv ha w0) ?_)))))))))
 rintro _ w1 ⟨rfl, hb2⟩
 refine ⟨_, rfl, ?_⟩
 replace hk := thenB hk hb2
 refine w_as ei (nt (sr (w_mv ei (w_val (y_bin ei Ev.c b_neq) (nt (c_ff eb (wp_skip (then_n (wp_seq (sr (w_mv es (w_val (y_len es Tryz.underlying9) (w_val (y_bin ei Ev.c b_gtr) (nt ?_))))))))))))))
 have hc3 : 70016 < ((text.length : Nat) : Int) := by omega
 refine c_t (p := 70016 < ((text.length : Nat) : Int)) eb hc3 (sr (w_as (evc (.string (str ([] : List (BitVec 8))))) (w_as Ev.c (nt (wp_ret (then_r (fin_ret2 rfl es ei ?_)))))))
 exact ⟨rfl, hk⟩

theorem chRefTag_y (key vi aad : List (BitVec 8)) (n kind : Nat) (hkd : Sha.Known kind) (hkn : kind = 16 * n) (hkl : key.length = 2 * n) (hiv : vi.length = 16) (ha : aad.length ≤ 70000) (text : List (BitVec 8)) (hl : text.length ≤ 140737488351232) (ht : text.length ≤ 70016) (w0 : World) : Calls Tryz.prog 14 #[.string (str key), .string (str vi), .string (str aad), .string (str text)] w0 fun e w' => e = .returned (.tuple #[.string (str (Ch.tg kind n key vi aad text)), .int .i64 0]) ∧ Below w0.heap.size w0 w' := by
 have hkd' : kind = 256 ∨ kind = 384 ∨ kind = 512 := hkd
 have hnc := Ch.n_cases kind n hkd hkn
 have hok := Ch.key_ok kind n key hkd hkn hkl
 have hol2 := Ch.n_ol kind n hkd hkn
 refine enter (n := 56) Tryz.func14 rfl rfl rfl ?_
 have hk : Below w0.heap.size w0 w0 := Below.refl _ _
 refine sr (w_as (evc (.string (str ([] : List (BitVec 8))))) (w_as Ev.c (nt (wp_seq (sr (w_mv es (w_mv es (w_mv es (w_call (Tryz.func15) kr rfl (m3 es es es) (chRefWrong_y key vi aad n kind hkd hkn hkl hiv ha w0) ?_)))))))))
 rintro _ w1 ⟨rfl, hb2⟩
 refine ⟨_, rfl, ?_⟩
 replace hk := thenB hk hb2
 refine w_as ei (nt (sr (w_mv ei (w_val (y_bin ei Ev.c b_neq) (nt (c_ff eb (wp_skip (then_n (wp_seq (sr (w_mv es (w_val (y_len es Tryz.underlying9) (w_val (y_bin ei Ev.c b_gtr) (nt ?_))))))))))))))
 have hc3 : ¬ (70016 < ((text.length : Nat) : Int)) := by omega
 refine c_f (p := 70016 < ((text.length : Nat) : Int)) eb hc3 (wp_skip (then_n (sr (w_mv es (w_val (y_len es Tryz.underlying9) (w_val (y_bin ei Ev.c (b_quo om)) (w_as ei (nt (sr (w_mv es (w_val (y_len es Tryz.underlying9) (w_val (y_bin Ev.c ei (b_mul om)) (w_val (y_nat_u64 (p := (8 * aad.length)) ei om ChCT.so3 Tryz.underlying40) (w_call (Tryz.func25) kr rfl (m2 e6 Ev.c) (refPut_c (BitVec.ofNat 64 (8 * aad.length)) 8 (by decide) (by decide) (BitVec.isLt _) w1) ?_))))))))))))))
 rintro _ w4 ⟨rfl, hb5⟩
 refine ⟨_, rfl, ?_⟩
 replace hk := thenB hk hb5
 refine w_mv (ex (.tuple #[.string (str (Oct.be (BitVec.ofNat 64 (8 * aad.length)) 8)), .int .i64 0])) (w_val ye (w_val ye (w_as es (w_as ei (nt (sr (w_mv (ex (.int .i64 ((n : Nat) : Int)) (Eq.trans (b := .int .i64 (((key.length : Nat) : Int) / 2)) rfl (by congr 1; omega))) (w_val (y_bin Ev.c ei (b_mul om)) (w_mv es (w_mv (ex (.int .i64 ((n : Nat) : Int)) (Eq.trans (b := .int .i64 (((key.length : Nat) : Int) / 2)) rfl (by congr 1; omega))) (w_val (v := .string (str (key.take n))) (y_sls (ex (.string (str key))) evo.no (evo.s ei) Tryz.underlying9 (bnd_h (h := n) om (by (try rw [Hm.mac_len, hol2]); omega))) (w_mv es (w_mv es (w_val (y_bin es es (b_cat (by (try simp only [List.length_append, Ch.bl_len]); omega))) (w_mv es (w_val (y_bin es es (b_cat (by (try simp only [List.length_append, Ch.bl_len]); omega))) (w_mv (ex (.string (str (Ch.bl aad))) (Eq.trans (b := .string (str (Oct.be (BitVec.ofNat 64 (8 * aad.length)) 8))) rfl (by rfl))) (w_val (y_bin es es (b_cat (by (try simp only [List.length_append, Ch.bl_len]); omega))) (w_call (Tryz.func26) kr rfl (m3 (ex (.int .i64 ((kind : Nat) : Int)) (Eq.trans (b := .int .i64 (16 * ((n : Nat) : Int))) rfl (by congr 1; omega))) es es) (refMac_l kind hkd (key.take n) ((((aad ++ vi) ++ text) ++ Ch.bl aad)) (by simp only [List.length_append, Ch.bl_len]; omega) (by rw [List.length_take]; omega) w4) ?_)))))))))))))))))))
 rintro _ w6 ⟨rfl, hb7⟩
 refine ⟨_, rfl, ?_⟩
 replace hk := thenB hk hb7
 refine w_mv (ex (.tuple #[.string (str (Hm.mac kind (key.take n) (((aad ++ vi) ++ text) ++ Ch.bl aad))), .int .i64 0])) (w_val ye (w_val ye (w_as es (w_as ei (nt (sr (w_mv es (w_mv (ex (.int .i64 ((n : Nat) : Int)) (Eq.trans (b := .int .i64 (((key.length : Nat) : Int) / 2)) rfl (by congr 1; omega))) (w_val (v := .string (str ((Hm.mac kind (key.take n) (((aad ++ vi) ++ text) ++ Ch.bl aad)).take n))) (y_sls (ex (.string (str (Hm.mac kind (key.take n) (((aad ++ vi) ++ text) ++ Ch.bl aad))))) evo.no (evo.s ei) Tryz.underlying9 (bnd_h (h := n) om (by (try rw [Hm.mac_len, hol2]); omega))) (w_as es (w_as Ev.c (nt (wp_ret (fin_ret2 rfl es ei ?_))))))))))))))
 refine ⟨congrArg Ending.returned ?_, hk⟩
 show (.tuple #[.string (str ((Hm.mac kind (key.take n) (((aad ++ vi) ++ text) ++ Ch.bl aad)).take n)), .int .i64 0] : Value) = .tuple #[.string (str (Ch.tg kind n key vi aad text)), .int .i64 0]
 rfl

theorem chRefSeal_z (key vi aad : List (BitVec 8)) (n kind : Nat) (hkd : Sha.Known kind) (hkn : kind = 16 * n) (hkl : key.length = 2 * n) (hiv : vi.length = 16) (ha : aad.length ≤ 70000) (text : List (BitVec 8)) (hl : text.length ≤ 140737488351232) (ht : 70000 < text.length) (w0 : World) : Calls Tryz.prog 10 #[.string (str key), .string (str vi), .string (str aad), .string (str text)] w0 fun e w' => e = .returned (.tuple #[.string (str ([] : List (BitVec 8))), .int .i64 6]) ∧ Below w0.heap.size w0 w' := by
 refine enter (n := 47) Tryz.func10 rfl rfl rfl ?_
 have hk : Below w0.heap.size w0 w0 := Below.refl _ _
 refine sr (w_as (evc (.string (str ([] : List (BitVec 8))))) (w_as Ev.c (nt (wp_seq (sr (w_mv es (w_mv es (w_mv es (w_call (Tryz.func15) kr rfl (m3 es es es) (chRefWrong_y key vi aad n kind hkd hkn hkl hiv ha w0) ?_)))))))))
 rintro _ w1 ⟨rfl, hb2⟩
 refine ⟨_, rfl, ?_⟩
 replace hk := thenB hk hb2
 refine w_as ei (nt (sr (w_mv ei (w_val (y_bin ei Ev.c b_neq) (nt (c_ff eb (wp_skip (then_n (wp_seq (sr (w_mv es (w_val (y_len es Tryz.underlying9) (w_val (y_bin ei Ev.c b_gtr) (nt ?_))))))))))))))
 have hc3 : 70000 < ((text.length : Nat) : Int) := by omega
 refine c_t (p := 70000 < ((text.length : Nat) : Int)) eb hc3 (sr (w_as (evc (.string (str ([] : List (BitVec 8))))) (w_as Ev.c (nt (wp_ret (then_r (fin_ret2 rfl es ei ?_)))))))
 exact ⟨rfl, hk⟩

theorem chRefSeal_y (key vi aad : List (BitVec 8)) (n kind : Nat) (hkd : Sha.Known kind) (hkn : kind = 16 * n) (hkl : key.length = 2 * n) (hiv : vi.length = 16) (ha : aad.length ≤ 70000) (text : List (BitVec 8)) (hl : text.length ≤ 140737488351232) (ht : text.length ≤ 70000) (w0 : World) : Calls Tryz.prog 10 #[.string (str key), .string (str vi), .string (str aad), .string (str text)] w0 fun e w' => e = .returned (.tuple #[.string (str (Ch.sealed kind n key vi aad text)), .int .i64 0]) ∧ Below w0.heap.size w0 w' := by
 have hkd' : kind = 256 ∨ kind = 384 ∨ kind = 512 := hkd
 have hnc := Ch.n_cases kind n hkd hkn
 have hok := Ch.key_ok kind n key hkd hkn hkl
 have hpn := Cb.pn_le text.length 16
 have hcl := Ch.cc_len n key vi text
 refine enter (n := 47) Tryz.func10 rfl rfl rfl ?_
 have hk : Below w0.heap.size w0 w0 := Below.refl _ _
 refine sr (w_as (evc (.string (str ([] : List (BitVec 8))))) (w_as Ev.c (nt (wp_seq (sr (w_mv es (w_mv es (w_mv es (w_call (Tryz.func15) kr rfl (m3 es es es) (chRefWrong_y key vi aad n kind hkd hkn hkl hiv ha w0) ?_)))))))))
 rintro _ w1 ⟨rfl, hb2⟩
 refine ⟨_, rfl, ?_⟩
 replace hk := thenB hk hb2
 refine w_as ei (nt (sr (w_mv ei (w_val (y_bin ei Ev.c b_neq) (nt (c_ff eb (wp_skip (then_n (wp_seq (sr (w_mv es (w_val (y_len es Tryz.underlying9) (w_val (y_bin ei Ev.c b_gtr) (nt ?_))))))))))))))
 have hc3 : ¬ (70000 < ((text.length : Nat) : Int)) := by omega
 refine c_f (p := 70000 < ((text.length : Nat) : Int)) eb hc3 (wp_skip (then_n (sr (w_mv es (w_mv es (w_val (y_len es Tryz.underlying9) (w_val (y_bin ei Ev.c (b_quo om)) (w_val (v := .string (str (key.drop n))) (y_slf (ex (.string (str key))) (evo.s (ex (.int .i64 ((n : Nat) : Int)) (Eq.trans (b := .int .i64 (((key.length : Nat) : Int) / 2)) rfl (by congr 1; omega)))) Tryz.underlying9 (bnd_l (l := n) om om)) (w_mv es (w_mv es (w_call (Tryz.func21) kr rfl (m3 es es es) (refSeal_y (key.drop n) vi hok hiv text ht w1) ?_)))))))))))
 rintro _ w4 ⟨rfl, hb5⟩
 refine ⟨_, rfl, ?_⟩
 replace hk := thenB hk hb5
 refine w_mv (ex (.tuple #[.string (str (Ch.cc n key vi text)), .int .i64 0])) (w_val ye (w_val ye (w_as es (w_as ei (nt (sr (w_mv es (w_mv es (w_mv es (w_mv es (w_call (Tryz.func14) kr rfl (m4 es es es es) (chRefTag_y key vi aad n kind hkd hkn hkl hiv ha (Ch.cc n key vi text) om om w4) ?_)))))))))))
 rintro _ w6 ⟨rfl, hb7⟩
 refine ⟨_, rfl, ?_⟩
 replace hk := thenB hk hb7
 refine w_mv (ex (.tuple #[.string (str (Ch.tg kind n key vi aad (Ch.cc n key vi text))), .int .i64 0])) (w_val ye (w_val ye (w_as es (w_as ei (nt (sr (w_mv es (w_mv es (w_val (y_bin es es (b_cat (by simp only [Ch.cc_len, Ch.tg_len kind n key vi aad _ hkd hkn]; omega))) (w_as es (w_as Ev.c (nt (wp_ret (fin_ret2 rfl es ei ?_))))))))))))))
 refine ⟨congrArg Ending.returned ?_, hk⟩
 show (.tuple #[.string (str ((Ch.cc n key vi text) ++ (Ch.tg kind n key vi aad (Ch.cc n key vi text)))), .int .i64 0] : Value) = .tuple #[.string (str (Ch.sealed kind n key vi aad text)), .int .i64 0]
 rfl

end Go.Proofs.YtepogbfkmflooaaGreatDoor
