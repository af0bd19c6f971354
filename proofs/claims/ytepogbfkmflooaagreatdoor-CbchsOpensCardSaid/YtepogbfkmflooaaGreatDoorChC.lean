/-
  Tags, sealing and opening by the reference. Conditions as each says.
-/
import Derived.Test.YtepogbfkmflooaaGreatDoorRows
import Derived.Test.YtepogbfkmflooaaGreatDoorChA
import Derived.Test.YtepogbfkmflooaaGreatDoorGenSh
import Derived.ProofKit
namespace Go.Proofs.YtepogbfkmflooaaGreatDoor
open Go.RowKit
set_option linter.unusedSimpArgs false
set_option linter.unusedVariables false
set_option maxRecDepth 100000
set_option maxHeartbeats 1000000
namespace ChCT
theorem mixed : Tryz.prog.follows .mixedOrders = true := by kernel_rfl
theorem sc9 : (Tryz.prog.underlying 9).map scal = some true := by rw [Tryz.underlying9]; rfl
theorem so3 : (Tryz.prog.underlying 3).isSome = true := by rw [Tryz.underlying3]; rfl
theorem sz9 : (Tryz.prog.info? 9).map (·.size) = some 1 := by kernel_rfl
end ChCT
theorem chRefWrong_k (key vi aad : List (BitVec 8)) (hk_ : ¬ (key.length = 32 ∨ key.length = 48 ∨ key.length = 64)) (w0 : World) : Calls Tryz.prog 15 #[.string (str key), .string (str vi), .string (str aad)] w0 fun e w' => e = .returned (.int .i64 3) ∧ Below w0.heap.size w0 w' := by
 refine enter (n := 29) Tryz.func15 rfl rfl rfl ?_
 have hk : Below w0.heap.size w0 w0 := Below.refl _ _
 refine sr (w_as Ev.c (nt (wp_seq (wp_block (sr (w_mv es (w_val (y_len es Tryz.underlying9) (w_val (y_bin ei Ev.c b_neq) (w_mv eb ?_)))))))))
 have hc1 : ((key.length : Nat) : Int) ≠ 32 := by omega
 refine w_val_g (v := .string (str key)) (wy rfl rfl (eb (dt hc1))) (y_mv es) (w_val_g (wy rfl rfl (eb (dt hc1))) (y_len es Tryz.underlying9) (w_val_g (wy rfl rfl (eb (dt hc1))) (y_bin ei Ev.c b_neq) (w_val (y_pick_t (eb (dt hc1)) eb) (w_mv eb ?_))))
 have hc2 : ((key.length : Nat) : Int) ≠ 48 := by omega
 refine w_val_g (v := .string (str key)) (wy rfl rfl (eb (dt hc2))) (y_mv es) (w_val_g (wy rfl rfl (eb (dt hc2))) (y_len es Tryz.underlying9) (w_val_g (wy rfl rfl (eb (dt hc2))) (y_bin ei Ev.c b_neq) (w_val (y_pick_t (eb (dt hc2)) eb) (w_as eb (nt ?_)))))
 have hc3 : ((key.length : Nat) : Int) ≠ 64 := by omega
 refine c_t (p := ((key.length : Nat) : Int) ≠ 64) eb hc3 (sr (w_as Ev.c (nt (wp_ret (inb_r (then_r (fin_ret1 rfl ei ?_)))))))
 exact ⟨rfl, hk⟩

theorem chRefWrong_i (key vi aad : List (BitVec 8)) (n kind : Nat) (hkd : Sha.Known kind) (hkn : kind = 16 * n) (hkl : key.length = 2 * n) (hiv : vi.length ≠ 16) (w0 : World) : Calls Tryz.prog 15 #[.string (str key), .string (str vi), .string (str aad)] w0 fun e w' => e = .returned (.int .i64 4) ∧ Below w0.heap.size w0 w' := by
 have hkd' : kind = 256 ∨ kind = 384 ∨ kind = 512 := hkd
 have hnc := Ch.n_cases kind n hkd hkn
 have hok := Ch.key_ok kind n key hkd hkn hkl
 refine enter (n := 29) Tryz.func15 rfl rfl rfl ?_
 have hk : Below w0.heap.size w0 w0 := Below.refl _ _
 refine sr (w_as Ev.c (nt (wp_seq (wp_block (sr (w_mv es (w_val (y_len es Tryz.underlying9) (w_val (y_bin ei Ev.c b_neq) (w_mv eb ?_)))))))))
 by_cases hc1 : ((key.length : Nat) : Int) ≠ 32
 ·skip
  refine w_val_g (v := .string (str key)) (wy rfl rfl (eb (dt hc1))) (y_mv es) (w_val_g (wy rfl rfl (eb (dt hc1))) (y_len es Tryz.underlying9) (w_val_g (wy rfl rfl (eb (dt hc1))) (y_bin ei Ev.c b_neq) (w_val (y_pick_t (eb (dt hc1)) eb) (w_mv eb ?_))))
  by_cases hc2 : ((key.length : Nat) : Int) ≠ 48
  ·skip
   refine w_val_g (v := .string (str key)) (wy rfl rfl (eb (dt hc2))) (y_mv es) (w_val_g (wy rfl rfl (eb (dt hc2))) (y_len es Tryz.underlying9) (w_val_g (wy rfl rfl (eb (dt hc2))) (y_bin ei Ev.c b_neq) (w_val (y_pick_t (eb (dt hc2)) eb) (w_as eb (nt ?_)))))
   refine c_if (p := ((key.length : Nat) : Int) ≠ 64) eb (fun hc3 => ?_) (fun hc3 => ?_)
   ·skip
    refine sr (w_as Ev.c (nt (wp_ret (inb_r (then_r (fin_ret1 rfl ei ?_))))))
    refine ⟨congrArg Ending.returned ?_, hk⟩
    show (.int .i64 3 : Value) = .int .i64 4
    first | with_reducible rfl | (with_reducible congr 1 <;> omega) | (with_reducible congr 2 <;> omega) | (with_reducible congr 3 <;> omega) | rfl
   ·skip
    refine sr (w_mv es (w_val (y_len es Tryz.underlying9) (w_val (y_bin ei Ev.c b_neq) (w_as eb (nt ?_)))))
    have hc4 : ((vi.length : Nat) : Int) ≠ 16 := by omega
    refine c_t (p := ((vi.length : Nat) : Int) ≠ 16) eb hc4 (sr (w_as Ev.c (nt (wp_ret (inb_r (then_r (fin_ret1 rfl ei ?_)))))))
    exact ⟨rfl, hk⟩
  ·skip
   with_reducible refine w_skip ?_ ?_
   exact wn rfl rfl (eb (df hc2))
   with_reducible refine w_skip ?_ ?_
   exact wn rfl rfl (eb (df hc2))
   with_reducible refine w_skip ?_ ?_
   exact wn rfl rfl (eb (df hc2))
   refine w_val (y_pick_f (eb (df hc2)) Ev.c) (w_as eb (nt (c_ff eb (sr (w_mv es (w_val (y_len es Tryz.underlying9) (w_val (y_bin ei Ev.c b_neq) (w_as eb (nt ?_)))))))))
   have hc5 : ((vi.length : Nat) : Int) ≠ 16 := by omega
   refine c_t (p := ((vi.length : Nat) : Int) ≠ 16) eb hc5 (sr (w_as Ev.c (nt (wp_ret (inb_r (then_r (fin_ret1 rfl ei ?_)))))))
   exact ⟨rfl, hk⟩
 ·skip
  with_reducible refine w_skip ?_ ?_
  exact wn rfl rfl (eb (df hc1))
  with_reducible refine w_skip ?_ ?_
  exact wn rfl rfl (eb (df hc1))
  with_reducible refine w_skip ?_ ?_
  exact wn rfl rfl (eb (df hc1))
  refine w_val (y_pick_f (eb (df hc1)) Ev.c) (w_mv eb ?_)
  with_reducible refine w_skip ?_ ?_
  exact wn rfl rfl eb
  with_reducible refine w_skip ?_ ?_
  exact wn rfl rfl eb
  with_reducible refine w_skip ?_ ?_
  exact wn rfl rfl eb
  refine w_val (y_pick_f eb Ev.c) (w_as eb (nt (c_ff eb (sr (w_mv es (w_val (y_len es Tryz.underlying9) (w_val (y_bin ei Ev.c b_neq) (w_as eb (nt ?_)))))))))
  have hc6 : ((vi.length : Nat) : Int) ≠ 16 := by omega
  refine c_t (p := ((vi.length : Nat) : Int) ≠ 16) eb hc6 (sr (w_as Ev.c (nt (wp_ret (inb_r (then_r (fin_ret1 rfl ei ?_)))))))
  exact ⟨rfl, hk⟩

theorem chRefWrong_a (key vi aad : List (BitVec 8)) (n kind : Nat) (hkd : Sha.Known kind) (hkn : kind = 16 * n) (hkl : key.length = 2 * n) (hiv : vi.length = 16) (ha : 70000 < aad.length) (w0 : World) : Calls Tryz.prog 15 #[.string (str key), .string (str vi), .string (str aad)] w0 fun e w' => e = .returned (.int .i64 6) ∧ Below w0.heap.size w0 w' := by
 have hkd' : kind = 256 ∨ kind = 384 ∨ kind = 512 := hkd
 have hnc := Ch.n_cases kind n hkd hkn
 have hok := Ch.key_ok kind n key hkd hkn hkl
 refine enter (n := 29) Tryz.func15 rfl rfl rfl ?_
 have hk : Below w0.heap.size w0 w0 := Below.refl _ _
 refine sr (w_as Ev.c (nt (wp_seq (wp_block (sr (w_mv es (w_val (y_len es Tryz.underlying9) (w_val (y_bin ei Ev.c b_neq) (w_mv eb ?_)))))))))
 by_cases hc1 : ((key.length : Nat) : Int) ≠ 32
 ·skip
  refine w_val_g (v := .string (str key)) (wy rfl rfl (eb (dt hc1))) (y_mv es) (w_val_g (wy rfl rfl (eb (dt hc1))) (y_len es Tryz.underlying9) (w_val_g (wy rfl rfl (eb (dt hc1))) (y_bin ei Ev.c b_neq) (w_val (y_pick_t (eb (dt hc1)) eb) (w_mv eb ?_))))
  by_cases hc2 : ((key.length : Nat) : Int) ≠ 48
  ·skip
   refine w_val_g (v := .string (str key)) (wy rfl rfl (eb (dt hc2))) (y_mv es) (w_val_g (wy rfl rfl (eb (dt hc2))) (y_len es Tryz.underlying9) (w_val_g (wy rfl rfl (eb (dt hc2))) (y_bin ei Ev.c b_neq) (w_val (y_pick_t (eb (dt hc2)) eb) (w_as eb (nt ?_)))))
   refine c_if (p := ((key.length : Nat) : Int) ≠ 64) eb (fun hc3 => ?_) (fun hc3 => ?_)
   ·skip
    refine sr (w_as Ev.c (nt (wp_ret (inb_r (then_r (fin_ret1 rfl ei ?_))))))
    refine ⟨congrArg Ending.returned ?_, hk⟩
    show (.int .i64 3 : Value) = .int .i64 6
    first | with_reducible rfl | (with_reducible congr 1 <;> omega) | (with_reducible congr 2 <;> omega) | (with_reducible congr 3 <;> omega) | rfl
   ·skip
    refine sr (w_mv es (w_val (y_len es Tryz.underlying9) (w_val (y_bin ei Ev.c b_neq) (w_as eb (nt ?_)))))
    have hc4 : ¬ (((vi.length : Nat) : Int) ≠ 16) := by omega
    refine c_f (p := ((vi.length : Nat) : Int) ≠ 16) eb hc4 (sr (w_mv es (w_val (y_len es Tryz.underlying9) (w_val (y_bin ei Ev.c b_gtr) (w_as eb (nt ?_))))))
    have hc5 : 70000 < ((aad.length : Nat) : Int) := by omega
    refine c_t (p := 70000 < ((aad.length : Nat) : Int)) eb hc5 (sr (w_as Ev.c (nt (wp_ret (inb_r (then_r (fin_ret1 rfl ei ?_)))))))
    exact ⟨rfl, hk⟩
  ·skip
   with_reducible refine w_skip ?_ ?_
   exact wn rfl rfl (eb (df hc2))
   with_reducible refine w_skip ?_ ?_
   exact wn rfl rfl (eb (df hc2))
   with_reducible refine w_skip ?_ ?_
   exact wn rfl rfl (eb (df hc2))
   refine w_val (y_pick_f (eb (df hc2)) Ev.c) (w_as eb (nt (c_ff eb (sr (w_mv es (w_val (y_len es Tryz.underlying9) (w_val (y_bin ei Ev.c b_neq) (w_as eb (nt ?_)))))))))
   have hc6 : ¬ (((vi.length : Nat) : Int) ≠ 16) := by omega
   refine c_f (p := ((vi.length : Nat) : Int) ≠ 16) eb hc6 (sr (w_mv es (w_val (y_len es Tryz.underlying9) (w_val (y_bin ei Ev.c b_gtr) (w_as eb (nt ?_))))))
   have hc7 : 70000 < ((aad.length : Nat) : Int) := by omega
   refine c_t (p := 70000 < ((aad.length : Nat) : Int)) eb hc7 (sr (w_as Ev.c (nt (wp_ret (inb_r (then_r (fin_ret1 rfl ei ?_)))))))
   exact ⟨rfl, hk⟩
 ·skip
  with_reducible refine w_skip ?_ ?_
  exact wn rfl rfl (eb (df hc1))
  with_reducible refine w_skip ?_ ?_
  exact wn rfl rfl (eb (df hc1))
  with_reducible refine w_skip ?_ ?_
  exact wn rfl rfl (eb (df hc1))
  refine w_val (y_pick_f (eb (df hc1)) Ev.c) (w_mv eb ?_)
  with_reducible refine w_skip ?_ ?_
  exact wn rfl rfl eb
  with_reducible refine w_skip ?_ ?_
  exact wn rfl rfl eb
  with_reducible refine w_skip ?_ ?_
  exact wn rfl rfl eb
  refine w_val (y_pick_f eb Ev.c) (w_as eb (nt (c_ff eb (sr (w_mv es (w_val (y_len es Tryz.underlying9) (w_val (y_bin ei Ev.c b_neq) (w_as eb (nt ?_)))))))))
  have hc8 : ¬ (((vi.length : Nat) : Int) ≠ 16) := by omega
  refine c_f (p := ((vi.length : Nat) : Int) ≠ 16) eb hc8 (sr (w_mv es (w_val (y_len es Tryz.underlying9) (w_val (y_bin ei Ev.c b_gtr) (w_as eb (nt ?_))))))
  have hc9 : 70000 < ((aad.length : Nat) : Int) := by omega
  refine c_t (p := 70000 < ((aad.length : Nat) : Int)) eb hc9 (sr (w_as Ev.c (nt (wp_ret (inb_r (then_r (fin_ret1 rfl ei ?_)))))))
  exact ⟨rfl, hk⟩

theorem chRefWrong_y (key vi aad : List (BitVec 8)) (n kind : Nat) (hkd : Sha.Known kind) (hkn : kind = 16 * n) (hkl : key.length = 2 * n) (hiv : vi.length = 16) (ha : aad.length ≤ 70000) (w0 : World) : Calls Tryz.prog 15 #[.string (str key), .string (str vi), .string (str aad)] w0 fun e w' => e = .returned (.int .i64 0) ∧ Below w0.heap.size w0 w' := by
 have hkd' : kind = 256 ∨ kind = 384 ∨ kind = 512 := hkd
 have hnc := Ch.n_cases kind n hkd hkn
 have hok := Ch.key_ok kind n key hkd hkn hkl
 refine enter (n := 29) Tryz.func15 rfl rfl rfl ?_
 have hk : Below w0.heap.size w0 w0 := Below.refl _ _
 refine sr (w_as Ev.c (nt (wp_seq (wp_block (sr (w_mv es (w_val (y_len es Tryz.underlying9) (w_val (y_bin ei Ev.c b_neq) (w_mv eb ?_)))))))))
 by_cases hc1 : ((key.length : Nat) : Int) ≠ 32
 ·skip
  refine w_val_g (v := .string (str key)) (wy rfl rfl (eb (dt hc1))) (y_mv es) (w_val_g (wy rfl rfl (eb (dt hc1))) (y_len es Tryz.underlying9) (w_val_g (wy rfl rfl (eb (dt hc1))) (y_bin ei Ev.c b_neq) (w_val (y_pick_t (eb (dt hc1)) eb) (w_mv eb ?_))))
  by_cases hc2 : ((key.length : Nat) : Int) ≠ 48
  ·skip
   refine w_val_g (v := .string (str key)) (wy rfl rfl (eb (dt hc2))) (y_mv es) (w_val_g (wy rfl rfl (eb (dt hc2))) (y_len es Tryz.underlying9) (w_val_g (wy rfl rfl (eb (dt hc2))) (y_bin ei Ev.c b_neq) (w_val (y_pick_t (eb (dt hc2)) eb) (w_as eb (nt ?_)))))
   refine c_if (p := ((key.length : Nat) : Int) ≠ 64) eb (fun hc3 => ?_) (fun hc3 => ?_)
   ·skip
    refine sr (w_as Ev.c (nt (wp_ret (inb_r (then_r (fin_ret1 rfl ei ?_))))))
    refine ⟨congrArg Ending.returned ?_, hk⟩
    show (.int .i64 3 : Value) = .int .i64 0
    first | with_reducible rfl | (with_reducible congr 1 <;> omega) | (with_reducible congr 2 <;> omega) | (with_reducible congr 3 <;> omega) | rfl
   ·skip
    refine sr (w_mv es (w_val (y_len es Tryz.underlying9) (w_val (y_bin ei Ev.c b_neq) (w_as eb (nt ?_)))))
    have hc4 : ¬ (((vi.length : Nat) : Int) ≠ 16) := by omega
    refine c_f (p := ((vi.length : Nat) : Int) ≠ 16) eb hc4 (sr (w_mv es (w_val (y_len es Tryz.underlying9) (w_val (y_bin ei Ev.c b_gtr) (w_as eb (nt ?_))))))
    have hc5 : ¬ (70000 < ((aad.length : Nat) : Int)) := by omega
    refine c_f (p := 70000 < ((aad.length : Nat) : Int)) eb hc5 (wp_skip (inb_n (then_n (sr (w_as Ev.c (nt (wp_ret (fin_ret1 rfl ei ?_))))))))
    exact ⟨rfl, hk⟩
  ·skip
   with_reducible refine w_skip ?_ ?_
   exact wn rfl rfl (eb (df hc2))
   with_reducible refine w_skip ?_ ?_
   exact wn rfl rfl (eb (df hc2))
   with_reducible refine w_skip ?_ ?_
   exact wn rfl rfl (eb (df hc2))
   refine w_val (y_pick_f (eb (df hc2)) Ev.c) (w_as eb (nt (c_ff eb (sr (w_mv es (w_val (y_len es Tryz.underlying9) (w_val (y_bin ei Ev.c b_neq) (w_as eb (nt ?_)))))))))
   have hc6 : ¬ (((vi.length : Nat) : Int) ≠ 16) := by omega
   refine c_f (p := ((vi.length : Nat) : Int) ≠ 16) eb hc6 (sr (w_mv es (w_val (y_len es Tryz.underlying9) (w_val (y_bin ei Ev.c b_gtr) (w_as eb (nt ?_))))))
   have hc7 : ¬ (70000 < ((aad.length : Nat) : Int)) := by omega
   refine c_f (p := 70000 < ((aad.length : Nat) : Int)) eb hc7 (wp_skip (inb_n (then_n (sr (w_as Ev.c (nt (wp_ret (fin_ret1 rfl ei ?_))))))))
   exact ⟨rfl, hk⟩
 ·skip
  with_reducible refine w_skip ?_ ?_
  exact wn rfl rfl (eb (df hc1))
  with_reducible refine w_skip ?_ ?_
  exact wn rfl rfl (eb (df hc1))
  with_reducible refine w_skip ?_ ?_
  exact wn rfl rfl (eb (df hc1))
  refine w_val (y_pick_f (eb (df hc1)) Ev.c) (w_mv eb ?_)
  with_reducible refine w_skip ?_ ?_
  exact wn rfl rfl eb
  with_reducible refine w_skip ?_ ?_
  exact wn rfl rfl eb
  with_reducible refine w_skip ?_ ?_
  exact wn rfl rfl eb
  refine w_val (y_pick_f eb Ev.c) (w_as eb (nt (c_ff eb (sr (w_mv es (w_val (y_len es Tryz.underlying9) (w_val (y_bin ei Ev.c b_neq) (w_as eb (nt ?_)))))))))
  have hc8 : ¬ (((vi.length : Nat) : Int) ≠ 16) := by omega
  refine c_f (p := ((vi.length : Nat) : Int) ≠ 16) eb hc8 (sr (w_mv es (w_val (y_len es Tryz.underlying9) (w_val (y_bin ei Ev.c b_gtr) (w_as eb (nt ?_))))))
  have hc9 : ¬ (70000 < ((aad.length : Nat) : Int)) := by omega
  refine c_f (p := 70000 < ((aad.length : Nat) : Int)) eb hc9 (wp_skip (inb_n (then_n (sr (w_as Ev.c (nt (wp_ret (fin_ret1 rfl ei ?_))))))))
  exact ⟨rfl, hk⟩

theorem chRefOpen_k (key vi aad : List (BitVec 8)) (hk_ : ¬ (key.length = 32 ∨ key.length = 48 ∨ key.length = 64)) (text : List (BitVec 8)) (w0 : World) : Calls Tryz.prog 12 #[.string (str key), .string (str vi), .string (str aad), .string (str text)] w0 fun e w' => e = .returned (.tuple #[.string (str ([] : List (BitVec 8))), .int .i64 3]) ∧ Below w0.heap.size w0 w' := by
 refine enter (n := 82) Tryz.func12 rfl rfl rfl ?_
 have hk : Below w0.heap.size w0 w0 := Below.refl _ _
 refine sr (w_as (evc (.string (str ([] : List (BitVec 8))))) (w_as Ev.c (nt (wp_seq (sr (w_mv es (w_mv es (w_mv es (w_call (Tryz.func15) kr rfl (m3 es es es) (chRefWrong_k key vi aad hk_ w0) ?_)))))))))
 rintro _ w1 ⟨rfl, hb2⟩
 refine ⟨_, rfl, ?_⟩
 replace hk := thenB hk hb2
 refine w_as ei (nt (sr (w_mv ei (w_val (y_bin ei Ev.c b_neq) (nt (c_tt eb (sr (w_mv ei (w_as (evc (.string (str ([] : List (BitVec 8))))) (w_as ei (nt (wp_ret (then_r (fin_ret2 rfl es ei ?_))))))))))))))
 exact ⟨rfl, hk⟩

theorem chRefOpen_i (key vi aad : List (BitVec 8)) (n kind : Nat) (hkd : Sha.Known kind) (hkn : kind = 16 * n) (hkl : key.length = 2 * n) (hiv : vi.length ≠ 16) (text : List (BitVec 8)) (w0 : World) : Calls Tryz.prog 12 #[.string (str key), .string (str vi), .string (str aad), .string (str text)] w0 fun e w' => e = .returned (.tuple #[.string (str ([] : List (BitVec 8))), .int .i64 4]) ∧ Below w0.heap.size w0 w' := by
 refine enter (n := 82) Tryz.func12 rfl rfl rfl ?_
 have hk : Below w0.heap.size w0 w0 := Below.refl _ _
 refine sr (w_as (evc (.string (str ([] : List (BitVec 8))))) (w_as Ev.c (nt (wp_seq (sr (w_mv es (w_mv es (w_mv es (w_call (Tryz.func15) kr rfl (m3 es es es) (chRefWrong_i key vi aad n kind hkd hkn hkl hiv w0) ?_)))))))))
 rintro _ w1 ⟨rfl, hb2⟩
 refine ⟨_, rfl, ?_⟩
 replace hk := thenB hk hb2
 refine w_as ei (nt (sr (w_mv ei (w_val (y_bin ei Ev.c b_neq) (nt (c_tt eb (sr (w_mv ei (w_as (evc (.string (str ([] : List (BitVec 8))))) (w_as ei (nt (wp_ret (then_r (fin_ret2 rfl es ei ?_))))))))))))))
 exact ⟨rfl, hk⟩

theorem chRefOpen_a (key vi aad : List (BitVec 8)) (n kind : Nat) (hkd : Sha.Known kind) (hkn : kind = 16 * n) (hkl : key.length = 2 * n) (hiv : vi.length = 16) (ha : 70000 < aad.length) (text : List (BitVec 8)) (w0 : World) : Calls Tryz.prog 12 #[.string (str key), .string (str vi), .string (str aad), .string (str text)] w0 fun e w' => e = .returned (.tuple #[.string (str ([] : List (BitVec 8))), .int .i64 6]) ∧ Below w0.heap.size w0 w' := by
 refine enter (n := 82) Tryz.func12 rfl rfl rfl ?_
 have hk : Below w0.heap.size w0 w0 := Below.refl _ _
 refine sr (w_as (evc (.string (str ([] : List (BitVec 8))))) (w_as Ev.c (nt (wp_seq (sr (w_mv es (w_mv es (w_mv es (w_call (Tryz.func15) kr rfl (m3 es es es) (chRefWrong_a key vi aad n kind hkd hkn hkl hiv ha w0) ?_)))))))))
 rintro _ w1 ⟨rfl, hb2⟩
 refine ⟨_, rfl, ?_⟩
 replace hk := thenB hk hb2
 refine w_as ei (nt (sr (w_mv ei (w_val (y_bin ei Ev.c b_neq) (nt (c_tt eb (sr (w_mv ei (w_as (evc (.string (str ([] : List (BitVec 8))))) (w_as ei (nt (wp_ret (then_r (fin_ret2 rfl es ei ?_))))))))))))))
 exact ⟨rfl, hk⟩

theorem chRefTag_y (key vi aad : List (BitVec 8)) (n kind : Nat) (hkd : Sha.Known kind) (hkn : kind = 16 * n) (hkl : key.length = 2 * n) (hiv : vi.length = 16) (ha : aad.length ≤ 70000) (text : List (BitVec 8)) (hl : text.length ≤ 140737488351232) (ht : text.length ≤ 70016) (w0 : World) : Calls Tryz.prog 14 #[.string (str key), .string (str vi), .string (str aad), .string (str text)] w0 fun e w' => e = .returned (.tuple #[.string (str (Ch.tg kind n key vi aad text)), .int .i64 0]) ∧ Below w0.heap.size w0 w' := by
 have hkd' : kind = 256 ∨ kind = 384 ∨ kind = 512 := hkd
 have hnc := Ch.n_cases kind n hkd hkn
 have hok := Ch.key_ok kind n key hkd hkn hkl
 have hol2 := Ch.n_ol kind n hkd hkn
 refine enter (n := 56) Tryz.func14 rfl rfl rfl ?_
 have hk : Below w0.heap.size w0 w0 := Below.refl _ _
 refine sr (w_as (evc (.string (str ([] : List (BitVec 8))))) (w_as Ev.c (nt (wp_seq (sr (w_mv es (w_mv es (w_mv es (w_call (Tryz.func15) kr rfl (m3 es es es) (chRefWrong_y key vi aad n kind hkd hkn hkl hiv ha w0) ?_)))))))))
 rintro _ w1 ⟨rfl, hb2⟩
 refine ⟨_, rfl, ?_⟩
 replace hk := thenB hk hb2
 refine w_as ei (nt (sr (w_mv ei (w_val (y_bin ei Ev.c b_neq) (nt (c_ff eb (wp_skip (then_n (wp_seq (sr (w_mv es (w_val (y_len es Tryz.underlying9) (w_val (y_bin ei Ev.c b_gtr) (nt ?_))))))))))))))
 have hc3 : ¬ (70016 < ((text.length : Nat) : Int)) := by omega
 refine c_f (p := 70016 < ((text.length : Nat) : Int)) eb hc3 (wp_skip (then_n (sr (w_mv es (w_val (y_len es Tryz.underlying9) (w_val (y_bin ei Ev.c (b_quo om)) (w_as ei (nt (sr (w_mv es (w_val (y_len es Tryz.underlying9) (w_val (y_bin Ev.c ei (b_mul om)) (w_val (y_nat_u64 (p := (8 * aad.length)) ei om ChCT.so3 Tryz.underlying40) (w_call (Tryz.func25) kr rfl (m2 e6 Ev.c) (refPut_c (BitVec.ofNat 64 (8 * aad.length)) 8 (by decide) (by decide) (BitVec.isLt _) w1) ?_))))))))))))))
 rintro _ w4 ⟨rfl, hb5⟩
 refine ⟨_, rfl, ?_⟩
 replace hk := thenB hk hb5
 refine w_mv (ex (.tuple #[.string (str (Oct.be (BitVec.ofNat 64 (8 * aad.length)) 8)), .int .i64 0])) (w_val ye (w_val ye (w_as es (w_as ei (nt (sr (w_mv (ex (.int .i64 ((n : Nat) : Int)) (Eq.trans (b := .int .i64 (((key.length : Nat) : Int) / 2)) rfl (by congr 1; omega))) (w_val (y_bin Ev.c ei (b_mul om)) (w_mv es (w_mv (ex (.int .i64 ((n : Nat) : Int)) (Eq.trans (b := .int .i64 (((key.length : Nat) : Int) / 2)) rfl (by congr 1; omega))) (w_val (v := .string (str (key.take n))) (y_sls (ex (.string (str key))) evo.no (evo.s ei) Tryz.underlying9 (bnd_h (h := n) om (by (try rw [Hm.mac_len, hol2]); omega))) (w_mv es (w_mv es (w_val (y_bin es es (b_cat (by (try simp only [List.length_append, Ch.bl_len]); omega))) (w_mv es (w_val (y_bin es es (b_cat (by (try simp only [List.length_append, Ch.bl_len]); omega))) (w_mv (ex (.string (str (Ch.bl aad))) (Eq.trans (b := .string (str (Oct.be (BitVec.ofNat 64 (8 * aad.length)) 8))) rfl (by rfl))) (w_val (y_bin es es (b_cat (by (try simp only [List.length_append, Ch.bl_len]); omega))) (w_call (Tryz.func26) kr rfl (m3 (ex (.int .i64 ((kind : Nat) : Int)) (Eq.trans (b := .int .i64 (16 * ((n : Nat) : Int))) rfl (by congr 1; omega))) es es) (refMac_l kind hkd (key.take n) ((((aad ++ vi) ++ text) ++ Ch.bl aad)) (by simp only [List.length_append, Ch.bl_len]; omega) (by rw [List.length_take]; omega) w4) ?_)))))))))))))))))))
 rintro _ w6 ⟨rfl, hb7⟩
 refine ⟨_, rfl, ?_⟩
 replace hk := thenB hk hb7
 refine w_mv (ex (.tuple #[.string (str (Hm.mac kind (key.take n) (((aad ++ vi) ++ text) ++ Ch.bl aad))), .int .i64 0])) (w_val ye (w_val ye (w_as es (w_as ei (nt (sr (w_mv es (w_mv (ex (.int .i64 ((n : Nat) : Int)) (Eq.trans (b := .int .i64 (((key.length : Nat) : Int) / 2)) rfl (by congr 1; omega))) (w_val (v := .string (str ((Hm.mac kind (key.take n) (((aad ++ vi) ++ text) ++ Ch.bl aad)).take n))) (y_sls (ex (.string (str (Hm.mac kind (key.take n) (((aad ++ vi) ++ text) ++ Ch.bl aad))))) evo.no (evo.s ei) Tryz.underlying9 (bnd_h (h := n) om (by (try rw [Hm.mac_len, hol2]); omega))) (w_as es (w_as Ev.c (nt (wp_ret (fin_ret2 rfl es ei ?_))))))))))))))
 refine ⟨congrArg Ending.returned ?_, hk⟩
 show (.tuple #[.string (str ((Hm.mac kind (key.take n) (((aad ++ vi) ++ text) ++ Ch.bl aad)).take n)), .int .i64 0] : Value) = .tuple #[.string (str (Ch.tg kind n key vi aad text)), .int .i64 0]
 rfl

theorem chRefOpen_s (key vi aad : List (BitVec 8)) (n kind : Nat) (hkd : Sha.Known kind) (hkn : kind = 16 * n) (hkl : key.length = 2 * n) (hiv : vi.length = 16) (ha : aad.length ≤ 70000) (text : List (BitVec 8)) (hl : text.length ≤ 140737488351232) (hs : ¬ (16 + n ≤ text.length ∧ (text.length - n) % 16 = 0 ∧ text.length ≤ 70016 + n)) (w0 : World) : Calls Tryz.prog 12 #[.string (str key), .string (str vi), .string (str aad), .string (str text)] w0 fun e w' => e = .returned (.tuple #[.string (str ([] : List (BitVec 8))), .int .i64 6]) ∧ Below w0.heap.size w0 w' := by
 have hkd' : kind = 256 ∨ kind = 384 ∨ kind = 512 := hkd
 have hnc := Ch.n_cases kind n hkd hkn
 have hok := Ch.key_ok kind n key hkd hkn hkl
 refine enter (n := 82) Tryz.func12 rfl rfl rfl ?_
 have hk : Below w0.heap.size w0 w0 := Below.refl _ _
 refine sr (w_as (evc (.string (str ([] : List (BitVec 8))))) (w_as Ev.c (nt (wp_seq (sr (w_mv es (w_mv es (w_mv es (w_call (Tryz.func15) kr rfl (m3 es es es) (chRefWrong_y key vi aad n kind hkd hkn hkl hiv ha w0) ?_)))))))))
 rintro _ w1 ⟨rfl, hb2⟩
 refine ⟨_, rfl, ?_⟩
 replace hk := thenB hk hb2
 refine w_as ei (nt (sr (w_mv ei (w_val (y_bin ei Ev.c b_neq) (nt (c_ff eb (wp_skip (then_n (sr (w_mv es (w_val (y_len es Tryz.underlying9) (w_val (y_bin ei Ev.c (b_quo om)) (w_as ei (nt (wp_seq (sr (w_mv es (w_val (y_len es Tryz.underlying9) (w_mv ei (w_val (y_bin ei Ev.c (b_add om)) (w_val (y_bin ei ei b_lss) (w_mv eb ?_))))))))))))))))))))))
 by_cases hc3 : ((text.length : Nat) : Int) < ((((key.length : Nat) : Int) / 2) + 16)
 ·skip
  with_reducible refine w_skip ?_ ?_
  exact wn rfl rfl (eb (dt hc3))
  with_reducible refine w_skip ?_ ?_
  exact wn rfl rfl (eb (dt hc3))
  with_reducible refine w_skip ?_ ?_
  exact wn rfl rfl (eb (dt hc3))
  with_reducible refine w_skip ?_ ?_
  exact wn rfl rfl (eb (dt hc3))
  with_reducible refine w_skip ?_ ?_
  exact wn rfl rfl (eb (dt hc3))
  with_reducible refine w_skip ?_ ?_
  exact wn rfl rfl (eb (dt hc3))
  refine w_val (y_pick_t (eb (dt hc3)) Ev.c) (w_mv eb ?_)
  with_reducible refine w_skip ?_ ?_
  exact wn rfl rfl eb
  with_reducible refine w_skip ?_ ?_
  exact wn rfl rfl eb
  with_reducible refine w_skip ?_ ?_
  exact wn rfl rfl eb
  with_reducible refine w_skip ?_ ?_
  exact wn rfl rfl eb
  with_reducible refine w_skip ?_ ?_
  exact wn rfl rfl eb
  refine w_val (y_pick_t eb Ev.c) (nt (c_tt eb (sr (w_as (evc (.string (str ([] : List (BitVec 8))))) (w_as Ev.c (nt (wp_ret (then_r (fin_ret2 rfl es ei ?_)))))))))
  exact ⟨rfl, hk⟩
 ·skip
  refine w_val_g (v := .string (str text)) (wy rfl rfl (eb (df hc3))) (y_mv es) (w_val_g (wy rfl rfl (eb (df hc3))) (y_len es Tryz.underlying9) (w_val_g (v := .int .i64 (((key.length : Nat) : Int) / 2)) (wy rfl rfl (eb (df hc3))) (y_mv ei) (w_val_g (wy rfl rfl (eb (df hc3))) (y_bin ei ei (b_sub om)) (w_val_g (wy rfl rfl (eb (df hc3))) (y_bin ei Ev.c (b_rem om)) (w_val_g (wy rfl rfl (eb (df hc3))) (y_bin ei Ev.c b_neq) (w_val (y_pick_f (eb (df hc3)) eb) (w_mv eb ?_)))))))
  by_cases hc4 : ((((text.length : Nat) : Int) - (((key.length : Nat) : Int) / 2)) % 16) ≠ 0
  ·skip
   with_reducible refine w_skip ?_ ?_
   exact wn rfl rfl (eb (dt hc4))
   with_reducible refine w_skip ?_ ?_
   exact wn rfl rfl (eb (dt hc4))
   with_reducible refine w_skip ?_ ?_
   exact wn rfl rfl (eb (dt hc4))
   with_reducible refine w_skip ?_ ?_
   exact wn rfl rfl (eb (dt hc4))
   with_reducible refine w_skip ?_ ?_
   exact wn rfl rfl (eb (dt hc4))
   refine w_val (y_pick_t (eb (dt hc4)) Ev.c) (nt (c_tt eb (sr (w_as (evc (.string (str ([] : List (BitVec 8))))) (w_as Ev.c (nt (wp_ret (then_r (fin_ret2 rfl es ei ?_)))))))))
   exact ⟨rfl, hk⟩
  ·skip
   refine w_val_g (v := .string (str text)) (wy rfl rfl (eb (df hc4))) (y_mv es) (w_val_g (wy rfl rfl (eb (df hc4))) (y_len es Tryz.underlying9) (w_val_g (v := .int .i64 (((key.length : Nat) : Int) / 2)) (wy rfl rfl (eb (df hc4))) (y_mv ei) (w_val_g (wy rfl rfl (eb (df hc4))) (y_bin Ev.c ei (b_add om)) (w_val_g (wy rfl rfl (eb (df hc4))) (y_bin ei ei b_gtr) (w_val (y_pick_f (eb (df hc4)) eb) (nt ?_))))))
   refine c_if (p := (70016 + (((key.length : Nat) : Int) / 2)) < ((text.length : Nat) : Int)) eb (fun hc5 => ?_) (fun hc5 => ?_)
   ·skip
    refine sr (w_as (evc (.string (str ([] : List (BitVec 8))))) (w_as Ev.c (nt (wp_ret (then_r (fin_ret2 rfl es ei ?_))))))
    exact ⟨rfl, hk⟩
   ·skip
    refine wp_skip (then_n (wp_seq ?_))
    exfalso; omega

theorem chRefOpen_p (key vi aad : List (BitVec 8)) (n kind : Nat) (hkd : Sha.Known kind) (hkn : kind = 16 * n) (hkl : key.length = 2 * n) (hiv : vi.length = 16) (ha : aad.length ≤ 70000) (text : List (BitVec 8)) (hl : text.length ≤ 140737488351232) (m : Nat) (hm : text.length = m + n) (h16 : 16 ≤ m) (hm16 : m % 16 = 0) (hz : m ≤ 70016) (hb : ¬ Ch.tg kind n key vi aad (text.take m) = text.drop m) (hp : Cb.Padded (Ch.un n key vi (text.take m)) 16) (w0 : World) : Calls Tryz.prog 12 #[.string (str key), .string (str vi), .string (str aad), .string (str text)] w0 fun e w' => e = .returned (.tuple #[.string (str ([] : List (BitVec 8))), .int .i64 8]) ∧ Below w0.heap.size w0 w' := by
 have hkd' : kind = 256 ∨ kind = 384 ∨ kind = 512 := hkd
 have hnc := Ch.n_cases kind n hkd hkn
 have hok := Ch.key_ok kind n key hkd hkn hkl
 refine enter (n := 82) Tryz.func12 rfl rfl rfl ?_
 have hk : Below w0.heap.size w0 w0 := Below.refl _ _
 refine sr (w_as (evc (.string (str ([] : List (BitVec 8))))) (w_as Ev.c (nt (wp_seq (sr (w_mv es (w_mv es (w_mv es (w_call (Tryz.func15) kr rfl (m3 es es es) (chRefWrong_y key vi aad n kind hkd hkn hkl hiv ha w0) ?_)))))))))
 rintro _ w1 ⟨rfl, hb2⟩
 refine ⟨_, rfl, ?_⟩
 replace hk := thenB hk hb2
 refine w_as ei (nt (sr (w_mv ei (w_val (y_bin ei Ev.c b_neq) (nt (c_ff eb (wp_skip (then_n (sr (w_mv es (w_val (y_len es Tryz.underlying9) (w_val (y_bin ei Ev.c (b_quo om)) (w_as ei (nt (wp_seq (sr (w_mv es (w_val (y_len es Tryz.underlying9) (w_mv (ex (.int .i64 ((n : Nat) : Int)) (Eq.trans (b := .int .i64 (((key.length : Nat) : Int) / 2)) rfl (by congr 1; omega))) (w_val (y_bin ei Ev.c (b_add om)) (w_val (y_bin ei ei b_lss) (w_mv eb ?_))))))))))))))))))))))
 by_cases hc3 : ((text.length : Nat) : Int) < (((n : Nat) : Int) + 16)
 ·skip
  with_reducible refine w_skip ?_ ?_
  exact wn rfl rfl (eb (dt hc3))
  with_reducible refine w_skip ?_ ?_
  exact wn rfl rfl (eb (dt hc3))
  with_reducible refine w_skip ?_ ?_
  exact wn rfl rfl (eb (dt hc3))
  with_reducible refine w_skip ?_ ?_
  exact wn rfl rfl (eb (dt hc3))
  with_reducible refine w_skip ?_ ?_
  exact wn rfl rfl (eb (dt hc3))
  with_reducible refine w_skip ?_ ?_
  exact wn rfl rfl (eb (dt hc3))
  refine w_val (y_pick_t (eb (dt hc3)) Ev.c) (w_mv eb ?_)
  with_reducible refine w_skip ?_ ?_
  exact wn rfl rfl eb
  with_reducible refine w_skip ?_ ?_
  exact wn rfl rfl eb
  with_reducible refine w_skip ?_ ?_
  exact wn rfl rfl eb
  with_reducible refine w_skip ?_ ?_
  exact wn rfl rfl eb
  with_reducible refine w_skip ?_ ?_
  exact wn rfl rfl eb
  refine w_val (y_pick_t eb Ev.c) (nt (c_tt eb (wp_seq ?_)))
  exfalso; omega
 ·skip
  refine w_val_g (v := .string (str text)) (wy rfl rfl (eb (df hc3))) (y_mv es) (w_val_g (wy rfl rfl (eb (df hc3))) (y_len es Tryz.underlying9) (w_val_g (v := .int .i64 ((n : Nat) : Int)) (wy rfl rfl (eb (df hc3))) (y_mv (ex (.int .i64 ((n : Nat) : Int)) (Eq.trans (b := .int .i64 (((key.length : Nat) : Int) / 2)) rfl (by congr 1; omega)))) (w_val_g (wy rfl rfl (eb (df hc3))) (y_bin ei ei (b_sub om)) (w_val_g (wy rfl rfl (eb (df hc3))) (y_bin ei Ev.c (b_rem om)) (w_val_g (wy rfl rfl (eb (df hc3))) (y_bin ei Ev.c b_neq) (w_val (y_pick_f (eb (df hc3)) eb) (w_mv eb ?_)))))))
  by_cases hc4 : ((((text.length : Nat) : Int) - ((n : Nat) : Int)) % 16) ≠ 0
  ·skip
   with_reducible refine w_skip ?_ ?_
   exact wn rfl rfl (eb (dt hc4))
   with_reducible refine w_skip ?_ ?_
   exact wn rfl rfl (eb (dt hc4))
   with_reducible refine w_skip ?_ ?_
   exact wn rfl rfl (eb (dt hc4))
   with_reducible refine w_skip ?_ ?_
   exact wn rfl rfl (eb (dt hc4))
   with_reducible refine w_skip ?_ ?_
   exact wn rfl rfl (eb (dt hc4))
   refine w_val (y_pick_t (eb (dt hc4)) Ev.c) (nt (c_tt eb (wp_seq ?_)))
   exfalso; omega
  ·skip
   refine w_val_g (v := .string (str text)) (wy rfl rfl (eb (df hc4))) (y_mv es) (w_val_g (wy rfl rfl (eb (df hc4))) (y_len es Tryz.underlying9) (w_val_g (v := .int .i64 ((n : Nat) : Int)) (wy rfl rfl (eb (df hc4))) (y_mv (ex (.int .i64 ((n : Nat) : Int)) (Eq.trans (b := .int .i64 (((key.length : Nat) : Int) / 2)) rfl (by congr 1; omega)))) (w_val_g (wy rfl rfl (eb (df hc4))) (y_bin Ev.c ei (b_add om)) (w_val_g (wy rfl rfl (eb (df hc4))) (y_bin ei ei b_gtr) (w_val (y_pick_f (eb (df hc4)) eb) (nt ?_))))))
   refine c_if (p := (70016 + ((n : Nat) : Int)) < ((text.length : Nat) : Int)) eb (fun hc5 => ?_) (fun hc5 => ?_)
   ·skip
    refine wp_seq ?_
    exfalso; omega
   ·skip
    refine wp_skip (then_n (sr (w_mv es (w_val (y_len es Tryz.underlying9) (w_mv (ex (.int .i64 ((n : Nat) : Int)) (Eq.trans (b := .int .i64 (((key.length : Nat) : Int) / 2)) rfl (by congr 1; omega))) (w_val (y_bin ei ei (b_sub om)) (w_as ei (nt (sr (w_mv es (w_mv es (w_mv es (w_mv es (w_mv (ex (.int .i64 ((m : Nat) : Int)) (Eq.trans (b := .int .i64 (((text.length : Nat) : Int) - ((n : Nat) : Int))) rfl (by congr 1; omega))) (w_val (v := .string (str (text.take m))) (y_sls (ex (.string (str text))) evo.no (evo.s ei) Tryz.underlying9 (bnd_h (h := m) om om)) (w_call (Tryz.func14) kr rfl (m4 es es es es) (chRefTag_y key vi aad n kind hkd hkn hkl hiv ha (text.take m) (by (rw [List.length_take]; omega)) (by (rw [List.length_take]; omega)) w1) ?_))))))))))))))))
    rintro _ w6 ⟨rfl, hb7⟩
    refine ⟨_, rfl, ?_⟩
    replace hk := thenB hk hb7
    refine w_mv (ex (.tuple #[.string (str (Ch.tg kind n key vi aad (text.take m))), .int .i64 0])) (w_val ye (w_val ye (w_as es (w_as ei (nt (wp_seq (region_dc (Nat.testBit 0) 13 ChCT.mixed rfl ?_)))))))
    intro w8 hb9
    replace hk := thenB hk hb9
    have hS : Cls w8 w8 := Below.refl _ _
    refine dp 0 rfl (fun w' => y_mv es) (dp 1 rfl (fun w' => y_mv (ex (.int .i64 ((n : Nat) : Int)) (Eq.trans (b := .int .i64 (((key.length : Nat) : Int) / 2)) rfl (by congr 1; omega)))) (dp (v := .string (str (key.drop n))) 2 rfl (fun w' => y_slf (ex (.string (str key))) (evo.s ei) Tryz.underlying9 (bnd_l (l := n) om om)) (dp 3 rfl (fun w' => y_mv es) (dp 4 rfl (fun w' => y_mv es) (dp 5 rfl (fun w' => y_mv (ex (.int .i64 ((m : Nat) : Int)) (Eq.trans (b := .int .i64 (((text.length : Nat) : Int) - ((n : Nat) : Int))) rfl (by congr 1; omega)))) (dp (v := .string (str (text.take m))) 6 rfl (fun w' => y_sls (ex (.string (str text))) evo.no (evo.s ei) Tryz.underlying9 (bnd_h (h := m) om om)) (d_one 7 kr rfl (w_call (Tryz.func24) kr rfl (m3 es es es) (refOpen_p (key.drop n) vi hok hiv (text.take m) (by rw [List.length_take]; omega) (by rw [List.length_take]; omega) (by rw [List.length_take]; omega) hp w8) ?_))))))))
    rintro _ w10 ⟨rfl, hb11⟩
    refine ⟨_, rfl, ?_⟩
    replace hk := thenB hk hb11
    replace hS := thenB hS hb11
    refine wpList_nil ?_
    refine then_n ⟨fun _ h => thenB h (by assumption), ?_⟩
    refine dp 8 rfl (fun w' => y_mv (ex (.tuple #[.string (str (Ch.op n key vi (text.take m))), .int .i64 0]))) (dp (v := .string (str (Ch.op n key vi (text.take m)))) 9 rfl (fun w' => y_ext (v := .string (str (Ch.op n key vi (text.take m)))) (ex (.tuple #[.string (str (Ch.op n key vi (text.take m))), .int .i64 0])) rfl) (dp (v := .int .i64 0) 10 rfl (fun w' => y_ext (v := .int .i64 0) (ex (.tuple #[.string (str (Ch.op n key vi (text.take m))), .int .i64 0])) rfl) (dp 11 rfl (fun w' => y_as es) (dp 12 rfl (fun w' => y_as ei) (d_done kr ?_)))))
    clear hS
    refine then_n (wp_seq (sr (w_mv es (w_mv es (w_mv (ex (.int .i64 ((m : Nat) : Int)) (Eq.trans (b := .int .i64 (((text.length : Nat) : Int) - ((n : Nat) : Int))) rfl (by congr 1; omega))) (w_val (v := .string (str (text.drop m))) (y_slf (ex (.string (str text))) (evo.s ei) Tryz.underlying9 (bnd_l (l := m) om om)) (w_val (y_bin es es b_nes) (w_mv eb ?_))))))))
    have hc12 : (Ch.tg kind n key vi aad (text.take m)) ≠ (text.drop m) := by exact hb
    with_reducible refine w_skip ?_ ?_
    exact wn rfl rfl (eb (dt hc12))
    with_reducible refine w_skip ?_ ?_
    exact wn rfl rfl (eb (dt hc12))
    refine w_val (y_pick_t (eb (dt hc12)) Ev.c) (nt (c_tt eb (sr (w_as (evc (.string (str ([] : List (BitVec 8))))) (w_as Ev.c (nt (wp_ret (then_r (fin_ret2 rfl es ei ?_)))))))))
    exact ⟨rfl, hk⟩

theorem chRefOpen_q (key vi aad : List (BitVec 8)) (n kind : Nat) (hkd : Sha.Known kind) (hkn : kind = 16 * n) (hkl : key.length = 2 * n) (hiv : vi.length = 16) (ha : aad.length ≤ 70000) (text : List (BitVec 8)) (hl : text.length ≤ 140737488351232) (m : Nat) (hm : text.length = m + n) (h16 : 16 ≤ m) (hm16 : m % 16 = 0) (hz : m ≤ 70016) (hb : ¬ Ch.tg kind n key vi aad (text.take m) = text.drop m) (hp : ¬ Cb.Padded (Ch.un n key vi (text.take m)) 16) (w0 : World) : Calls Tryz.prog 12 #[.string (str key), .string (str vi), .string (str aad), .string (str text)] w0 fun e w' => e = .returned (.tuple #[.string (str ([] : List (BitVec 8))), .int .i64 8]) ∧ Below w0.heap.size w0 w' := by
 have hkd' : kind = 256 ∨ kind = 384 ∨ kind = 512 := hkd
 have hnc := Ch.n_cases kind n hkd hkn
 have hok := Ch.key_ok kind n key hkd hkn hkl
 refine enter (n := 82) Tryz.func12 rfl rfl rfl ?_
 have hk : Below w0.heap.size w0 w0 := Below.refl _ _
 refine sr (w_as (evc (.string (str ([] : List (BitVec 8))))) (w_as Ev.c (nt (wp_seq (sr (w_mv es (w_mv es (w_mv es (w_call (Tryz.func15) kr rfl (m3 es es es) (chRefWrong_y key vi aad n kind hkd hkn hkl hiv ha w0) ?_)))))))))
 rintro _ w1 ⟨rfl, hb2⟩
 refine ⟨_, rfl, ?_⟩
 replace hk := thenB hk hb2
 refine w_as ei (nt (sr (w_mv ei (w_val (y_bin ei Ev.c b_neq) (nt (c_ff eb (wp_skip (then_n (sr (w_mv es (w_val (y_len es Tryz.underlying9) (w_val (y_bin ei Ev.c (b_quo om)) (w_as ei (nt (wp_seq (sr (w_mv es (w_val (y_len es Tryz.underlying9) (w_mv (ex (.int .i64 ((n : Nat) : Int)) (Eq.trans (b := .int .i64 (((key.length : Nat) : Int) / 2)) rfl (by congr 1; omega))) (w_val (y_bin ei Ev.c (b_add om)) (w_val (y_bin ei ei b_lss) (w_mv eb ?_))))))))))))))))))))))
 by_cases hc3 : ((text.length : Nat) : Int) < (((n : Nat) : Int) + 16)
 ·skip
  with_reducible refine w_skip ?_ ?_
  exact wn rfl rfl (eb (dt hc3))
  with_reducible refine w_skip ?_ ?_
  exact wn rfl rfl (eb (dt hc3))
  with_reducible refine w_skip ?_ ?_
  exact wn rfl rfl (eb (dt hc3))
  with_reducible refine w_skip ?_ ?_
  exact wn rfl rfl (eb (dt hc3))
  with_reducible refine w_skip ?_ ?_
  exact wn rfl rfl (eb (dt hc3))
  with_reducible refine w_skip ?_ ?_
  exact wn rfl rfl (eb (dt hc3))
  refine w_val (y_pick_t (eb (dt hc3)) Ev.c) (w_mv eb ?_)
  with_reducible refine w_skip ?_ ?_
  exact wn rfl rfl eb
  with_reducible refine w_skip ?_ ?_
  exact wn rfl rfl eb
  with_reducible refine w_skip ?_ ?_
  exact wn rfl rfl eb
  with_reducible refine w_skip ?_ ?_
  exact wn rfl rfl eb
  with_reducible refine w_skip ?_ ?_
  exact wn rfl rfl eb
  refine w_val (y_pick_t eb Ev.c) (nt (c_tt eb (wp_seq ?_)))
  exfalso; omega
 ·skip
  refine w_val_g (v := .string (str text)) (wy rfl rfl (eb (df hc3))) (y_mv es) (w_val_g (wy rfl rfl (eb (df hc3))) (y_len es Tryz.underlying9) (w_val_g (v := .int .i64 ((n : Nat) : Int)) (wy rfl rfl (eb (df hc3))) (y_mv (ex (.int .i64 ((n : Nat) : Int)) (Eq.trans (b := .int .i64 (((key.length : Nat) : Int) / 2)) rfl (by congr 1; omega)))) (w_val_g (wy rfl rfl (eb (df hc3))) (y_bin ei ei (b_sub om)) (w_val_g (wy rfl rfl (eb (df hc3))) (y_bin ei Ev.c (b_rem om)) (w_val_g (wy rfl rfl (eb (df hc3))) (y_bin ei Ev.c b_neq) (w_val (y_pick_f (eb (df hc3)) eb) (w_mv eb ?_)))))))
  by_cases hc4 : ((((text.length : Nat) : Int) - ((n : Nat) : Int)) % 16) ≠ 0
  ·skip
   with_reducible refine w_skip ?_ ?_
   exact wn rfl rfl (eb (dt hc4))
   with_reducible refine w_skip ?_ ?_
   exact wn rfl rfl (eb (dt hc4))
   with_reducible refine w_skip ?_ ?_
   exact wn rfl rfl (eb (dt hc4))
   with_reducible refine w_skip ?_ ?_
   exact wn rfl rfl (eb (dt hc4))
   with_reducible refine w_skip ?_ ?_
   exact wn rfl rfl (eb (dt hc4))
   refine w_val (y_pick_t (eb (dt hc4)) Ev.c) (nt (c_tt eb (wp_seq ?_)))
   exfalso; omega
  ·skip
   refine w_val_g (v := .string (str text)) (wy rfl rfl (eb (df hc4))) (y_mv es) (w_val_g (wy rfl rfl (eb (df hc4))) (y_len es Tryz.underlying9) (w_val_g (v := .int .i64 ((n : Nat) : Int)) (wy rfl rfl (eb (df hc4))) (y_mv (ex (.int .i64 ((n : Nat) : Int)) (Eq.trans (b := .int .i64 (((key.length : Nat) : Int) / 2)) rfl (by congr 1; omega)))) (w_val_g (wy rfl rfl (eb (df hc4))) (y_bin Ev.c ei (b_add om)) (w_val_g (wy rfl rfl (eb (df hc4))) (y_bin ei ei b_gtr) (w_val (y_pick_f (eb (df hc4)) eb) (nt ?_))))))
   refine c_if (p := (70016 + ((n : Nat) : Int)) < ((text.length : Nat) : Int)) eb (fun hc5 => ?_) (fun hc5 => ?_)
   ·skip
    refine wp_seq ?_
    exfalso; omega
   ·skip
    refine wp_skip (then_n (sr (w_mv es (w_val (y_len es Tryz.underlying9) (w_mv (ex (.int .i64 ((n : Nat) : Int)) (Eq.trans (b := .int .i64 (((key.length : Nat) : Int) / 2)) rfl (by congr 1; omega))) (w_val (y_bin ei ei (b_sub om)) (w_as ei (nt (sr (w_mv es (w_mv es (w_mv es (w_mv es (w_mv (ex (.int .i64 ((m : Nat) : Int)) (Eq.trans (b := .int .i64 (((text.length : Nat) : Int) - ((n : Nat) : Int))) rfl (by congr 1; omega))) (w_val (v := .string (str (text.take m))) (y_sls (ex (.string (str text))) evo.no (evo.s ei) Tryz.underlying9 (bnd_h (h := m) om om)) (w_call (Tryz.func14) kr rfl (m4 es es es es) (chRefTag_y key vi aad n kind hkd hkn hkl hiv ha (text.take m) (by (rw [List.length_take]; omega)) (by (rw [List.length_take]; omega)) w1) ?_))))))))))))))))
    rintro _ w6 ⟨rfl, hb7⟩
    refine ⟨_, rfl, ?_⟩
    replace hk := thenB hk hb7
    refine w_mv (ex (.tuple #[.string (str (Ch.tg kind n key vi aad (text.take m))), .int .i64 0])) (w_val ye (w_val ye (w_as es (w_as ei (nt (wp_seq (region_dc (Nat.testBit 0) 13 ChCT.mixed rfl ?_)))))))
    intro w8 hb9
    replace hk := thenB hk hb9
    have hS : Cls w8 w8 := Below.refl _ _
    refine dp 0 rfl (fun w' => y_mv es) (dp 1 rfl (fun w' => y_mv (ex (.int .i64 ((n : Nat) : Int)) (Eq.trans (b := .int .i64 (((key.length : Nat) : Int) / 2)) rfl (by congr 1; omega)))) (dp (v := .string (str (key.drop n))) 2 rfl (fun w' => y_slf (ex (.string (str key))) (evo.s ei) Tryz.underlying9 (bnd_l (l := n) om om)) (dp 3 rfl (fun w' => y_mv es) (dp 4 rfl (fun w' => y_mv es) (dp 5 rfl (fun w' => y_mv (ex (.int .i64 ((m : Nat) : Int)) (Eq.trans (b := .int .i64 (((text.length : Nat) : Int) - ((n : Nat) : Int))) rfl (by congr 1; omega)))) (dp (v := .string (str (text.take m))) 6 rfl (fun w' => y_sls (ex (.string (str text))) evo.no (evo.s ei) Tryz.underlying9 (bnd_h (h := m) om om)) (d_one 7 kr rfl (w_call (Tryz.func24) kr rfl (m3 es es es) (refOpen_n (key.drop n) vi hok hiv (text.take m) (by rw [List.length_take]; omega) (by rw [List.length_take]; omega) (by rw [List.length_take]; omega) hp w8) ?_))))))))
    rintro _ w10 ⟨rfl, hb11⟩
    refine ⟨_, rfl, ?_⟩
    replace hk := thenB hk hb11
    replace hS := thenB hS hb11
    refine wpList_nil ?_
    refine then_n ⟨fun _ h => thenB h (by assumption), ?_⟩
    refine dp 8 rfl (fun w' => y_mv (ex (.tuple #[.string (str ([] : List (BitVec 8))), .int .i64 7]))) (dp (v := .string (str ([] : List (BitVec 8)))) 9 rfl (fun w' => y_ext (v := .string (str ([] : List (BitVec 8)))) (ex (.tuple #[.string (str ([] : List (BitVec 8))), .int .i64 7])) rfl) (dp (v := .int .i64 7) 10 rfl (fun w' => y_ext (v := .int .i64 7) (ex (.tuple #[.string (str ([] : List (BitVec 8))), .int .i64 7])) rfl) (dp 11 rfl (fun w' => y_as es) (dp 12 rfl (fun w' => y_as ei) (d_done kr ?_)))))
    clear hS
    refine then_n (wp_seq (sr (w_mv es (w_mv es (w_mv (ex (.int .i64 ((m : Nat) : Int)) (Eq.trans (b := .int .i64 (((text.length : Nat) : Int) - ((n : Nat) : Int))) rfl (by congr 1; omega))) (w_val (v := .string (str (text.drop m))) (y_slf (ex (.string (str text))) (evo.s ei) Tryz.underlying9 (bnd_l (l := m) om om)) (w_val (y_bin es es b_nes) (w_mv eb ?_))))))))
    have hc12 : (Ch.tg kind n key vi aad (text.take m)) ≠ (text.drop m) := by exact hb
    with_reducible refine w_skip ?_ ?_
    exact wn rfl rfl (eb (dt hc12))
    with_reducible refine w_skip ?_ ?_
    exact wn rfl rfl (eb (dt hc12))
    refine w_val (y_pick_t (eb (dt hc12)) Ev.c) (nt (c_tt eb (sr (w_as (evc (.string (str ([] : List (BitVec 8))))) (w_as Ev.c (nt (wp_ret (then_r (fin_ret2 rfl es ei ?_)))))))))
    exact ⟨rfl, hk⟩

theorem chRefOpen_n (key vi aad : List (BitVec 8)) (n kind : Nat) (hkd : Sha.Known kind) (hkn : kind = 16 * n) (hkl : key.length = 2 * n) (hiv : vi.length = 16) (ha : aad.length ≤ 70000) (text : List (BitVec 8)) (hl : text.length ≤ 140737488351232) (m : Nat) (hm : text.length = m + n) (h16 : 16 ≤ m) (hm16 : m % 16 = 0) (hz : m ≤ 70016) (hb : Ch.tg kind n key vi aad (text.take m) = text.drop m) (hp : ¬ Cb.Padded (Ch.un n key vi (text.take m)) 16) (w0 : World) : Calls Tryz.prog 12 #[.string (str key), .string (str vi), .string (str aad), .string (str text)] w0 fun e w' => e = .returned (.tuple #[.string (str ([] : List (BitVec 8))), .int .i64 8]) ∧ Below w0.heap.size w0 w' := by
 have hkd' : kind = 256 ∨ kind = 384 ∨ kind = 512 := hkd
 have hnc := Ch.n_cases kind n hkd hkn
 have hok := Ch.key_ok kind n key hkd hkn hkl
 refine enter (n := 82) Tryz.func12 rfl rfl rfl ?_
 have hk : Below w0.heap.size w0 w0 := Below.refl _ _
 refine sr (w_as (evc (.string (str ([] : List (BitVec 8))))) (w_as Ev.c (nt (wp_seq (sr (w_mv es (w_mv es (w_mv es (w_call (Tryz.func15) kr rfl (m3 es es es) (chRefWrong_y key vi aad n kind hkd hkn hkl hiv ha w0) ?_)))))))))
 rintro _ w1 ⟨rfl, hb2⟩
 refine ⟨_, rfl, ?_⟩
 replace hk := thenB hk hb2
 refine w_as ei (nt (sr (w_mv ei (w_val (y_bin ei Ev.c b_neq) (nt (c_ff eb (wp_skip (then_n (sr (w_mv es (w_val (y_len es Tryz.underlying9) (w_val (y_bin ei Ev.c (b_quo om)) (w_as ei (nt (wp_seq (sr (w_mv es (w_val (y_len es Tryz.underlying9) (w_mv (ex (.int .i64 ((n : Nat) : Int)) (Eq.trans (b := .int .i64 (((key.length : Nat) : Int) / 2)) rfl (by congr 1; omega))) (w_val (y_bin ei Ev.c (b_add om)) (w_val (y_bin ei ei b_lss) (w_mv eb ?_))))))))))))))))))))))
 by_cases hc3 : ((text.length : Nat) : Int) < (((n : Nat) : Int) + 16)
 ·skip
  with_reducible refine w_skip ?_ ?_
  exact wn rfl rfl (eb (dt hc3))
  with_reducible refine w_skip ?_ ?_
  exact wn rfl rfl (eb (dt hc3))
  with_reducible refine w_skip ?_ ?_
  exact wn rfl rfl (eb (dt hc3))
  with_reducible refine w_skip ?_ ?_
  exact wn rfl rfl (eb (dt hc3))
  with_reducible refine w_skip ?_ ?_
  exact wn rfl rfl (eb (dt hc3))
  with_reducible refine w_skip ?_ ?_
  exact wn rfl rfl (eb (dt hc3))
  refine w_val (y_pick_t (eb (dt hc3)) Ev.c) (w_mv eb ?_)
  with_reducible refine w_skip ?_ ?_
  exact wn rfl rfl eb
  with_reducible refine w_skip ?_ ?_
  exact wn rfl rfl eb
  with_reducible refine w_skip ?_ ?_
  exact wn rfl rfl eb
  with_reducible refine w_skip ?_ ?_
  exact wn rfl rfl eb
  with_reducible refine w_skip ?_ ?_
  exact wn rfl rfl eb
  refine w_val (y_pick_t eb Ev.c) (nt (c_tt eb (wp_seq ?_)))
  exfalso; omega
 ·skip
  refine w_val_g (v := .string (str text)) (wy rfl rfl (eb (df hc3))) (y_mv es) (w_val_g (wy rfl rfl (eb (df hc3))) (y_len es Tryz.underlying9) (w_val_g (v := .int .i64 ((n : Nat) : Int)) (wy rfl rfl (eb (df hc3))) (y_mv (ex (.int .i64 ((n : Nat) : Int)) (Eq.trans (b := .int .i64 (((key.length : Nat) : Int) / 2)) rfl (by congr 1; omega)))) (w_val_g (wy rfl rfl (eb (df hc3))) (y_bin ei ei (b_sub om)) (w_val_g (wy rfl rfl (eb (df hc3))) (y_bin ei Ev.c (b_rem om)) (w_val_g (wy rfl rfl (eb (df hc3))) (y_bin ei Ev.c b_neq) (w_val (y_pick_f (eb (df hc3)) eb) (w_mv eb ?_)))))))
  by_cases hc4 : ((((text.length : Nat) : Int) - ((n : Nat) : Int)) % 16) ≠ 0
  ·skip
   with_reducible refine w_skip ?_ ?_
   exact wn rfl rfl (eb (dt hc4))
   with_reducible refine w_skip ?_ ?_
   exact wn rfl rfl (eb (dt hc4))
   with_reducible refine w_skip ?_ ?_
   exact wn rfl rfl (eb (dt hc4))
   with_reducible refine w_skip ?_ ?_
   exact wn rfl rfl (eb (dt hc4))
   with_reducible refine w_skip ?_ ?_
   exact wn rfl rfl (eb (dt hc4))
   refine w_val (y_pick_t (eb (dt hc4)) Ev.c) (nt (c_tt eb (wp_seq ?_)))
   exfalso; omega
  ·skip
   refine w_val_g (v := .string (str text)) (wy rfl rfl (eb (df hc4))) (y_mv es) (w_val_g (wy rfl rfl (eb (df hc4))) (y_len es Tryz.underlying9) (w_val_g (v := .int .i64 ((n : Nat) : Int)) (wy rfl rfl (eb (df hc4))) (y_mv (ex (.int .i64 ((n : Nat) : Int)) (Eq.trans (b := .int .i64 (((key.length : Nat) : Int) / 2)) rfl (by congr 1; omega)))) (w_val_g (wy rfl rfl (eb (df hc4))) (y_bin Ev.c ei (b_add om)) (w_val_g (wy rfl rfl (eb (df hc4))) (y_bin ei ei b_gtr) (w_val (y_pick_f (eb (df hc4)) eb) (nt ?_))))))
   refine c_if (p := (70016 + ((n : Nat) : Int)) < ((text.length : Nat) : Int)) eb (fun hc5 => ?_) (fun hc5 => ?_)
   ·skip
    refine wp_seq ?_
    exfalso; omega
   ·skip
    refine wp_skip (then_n (sr (w_mv es (w_val (y_len es Tryz.underlying9) (w_mv (ex (.int .i64 ((n : Nat) : Int)) (Eq.trans (b := .int .i64 (((key.length : Nat) : Int) / 2)) rfl (by congr 1; omega))) (w_val (y_bin ei ei (b_sub om)) (w_as ei (nt (sr (w_mv es (w_mv es (w_mv es (w_mv es (w_mv (ex (.int .i64 ((m : Nat) : Int)) (Eq.trans (b := .int .i64 (((text.length : Nat) : Int) - ((n : Nat) : Int))) rfl (by congr 1; omega))) (w_val (v := .string (str (text.take m))) (y_sls (ex (.string (str text))) evo.no (evo.s ei) Tryz.underlying9 (bnd_h (h := m) om om)) (w_call (Tryz.func14) kr rfl (m4 es es es es) (chRefTag_y key vi aad n kind hkd hkn hkl hiv ha (text.take m) (by (rw [List.length_take]; omega)) (by (rw [List.length_take]; omega)) w1) ?_))))))))))))))))
    rintro _ w6 ⟨rfl, hb7⟩
    refine ⟨_, rfl, ?_⟩
    replace hk := thenB hk hb7
    refine w_mv (ex (.tuple #[.string (str (Ch.tg kind n key vi aad (text.take m))), .int .i64 0])) (w_val ye (w_val ye (w_as es (w_as ei (nt (wp_seq (region_dc (Nat.testBit 0) 13 ChCT.mixed rfl ?_)))))))
    intro w8 hb9
    replace hk := thenB hk hb9
    have hS : Cls w8 w8 := Below.refl _ _
    refine dp 0 rfl (fun w' => y_mv es) (dp 1 rfl (fun w' => y_mv (ex (.int .i64 ((n : Nat) : Int)) (Eq.trans (b := .int .i64 (((key.length : Nat) : Int) / 2)) rfl (by congr 1; omega)))) (dp (v := .string (str (key.drop n))) 2 rfl (fun w' => y_slf (ex (.string (str key))) (evo.s ei) Tryz.underlying9 (bnd_l (l := n) om om)) (dp 3 rfl (fun w' => y_mv es) (dp 4 rfl (fun w' => y_mv es) (dp 5 rfl (fun w' => y_mv (ex (.int .i64 ((m : Nat) : Int)) (Eq.trans (b := .int .i64 (((text.length : Nat) : Int) - ((n : Nat) : Int))) rfl (by congr 1; omega)))) (dp (v := .string (str (text.take m))) 6 rfl (fun w' => y_sls (ex (.string (str text))) evo.no (evo.s ei) Tryz.underlying9 (bnd_h (h := m) om om)) (d_one 7 kr rfl (w_call (Tryz.func24) kr rfl (m3 es es es) (refOpen_n (key.drop n) vi hok hiv (text.take m) (by rw [List.length_take]; omega) (by rw [List.length_take]; omega) (by rw [List.length_take]; omega) hp w8) ?_))))))))
    rintro _ w10 ⟨rfl, hb11⟩
    refine ⟨_, rfl, ?_⟩
    replace hk := thenB hk hb11
    replace hS := thenB hS hb11
    refine wpList_nil ?_
    refine then_n ⟨fun _ h => thenB h (by assumption), ?_⟩
    refine dp 8 rfl (fun w' => y_mv (ex (.tuple #[.string (str ([] : List (BitVec 8))), .int .i64 7]))) (dp (v := .string (str ([] : List (BitVec 8)))) 9 rfl (fun w' => y_ext (v := .string (str ([] : List (BitVec 8)))) (ex (.tuple #[.string (str ([] : List (BitVec 8))), .int .i64 7])) rfl) (dp (v := .int .i64 7) 10 rfl (fun w' => y_ext (v := .int .i64 7) (ex (.tuple #[.string (str ([] : List (BitVec 8))), .int .i64 7])) rfl) (dp 11 rfl (fun w' => y_as es) (dp 12 rfl (fun w' => y_as ei) (d_done kr ?_)))))
    clear hS
    refine then_n (wp_seq (sr (w_mv es (w_mv es (w_mv (ex (.int .i64 ((m : Nat) : Int)) (Eq.trans (b := .int .i64 (((text.length : Nat) : Int) - ((n : Nat) : Int))) rfl (by congr 1; omega))) (w_val (v := .string (str (text.drop m))) (y_slf (ex (.string (str text))) (evo.s ei) Tryz.underlying9 (bnd_l (l := m) om om)) (w_val (y_bin es es b_nes) (w_mv eb ?_))))))))
    have hc12 : ¬ ((Ch.tg kind n key vi aad (text.take m)) ≠ (text.drop m)) := by exact fun h => h hb
    refine w_val_g (v := .int .i64 7) (wy rfl rfl (eb (df hc12))) (y_mv ei) (w_val_g (wy rfl rfl (eb (df hc12))) (y_bin ei Ev.c b_neq) (w_val (y_pick_f (eb (df hc12)) eb) (nt (c_tt eb (sr (w_as (evc (.string (str ([] : List (BitVec 8))))) (w_as Ev.c (nt (wp_ret (then_r (fin_ret2 rfl es ei ?_)))))))))))
    exact ⟨rfl, hk⟩

theorem chRefOpen_y (key vi aad : List (BitVec 8)) (n kind : Nat) (hkd : Sha.Known kind) (hkn : kind = 16 * n) (hkl : key.length = 2 * n) (hiv : vi.length = 16) (ha : aad.length ≤ 70000) (text : List (BitVec 8)) (hl : text.length ≤ 140737488351232) (m : Nat) (hm : text.length = m + n) (h16 : 16 ≤ m) (hm16 : m % 16 = 0) (hz : m ≤ 70016) (hb : Ch.tg kind n key vi aad (text.take m) = text.drop m) (hp : Cb.Padded (Ch.un n key vi (text.take m)) 16) (w0 : World) : Calls Tryz.prog 12 #[.string (str key), .string (str vi), .string (str aad), .string (str text)] w0 fun e w' => e = .returned (.tuple #[.string (str (Ch.op n key vi (text.take m))), .int .i64 0]) ∧ Below w0.heap.size w0 w' := by
 have hkd' : kind = 256 ∨ kind = 384 ∨ kind = 512 := hkd
 have hnc := Ch.n_cases kind n hkd hkn
 have hok := Ch.key_ok kind n key hkd hkn hkl
 refine enter (n := 82) Tryz.func12 rfl rfl rfl ?_
 have hk : Below w0.heap.size w0 w0 := Below.refl _ _
 refine sr (w_as (evc (.string (str ([] : List (BitVec 8))))) (w_as Ev.c (nt (wp_seq (sr (w_mv es (w_mv es (w_mv es (w_call (Tryz.func15) kr rfl (m3 es es es) (chRefWrong_y key vi aad n kind hkd hkn hkl hiv ha w0) ?_)))))))))
 rintro _ w1 ⟨rfl, hb2⟩
 refine ⟨_, rfl, ?_⟩
 replace hk := thenB hk hb2
 refine w_as ei (nt (sr (w_mv ei (w_val (y_bin ei Ev.c b_neq) (nt (c_ff eb (wp_skip (then_n (sr (w_mv es (w_val (y_len es Tryz.underlying9) (w_val (y_bin ei Ev.c (b_quo om)) (w_as ei (nt (wp_seq (sr (w_mv es (w_val (y_len es Tryz.underlying9) (w_mv (ex (.int .i64 ((n : Nat) : Int)) (Eq.trans (b := .int .i64 (((key.length : Nat) : Int) / 2)) rfl (by congr 1; omega))) (w_val (y_bin ei Ev.c (b_add om)) (w_val (y_bin ei ei b_lss) (w_mv eb ?_))))))))))))))))))))))
 by_cases hc3 : ((text.length : Nat) : Int) < (((n : Nat) : Int) + 16)
 ·skip
  with_reducible refine w_skip ?_ ?_
  exact wn rfl rfl (eb (dt hc3))
  with_reducible refine w_skip ?_ ?_
  exact wn rfl rfl (eb (dt hc3))
  with_reducible refine w_skip ?_ ?_
  exact wn rfl rfl (eb (dt hc3))
  with_reducible refine w_skip ?_ ?_
  exact wn rfl rfl (eb (dt hc3))
  with_reducible refine w_skip ?_ ?_
  exact wn rfl rfl (eb (dt hc3))
  with_reducible refine w_skip ?_ ?_
  exact wn rfl rfl (eb (dt hc3))
  refine w_val (y_pick_t (eb (dt hc3)) Ev.c) (w_mv eb ?_)
  with_reducible refine w_skip ?_ ?_
  exact wn rfl rfl eb
  with_reducible refine w_skip ?_ ?_
  exact wn rfl rfl eb
  with_reducible refine w_skip ?_ ?_
  exact wn rfl rfl eb
  with_reducible refine w_skip ?_ ?_
  exact wn rfl rfl eb
  with_reducible refine w_skip ?_ ?_
  exact wn rfl rfl eb
  refine w_val (y_pick_t eb Ev.c) (nt (c_tt eb (wp_seq ?_)))
  exfalso; omega
 ·skip
  refine w_val_g (v := .string (str text)) (wy rfl rfl (eb (df hc3))) (y_mv es) (w_val_g (wy rfl rfl (eb (df hc3))) (y_len es Tryz.underlying9) (w_val_g (v := .int .i64 ((n : Nat) : Int)) (wy rfl rfl (eb (df hc3))) (y_mv (ex (.int .i64 ((n : Nat) : Int)) (Eq.trans (b := .int .i64 (((key.length : Nat) : Int) / 2)) rfl (by congr 1; omega)))) (w_val_g (wy rfl rfl (eb (df hc3))) (y_bin ei ei (b_sub om)) (w_val_g (wy rfl rfl (eb (df hc3))) (y_bin ei Ev.c (b_rem om)) (w_val_g (wy rfl rfl (eb (df hc3))) (y_bin ei Ev.c b_neq) (w_val (y_pick_f (eb (df hc3)) eb) (w_mv eb ?_)))))))
  by_cases hc4 : ((((text.length : Nat) : Int) - ((n : Nat) : Int)) % 16) ≠ 0
  ·skip
   with_reducible refine w_skip ?_ ?_
   exact wn rfl rfl (eb (dt hc4))
   with_reducible refine w_skip ?_ ?_
   exact wn rfl rfl (eb (dt hc4))
   with_reducible refine w_skip ?_ ?_
   exact wn rfl rfl (eb (dt hc4))
   with_reducible refine w_skip ?_ ?_
   exact wn rfl rfl (eb (dt hc4))
   with_reducible refine w_skip ?_ ?_
   exact wn rfl rfl (eb (dt hc4))
   refine w_val (y_pick_t (eb (dt hc4)) Ev.c) (nt (c_tt eb (wp_seq ?_)))
   exfalso; omega
  ·skip
   refine w_val_g (v := .string (str text)) (wy rfl rfl (eb (df hc4))) (y_mv es) (w_val_g (wy rfl rfl (eb (df hc4))) (y_len es Tryz.underlying9) (w_val_g (v := .int .i64 ((n : Nat) : Int)) (wy rfl rfl (eb (df hc4))) (y_mv (ex (.int .i64 ((n : Nat) : Int)) (Eq.trans (b := .int .i64 (((key.length : Nat) : Int) / 2)) rfl (by congr 1; omega)))) (w_val_g (wy rfl rfl (eb (df hc4))) (y_bin Ev.c ei (b_add om)) (w_val_g (wy rfl rfl (eb (df hc4))) (y_bin ei ei b_gtr) (w_val (y_pick_f (eb (df hc4)) eb) (nt ?_))))))
   refine c_if (p := (70016 + ((n : Nat) : Int)) < ((text.length : Nat) : Int)) eb (fun hc5 => ?_) (fun hc5 => ?_)
   ·skip
    refine wp_seq ?_
    exfalso; omega
   ·skip
    refine wp_skip (then_n (sr (w_mv es (w_val (y_len es Tryz.underlying9) (w_mv (ex (.int .i64 ((n : Nat) : Int)) (Eq.trans (b := .int .i64 (((key.length : Nat) : Int) / 2)) rfl (by congr 1; omega))) (w_val (y_bin ei ei (b_sub om)) (w_as ei (nt (sr (w_mv es (w_mv es (w_mv es (w_mv es (w_mv (ex (.int .i64 ((m : Nat) : Int)) (Eq.trans (b := .int .i64 (((text.length : Nat) : Int) - ((n : Nat) : Int))) rfl (by congr 1; omega))) (w_val (v := .string (str (text.take m))) (y_sls (ex (.string (str text))) evo.no (evo.s ei) Tryz.underlying9 (bnd_h (h := m) om om)) (w_call (Tryz.func14) kr rfl (m4 es es es es) (chRefTag_y key vi aad n kind hkd hkn hkl hiv ha (text.take m) (by (rw [List.length_take]; omega)) (by (rw [List.length_take]; omega)) w1) ?_))))))))))))))))
    rintro _ w6 ⟨rfl, hb7⟩
    refine ⟨_, rfl, ?_⟩
    replace hk := thenB hk hb7
    refine w_mv (ex (.tuple #[.string (str (Ch.tg kind n key vi aad (text.take m))), .int .i64 0])) (w_val ye (w_val ye (w_as es (w_as ei (nt (wp_seq (region_dc (Nat.testBit 0) 13 ChCT.mixed rfl ?_)))))))
    intro w8 hb9
    replace hk := thenB hk hb9
    have hS : Cls w8 w8 := Below.refl _ _
    refine dp 0 rfl (fun w' => y_mv es) (dp 1 rfl (fun w' => y_mv (ex (.int .i64 ((n : Nat) : Int)) (Eq.trans (b := .int .i64 (((key.length : Nat) : Int) / 2)) rfl (by congr 1; omega)))) (dp (v := .string (str (key.drop n))) 2 rfl (fun w' => y_slf (ex (.string (str key))) (evo.s ei) Tryz.underlying9 (bnd_l (l := n) om om)) (dp 3 rfl (fun w' => y_mv es) (dp 4 rfl (fun w' => y_mv es) (dp 5 rfl (fun w' => y_mv (ex (.int .i64 ((m : Nat) : Int)) (Eq.trans (b := .int .i64 (((text.length : Nat) : Int) - ((n : Nat) : Int))) rfl (by congr 1; omega)))) (dp (v := .string (str (text.take m))) 6 rfl (fun w' => y_sls (ex (.string (str text))) evo.no (evo.s ei) Tryz.underlying9 (bnd_h (h := m) om om)) (d_one 7 kr rfl (w_call (Tryz.func24) kr rfl (m3 es es es) (refOpen_p (key.drop n) vi hok hiv (text.take m) (by rw [List.length_take]; omega) (by rw [List.length_take]; omega) (by rw [List.length_take]; omega) hp w8) ?_))))))))
    rintro _ w10 ⟨rfl, hb11⟩
    refine ⟨_, rfl, ?_⟩
    replace hk := thenB hk hb11
    replace hS := thenB hS hb11
    refine wpList_nil ?_
    refine then_n ⟨fun _ h => thenB h (by assumption), ?_⟩
    refine dp 8 rfl (fun w' => y_mv (ex (.tuple #[.string (str (Ch.op n key vi (text.take m))), .int .i64 0]))) (dp (v := .string (str (Ch.op n key vi (text.take m)))) 9 rfl (fun w' => y_ext (v := .string (str (Ch.op n key vi (text.take m)))) (ex (.tuple #[.string (str (Ch.op n key vi (text.take m))), .int .i64 0])) rfl) (dp (v := .int .i64 0) 10 rfl (fun w' => y_ext (v := .int .i64 0) (ex (.tuple #[.string (str (Ch.op n key vi (text.take m))), .int .i64 0])) rfl) (dp 11 rfl (fun w' => y_as es) (dp 12 rfl (fun w' => y_as ei) (d_done kr ?_)))))
    clear hS
    refine then_n (wp_seq (sr (w_mv es (w_mv es (w_mv (ex (.int .i64 ((m : Nat) : Int)) (Eq.trans (b := .int .i64 (((text.length : Nat) : Int) - ((n : Nat) : Int))) rfl (by congr 1; omega))) (w_val (v := .string (str (text.drop m))) (y_slf (ex (.string (str text))) (evo.s ei) Tryz.underlying9 (bnd_l (l := m) om om)) (w_val (y_bin es es b_nes) (w_mv eb ?_))))))))
    have hc12 : ¬ ((Ch.tg kind n key vi aad (text.take m)) ≠ (text.drop m)) := by exact fun h => h hb
    refine w_val_g (v := .int .i64 0) (wy rfl rfl (eb (df hc12))) (y_mv ei) (w_val_g (wy rfl rfl (eb (df hc12))) (y_bin ei Ev.c b_neq) (w_val (y_pick_f (eb (df hc12)) eb) (nt (c_ff eb (wp_skip (then_n (sr (w_mv es (w_as es (w_as Ev.c (nt (wp_ret (fin_ret2 rfl es ei ?_)))))))))))))
    exact ⟨rfl, hk⟩

theorem chRefOpen_b (key vi aad : List (BitVec 8)) (n kind : Nat) (hkd : Sha.Known kind) (hkn : kind = 16 * n) (hkl : key.length = 2 * n) (hiv : vi.length = 16) (ha : aad.length ≤ 70000) (text : List (BitVec 8)) (hl : text.length ≤ 140737488351232) (m : Nat) (hm : text.length = m + n) (h16 : 16 ≤ m) (hm16 : m % 16 = 0) (hz : m ≤ 70016) (hb : ¬ Ch.tg kind n key vi aad (text.take m) = text.drop m) (w : World) : Calls Tryz.prog 12 #[.string (str key), .string (str vi), .string (str aad), .string (str text)] w fun e w' => e = .returned (.tuple #[.string (str ([] : List (BitVec 8))), .int .i64 8]) ∧ Below w.heap.size w w' := by
  by_cases hp : Cb.Padded (Ch.un n key vi (text.take m)) 16
  · exact chRefOpen_p key vi aad n kind hkd hkn hkl hiv ha text hl m hm h16 hm16 hz hb hp w
  · exact chRefOpen_q key vi aad n kind hkd hkn hkl hiv ha text hl m hm h16 hm16 hz hb hp w
end Go.Proofs.YtepogbfkmflooaaGreatDoor
