/-
  Runs: what the program's inner functions compute. Conditions as each says.
-/
import Derived.Test.YtkjdejadambffaaDoorRows
import Derived.Test.YtkjdejadambffaaDoorGen
import Derived.Test.YtkjdejadambffaaDoorGhB
import Derived.Test.YtkjdejadambffaaDoorCtrC
import Derived.Test.YtkjdejadambffaaDoorAesBase
import Derived.Test.YtkjdejadambffaaDoorOctW
import Derived.Test.YtkjdejadambffaaDoorGcmPlain
import Derived.Test.YtkjdejadambffaaDoorRep
import Derived.ProofKit
namespace Go.Proofs.YtkjdejadambffaaDoor
open Go.RowKit
set_option linter.unusedSimpArgs false
set_option linter.unusedVariables false
set_option maxRecDepth 100000
set_option maxHeartbeats 1000000
namespace GcmAT
theorem mixed : Tryd.prog.follows .mixedOrders = true := by kernel_rfl
theorem fa55_0 (g off : Nat) : ∀ w, (Instr.fieldAt 55 (.pointer (some ⟨g, off, none⟩)) 0).run Tryd.prog w = .ok (.pointer (some ⟨g, off + 0, none⟩)) w := fun w => by kernel_rfl
theorem fa55_1 (g off : Nat) : ∀ w, (Instr.fieldAt 55 (.pointer (some ⟨g, off, none⟩)) 1).run Tryd.prog w = .ok (.pointer (some ⟨g, off + 1, none⟩)) w := fun w => by kernel_rfl
theorem fa55_2 (g off : Nat) : ∀ w, (Instr.fieldAt 55 (.pointer (some ⟨g, off, none⟩)) 2).run Tryd.prog w = .ok (.pointer (some ⟨g, off + 2, none⟩)) w := fun w => by kernel_rfl
theorem fa57_0 (g off : Nat) : ∀ w, (Instr.fieldAt 57 (.pointer (some ⟨g, off, none⟩)) 0).run Tryd.prog w = .ok (.pointer (some ⟨g, off + 0, none⟩)) w := fun w => by kernel_rfl
theorem fa57_1 (g off : Nat) : ∀ w, (Instr.fieldAt 57 (.pointer (some ⟨g, off, none⟩)) 1).run Tryd.prog w = .ok (.pointer (some ⟨g, off + 3, none⟩)) w := fun w => by kernel_rfl
theorem sc51 : (Tryd.prog.underlying 51).map scal = some true := by rw [Tryd.underlying51]; rfl
theorem sc9 : (Tryd.prog.underlying 9).map scal = some true := by rw [Tryd.underlying9]; rfl
theorem so3 : (Tryd.prog.underlying 3).isSome = true := by rw [Tryd.underlying3]; rfl
theorem sz9 : (Tryd.prog.info? 9).map (·.size) = some 1 := by kernel_rfl
end GcmAT
theorem gmFilled (s : List (BitVec 8)) (hs : s.length ≤ 1000000) (w0 : World) : Calls Tryd.prog 35 #[.string (str s)] w0 fun e w' => e = .returned (.string (str (Cb.z s))) ∧ Below w0.heap.size w0 w' := by
 refine enter (n := 11) Tryd.func35 rfl rfl rfl ?_
 have hk : Below w0.heap.size w0 w0 := Below.refl _ _
 refine sr ?_
 refine w_as (evc (.string (str ([] : List (BitVec 8))))) ?_
 refine nt ?_
 refine sr ?_
 refine w_mv es ?_
 refine w_mv es ?_
 refine w_val (y_len es Tryd.underlying9) ?_
 refine w_val (y_bin ei Ev.c (b_rem (by omega))) ?_
 refine w_val (y_bin Ev.c ei (b_sub (by omega))) ?_
 refine w_val (y_bin ei Ev.c (b_rem (by omega))) ?_
 refine w_call (Tryd.func33) (by kernel_rfl) rfl (m2 (evc (.string (str ([0#8])))) (ex (.int .i64 ((((16 - (s.length % 16)) % 16) : Nat) : Int)) (Eq.trans (b := .int .i64 ((16 - (((s.length : Nat) : Int) % 16)) % 16)) rfl (by exact congrArg (Value.int .i64) (by omega))))) (rep_c 0#8 ((16 - (s.length % 16)) % 16) (by omega) w0) ?_
 rintro _ w1 ⟨rfl, hb2⟩
 refine ⟨_, rfl, ?_⟩
 replace hk := thenB hk hb2
 refine w_val (y_bin es es (b_cat (by simp only [List.length_replicate]; omega))) ?_
 refine w_as es ?_
 refine nt ?_
 refine wp_ret ?_
 refine fin_ret1 rfl es ?_
 refine ⟨congrArg Ending.returned ?_, hk⟩
 show (.string (str (s ++ (List.replicate ((16 - (s.length % 16)) % 16) 0#8))) : Value) = .string (str (Cb.z s))
 rfl

theorem gmBits (s : List (BitVec 8)) (hs : s.length ≤ 1000000) (w0 : World) : Calls Tryd.prog 36 #[.string (str s)] w0 fun e w' => e = .returned (.string (str (Gm.bl s))) ∧ Below w0.heap.size w0 w' := by
 refine enter (n := 14) Tryd.func36 rfl rfl rfl ?_
 have hk : Below w0.heap.size w0 w0 := Below.refl _ _
 refine sr ?_
 refine w_as (evc (.string (str ([] : List (BitVec 8))))) ?_
 refine nt ?_
 refine sr ?_
 refine w_mv es ?_
 refine w_val (y_len es Tryd.underlying9) ?_
 refine w_val (y_nat_u64 (p := s.length) ei (by omega) GcmAT.so3 Tryd.underlying62) ?_
 refine w_val (y_bin e6 (evc (U64 (8#64))) mul64) ?_
 refine w_call (Tryd.func65) (by kernel_rfl) rfl (m2 e6 Ev.c) (put_c ((BitVec.ofNat 64 s.length) * (8#64)) 8 (by decide) (by decide) (fun h => absurd h (by decide)) w0) ?_
 rintro _ w1 ⟨rfl, hb2⟩
 refine ⟨_, rfl, ?_⟩
 replace hk := thenB hk hb2
 refine w_mv (ex (.tuple #[.string (str (Oct.be ((BitVec.ofNat 64 s.length) * (8#64)) 8)), .int .i64 0])) ?_
 refine w_val ye ?_
 refine w_val ye ?_
 refine w_as es ?_
 refine w_as ei ?_
 refine nt ?_
 refine sr ?_
 refine w_mv es ?_
 refine w_as es ?_
 refine nt ?_
 refine wp_ret ?_
 refine fin_ret1 rfl es ?_
 refine ⟨congrArg Ending.returned ?_, hk⟩
 show (.string (str (Oct.be ((BitVec.ofNat 64 s.length) * (8#64)) 8)) : Value) = .string (str (Gm.bl s))
 exact congrArg (fun x => Value.string (str (Oct.be x 8))) (Gm.mul8 _)

theorem gmBegin_k (key v aad : List (BitVec 8)) (size : Int) (hok : ¬ Aes.okKey key.length) (w0 : World) : Calls Tryd.prog 17 #[.string (str key), .string (str v), .string (str aad), .int .i64 size] w0 fun e w' => e = .returned (.tuple #[.pointer none, .int .i64 3]) ∧ Below w0.heap.size w0 w' := by
 refine enter (n := 84) Tryd.func17 rfl rfl rfl ?_
 have hk : Below w0.heap.size w0 w0 := Below.refl _ _
 refine sr ?_
 refine w_as Ev.c ?_
 refine w_as Ev.c ?_
 refine nt ?_
 refine sr ?_
 refine w_mv es ?_
 refine w_call (Tryd.func31) (by kernel_rfl) rfl (m1 es) (new_l_no key w0 hok) ?_
 rintro _ _ ⟨rfl, rfl⟩
 refine ⟨_, rfl, ?_⟩
 refine w_mv (ex (.tuple #[.pointer none, .int .i64 3])) ?_
 refine w_val ye ?_
 refine w_val ye ?_
 refine w_as (ex (.pointer none)) ?_
 refine w_as ei ?_
 refine nt ?_
 refine wp_seq ?_
 refine wp_block ?_
 refine sr ?_
 refine w_mv ei ?_
 refine w_val (y_bin ei Ev.c b_neq) ?_
 refine w_as eb ?_
 refine nt ?_
 refine c_tt eb ?_
 refine sr ?_
 refine w_mv ei ?_
 refine w_as Ev.c ?_
 refine w_as ei ?_
 refine nt ?_
 refine wp_ret ?_
 refine inb_r ?_
 refine then_r ?_
 refine fin_ret2 rfl (ex (.pointer none)) ei ?_
 exact ⟨rfl, hk⟩

theorem gmBegin_v (key v aad : List (BitVec 8)) (size : Int) (hok : Aes.okKey key.length) (hv : ¬ (1 ≤ v.length ∧ v.length ≤ 1024)) (w0 : World) : Calls Tryd.prog 17 #[.string (str key), .string (str v), .string (str aad), .int .i64 size] w0 fun e w' => e = .returned (.tuple #[.pointer none, .int .i64 4]) ∧ Below w0.heap.size w0 w' := by
 refine enter (n := 84) Tryd.func17 rfl rfl rfl ?_
 have hk : Below w0.heap.size w0 w0 := Below.refl _ _
 refine sr ?_
 refine w_as Ev.c ?_
 refine w_as Ev.c ?_
 refine nt ?_
 refine sr ?_
 refine w_mv es ?_
 refine w_call (Tryd.func31) (by kernel_rfl) rfl (m1 es) (new_l key w0 hok) ?_
 rintro _ w1 ⟨p, rfl, hge_p, hc, hb_p⟩
 refine ⟨_, rfl, ?_⟩
 have ge_p : w0.heap.size ≤ p := by have := hk.size; omega
 replace hk := thenB hk hb_p
 refine w_mv (ex (.tuple #[pt p 0, .int .i64 0])) ?_
 refine w_val ye ?_
 refine w_val ye ?_
 refine w_as (ex (pt p 0)) ?_
 refine w_as ei ?_
 refine nt ?_
 refine wp_seq ?_
 refine wp_block ?_
 refine sr ?_
 refine w_mv ei ?_
 refine w_val (y_bin ei Ev.c b_neq) ?_
 refine w_as eb ?_
 refine nt ?_
 refine c_ff eb ?_
 refine sr ?_
 refine w_mv es ?_
 refine w_val (y_bin es (evc (.string (str ([] : List (BitVec 8))))) b_eqs) ?_
 refine w_mv eb ?_
 by_cases hc2 : v = ([] : List (BitVec 8))
 ·skip
  with_reducible refine w_skip ?_ ?_
  exact wn rfl rfl (eb (dt hc2))
  with_reducible refine w_skip ?_ ?_
  exact wn rfl rfl (eb (dt hc2))
  with_reducible refine w_skip ?_ ?_
  exact wn rfl rfl (eb (dt hc2))
  refine w_val (y_pick_t (eb (dt hc2)) Ev.c) ?_
  refine w_as eb ?_
  refine nt ?_
  refine c_tt eb ?_
  refine sr ?_
  refine w_as Ev.c ?_
  refine w_as Ev.c ?_
  refine nt ?_
  refine wp_ret ?_
  refine inb_r ?_
  refine then_r ?_
  refine fin_ret2 rfl (ex (.pointer none)) ei ?_
  exact ⟨rfl, hk⟩
 ·skip
  refine w_val_g (v := .string (str v)) (wy rfl rfl (eb (df hc2))) (y_mv es) ?_
  refine w_val_g (wy rfl rfl (eb (df hc2))) (y_len es Tryd.underlying9) ?_
  refine w_val_g (wy rfl rfl (eb (df hc2))) (y_bin ei Ev.c b_gtr) ?_
  refine w_val (y_pick_f (eb (df hc2)) eb) ?_
  refine w_as eb ?_
  refine nt ?_
  have hc3 : 1024 < ((v.length : Nat) : Int) := by first | omega | (have hv0 := List.length_pos_iff.2 (show v ≠ [] by assumption); omega)
  refine c_t (p := 1024 < ((v.length : Nat) : Int)) eb hc3 ?_
  refine sr ?_
  refine w_as Ev.c ?_
  refine w_as Ev.c ?_
  refine nt ?_
  refine wp_ret ?_
  refine inb_r ?_
  refine then_r ?_
  refine fin_ret2 rfl (ex (.pointer none)) ei ?_
  exact ⟨rfl, hk⟩

theorem gmBegin_t (key v aad : List (BitVec 8)) (size : Int) (hok : Aes.okKey key.length) (hv : 1 ≤ v.length ∧ v.length ≤ 1024) (ht : ¬ (12 ≤ size ∧ size ≤ 16)) (w0 : World) : Calls Tryd.prog 17 #[.string (str key), .string (str v), .string (str aad), .int .i64 size] w0 fun e w' => e = .returned (.tuple #[.pointer none, .int .i64 5]) ∧ Below w0.heap.size w0 w' := by
 refine enter (n := 84) Tryd.func17 rfl rfl rfl ?_
 have hk : Below w0.heap.size w0 w0 := Below.refl _ _
 refine sr ?_
 refine w_as Ev.c ?_
 refine w_as Ev.c ?_
 refine nt ?_
 refine sr ?_
 refine w_mv es ?_
 refine w_call (Tryd.func31) (by kernel_rfl) rfl (m1 es) (new_l key w0 hok) ?_
 rintro _ w1 ⟨p, rfl, hge_p, hc, hb_p⟩
 refine ⟨_, rfl, ?_⟩
 have ge_p : w0.heap.size ≤ p := by have := hk.size; omega
 replace hk := thenB hk hb_p
 refine w_mv (ex (.tuple #[pt p 0, .int .i64 0])) ?_
 refine w_val ye ?_
 refine w_val ye ?_
 refine w_as (ex (pt p 0)) ?_
 refine w_as ei ?_
 refine nt ?_
 refine wp_seq ?_
 refine wp_block ?_
 refine sr ?_
 refine w_mv ei ?_
 refine w_val (y_bin ei Ev.c b_neq) ?_
 refine w_as eb ?_
 refine nt ?_
 refine c_ff eb ?_
 refine sr ?_
 refine w_mv es ?_
 refine w_val (y_bin es (evc (.string (str ([] : List (BitVec 8))))) b_eqs) ?_
 refine w_mv eb ?_
 have hc2 : ¬ (v = ([] : List (BitVec 8))) := by exact fun e => by rw [e] at hv; exact absurd hv.1 (by decide)
 refine w_val_g (v := .string (str v)) (wy rfl rfl (eb (df hc2))) (y_mv es) ?_
 refine w_val_g (wy rfl rfl (eb (df hc2))) (y_len es Tryd.underlying9) ?_
 refine w_val_g (wy rfl rfl (eb (df hc2))) (y_bin ei Ev.c b_gtr) ?_
 refine w_val (y_pick_f (eb (df hc2)) eb) ?_
 refine w_as eb ?_
 refine nt ?_
 have hc3 : ¬ (1024 < ((v.length : Nat) : Int)) := by omega
 refine c_f (p := 1024 < ((v.length : Nat) : Int)) eb hc3 ?_
 refine sr ?_
 refine w_mv ei ?_
 refine w_val (y_bin ei Ev.c b_lss) ?_
 refine w_mv eb ?_
 by_cases hc4 : size < 12
 ·skip
  with_reducible refine w_skip ?_ ?_
  exact wn rfl rfl (eb (dt hc4))
  with_reducible refine w_skip ?_ ?_
  exact wn rfl rfl (eb (dt hc4))
  refine w_val (y_pick_t (eb (dt hc4)) Ev.c) ?_
  refine w_as eb ?_
  refine nt ?_
  refine c_tt eb ?_
  refine sr ?_
  refine w_as Ev.c ?_
  refine w_as Ev.c ?_
  refine nt ?_
  refine wp_ret ?_
  refine inb_r ?_
  refine then_r ?_
  refine fin_ret2 rfl (ex (.pointer none)) ei ?_
  exact ⟨rfl, hk⟩
 ·skip
  refine w_val_g (v := .int .i64 size) (wy rfl rfl (eb (df hc4))) (y_mv ei) ?_
  refine w_val_g (wy rfl rfl (eb (df hc4))) (y_bin ei Ev.c b_gtr) ?_
  refine w_val (y_pick_f (eb (df hc4)) eb) ?_
  refine w_as eb ?_
  refine nt ?_
  refine c_if (p := 16 < size) eb (fun hc5 => ?_) (fun hc5 => ?_)
  ·skip
   refine sr ?_
   refine w_as Ev.c ?_
   refine w_as Ev.c ?_
   refine nt ?_
   refine wp_ret ?_
   refine inb_r ?_
   refine then_r ?_
   refine fin_ret2 rfl (ex (.pointer none)) ei ?_
   exact ⟨rfl, hk⟩
  ·skip
   refine wp_seq ?_
   exfalso; omega

theorem gmBegin_a (key v aad : List (BitVec 8)) (size : Nat) (hok : Aes.okKey key.length) (hv : 1 ≤ v.length ∧ v.length ≤ 1024) (h12 : 12 ≤ size) (h16 : size ≤ 16) (ha : 70000 < aad.length) (w0 : World) : Calls Tryd.prog 17 #[.string (str key), .string (str v), .string (str aad), .int .i64 ((size : Nat) : Int)] w0 fun e w' => e = .returned (.tuple #[.pointer none, .int .i64 6]) ∧ Below w0.heap.size w0 w' := by
 refine enter (n := 84) Tryd.func17 rfl rfl rfl ?_
 have hk : Below w0.heap.size w0 w0 := Below.refl _ _
 refine sr ?_
 refine w_as Ev.c ?_
 refine w_as Ev.c ?_
 refine nt ?_
 refine sr ?_
 refine w_mv es ?_
 refine w_call (Tryd.func31) (by kernel_rfl) rfl (m1 es) (new_l key w0 hok) ?_
 rintro _ w1 ⟨p, rfl, hge_p, hc, hb_p⟩
 refine ⟨_, rfl, ?_⟩
 have ge_p : w0.heap.size ≤ p := by have := hk.size; omega
 replace hk := thenB hk hb_p
 refine w_mv (ex (.tuple #[pt p 0, .int .i64 0])) ?_
 refine w_val ye ?_
 refine w_val ye ?_
 refine w_as (ex (pt p 0)) ?_
 refine w_as ei ?_
 refine nt ?_
 refine wp_seq ?_
 refine wp_block ?_
 refine sr ?_
 refine w_mv ei ?_
 refine w_val (y_bin ei Ev.c b_neq) ?_
 refine w_as eb ?_
 refine nt ?_
 refine c_ff eb ?_
 refine sr ?_
 refine w_mv es ?_
 refine w_val (y_bin es (evc (.string (str ([] : List (BitVec 8))))) b_eqs) ?_
 refine w_mv eb ?_
 have hc2 : ¬ (v = ([] : List (BitVec 8))) := by exact fun e => by rw [e] at hv; exact absurd hv.1 (by decide)
 refine w_val_g (v := .string (str v)) (wy rfl rfl (eb (df hc2))) (y_mv es) ?_
 refine w_val_g (wy rfl rfl (eb (df hc2))) (y_len es Tryd.underlying9) ?_
 refine w_val_g (wy rfl rfl (eb (df hc2))) (y_bin ei Ev.c b_gtr) ?_
 refine w_val (y_pick_f (eb (df hc2)) eb) ?_
 refine w_as eb ?_
 refine nt ?_
 have hc3 : ¬ (1024 < ((v.length : Nat) : Int)) := by omega
 refine c_f (p := 1024 < ((v.length : Nat) : Int)) eb hc3 ?_
 refine sr ?_
 refine w_mv ei ?_
 refine w_val (y_bin ei Ev.c b_lss) ?_
 refine w_mv eb ?_
 have hc4 : ¬ (((size : Nat) : Int) < 12) := by omega
 refine w_val_g (v := .int .i64 ((size : Nat) : Int)) (wy rfl rfl (eb (df hc4))) (y_mv ei) ?_
 refine w_val_g (wy rfl rfl (eb (df hc4))) (y_bin ei Ev.c b_gtr) ?_
 refine w_val (y_pick_f (eb (df hc4)) eb) ?_
 refine w_as eb ?_
 refine nt ?_
 have hc5 : ¬ (16 < ((size : Nat) : Int)) := by omega
 refine c_f (p := 16 < ((size : Nat) : Int)) eb hc5 ?_
 refine sr ?_
 refine w_mv es ?_
 refine w_val (y_len es Tryd.underlying9) ?_
 refine w_val (y_bin ei Ev.c b_gtr) ?_
 refine w_as eb ?_
 refine nt ?_
 have hc6 : 70000 < ((aad.length : Nat) : Int) := by omega
 refine c_t (p := 70000 < ((aad.length : Nat) : Int)) eb hc6 ?_
 refine sr ?_
 refine w_as Ev.c ?_
 refine w_as Ev.c ?_
 refine nt ?_
 refine wp_ret ?_
 refine inb_r ?_
 refine then_r ?_
 refine fin_ret2 rfl (ex (.pointer none)) ei ?_
 exact ⟨rfl, hk⟩

theorem gmBegin_y (f : Nat → BitVec 64) (key v aad : List (BitVec 8)) (size : Nat) (hok : Aes.okKey key.length) (hv : 1 ≤ v.length ∧ v.length ≤ 1024) (h12 : 12 ≤ size) (h16 : size ≤ 16) (ha : aad.length ≤ 70000) (w0 : World) (hF : Gh.Fold w0 f) : Calls Tryd.prog 17 #[.string (str key), .string (str v), .string (str aad), .int .i64 ((size : Nat) : Int)] w0 fun e w' => ∃ p g, e = .returned (.tuple #[.pointer (some ⟨g, 0, none⟩), .int .i64 0]) ∧ w0.heap.size ≤ p ∧ w0.heap.size ≤ g ∧ CiphAt Aes.bk Aes.undo w' p (Aes.words key) ∧ Row w' g 57 4 (fun j => if j < 1 then .string (str key) else if j < 2 then .string (str (Gm.hk key)) else if j < 3 then pt p 0 else .string (str (Gm.first f key v))) ∧ Below w0.heap.size w0 w' := by
 have hF0 := hF.2
 refine enter (n := 84) Tryd.func17 rfl rfl rfl ?_
 have hk : Below w0.heap.size w0 w0 := Below.refl _ _
 refine sr ?_
 refine w_as Ev.c ?_
 refine w_as Ev.c ?_
 refine nt ?_
 refine sr ?_
 refine w_mv es ?_
 refine w_call (Tryd.func31) (by kernel_rfl) rfl (m1 es) (new_l key w0 hok) ?_
 rintro _ w1 ⟨p, rfl, hge_p, hc, hb_p⟩
 refine ⟨_, rfl, ?_⟩
 have ge_p : w0.heap.size ≤ p := by have := hk.size; omega
 replace hk := thenB hk hb_p
 replace hF := Gh.Fold.below hF hb_p
 refine w_mv (ex (.tuple #[pt p 0, .int .i64 0])) ?_
 refine w_val ye ?_
 refine w_val ye ?_
 refine w_as (ex (pt p 0)) ?_
 refine w_as ei ?_
 refine nt ?_
 refine wp_seq ?_
 refine wp_block ?_
 refine sr ?_
 refine w_mv ei ?_
 refine w_val (y_bin ei Ev.c b_neq) ?_
 refine w_as eb ?_
 refine nt ?_
 refine c_ff eb ?_
 refine sr ?_
 refine w_mv es ?_
 refine w_val (y_bin es (evc (.string (str ([] : List (BitVec 8))))) b_eqs) ?_
 refine w_mv eb ?_
 have hc2 : ¬ (v = ([] : List (BitVec 8))) := by exact fun e => by rw [e] at hv; exact absurd hv.1 (by decide)
 refine w_val_g (v := .string (str v)) (wy rfl rfl (eb (df hc2))) (y_mv es) ?_
 refine w_val_g (wy rfl rfl (eb (df hc2))) (y_len es Tryd.underlying9) ?_
 refine w_val_g (wy rfl rfl (eb (df hc2))) (y_bin ei Ev.c b_gtr) ?_
 refine w_val (y_pick_f (eb (df hc2)) eb) ?_
 refine w_as eb ?_
 refine nt ?_
 have hc3 : ¬ (1024 < ((v.length : Nat) : Int)) := by omega
 refine c_f (p := 1024 < ((v.length : Nat) : Int)) eb hc3 ?_
 refine sr ?_
 refine w_mv ei ?_
 refine w_val (y_bin ei Ev.c b_lss) ?_
 refine w_mv eb ?_
 have hc4 : ¬ (((size : Nat) : Int) < 12) := by omega
 refine w_val_g (v := .int .i64 ((size : Nat) : Int)) (wy rfl rfl (eb (df hc4))) (y_mv ei) ?_
 refine w_val_g (wy rfl rfl (eb (df hc4))) (y_bin ei Ev.c b_gtr) ?_
 refine w_val (y_pick_f (eb (df hc4)) eb) ?_
 refine w_as eb ?_
 refine nt ?_
 have hc5 : ¬ (16 < ((size : Nat) : Int)) := by omega
 refine c_f (p := 16 < ((size : Nat) : Int)) eb hc5 ?_
 refine sr ?_
 refine w_mv es ?_
 refine w_val (y_len es Tryd.underlying9) ?_
 refine w_val (y_bin ei Ev.c b_gtr) ?_
 refine w_as eb ?_
 refine nt ?_
 have hc6 : ¬ (70000 < ((aad.length : Nat) : Int)) := by omega
 refine c_f (p := 70000 < ((aad.length : Nat) : Int)) eb hc6 ?_
 refine wp_skip ?_
 refine inb_n ?_
 refine then_n ?_
 refine sr ?_
 refine w_mv es ?_
 refine w_mv (ex (pt p 0)) ?_
 refine w_val (v := .agg (arr 3 (fun j => if j < 1 then .string (str key) else if j < 2 then .string (str ([] : List (BitVec 8))) else pt p 0))) (y_build (vs := #[(0, .string (str key)), (2, pt p 0)]) (mp_cons es (mp_cons (ex (pt p 0)) mp0)) (fun w => by kernel_rfl)) ?_
 refine w_val (v := .agg (arr 4 (fun j => if j < 1 then .string (str key) else if j < 2 then .string (str ([] : List (BitVec 8))) else if j < 3 then pt p 0 else .string (str ([] : List (BitVec 8)))))) (y_build (vs := #[(0, .agg (arr 3 (fun j => if j < 1 then .string (str key) else if j < 2 then .string (str ([] : List (BitVec 8))) else pt p 0)))]) (mp_cons ea mp0) (fun w => by kernel_rfl)) ?_
 refine w_box (m := 4) (F := fun j => if j < 1 then .string (str key) else if j < 2 then .string (str ([] : List (BitVec 8))) else if j < 3 then pt p 0 else .string (str ([] : List (BitVec 8)))) ea rfl ?_
 intro b_45 w7 hbe_b_45 r_b_45 hb8
 have ge_b_45 := gb_ hk.size hbe_b_45
 clear hbe_b_45
 replace hk := thenB hk hb8
 replace hF := Gh.Fold.below hF hb8
 replace hc := hc.below hb8
 refine w_as (ex (pt b_45 0)) ?_
 refine nt ?_
 refine sr ?_
 refine w_mv (ex (pt b_45 0)) ?_
 refine w_mv (ex (pt p 0)) ?_
 refine w_call (Tryd.func33) (by kernel_rfl) rfl (m2 (evc (.string (str ([0#8])))) Ev.c) (rep_c 0#8 16 (by decide) w7) ?_
 rintro _ w9 ⟨rfl, hb10⟩
 refine ⟨_, rfl, ?_⟩
 replace r_b_45 := r_b_45.step hb10
 replace hk := thenB hk hb10
 replace hF := Gh.Fold.below hF hb10
 replace hc := hc.below hb10
 refine w_call (Tryd.func32) (by kernel_rfl) rfl (m2 (ex (pt p 0)) es) (enc_l p key (List.replicate 16 0#8) w9 hok hc (by rw [List.length_replicate])) ?_
 rintro _ w11 ⟨rfl, hb12⟩
 refine ⟨_, rfl, ?_⟩
 replace r_b_45 := r_b_45.step hb12
 replace hk := thenB hk hb12
 replace hF := Gh.Fold.below hF hb12
 replace hc := hc.below hb12
 refine w_mv (ex (.tuple #[.string (str (Aes.enc (Aes.words key) (List.replicate 16 0#8))), .int .i64 0])) ?_
 refine w_val ye ?_
 refine w_val ye ?_
 refine w_val (y_nc (ex (pt b_45 0))) ?_
 refine w_val (v := pt b_45 0) (y_off (y_fa (ex (pt b_45 0)) (GcmAT.fa57_0 _ _)) (by first | rfl | omega)) ?_
 refine w_val (v := pt b_45 1) (y_off (y_fa (ex (pt b_45 0)) (GcmAT.fa55_1 _ _)) (by first | rfl | omega)) ?_
 have hx_hc := CiphAt.onward hc r_b_45 (by decide) (by decide)
 refine w_st (v := .string (str (Aes.enc (Aes.words key) (List.replicate 16 0#8)))) (ex (pt b_45 1)) es rfl rfl GcmAT.sz9 r_b_45 (by omega) ?_
 clear r_b_45; intro w13 r_b_45 hg14 _
 replace hk := thenG hk hg14 (by omega)
 replace hF := Gh.Fold.grown hF hg14 (by omega)
 replace hc := hx_hc _ hg14
 refine nt ?_
 refine wp_seq ?_
 refine sr ?_
 refine w_mv es ?_
 refine w_val (y_len es Tryd.underlying9) ?_
 refine w_val (y_bin ei Ev.c b_eql) ?_
 refine nt ?_
 refine c_if (p := ((v.length : Nat) : Int) = 12) eb (fun hc15 => ?_) (fun hc15 => ?_)
 ·skip
  refine wp_region_lit ?_
  refine w_mv (ex (pt b_45 0)) ?_
  refine w_mv es ?_
  refine w_val (y_bin es (evc (.string (str Gm.n1))) (b_cat (by simp only [List.length_append, List.length_replicate, Gm.bl_len, Cb.z_len, Cb.zn, Gm.n1, List.length_cons, List.length_nil]; omega))) ?_
  refine w_val (y_nc (ex (pt b_45 0))) ?_
  refine w_val (v := pt b_45 3) (y_off (y_fa (ex (pt b_45 0)) (GcmAT.fa57_1 _ _)) (by first | rfl | omega)) ?_
  have hx_hc := CiphAt.onward hc r_b_45 (by decide) (by decide)
  refine w_st (v := .string (str (v ++ Gm.n1))) (ex (pt b_45 3)) es rfl rfl GcmAT.sz9 r_b_45 (by omega) ?_
  clear r_b_45; intro w16 r_b_45 hg17 _
  replace hk := thenG hk hg17 (by omega)
  replace hF := Gh.Fold.grown hF hg17 (by omega)
  replace hc := hx_hc _ hg17
  refine nt ?_
  refine sr ?_
  refine w_mv (ex (pt b_45 0)) ?_
  refine w_as (ex (pt b_45 0)) ?_
  refine w_as Ev.c ?_
  refine nt ?_
  refine wp_ret ?_
  refine fin_ret2 rfl (ex (pt b_45 0)) ei ?_
  exact ⟨p, b_45, rfl, ge_p, ge_b_45, hc, r_b_45.congr (fun j hj => by (try dsimp only); rcases (show j = 0 ∨ j = 1 ∨ j = 2 ∨ j = 3 by omega) with rfl | rfl | rfl | rfl <;> first | rfl | exact congrArg (fun l => Value.string (str l)) (Gm.first_12 f key v (by omega)) | exact congrArg (fun l => Value.string (str l)) (Gm.first_n f key v (by omega))), hk⟩
 ·skip
  refine region_dc (Nat.testBit 524288) 20 GcmAT.mixed rfl ?_
  intro w18 hb19
  replace r_b_45 := r_b_45.step hb19
  replace hk := thenB hk hb19
  replace hF := Gh.Fold.below hF hb19
  replace hc := hc.below hb19
  have hS : Cls w18 w18 := Below.refl _ _
  refine dp 0 rfl (fun w' => y_mv (ex (pt b_45 0))) ?_
  refine dp 1 rfl (fun w' => y_mv (ex (pt b_45 0))) ?_
  refine dp (v := pt b_45 0) 2 rfl (fun w' => y_nc (ex (pt b_45 0))) ?_
  refine dp (v := pt b_45 0) 3 rfl (fun w' => y_off (y_fa (ex (pt b_45 0)) (GcmAT.fa57_0 _ _)) (by first | rfl | omega)) ?_
  refine dp (v := pt b_45 1) 4 rfl (fun w' => y_off (y_fa (ex (pt b_45 0)) (GcmAT.fa55_1 _ _)) (by first | rfl | omega)) ?_
  refine d_take (v := .string (str (Aes.enc (Aes.words key) (List.replicate 16 0#8)))) 5 (Nat.testBit 1040416) rfl (by kernel_rfl) (by kernel_rfl) (by kernel_rfl) (by kernel_rfl) (by kernel_rfl) (by kernel_rfl) (fun _ _ _ h => h) hS (fun w' hw' => y_ld (ex (pt b_45 1)) GcmAT.sc9 (cls_cell (r_b_45.val (by omega) (if_pos rfl)) r_b_45.lt w' hw')) ?_
  refine dp 6 rfl (fun w' => y_mv es) ?_
  refine dp 10 rfl (fun w' => y_mv es) ?_
  refine d_one 7 (by kernel_rfl) rfl ?_
  refine w_call (Tryd.func35) (by kernel_rfl) rfl (m1 es) (gmFilled v (by omega) w18) ?_
  rintro _ w20 ⟨rfl, hb21⟩
  refine ⟨_, rfl, ?_⟩
  replace r_b_45 := r_b_45.step hb21
  replace hk := thenB hk hb21
  replace hF := Gh.Fold.below hF hb21
  replace hc := hc.below hb21
  replace hS := thenB hS hb21
  refine wpList_nil ?_
  refine then_n ⟨fun _ h => thenB h (by assumption), ?_⟩
  refine d_one 8 (by kernel_rfl) rfl ?_
  refine w_call (Tryd.func33) (by kernel_rfl) rfl (m2 (evc (.string (str ([0#8])))) Ev.c) (rep_c 0#8 8 (by decide) w20) ?_
  rintro _ w22 ⟨rfl, hb23⟩
  refine ⟨_, rfl, ?_⟩
  replace r_b_45 := r_b_45.step hb23
  replace hk := thenB hk hb23
  replace hF := Gh.Fold.below hF hb23
  replace hc := hc.below hb23
  replace hS := thenB hS hb23
  refine wpList_nil ?_
  refine then_n ⟨fun _ h => thenB h (by assumption), ?_⟩
  refine dp (v := .string (str ((Cb.z v) ++ (List.replicate 8 0#8)))) 9 rfl (fun w' => y_bin es es (b_cat (by simp only [List.length_append, List.length_replicate, Gm.bl_len, Cb.z_len, Cb.zn, Gm.n1, List.length_cons, List.length_nil]; omega))) ?_
  refine d_one 11 (by kernel_rfl) rfl ?_
  refine w_call (Tryd.func36) (by kernel_rfl) rfl (m1 es) (gmBits v (by omega) w22) ?_
  rintro _ w24 ⟨rfl, hb25⟩
  refine ⟨_, rfl, ?_⟩
  replace r_b_45 := r_b_45.step hb25
  replace hk := thenB hk hb25
  replace hF := Gh.Fold.below hF hb25
  replace hc := hc.below hb25
  replace hS := thenB hS hb25
  refine wpList_nil ?_
  refine then_n ⟨fun _ h => thenB h (by assumption), ?_⟩
  refine dp (v := .string (str (((Cb.z v) ++ (List.replicate 8 0#8)) ++ (Gm.bl v)))) 12 rfl (fun w' => y_bin es es (b_cat (by simp only [List.length_append, List.length_replicate, Gm.bl_len, Cb.z_len, Cb.zn, Gm.n1, List.length_cons, List.length_nil]; omega))) ?_
  refine d_one 13 (by kernel_rfl) rfl ?_
  refine w_call (Tryd.func34) (by kernel_rfl) rfl (m2 es es) (ghSum f (Aes.enc (Aes.words key) (List.replicate 16 0#8)) (((Cb.z v) ++ (List.replicate 8 0#8)) ++ (Gm.bl v)) (by exact Cb.enc_len _ _ hok) (by simp only [List.length_append, List.length_replicate, Gm.bl_len, Cb.z_len, Cb.zn, Gm.z8]; omega) (by simp only [List.length_append, List.length_replicate, Gm.bl_len, Cb.z_len, Cb.zn, Gm.z8]; omega) w24 hF) ?_
  rintro _ w26 ⟨rfl, hb27⟩
  refine ⟨_, rfl, ?_⟩
  replace r_b_45 := r_b_45.step hb27
  replace hk := thenB hk hb27
  replace hF := Gh.Fold.below hF hb27
  replace hc := hc.below hb27
  replace hS := thenB hS hb27
  refine wpList_nil ?_
  refine then_n ⟨fun _ h => thenB h (by assumption), ?_⟩
  refine dp 14 rfl (fun w' => y_mv (ex (.tuple #[.string (str (Gh.sum f (Aes.enc (Aes.words key) (List.replicate 16 0#8)) (((Cb.z v) ++ (List.replicate 8 0#8)) ++ (Gm.bl v)))), .int .i64 0]))) ?_
  refine dp (v := .string (str (Gh.sum f (Aes.enc (Aes.words key) (List.replicate 16 0#8)) (((Cb.z v) ++ (List.replicate 8 0#8)) ++ (Gm.bl v))))) 15 rfl (fun w' => y_ext (v := .string (str (Gh.sum f (Aes.enc (Aes.words key) (List.replicate 16 0#8)) (((Cb.z v) ++ (List.replicate 8 0#8)) ++ (Gm.bl v))))) (ex (.tuple #[.string (str (Gh.sum f (Aes.enc (Aes.words key) (List.replicate 16 0#8)) (((Cb.z v) ++ (List.replicate 8 0#8)) ++ (Gm.bl v)))), .int .i64 0])) rfl) ?_
  refine dp (v := .int .i64 0) 16 rfl (fun w' => y_ext (v := .int .i64 0) (ex (.tuple #[.string (str (Gh.sum f (Aes.enc (Aes.words key) (List.replicate 16 0#8)) (((Cb.z v) ++ (List.replicate 8 0#8)) ++ (Gm.bl v)))), .int .i64 0])) rfl) ?_
  refine dp (v := pt b_45 0) 17 rfl (fun w' => y_nc (ex (pt b_45 0))) ?_
  refine dp (v := pt b_45 3) 18 rfl (fun w' => y_off (y_fa (ex (pt b_45 0)) (GcmAT.fa57_1 _ _)) (by first | rfl | omega)) ?_
  refine d_one 19 (by kernel_rfl) rfl ?_
  have hx_hc := CiphAt.onward hc r_b_45 (by decide) (by decide)
  refine w_st (v := .string (str (Gh.sum f (Aes.enc (Aes.words key) (List.replicate 16 0#8)) (((Cb.z v) ++ (List.replicate 8 0#8)) ++ (Gm.bl v))))) (ex (pt b_45 3)) es rfl rfl GcmAT.sz9 r_b_45 (by omega) ?_
  clear r_b_45; intro w28 r_b_45 hg29 _
  replace hk := thenG hk hg29 (by omega)
  replace hF := Gh.Fold.grown hF hg29 (by omega)
  replace hc := hx_hc _ hg29
  clear hS
  refine wpList_nil ?_
  refine then_n ⟨fun hD => absurd hD (by decide), ?_⟩
  refine d_done (by kernel_rfl) ?_
  refine then_n ?_
  refine sr ?_
  refine w_mv (ex (pt b_45 0)) ?_
  refine w_as (ex (pt b_45 0)) ?_
  refine w_as Ev.c ?_
  refine nt ?_
  refine wp_ret ?_
  refine fin_ret2 rfl (ex (pt b_45 0)) ei ?_
  exact ⟨p, b_45, rfl, ge_p, ge_b_45, hc, r_b_45.congr (fun j hj => by (try dsimp only); rcases (show j = 0 ∨ j = 1 ∨ j = 2 ∨ j = 3 by omega) with rfl | rfl | rfl | rfl <;> first | rfl | exact congrArg (fun l => Value.string (str l)) (Gm.first_12 f key v (by omega)) | exact congrArg (fun l => Value.string (str l)) (Gm.first_n f key v (by omega))), hk⟩

theorem gmTag (f : Nat → BitVec 64) (p g : Nat) (key v aad c : List (BitVec 8)) (hok : Aes.okKey key.length) (size : Nat) (h16 : size ≤ 16) (ha : aad.length ≤ 70000) (hcl : c.length ≤ 70000) (w0 : World) (r_g : Row w0 g 57 4 (fun j => if j < 1 then .string (str key) else if j < 2 then .string (str (Gm.hk key)) else if j < 3 then pt p 0 else .string (str (Gm.first f key v)))) (hc : CiphAt Aes.bk Aes.undo w0 p (Aes.words key)) (hF : Gh.Fold w0 f) : Calls Tryd.prog 19 #[pt g 0, .string (str aad), .string (str c), .int .i64 ((size : Nat) : Int)] w0 fun e w' => e = .returned (.string (str (Gm.tg f key v aad c size))) ∧ Below w0.heap.size w0 w' := by
 refine enter (n := 51) Tryd.func19 rfl rfl rfl ?_
 have hk : Below w0.heap.size w0 w0 := Below.refl _ _
 have lt_g := r_g.lt
 refine sr ?_
 refine w_as (evc (.string (str ([] : List (BitVec 8))))) ?_
 refine nt ?_
 refine wp_seq ?_
 refine region_q GcmAT.mixed (by kernel_rfl) ?_
 refine q_mv (ex (pt g 0)) ?_
 refine q_val (fun w' hw' => y_nc (ex (pt g 0))) ?_
 refine q_val (v := pt g 0) (fun w' hw' => y_off (y_fa (ex (pt g 0)) (GcmAT.fa57_0 _ _)) (by first | rfl | omega)) ?_
 refine q_val (v := pt g 1) (fun w' hw' => y_off (y_fa (ex (pt g 0)) (GcmAT.fa55_1 _ _)) (by first | rfl | omega)) ?_
 refine q_val (v := .string (str (Gm.hk key))) (fun w' hw' => y_ld (ex (pt g 1)) GcmAT.sc9 (cls_cell (r_g.val (by omega) ((if_neg (by omega)).trans (etv (if_pos (by omega))))) r_g.lt w' hw')) ?_
 refine q_mv es ?_
 refine q_call (v := .string (str (Cb.z aad))) (Tryd.func35) (by kernel_rfl) rfl (m1 es) (fun w' hw' => gmFilled aad (by omega) w') ?_
 refine q_mv es ?_
 refine q_call (v := .string (str (Cb.z c))) (Tryd.func35) (by kernel_rfl) rfl (m1 es) (fun w' hw' => gmFilled c (by omega) w') ?_
 refine q_val (fun w' hw' => y_bin es es (b_cat (by simp only [List.length_append, Gm.bl_len, Cb.z_len, Cb.zn]; omega))) ?_
 refine q_mv es ?_
 refine q_call (v := .string (str (Gm.bl aad))) (Tryd.func36) (by kernel_rfl) rfl (m1 es) (fun w' hw' => gmBits aad (by omega) w') ?_
 refine q_val (fun w' hw' => y_bin es es (b_cat (by simp only [List.length_append, Gm.bl_len, Cb.z_len, Cb.zn]; omega))) ?_
 refine q_mv es ?_
 refine q_call (v := .string (str (Gm.bl c))) (Tryd.func36) (by kernel_rfl) rfl (m1 es) (fun w' hw' => gmBits c (by omega) w') ?_
 refine q_val (fun w' hw' => y_bin es es (b_cat (by simp only [List.length_append, Gm.bl_len, Cb.z_len, Cb.zn]; omega))) ?_
 refine q_call (v := .tuple #[.string (str (Gh.sum f (Gm.hk key) ((((Cb.z aad) ++ (Cb.z c)) ++ (Gm.bl aad)) ++ (Gm.bl c)))), .int .i64 0]) (Tryd.func34) (by kernel_rfl) rfl (m2 es es) (fun w' hw' => ghSum f (Gm.hk key) ((((Cb.z aad) ++ (Cb.z c)) ++ (Gm.bl aad)) ++ (Gm.bl c)) (Cb.enc_len _ _ hok) (by exact (Gm.body_len aad c).1) (by have := (Gm.body_len aad c).2; show (Gm.body aad c).length ≤ 210000; omega) w' (Gh.Fold.below hF hw')) ?_
 refine q_mv (ex (.tuple #[.string (str (Gh.sum f (Gm.hk key) ((((Cb.z aad) ++ (Cb.z c)) ++ (Gm.bl aad)) ++ (Gm.bl c)))), .int .i64 0])) ?_
 refine q_val (fun w' hw' => y_ext (v := .string (str (Gh.sum f (Gm.hk key) ((((Cb.z aad) ++ (Cb.z c)) ++ (Gm.bl aad)) ++ (Gm.bl c))))) (ex (.tuple #[.string (str (Gh.sum f (Gm.hk key) ((((Cb.z aad) ++ (Cb.z c)) ++ (Gm.bl aad)) ++ (Gm.bl c)))), .int .i64 0])) rfl) ?_
 refine q_val (fun w' hw' => y_ext (v := .int .i64 0) (ex (.tuple #[.string (str (Gh.sum f (Gm.hk key) ((((Cb.z aad) ++ (Cb.z c)) ++ (Gm.bl aad)) ++ (Gm.bl c)))), .int .i64 0])) rfl) ?_
 refine q_as es ?_
 refine q_as ei ?_
 refine q_nil ?_
 intro w1 hb2
 replace r_g := r_g.step hb2
 replace hk := thenB hk hb2
 replace hc := hc.below hb2
 replace hF := Gh.Fold.below hF hb2
 refine then_n ?_
 refine wp_seq ?_
 refine region_q GcmAT.mixed (by kernel_rfl) ?_
 refine q_mv (ex (pt g 0)) ?_
 refine q_val (fun w' hw' => y_nc (ex (pt g 0))) ?_
 refine q_val (v := pt g 0) (fun w' hw' => y_off (y_fa (ex (pt g 0)) (GcmAT.fa57_0 _ _)) (by first | rfl | omega)) ?_
 refine q_val (v := pt g 2) (fun w' hw' => y_off (y_fa (ex (pt g 0)) (GcmAT.fa55_2 _ _)) (by first | rfl | omega)) ?_
 refine q_val (v := pt p 0) (fun w' hw' => y_ld (ex (pt g 2)) GcmAT.sc51 (cls_cell (r_g.val (by omega) ((if_neg (by omega)).trans ((if_neg (by omega)).trans (etv (if_pos (by omega)))))) r_g.lt w' hw')) ?_
 refine q_mv (ex (pt g 0)) ?_
 refine q_val (fun w' hw' => y_nc (ex (pt g 0))) ?_
 refine q_val (v := pt g 3) (fun w' hw' => y_off (y_fa (ex (pt g 0)) (GcmAT.fa57_1 _ _)) (by first | rfl | omega)) ?_
 refine q_val (v := .string (str (Gm.first f key v))) (fun w' hw' => y_ld (ex (pt g 3)) GcmAT.sc9 (cls_cell (r_g.val (by omega) ((if_neg (by omega)).trans ((if_neg (by omega)).trans ((if_neg (by omega)).trans (by first | with_reducible rfl | (with_reducible congr 1 <;> omega) | (with_reducible congr 2 <;> omega) | (with_reducible congr 3 <;> omega) | rfl))))) r_g.lt w' hw')) ?_
 refine q_call (v := .tuple #[.string (str (Aes.enc (Aes.words key) (Gm.first f key v))), .int .i64 0]) (Tryd.func32) (by kernel_rfl) rfl (m2 (ex (pt p 0)) es) (fun w' hw' => enc_l p key (Gm.first f key v) w' hok (CiphAt.below hc hw') (Gm.first_len _ _ _)) ?_
 refine q_mv (ex (.tuple #[.string (str (Aes.enc (Aes.words key) (Gm.first f key v))), .int .i64 0])) ?_
 refine q_val (fun w' hw' => y_ext (v := .string (str (Aes.enc (Aes.words key) (Gm.first f key v)))) (ex (.tuple #[.string (str (Aes.enc (Aes.words key) (Gm.first f key v))), .int .i64 0])) rfl) ?_
 refine q_val (fun w' hw' => y_ext (v := .int .i64 0) (ex (.tuple #[.string (str (Aes.enc (Aes.words key) (Gm.first f key v))), .int .i64 0])) rfl) ?_
 refine q_as es ?_
 refine q_as ei ?_
 refine q_nil ?_
 intro w3 hb4
 replace r_g := r_g.step hb4
 replace hk := thenB hk hb4
 replace hc := hc.below hb4
 replace hF := Gh.Fold.below hF hb4
 refine then_n ?_
 refine sr ?_
 refine w_mv es ?_
 refine w_mv es ?_
 refine w_call (Tryd.func39) (by kernel_rfl) rfl (m2 es es) (xor_c (Gh.sum f (Gm.hk key) ((((Cb.z aad) ++ (Cb.z c)) ++ (Gm.bl aad)) ++ (Gm.bl c))) (Aes.enc (Aes.words key) (Gm.first f key v)) (by rw [Gh.sum_len]; decide) w3) ?_
 rintro _ w5 ⟨rfl, hb6⟩
 refine ⟨_, rfl, ?_⟩
 replace r_g := r_g.step hb6
 replace hk := thenB hk hb6
 replace hc := hc.below hb6
 replace hF := Gh.Fold.below hF hb6
 refine w_mv ei ?_
 refine w_val (v := .string (str ((Oct.xor (Gh.sum f (Gm.hk key) ((((Cb.z aad) ++ (Cb.z c)) ++ (Gm.bl aad)) ++ (Gm.bl c))) (Aes.enc (Aes.words key) (Gm.first f key v))).take size))) (y_sls (ex (.string (str (Oct.xor (Gh.sum f (Gm.hk key) ((((Cb.z aad) ++ (Cb.z c)) ++ (Gm.bl aad)) ++ (Gm.bl c))) (Aes.enc (Aes.words key) (Gm.first f key v)))))) evo.no (evo.s ei) Tryd.underlying9 (bnd_h (h := size) (by omega) (by simp only [Oct.length_xor, Gh.sum_len, Cb.enc_len _ _ hok]; omega))) ?_
 refine w_as es ?_
 refine nt ?_
 refine wp_ret ?_
 refine fin_ret1 rfl es ?_
 refine ⟨congrArg Ending.returned ?_, hk⟩
 show (.string (str ((Oct.xor (Gh.sum f (Gm.hk key) ((((Cb.z aad) ++ (Cb.z c)) ++ (Gm.bl aad)) ++ (Gm.bl c))) (Aes.enc (Aes.words key) (Gm.first f key v))).take size)) : Value) = .string (str (Gm.tg f key v aad c size))
 rfl

theorem gmXor (f : Nat → BitVec 64) (p g : Nat) (key v c : List (BitVec 8)) (hok : Aes.okKey key.length) (hcl : c.length ≤ 70000) (w0 : World) (r_g : Row w0 g 57 4 (fun j => if j < 1 then .string (str key) else if j < 2 then .string (str (Gm.hk key)) else if j < 3 then pt p 0 else .string (str (Gm.first f key v)))) : Calls Tryd.prog 18 #[pt g 0, .string (str c)] w0 fun e w' => e = .returned (.string (str (Gm.xr f key v c))) ∧ Below w0.heap.size w0 w' := by
 refine enter (n := 29) Tryd.func18 rfl rfl rfl ?_
 have hk : Below w0.heap.size w0 w0 := Below.refl _ _
 have lt_g := r_g.lt
 refine sr ?_
 refine w_as (evc (.string (str ([] : List (BitVec 8))))) ?_
 refine nt ?_
 refine sr ?_
 refine w_mv (ex (pt g 0)) ?_
 refine w_val (y_nc (ex (pt g 0))) ?_
 refine w_val (v := pt g 3) (y_off (y_fa (ex (pt g 0)) (GcmAT.fa57_1 _ _)) (by first | rfl | omega)) ?_
 refine w_val (v := .string (str (Gm.first f key v))) (y_ld (ex (pt g 3)) GcmAT.sc9 (r_g.val (by omega) ((if_neg (by omega)).trans ((if_neg (by omega)).trans ((if_neg (by omega)).trans (by first | with_reducible rfl | (with_reducible congr 1 <;> omega) | (with_reducible congr 2 <;> omega) | (with_reducible congr 3 <;> omega) | rfl)))))) ?_
 refine w_call (Tryd.func37) (by kernel_rfl) rfl (m3 es Ev.c (evc (U64 (1#64)))) (next_y (Gm.first f key v) 4 (Gm.first_len _ _ _) (by decide) (by decide) 1 (by decide) w0) ?_
 rintro _ w1 ⟨rfl, hb2⟩
 refine ⟨_, rfl, ?_⟩
 replace r_g := r_g.step hb2
 replace hk := thenB hk hb2
 refine w_mv (ex (.tuple #[.string (str (Ct.nx (Gm.first f key v) 4 1)), .int .i64 0])) ?_
 refine w_val ye ?_
 refine w_val ye ?_
 refine w_as es ?_
 refine w_as ei ?_
 refine nt ?_
 refine sr ?_
 refine w_mv (ex (pt g 0)) ?_
 refine w_val (y_nc (ex (pt g 0))) ?_
 refine w_val (v := pt g 0) (y_off (y_fa (ex (pt g 0)) (GcmAT.fa57_0 _ _)) (by first | rfl | omega)) ?_
 refine w_val (v := pt g 0) (y_off (y_fa (ex (pt g 0)) (GcmAT.fa55_0 _ _)) (by first | rfl | omega)) ?_
 refine w_val (v := .string (str key)) (y_ld (ex (pt g 0)) GcmAT.sc9 (r_g.val (by omega) (etv (if_pos (by omega))))) ?_
 refine w_mv es ?_
 refine w_mv es ?_
 refine w_call (Tryd.func38) (by kernel_rfl) rfl (m4 es es Ev.c es) (ctrXor_y key c hok (Ct.nx (Gm.first f key v) 4 1) 4 (Ct.length_nx _ _ _ (Gm.first_len _ _ _)) (by decide) (by decide) hcl w1) ?_
 rintro _ w3 ⟨rfl, hb4⟩
 refine ⟨_, rfl, ?_⟩
 replace r_g := r_g.step hb4
 replace hk := thenB hk hb4
 refine w_mv (ex (.tuple #[.string (str (Ct.x key (Ct.nx (Gm.first f key v) 4 1) 4 c)), .int .i64 0])) ?_
 refine w_val ye ?_
 refine w_val ye ?_
 refine w_as es ?_
 refine w_as ei ?_
 refine nt ?_
 refine sr ?_
 refine w_mv es ?_
 refine w_as es ?_
 refine nt ?_
 refine wp_ret ?_
 refine fin_ret1 rfl es ?_
 refine ⟨congrArg Ending.returned ?_, hk⟩
 show (.string (str (Ct.x key (Ct.nx (Gm.first f key v) 4 1) 4 c)) : Value) = .string (str (Gm.xr f key v c))
 rfl
end Go.Proofs.YtkjdejadambffaaDoor
