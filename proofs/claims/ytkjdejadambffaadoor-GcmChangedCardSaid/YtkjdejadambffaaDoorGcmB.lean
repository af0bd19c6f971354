/-
  Sealing and opening, by the program. Conditions as each says.
-/
import Derived.Test.YtkjdejadambffaaDoorRows
import Derived.Test.YtkjdejadambffaaDoorGcmA
import Derived.Test.YtkjdejadambffaaDoorGen
import Derived.ProofKit
namespace Go.Proofs.YtkjdejadambffaaDoor
open Go.RowKit
set_option linter.unusedSimpArgs false
set_option linter.unusedVariables false
set_option maxRecDepth 100000
set_option maxHeartbeats 1000000
namespace GcmBT
theorem mixed : Tryd.prog.follows .mixedOrders = true := by kernel_rfl
theorem fa55_0 (g off : Nat) : ∀ w, (Instr.fieldAt 55 (.pointer (some ⟨g, off, none⟩)) 0).run Tryd.prog w = .ok (.pointer (some ⟨g, off + 0, none⟩)) w := fun w => by kernel_rfl
theorem fa55_1 (g off : Nat) : ∀ w, (Instr.fieldAt 55 (.pointer (some ⟨g, off, none⟩)) 1).run Tryd.prog w = .ok (.pointer (some ⟨g, off + 1, none⟩)) w := fun w => by kernel_rfl
theorem fa55_2 (g off : Nat) : ∀ w, (Instr.fieldAt 55 (.pointer (some ⟨g, off, none⟩)) 2).run Tryd.prog w = .ok (.pointer (some ⟨g, off + 2, none⟩)) w := fun w => by kernel_rfl
theorem fa57_0 (g off : Nat) : ∀ w, (Instr.fieldAt 57 (.pointer (some ⟨g, off, none⟩)) 0).run Tryd.prog w = .ok (.pointer (some ⟨g, off + 0, none⟩)) w := fun w => by kernel_rfl
theorem fa57_1 (g off : Nat) : ∀ w, (Instr.fieldAt 57 (.pointer (some ⟨g, off, none⟩)) 1).run Tryd.prog w = .ok (.pointer (some ⟨g, off + 3, none⟩)) w := fun w => by kernel_rfl
theorem sc51 : (Tryd.prog.underlying 51).map scal = some true := by rw [Tryd.underlying51]; rfl
theorem sc9 : (Tryd.prog.underlying 9).map scal = some true := by rw [Tryd.underlying9]; rfl
theorem so3 : (Tryd.prog.underlying 3).isSome = true := by rw [Tryd.underlying3]; rfl
theorem sz9 : (Tryd.prog.info? 9).map (·.size) = some 1 := by kernel_rfl
end GcmBT
theorem gmTag5_k (key v aad : List (BitVec 8)) (size : Int) (hok : ¬ Aes.okKey key.length) (text : List (BitVec 8)) (w0 : World) : Calls Tryd.prog 12 #[.string (str key), .string (str v), .string (str aad), .string (str text), .int .i64 size] w0 fun e w' => e = .returned (.tuple #[.string (str ([] : List (BitVec 8))), .int .i64 3]) ∧ Below w0.heap.size w0 w' := by
 refine enter (n := 33) Tryd.func12 rfl rfl rfl ?_
 have hk : Below w0.heap.size w0 w0 := Below.refl _ _
 refine sr ?_
 refine w_as (evc (.string (str ([] : List (BitVec 8))))) ?_
 refine w_as Ev.c ?_
 refine nt ?_
 refine sr ?_
 refine w_mv es ?_
 refine w_mv es ?_
 refine w_mv es ?_
 refine w_mv ei ?_
 refine w_call (Tryd.func17) (by kernel_rfl) rfl (m4 es es es ei) (gmBegin_k key v aad size hok w0) ?_
 rintro _ w1 ⟨rfl, hb2⟩
 refine ⟨_, rfl, ?_⟩
 replace hk := thenB hk hb2
 refine w_mv (ex (.tuple #[.pointer none, .int .i64 3])) ?_
 refine w_val ye ?_
 refine w_val ye ?_
 refine w_as (ex (.pointer none)) ?_
 refine w_as ei ?_
 refine nt ?_
 refine wp_seq ?_
 refine sr ?_
 refine w_mv ei ?_
 refine w_val (y_bin ei Ev.c b_neq) ?_
 refine nt ?_
 refine c_tt eb ?_
 refine sr ?_
 refine w_mv ei ?_
 refine w_as (evc (.string (str ([] : List (BitVec 8))))) ?_
 refine w_as ei ?_
 refine nt ?_
 refine wp_ret ?_
 refine then_r ?_
 refine fin_ret2 rfl es ei ?_
 exact ⟨rfl, hk⟩

theorem gmTag5_v (key v aad : List (BitVec 8)) (size : Int) (hok : Aes.okKey key.length) (hv : ¬ (1 ≤ v.length ∧ v.length ≤ 1024)) (text : List (BitVec 8)) (w0 : World) : Calls Tryd.prog 12 #[.string (str key), .string (str v), .string (str aad), .string (str text), .int .i64 size] w0 fun e w' => e = .returned (.tuple #[.string (str ([] : List (BitVec 8))), .int .i64 4]) ∧ Below w0.heap.size w0 w' := by
 refine enter (n := 33) Tryd.func12 rfl rfl rfl ?_
 have hk : Below w0.heap.size w0 w0 := Below.refl _ _
 refine sr ?_
 refine w_as (evc (.string (str ([] : List (BitVec 8))))) ?_
 refine w_as Ev.c ?_
 refine nt ?_
 refine sr ?_
 refine w_mv es ?_
 refine w_mv es ?_
 refine w_mv es ?_
 refine w_mv ei ?_
 refine w_call (Tryd.func17) (by kernel_rfl) rfl (m4 es es es ei) (gmBegin_v key v aad size hok hv w0) ?_
 rintro _ w1 ⟨rfl, hb2⟩
 refine ⟨_, rfl, ?_⟩
 replace hk := thenB hk hb2
 refine w_mv (ex (.tuple #[.pointer none, .int .i64 4])) ?_
 refine w_val ye ?_
 refine w_val ye ?_
 refine w_as (ex (.pointer none)) ?_
 refine w_as ei ?_
 refine nt ?_
 refine wp_seq ?_
 refine sr ?_
 refine w_mv ei ?_
 refine w_val (y_bin ei Ev.c b_neq) ?_
 refine nt ?_
 refine c_tt eb ?_
 refine sr ?_
 refine w_mv ei ?_
 refine w_as (evc (.string (str ([] : List (BitVec 8))))) ?_
 refine w_as ei ?_
 refine nt ?_
 refine wp_ret ?_
 refine then_r ?_
 refine fin_ret2 rfl es ei ?_
 exact ⟨rfl, hk⟩

theorem gmTag5_t (key v aad : List (BitVec 8)) (size : Int) (hok : Aes.okKey key.length) (hv : 1 ≤ v.length ∧ v.length ≤ 1024) (ht : ¬ (12 ≤ size ∧ size ≤ 16)) (text : List (BitVec 8)) (w0 : World) : Calls Tryd.prog 12 #[.string (str key), .string (str v), .string (str aad), .string (str text), .int .i64 size] w0 fun e w' => e = .returned (.tuple #[.string (str ([] : List (BitVec 8))), .int .i64 5]) ∧ Below w0.heap.size w0 w' := by
 refine enter (n := 33) Tryd.func12 rfl rfl rfl ?_
 have hk : Below w0.heap.size w0 w0 := Below.refl _ _
 refine sr ?_
 refine w_as (evc (.string (str ([] : List (BitVec 8))))) ?_
 refine w_as Ev.c ?_
 refine nt ?_
 refine sr ?_
 refine w_mv es ?_
 refine w_mv es ?_
 refine w_mv es ?_
 refine w_mv ei ?_
 refine w_call (Tryd.func17) (by kernel_rfl) rfl (m4 es es es ei) (gmBegin_t key v aad size hok hv ht w0) ?_
 rintro _ w1 ⟨rfl, hb2⟩
 refine ⟨_, rfl, ?_⟩
 replace hk := thenB hk hb2
 refine w_mv (ex (.tuple #[.pointer none, .int .i64 5])) ?_
 refine w_val ye ?_
 refine w_val ye ?_
 refine w_as (ex (.pointer none)) ?_
 refine w_as ei ?_
 refine nt ?_
 refine wp_seq ?_
 refine sr ?_
 refine w_mv ei ?_
 refine w_val (y_bin ei Ev.c b_neq) ?_
 refine nt ?_
 refine c_tt eb ?_
 refine sr ?_
 refine w_mv ei ?_
 refine w_as (evc (.string (str ([] : List (BitVec 8))))) ?_
 refine w_as ei ?_
 refine nt ?_
 refine wp_ret ?_
 refine then_r ?_
 refine fin_ret2 rfl es ei ?_
 exact ⟨rfl, hk⟩

theorem gmTag5_a (key v aad : List (BitVec 8)) (size : Nat) (hok : Aes.okKey key.length) (hv : 1 ≤ v.length ∧ v.length ≤ 1024) (h12 : 12 ≤ size) (h16 : size ≤ 16) (ha : 70000 < aad.length) (text : List (BitVec 8)) (w0 : World) : Calls Tryd.prog 12 #[.string (str key), .string (str v), .string (str aad), .string (str text), .int .i64 ((size : Nat) : Int)] w0 fun e w' => e = .returned (.tuple #[.string (str ([] : List (BitVec 8))), .int .i64 6]) ∧ Below w0.heap.size w0 w' := by
 refine enter (n := 33) Tryd.func12 rfl rfl rfl ?_
 have hk : Below w0.heap.size w0 w0 := Below.refl _ _
 refine sr ?_
 refine w_as (evc (.string (str ([] : List (BitVec 8))))) ?_
 refine w_as Ev.c ?_
 refine nt ?_
 refine sr ?_
 refine w_mv es ?_
 refine w_mv es ?_
 refine w_mv es ?_
 refine w_mv ei ?_
 refine w_call (Tryd.func17) (by kernel_rfl) rfl (m4 es es es ei) (gmBegin_a key v aad size hok hv h12 h16 ha w0) ?_
 rintro _ w1 ⟨rfl, hb2⟩
 refine ⟨_, rfl, ?_⟩
 replace hk := thenB hk hb2
 refine w_mv (ex (.tuple #[.pointer none, .int .i64 6])) ?_
 refine w_val ye ?_
 refine w_val ye ?_
 refine w_as (ex (.pointer none)) ?_
 refine w_as ei ?_
 refine nt ?_
 refine wp_seq ?_
 refine sr ?_
 refine w_mv ei ?_
 refine w_val (y_bin ei Ev.c b_neq) ?_
 refine nt ?_
 refine c_tt eb ?_
 refine sr ?_
 refine w_mv ei ?_
 refine w_as (evc (.string (str ([] : List (BitVec 8))))) ?_
 refine w_as ei ?_
 refine nt ?_
 refine wp_ret ?_
 refine then_r ?_
 refine fin_ret2 rfl es ei ?_
 exact ⟨rfl, hk⟩

theorem gmTag5_z (f : Nat → BitVec 64) (key v aad : List (BitVec 8)) (size : Nat) (hok : Aes.okKey key.length) (hv : 1 ≤ v.length ∧ v.length ≤ 1024) (h12 : 12 ≤ size) (h16 : size ≤ 16) (ha : aad.length ≤ 70000) (text : List (BitVec 8)) (hl : text.length ≤ 1000000000000000) (ht : 70000 < text.length) (w0 : World) (hF : Gh.Fold w0 f) : Calls Tryd.prog 12 #[.string (str key), .string (str v), .string (str aad), .string (str text), .int .i64 ((size : Nat) : Int)] w0 fun e w' => e = .returned (.tuple #[.string (str ([] : List (BitVec 8))), .int .i64 6]) ∧ Below w0.heap.size w0 w' := by
 refine enter (n := 33) Tryd.func12 rfl rfl rfl ?_
 have hk : Below w0.heap.size w0 w0 := Below.refl _ _
 refine sr ?_
 refine w_as (evc (.string (str ([] : List (BitVec 8))))) ?_
 refine w_as Ev.c ?_
 refine nt ?_
 refine sr ?_
 refine w_mv es ?_
 refine w_mv es ?_
 refine w_mv es ?_
 refine w_mv ei ?_
 refine w_call (Tryd.func17) (by kernel_rfl) rfl (m4 es es es ei) (gmBegin_y f key v aad size hok hv h12 h16 ha w0 hF) ?_
 rintro _ w1 ⟨p, g, rfl, hge_p, hge_g, hc, r_g, hbb⟩
 refine ⟨_, rfl, ?_⟩
 have ge_p : w0.heap.size ≤ p := by have := hk.size; omega
 have ge_g : w0.heap.size ≤ g := by have := hk.size; omega
 replace hk := thenB hk hbb
 replace hF := Gh.Fold.below hF hbb
 refine w_mv (ex (.tuple #[pt g 0, .int .i64 0])) ?_
 refine w_val ye ?_
 refine w_val ye ?_
 refine w_as (ex (pt g 0)) ?_
 refine w_as ei ?_
 refine nt ?_
 refine wp_seq ?_
 refine sr ?_
 refine w_mv ei ?_
 refine w_val (y_bin ei Ev.c b_neq) ?_
 refine nt ?_
 refine c_ff eb ?_
 refine wp_skip ?_
 refine then_n ?_
 refine wp_seq ?_
 refine sr ?_
 refine w_mv es ?_
 refine w_val (y_len es Tryd.underlying9) ?_
 refine w_val (y_bin ei Ev.c b_gtr) ?_
 refine nt ?_
 have hc2 : 70000 < ((text.length : Nat) : Int) := by omega
 refine c_t (p := 70000 < ((text.length : Nat) : Int)) eb hc2 ?_
 refine sr ?_
 refine w_as (evc (.string (str ([] : List (BitVec 8))))) ?_
 refine w_as Ev.c ?_
 refine nt ?_
 refine wp_ret ?_
 refine then_r ?_
 refine fin_ret2 rfl es ei ?_
 exact ⟨rfl, hk⟩

theorem gmTag5_y (f : Nat → BitVec 64) (key v aad : List (BitVec 8)) (size : Nat) (hok : Aes.okKey key.length) (hv : 1 ≤ v.length ∧ v.length ≤ 1024) (h12 : 12 ≤ size) (h16 : size ≤ 16) (ha : aad.length ≤ 70000) (text : List (BitVec 8)) (hl : text.length ≤ 1000000000000000) (ht : text.length ≤ 70000) (w0 : World) (hF : Gh.Fold w0 f) : Calls Tryd.prog 12 #[.string (str key), .string (str v), .string (str aad), .string (str text), .int .i64 ((size : Nat) : Int)] w0 fun e w' => e = .returned (.tuple #[.string (str (Gm.tg f key v aad text size)), .int .i64 0]) ∧ Below w0.heap.size w0 w' := by
 refine enter (n := 33) Tryd.func12 rfl rfl rfl ?_
 have hk : Below w0.heap.size w0 w0 := Below.refl _ _
 refine sr ?_
 refine w_as (evc (.string (str ([] : List (BitVec 8))))) ?_
 refine w_as Ev.c ?_
 refine nt ?_
 refine sr ?_
 refine w_mv es ?_
 refine w_mv es ?_
 refine w_mv es ?_
 refine w_mv ei ?_
 refine w_call (Tryd.func17) (by kernel_rfl) rfl (m4 es es es ei) (gmBegin_y f key v aad size hok hv h12 h16 ha w0 hF) ?_
 rintro _ w1 ⟨p, g, rfl, hge_p, hge_g, hc, r_g, hbb⟩
 refine ⟨_, rfl, ?_⟩
 have ge_p : w0.heap.size ≤ p := by have := hk.size; omega
 have ge_g : w0.heap.size ≤ g := by have := hk.size; omega
 replace hk := thenB hk hbb
 replace hF := Gh.Fold.below hF hbb
 refine w_mv (ex (.tuple #[pt g 0, .int .i64 0])) ?_
 refine w_val ye ?_
 refine w_val ye ?_
 refine w_as (ex (pt g 0)) ?_
 refine w_as ei ?_
 refine nt ?_
 refine wp_seq ?_
 refine sr ?_
 refine w_mv ei ?_
 refine w_val (y_bin ei Ev.c b_neq) ?_
 refine nt ?_
 refine c_ff eb ?_
 refine wp_skip ?_
 refine then_n ?_
 refine wp_seq ?_
 refine sr ?_
 refine w_mv es ?_
 refine w_val (y_len es Tryd.underlying9) ?_
 refine w_val (y_bin ei Ev.c b_gtr) ?_
 refine nt ?_
 have hc2 : ¬ (70000 < ((text.length : Nat) : Int)) := by omega
 refine c_f (p := 70000 < ((text.length : Nat) : Int)) eb hc2 ?_
 refine wp_skip ?_
 refine then_n ?_
 refine sr ?_
 refine w_mv (ex (pt g 0)) ?_
 refine w_mv es ?_
 refine w_mv es ?_
 refine w_mv ei ?_
 refine w_call (Tryd.func19) (by kernel_rfl) rfl (m4 (ex (pt g 0)) es es ei) (gmTag f p g key v aad text hok size h16 ha ht w1 r_g hc hF) ?_
 rintro _ w3 ⟨rfl, hb4⟩
 refine ⟨_, rfl, ?_⟩
 replace r_g := r_g.step hb4
 replace hk := thenB hk hb4
 replace hF := Gh.Fold.below hF hb4
 replace hc := hc.below hb4
 refine w_as es ?_
 refine w_as Ev.c ?_
 refine nt ?_
 refine wp_ret ?_
 refine fin_ret2 rfl es ei ?_
 exact ⟨rfl, hk⟩

theorem gmSeal_k (key v aad : List (BitVec 8)) (size : Int) (hok : ¬ Aes.okKey key.length) (text : List (BitVec 8)) (w0 : World) : Calls Tryd.prog 10 #[.string (str key), .string (str v), .string (str aad), .string (str text), .int .i64 size] w0 fun e w' => e = .returned (.tuple #[.string (str ([] : List (BitVec 8))), .int .i64 3]) ∧ Below w0.heap.size w0 w' := by
 refine enter (n := 39) Tryd.func10 rfl rfl rfl ?_
 have hk : Below w0.heap.size w0 w0 := Below.refl _ _
 refine sr ?_
 refine w_as (evc (.string (str ([] : List (BitVec 8))))) ?_
 refine w_as Ev.c ?_
 refine nt ?_
 refine sr ?_
 refine w_mv es ?_
 refine w_mv es ?_
 refine w_mv es ?_
 refine w_mv ei ?_
 refine w_call (Tryd.func17) (by kernel_rfl) rfl (m4 es es es ei) (gmBegin_k key v aad size hok w0) ?_
 rintro _ w1 ⟨rfl, hb2⟩
 refine ⟨_, rfl, ?_⟩
 replace hk := thenB hk hb2
 refine w_mv (ex (.tuple #[.pointer none, .int .i64 3])) ?_
 refine w_val ye ?_
 refine w_val ye ?_
 refine w_as (ex (.pointer none)) ?_
 refine w_as ei ?_
 refine nt ?_
 refine wp_seq ?_
 refine sr ?_
 refine w_mv ei ?_
 refine w_val (y_bin ei Ev.c b_neq) ?_
 refine nt ?_
 refine c_tt eb ?_
 refine sr ?_
 refine w_mv ei ?_
 refine w_as (evc (.string (str ([] : List (BitVec 8))))) ?_
 refine w_as ei ?_
 refine nt ?_
 refine wp_ret ?_
 refine then_r ?_
 refine fin_ret2 rfl es ei ?_
 exact ⟨rfl, hk⟩

theorem gmSeal_v (key v aad : List (BitVec 8)) (size : Int) (hok : Aes.okKey key.length) (hv : ¬ (1 ≤ v.length ∧ v.length ≤ 1024)) (text : List (BitVec 8)) (w0 : World) : Calls Tryd.prog 10 #[.string (str key), .string (str v), .string (str aad), .string (str text), .int .i64 size] w0 fun e w' => e = .returned (.tuple #[.string (str ([] : List (BitVec 8))), .int .i64 4]) ∧ Below w0.heap.size w0 w' := by
 refine enter (n := 39) Tryd.func10 rfl rfl rfl ?_
 have hk : Below w0.heap.size w0 w0 := Below.refl _ _
 refine sr ?_
 refine w_as (evc (.string (str ([] : List (BitVec 8))))) ?_
 refine w_as Ev.c ?_
 refine nt ?_
 refine sr ?_
 refine w_mv es ?_
 refine w_mv es ?_
 refine w_mv es ?_
 refine w_mv ei ?_
 refine w_call (Tryd.func17) (by kernel_rfl) rfl (m4 es es es ei) (gmBegin_v key v aad size hok hv w0) ?_
 rintro _ w1 ⟨rfl, hb2⟩
 refine ⟨_, rfl, ?_⟩
 replace hk := thenB hk hb2
 refine w_mv (ex (.tuple #[.pointer none, .int .i64 4])) ?_
 refine w_val ye ?_
 refine w_val ye ?_
 refine w_as (ex (.pointer none)) ?_
 refine w_as ei ?_
 refine nt ?_
 refine wp_seq ?_
 refine sr ?_
 refine w_mv ei ?_
 refine w_val (y_bin ei Ev.c b_neq) ?_
 refine nt ?_
 refine c_tt eb ?_
 refine sr ?_
 refine w_mv ei ?_
 refine w_as (evc (.string (str ([] : List (BitVec 8))))) ?_
 refine w_as ei ?_
 refine nt ?_
 refine wp_ret ?_
 refine then_r ?_
 refine fin_ret2 rfl es ei ?_
 exact ⟨rfl, hk⟩

theorem gmSeal_t (key v aad : List (BitVec 8)) (size : Int) (hok : Aes.okKey key.length) (hv : 1 ≤ v.length ∧ v.length ≤ 1024) (ht : ¬ (12 ≤ size ∧ size ≤ 16)) (text : List (BitVec 8)) (w0 : World) : Calls Tryd.prog 10 #[.string (str key), .string (str v), .string (str aad), .string (str text), .int .i64 size] w0 fun e w' => e = .returned (.tuple #[.string (str ([] : List (BitVec 8))), .int .i64 5]) ∧ Below w0.heap.size w0 w' := by
 refine enter (n := 39) Tryd.func10 rfl rfl rfl ?_
 have hk : Below w0.heap.size w0 w0 := Below.refl _ _
 refine sr ?_
 refine w_as (evc (.string (str ([] : List (BitVec 8))))) ?_
 refine w_as Ev.c ?_
 refine nt ?_
 refine sr ?_
 refine w_mv es ?_
 refine w_mv es ?_
 refine w_mv es ?_
 refine w_mv ei ?_
 refine w_call (Tryd.func17) (by kernel_rfl) rfl (m4 es es es ei) (gmBegin_t key v aad size hok hv ht w0) ?_
 rintro _ w1 ⟨rfl, hb2⟩
 refine ⟨_, rfl, ?_⟩
 replace hk := thenB hk hb2
 refine w_mv (ex (.tuple #[.pointer none, .int .i64 5])) ?_
 refine w_val ye ?_
 refine w_val ye ?_
 refine w_as (ex (.pointer none)) ?_
 refine w_as ei ?_
 refine nt ?_
 refine wp_seq ?_
 refine sr ?_
 refine w_mv ei ?_
 refine w_val (y_bin ei Ev.c b_neq) ?_
 refine nt ?_
 refine c_tt eb ?_
 refine sr ?_
 refine w_mv ei ?_
 refine w_as (evc (.string (str ([] : List (BitVec 8))))) ?_
 refine w_as ei ?_
 refine nt ?_
 refine wp_ret ?_
 refine then_r ?_
 refine fin_ret2 rfl es ei ?_
 exact ⟨rfl, hk⟩

theorem gmSeal_a (key v aad : List (BitVec 8)) (size : Nat) (hok : Aes.okKey key.length) (hv : 1 ≤ v.length ∧ v.length ≤ 1024) (h12 : 12 ≤ size) (h16 : size ≤ 16) (ha : 70000 < aad.length) (text : List (BitVec 8)) (w0 : World) : Calls Tryd.prog 10 #[.string (str key), .string (str v), .string (str aad), .string (str text), .int .i64 ((size : Nat) : Int)] w0 fun e w' => e = .returned (.tuple #[.string (str ([] : List (BitVec 8))), .int .i64 6]) ∧ Below w0.heap.size w0 w' := by
 refine enter (n := 39) Tryd.func10 rfl rfl rfl ?_
 have hk : Below w0.heap.size w0 w0 := Below.refl _ _
 refine sr ?_
 refine w_as (evc (.string (str ([] : List (BitVec 8))))) ?_
 refine w_as Ev.c ?_
 refine nt ?_
 refine sr ?_
 refine w_mv es ?_
 refine w_mv es ?_
 refine w_mv es ?_
 refine w_mv ei ?_
 refine w_call (Tryd.func17) (by kernel_rfl) rfl (m4 es es es ei) (gmBegin_a key v aad size hok hv h12 h16 ha w0) ?_
 rintro _ w1 ⟨rfl, hb2⟩
 refine ⟨_, rfl, ?_⟩
 replace hk := thenB hk hb2
 refine w_mv (ex (.tuple #[.pointer none, .int .i64 6])) ?_
 refine w_val ye ?_
 refine w_val ye ?_
 refine w_as (ex (.pointer none)) ?_
 refine w_as ei ?_
 refine nt ?_
 refine wp_seq ?_
 refine sr ?_
 refine w_mv ei ?_
 refine w_val (y_bin ei Ev.c b_neq) ?_
 refine nt ?_
 refine c_tt eb ?_
 refine sr ?_
 refine w_mv ei ?_
 refine w_as (evc (.string (str ([] : List (BitVec 8))))) ?_
 refine w_as ei ?_
 refine nt ?_
 refine wp_ret ?_
 refine then_r ?_
 refine fin_ret2 rfl es ei ?_
 exact ⟨rfl, hk⟩

theorem gmSeal_z (f : Nat → BitVec 64) (key v aad : List (BitVec 8)) (size : Nat) (hok : Aes.okKey key.length) (hv : 1 ≤ v.length ∧ v.length ≤ 1024) (h12 : 12 ≤ size) (h16 : size ≤ 16) (ha : aad.length ≤ 70000) (text : List (BitVec 8)) (hl : text.length ≤ 1000000000000000) (ht : 70000 < text.length) (w0 : World) (hF : Gh.Fold w0 f) : Calls Tryd.prog 10 #[.string (str key), .string (str v), .string (str aad), .string (str text), .int .i64 ((size : Nat) : Int)] w0 fun e w' => e = .returned (.tuple #[.string (str ([] : List (BitVec 8))), .int .i64 6]) ∧ Below w0.heap.size w0 w' := by
 refine enter (n := 39) Tryd.func10 rfl rfl rfl ?_
 have hk : Below w0.heap.size w0 w0 := Below.refl _ _
 refine sr ?_
 refine w_as (evc (.string (str ([] : List (BitVec 8))))) ?_
 refine w_as Ev.c ?_
 refine nt ?_
 refine sr ?_
 refine w_mv es ?_
 refine w_mv es ?_
 refine w_mv es ?_
 refine w_mv ei ?_
 refine w_call (Tryd.func17) (by kernel_rfl) rfl (m4 es es es ei) (gmBegin_y f key v aad size hok hv h12 h16 ha w0 hF) ?_
 rintro _ w1 ⟨p, g, rfl, hge_p, hge_g, hc, r_g, hbb⟩
 refine ⟨_, rfl, ?_⟩
 have ge_p : w0.heap.size ≤ p := by have := hk.size; omega
 have ge_g : w0.heap.size ≤ g := by have := hk.size; omega
 replace hk := thenB hk hbb
 replace hF := Gh.Fold.below hF hbb
 refine w_mv (ex (.tuple #[pt g 0, .int .i64 0])) ?_
 refine w_val ye ?_
 refine w_val ye ?_
 refine w_as (ex (pt g 0)) ?_
 refine w_as ei ?_
 refine nt ?_
 refine wp_seq ?_
 refine sr ?_
 refine w_mv ei ?_
 refine w_val (y_bin ei Ev.c b_neq) ?_
 refine nt ?_
 refine c_ff eb ?_
 refine wp_skip ?_
 refine then_n ?_
 refine wp_seq ?_
 refine sr ?_
 refine w_mv es ?_
 refine w_val (y_len es Tryd.underlying9) ?_
 refine w_val (y_bin ei Ev.c b_gtr) ?_
 refine nt ?_
 have hc2 : 70000 < ((text.length : Nat) : Int) := by omega
 refine c_t (p := 70000 < ((text.length : Nat) : Int)) eb hc2 ?_
 refine sr ?_
 refine w_as (evc (.string (str ([] : List (BitVec 8))))) ?_
 refine w_as Ev.c ?_
 refine nt ?_
 refine wp_ret ?_
 refine then_r ?_
 refine fin_ret2 rfl es ei ?_
 exact ⟨rfl, hk⟩

theorem gmSeal_y (f : Nat → BitVec 64) (key v aad : List (BitVec 8)) (size : Nat) (hok : Aes.okKey key.length) (hv : 1 ≤ v.length ∧ v.length ≤ 1024) (h12 : 12 ≤ size) (h16 : size ≤ 16) (ha : aad.length ≤ 70000) (text : List (BitVec 8)) (hl : text.length ≤ 1000000000000000) (ht : text.length ≤ 70000) (w0 : World) (hF : Gh.Fold w0 f) : Calls Tryd.prog 10 #[.string (str key), .string (str v), .string (str aad), .string (str text), .int .i64 ((size : Nat) : Int)] w0 fun e w' => e = .returned (.tuple #[.string (str (Gm.sealed f key v aad text size)), .int .i64 0]) ∧ Below w0.heap.size w0 w' := by
 refine enter (n := 39) Tryd.func10 rfl rfl rfl ?_
 have hk : Below w0.heap.size w0 w0 := Below.refl _ _
 refine sr ?_
 refine w_as (evc (.string (str ([] : List (BitVec 8))))) ?_
 refine w_as Ev.c ?_
 refine nt ?_
 refine sr ?_
 refine w_mv es ?_
 refine w_mv es ?_
 refine w_mv es ?_
 refine w_mv ei ?_
 refine w_call (Tryd.func17) (by kernel_rfl) rfl (m4 es es es ei) (gmBegin_y f key v aad size hok hv h12 h16 ha w0 hF) ?_
 rintro _ w1 ⟨p, g, rfl, hge_p, hge_g, hc, r_g, hbb⟩
 refine ⟨_, rfl, ?_⟩
 have ge_p : w0.heap.size ≤ p := by have := hk.size; omega
 have ge_g : w0.heap.size ≤ g := by have := hk.size; omega
 replace hk := thenB hk hbb
 replace hF := Gh.Fold.below hF hbb
 refine w_mv (ex (.tuple #[pt g 0, .int .i64 0])) ?_
 refine w_val ye ?_
 refine w_val ye ?_
 refine w_as (ex (pt g 0)) ?_
 refine w_as ei ?_
 refine nt ?_
 refine wp_seq ?_
 refine sr ?_
 refine w_mv ei ?_
 refine w_val (y_bin ei Ev.c b_neq) ?_
 refine nt ?_
 refine c_ff eb ?_
 refine wp_skip ?_
 refine then_n ?_
 refine wp_seq ?_
 refine sr ?_
 refine w_mv es ?_
 refine w_val (y_len es Tryd.underlying9) ?_
 refine w_val (y_bin ei Ev.c b_gtr) ?_
 refine nt ?_
 have hc2 : ¬ (70000 < ((text.length : Nat) : Int)) := by omega
 refine c_f (p := 70000 < ((text.length : Nat) : Int)) eb hc2 ?_
 refine wp_skip ?_
 refine then_n ?_
 refine sr ?_
 refine w_mv (ex (pt g 0)) ?_
 refine w_mv es ?_
 refine w_call (Tryd.func18) (by kernel_rfl) rfl (m2 (ex (pt g 0)) es) (gmXor f p g key v text hok ht w1 r_g) ?_
 rintro _ w3 ⟨rfl, hb4⟩
 refine ⟨_, rfl, ?_⟩
 replace r_g := r_g.step hb4
 replace hk := thenB hk hb4
 replace hF := Gh.Fold.below hF hb4
 replace hc := hc.below hb4
 refine w_as es ?_
 refine nt ?_
 refine sr ?_
 refine w_mv es ?_
 refine w_mv (ex (pt g 0)) ?_
 refine w_mv es ?_
 refine w_mv es ?_
 refine w_mv ei ?_
 refine w_call (Tryd.func19) (by kernel_rfl) rfl (m4 (ex (pt g 0)) es es ei) (gmTag f p g key v aad (Gm.xr f key v text) hok size h16 ha (by simp only [Gm.xr_len, List.length_take]; omega) w3 r_g hc hF) ?_
 rintro _ w5 ⟨rfl, hb6⟩
 refine ⟨_, rfl, ?_⟩
 replace r_g := r_g.step hb6
 replace hk := thenB hk hb6
 replace hF := Gh.Fold.below hF hb6
 replace hc := hc.below hb6
 refine w_val (y_bin es es (b_cat (by rw [Gm.xr_len, Gm.tg_len _ _ _ _ _ _ hok h16]; omega))) ?_
 refine w_as es ?_
 refine w_as Ev.c ?_
 refine nt ?_
 refine wp_ret ?_
 refine fin_ret2 rfl es ei ?_
 refine ⟨congrArg Ending.returned ?_, hk⟩
 show (.tuple #[.string (str ((Gm.xr f key v text) ++ (Gm.tg f key v aad (Gm.xr f key v text) size))), .int .i64 0] : Value) = .tuple #[.string (str (Gm.sealed f key v aad text size)), .int .i64 0]
 first | with_reducible rfl | (with_reducible congr 1 <;> omega) | (with_reducible congr 2 <;> omega) | (with_reducible congr 3 <;> omega) | rfl

theorem gmOpen_k (key v aad : List (BitVec 8)) (size : Int) (hok : ¬ Aes.okKey key.length) (text : List (BitVec 8)) (w0 : World) : Calls Tryd.prog 14 #[.string (str key), .string (str v), .string (str aad), .string (str text), .int .i64 size] w0 fun e w' => e = .returned (.tuple #[.string (str ([] : List (BitVec 8))), .int .i64 3]) ∧ Below w0.heap.size w0 w' := by
 refine enter (n := 53) Tryd.func14 rfl rfl rfl ?_
 have hk : Below w0.heap.size w0 w0 := Below.refl _ _
 refine sr ?_
 refine w_as (evc (.string (str ([] : List (BitVec 8))))) ?_
 refine w_as Ev.c ?_
 refine nt ?_
 refine sr ?_
 refine w_mv es ?_
 refine w_mv es ?_
 refine w_mv es ?_
 refine w_mv ei ?_
 refine w_call (Tryd.func17) (by kernel_rfl) rfl (m4 es es es ei) (gmBegin_k key v aad size hok w0) ?_
 rintro _ w1 ⟨rfl, hb2⟩
 refine ⟨_, rfl, ?_⟩
 replace hk := thenB hk hb2
 refine w_mv (ex (.tuple #[.pointer none, .int .i64 3])) ?_
 refine w_val ye ?_
 refine w_val ye ?_
 refine w_as (ex (.pointer none)) ?_
 refine w_as ei ?_
 refine nt ?_
 refine wp_seq ?_
 refine sr ?_
 refine w_mv ei ?_
 refine w_val (y_bin ei Ev.c b_neq) ?_
 refine nt ?_
 refine c_tt eb ?_
 refine sr ?_
 refine w_mv ei ?_
 refine w_as (evc (.string (str ([] : List (BitVec 8))))) ?_
 refine w_as ei ?_
 refine nt ?_
 refine wp_ret ?_
 refine then_r ?_
 refine fin_ret2 rfl es ei ?_
 exact ⟨rfl, hk⟩

theorem gmOpen_v (key v aad : List (BitVec 8)) (size : Int) (hok : Aes.okKey key.length) (hv : ¬ (1 ≤ v.length ∧ v.length ≤ 1024)) (text : List (BitVec 8)) (w0 : World) : Calls Tryd.prog 14 #[.string (str key), .string (str v), .string (str aad), .string (str text), .int .i64 size] w0 fun e w' => e = .returned (.tuple #[.string (str ([] : List (BitVec 8))), .int .i64 4]) ∧ Below w0.heap.size w0 w' := by
 refine enter (n := 53) Tryd.func14 rfl rfl rfl ?_
 have hk : Below w0.heap.size w0 w0 := Below.refl _ _
 refine sr ?_
 refine w_as (evc (.string (str ([] : List (BitVec 8))))) ?_
 refine w_as Ev.c ?_
 refine nt ?_
 refine sr ?_
 refine w_mv es ?_
 refine w_mv es ?_
 refine w_mv es ?_
 refine w_mv ei ?_
 refine w_call (Tryd.func17) (by kernel_rfl) rfl (m4 es es es ei) (gmBegin_v key v aad size hok hv w0) ?_
 rintro _ w1 ⟨rfl, hb2⟩
 refine ⟨_, rfl, ?_⟩
 replace hk := thenB hk hb2
 refine w_mv (ex (.tuple #[.pointer none, .int .i64 4])) ?_
 refine w_val ye ?_
 refine w_val ye ?_
 refine w_as (ex (.pointer none)) ?_
 refine w_as ei ?_
 refine nt ?_
 refine wp_seq ?_
 refine sr ?_
 refine w_mv ei ?_
 refine w_val (y_bin ei Ev.c b_neq) ?_
 refine nt ?_
 refine c_tt eb ?_
 refine sr ?_
 refine w_mv ei ?_
 refine w_as (evc (.string (str ([] : List (BitVec 8))))) ?_
 refine w_as ei ?_
 refine nt ?_
 refine wp_ret ?_
 refine then_r ?_
 refine fin_ret2 rfl es ei ?_
 exact ⟨rfl, hk⟩

theorem gmOpen_t (key v aad : List (BitVec 8)) (size : Int) (hok : Aes.okKey key.length) (hv : 1 ≤ v.length ∧ v.length ≤ 1024) (ht : ¬ (12 ≤ size ∧ size ≤ 16)) (text : List (BitVec 8)) (w0 : World) : Calls Tryd.prog 14 #[.string (str key), .string (str v), .string (str aad), .string (str text), .int .i64 size] w0 fun e w' => e = .returned (.tuple #[.string (str ([] : List (BitVec 8))), .int .i64 5]) ∧ Below w0.heap.size w0 w' := by
 refine enter (n := 53) Tryd.func14 rfl rfl rfl ?_
 have hk : Below w0.heap.size w0 w0 := Below.refl _ _
 refine sr ?_
 refine w_as (evc (.string (str ([] : List (BitVec 8))))) ?_
 refine w_as Ev.c ?_
 refine nt ?_
 refine sr ?_
 refine w_mv es ?_
 refine w_mv es ?_
 refine w_mv es ?_
 refine w_mv ei ?_
 refine w_call (Tryd.func17) (by kernel_rfl) rfl (m4 es es es ei) (gmBegin_t key v aad size hok hv ht w0) ?_
 rintro _ w1 ⟨rfl, hb2⟩
 refine ⟨_, rfl, ?_⟩
 replace hk := thenB hk hb2
 refine w_mv (ex (.tuple #[.pointer none, .int .i64 5])) ?_
 refine w_val ye ?_
 refine w_val ye ?_
 refine w_as (ex (.pointer none)) ?_
 refine w_as ei ?_
 refine nt ?_
 refine wp_seq ?_
 refine sr ?_
 refine w_mv ei ?_
 refine w_val (y_bin ei Ev.c b_neq) ?_
 refine nt ?_
 refine c_tt eb ?_
 refine sr ?_
 refine w_mv ei ?_
 refine w_as (evc (.string (str ([] : List (BitVec 8))))) ?_
 refine w_as ei ?_
 refine nt ?_
 refine wp_ret ?_
 refine then_r ?_
 refine fin_ret2 rfl es ei ?_
 exact ⟨rfl, hk⟩

theorem gmOpen_a (key v aad : List (BitVec 8)) (size : Nat) (hok : Aes.okKey key.length) (hv : 1 ≤ v.length ∧ v.length ≤ 1024) (h12 : 12 ≤ size) (h16 : size ≤ 16) (ha : 70000 < aad.length) (text : List (BitVec 8)) (w0 : World) : Calls Tryd.prog 14 #[.string (str key), .string (str v), .string (str aad), .string (str text), .int .i64 ((size : Nat) : Int)] w0 fun e w' => e = .returned (.tuple #[.string (str ([] : List (BitVec 8))), .int .i64 6]) ∧ Below w0.heap.size w0 w' := by
 refine enter (n := 53) Tryd.func14 rfl rfl rfl ?_
 have hk : Below w0.heap.size w0 w0 := Below.refl _ _
 refine sr ?_
 refine w_as (evc (.string (str ([] : List (BitVec 8))))) ?_
 refine w_as Ev.c ?_
 refine nt ?_
 refine sr ?_
 refine w_mv es ?_
 refine w_mv es ?_
 refine w_mv es ?_
 refine w_mv ei ?_
 refine w_call (Tryd.func17) (by kernel_rfl) rfl (m4 es es es ei) (gmBegin_a key v aad size hok hv h12 h16 ha w0) ?_
 rintro _ w1 ⟨rfl, hb2⟩
 refine ⟨_, rfl, ?_⟩
 replace hk := thenB hk hb2
 refine w_mv (ex (.tuple #[.pointer none, .int .i64 6])) ?_
 refine w_val ye ?_
 refine w_val ye ?_
 refine w_as (ex (.pointer none)) ?_
 refine w_as ei ?_
 refine nt ?_
 refine wp_seq ?_
 refine sr ?_
 refine w_mv ei ?_
 refine w_val (y_bin ei Ev.c b_neq) ?_
 refine nt ?_
 refine c_tt eb ?_
 refine sr ?_
 refine w_mv ei ?_
 refine w_as (evc (.string (str ([] : List (BitVec 8))))) ?_
 refine w_as ei ?_
 refine nt ?_
 refine wp_ret ?_
 refine then_r ?_
 refine fin_ret2 rfl es ei ?_
 exact ⟨rfl, hk⟩

theorem gmOpen_s (f : Nat → BitVec 64) (key v aad : List (BitVec 8)) (size : Nat) (hok : Aes.okKey key.length) (hv : 1 ≤ v.length ∧ v.length ≤ 1024) (h12 : 12 ≤ size) (h16 : size ≤ 16) (ha : aad.length ≤ 70000) (text : List (BitVec 8)) (hl : text.length ≤ 1000000000000000) (hs : text.length < size) (w0 : World) (hF : Gh.Fold w0 f) : Calls Tryd.prog 14 #[.string (str key), .string (str v), .string (str aad), .string (str text), .int .i64 ((size : Nat) : Int)] w0 fun e w' => e = .returned (.tuple #[.string (str ([] : List (BitVec 8))), .int .i64 6]) ∧ Below w0.heap.size w0 w' := by
 refine enter (n := 53) Tryd.func14 rfl rfl rfl ?_
 have hk : Below w0.heap.size w0 w0 := Below.refl _ _
 refine sr ?_
 refine w_as (evc (.string (str ([] : List (BitVec 8))))) ?_
 refine w_as Ev.c ?_
 refine nt ?_
 refine sr ?_
 refine w_mv es ?_
 refine w_mv es ?_
 refine w_mv es ?_
 refine w_mv ei ?_
 refine w_call (Tryd.func17) (by kernel_rfl) rfl (m4 es es es ei) (gmBegin_y f key v aad size hok hv h12 h16 ha w0 hF) ?_
 rintro _ w1 ⟨p, g, rfl, hge_p, hge_g, hc, r_g, hbb⟩
 refine ⟨_, rfl, ?_⟩
 have ge_p : w0.heap.size ≤ p := by have := hk.size; omega
 have ge_g : w0.heap.size ≤ g := by have := hk.size; omega
 replace hk := thenB hk hbb
 replace hF := Gh.Fold.below hF hbb
 refine w_mv (ex (.tuple #[pt g 0, .int .i64 0])) ?_
 refine w_val ye ?_
 refine w_val ye ?_
 refine w_as (ex (pt g 0)) ?_
 refine w_as ei ?_
 refine nt ?_
 refine wp_seq ?_
 refine sr ?_
 refine w_mv ei ?_
 refine w_val (y_bin ei Ev.c b_neq) ?_
 refine nt ?_
 refine c_ff eb ?_
 refine wp_skip ?_
 refine then_n ?_
 refine sr ?_
 refine w_mv es ?_
 refine w_val (y_len es Tryd.underlying9) ?_
 refine w_mv ei ?_
 refine w_val (y_bin ei ei (b_sub (by omega))) ?_
 refine w_as ei ?_
 refine nt ?_
 refine wp_seq ?_
 refine sr ?_
 refine w_mv ei ?_
 refine w_val (y_bin ei Ev.c b_lss) ?_
 refine w_mv eb ?_
 have hc2 : (((text.length : Nat) : Int) - ((size : Nat) : Int)) < 0 := by omega
 with_reducible refine w_skip ?_ ?_
 exact wn rfl rfl (eb (dt hc2))
 with_reducible refine w_skip ?_ ?_
 exact wn rfl rfl (eb (dt hc2))
 refine w_val (y_pick_t (eb (dt hc2)) Ev.c) ?_
 refine nt ?_
 refine c_tt eb ?_
 refine sr ?_
 refine w_as (evc (.string (str ([] : List (BitVec 8))))) ?_
 refine w_as Ev.c ?_
 refine nt ?_
 refine wp_ret ?_
 refine then_r ?_
 refine fin_ret2 rfl es ei ?_
 exact ⟨rfl, hk⟩

theorem gmOpen_z (f : Nat → BitVec 64) (key v aad : List (BitVec 8)) (size : Nat) (hok : Aes.okKey key.length) (hv : 1 ≤ v.length ∧ v.length ≤ 1024) (h12 : 12 ≤ size) (h16 : size ≤ 16) (ha : aad.length ≤ 70000) (text : List (BitVec 8)) (hl : text.length ≤ 1000000000000000) (m : Nat) (hm : text.length = m + size) (h7 : 70000 < m) (w0 : World) (hF : Gh.Fold w0 f) : Calls Tryd.prog 14 #[.string (str key), .string (str v), .string (str aad), .string (str text), .int .i64 ((size : Nat) : Int)] w0 fun e w' => e = .returned (.tuple #[.string (str ([] : List (BitVec 8))), .int .i64 6]) ∧ Below w0.heap.size w0 w' := by
 refine enter (n := 53) Tryd.func14 rfl rfl rfl ?_
 have hk : Below w0.heap.size w0 w0 := Below.refl _ _
 refine sr ?_
 refine w_as (evc (.string (str ([] : List (BitVec 8))))) ?_
 refine w_as Ev.c ?_
 refine nt ?_
 refine sr ?_
 refine w_mv es ?_
 refine w_mv es ?_
 refine w_mv es ?_
 refine w_mv ei ?_
 refine w_call (Tryd.func17) (by kernel_rfl) rfl (m4 es es es ei) (gmBegin_y f key v aad size hok hv h12 h16 ha w0 hF) ?_
 rintro _ w1 ⟨p, g, rfl, hge_p, hge_g, hc, r_g, hbb⟩
 refine ⟨_, rfl, ?_⟩
 have ge_p : w0.heap.size ≤ p := by have := hk.size; omega
 have ge_g : w0.heap.size ≤ g := by have := hk.size; omega
 replace hk := thenB hk hbb
 replace hF := Gh.Fold.below hF hbb
 refine w_mv (ex (.tuple #[pt g 0, .int .i64 0])) ?_
 refine w_val ye ?_
 refine w_val ye ?_
 refine w_as (ex (pt g 0)) ?_
 refine w_as ei ?_
 refine nt ?_
 refine wp_seq ?_
 refine sr ?_
 refine w_mv ei ?_
 refine w_val (y_bin ei Ev.c b_neq) ?_
 refine nt ?_
 refine c_ff eb ?_
 refine wp_skip ?_
 refine then_n ?_
 refine sr ?_
 refine w_mv es ?_
 refine w_val (y_len es Tryd.underlying9) ?_
 refine w_mv ei ?_
 refine w_val (y_bin ei ei (b_sub (by omega))) ?_
 refine w_as ei ?_
 refine nt ?_
 refine wp_seq ?_
 refine sr ?_
 refine w_mv (ex (.int .i64 ((m : Nat) : Int)) (Eq.trans (b := .int .i64 (((text.length : Nat) : Int) - ((size : Nat) : Int))) rfl (by congr 1; omega))) ?_
 refine w_val (y_bin ei Ev.c b_lss) ?_
 refine w_mv eb ?_
 have hc2 : ¬ (((m : Nat) : Int) < 0) := by omega
 refine w_val_g (v := .int .i64 ((m : Nat) : Int)) (wy rfl rfl (eb (df hc2))) (y_mv (ex (.int .i64 ((m : Nat) : Int)) (Eq.trans (b := .int .i64 (((text.length : Nat) : Int) - ((size : Nat) : Int))) rfl (by congr 1; omega)))) ?_
 refine w_val_g (wy rfl rfl (eb (df hc2))) (y_bin ei Ev.c b_gtr) ?_
 refine w_val (y_pick_f (eb (df hc2)) eb) ?_
 refine nt ?_
 have hc3 : 70000 < ((m : Nat) : Int) := by omega
 refine c_t (p := 70000 < ((m : Nat) : Int)) eb hc3 ?_
 refine sr ?_
 refine w_as (evc (.string (str ([] : List (BitVec 8))))) ?_
 refine w_as Ev.c ?_
 refine nt ?_
 refine wp_ret ?_
 refine then_r ?_
 refine fin_ret2 rfl es ei ?_
 exact ⟨rfl, hk⟩

theorem gmOpen_y (f : Nat → BitVec 64) (key v aad : List (BitVec 8)) (size : Nat) (hok : Aes.okKey key.length) (hv : 1 ≤ v.length ∧ v.length ≤ 1024) (h12 : 12 ≤ size) (h16 : size ≤ 16) (ha : aad.length ≤ 70000) (text : List (BitVec 8)) (hl : text.length ≤ 1000000000000000) (m : Nat) (hm : text.length = m + size) (h7 : m ≤ 70000) (hb : Gm.tg f key v aad (text.take m) size = text.drop m) (w0 : World) (hF : Gh.Fold w0 f) : Calls Tryd.prog 14 #[.string (str key), .string (str v), .string (str aad), .string (str text), .int .i64 ((size : Nat) : Int)] w0 fun e w' => e = .returned (.tuple #[.string (str (Gm.xr f key v (text.take m))), .int .i64 0]) ∧ Below w0.heap.size w0 w' := by
 refine enter (n := 53) Tryd.func14 rfl rfl rfl ?_
 have hk : Below w0.heap.size w0 w0 := Below.refl _ _
 refine sr ?_
 refine w_as (evc (.string (str ([] : List (BitVec 8))))) ?_
 refine w_as Ev.c ?_
 refine nt ?_
 refine sr ?_
 refine w_mv es ?_
 refine w_mv es ?_
 refine w_mv es ?_
 refine w_mv ei ?_
 refine w_call (Tryd.func17) (by kernel_rfl) rfl (m4 es es es ei) (gmBegin_y f key v aad size hok hv h12 h16 ha w0 hF) ?_
 rintro _ w1 ⟨p, g, rfl, hge_p, hge_g, hc, r_g, hbb⟩
 refine ⟨_, rfl, ?_⟩
 have ge_p : w0.heap.size ≤ p := by have := hk.size; omega
 have ge_g : w0.heap.size ≤ g := by have := hk.size; omega
 replace hk := thenB hk hbb
 replace hF := Gh.Fold.below hF hbb
 refine w_mv (ex (.tuple #[pt g 0, .int .i64 0])) ?_
 refine w_val ye ?_
 refine w_val ye ?_
 refine w_as (ex (pt g 0)) ?_
 refine w_as ei ?_
 refine nt ?_
 refine wp_seq ?_
 refine sr ?_
 refine w_mv ei ?_
 refine w_val (y_bin ei Ev.c b_neq) ?_
 refine nt ?_
 refine c_ff eb ?_
 refine wp_skip ?_
 refine then_n ?_
 refine sr ?_
 refine w_mv es ?_
 refine w_val (y_len es Tryd.underlying9) ?_
 refine w_mv ei ?_
 refine w_val (y_bin ei ei (b_sub (by omega))) ?_
 refine w_as ei ?_
 refine nt ?_
 refine wp_seq ?_
 refine sr ?_
 refine w_mv (ex (.int .i64 ((m : Nat) : Int)) (Eq.trans (b := .int .i64 (((text.length : Nat) : Int) - ((size : Nat) : Int))) rfl (by congr 1; omega))) ?_
 refine w_val (y_bin ei Ev.c b_lss) ?_
 refine w_mv eb ?_
 have hc2 : ¬ (((m : Nat) : Int) < 0) := by omega
 refine w_val_g (v := .int .i64 ((m : Nat) : Int)) (wy rfl rfl (eb (df hc2))) (y_mv (ex (.int .i64 ((m : Nat) : Int)) (Eq.trans (b := .int .i64 (((text.length : Nat) : Int) - ((size : Nat) : Int))) rfl (by congr 1; omega)))) ?_
 refine w_val_g (wy rfl rfl (eb (df hc2))) (y_bin ei Ev.c b_gtr) ?_
 refine w_val (y_pick_f (eb (df hc2)) eb) ?_
 refine nt ?_
 have hc3 : ¬ (70000 < ((m : Nat) : Int)) := by omega
 refine c_f (p := 70000 < ((m : Nat) : Int)) eb hc3 ?_
 refine wp_skip ?_
 refine then_n ?_
 refine ss ?_
 refine region_q GcmBT.mixed (by kernel_rfl) ?_
 refine q_mv (ex (pt g 0)) ?_
 refine q_mv es ?_
 refine q_mv es ?_
 refine q_mv (ex (.int .i64 ((m : Nat) : Int)) (Eq.trans (b := .int .i64 (((text.length : Nat) : Int) - ((size : Nat) : Int))) rfl (by congr 1; omega))) ?_
 refine q_val (v := .string (str (text.take m))) (fun w' hw' => y_sls (ex (.string (str text))) evo.no (evo.s ei) Tryd.underlying9 (bnd_h (h := m) (by omega) (by omega))) ?_
 refine q_mv ei ?_
 refine q_call (v := .string (str (Gm.tg f key v aad (text.take m) size))) (Tryd.func19) (by kernel_rfl) rfl (m4 (ex (pt g 0)) es es ei) (fun w' hw' => gmTag f p g key v aad (text.take m) hok size h16 ha (by simp only [Gm.xr_len, List.length_take]; omega) w' (r_g.step hw') (CiphAt.below hc hw') (Gh.Fold.below hF hw')) ?_
 refine q_mv es ?_
 refine q_mv (ex (.int .i64 ((m : Nat) : Int)) (Eq.trans (b := .int .i64 (((text.length : Nat) : Int) - ((size : Nat) : Int))) rfl (by congr 1; omega))) ?_
 refine q_val (v := .string (str (text.drop m))) (fun w' hw' => y_slf (ex (.string (str text))) (evo.s ei) Tryd.underlying9 (bnd_l (l := m) (by omega) (by omega))) ?_
 refine q_call (v := .bool (decide ((Gm.tg f key v aad (text.take m) size) = (text.drop m)))) (Tryd.func30) (by kernel_rfl) rfl (m2 es es) (fun w' hw' => same_c (Gm.tg f key v aad (text.take m) size) (text.drop m) (by rw [Gm.tg_len _ _ _ _ _ _ hok h16]; omega) w') ?_
 refine q_val (fun w' hw' => y_notp eb) ?_
 refine q_nil ?_
 intro w4 hb5
 replace r_g := r_g.step hb5
 replace hk := thenB hk hb5
 replace hF := Gh.Fold.below hF hb5
 replace hc := hc.below hb5
 refine then_n ?_
 have hc6 : ¬ (¬ ((Gm.tg f key v aad (text.take m) size) = (text.drop m))) := by exact fun h => h hb
 refine c_f (p := ¬ ((Gm.tg f key v aad (text.take m) size) = (text.drop m))) eb hc6 ?_
 refine wp_skip ?_
 refine then_n ?_
 refine sr ?_
 refine w_mv (ex (pt g 0)) ?_
 refine w_mv es ?_
 refine w_mv (ex (.int .i64 ((m : Nat) : Int)) (Eq.trans (b := .int .i64 (((text.length : Nat) : Int) - ((size : Nat) : Int))) rfl (by congr 1; omega))) ?_
 refine w_val (v := .string (str (text.take m))) (y_sls (ex (.string (str text))) evo.no (evo.s ei) Tryd.underlying9 (bnd_h (h := m) (by omega) (by omega))) ?_
 refine w_call (Tryd.func18) (by kernel_rfl) rfl (m2 (ex (pt g 0)) es) (gmXor f p g key v (text.take m) hok (by simp only [List.length_take]; omega) w4 r_g) ?_
 rintro _ w7 ⟨rfl, hb8⟩
 refine ⟨_, rfl, ?_⟩
 replace r_g := r_g.step hb8
 replace hk := thenB hk hb8
 replace hF := Gh.Fold.below hF hb8
 replace hc := hc.below hb8
 refine w_as es ?_
 refine w_as Ev.c ?_
 refine nt ?_
 refine wp_ret ?_
 refine fin_ret2 rfl es ei ?_
 exact ⟨rfl, hk⟩

theorem gmOpen_b (f : Nat → BitVec 64) (key v aad : List (BitVec 8)) (size : Nat) (hok : Aes.okKey key.length) (hv : 1 ≤ v.length ∧ v.length ≤ 1024) (h12 : 12 ≤ size) (h16 : size ≤ 16) (ha : aad.length ≤ 70000) (text : List (BitVec 8)) (hl : text.length ≤ 1000000000000000) (m : Nat) (hm : text.length = m + size) (h7 : m ≤ 70000) (hb : ¬ Gm.tg f key v aad (text.take m) size = text.drop m) (w0 : World) (hF : Gh.Fold w0 f) : Calls Tryd.prog 14 #[.string (str key), .string (str v), .string (str aad), .string (str text), .int .i64 ((size : Nat) : Int)] w0 fun e w' => e = .returned (.tuple #[.string (str ([] : List (BitVec 8))), .int .i64 8]) ∧ Below w0.heap.size w0 w' := by
 refine enter (n := 53) Tryd.func14 rfl rfl rfl ?_
 have hk : Below w0.heap.size w0 w0 := Below.refl _ _
 refine sr ?_
 refine w_as (evc (.string (str ([] : List (BitVec 8))))) ?_
 refine w_as Ev.c ?_
 refine nt ?_
 refine sr ?_
 refine w_mv es ?_
 refine w_mv es ?_
 refine w_mv es ?_
 refine w_mv ei ?_
 refine w_call (Tryd.func17) (by kernel_rfl) rfl (m4 es es es ei) (gmBegin_y f key v aad size hok hv h12 h16 ha w0 hF) ?_
 rintro _ w1 ⟨p, g, rfl, hge_p, hge_g, hc, r_g, hbb⟩
 refine ⟨_, rfl, ?_⟩
 have ge_p : w0.heap.size ≤ p := by have := hk.size; omega
 have ge_g : w0.heap.size ≤ g := by have := hk.size; omega
 replace hk := thenB hk hbb
 replace hF := Gh.Fold.below hF hbb
 refine w_mv (ex (.tuple #[pt g 0, .int .i64 0])) ?_
 refine w_val ye ?_
 refine w_val ye ?_
 refine w_as (ex (pt g 0)) ?_
 refine w_as ei ?_
 refine nt ?_
 refine wp_seq ?_
 refine sr ?_
 refine w_mv ei ?_
 refine w_val (y_bin ei Ev.c b_neq) ?_
 refine nt ?_
 refine c_ff eb ?_
 refine wp_skip ?_
 refine then_n ?_
 refine sr ?_
 refine w_mv es ?_
 refine w_val (y_len es Tryd.underlying9) ?_
 refine w_mv ei ?_
 refine w_val (y_bin ei ei (b_sub (by omega))) ?_
 refine w_as ei ?_
 refine nt ?_
 refine wp_seq ?_
 refine sr ?_
 refine w_mv (ex (.int .i64 ((m : Nat) : Int)) (Eq.trans (b := .int .i64 (((text.length : Nat) : Int) - ((size : Nat) : Int))) rfl (by congr 1; omega))) ?_
 refine w_val (y_bin ei Ev.c b_lss) ?_
 refine w_mv eb ?_
 have hc2 : ¬ (((m : Nat) : Int) < 0) := by omega
 refine w_val_g (v := .int .i64 ((m : Nat) : Int)) (wy rfl rfl (eb (df hc2))) (y_mv (ex (.int .i64 ((m : Nat) : Int)) (Eq.trans (b := .int .i64 (((text.length : Nat) : Int) - ((size : Nat) : Int))) rfl (by congr 1; omega)))) ?_
 refine w_val_g (wy rfl rfl (eb (df hc2))) (y_bin ei Ev.c b_gtr) ?_
 refine w_val (y_pick_f (eb (df hc2)) eb) ?_
 refine nt ?_
 have hc3 : ¬ (70000 < ((m : Nat) : Int)) := by omega
 refine c_f (p := 70000 < ((m : Nat) : Int)) eb hc3 ?_
 refine wp_skip ?_
 refine then_n ?_
 refine ss ?_
 refine region_q GcmBT.mixed (by kernel_rfl) ?_
 refine q_mv (ex (pt g 0)) ?_
 refine q_mv es ?_
 refine q_mv es ?_
 refine q_mv (ex (.int .i64 ((m : Nat) : Int)) (Eq.trans (b := .int .i64 (((text.length : Nat) : Int) - ((size : Nat) : Int))) rfl (by congr 1; omega))) ?_
 refine q_val (v := .string (str (text.take m))) (fun w' hw' => y_sls (ex (.string (str text))) evo.no (evo.s ei) Tryd.underlying9 (bnd_h (h := m) (by omega) (by omega))) ?_
 refine q_mv ei ?_
 refine q_call (v := .string (str (Gm.tg f key v aad (text.take m) size))) (Tryd.func19) (by kernel_rfl) rfl (m4 (ex (pt g 0)) es es ei) (fun w' hw' => gmTag f p g key v aad (text.take m) hok size h16 ha (by simp only [Gm.xr_len, List.length_take]; omega) w' (r_g.step hw') (CiphAt.below hc hw') (Gh.Fold.below hF hw')) ?_
 refine q_mv es ?_
 refine q_mv (ex (.int .i64 ((m : Nat) : Int)) (Eq.trans (b := .int .i64 (((text.length : Nat) : Int) - ((size : Nat) : Int))) rfl (by congr 1; omega))) ?_
 refine q_val (v := .string (str (text.drop m))) (fun w' hw' => y_slf (ex (.string (str text))) (evo.s ei) Tryd.underlying9 (bnd_l (l := m) (by omega) (by omega))) ?_
 refine q_call (v := .bool (decide ((Gm.tg f key v aad (text.take m) size) = (text.drop m)))) (Tryd.func30) (by kernel_rfl) rfl (m2 es es) (fun w' hw' => same_c (Gm.tg f key v aad (text.take m) size) (text.drop m) (by rw [Gm.tg_len _ _ _ _ _ _ hok h16]; omega) w') ?_
 refine q_val (fun w' hw' => y_notp eb) ?_
 refine q_nil ?_
 intro w4 hb5
 replace r_g := r_g.step hb5
 replace hk := thenB hk hb5
 replace hF := Gh.Fold.below hF hb5
 replace hc := hc.below hb5
 refine then_n ?_
 have hc6 : ¬ ((Gm.tg f key v aad (text.take m) size) = (text.drop m)) := by exact hb
 refine c_t (p := ¬ ((Gm.tg f key v aad (text.take m) size) = (text.drop m))) eb hc6 ?_
 refine sr ?_
 refine w_as (evc (.string (str ([] : List (BitVec 8))))) ?_
 refine w_as Ev.c ?_
 refine nt ?_
 refine wp_ret ?_
 refine then_r ?_
 refine fin_ret2 rfl es ei ?_
 exact ⟨rfl, hk⟩
end Go.Proofs.YtkjdejadambffaaDoor
