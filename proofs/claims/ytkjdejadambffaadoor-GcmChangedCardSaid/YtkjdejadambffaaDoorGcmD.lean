/-
  Tags, sealing and opening by the reference. Conditions as each says.
-/
import Derived.Test.YtkjdejadambffaaDoorRows
import Derived.Test.YtkjdejadambffaaDoorGcmC
import Derived.Test.YtkjdejadambffaaDoorGen
import Derived.ProofKit
namespace Go.Proofs.YtkjdejadambffaaDoor
open Go.RowKit
set_option linter.unusedSimpArgs false
set_option linter.unusedVariables false
set_option maxRecDepth 100000
set_option maxHeartbeats 1000000
namespace GcmDT
theorem mixed : Tryd.prog.follows .mixedOrders = true := by kernel_rfl
theorem fa55_0 (g off : Nat) : ∀ w, (Instr.fieldAt 55 (.pointer (some ⟨g, off, none⟩)) 0).run Tryd.prog w = .ok (.pointer (some ⟨g, off + 0, none⟩)) w := fun w => by kernel_rfl
theorem fa55_1 (g off : Nat) : ∀ w, (Instr.fieldAt 55 (.pointer (some ⟨g, off, none⟩)) 1).run Tryd.prog w = .ok (.pointer (some ⟨g, off + 1, none⟩)) w := fun w => by kernel_rfl
theorem fa55_2 (g off : Nat) : ∀ w, (Instr.fieldAt 55 (.pointer (some ⟨g, off, none⟩)) 2).run Tryd.prog w = .ok (.pointer (some ⟨g, off + 2, none⟩)) w := fun w => by kernel_rfl
theorem fa57_0 (g off : Nat) : ∀ w, (Instr.fieldAt 57 (.pointer (some ⟨g, off, none⟩)) 0).run Tryd.prog w = .ok (.pointer (some ⟨g, off + 0, none⟩)) w := fun w => by kernel_rfl
theorem fa57_1 (g off : Nat) : ∀ w, (Instr.fieldAt 57 (.pointer (some ⟨g, off, none⟩)) 1).run Tryd.prog w = .ok (.pointer (some ⟨g, off + 3, none⟩)) w := fun w => by kernel_rfl
theorem sc51 : (Tryd.prog.underlying 51).map scal = some true := by rw [Tryd.underlying51]; rfl
theorem sc9 : (Tryd.prog.underlying 9).map scal = some true := by rw [Tryd.underlying9]; rfl
theorem so3 : (Tryd.prog.underlying 3).isSome = true := by rw [Tryd.underlying3]; rfl
theorem sz9 : (Tryd.prog.info? 9).map (·.size) = some 1 := by kernel_rfl
end GcmDT
theorem refStream_l (bx g cap : Nat) (key s : List (BitVec 8)) (d : Nat) (hok : Aes.okKey key.length) (hs : s.length = 16) (h1 : 1 ≤ d) (h16 : d ≤ 16) (n : Nat) (hn : n ≤ 70000) (w0 : World) (r_bx : Row w0 bx 69 513 (fun j => if j < 256 then U8 (Aes.sb j) else if j < 512 then U8 (Aes.bk (j - 256)) else .slice (some ⟨g, 0, none⟩) ((Aes.words key).length) cap)) (r_g : Row w0 g 73 ((Aes.words key).length * 4) (fun j => U8 (Aes.byteOf (Aes.gw (Aes.words key) (j / 4)) (j % 4)))) :
    Calls Tryd.prog 42 #[pt bx 0, .string (str s), .int .i64 (d : Int), .int .i64 (n : Int)] w0 fun e w' => e = .returned (.string (str (Ct.stream key s d n))) ∧ Below w0.heap.size w0 w' := by
  rcases Nat.eq_zero_or_pos n with rfl | h
  · exact refStream_0 bx g cap key s d hok hs h1 h16 w0 r_bx r_g
  · exact refStream_y bx g cap key s d hok hs h1 h16 n h hn w0 r_bx r_g

theorem gmRefXor (key v c : List (BitVec 8)) (hok : Aes.okKey key.length) (hv : 1 ≤ v.length ∧ v.length ≤ 1024) (hcl : c.length ≤ 70000) (w0 : World) : Calls Tryd.prog 21 #[.string (str key), .string (str v), .string (str c)] w0 fun e w' => e = .returned (.string (str (Gm.xr Gh.fo key v c))) ∧ Below w0.heap.size w0 w' := by
 refine enter (n := 26) Tryd.func21 rfl rfl rfl ?_
 have hk : Below w0.heap.size w0 w0 := Below.refl _ _
 refine sr ?_
 refine w_as (evc (.string (str ([] : List (BitVec 8))))) ?_
 refine nt ?_
 refine sr ?_
 refine w_mv es ?_
 refine w_call (Tryd.func22) (by kernel_rfl) rfl (m1 es) (refNew_l key w0 hok) ?_
 rintro _ w1 ⟨bx, g, cap, rfl, hbn, hge_bx, hge_g, r_bx, r_g⟩
 refine ⟨_, rfl, ?_⟩
 have ge_bx : w0.heap.size ≤ bx := by have := hk.size; omega
 have ge_g : w0.heap.size ≤ g := by have := hk.size; omega
 replace hk := thenB hk hbn
 refine w_as (ex (pt bx 0)) ?_
 refine nt ?_
 refine sr ?_
 refine w_mv (ex (pt bx 0)) ?_
 refine w_mv es ?_
 refine w_call (Tryd.func29) (by kernel_rfl) rfl (m2 (ex (pt bx 0)) es) (gmRefFirst bx g cap key v hok hv  w1 r_bx r_g) ?_
 rintro _ w2 ⟨rfl, hb3⟩
 refine ⟨_, rfl, ?_⟩
 replace r_bx := r_bx.step hb3
 replace r_g := r_g.step hb3
 replace hk := thenB hk hb3
 refine w_call (Tryd.func41) (by kernel_rfl) rfl (m3 es Ev.c (evc (U64 (1#64)))) (refNext_y (Gm.first Gh.fo key v) 4 (Gm.first_len _ _ _) (by decide) (by decide) 1 (by decide) w2) ?_
 rintro _ w4 ⟨rfl, hb5⟩
 refine ⟨_, rfl, ?_⟩
 replace r_bx := r_bx.step hb5
 replace r_g := r_g.step hb5
 replace hk := thenB hk hb5
 refine w_mv (ex (.tuple #[.string (str (Ct.nx (Gm.first Gh.fo key v) 4 1)), .int .i64 0])) ?_
 refine w_val ye ?_
 refine w_val ye ?_
 refine w_as es ?_
 refine w_as ei ?_
 refine nt ?_
 refine sr ?_
 refine w_mv es ?_
 refine w_mv (ex (pt bx 0)) ?_
 refine w_mv es ?_
 refine w_mv es ?_
 refine w_val (y_len es Tryd.underlying9) ?_
 refine w_call (Tryd.func42) (by kernel_rfl) rfl (m4 (ex (pt bx 0)) es Ev.c ei) (refStream_l bx g cap key (Ct.nx (Gm.first Gh.fo key v) 4 1) 4 hok (Ct.length_nx _ _ _ (Gm.first_len _ _ _)) (by decide) (by decide) c.length hcl  w4 r_bx r_g) ?_
 rintro _ w6 ⟨rfl, hb7⟩
 refine ⟨_, rfl, ?_⟩
 replace r_bx := r_bx.step hb7
 replace r_g := r_g.step hb7
 replace hk := thenB hk hb7
 refine w_call (Tryd.func28) (by kernel_rfl) rfl (m2 es es) (refXor_c c (Ct.stream key (Ct.nx (Gm.first Gh.fo key v) 4 1) 4 c.length) (by first | omega | (rw [Gh.sum_len]; decide)) w6) ?_
 rintro _ w8 ⟨rfl, hb9⟩
 refine ⟨_, rfl, ?_⟩
 replace r_bx := r_bx.step hb9
 replace r_g := r_g.step hb9
 replace hk := thenB hk hb9
 refine w_as es ?_
 refine nt ?_
 refine wp_ret ?_
 refine fin_ret1 rfl es ?_
 refine ⟨congrArg Ending.returned ?_, hk⟩
 show (.string (str (Oct.xor c (Ct.stream key (Ct.nx (Gm.first Gh.fo key v) 4 1) 4 c.length))) : Value) = .string (str (Gm.xr Gh.fo key v c))
 rfl

theorem gmRefTag_k (key v aad : List (BitVec 8)) (size : Int) (hok : ¬ Aes.okKey key.length) (text : List (BitVec 8)) (w0 : World) : Calls Tryd.prog 13 #[.string (str key), .string (str v), .string (str aad), .string (str text), .int .i64 size] w0 fun e w' => e = .returned (.tuple #[.string (str ([] : List (BitVec 8))), .int .i64 3]) ∧ Below w0.heap.size w0 w' := by
 refine enter (n := 56) Tryd.func13 rfl rfl rfl ?_
 have hk : Below w0.heap.size w0 w0 := Below.refl _ _
 refine sr ?_
 refine w_as (evc (.string (str ([] : List (BitVec 8))))) ?_
 refine w_as Ev.c ?_
 refine nt ?_
 refine wp_seq ?_
 refine sr ?_
 refine w_mv es ?_
 refine w_mv es ?_
 refine w_mv es ?_
 refine w_mv ei ?_
 refine w_call (Tryd.func20) (by kernel_rfl) rfl (m4 es es es ei) (gmRefWrong_k key v aad size hok w0) ?_
 rintro _ w1 ⟨rfl, hb2⟩
 refine ⟨_, rfl, ?_⟩
 replace hk := thenB hk hb2
 refine w_as ei ?_
 refine nt ?_
 refine sr ?_
 refine w_mv ei ?_
 refine w_val (y_bin ei Ev.c b_neq) ?_
 refine nt ?_
 refine c_tt eb ?_
 refine sr ?_
 refine w_mv ei ?_
 refine w_as (evc (.string (str ([] : List (BitVec 8))))) ?_
 refine w_as ei ?_
 refine nt ?_
 refine wp_ret ?_
 refine then_r ?_
 refine fin_ret2 rfl es ei ?_
 exact ⟨rfl, hk⟩

theorem gmRefTag_v (key v aad : List (BitVec 8)) (size : Int) (hok : Aes.okKey key.length) (hv : ¬ (1 ≤ v.length ∧ v.length ≤ 1024)) (text : List (BitVec 8)) (w0 : World) : Calls Tryd.prog 13 #[.string (str key), .string (str v), .string (str aad), .string (str text), .int .i64 size] w0 fun e w' => e = .returned (.tuple #[.string (str ([] : List (BitVec 8))), .int .i64 4]) ∧ Below w0.heap.size w0 w' := by
 refine enter (n := 56) Tryd.func13 rfl rfl rfl ?_
 have hk : Below w0.heap.size w0 w0 := Below.refl _ _
 refine sr ?_
 refine w_as (evc (.string (str ([] : List (BitVec 8))))) ?_
 refine w_as Ev.c ?_
 refine nt ?_
 refine wp_seq ?_
 refine sr ?_
 refine w_mv es ?_
 refine w_mv es ?_
 refine w_mv es ?_
 refine w_mv ei ?_
 refine w_call (Tryd.func20) (by kernel_rfl) rfl (m4 es es es ei) (gmRefWrong_v key v aad size hok hv w0) ?_
 rintro _ w1 ⟨rfl, hb2⟩
 refine ⟨_, rfl, ?_⟩
 replace hk := thenB hk hb2
 refine w_as ei ?_
 refine nt ?_
 refine sr ?_
 refine w_mv ei ?_
 refine w_val (y_bin ei Ev.c b_neq) ?_
 refine nt ?_
 refine c_tt eb ?_
 refine sr ?_
 refine w_mv ei ?_
 refine w_as (evc (.string (str ([] : List (BitVec 8))))) ?_
 refine w_as ei ?_
 refine nt ?_
 refine wp_ret ?_
 refine then_r ?_
 refine fin_ret2 rfl es ei ?_
 exact ⟨rfl, hk⟩

theorem gmRefTag_t (key v aad : List (BitVec 8)) (size : Int) (hok : Aes.okKey key.length) (hv : 1 ≤ v.length ∧ v.length ≤ 1024) (ht : ¬ (12 ≤ size ∧ size ≤ 16)) (text : List (BitVec 8)) (w0 : World) : Calls Tryd.prog 13 #[.string (str key), .string (str v), .string (str aad), .string (str text), .int .i64 size] w0 fun e w' => e = .returned (.tuple #[.string (str ([] : List (BitVec 8))), .int .i64 5]) ∧ Below w0.heap.size w0 w' := by
 refine enter (n := 56) Tryd.func13 rfl rfl rfl ?_
 have hk : Below w0.heap.size w0 w0 := Below.refl _ _
 refine sr ?_
 refine w_as (evc (.string (str ([] : List (BitVec 8))))) ?_
 refine w_as Ev.c ?_
 refine nt ?_
 refine wp_seq ?_
 refine sr ?_
 refine w_mv es ?_
 refine w_mv es ?_
 refine w_mv es ?_
 refine w_mv ei ?_
 refine w_call (Tryd.func20) (by kernel_rfl) rfl (m4 es es es ei) (gmRefWrong_t key v aad size hok hv ht w0) ?_
 rintro _ w1 ⟨rfl, hb2⟩
 refine ⟨_, rfl, ?_⟩
 replace hk := thenB hk hb2
 refine w_as ei ?_
 refine nt ?_
 refine sr ?_
 refine w_mv ei ?_
 refine w_val (y_bin ei Ev.c b_neq) ?_
 refine nt ?_
 refine c_tt eb ?_
 refine sr ?_
 refine w_mv ei ?_
 refine w_as (evc (.string (str ([] : List (BitVec 8))))) ?_
 refine w_as ei ?_
 refine nt ?_
 refine wp_ret ?_
 refine then_r ?_
 refine fin_ret2 rfl es ei ?_
 exact ⟨rfl, hk⟩

theorem gmRefTag_a (key v aad : List (BitVec 8)) (size : Nat) (hok : Aes.okKey key.length) (hv : 1 ≤ v.length ∧ v.length ≤ 1024) (h12 : 12 ≤ size) (h16 : size ≤ 16) (ha : 70000 < aad.length) (text : List (BitVec 8)) (w0 : World) : Calls Tryd.prog 13 #[.string (str key), .string (str v), .string (str aad), .string (str text), .int .i64 ((size : Nat) : Int)] w0 fun e w' => e = .returned (.tuple #[.string (str ([] : List (BitVec 8))), .int .i64 6]) ∧ Below w0.heap.size w0 w' := by
 refine enter (n := 56) Tryd.func13 rfl rfl rfl ?_
 have hk : Below w0.heap.size w0 w0 := Below.refl _ _
 refine sr ?_
 refine w_as (evc (.string (str ([] : List (BitVec 8))))) ?_
 refine w_as Ev.c ?_
 refine nt ?_
 refine wp_seq ?_
 refine sr ?_
 refine w_mv es ?_
 refine w_mv es ?_
 refine w_mv es ?_
 refine w_mv ei ?_
 refine w_call (Tryd.func20) (by kernel_rfl) rfl (m4 es es es ei) (gmRefWrong_a key v aad size hok hv h12 h16 ha w0) ?_
 rintro _ w1 ⟨rfl, hb2⟩
 refine ⟨_, rfl, ?_⟩
 replace hk := thenB hk hb2
 refine w_as ei ?_
 refine nt ?_
 refine sr ?_
 refine w_mv ei ?_
 refine w_val (y_bin ei Ev.c b_neq) ?_
 refine nt ?_
 refine c_tt eb ?_
 refine sr ?_
 refine w_mv ei ?_
 refine w_as (evc (.string (str ([] : List (BitVec 8))))) ?_
 refine w_as ei ?_
 refine nt ?_
 refine wp_ret ?_
 refine then_r ?_
 refine fin_ret2 rfl es ei ?_
 exact ⟨rfl, hk⟩

theorem gmRefTag_z (key v aad : List (BitVec 8)) (size : Nat) (hok : Aes.okKey key.length) (hv : 1 ≤ v.length ∧ v.length ≤ 1024) (h12 : 12 ≤ size) (h16 : size ≤ 16) (ha : aad.length ≤ 70000) (text : List (BitVec 8)) (hl : text.length ≤ 1000000000000000) (ht : 70000 < text.length) (w0 : World) : Calls Tryd.prog 13 #[.string (str key), .string (str v), .string (str aad), .string (str text), .int .i64 ((size : Nat) : Int)] w0 fun e w' => e = .returned (.tuple #[.string (str ([] : List (BitVec 8))), .int .i64 6]) ∧ Below w0.heap.size w0 w' := by
 refine enter (n := 56) Tryd.func13 rfl rfl rfl ?_
 have hk : Below w0.heap.size w0 w0 := Below.refl _ _
 refine sr ?_
 refine w_as (evc (.string (str ([] : List (BitVec 8))))) ?_
 refine w_as Ev.c ?_
 refine nt ?_
 refine wp_seq ?_
 refine sr ?_
 refine w_mv es ?_
 refine w_mv es ?_
 refine w_mv es ?_
 refine w_mv ei ?_
 refine w_call (Tryd.func20) (by kernel_rfl) rfl (m4 es es es ei) (gmRefWrong_y key v aad size hok hv h12 h16 ha w0) ?_
 rintro _ w1 ⟨rfl, hb2⟩
 refine ⟨_, rfl, ?_⟩
 replace hk := thenB hk hb2
 refine w_as ei ?_
 refine nt ?_
 refine sr ?_
 refine w_mv ei ?_
 refine w_val (y_bin ei Ev.c b_neq) ?_
 refine nt ?_
 refine c_ff eb ?_
 refine wp_skip ?_
 refine then_n ?_
 refine wp_seq ?_
 refine sr ?_
 refine w_mv es ?_
 refine w_val (y_len es Tryd.underlying9) ?_
 refine w_val (y_bin ei Ev.c b_gtr) ?_
 refine nt ?_
 have hc3 : 70000 < ((text.length : Nat) : Int) := by omega
 refine c_t (p := 70000 < ((text.length : Nat) : Int)) eb hc3 ?_
 refine sr ?_
 refine w_as (evc (.string (str ([] : List (BitVec 8))))) ?_
 refine w_as Ev.c ?_
 refine nt ?_
 refine wp_ret ?_
 refine then_r ?_
 refine fin_ret2 rfl es ei ?_
 exact ⟨rfl, hk⟩

theorem gmRefTag_y (key v aad : List (BitVec 8)) (size : Nat) (hok : Aes.okKey key.length) (hv : 1 ≤ v.length ∧ v.length ≤ 1024) (h12 : 12 ≤ size) (h16 : size ≤ 16) (ha : aad.length ≤ 70000) (text : List (BitVec 8)) (hl : text.length ≤ 1000000000000000) (ht : text.length ≤ 70000) (w0 : World) : Calls Tryd.prog 13 #[.string (str key), .string (str v), .string (str aad), .string (str text), .int .i64 ((size : Nat) : Int)] w0 fun e w' => e = .returned (.tuple #[.string (str (Gm.tg Gh.fo key v aad text size)), .int .i64 0]) ∧ Below w0.heap.size w0 w' := by
 refine enter (n := 56) Tryd.func13 rfl rfl rfl ?_
 have hk : Below w0.heap.size w0 w0 := Below.refl _ _
 refine sr ?_
 refine w_as (evc (.string (str ([] : List (BitVec 8))))) ?_
 refine w_as Ev.c ?_
 refine nt ?_
 refine wp_seq ?_
 refine sr ?_
 refine w_mv es ?_
 refine w_mv es ?_
 refine w_mv es ?_
 refine w_mv ei ?_
 refine w_call (Tryd.func20) (by kernel_rfl) rfl (m4 es es es ei) (gmRefWrong_y key v aad size hok hv h12 h16 ha w0) ?_
 rintro _ w1 ⟨rfl, hb2⟩
 refine ⟨_, rfl, ?_⟩
 replace hk := thenB hk hb2
 refine w_as ei ?_
 refine nt ?_
 refine sr ?_
 refine w_mv ei ?_
 refine w_val (y_bin ei Ev.c b_neq) ?_
 refine nt ?_
 refine c_ff eb ?_
 refine wp_skip ?_
 refine then_n ?_
 refine wp_seq ?_
 refine sr ?_
 refine w_mv es ?_
 refine w_val (y_len es Tryd.underlying9) ?_
 refine w_val (y_bin ei Ev.c b_gtr) ?_
 refine nt ?_
 have hc3 : ¬ (70000 < ((text.length : Nat) : Int)) := by omega
 refine c_f (p := 70000 < ((text.length : Nat) : Int)) eb hc3 ?_
 refine wp_skip ?_
 refine then_n ?_
 refine sr ?_
 refine w_mv es ?_
 refine w_call (Tryd.func22) (by kernel_rfl) rfl (m1 es) (refNew_l key w1 hok) ?_
 rintro _ w4 ⟨bx, g, cap, rfl, hbn, hge_bx, hge_g, r_bx, r_g⟩
 refine ⟨_, rfl, ?_⟩
 have ge_bx : w0.heap.size ≤ bx := by have := hk.size; omega
 have ge_g : w0.heap.size ≤ g := by have := hk.size; omega
 replace hk := thenB hk hbn
 refine w_as (ex (pt bx 0)) ?_
 refine nt ?_
 refine sr ?_
 refine w_mv (ex (pt bx 0)) ?_
 refine w_call (Tryd.func25) (by kernel_rfl) rfl (m1 Ev.c) (gmRefZeros 16 (by decide) w4) ?_
 rintro _ w5 ⟨rfl, hb6⟩
 refine ⟨_, rfl, ?_⟩
 replace r_bx := r_bx.step hb6
 replace r_g := r_g.step hb6
 replace hk := thenB hk hb6
 refine w_call (Tryd.func24) (by kernel_rfl) rfl (m2 (ex (pt bx 0)) es) (refEnc_l bx g cap key (List.replicate 16 0#8) w5 hok (by first | exact Gm.first_len _ _ _ | rw [List.length_replicate]) r_bx r_g) ?_
 rintro _ w7 ⟨rfl, hb8⟩
 refine ⟨_, rfl, ?_⟩
 replace r_bx := r_bx.step hb8
 replace r_g := r_g.step hb8
 replace hk := thenB hk hb8
 refine w_mv es ?_
 refine w_call (Tryd.func26) (by kernel_rfl) rfl (m1 es) (refFilled aad (by omega) w7) ?_
 rintro _ w9 ⟨rfl, hb10⟩
 refine ⟨_, rfl, ?_⟩
 replace r_bx := r_bx.step hb10
 replace r_g := r_g.step hb10
 replace hk := thenB hk hb10
 refine w_mv es ?_
 refine w_call (Tryd.func26) (by kernel_rfl) rfl (m1 es) (refFilled text (by omega) w9) ?_
 rintro _ w11 ⟨rfl, hb12⟩
 refine ⟨_, rfl, ?_⟩
 replace r_bx := r_bx.step hb12
 replace r_g := r_g.step hb12
 replace hk := thenB hk hb12
 refine w_val (y_bin es es (b_cat (by simp only [List.length_append, Gm.bl_len, Cb.z_len, Cb.zn]; omega))) ?_
 refine w_mv es ?_
 refine w_call (Tryd.func27) (by kernel_rfl) rfl (m1 es) (gmRefBits aad (by omega) w11) ?_
 rintro _ w13 ⟨rfl, hb14⟩
 refine ⟨_, rfl, ?_⟩
 replace r_bx := r_bx.step hb14
 replace r_g := r_g.step hb14
 replace hk := thenB hk hb14
 refine w_val (y_bin es es (b_cat (by simp only [List.length_append, Gm.bl_len, Cb.z_len, Cb.zn]; omega))) ?_
 refine w_mv es ?_
 refine w_call (Tryd.func27) (by kernel_rfl) rfl (m1 es) (gmRefBits text (by omega) w13) ?_
 rintro _ w15 ⟨rfl, hb16⟩
 refine ⟨_, rfl, ?_⟩
 replace r_bx := r_bx.step hb16
 replace r_g := r_g.step hb16
 replace hk := thenB hk hb16
 refine w_val (y_bin es es (b_cat (by simp only [List.length_append, Gm.bl_len, Cb.z_len, Cb.zn]; omega))) ?_
 refine w_call (Tryd.func23) (by kernel_rfl) rfl (m2 es es) (ghRefSum (Aes.enc (Aes.words key) (List.replicate 16 0#8)) ((((Cb.z aad) ++ (Cb.z text)) ++ (Gm.bl aad)) ++ (Gm.bl text)) (Cb.enc_len _ _ hok) (by exact (Gm.body_len aad text).1) (by have := (Gm.body_len aad text).2; show (Gm.body aad text).length ≤ 210000; omega) w15) ?_
 rintro _ w17 ⟨rfl, hb18⟩
 refine ⟨_, rfl, ?_⟩
 replace r_bx := r_bx.step hb18
 replace r_g := r_g.step hb18
 replace hk := thenB hk hb18
 refine w_mv (ex (.tuple #[.string (str (Gh.sum Gh.fo (Aes.enc (Aes.words key) (List.replicate 16 0#8)) ((((Cb.z aad) ++ (Cb.z text)) ++ (Gm.bl aad)) ++ (Gm.bl text)))), .int .i64 0])) ?_
 refine w_val ye ?_
 refine w_val ye ?_
 refine w_as es ?_
 refine w_as ei ?_
 refine nt ?_
 refine sr ?_
 refine w_mv es ?_
 refine w_mv (ex (pt bx 0)) ?_
 refine w_mv (ex (pt bx 0)) ?_
 refine w_mv es ?_
 refine w_call (Tryd.func29) (by kernel_rfl) rfl (m2 (ex (pt bx 0)) es) (gmRefFirst bx g cap key v hok hv  w17 r_bx r_g) ?_
 rintro _ w19 ⟨rfl, hb20⟩
 refine ⟨_, rfl, ?_⟩
 replace r_bx := r_bx.step hb20
 replace r_g := r_g.step hb20
 replace hk := thenB hk hb20
 refine w_call (Tryd.func24) (by kernel_rfl) rfl (m2 (ex (pt bx 0)) es) (refEnc_l bx g cap key (Gm.first Gh.fo key v) w19 hok (by first | exact Gm.first_len _ _ _ | rw [List.length_replicate]) r_bx r_g) ?_
 rintro _ w21 ⟨rfl, hb22⟩
 refine ⟨_, rfl, ?_⟩
 replace r_bx := r_bx.step hb22
 replace r_g := r_g.step hb22
 replace hk := thenB hk hb22
 refine w_call (Tryd.func28) (by kernel_rfl) rfl (m2 es es) (refXor_c (Gh.sum Gh.fo (Aes.enc (Aes.words key) (List.replicate 16 0#8)) ((((Cb.z aad) ++ (Cb.z text)) ++ (Gm.bl aad)) ++ (Gm.bl text))) (Aes.enc (Aes.words key) (Gm.first Gh.fo key v)) (by first | omega | (rw [Gh.sum_len]; decide)) w21) ?_
 rintro _ w23 ⟨rfl, hb24⟩
 refine ⟨_, rfl, ?_⟩
 replace r_bx := r_bx.step hb24
 replace r_g := r_g.step hb24
 replace hk := thenB hk hb24
 refine w_mv ei ?_
 refine w_val (v := .string (str ((Oct.xor (Gh.sum Gh.fo (Aes.enc (Aes.words key) (List.replicate 16 0#8)) ((((Cb.z aad) ++ (Cb.z text)) ++ (Gm.bl aad)) ++ (Gm.bl text))) (Aes.enc (Aes.words key) (Gm.first Gh.fo key v))).take size))) (y_sls (ex (.string (str (Oct.xor (Gh.sum Gh.fo (Aes.enc (Aes.words key) (List.replicate 16 0#8)) ((((Cb.z aad) ++ (Cb.z text)) ++ (Gm.bl aad)) ++ (Gm.bl text))) (Aes.enc (Aes.words key) (Gm.first Gh.fo key v)))))) evo.no (evo.s ei) Tryd.underlying9 (bnd_h (h := size) (by omega) (by simp only [Oct.length_xor, Gh.sum_len, Cb.enc_len _ _ hok]; omega))) ?_
 refine w_as es ?_
 refine w_as Ev.c ?_
 refine nt ?_
 refine wp_ret ?_
 refine fin_ret2 rfl es ei ?_
 refine ⟨congrArg Ending.returned ?_, hk⟩
 show (.tuple #[.string (str ((Oct.xor (Gh.sum Gh.fo (Aes.enc (Aes.words key) (List.replicate 16 0#8)) ((((Cb.z aad) ++ (Cb.z text)) ++ (Gm.bl aad)) ++ (Gm.bl text))) (Aes.enc (Aes.words key) (Gm.first Gh.fo key v))).take size)), .int .i64 0] : Value) = .tuple #[.string (str (Gm.tg Gh.fo key v aad text size)), .int .i64 0]
 rfl

theorem gmRefSeal_k (key v aad : List (BitVec 8)) (size : Int) (hok : ¬ Aes.okKey key.length) (text : List (BitVec 8)) (w0 : World) : Calls Tryd.prog 11 #[.string (str key), .string (str v), .string (str aad), .string (str text), .int .i64 size] w0 fun e w' => e = .returned (.tuple #[.string (str ([] : List (BitVec 8))), .int .i64 3]) ∧ Below w0.heap.size w0 w' := by
 refine enter (n := 43) Tryd.func11 rfl rfl rfl ?_
 have hk : Below w0.heap.size w0 w0 := Below.refl _ _
 refine sr ?_
 refine w_as (evc (.string (str ([] : List (BitVec 8))))) ?_
 refine w_as Ev.c ?_
 refine nt ?_
 refine wp_seq ?_
 refine sr ?_
 refine w_mv es ?_
 refine w_mv es ?_
 refine w_mv es ?_
 refine w_mv ei ?_
 refine w_call (Tryd.func20) (by kernel_rfl) rfl (m4 es es es ei) (gmRefWrong_k key v aad size hok w0) ?_
 rintro _ w1 ⟨rfl, hb2⟩
 refine ⟨_, rfl, ?_⟩
 replace hk := thenB hk hb2
 refine w_as ei ?_
 refine nt ?_
 refine sr ?_
 refine w_mv ei ?_
 refine w_val (y_bin ei Ev.c b_neq) ?_
 refine nt ?_
 refine c_tt eb ?_
 refine sr ?_
 refine w_mv ei ?_
 refine w_as (evc (.string (str ([] : List (BitVec 8))))) ?_
 refine w_as ei ?_
 refine nt ?_
 refine wp_ret ?_
 refine then_r ?_
 refine fin_ret2 rfl es ei ?_
 exact ⟨rfl, hk⟩

theorem gmRefSeal_v (key v aad : List (BitVec 8)) (size : Int) (hok : Aes.okKey key.length) (hv : ¬ (1 ≤ v.length ∧ v.length ≤ 1024)) (text : List (BitVec 8)) (w0 : World) : Calls Tryd.prog 11 #[.string (str key), .string (str v), .string (str aad), .string (str text), .int .i64 size] w0 fun e w' => e = .returned (.tuple #[.string (str ([] : List (BitVec 8))), .int .i64 4]) ∧ Below w0.heap.size w0 w' := by
 refine enter (n := 43) Tryd.func11 rfl rfl rfl ?_
 have hk : Below w0.heap.size w0 w0 := Below.refl _ _
 refine sr ?_
 refine w_as (evc (.string (str ([] : List (BitVec 8))))) ?_
 refine w_as Ev.c ?_
 refine nt ?_
 refine wp_seq ?_
 refine sr ?_
 refine w_mv es ?_
 refine w_mv es ?_
 refine w_mv es ?_
 refine w_mv ei ?_
 refine w_call (Tryd.func20) (by kernel_rfl) rfl (m4 es es es ei) (gmRefWrong_v key v aad size hok hv w0) ?_
 rintro _ w1 ⟨rfl, hb2⟩
 refine ⟨_, rfl, ?_⟩
 replace hk := thenB hk hb2
 refine w_as ei ?_
 refine nt ?_
 refine sr ?_
 refine w_mv ei ?_
 refine w_val (y_bin ei Ev.c b_neq) ?_
 refine nt ?_
 refine c_tt eb ?_
 refine sr ?_
 refine w_mv ei ?_
 refine w_as (evc (.string (str ([] : List (BitVec 8))))) ?_
 refine w_as ei ?_
 refine nt ?_
 refine wp_ret ?_
 refine then_r ?_
 refine fin_ret2 rfl es ei ?_
 exact ⟨rfl, hk⟩

theorem gmRefSeal_t (key v aad : List (BitVec 8)) (size : Int) (hok : Aes.okKey key.length) (hv : 1 ≤ v.length ∧ v.length ≤ 1024) (ht : ¬ (12 ≤ size ∧ size ≤ 16)) (text : List (BitVec 8)) (w0 : World) : Calls Tryd.prog 11 #[.string (str key), .string (str v), .string (str aad), .string (str text), .int .i64 size] w0 fun e w' => e = .returned (.tuple #[.string (str ([] : List (BitVec 8))), .int .i64 5]) ∧ Below w0.heap.size w0 w' := by
 refine enter (n := 43) Tryd.func11 rfl rfl rfl ?_
 have hk : Below w0.heap.size w0 w0 := Below.refl _ _
 refine sr ?_
 refine w_as (evc (.string (str ([] : List (BitVec 8))))) ?_
 refine w_as Ev.c ?_
 refine nt ?_
 refine wp_seq ?_
 refine sr ?_
 refine w_mv es ?_
 refine w_mv es ?_
 refine w_mv es ?_
 refine w_mv ei ?_
 refine w_call (Tryd.func20) (by kernel_rfl) rfl (m4 es es es ei) (gmRefWrong_t key v aad size hok hv ht w0) ?_
 rintro _ w1 ⟨rfl, hb2⟩
 refine ⟨_, rfl, ?_⟩
 replace hk := thenB hk hb2
 refine w_as ei ?_
 refine nt ?_
 refine sr ?_
 refine w_mv ei ?_
 refine w_val (y_bin ei Ev.c b_neq) ?_
 refine nt ?_
 refine c_tt eb ?_
 refine sr ?_
 refine w_mv ei ?_
 refine w_as (evc (.string (str ([] : List (BitVec 8))))) ?_
 refine w_as ei ?_
 refine nt ?_
 refine wp_ret ?_
 refine then_r ?_
 refine fin_ret2 rfl es ei ?_
 exact ⟨rfl, hk⟩

theorem gmRefSeal_a (key v aad : List (BitVec 8)) (size : Nat) (hok : Aes.okKey key.length) (hv : 1 ≤ v.length ∧ v.length ≤ 1024) (h12 : 12 ≤ size) (h16 : size ≤ 16) (ha : 70000 < aad.length) (text : List (BitVec 8)) (w0 : World) : Calls Tryd.prog 11 #[.string (str key), .string (str v), .string (str aad), .string (str text), .int .i64 ((size : Nat) : Int)] w0 fun e w' => e = .returned (.tuple #[.string (str ([] : List (BitVec 8))), .int .i64 6]) ∧ Below w0.heap.size w0 w' := by
 refine enter (n := 43) Tryd.func11 rfl rfl rfl ?_
 have hk : Below w0.heap.size w0 w0 := Below.refl _ _
 refine sr ?_
 refine w_as (evc (.string (str ([] : List (BitVec 8))))) ?_
 refine w_as Ev.c ?_
 refine nt ?_
 refine wp_seq ?_
 refine sr ?_
 refine w_mv es ?_
 refine w_mv es ?_
 refine w_mv es ?_
 refine w_mv ei ?_
 refine w_call (Tryd.func20) (by kernel_rfl) rfl (m4 es es es ei) (gmRefWrong_a key v aad size hok hv h12 h16 ha w0) ?_
 rintro _ w1 ⟨rfl, hb2⟩
 refine ⟨_, rfl, ?_⟩
 replace hk := thenB hk hb2
 refine w_as ei ?_
 refine nt ?_
 refine sr ?_
 refine w_mv ei ?_
 refine w_val (y_bin ei Ev.c b_neq) ?_
 refine nt ?_
 refine c_tt eb ?_
 refine sr ?_
 refine w_mv ei ?_
 refine w_as (evc (.string (str ([] : List (BitVec 8))))) ?_
 refine w_as ei ?_
 refine nt ?_
 refine wp_ret ?_
 refine then_r ?_
 refine fin_ret2 rfl es ei ?_
 exact ⟨rfl, hk⟩

theorem gmRefSeal_z (key v aad : List (BitVec 8)) (size : Nat) (hok : Aes.okKey key.length) (hv : 1 ≤ v.length ∧ v.length ≤ 1024) (h12 : 12 ≤ size) (h16 : size ≤ 16) (ha : aad.length ≤ 70000) (text : List (BitVec 8)) (hl : text.length ≤ 1000000000000000) (ht : 70000 < text.length) (w0 : World) : Calls Tryd.prog 11 #[.string (str key), .string (str v), .string (str aad), .string (str text), .int .i64 ((size : Nat) : Int)] w0 fun e w' => e = .returned (.tuple #[.string (str ([] : List (BitVec 8))), .int .i64 6]) ∧ Below w0.heap.size w0 w' := by
 refine enter (n := 43) Tryd.func11 rfl rfl rfl ?_
 have hk : Below w0.heap.size w0 w0 := Below.refl _ _
 refine sr ?_
 refine w_as (evc (.string (str ([] : List (BitVec 8))))) ?_
 refine w_as Ev.c ?_
 refine nt ?_
 refine wp_seq ?_
 refine sr ?_
 refine w_mv es ?_
 refine w_mv es ?_
 refine w_mv es ?_
 refine w_mv ei ?_
 refine w_call (Tryd.func20) (by kernel_rfl) rfl (m4 es es es ei) (gmRefWrong_y key v aad size hok hv h12 h16 ha w0) ?_
 rintro _ w1 ⟨rfl, hb2⟩
 refine ⟨_, rfl, ?_⟩
 replace hk := thenB hk hb2
 refine w_as ei ?_
 refine nt ?_
 refine sr ?_
 refine w_mv ei ?_
 refine w_val (y_bin ei Ev.c b_neq) ?_
 refine nt ?_
 refine c_ff eb ?_
 refine wp_skip ?_
 refine then_n ?_
 refine wp_seq ?_
 refine sr ?_
 refine w_mv es ?_
 refine w_val (y_len es Tryd.underlying9) ?_
 refine w_val (y_bin ei Ev.c b_gtr) ?_
 refine nt ?_
 have hc3 : 70000 < ((text.length : Nat) : Int) := by omega
 refine c_t (p := 70000 < ((text.length : Nat) : Int)) eb hc3 ?_
 refine sr ?_
 refine w_as (evc (.string (str ([] : List (BitVec 8))))) ?_
 refine w_as Ev.c ?_
 refine nt ?_
 refine wp_ret ?_
 refine then_r ?_
 refine fin_ret2 rfl es ei ?_
 exact ⟨rfl, hk⟩

theorem gmRefSeal_y (key v aad : List (BitVec 8)) (size : Nat) (hok : Aes.okKey key.length) (hv : 1 ≤ v.length ∧ v.length ≤ 1024) (h12 : 12 ≤ size) (h16 : size ≤ 16) (ha : aad.length ≤ 70000) (text : List (BitVec 8)) (hl : text.length ≤ 1000000000000000) (ht : text.length ≤ 70000) (w0 : World) : Calls Tryd.prog 11 #[.string (str key), .string (str v), .string (str aad), .string (str text), .int .i64 ((size : Nat) : Int)] w0 fun e w' => e = .returned (.tuple #[.string (str (Gm.sealed Gh.fo key v aad text size)), .int .i64 0]) ∧ Below w0.heap.size w0 w' := by
 refine enter (n := 43) Tryd.func11 rfl rfl rfl ?_
 have hk : Below w0.heap.size w0 w0 := Below.refl _ _
 refine sr ?_
 refine w_as (evc (.string (str ([] : List (BitVec 8))))) ?_
 refine w_as Ev.c ?_
 refine nt ?_
 refine wp_seq ?_
 refine sr ?_
 refine w_mv es ?_
 refine w_mv es ?_
 refine w_mv es ?_
 refine w_mv ei ?_
 refine w_call (Tryd.func20) (by kernel_rfl) rfl (m4 es es es ei) (gmRefWrong_y key v aad size hok hv h12 h16 ha w0) ?_
 rintro _ w1 ⟨rfl, hb2⟩
 refine ⟨_, rfl, ?_⟩
 replace hk := thenB hk hb2
 refine w_as ei ?_
 refine nt ?_
 refine sr ?_
 refine w_mv ei ?_
 refine w_val (y_bin ei Ev.c b_neq) ?_
 refine nt ?_
 refine c_ff eb ?_
 refine wp_skip ?_
 refine then_n ?_
 refine wp_seq ?_
 refine sr ?_
 refine w_mv es ?_
 refine w_val (y_len es Tryd.underlying9) ?_
 refine w_val (y_bin ei Ev.c b_gtr) ?_
 refine nt ?_
 have hc3 : ¬ (70000 < ((text.length : Nat) : Int)) := by omega
 refine c_f (p := 70000 < ((text.length : Nat) : Int)) eb hc3 ?_
 refine wp_skip ?_
 refine then_n ?_
 refine sr ?_
 refine w_mv es ?_
 refine w_mv es ?_
 refine w_mv es ?_
 refine w_call (Tryd.func21) (by kernel_rfl) rfl (m3 es es es) (gmRefXor key v text hok hv ht w1) ?_
 rintro _ w4 ⟨rfl, hb5⟩
 refine ⟨_, rfl, ?_⟩
 replace hk := thenB hk hb5
 refine w_as es ?_
 refine nt ?_
 refine sr ?_
 refine w_mv es ?_
 refine w_mv es ?_
 refine w_mv es ?_
 refine w_mv es ?_
 refine w_mv ei ?_
 refine w_call (Tryd.func13) (by kernel_rfl) rfl (m5 es es es es ei) (gmRefTag_y key v aad size hok hv h12 h16 ha (Gm.xr Gh.fo key v text) (by rw [Gm.xr_len]; omega) (by rw [Gm.xr_len]; omega) w4) ?_
 rintro _ w6 ⟨rfl, hb7⟩
 refine ⟨_, rfl, ?_⟩
 replace hk := thenB hk hb7
 refine w_mv (ex (.tuple #[.string (str (Gm.tg Gh.fo key v aad (Gm.xr Gh.fo key v text) size)), .int .i64 0])) ?_
 refine w_val ye ?_
 refine w_val ye ?_
 refine w_as es ?_
 refine w_as ei ?_
 refine nt ?_
 refine sr ?_
 refine w_mv es ?_
 refine w_mv es ?_
 refine w_val (y_bin es es (b_cat (by rw [Gm.xr_len, Gm.tg_len _ _ _ _ _ _ hok h16]; omega))) ?_
 refine w_as es ?_
 refine w_as Ev.c ?_
 refine nt ?_
 refine wp_ret ?_
 refine fin_ret2 rfl es ei ?_
 refine ⟨congrArg Ending.returned ?_, hk⟩
 show (.tuple #[.string (str ((Gm.xr Gh.fo key v text) ++ (Gm.tg Gh.fo key v aad (Gm.xr Gh.fo key v text) size))), .int .i64 0] : Value) = .tuple #[.string (str (Gm.sealed Gh.fo key v aad text size)), .int .i64 0]
 rfl

theorem gmRefOpen_k (key v aad : List (BitVec 8)) (size : Int) (hok : ¬ Aes.okKey key.length) (text : List (BitVec 8)) (w0 : World) : Calls Tryd.prog 15 #[.string (str key), .string (str v), .string (str aad), .string (str text), .int .i64 size] w0 fun e w' => e = .returned (.tuple #[.string (str ([] : List (BitVec 8))), .int .i64 3]) ∧ Below w0.heap.size w0 w' := by
 refine enter (n := 61) Tryd.func15 rfl rfl rfl ?_
 have hk : Below w0.heap.size w0 w0 := Below.refl _ _
 refine sr ?_
 refine w_as (evc (.string (str ([] : List (BitVec 8))))) ?_
 refine w_as Ev.c ?_
 refine nt ?_
 refine wp_seq ?_
 refine sr ?_
 refine w_mv es ?_
 refine w_mv es ?_
 refine w_mv es ?_
 refine w_mv ei ?_
 refine w_call (Tryd.func20) (by kernel_rfl) rfl (m4 es es es ei) (gmRefWrong_k key v aad size hok w0) ?_
 rintro _ w1 ⟨rfl, hb2⟩
 refine ⟨_, rfl, ?_⟩
 replace hk := thenB hk hb2
 refine w_as ei ?_
 refine nt ?_
 refine sr ?_
 refine w_mv ei ?_
 refine w_val (y_bin ei Ev.c b_neq) ?_
 refine nt ?_
 refine c_tt eb ?_
 refine sr ?_
 refine w_mv ei ?_
 refine w_as (evc (.string (str ([] : List (BitVec 8))))) ?_
 refine w_as ei ?_
 refine nt ?_
 refine wp_ret ?_
 refine then_r ?_
 refine fin_ret2 rfl es ei ?_
 exact ⟨rfl, hk⟩

theorem gmRefOpen_v (key v aad : List (BitVec 8)) (size : Int) (hok : Aes.okKey key.length) (hv : ¬ (1 ≤ v.length ∧ v.length ≤ 1024)) (text : List (BitVec 8)) (w0 : World) : Calls Tryd.prog 15 #[.string (str key), .string (str v), .string (str aad), .string (str text), .int .i64 size] w0 fun e w' => e = .returned (.tuple #[.string (str ([] : List (BitVec 8))), .int .i64 4]) ∧ Below w0.heap.size w0 w' := by
 refine enter (n := 61) Tryd.func15 rfl rfl rfl ?_
 have hk : Below w0.heap.size w0 w0 := Below.refl _ _
 refine sr ?_
 refine w_as (evc (.string (str ([] : List (BitVec 8))))) ?_
 refine w_as Ev.c ?_
 refine nt ?_
 refine wp_seq ?_
 refine sr ?_
 refine w_mv es ?_
 refine w_mv es ?_
 refine w_mv es ?_
 refine w_mv ei ?_
 refine w_call (Tryd.func20) (by kernel_rfl) rfl (m4 es es es ei) (gmRefWrong_v key v aad size hok hv w0) ?_
 rintro _ w1 ⟨rfl, hb2⟩
 refine ⟨_, rfl, ?_⟩
 replace hk := thenB hk hb2
 refine w_as ei ?_
 refine nt ?_
 refine sr ?_
 refine w_mv ei ?_
 refine w_val (y_bin ei Ev.c b_neq) ?_
 refine nt ?_
 refine c_tt eb ?_
 refine sr ?_
 refine w_mv ei ?_
 refine w_as (evc (.string (str ([] : List (BitVec 8))))) ?_
 refine w_as ei ?_
 refine nt ?_
 refine wp_ret ?_
 refine then_r ?_
 refine fin_ret2 rfl es ei ?_
 exact ⟨rfl, hk⟩

theorem gmRefOpen_t (key v aad : List (BitVec 8)) (size : Int) (hok : Aes.okKey key.length) (hv : 1 ≤ v.length ∧ v.length ≤ 1024) (ht : ¬ (12 ≤ size ∧ size ≤ 16)) (text : List (BitVec 8)) (w0 : World) : Calls Tryd.prog 15 #[.string (str key), .string (str v), .string (str aad), .string (str text), .int .i64 size] w0 fun e w' => e = .returned (.tuple #[.string (str ([] : List (BitVec 8))), .int .i64 5]) ∧ Below w0.heap.size w0 w' := by
 refine enter (n := 61) Tryd.func15 rfl rfl rfl ?_
 have hk : Below w0.heap.size w0 w0 := Below.refl _ _
 refine sr ?_
 refine w_as (evc (.string (str ([] : List (BitVec 8))))) ?_
 refine w_as Ev.c ?_
 refine nt ?_
 refine wp_seq ?_
 refine sr ?_
 refine w_mv es ?_
 refine w_mv es ?_
 refine w_mv es ?_
 refine w_mv ei ?_
 refine w_call (Tryd.func20) (by kernel_rfl) rfl (m4 es es es ei) (gmRefWrong_t key v aad size hok hv ht w0) ?_
 rintro _ w1 ⟨rfl, hb2⟩
 refine ⟨_, rfl, ?_⟩
 replace hk := thenB hk hb2
 refine w_as ei ?_
 refine nt ?_
 refine sr ?_
 refine w_mv ei ?_
 refine w_val (y_bin ei Ev.c b_neq) ?_
 refine nt ?_
 refine c_tt eb ?_
 refine sr ?_
 refine w_mv ei ?_
 refine w_as (evc (.string (str ([] : List (BitVec 8))))) ?_
 refine w_as ei ?_
 refine nt ?_
 refine wp_ret ?_
 refine then_r ?_
 refine fin_ret2 rfl es ei ?_
 exact ⟨rfl, hk⟩

theorem gmRefOpen_a (key v aad : List (BitVec 8)) (size : Nat) (hok : Aes.okKey key.length) (hv : 1 ≤ v.length ∧ v.length ≤ 1024) (h12 : 12 ≤ size) (h16 : size ≤ 16) (ha : 70000 < aad.length) (text : List (BitVec 8)) (w0 : World) : Calls Tryd.prog 15 #[.string (str key), .string (str v), .string (str aad), .string (str text), .int .i64 ((size : Nat) : Int)] w0 fun e w' => e = .returned (.tuple #[.string (str ([] : List (BitVec 8))), .int .i64 6]) ∧ Below w0.heap.size w0 w' := by
 refine enter (n := 61) Tryd.func15 rfl rfl rfl ?_
 have hk : Below w0.heap.size w0 w0 := Below.refl _ _
 refine sr ?_
 refine w_as (evc (.string (str ([] : List (BitVec 8))))) ?_
 refine w_as Ev.c ?_
 refine nt ?_
 refine wp_seq ?_
 refine sr ?_
 refine w_mv es ?_
 refine w_mv es ?_
 refine w_mv es ?_
 refine w_mv ei ?_
 refine w_call (Tryd.func20) (by kernel_rfl) rfl (m4 es es es ei) (gmRefWrong_a key v aad size hok hv h12 h16 ha w0) ?_
 rintro _ w1 ⟨rfl, hb2⟩
 refine ⟨_, rfl, ?_⟩
 replace hk := thenB hk hb2
 refine w_as ei ?_
 refine nt ?_
 refine sr ?_
 refine w_mv ei ?_
 refine w_val (y_bin ei Ev.c b_neq) ?_
 refine nt ?_
 refine c_tt eb ?_
 refine sr ?_
 refine w_mv ei ?_
 refine w_as (evc (.string (str ([] : List (BitVec 8))))) ?_
 refine w_as ei ?_
 refine nt ?_
 refine wp_ret ?_
 refine then_r ?_
 refine fin_ret2 rfl es ei ?_
 exact ⟨rfl, hk⟩

theorem gmRefOpen_s (key v aad : List (BitVec 8)) (size : Nat) (hok : Aes.okKey key.length) (hv : 1 ≤ v.length ∧ v.length ≤ 1024) (h12 : 12 ≤ size) (h16 : size ≤ 16) (ha : aad.length ≤ 70000) (text : List (BitVec 8)) (hl : text.length ≤ 1000000000000000) (hs : text.length < size) (w0 : World) : Calls Tryd.prog 15 #[.string (str key), .string (str v), .string (str aad), .string (str text), .int .i64 ((size : Nat) : Int)] w0 fun e w' => e = .returned (.tuple #[.string (str ([] : List (BitVec 8))), .int .i64 6]) ∧ Below w0.heap.size w0 w' := by
 refine enter (n := 61) Tryd.func15 rfl rfl rfl ?_
 have hk : Below w0.heap.size w0 w0 := Below.refl _ _
 refine sr ?_
 refine w_as (evc (.string (str ([] : List (BitVec 8))))) ?_
 refine w_as Ev.c ?_
 refine nt ?_
 refine wp_seq ?_
 refine sr ?_
 refine w_mv es ?_
 refine w_mv es ?_
 refine w_mv es ?_
 refine w_mv ei ?_
 refine w_call (Tryd.func20) (by kernel_rfl) rfl (m4 es es es ei) (gmRefWrong_y key v aad size hok hv h12 h16 ha w0) ?_
 rintro _ w1 ⟨rfl, hb2⟩
 refine ⟨_, rfl, ?_⟩
 replace hk := thenB hk hb2
 refine w_as ei ?_
 refine nt ?_
 refine sr ?_
 refine w_mv ei ?_
 refine w_val (y_bin ei Ev.c b_neq) ?_
 refine nt ?_
 refine c_ff eb ?_
 refine wp_skip ?_
 refine then_n ?_
 refine wp_seq ?_
 refine sr ?_
 refine w_mv es ?_
 refine w_val (y_len es Tryd.underlying9) ?_
 refine w_mv ei ?_
 refine w_val (y_bin ei ei b_lss) ?_
 refine w_mv eb ?_
 have hc3 : ((text.length : Nat) : Int) < ((size : Nat) : Int) := by omega
 with_reducible refine w_skip ?_ ?_
 exact wn rfl rfl (eb (dt hc3))
 with_reducible refine w_skip ?_ ?_
 exact wn rfl rfl (eb (dt hc3))
 with_reducible refine w_skip ?_ ?_
 exact wn rfl rfl (eb (dt hc3))
 with_reducible refine w_skip ?_ ?_
 exact wn rfl rfl (eb (dt hc3))
 with_reducible refine w_skip ?_ ?_
 exact wn rfl rfl (eb (dt hc3))
 refine w_val (y_pick_t (eb (dt hc3)) Ev.c) ?_
 refine nt ?_
 refine c_tt eb ?_
 refine sr ?_
 refine w_as (evc (.string (str ([] : List (BitVec 8))))) ?_
 refine w_as Ev.c ?_
 refine nt ?_
 refine wp_ret ?_
 refine then_r ?_
 refine fin_ret2 rfl es ei ?_
 exact ⟨rfl, hk⟩

theorem gmRefOpen_z (key v aad : List (BitVec 8)) (size : Nat) (hok : Aes.okKey key.length) (hv : 1 ≤ v.length ∧ v.length ≤ 1024) (h12 : 12 ≤ size) (h16 : size ≤ 16) (ha : aad.length ≤ 70000) (text : List (BitVec 8)) (hl : text.length ≤ 1000000000000000) (m : Nat) (hm : text.length = m + size) (h7 : 70000 < m) (w0 : World) : Calls Tryd.prog 15 #[.string (str key), .string (str v), .string (str aad), .string (str text), .int .i64 ((size : Nat) : Int)] w0 fun e w' => e = .returned (.tuple #[.string (str ([] : List (BitVec 8))), .int .i64 6]) ∧ Below w0.heap.size w0 w' := by
 refine enter (n := 61) Tryd.func15 rfl rfl rfl ?_
 have hk : Below w0.heap.size w0 w0 := Below.refl _ _
 refine sr ?_
 refine w_as (evc (.string (str ([] : List (BitVec 8))))) ?_
 refine w_as Ev.c ?_
 refine nt ?_
 refine wp_seq ?_
 refine sr ?_
 refine w_mv es ?_
 refine w_mv es ?_
 refine w_mv es ?_
 refine w_mv ei ?_
 refine w_call (Tryd.func20) (by kernel_rfl) rfl (m4 es es es ei) (gmRefWrong_y key v aad size hok hv h12 h16 ha w0) ?_
 rintro _ w1 ⟨rfl, hb2⟩
 refine ⟨_, rfl, ?_⟩
 replace hk := thenB hk hb2
 refine w_as ei ?_
 refine nt ?_
 refine sr ?_
 refine w_mv ei ?_
 refine w_val (y_bin ei Ev.c b_neq) ?_
 refine nt ?_
 refine c_ff eb ?_
 refine wp_skip ?_
 refine then_n ?_
 refine wp_seq ?_
 refine sr ?_
 refine w_mv es ?_
 refine w_val (y_len es Tryd.underlying9) ?_
 refine w_mv ei ?_
 refine w_val (y_bin ei ei b_lss) ?_
 refine w_mv eb ?_
 have hc3 : ¬ (((text.length : Nat) : Int) < ((size : Nat) : Int)) := by omega
 refine w_val_g (v := .string (str text)) (wy rfl rfl (eb (df hc3))) (y_mv es) ?_
 refine w_val_g (wy rfl rfl (eb (df hc3))) (y_len es Tryd.underlying9) ?_
 refine w_val_g (v := .int .i64 ((size : Nat) : Int)) (wy rfl rfl (eb (df hc3))) (y_mv ei) ?_
 refine w_val_g (wy rfl rfl (eb (df hc3))) (y_bin Ev.c ei (b_add (by omega))) ?_
 refine w_val_g (wy rfl rfl (eb (df hc3))) (y_bin ei ei b_gtr) ?_
 refine w_val (y_pick_f (eb (df hc3)) eb) ?_
 refine nt ?_
 have hc4 : (70000 + ((size : Nat) : Int)) < ((text.length : Nat) : Int) := by omega
 refine c_t (p := (70000 + ((size : Nat) : Int)) < ((text.length : Nat) : Int)) eb hc4 ?_
 refine sr ?_
 refine w_as (evc (.string (str ([] : List (BitVec 8))))) ?_
 refine w_as Ev.c ?_
 refine nt ?_
 refine wp_ret ?_
 refine then_r ?_
 refine fin_ret2 rfl es ei ?_
 exact ⟨rfl, hk⟩

theorem gmRefOpen_y (key v aad : List (BitVec 8)) (size : Nat) (hok : Aes.okKey key.length) (hv : 1 ≤ v.length ∧ v.length ≤ 1024) (h12 : 12 ≤ size) (h16 : size ≤ 16) (ha : aad.length ≤ 70000) (text : List (BitVec 8)) (hl : text.length ≤ 1000000000000000) (m : Nat) (hm : text.length = m + size) (h7 : m ≤ 70000) (hb : Gm.tg Gh.fo key v aad (text.take m) size = text.drop m) (w0 : World) : Calls Tryd.prog 15 #[.string (str key), .string (str v), .string (str aad), .string (str text), .int .i64 ((size : Nat) : Int)] w0 fun e w' => e = .returned (.tuple #[.string (str (Gm.xr Gh.fo key v (text.take m))), .int .i64 0]) ∧ Below w0.heap.size w0 w' := by
 refine enter (n := 61) Tryd.func15 rfl rfl rfl ?_
 have hk : Below w0.heap.size w0 w0 := Below.refl _ _
 refine sr ?_
 refine w_as (evc (.string (str ([] : List (BitVec 8))))) ?_
 refine w_as Ev.c ?_
 refine nt ?_
 refine wp_seq ?_
 refine sr ?_
 refine w_mv es ?_
 refine w_mv es ?_
 refine w_mv es ?_
 refine w_mv ei ?_
 refine w_call (Tryd.func20) (by kernel_rfl) rfl (m4 es es es ei) (gmRefWrong_y key v aad size hok hv h12 h16 ha w0) ?_
 rintro _ w1 ⟨rfl, hb2⟩
 refine ⟨_, rfl, ?_⟩
 replace hk := thenB hk hb2
 refine w_as ei ?_
 refine nt ?_
 refine sr ?_
 refine w_mv ei ?_
 refine w_val (y_bin ei Ev.c b_neq) ?_
 refine nt ?_
 refine c_ff eb ?_
 refine wp_skip ?_
 refine then_n ?_
 refine wp_seq ?_
 refine sr ?_
 refine w_mv es ?_
 refine w_val (y_len es Tryd.underlying9) ?_
 refine w_mv ei ?_
 refine w_val (y_bin ei ei b_lss) ?_
 refine w_mv eb ?_
 have hc3 : ¬ (((text.length : Nat) : Int) < ((size : Nat) : Int)) := by omega
 refine w_val_g (v := .string (str text)) (wy rfl rfl (eb (df hc3))) (y_mv es) ?_
 refine w_val_g (wy rfl rfl (eb (df hc3))) (y_len es Tryd.underlying9) ?_
 refine w_val_g (v := .int .i64 ((size : Nat) : Int)) (wy rfl rfl (eb (df hc3))) (y_mv ei) ?_
 refine w_val_g (wy rfl rfl (eb (df hc3))) (y_bin Ev.c ei (b_add (by omega))) ?_
 refine w_val_g (wy rfl rfl (eb (df hc3))) (y_bin ei ei b_gtr) ?_
 refine w_val (y_pick_f (eb (df hc3)) eb) ?_
 refine nt ?_
 have hc4 : ¬ ((70000 + ((size : Nat) : Int)) < ((text.length : Nat) : Int)) := by omega
 refine c_f (p := (70000 + ((size : Nat) : Int)) < ((text.length : Nat) : Int)) eb hc4 ?_
 refine wp_skip ?_
 refine then_n ?_
 refine sr ?_
 refine w_mv es ?_
 refine w_val (y_len es Tryd.underlying9) ?_
 refine w_mv ei ?_
 refine w_val (y_bin ei ei (b_sub (by omega))) ?_
 refine w_as ei ?_
 refine nt ?_
 refine sr ?_
 refine w_mv es ?_
 refine w_mv es ?_
 refine w_mv es ?_
 refine w_mv es ?_
 refine w_mv (ex (.int .i64 ((m : Nat) : Int)) (Eq.trans (b := .int .i64 (((text.length : Nat) : Int) - ((size : Nat) : Int))) rfl (by congr 1; omega))) ?_
 refine w_val (v := .string (str (text.take m))) (y_sls (ex (.string (str text))) evo.no (evo.s ei) Tryd.underlying9 (bnd_h (h := m) (by omega) (by omega))) ?_
 refine w_mv ei ?_
 refine w_call (Tryd.func13) (by kernel_rfl) rfl (m5 es es es es ei) (gmRefTag_y key v aad size hok hv h12 h16 ha (text.take m) (by rw [List.length_take]; omega) (by rw [List.length_take]; omega) w1) ?_
 rintro _ w5 ⟨rfl, hb6⟩
 refine ⟨_, rfl, ?_⟩
 replace hk := thenB hk hb6
 refine w_mv (ex (.tuple #[.string (str (Gm.tg Gh.fo key v aad (text.take m) size)), .int .i64 0])) ?_
 refine w_val ye ?_
 refine w_val ye ?_
 refine w_as es ?_
 refine w_as ei ?_
 refine nt ?_
 refine wp_seq ?_
 refine sr ?_
 refine w_mv es ?_
 refine w_mv es ?_
 refine w_mv (ex (.int .i64 ((m : Nat) : Int)) (Eq.trans (b := .int .i64 (((text.length : Nat) : Int) - ((size : Nat) : Int))) rfl (by congr 1; omega))) ?_
 refine w_val (v := .string (str (text.drop m))) (y_slf (ex (.string (str text))) (evo.s ei) Tryd.underlying9 (bnd_l (l := m) (by omega) (by omega))) ?_
 refine w_val (y_bin es es b_nes) ?_
 refine nt ?_
 have hc7 : ¬ ((Gm.tg Gh.fo key v aad (text.take m) size) ≠ (text.drop m)) := by exact fun h => h hb
 refine c_f (p := (Gm.tg Gh.fo key v aad (text.take m) size) ≠ (text.drop m)) eb hc7 ?_
 refine wp_skip ?_
 refine then_n ?_
 refine sr ?_
 refine w_mv es ?_
 refine w_mv es ?_
 refine w_mv es ?_
 refine w_mv (ex (.int .i64 ((m : Nat) : Int)) (Eq.trans (b := .int .i64 (((text.length : Nat) : Int) - ((size : Nat) : Int))) rfl (by congr 1; omega))) ?_
 refine w_val (v := .string (str (text.take m))) (y_sls (ex (.string (str text))) evo.no (evo.s ei) Tryd.underlying9 (bnd_h (h := m) (by omega) (by omega))) ?_
 refine w_call (Tryd.func21) (by kernel_rfl) rfl (m3 es es es) (gmRefXor key v (text.take m) hok hv (by rw [List.length_take]; omega) w5) ?_
 rintro _ w8 ⟨rfl, hb9⟩
 refine ⟨_, rfl, ?_⟩
 replace hk := thenB hk hb9
 refine w_as es ?_
 refine w_as Ev.c ?_
 refine nt ?_
 refine wp_ret ?_
 refine fin_ret2 rfl es ei ?_
 exact ⟨rfl, hk⟩

theorem gmRefOpen_b (key v aad : List (BitVec 8)) (size : Nat) (hok : Aes.okKey key.length) (hv : 1 ≤ v.length ∧ v.length ≤ 1024) (h12 : 12 ≤ size) (h16 : size ≤ 16) (ha : aad.length ≤ 70000) (text : List (BitVec 8)) (hl : text.length ≤ 1000000000000000) (m : Nat) (hm : text.length = m + size) (h7 : m ≤ 70000) (hb : ¬ Gm.tg Gh.fo key v aad (text.take m) size = text.drop m) (w0 : World) : Calls Tryd.prog 15 #[.string (str key), .string (str v), .string (str aad), .string (str text), .int .i64 ((size : Nat) : Int)] w0 fun e w' => e = .returned (.tuple #[.string (str ([] : List (BitVec 8))), .int .i64 8]) ∧ Below w0.heap.size w0 w' := by
 refine enter (n := 61) Tryd.func15 rfl rfl rfl ?_
 have hk : Below w0.heap.size w0 w0 := Below.refl _ _
 refine sr ?_
 refine w_as (evc (.string (str ([] : List (BitVec 8))))) ?_
 refine w_as Ev.c ?_
 refine nt ?_
 refine wp_seq ?_
 refine sr ?_
 refine w_mv es ?_
 refine w_mv es ?_
 refine w_mv es ?_
 refine w_mv ei ?_
 refine w_call (Tryd.func20) (by kernel_rfl) rfl (m4 es es es ei) (gmRefWrong_y key v aad size hok hv h12 h16 ha w0) ?_
 rintro _ w1 ⟨rfl, hb2⟩
 refine ⟨_, rfl, ?_⟩
 replace hk := thenB hk hb2
 refine w_as ei ?_
 refine nt ?_
 refine sr ?_
 refine w_mv ei ?_
 refine w_val (y_bin ei Ev.c b_neq) ?_
 refine nt ?_
 refine c_ff eb ?_
 refine wp_skip ?_
 refine then_n ?_
 refine wp_seq ?_
 refine sr ?_
 refine w_mv es ?_
 refine w_val (y_len es Tryd.underlying9) ?_
 refine w_mv ei ?_
 refine w_val (y_bin ei ei b_lss) ?_
 refine w_mv eb ?_
 have hc3 : ¬ (((text.length : Nat) : Int) < ((size : Nat) : Int)) := by omega
 refine w_val_g (v := .string (str text)) (wy rfl rfl (eb (df hc3))) (y_mv es) ?_
 refine w_val_g (wy rfl rfl (eb (df hc3))) (y_len es Tryd.underlying9) ?_
 refine w_val_g (v := .int .i64 ((size : Nat) : Int)) (wy rfl rfl (eb (df hc3))) (y_mv ei) ?_
 refine w_val_g (wy rfl rfl (eb (df hc3))) (y_bin Ev.c ei (b_add (by omega))) ?_
 refine w_val_g (wy rfl rfl (eb (df hc3))) (y_bin ei ei b_gtr) ?_
 refine w_val (y_pick_f (eb (df hc3)) eb) ?_
 refine nt ?_
 have hc4 : ¬ ((70000 + ((size : Nat) : Int)) < ((text.length : Nat) : Int)) := by omega
 refine c_f (p := (70000 + ((size : Nat) : Int)) < ((text.length : Nat) : Int)) eb hc4 ?_
 refine wp_skip ?_
 refine then_n ?_
 refine sr ?_
 refine w_mv es ?_
 refine w_val (y_len es Tryd.underlying9) ?_
 refine w_mv ei ?_
 refine w_val (y_bin ei ei (b_sub (by omega))) ?_
 refine w_as ei ?_
 refine nt ?_
 refine sr ?_
 refine w_mv es ?_
 refine w_mv es ?_
 refine w_mv es ?_
 refine w_mv es ?_
 refine w_mv (ex (.int .i64 ((m : Nat) : Int)) (Eq.trans (b := .int .i64 (((text.length : Nat) : Int) - ((size : Nat) : Int))) rfl (by congr 1; omega))) ?_
 refine w_val (v := .string (str (text.take m))) (y_sls (ex (.string (str text))) evo.no (evo.s ei) Tryd.underlying9 (bnd_h (h := m) (by omega) (by omega))) ?_
 refine w_mv ei ?_
 refine w_call (Tryd.func13) (by kernel_rfl) rfl (m5 es es es es ei) (gmRefTag_y key v aad size hok hv h12 h16 ha (text.take m) (by rw [List.length_take]; omega) (by rw [List.length_take]; omega) w1) ?_
 rintro _ w5 ⟨rfl, hb6⟩
 refine ⟨_, rfl, ?_⟩
 replace hk := thenB hk hb6
 refine w_mv (ex (.tuple #[.string (str (Gm.tg Gh.fo key v aad (text.take m) size)), .int .i64 0])) ?_
 refine w_val ye ?_
 refine w_val ye ?_
 refine w_as es ?_
 refine w_as ei ?_
 refine nt ?_
 refine wp_seq ?_
 refine sr ?_
 refine w_mv es ?_
 refine w_mv es ?_
 refine w_mv (ex (.int .i64 ((m : Nat) : Int)) (Eq.trans (b := .int .i64 (((text.length : Nat) : Int) - ((size : Nat) : Int))) rfl (by congr 1; omega))) ?_
 refine w_val (v := .string (str (text.drop m))) (y_slf (ex (.string (str text))) (evo.s ei) Tryd.underlying9 (bnd_l (l := m) (by omega) (by omega))) ?_
 refine w_val (y_bin es es b_nes) ?_
 refine nt ?_
 have hc7 : (Gm.tg Gh.fo key v aad (text.take m) size) ≠ (text.drop m) := by exact hb
 refine c_t (p := (Gm.tg Gh.fo key v aad (text.take m) size) ≠ (text.drop m)) eb hc7 ?_
 refine sr ?_
 refine w_as (evc (.string (str ([] : List (BitVec 8))))) ?_
 refine w_as Ev.c ?_
 refine nt ?_
 refine wp_ret ?_
 refine then_r ?_
 refine fin_ret2 rfl es ei ?_
 exact ⟨rfl, hk⟩
end Go.Proofs.YtkjdejadambffaaDoor
