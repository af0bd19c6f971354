/-
  Digests: sizes, turned words, a new hash. Conditions as each says.
-/
import Derived.Test.YtieepglpejlkoaaDoorRows
import Derived.Test.YtieepglpejlkoaaDoorGenMore
import Derived.Test.YtieepglpejlkoaaDoorShaTab
import Derived.ProofKit
namespace Go.Proofs.YtieepglpejlkoaaDoor
open Go.RowKit
set_option linter.unusedSimpArgs false
set_option linter.unusedVariables false
namespace ShaAT
theorem mixed : Tryd.prog.follows .mixedOrders = true := by kernel_rfl
theorem fa53_1 (g off : Nat) : ∀ w, (Instr.fieldAt 53 (.pointer (some ⟨g, off, none⟩)) 1).run Tryd.prog w = .ok (.pointer (some ⟨g, off + 1, none⟩)) w := fun w => by kernel_rfl
theorem so3 : (Tryd.prog.underlying 3).isSome = true := by rw [Tryd.underlying3]; rfl
theorem sz40 : (Tryd.prog.info? 40).map (·.size) = some 8 := by kernel_rfl
end ShaAT
set_option maxRecDepth 100000 in
set_option maxHeartbeats 1000000 in
theorem rotl32_c (x : BitVec 32) (k : Int) (w0 : World) : Calls Tryd.prog 56 #[U32 x, .int .i64 k] w0 fun e w' => e = .returned (U32 (Sha.rl32 x k)) ∧ Below w0.heap.size w0 w' := by
 refine enter (n := 17) Tryd.func56 rfl rfl rfl ?_
 have hk : Below w0.heap.size w0 w0 := Below.refl _ _
 refine sr ?_
 refine w_as (evc (U32 (0#32))) ?_
 refine nt ?_
 refine sr ?_
 refine w_mv (ev (.int .i64 k) rfl rfl) ?_
 refine w_val (v := U64 (BitVec.ofInt 64 k)) (y_int_u64 (ev (.int .i64 k) rfl rfl) ShaAT.so3 Tryd.underlying41) ?_
 refine w_val (y_bin (ev (U64 (BitVec.ofInt 64 k)) rfl rfl) (evc (U64 (31#64))) and64) ?_
 refine w_as (ev (U64 ((BitVec.ofInt 64 k) &&& (31#64))) rfl rfl) ?_
 refine nt ?_
 refine sr ?_
 refine w_mv (ev (U32 x) rfl rfl) ?_
 refine w_mv (ev (U64 ((BitVec.ofInt 64 k) &&& (31#64))) rfl rfl) ?_
 refine w_val (y_bin (ev (U32 x) rfl rfl) (ev (U64 ((BitVec.ofInt 64 k) &&& (31#64))) rfl rfl) (shl32 (c := (((BitVec.ofInt 64 k) &&& (31#64)).toNat)) rfl)) ?_
 refine w_mv (ev (U32 x) rfl rfl) ?_
 refine w_mv (ev (U64 ((BitVec.ofInt 64 k) &&& (31#64))) rfl rfl) ?_
 refine w_val (y_bin (evc (U64 (32#64))) (ev (U64 ((BitVec.ofInt 64 k) &&& (31#64))) rfl rfl) sub64) ?_
 refine w_val (y_bin (ev (U32 x) rfl rfl) (ev (U64 ((32#64) - ((BitVec.ofInt 64 k) &&& (31#64)))) rfl rfl) (shr32 (c := (((32#64) - ((BitVec.ofInt 64 k) &&& (31#64))).toNat)) rfl)) ?_
 refine w_val (y_bin (ev (U32 (x <<< (((BitVec.ofInt 64 k) &&& (31#64)).toNat))) rfl rfl) (ev (U32 (x >>> (((32#64) - ((BitVec.ofInt 64 k) &&& (31#64))).toNat))) rfl rfl) or32) ?_
 refine w_as (ev (U32 ((x <<< (((BitVec.ofInt 64 k) &&& (31#64)).toNat)) ||| (x >>> (((32#64) - ((BitVec.ofInt 64 k) &&& (31#64))).toNat)))) rfl rfl) ?_
 refine nt ?_
 refine wp_ret ?_
 refine fin_ret1 rfl (ev (U32 ((x <<< (((BitVec.ofInt 64 k) &&& (31#64)).toNat)) ||| (x >>> (((32#64) - ((BitVec.ofInt 64 k) &&& (31#64))).toNat)))) rfl rfl) ?_
 refine ⟨congrArg Ending.returned ?_, hk⟩
 show (U32 ((x <<< (((BitVec.ofInt 64 k) &&& (31#64)).toNat)) ||| (x >>> (((32#64) - ((BitVec.ofInt 64 k) &&& (31#64))).toNat))) : Value) = U32 (Sha.rl32 x k)
 rfl

set_option maxRecDepth 100000 in
set_option maxHeartbeats 1000000 in
theorem rotl64_c (x : BitVec 64) (k : Int) (w0 : World) : Calls Tryd.prog 57 #[U64 x, .int .i64 k] w0 fun e w' => e = .returned (U64 (Sha.rl64 x k)) ∧ Below w0.heap.size w0 w' := by
 refine enter (n := 17) Tryd.func57 rfl rfl rfl ?_
 have hk : Below w0.heap.size w0 w0 := Below.refl _ _
 refine sr ?_
 refine w_as (evc (U64 (0#64))) ?_
 refine nt ?_
 refine sr ?_
 refine w_mv (ev (.int .i64 k) rfl rfl) ?_
 refine w_val (v := U64 (BitVec.ofInt 64 k)) (y_int_u64 (ev (.int .i64 k) rfl rfl) ShaAT.so3 Tryd.underlying41) ?_
 refine w_val (y_bin (ev (U64 (BitVec.ofInt 64 k)) rfl rfl) (evc (U64 (63#64))) and64) ?_
 refine w_as (ev (U64 ((BitVec.ofInt 64 k) &&& (63#64))) rfl rfl) ?_
 refine nt ?_
 refine sr ?_
 refine w_mv (ev (U64 x) rfl rfl) ?_
 refine w_mv (ev (U64 ((BitVec.ofInt 64 k) &&& (63#64))) rfl rfl) ?_
 refine w_val (y_bin (ev (U64 x) rfl rfl) (ev (U64 ((BitVec.ofInt 64 k) &&& (63#64))) rfl rfl) (shl64 (c := (((BitVec.ofInt 64 k) &&& (63#64)).toNat)) rfl)) ?_
 refine w_mv (ev (U64 x) rfl rfl) ?_
 refine w_mv (ev (U64 ((BitVec.ofInt 64 k) &&& (63#64))) rfl rfl) ?_
 refine w_val (y_bin (evc (U64 (64#64))) (ev (U64 ((BitVec.ofInt 64 k) &&& (63#64))) rfl rfl) sub64) ?_
 refine w_val (y_bin (ev (U64 x) rfl rfl) (ev (U64 ((64#64) - ((BitVec.ofInt 64 k) &&& (63#64)))) rfl rfl) (shr64 (c := (((64#64) - ((BitVec.ofInt 64 k) &&& (63#64))).toNat)) rfl)) ?_
 refine w_val (y_bin (ev (U64 (x <<< (((BitVec.ofInt 64 k) &&& (63#64)).toNat))) rfl rfl) (ev (U64 (x >>> (((64#64) - ((BitVec.ofInt 64 k) &&& (63#64))).toNat))) rfl rfl) or64) ?_
 refine w_as (ev (U64 ((x <<< (((BitVec.ofInt 64 k) &&& (63#64)).toNat)) ||| (x >>> (((64#64) - ((BitVec.ofInt 64 k) &&& (63#64))).toNat)))) rfl rfl) ?_
 refine nt ?_
 refine wp_ret ?_
 refine fin_ret1 rfl (ev (U64 ((x <<< (((BitVec.ofInt 64 k) &&& (63#64)).toNat)) ||| (x >>> (((64#64) - ((BitVec.ofInt 64 k) &&& (63#64))).toNat)))) rfl rfl) ?_
 refine ⟨congrArg Ending.returned ?_, hk⟩
 show (U64 ((x <<< (((BitVec.ofInt 64 k) &&& (63#64)).toNat)) ||| (x >>> (((64#64) - ((BitVec.ofInt 64 k) &&& (63#64))).toNat))) : Value) = U64 (Sha.rl64 x k)
 rfl

set_option maxRecDepth 100000 in
set_option maxHeartbeats 1000000 in
theorem shaSize_256  (w0 : World) : Calls Tryd.prog 19 #[.int .i64 256] w0 fun e w' => e = .returned (.tuple #[.int .i64 32, .int .i64 64, .int .i64 0]) ∧ Below w0.heap.size w0 w' := by
 refine enter (n := 12) Tryd.func19 rfl rfl rfl ?_
 have hk : Below w0.heap.size w0 w0 := Below.refl _ _
 refine sr ?_
 refine w_as (evc (.int .i64 0)) ?_
 refine w_as (evc (.int .i64 0)) ?_
 refine w_as (evc (.int .i64 0)) ?_
 refine nt ?_
 refine wp_seq ?_
 refine sr ?_
 refine w_mv (ev (.int .i64 256) rfl rfl) ?_
 refine nt ?_
 refine wp_block ?_
 refine sr ?_
 refine w_val (y_bin (ev (.int .i64 256) rfl rfl) (evc (.int .i64 256)) b_eql) ?_
 refine w_as (ev (.bool true) rfl rfl) ?_
 refine nt ?_
 refine c_tt (ev (.bool true) rfl rfl) ?_
 refine sr ?_
 refine w_as (evc (.int .i64 32)) ?_
 refine w_as (evc (.int .i64 64)) ?_
 refine w_as (evc (.int .i64 0)) ?_
 refine nt ?_
 refine wp_ret ?_
 refine inb_r ?_
 refine then_r ?_
 refine fin_ret3 rfl (ev (.int .i64 32) rfl rfl) (ev (.int .i64 64) rfl rfl) (ev (.int .i64 0) rfl rfl) ?_
 exact ⟨rfl, hk⟩

set_option maxRecDepth 100000 in
set_option maxHeartbeats 1000000 in
theorem shaSize_384  (w0 : World) : Calls Tryd.prog 19 #[.int .i64 384] w0 fun e w' => e = .returned (.tuple #[.int .i64 48, .int .i64 128, .int .i64 0]) ∧ Below w0.heap.size w0 w' := by
 refine enter (n := 12) Tryd.func19 rfl rfl rfl ?_
 have hk : Below w0.heap.size w0 w0 := Below.refl _ _
 refine sr ?_
 refine w_as (evc (.int .i64 0)) ?_
 refine w_as (evc (.int .i64 0)) ?_
 refine w_as (evc (.int .i64 0)) ?_
 refine nt ?_
 refine wp_seq ?_
 refine sr ?_
 refine w_mv (ev (.int .i64 384) rfl rfl) ?_
 refine nt ?_
 refine wp_block ?_
 refine sr ?_
 refine w_val (y_bin (ev (.int .i64 384) rfl rfl) (evc (.int .i64 256)) b_eql) ?_
 refine w_as (ev (.bool false) rfl rfl) ?_
 refine nt ?_
 refine c_ff (ev (.bool false) rfl rfl) ?_
 refine sr ?_
 refine w_val (y_bin (ev (.int .i64 384) rfl rfl) (evc (.int .i64 384)) b_eql) ?_
 refine w_as (ev (.bool true) rfl rfl) ?_
 refine nt ?_
 refine c_tt (ev (.bool true) rfl rfl) ?_
 refine sr ?_
 refine w_as (evc (.int .i64 48)) ?_
 refine w_as (evc (.int .i64 128)) ?_
 refine w_as (evc (.int .i64 0)) ?_
 refine nt ?_
 refine wp_ret ?_
 refine inb_r ?_
 refine then_r ?_
 refine fin_ret3 rfl (ev (.int .i64 48) rfl rfl) (ev (.int .i64 128) rfl rfl) (ev (.int .i64 0) rfl rfl) ?_
 exact ⟨rfl, hk⟩

set_option maxRecDepth 100000 in
set_option maxHeartbeats 1000000 in
theorem shaSize_512  (w0 : World) : Calls Tryd.prog 19 #[.int .i64 512] w0 fun e w' => e = .returned (.tuple #[.int .i64 64, .int .i64 128, .int .i64 0]) ∧ Below w0.heap.size w0 w' := by
 refine enter (n := 12) Tryd.func19 rfl rfl rfl ?_
 have hk : Below w0.heap.size w0 w0 := Below.refl _ _
 refine sr ?_
 refine w_as (evc (.int .i64 0)) ?_
 refine w_as (evc (.int .i64 0)) ?_
 refine w_as (evc (.int .i64 0)) ?_
 refine nt ?_
 refine wp_seq ?_
 refine sr ?_
 refine w_mv (ev (.int .i64 512) rfl rfl) ?_
 refine nt ?_
 refine wp_block ?_
 refine sr ?_
 refine w_val (y_bin (ev (.int .i64 512) rfl rfl) (evc (.int .i64 256)) b_eql) ?_
 refine w_as (ev (.bool false) rfl rfl) ?_
 refine nt ?_
 refine c_ff (ev (.bool false) rfl rfl) ?_
 refine sr ?_
 refine w_val (y_bin (ev (.int .i64 512) rfl rfl) (evc (.int .i64 384)) b_eql) ?_
 refine w_as (ev (.bool false) rfl rfl) ?_
 refine nt ?_
 refine c_ff (ev (.bool false) rfl rfl) ?_
 refine sr ?_
 refine w_val (y_bin (ev (.int .i64 512) rfl rfl) (evc (.int .i64 512)) b_eql) ?_
 refine w_as (ev (.bool true) rfl rfl) ?_
 refine nt ?_
 refine c_tt (ev (.bool true) rfl rfl) ?_
 refine sr ?_
 refine w_as (evc (.int .i64 64)) ?_
 refine w_as (evc (.int .i64 128)) ?_
 refine w_as (evc (.int .i64 0)) ?_
 refine nt ?_
 refine wp_ret ?_
 refine inb_r ?_
 refine then_r ?_
 refine fin_ret3 rfl (ev (.int .i64 64) rfl rfl) (ev (.int .i64 128) rfl rfl) (ev (.int .i64 0) rfl rfl) ?_
 exact ⟨rfl, hk⟩

set_option maxRecDepth 100000 in
set_option maxHeartbeats 1000000 in
theorem shaSize_no (k : Int) (k1 : k ≠ 256) (k2 : k ≠ 384) (k3 : k ≠ 512) (w0 : World) : Calls Tryd.prog 19 #[.int .i64 k] w0 fun e w' => e = .returned (.tuple #[.int .i64 0, .int .i64 0, .int .i64 11]) ∧ Below w0.heap.size w0 w' := by
 refine enter (n := 12) Tryd.func19 rfl rfl rfl ?_
 have hk : Below w0.heap.size w0 w0 := Below.refl _ _
 refine sr ?_
 refine w_as (evc (.int .i64 0)) ?_
 refine w_as (evc (.int .i64 0)) ?_
 refine w_as (evc (.int .i64 0)) ?_
 refine nt ?_
 refine wp_seq ?_
 refine sr ?_
 refine w_mv (ev (.int .i64 k) rfl rfl) ?_
 refine nt ?_
 refine wp_block ?_
 refine sr ?_
 refine w_val (y_bin (ev (.int .i64 k) rfl rfl) (evc (.int .i64 256)) b_eql) ?_
 refine w_as (ev (.bool (decide (k = 256))) rfl rfl) ?_
 refine nt ?_
 have hc1 : ¬ (k = 256) := by exact k1
 refine c_f (p := k = 256) (ev (.bool (decide (k = 256))) rfl rfl) hc1 ?_
 refine sr ?_
 refine w_val (y_bin (ev (.int .i64 k) rfl rfl) (evc (.int .i64 384)) b_eql) ?_
 refine w_as (ev (.bool (decide (k = 384))) rfl rfl) ?_
 refine nt ?_
 have hc2 : ¬ (k = 384) := by exact k2
 refine c_f (p := k = 384) (ev (.bool (decide (k = 384))) rfl rfl) hc2 ?_
 refine sr ?_
 refine w_val (y_bin (ev (.int .i64 k) rfl rfl) (evc (.int .i64 512)) b_eql) ?_
 refine w_as (ev (.bool (decide (k = 512))) rfl rfl) ?_
 refine nt ?_
 have hc3 : ¬ (k = 512) := by exact k3
 refine c_f (p := k = 512) (ev (.bool (decide (k = 512))) rfl rfl) hc3 ?_
 refine wp_skip ?_
 refine inb_n ?_
 refine then_n ?_
 refine sr ?_
 refine w_as (evc (.int .i64 0)) ?_
 refine w_as (evc (.int .i64 0)) ?_
 refine w_as (evc (.int .i64 11)) ?_
 refine nt ?_
 refine wp_ret ?_
 refine fin_ret3 rfl (ev (.int .i64 0) rfl rfl) (ev (.int .i64 0) rfl rfl) (ev (.int .i64 11) rfl rfl) ?_
 exact ⟨rfl, hk⟩

set_option maxRecDepth 100000 in
set_option maxHeartbeats 1000000 in
theorem shaNew_256  (w0 : World) : Calls Tryd.prog 20 #[.int .i64 256] w0 fun e w' => ∃ p, e = .returned (.tuple #[.pointer (some ⟨p, 0, none⟩), .int .i64 0]) ∧ w0.heap.size ≤ p ∧ Row w' p 53 139 (Sha.hrow (.int .i64 256) (Sha.H0 256) (fun _ => 0#8) (.int .i64 0) (U64 (0#64))) ∧ Below w0.heap.size w0 w' := by
 refine enter (n := 28) Tryd.func20 rfl rfl rfl ?_
 have hk : Below w0.heap.size w0 w0 := Below.refl _ _
 refine sr ?_
 refine w_as (evc (.pointer none)) ?_
 refine w_as (evc (.int .i64 0)) ?_
 refine nt ?_
 refine sr ?_
 refine w_mv (ev (.int .i64 256) rfl rfl) ?_
 refine w_val (v := .agg (arr 139 (Sha.hrow (.int .i64 256) (fun _ => 0#64) (fun _ => 0#8) (.int .i64 0) (U64 (0#64))))) (y_build (vs := #[(0, .int .i64 256)]) (mp_cons (ev (.int .i64 256) rfl rfl) mp0) (fun w => by kernel_rfl)) ?_
 refine w_box (m := 139) (F := Sha.hrow (.int .i64 256) (fun _ => 0#64) (fun _ => 0#8) (.int .i64 0) (U64 (0#64))) (ev (.agg (arr 139 (Sha.hrow (.int .i64 256) (fun _ => 0#64) (fun _ => 0#8) (.int .i64 0) (U64 (0#64))))) rfl rfl) rfl ?_
 intro b_7 w1 hbe_b_7 r_b_7 hb2
 have ge_b_7 : w0.heap.size ≤ b_7 := by have := hk.size; omega
 clear hbe_b_7
 replace hk := thenB hk hb2
 refine w_as (ev (pt b_7 0) rfl rfl) ?_
 refine nt ?_
 refine wp_seq ?_
 refine sr ?_
 refine w_mv (ev (.int .i64 256) rfl rfl) ?_
 refine nt ?_
 refine wp_block ?_
 refine sr ?_
 refine w_val (y_bin (ev (.int .i64 256) rfl rfl) (evc (.int .i64 256)) b_eql) ?_
 refine w_as (ev (.bool true) rfl rfl) ?_
 refine nt ?_
 refine c_tt (ev (.bool true) rfl rfl) ?_
 refine wp_region_lit ?_
 refine w_mv (ev (pt b_7 0) rfl rfl) ?_
 refine w_val (v := .agg (arr 8 (fun j => if j < 1 then U64 (1779033703#64) else if j < 2 then U64 (3144134277#64) else if j < 3 then U64 (1013904242#64) else if j < 4 then U64 (2773480762#64) else if j < 5 then U64 (1359893119#64) else if j < 6 then U64 (2600822924#64) else if j < 7 then U64 (528734635#64) else U64 (1541459225#64)))) (y_build (vs := #[(0, U64 (1779033703#64)), (1, U64 (3144134277#64)), (2, U64 (1013904242#64)), (3, U64 (2773480762#64)), (4, U64 (1359893119#64)), (5, U64 (2600822924#64)), (6, U64 (528734635#64)), (7, U64 (1541459225#64))]) (mp_cons (evc (U64 (1779033703#64))) (mp_cons (evc (U64 (3144134277#64))) (mp_cons (evc (U64 (1013904242#64))) (mp_cons (evc (U64 (2773480762#64))) (mp_cons (evc (U64 (1359893119#64))) (mp_cons (evc (U64 (2600822924#64))) (mp_cons (evc (U64 (528734635#64))) (mp_cons (evc (U64 (1541459225#64))) mp0)))))))) (fun w => by kernel_rfl)) ?_
 refine w_val (y_nc (ev (pt b_7 0) rfl rfl)) ?_
 refine w_val (v := pt b_7 1) (y_off (y_fa (ev (pt b_7 0) rfl rfl) (ShaAT.fa53_1 _ _)) (by first | rfl | omega)) ?_
 refine w_sta (k := 8) (G := fun j => if j < 1 then U64 (1779033703#64) else if j < 2 then U64 (3144134277#64) else if j < 3 then U64 (1013904242#64) else if j < 4 then U64 (2773480762#64) else if j < 5 then U64 (1359893119#64) else if j < 6 then U64 (2600822924#64) else if j < 7 then U64 (528734635#64) else U64 (1541459225#64)) (ev (pt b_7 1) rfl rfl) (ev (.agg (arr 8 (fun j => if j < 1 then U64 (1779033703#64) else if j < 2 then U64 (3144134277#64) else if j < 3 then U64 (1013904242#64) else if j < 4 then U64 (2773480762#64) else if j < 5 then U64 (1359893119#64) else if j < 6 then U64 (2600822924#64) else if j < 7 then U64 (528734635#64) else U64 (1541459225#64)))) rfl rfl) oc ShaAT.sz40 r_b_7 (by omega) ?_
 clear r_b_7; intro w3 r_b_7 hg4 _
 replace hk := thenG hk hg4 (by omega)
 refine wpList_nil ?_
 refine inb_n ?_
 refine then_n ?_
 refine sr ?_
 refine w_mv (ev (pt b_7 0) rfl rfl) ?_
 refine w_as (ev (pt b_7 0) rfl rfl) ?_
 refine w_as (evc (.int .i64 0)) ?_
 refine nt ?_
 refine wp_ret ?_
 refine fin_ret2 rfl (ev (pt b_7 0) rfl rfl) (ev (.int .i64 0) rfl rfl) ?_
 refine ⟨b_7, rfl, ge_b_7, r_b_7.congr (fun j hj => ?_), hk⟩
 exact Sha.new_row (.int .i64 256) (fun j => if j < 1 then U64 (1779033703#64) else if j < 2 then U64 (3144134277#64) else if j < 3 then U64 (1013904242#64) else if j < 4 then U64 (2773480762#64) else if j < 5 then U64 (1359893119#64) else if j < 6 then U64 (2600822924#64) else if j < 7 then U64 (528734635#64) else U64 (1541459225#64)) (fun _ => 0#64) (Sha.H0 256) (fun _ => 0#8) (.int .i64 0) (U64 0#64) j (fun i hi => by rcases (by omega : i = 0 ∨ i = 1 ∨ i = 2 ∨ i = 3 ∨ i = 4 ∨ i = 5 ∨ i = 6 ∨ i = 7) with h | h | h | h | h | h | h | h <;> subst h <;> exact congrArg U64 (by decide +kernel))

set_option maxRecDepth 100000 in
set_option maxHeartbeats 1000000 in
theorem shaNew_384  (w0 : World) : Calls Tryd.prog 20 #[.int .i64 384] w0 fun e w' => ∃ p, e = .returned (.tuple #[.pointer (some ⟨p, 0, none⟩), .int .i64 0]) ∧ w0.heap.size ≤ p ∧ Row w' p 53 139 (Sha.hrow (.int .i64 384) (Sha.H0 384) (fun _ => 0#8) (.int .i64 0) (U64 (0#64))) ∧ Below w0.heap.size w0 w' := by
 refine enter (n := 28) Tryd.func20 rfl rfl rfl ?_
 have hk : Below w0.heap.size w0 w0 := Below.refl _ _
 refine sr ?_
 refine w_as (evc (.pointer none)) ?_
 refine w_as (evc (.int .i64 0)) ?_
 refine nt ?_
 refine sr ?_
 refine w_mv (ev (.int .i64 384) rfl rfl) ?_
 refine w_val (v := .agg (arr 139 (Sha.hrow (.int .i64 384) (fun _ => 0#64) (fun _ => 0#8) (.int .i64 0) (U64 (0#64))))) (y_build (vs := #[(0, .int .i64 384)]) (mp_cons (ev (.int .i64 384) rfl rfl) mp0) (fun w => by kernel_rfl)) ?_
 refine w_box (m := 139) (F := Sha.hrow (.int .i64 384) (fun _ => 0#64) (fun _ => 0#8) (.int .i64 0) (U64 (0#64))) (ev (.agg (arr 139 (Sha.hrow (.int .i64 384) (fun _ => 0#64) (fun _ => 0#8) (.int .i64 0) (U64 (0#64))))) rfl rfl) rfl ?_
 intro b_7 w1 hbe_b_7 r_b_7 hb2
 have ge_b_7 : w0.heap.size ≤ b_7 := by have := hk.size; omega
 clear hbe_b_7
 replace hk := thenB hk hb2
 refine w_as (ev (pt b_7 0) rfl rfl) ?_
 refine nt ?_
 refine wp_seq ?_
 refine sr ?_
 refine w_mv (ev (.int .i64 384) rfl rfl) ?_
 refine nt ?_
 refine wp_block ?_
 refine sr ?_
 refine w_val (y_bin (ev (.int .i64 384) rfl rfl) (evc (.int .i64 256)) b_eql) ?_
 refine w_as (ev (.bool false) rfl rfl) ?_
 refine nt ?_
 refine c_ff (ev (.bool false) rfl rfl) ?_
 refine sr ?_
 refine w_val (y_bin (ev (.int .i64 384) rfl rfl) (evc (.int .i64 384)) b_eql) ?_
 refine w_as (ev (.bool true) rfl rfl) ?_
 refine nt ?_
 refine c_tt (ev (.bool true) rfl rfl) ?_
 refine wp_region_lit ?_
 refine w_mv (ev (pt b_7 0) rfl rfl) ?_
 refine w_val (v := .agg (arr 8 (fun j => if j < 1 then U64 (14680500436340154072#64) else if j < 2 then U64 (7105036623409894663#64) else if j < 3 then U64 (10473403895298186519#64) else if j < 4 then U64 (1526699215303891257#64) else if j < 5 then U64 (7436329637833083697#64) else if j < 6 then U64 (10282925794625328401#64) else if j < 7 then U64 (15784041429090275239#64) else U64 (5167115440072839076#64)))) (y_build (vs := #[(0, U64 (14680500436340154072#64)), (1, U64 (7105036623409894663#64)), (2, U64 (10473403895298186519#64)), (3, U64 (1526699215303891257#64)), (4, U64 (7436329637833083697#64)), (5, U64 (10282925794625328401#64)), (6, U64 (15784041429090275239#64)), (7, U64 (5167115440072839076#64))]) (mp_cons (evc (U64 (14680500436340154072#64))) (mp_cons (evc (U64 (7105036623409894663#64))) (mp_cons (evc (U64 (10473403895298186519#64))) (mp_cons (evc (U64 (1526699215303891257#64))) (mp_cons (evc (U64 (7436329637833083697#64))) (mp_cons (evc (U64 (10282925794625328401#64))) (mp_cons (evc (U64 (15784041429090275239#64))) (mp_cons (evc (U64 (5167115440072839076#64))) mp0)))))))) (fun w => by kernel_rfl)) ?_
 refine w_val (y_nc (ev (pt b_7 0) rfl rfl)) ?_
 refine w_val (v := pt b_7 1) (y_off (y_fa (ev (pt b_7 0) rfl rfl) (ShaAT.fa53_1 _ _)) (by first | rfl | omega)) ?_
 refine w_sta (k := 8) (G := fun j => if j < 1 then U64 (14680500436340154072#64) else if j < 2 then U64 (7105036623409894663#64) else if j < 3 then U64 (10473403895298186519#64) else if j < 4 then U64 (1526699215303891257#64) else if j < 5 then U64 (7436329637833083697#64) else if j < 6 then U64 (10282925794625328401#64) else if j < 7 then U64 (15784041429090275239#64) else U64 (5167115440072839076#64)) (ev (pt b_7 1) rfl rfl) (ev (.agg (arr 8 (fun j => if j < 1 then U64 (14680500436340154072#64) else if j < 2 then U64 (7105036623409894663#64) else if j < 3 then U64 (10473403895298186519#64) else if j < 4 then U64 (1526699215303891257#64) else if j < 5 then U64 (7436329637833083697#64) else if j < 6 then U64 (10282925794625328401#64) else if j < 7 then U64 (15784041429090275239#64) else U64 (5167115440072839076#64)))) rfl rfl) oc ShaAT.sz40 r_b_7 (by omega) ?_
 clear r_b_7; intro w3 r_b_7 hg4 _
 replace hk := thenG hk hg4 (by omega)
 refine wpList_nil ?_
 refine inb_n ?_
 refine then_n ?_
 refine sr ?_
 refine w_mv (ev (pt b_7 0) rfl rfl) ?_
 refine w_as (ev (pt b_7 0) rfl rfl) ?_
 refine w_as (evc (.int .i64 0)) ?_
 refine nt ?_
 refine wp_ret ?_
 refine fin_ret2 rfl (ev (pt b_7 0) rfl rfl) (ev (.int .i64 0) rfl rfl) ?_
 refine ⟨b_7, rfl, ge_b_7, r_b_7.congr (fun j hj => ?_), hk⟩
 exact Sha.new_row (.int .i64 384) (fun j => if j < 1 then U64 (14680500436340154072#64) else if j < 2 then U64 (7105036623409894663#64) else if j < 3 then U64 (10473403895298186519#64) else if j < 4 then U64 (1526699215303891257#64) else if j < 5 then U64 (7436329637833083697#64) else if j < 6 then U64 (10282925794625328401#64) else if j < 7 then U64 (15784041429090275239#64) else U64 (5167115440072839076#64)) (fun _ => 0#64) (Sha.H0 384) (fun _ => 0#8) (.int .i64 0) (U64 0#64) j (fun i hi => by rcases (by omega : i = 0 ∨ i = 1 ∨ i = 2 ∨ i = 3 ∨ i = 4 ∨ i = 5 ∨ i = 6 ∨ i = 7) with h | h | h | h | h | h | h | h <;> subst h <;> exact congrArg U64 (by decide +kernel))

set_option maxRecDepth 100000 in
set_option maxHeartbeats 1000000 in
theorem shaNew_512  (w0 : World) : Calls Tryd.prog 20 #[.int .i64 512] w0 fun e w' => ∃ p, e = .returned (.tuple #[.pointer (some ⟨p, 0, none⟩), .int .i64 0]) ∧ w0.heap.size ≤ p ∧ Row w' p 53 139 (Sha.hrow (.int .i64 512) (Sha.H0 512) (fun _ => 0#8) (.int .i64 0) (U64 (0#64))) ∧ Below w0.heap.size w0 w' := by
 refine enter (n := 28) Tryd.func20 rfl rfl rfl ?_
 have hk : Below w0.heap.size w0 w0 := Below.refl _ _
 refine sr ?_
 refine w_as (evc (.pointer none)) ?_
 refine w_as (evc (.int .i64 0)) ?_
 refine nt ?_
 refine sr ?_
 refine w_mv (ev (.int .i64 512) rfl rfl) ?_
 refine w_val (v := .agg (arr 139 (Sha.hrow (.int .i64 512) (fun _ => 0#64) (fun _ => 0#8) (.int .i64 0) (U64 (0#64))))) (y_build (vs := #[(0, .int .i64 512)]) (mp_cons (ev (.int .i64 512) rfl rfl) mp0) (fun w => by kernel_rfl)) ?_
 refine w_box (m := 139) (F := Sha.hrow (.int .i64 512) (fun _ => 0#64) (fun _ => 0#8) (.int .i64 0) (U64 (0#64))) (ev (.agg (arr 139 (Sha.hrow (.int .i64 512) (fun _ => 0#64) (fun _ => 0#8) (.int .i64 0) (U64 (0#64))))) rfl rfl) rfl ?_
 intro b_7 w1 hbe_b_7 r_b_7 hb2
 have ge_b_7 : w0.heap.size ≤ b_7 := by have := hk.size; omega
 clear hbe_b_7
 replace hk := thenB hk hb2
 refine w_as (ev (pt b_7 0) rfl rfl) ?_
 refine nt ?_
 refine wp_seq ?_
 refine sr ?_
 refine w_mv (ev (.int .i64 512) rfl rfl) ?_
 refine nt ?_
 refine wp_block ?_
 refine sr ?_
 refine w_val (y_bin (ev (.int .i64 512) rfl rfl) (evc (.int .i64 256)) b_eql) ?_
 refine w_as (ev (.bool false) rfl rfl) ?_
 refine nt ?_
 refine c_ff (ev (.bool false) rfl rfl) ?_
 refine sr ?_
 refine w_val (y_bin (ev (.int .i64 512) rfl rfl) (evc (.int .i64 384)) b_eql) ?_
 refine w_as (ev (.bool false) rfl rfl) ?_
 refine nt ?_
 refine c_ff (ev (.bool false) rfl rfl) ?_
 refine sr ?_
 refine w_val (y_bin (ev (.int .i64 512) rfl rfl) (evc (.int .i64 512)) b_eql) ?_
 refine w_as (ev (.bool true) rfl rfl) ?_
 refine nt ?_
 refine c_tt (ev (.bool true) rfl rfl) ?_
 refine wp_region_lit ?_
 refine w_mv (ev (pt b_7 0) rfl rfl) ?_
 refine w_val (v := .agg (arr 8 (fun j => if j < 1 then U64 (7640891576956012808#64) else if j < 2 then U64 (13503953896175478587#64) else if j < 3 then U64 (4354685564936845355#64) else if j < 4 then U64 (11912009170470909681#64) else if j < 5 then U64 (5840696475078001361#64) else if j < 6 then U64 (11170449401992604703#64) else if j < 7 then U64 (2270897969802886507#64) else U64 (6620516959819538809#64)))) (y_build (vs := #[(0, U64 (7640891576956012808#64)), (1, U64 (13503953896175478587#64)), (2, U64 (4354685564936845355#64)), (3, U64 (11912009170470909681#64)), (4, U64 (5840696475078001361#64)), (5, U64 (11170449401992604703#64)), (6, U64 (2270897969802886507#64)), (7, U64 (6620516959819538809#64))]) (mp_cons (evc (U64 (7640891576956012808#64))) (mp_cons (evc (U64 (13503953896175478587#64))) (mp_cons (evc (U64 (4354685564936845355#64))) (mp_cons (evc (U64 (11912009170470909681#64))) (mp_cons (evc (U64 (5840696475078001361#64))) (mp_cons (evc (U64 (11170449401992604703#64))) (mp_cons (evc (U64 (2270897969802886507#64))) (mp_cons (evc (U64 (6620516959819538809#64))) mp0)))))))) (fun w => by kernel_rfl)) ?_
 refine w_val (y_nc (ev (pt b_7 0) rfl rfl)) ?_
 refine w_val (v := pt b_7 1) (y_off (y_fa (ev (pt b_7 0) rfl rfl) (ShaAT.fa53_1 _ _)) (by first | rfl | omega)) ?_
 refine w_sta (k := 8) (G := fun j => if j < 1 then U64 (7640891576956012808#64) else if j < 2 then U64 (13503953896175478587#64) else if j < 3 then U64 (4354685564936845355#64) else if j < 4 then U64 (11912009170470909681#64) else if j < 5 then U64 (5840696475078001361#64) else if j < 6 then U64 (11170449401992604703#64) else if j < 7 then U64 (2270897969802886507#64) else U64 (6620516959819538809#64)) (ev (pt b_7 1) rfl rfl) (ev (.agg (arr 8 (fun j => if j < 1 then U64 (7640891576956012808#64) else if j < 2 then U64 (13503953896175478587#64) else if j < 3 then U64 (4354685564936845355#64) else if j < 4 then U64 (11912009170470909681#64) else if j < 5 then U64 (5840696475078001361#64) else if j < 6 then U64 (11170449401992604703#64) else if j < 7 then U64 (2270897969802886507#64) else U64 (6620516959819538809#64)))) rfl rfl) oc ShaAT.sz40 r_b_7 (by omega) ?_
 clear r_b_7; intro w3 r_b_7 hg4 _
 replace hk := thenG hk hg4 (by omega)
 refine wpList_nil ?_
 refine inb_n ?_
 refine then_n ?_
 refine sr ?_
 refine w_mv (ev (pt b_7 0) rfl rfl) ?_
 refine w_as (ev (pt b_7 0) rfl rfl) ?_
 refine w_as (evc (.int .i64 0)) ?_
 refine nt ?_
 refine wp_ret ?_
 refine fin_ret2 rfl (ev (pt b_7 0) rfl rfl) (ev (.int .i64 0) rfl rfl) ?_
 refine ⟨b_7, rfl, ge_b_7, r_b_7.congr (fun j hj => ?_), hk⟩
 exact Sha.new_row (.int .i64 512) (fun j => if j < 1 then U64 (7640891576956012808#64) else if j < 2 then U64 (13503953896175478587#64) else if j < 3 then U64 (4354685564936845355#64) else if j < 4 then U64 (11912009170470909681#64) else if j < 5 then U64 (5840696475078001361#64) else if j < 6 then U64 (11170449401992604703#64) else if j < 7 then U64 (2270897969802886507#64) else U64 (6620516959819538809#64)) (fun _ => 0#64) (Sha.H0 512) (fun _ => 0#8) (.int .i64 0) (U64 0#64) j (fun i hi => by rcases (by omega : i = 0 ∨ i = 1 ∨ i = 2 ∨ i = 3 ∨ i = 4 ∨ i = 5 ∨ i = 6 ∨ i = 7) with h | h | h | h | h | h | h | h <;> subst h <;> exact congrArg U64 (by decide +kernel))

set_option maxRecDepth 100000 in
set_option maxHeartbeats 1000000 in
theorem shaNew_no (k : Int) (k1 : k ≠ 256) (k2 : k ≠ 384) (k3 : k ≠ 512) (w0 : World) : Calls Tryd.prog 20 #[.int .i64 k] w0 fun e w' => e = .returned (.tuple #[.pointer none, .int .i64 11]) ∧ Below w0.heap.size w0 w' := by
 refine enter (n := 28) Tryd.func20 rfl rfl rfl ?_
 have hk : Below w0.heap.size w0 w0 := Below.refl _ _
 refine sr ?_
 refine w_as (evc (.pointer none)) ?_
 refine w_as (evc (.int .i64 0)) ?_
 refine nt ?_
 refine sr ?_
 refine w_mv (ev (.int .i64 k) rfl rfl) ?_
 refine w_val (v := .agg (arr 139 (Sha.hrow (.int .i64 k) (fun _ => 0#64) (fun _ => 0#8) (.int .i64 0) (U64 (0#64))))) (y_build (vs := #[(0, .int .i64 k)]) (mp_cons (ev (.int .i64 k) rfl rfl) mp0) (fun w => by kernel_rfl)) ?_
 refine w_box (m := 139) (F := Sha.hrow (.int .i64 k) (fun _ => 0#64) (fun _ => 0#8) (.int .i64 0) (U64 (0#64))) (ev (.agg (arr 139 (Sha.hrow (.int .i64 k) (fun _ => 0#64) (fun _ => 0#8) (.int .i64 0) (U64 (0#64))))) rfl rfl) rfl ?_
 intro b_7 w1 hbe_b_7 r_b_7 hb2
 have ge_b_7 : w0.heap.size ≤ b_7 := by have := hk.size; omega
 clear hbe_b_7
 replace hk := thenB hk hb2
 refine w_as (ev (pt b_7 0) rfl rfl) ?_
 refine nt ?_
 refine wp_seq ?_
 refine sr ?_
 refine w_mv (ev (.int .i64 k) rfl rfl) ?_
 refine nt ?_
 refine wp_block ?_
 refine sr ?_
 refine w_val (y_bin (ev (.int .i64 k) rfl rfl) (evc (.int .i64 256)) b_eql) ?_
 refine w_as (ev (.bool (decide (k = 256))) rfl rfl) ?_
 refine nt ?_
 have hc3 : ¬ (k = 256) := by exact k1
 refine c_f (p := k = 256) (ev (.bool (decide (k = 256))) rfl rfl) hc3 ?_
 refine sr ?_
 refine w_val (y_bin (ev (.int .i64 k) rfl rfl) (evc (.int .i64 384)) b_eql) ?_
 refine w_as (ev (.bool (decide (k = 384))) rfl rfl) ?_
 refine nt ?_
 have hc4 : ¬ (k = 384) := by exact k2
 refine c_f (p := k = 384) (ev (.bool (decide (k = 384))) rfl rfl) hc4 ?_
 refine sr ?_
 refine w_val (y_bin (ev (.int .i64 k) rfl rfl) (evc (.int .i64 512)) b_eql) ?_
 refine w_as (ev (.bool (decide (k = 512))) rfl rfl) ?_
 refine nt ?_
 have hc5 : ¬ (k = 512) := by exact k3
 refine c_f (p := k = 512) (ev (.bool (decide (k = 512))) rfl rfl) hc5 ?_
 refine sr ?_
 refine w_as (evc (.pointer none)) ?_
 refine w_as (evc (.int .i64 11)) ?_
 refine nt ?_
 refine wp_ret ?_
 refine inb_r ?_
 refine then_r ?_
 refine fin_ret2 rfl (ev (.pointer none) rfl rfl) (ev (.int .i64 11) rfl rfl) ?_
 exact ⟨rfl, hk⟩
end Go.Proofs.YtieepglpejlkoaaDoor
