/-
  Counters: Xor of the program. Conditions as each says.
-/
import Derived.Test.YthmcoaadigaddaaRows
import Derived.Test.YthmcoaadigaddaaCtrB
import Derived.ProofKit
namespace Go.Proofs.Ythmcoaadigaddaa
open Go.RowKit
set_option linter.unusedSimpArgs false
set_option linter.unusedVariables false
namespace CtrCT
theorem mixed : Try.prog.follows .mixedOrders = true := by kernel_rfl
theorem sc3 : (Try.prog.underlying 3).map scal = some true := by rw [Try.underlying3]; rfl
theorem sc44 : (Try.prog.underlying 44).map scal = some true := by rw [Try.underlying44]; rfl
theorem sc5 : (Try.prog.underlying 5).map scal = some true := by rw [Try.underlying5]; rfl
theorem sc9 : (Try.prog.underlying 9).map scal = some true := by rw [Try.underlying9]; rfl
theorem sz5 : (Try.prog.info? 5).map (·.size) = some 1 := by kernel_rfl
theorem sz9 : (Try.prog.info? 9).map (·.size) = some 1 := by kernel_rfl
end CtrCT
set_option maxRecDepth 100000 in
set_option maxHeartbeats 1000000 in
theorem blocks_c (p : Nat) (s : List (BitVec 8)) (d : Nat) (w0 : World) : Calls Try.prog 38 #[.pointer (some ⟨p, 0, none⟩), .string (str s), .int .i64 ((d : Nat) : Int)] w0 fun e w' => ∃ bc bs bw, e = .returned (.func (.func 55) #[] #[.pointer (some ⟨bc, 0, none⟩), .pointer (some ⟨bs, 0, none⟩), .pointer (some ⟨bw, 0, none⟩)]) ∧ w0.heap.size ≤ bc ∧ w0.heap.size ≤ bs ∧ w0.heap.size ≤ bw ∧ bs ≠ bc ∧ bs ≠ bw ∧ bc ≠ bw ∧ Row w' bc 44 1 (fun j => .pointer (some ⟨p, 0, none⟩)) ∧ Row w' bs 9 1 (fun j => .string (str (Ct.nx s d 0))) ∧ Row w' bw 3 1 (fun j => .int .i64 (d : Int)) ∧ Below w0.heap.size w0 w' := by
  refine enter (n := 8) Try.func38 rfl rfl rfl ?_
  have hk : Below w0.heap.size w0 w0 := Below.refl _ _
  refine wp_seq ?_
  refine wp_region_lit ?_
  refine w_box (m := 1) (F := fun j => .pointer (some ⟨p, 0, none⟩)) (Ev.t (v := .pointer (some ⟨p, 0, none⟩)) rfl rfl) rfl ?_
  intro b_c w1 hbe_b_c r_b_c hb2
  have ge_b_c : w0.heap.size ≤ b_c := by have := hk.size; omega
  clear hbe_b_c
  replace hk := thenB hk hb2
  refine w_box (m := 1) (F := fun j => .string (str s)) (Ev.t (v := .string (str s)) rfl rfl) rfl ?_
  intro b_start w3 hbe_b_start r_b_start hb4
  have ne_b_c_b_start : b_c ≠ b_start := by have := r_b_c.lt; omega
  have ge_b_start : w0.heap.size ≤ b_start := by have := hk.size; omega
  clear hbe_b_start
  replace r_b_c := r_b_c.step hb4
  replace hk := thenB hk hb4
  refine w_box (m := 1) (F := fun j => .int .i64 ((d : Nat) : Int)) (Ev.t (v := .int .i64 ((d : Nat) : Int)) rfl rfl) rfl ?_
  intro b_width w5 hbe_b_width r_b_width hb6
  have ne_b_c_b_width : b_c ≠ b_width := by have := r_b_c.lt; omega
  have ne_b_start_b_width : b_start ≠ b_width := by have := r_b_start.lt; omega
  have ge_b_width : w0.heap.size ≤ b_width := by have := hk.size; omega
  clear hbe_b_width
  replace r_b_c := r_b_c.step hb6
  replace r_b_start := r_b_start.step hb6
  replace hk := thenB hk hb6
  refine w_val (v := .nilFunc) (y_as (Ev.c (v := .nilFunc))) ?_
  refine wpList_nil ?_
  refine then_n ?_
  refine wp_seq ?_
  refine wp_region_lit ?_
  refine w_val (v := .func (.func 55) #[] #[.pointer (some ⟨b_c, 0, none⟩), .pointer (some ⟨b_start, 0, none⟩), .pointer (some ⟨b_width, 0, none⟩)]) (y_mkf m0 (m3 (Ev.t (v := .pointer (some ⟨b_c, 0, none⟩)) rfl rfl) (Ev.t (v := .pointer (some ⟨b_start, 0, none⟩)) rfl rfl) (Ev.t (v := .pointer (some ⟨b_width, 0, none⟩)) rfl rfl))) ?_
  refine w_val (v := .func (.func 55) #[] #[.pointer (some ⟨b_c, 0, none⟩), .pointer (some ⟨b_start, 0, none⟩), .pointer (some ⟨b_width, 0, none⟩)]) (y_as (Ev.t (v := .func (.func 55) #[] #[.pointer (some ⟨b_c, 0, none⟩), .pointer (some ⟨b_start, 0, none⟩), .pointer (some ⟨b_width, 0, none⟩)]) rfl rfl)) ?_
  refine wpList_nil ?_
  refine then_n ?_
  refine wp_ret ?_
  refine fin_ret1 rfl (Ev.t (v := .func (.func 55) #[] #[.pointer (some ⟨b_c, 0, none⟩), .pointer (some ⟨b_start, 0, none⟩), .pointer (some ⟨b_width, 0, none⟩)]) rfl rfl) ?_
  exact ⟨b_c, b_start, b_width, rfl, ge_b_c, ge_b_start, ge_b_width, fun e => ne_b_c_b_start e.symm, ne_b_start_b_width, fun e => ne_b_c_b_width e, r_b_c, r_b_start.congr (fun j hj => by rw [Ct.nx_zero]), r_b_width, hk⟩

set_option maxRecDepth 100000 in
set_option maxHeartbeats 1000000 in
theorem ctrXor_k (key : List (BitVec 8)) (hok : ¬ Aes.okKey key.length) (s : List (BitVec 8)) (d : Int) (text : List (BitVec 8)) (w0 : World) : Calls Try.prog 21 #[.string (str key), .string (str s), .int .i64 d, .string (str text)] w0 fun e w' => e = .returned (.tuple #[.string (str ([] : List (BitVec 8))), .int .i64 3]) ∧ Below w0.heap.size w0 w' := by
  refine enter (n := 71) Try.func21 rfl rfl rfl ?_
  have hk : Below w0.heap.size w0 w0 := Below.refl _ _
  refine wp_seq ?_
  refine wp_region_lit ?_
  refine w_val (v := .string (str ([] : List (BitVec 8)))) (y_as (Ev.c (v := .string (str ([] : List (BitVec 8)))))) ?_
  refine w_val (v := .int .i64 0) (y_as (Ev.c (v := .int .i64 0))) ?_
  refine wpList_nil ?_
  refine then_n ?_
  refine wp_seq ?_
  refine wp_region_lit ?_
  refine w_val (v := .string (str key)) (y_mv (Ev.t (v := .string (str key)) rfl rfl)) ?_
  refine w_call (Try.func23) (by kernel_rfl) rfl (m1 (Ev.t (v := .string (str key)) rfl rfl)) (new_l_no key w0 hok) ?_
  rintro _ _ ⟨rfl, rfl⟩
  refine ⟨_, rfl, ?_⟩
  refine w_val (v := .tuple #[.pointer none, .int .i64 3]) (y_mv (Ev.t (v := .tuple #[.pointer none, .int .i64 3]) rfl rfl)) ?_
  refine w_val (v := .pointer none) (y_ext (v := .pointer none) (Ev.t (v := .tuple #[.pointer none, .int .i64 3]) rfl rfl) rfl) ?_
  refine w_val (v := .int .i64 3) (y_ext (v := .int .i64 3) (Ev.t (v := .tuple #[.pointer none, .int .i64 3]) rfl rfl) rfl) ?_
  refine w_val (v := .pointer none) (y_as (Ev.t (v := .pointer none) rfl rfl)) ?_
  refine w_val (v := .int .i64 3) (y_as (Ev.t (v := .int .i64 3) rfl rfl)) ?_
  refine wpList_nil ?_
  refine then_n ?_
  refine wp_seq ?_
  refine wp_seq ?_
  refine wp_region_lit ?_
  refine w_val (v := .int .i64 3) (y_mv (Ev.t (v := .int .i64 3) rfl rfl)) ?_
  refine w_val (v := .bool true) (y_bin (Ev.t (v := .int .i64 3) rfl rfl) (Ev.c (v := .int .i64 0)) b_neq) ?_
  refine wpList_nil ?_
  refine then_n ?_
  refine c_tt (Ev.t (v := .bool true) rfl rfl) ?_
  refine wp_seq ?_
  refine wp_region_lit ?_
  refine w_val (v := .int .i64 3) (y_mv (Ev.t (v := .int .i64 3) rfl rfl)) ?_
  refine w_val (v := .string (str ([] : List (BitVec 8)))) (y_as (Ev.c (v := .string (str ([] : List (BitVec 8)))))) ?_
  refine w_val (v := .int .i64 3) (y_as (Ev.t (v := .int .i64 3) rfl rfl)) ?_
  refine wpList_nil ?_
  refine then_n ?_
  refine wp_ret ?_
  refine then_r ?_
  refine fin_ret2 rfl (Ev.t (v := .string (str ([] : List (BitVec 8)))) rfl rfl) (Ev.t (v := .int .i64 3) rfl rfl) ?_
  exact ⟨rfl, hk⟩

set_option maxRecDepth 100000 in
set_option maxHeartbeats 1000000 in
theorem refCtr_k (key : List (BitVec 8)) (hok : ¬ Aes.okKey key.length) (s : List (BitVec 8)) (d : Int) (text : List (BitVec 8)) (w0 : World) : Calls Try.prog 22 #[.string (str key), .string (str s), .int .i64 d, .string (str text)] w0 fun e w' => e = .returned (.tuple #[.string (str ([] : List (BitVec 8))), .int .i64 3]) ∧ Below w0.heap.size w0 w' := by
  refine enter (n := 36) Try.func22 rfl rfl rfl ?_
  have hk : Below w0.heap.size w0 w0 := Below.refl _ _
  refine wp_seq ?_
  refine wp_region_lit ?_
  refine w_val (v := .string (str ([] : List (BitVec 8)))) (y_as (Ev.c (v := .string (str ([] : List (BitVec 8)))))) ?_
  refine w_val (v := .int .i64 0) (y_as (Ev.c (v := .int .i64 0))) ?_
  refine wpList_nil ?_
  refine then_n ?_
  refine wp_seq ?_
  refine wp_seq ?_
  refine wp_region_lit ?_
  refine w_val (v := .string (str key)) (y_mv (Ev.t (v := .string (str key)) rfl rfl)) ?_
  refine w_call (Try.func27) (by kernel_rfl) rfl (m1 (Ev.t (v := .string (str key)) rfl rfl)) (right_l_no key w0 hok) ?_
  rintro _ _ ⟨rfl, rfl⟩
  refine ⟨_, rfl, ?_⟩
  refine w_val (v := .bool true) (y_not (Ev.t (v := .bool false) rfl rfl)) ?_
  refine wpList_nil ?_
  refine then_n ?_
  refine c_tt (Ev.t (v := .bool true) rfl rfl) ?_
  refine wp_seq ?_
  refine wp_region_lit ?_
  refine w_val (v := .string (str ([] : List (BitVec 8)))) (y_as (Ev.c (v := .string (str ([] : List (BitVec 8)))))) ?_
  refine w_val (v := .int .i64 3) (y_as (Ev.c (v := .int .i64 3))) ?_
  refine wpList_nil ?_
  refine then_n ?_
  refine wp_ret ?_
  refine then_r ?_
  refine fin_ret2 rfl (Ev.t (v := .string (str ([] : List (BitVec 8)))) rfl rfl) (Ev.t (v := .int .i64 3) rfl rfl) ?_
  exact ⟨rfl, hk⟩

set_option maxRecDepth 100000 in
set_option maxHeartbeats 1000000 in
theorem ctrXor_i (key text : List (BitVec 8)) (hok : Aes.okKey key.length) (s : List (BitVec 8)) (d : Int) (hs : s.length ≠ 16) (w0 : World) : Calls Try.prog 21 #[.string (str key), .string (str s), .int .i64 d, .string (str text)] w0 fun e w' => e = .returned (.tuple #[.string (str ([] : List (BitVec 8))), .int .i64 4]) ∧ Below w0.heap.size w0 w' := by
  refine enter (n := 71) Try.func21 rfl rfl rfl ?_
  have hk : Below w0.heap.size w0 w0 := Below.refl _ _
  refine wp_seq ?_
  refine wp_region_lit ?_
  refine w_val (v := .string (str ([] : List (BitVec 8)))) (y_as (Ev.c (v := .string (str ([] : List (BitVec 8)))))) ?_
  refine w_val (v := .int .i64 0) (y_as (Ev.c (v := .int .i64 0))) ?_
  refine wpList_nil ?_
  refine then_n ?_
  refine wp_seq ?_
  refine wp_region_lit ?_
  refine w_val (v := .string (str key)) (y_mv (Ev.t (v := .string (str key)) rfl rfl)) ?_
  refine w_call (Try.func23) (by kernel_rfl) rfl (m1 (Ev.t (v := .string (str key)) rfl rfl)) (new_l key w0 hok) ?_
  rintro _ w1 ⟨p, rfl, hge_p, hc, hb_p⟩
  refine ⟨_, rfl, ?_⟩
  have ge_p : w0.heap.size ≤ p := by have := hk.size; omega
  replace hk := thenB hk hb_p
  refine w_val (v := .tuple #[.pointer (some ⟨p, 0, none⟩), .int .i64 0]) (y_mv (Ev.t (v := .tuple #[.pointer (some ⟨p, 0, none⟩), .int .i64 0]) rfl rfl)) ?_
  refine w_val (v := .pointer (some ⟨p, 0, none⟩)) (y_ext (v := .pointer (some ⟨p, 0, none⟩)) (Ev.t (v := .tuple #[.pointer (some ⟨p, 0, none⟩), .int .i64 0]) rfl rfl) rfl) ?_
  refine w_val (v := .int .i64 0) (y_ext (v := .int .i64 0) (Ev.t (v := .tuple #[.pointer (some ⟨p, 0, none⟩), .int .i64 0]) rfl rfl) rfl) ?_
  refine w_val (v := .pointer (some ⟨p, 0, none⟩)) (y_as (Ev.t (v := .pointer (some ⟨p, 0, none⟩)) rfl rfl)) ?_
  refine w_val (v := .int .i64 0) (y_as (Ev.t (v := .int .i64 0) rfl rfl)) ?_
  refine wpList_nil ?_
  refine then_n ?_
  refine wp_seq ?_
  refine wp_seq ?_
  refine wp_region_lit ?_
  refine w_val (v := .int .i64 0) (y_mv (Ev.t (v := .int .i64 0) rfl rfl)) ?_
  refine w_val (v := .bool false) (y_bin (Ev.t (v := .int .i64 0) rfl rfl) (Ev.c (v := .int .i64 0)) b_neq) ?_
  refine wpList_nil ?_
  refine then_n ?_
  refine c_ff (Ev.t (v := .bool false) rfl rfl) ?_
  refine wp_skip ?_
  refine then_n ?_
  refine wp_seq ?_
  refine wp_seq ?_
  refine wp_region_lit ?_
  refine w_val (v := .string (str s)) (y_mv (Ev.t (v := .string (str s)) rfl rfl)) ?_
  refine w_val (v := .int .i64 d) (y_mv (Ev.t (v := .int .i64 d) rfl rfl)) ?_
  refine w_call (Try.func35) (by kernel_rfl) rfl (m2 (Ev.t (v := .string (str s)) rfl rfl) (Ev.t (v := .int .i64 d) rfl rfl)) (wrong_i s d hs w1) ?_
  rintro _ w2 ⟨rfl, hb3⟩
  refine ⟨_, rfl, ?_⟩
  replace hk := thenB hk hb3
  replace hc := hc.below hb3
  refine w_val (v := .int .i64 4) (y_as (Ev.t (v := .int .i64 4) rfl rfl)) ?_
  refine wpList_nil ?_
  refine then_n ?_
  refine wp_seq ?_
  refine wp_region_lit ?_
  refine w_val (v := .int .i64 4) (y_mv (Ev.t (v := .int .i64 4) rfl rfl)) ?_
  refine w_val (v := .bool true) (y_bin (Ev.t (v := .int .i64 4) rfl rfl) (Ev.c (v := .int .i64 0)) b_neq) ?_
  refine wpList_nil ?_
  refine then_n ?_
  refine c_tt (Ev.t (v := .bool true) rfl rfl) ?_
  refine wp_seq ?_
  refine wp_region_lit ?_
  refine w_val (v := .int .i64 4) (y_mv (Ev.t (v := .int .i64 4) rfl rfl)) ?_
  refine w_val (v := .string (str ([] : List (BitVec 8)))) (y_as (Ev.c (v := .string (str ([] : List (BitVec 8)))))) ?_
  refine w_val (v := .int .i64 4) (y_as (Ev.t (v := .int .i64 4) rfl rfl)) ?_
  refine wpList_nil ?_
  refine then_n ?_
  refine wp_ret ?_
  refine then_r ?_
  refine fin_ret2 rfl (Ev.t (v := .string (str ([] : List (BitVec 8)))) rfl rfl) (Ev.t (v := .int .i64 4) rfl rfl) ?_
  exact ⟨rfl, hk⟩

set_option maxRecDepth 100000 in
set_option maxHeartbeats 1000000 in
theorem refCtr_i (key text : List (BitVec 8)) (hok : Aes.okKey key.length) (s : List (BitVec 8)) (d : Int) (hs : s.length ≠ 16) (w0 : World) : Calls Try.prog 22 #[.string (str key), .string (str s), .int .i64 d, .string (str text)] w0 fun e w' => e = .returned (.tuple #[.string (str ([] : List (BitVec 8))), .int .i64 4]) ∧ Below w0.heap.size w0 w' := by
  refine enter (n := 36) Try.func22 rfl rfl rfl ?_
  have hk : Below w0.heap.size w0 w0 := Below.refl _ _
  refine wp_seq ?_
  refine wp_region_lit ?_
  refine w_val (v := .string (str ([] : List (BitVec 8)))) (y_as (Ev.c (v := .string (str ([] : List (BitVec 8)))))) ?_
  refine w_val (v := .int .i64 0) (y_as (Ev.c (v := .int .i64 0))) ?_
  refine wpList_nil ?_
  refine then_n ?_
  refine wp_seq ?_
  refine wp_seq ?_
  refine wp_region_lit ?_
  refine w_val (v := .string (str key)) (y_mv (Ev.t (v := .string (str key)) rfl rfl)) ?_
  refine w_call (Try.func27) (by kernel_rfl) rfl (m1 (Ev.t (v := .string (str key)) rfl rfl)) (right_l key w0 hok) ?_
  rintro _ _ ⟨rfl, rfl⟩
  refine ⟨_, rfl, ?_⟩
  refine w_val (v := .bool false) (y_not (Ev.t (v := .bool true) rfl rfl)) ?_
  refine wpList_nil ?_
  refine then_n ?_
  refine c_ff (Ev.t (v := .bool false) rfl rfl) ?_
  refine wp_skip ?_
  refine then_n ?_
  refine wp_seq ?_
  refine wp_seq ?_
  refine wp_region_lit ?_
  refine w_val (v := .string (str s)) (y_mv (Ev.t (v := .string (str s)) rfl rfl)) ?_
  refine w_val (v := .int .i64 d) (y_mv (Ev.t (v := .int .i64 d) rfl rfl)) ?_
  refine w_call (Try.func20) (by kernel_rfl) rfl (m3 (Ev.t (v := .string (str s)) rfl rfl) (Ev.t (v := .int .i64 d) rfl rfl) (Ev.c (v := U64 (0#64)))) (refNext_i s d hs 0#64 w0) ?_
  rintro _ w2 ⟨rfl, hb3⟩
  refine ⟨_, rfl, ?_⟩
  replace hk := thenB hk hb3
  refine w_val (v := .tuple #[.string (str ([] : List (BitVec 8))), .int .i64 4]) (y_mv (Ev.t (v := .tuple #[.string (str ([] : List (BitVec 8))), .int .i64 4]) rfl rfl)) ?_
  refine w_val (v := .string (str ([] : List (BitVec 8)))) (y_ext (v := .string (str ([] : List (BitVec 8)))) (Ev.t (v := .tuple #[.string (str ([] : List (BitVec 8))), .int .i64 4]) rfl rfl) rfl) ?_
  refine w_val (v := .int .i64 4) (y_ext (v := .int .i64 4) (Ev.t (v := .tuple #[.string (str ([] : List (BitVec 8))), .int .i64 4]) rfl rfl) rfl) ?_
  refine w_val (v := .string (str ([] : List (BitVec 8)))) (y_as (Ev.t (v := .string (str ([] : List (BitVec 8)))) rfl rfl)) ?_
  refine w_val (v := .int .i64 4) (y_as (Ev.t (v := .int .i64 4) rfl rfl)) ?_
  refine wpList_nil ?_
  refine then_n ?_
  refine wp_seq ?_
  refine wp_region_lit ?_
  refine w_val (v := .int .i64 4) (y_mv (Ev.t (v := .int .i64 4) rfl rfl)) ?_
  refine w_val (v := .bool true) (y_bin (Ev.t (v := .int .i64 4) rfl rfl) (Ev.c (v := .int .i64 0)) b_neq) ?_
  refine wpList_nil ?_
  refine then_n ?_
  refine c_tt (Ev.t (v := .bool true) rfl rfl) ?_
  refine wp_seq ?_
  refine wp_region_lit ?_
  refine w_val (v := .int .i64 4) (y_mv (Ev.t (v := .int .i64 4) rfl rfl)) ?_
  refine w_val (v := .string (str ([] : List (BitVec 8)))) (y_as (Ev.c (v := .string (str ([] : List (BitVec 8)))))) ?_
  refine w_val (v := .int .i64 4) (y_as (Ev.t (v := .int .i64 4) rfl rfl)) ?_
  refine wpList_nil ?_
  refine then_n ?_
  refine wp_ret ?_
  refine then_r ?_
  refine fin_ret2 rfl (Ev.t (v := .string (str ([] : List (BitVec 8)))) rfl rfl) (Ev.t (v := .int .i64 4) rfl rfl) ?_
  exact ⟨rfl, hk⟩

set_option maxRecDepth 100000 in
set_option maxHeartbeats 1000000 in
theorem ctrXor_d (key text : List (BitVec 8)) (hok : Aes.okKey key.length) (s : List (BitVec 8)) (d : Int) (hs : s.length = 16) (hd : ¬ (1 ≤ d ∧ d ≤ 16)) (w0 : World) : Calls Try.prog 21 #[.string (str key), .string (str s), .int .i64 d, .string (str text)] w0 fun e w' => e = .returned (.tuple #[.string (str ([] : List (BitVec 8))), .int .i64 2]) ∧ Below w0.heap.size w0 w' := by
  refine enter (n := 71) Try.func21 rfl rfl rfl ?_
  have hk : Below w0.heap.size w0 w0 := Below.refl _ _
  refine wp_seq ?_
  refine wp_region_lit ?_
  refine w_val (v := .string (str ([] : List (BitVec 8)))) (y_as (Ev.c (v := .string (str ([] : List (BitVec 8)))))) ?_
  refine w_val (v := .int .i64 0) (y_as (Ev.c (v := .int .i64 0))) ?_
  refine wpList_nil ?_
  refine then_n ?_
  refine wp_seq ?_
  refine wp_region_lit ?_
  refine w_val (v := .string (str key)) (y_mv (Ev.t (v := .string (str key)) rfl rfl)) ?_
  refine w_call (Try.func23) (by kernel_rfl) rfl (m1 (Ev.t (v := .string (str key)) rfl rfl)) (new_l key w0 hok) ?_
  rintro _ w1 ⟨p, rfl, hge_p, hc, hb_p⟩
  refine ⟨_, rfl, ?_⟩
  have ge_p : w0.heap.size ≤ p := by have := hk.size; omega
  replace hk := thenB hk hb_p
  refine w_val (v := .tuple #[.pointer (some ⟨p, 0, none⟩), .int .i64 0]) (y_mv (Ev.t (v := .tuple #[.pointer (some ⟨p, 0, none⟩), .int .i64 0]) rfl rfl)) ?_
  refine w_val (v := .pointer (some ⟨p, 0, none⟩)) (y_ext (v := .pointer (some ⟨p, 0, none⟩)) (Ev.t (v := .tuple #[.pointer (some ⟨p, 0, none⟩), .int .i64 0]) rfl rfl) rfl) ?_
  refine w_val (v := .int .i64 0) (y_ext (v := .int .i64 0) (Ev.t (v := .tuple #[.pointer (some ⟨p, 0, none⟩), .int .i64 0]) rfl rfl) rfl) ?_
  refine w_val (v := .pointer (some ⟨p, 0, none⟩)) (y_as (Ev.t (v := .pointer (some ⟨p, 0, none⟩)) rfl rfl)) ?_
  refine w_val (v := .int .i64 0) (y_as (Ev.t (v := .int .i64 0) rfl rfl)) ?_
  refine wpList_nil ?_
  refine then_n ?_
  refine wp_seq ?_
  refine wp_seq ?_
  refine wp_region_lit ?_
  refine w_val (v := .int .i64 0) (y_mv (Ev.t (v := .int .i64 0) rfl rfl)) ?_
  refine w_val (v := .bool false) (y_bin (Ev.t (v := .int .i64 0) rfl rfl) (Ev.c (v := .int .i64 0)) b_neq) ?_
  refine wpList_nil ?_
  refine then_n ?_
  refine c_ff (Ev.t (v := .bool false) rfl rfl) ?_
  refine wp_skip ?_
  refine then_n ?_
  refine wp_seq ?_
  refine wp_seq ?_
  refine wp_region_lit ?_
  refine w_val (v := .string (str s)) (y_mv (Ev.t (v := .string (str s)) rfl rfl)) ?_
  refine w_val (v := .int .i64 d) (y_mv (Ev.t (v := .int .i64 d) rfl rfl)) ?_
  refine w_call (Try.func35) (by kernel_rfl) rfl (m2 (Ev.t (v := .string (str s)) rfl rfl) (Ev.t (v := .int .i64 d) rfl rfl)) (wrong_d s d hs hd w1) ?_
  rintro _ w2 ⟨rfl, hb3⟩
  refine ⟨_, rfl, ?_⟩
  replace hk := thenB hk hb3
  replace hc := hc.below hb3
  refine w_val (v := .int .i64 2) (y_as (Ev.t (v := .int .i64 2) rfl rfl)) ?_
  refine wpList_nil ?_
  refine then_n ?_
  refine wp_seq ?_
  refine wp_region_lit ?_
  refine w_val (v := .int .i64 2) (y_mv (Ev.t (v := .int .i64 2) rfl rfl)) ?_
  refine w_val (v := .bool true) (y_bin (Ev.t (v := .int .i64 2) rfl rfl) (Ev.c (v := .int .i64 0)) b_neq) ?_
  refine wpList_nil ?_
  refine then_n ?_
  refine c_tt (Ev.t (v := .bool true) rfl rfl) ?_
  refine wp_seq ?_
  refine wp_region_lit ?_
  refine w_val (v := .int .i64 2) (y_mv (Ev.t (v := .int .i64 2) rfl rfl)) ?_
  refine w_val (v := .string (str ([] : List (BitVec 8)))) (y_as (Ev.c (v := .string (str ([] : List (BitVec 8)))))) ?_
  refine w_val (v := .int .i64 2) (y_as (Ev.t (v := .int .i64 2) rfl rfl)) ?_
  refine wpList_nil ?_
  refine then_n ?_
  refine wp_ret ?_
  refine then_r ?_
  refine fin_ret2 rfl (Ev.t (v := .string (str ([] : List (BitVec 8)))) rfl rfl) (Ev.t (v := .int .i64 2) rfl rfl) ?_
  exact ⟨rfl, hk⟩

set_option maxRecDepth 100000 in
set_option maxHeartbeats 1000000 in
theorem refCtr_d (key text : List (BitVec 8)) (hok : Aes.okKey key.length) (s : List (BitVec 8)) (d : Int) (hs : s.length = 16) (hd : ¬ (1 ≤ d ∧ d ≤ 16)) (w0 : World) : Calls Try.prog 22 #[.string (str key), .string (str s), .int .i64 d, .string (str text)] w0 fun e w' => e = .returned (.tuple #[.string (str ([] : List (BitVec 8))), .int .i64 2]) ∧ Below w0.heap.size w0 w' := by
  refine enter (n := 36) Try.func22 rfl rfl rfl ?_
  have hk : Below w0.heap.size w0 w0 := Below.refl _ _
  refine wp_seq ?_
  refine wp_region_lit ?_
  refine w_val (v := .string (str ([] : List (BitVec 8)))) (y_as (Ev.c (v := .string (str ([] : List (BitVec 8)))))) ?_
  refine w_val (v := .int .i64 0) (y_as (Ev.c (v := .int .i64 0))) ?_
  refine wpList_nil ?_
  refine then_n ?_
  refine wp_seq ?_
  refine wp_seq ?_
  refine wp_region_lit ?_
  refine w_val (v := .string (str key)) (y_mv (Ev.t (v := .string (str key)) rfl rfl)) ?_
  refine w_call (Try.func27) (by kernel_rfl) rfl (m1 (Ev.t (v := .string (str key)) rfl rfl)) (right_l key w0 hok) ?_
  rintro _ _ ⟨rfl, rfl⟩
  refine ⟨_, rfl, ?_⟩
  refine w_val (v := .bool false) (y_not (Ev.t (v := .bool true) rfl rfl)) ?_
  refine wpList_nil ?_
  refine then_n ?_
  refine c_ff (Ev.t (v := .bool false) rfl rfl) ?_
  refine wp_skip ?_
  refine then_n ?_
  refine wp_seq ?_
  refine wp_seq ?_
  refine wp_region_lit ?_
  refine w_val (v := .string (str s)) (y_mv (Ev.t (v := .string (str s)) rfl rfl)) ?_
  refine w_val (v := .int .i64 d) (y_mv (Ev.t (v := .int .i64 d) rfl rfl)) ?_
  refine w_call (Try.func20) (by kernel_rfl) rfl (m3 (Ev.t (v := .string (str s)) rfl rfl) (Ev.t (v := .int .i64 d) rfl rfl) (Ev.c (v := U64 (0#64)))) (refNext_d s d hs hd 0#64 w0) ?_
  rintro _ w2 ⟨rfl, hb3⟩
  refine ⟨_, rfl, ?_⟩
  replace hk := thenB hk hb3
  refine w_val (v := .tuple #[.string (str ([] : List (BitVec 8))), .int .i64 2]) (y_mv (Ev.t (v := .tuple #[.string (str ([] : List (BitVec 8))), .int .i64 2]) rfl rfl)) ?_
  refine w_val (v := .string (str ([] : List (BitVec 8)))) (y_ext (v := .string (str ([] : List (BitVec 8)))) (Ev.t (v := .tuple #[.string (str ([] : List (BitVec 8))), .int .i64 2]) rfl rfl) rfl) ?_
  refine w_val (v := .int .i64 2) (y_ext (v := .int .i64 2) (Ev.t (v := .tuple #[.string (str ([] : List (BitVec 8))), .int .i64 2]) rfl rfl) rfl) ?_
  refine w_val (v := .string (str ([] : List (BitVec 8)))) (y_as (Ev.t (v := .string (str ([] : List (BitVec 8)))) rfl rfl)) ?_
  refine w_val (v := .int .i64 2) (y_as (Ev.t (v := .int .i64 2) rfl rfl)) ?_
  refine wpList_nil ?_
  refine then_n ?_
  refine wp_seq ?_
  refine wp_region_lit ?_
  refine w_val (v := .int .i64 2) (y_mv (Ev.t (v := .int .i64 2) rfl rfl)) ?_
  refine w_val (v := .bool true) (y_bin (Ev.t (v := .int .i64 2) rfl rfl) (Ev.c (v := .int .i64 0)) b_neq) ?_
  refine wpList_nil ?_
  refine then_n ?_
  refine c_tt (Ev.t (v := .bool true) rfl rfl) ?_
  refine wp_seq ?_
  refine wp_region_lit ?_
  refine w_val (v := .int .i64 2) (y_mv (Ev.t (v := .int .i64 2) rfl rfl)) ?_
  refine w_val (v := .string (str ([] : List (BitVec 8)))) (y_as (Ev.c (v := .string (str ([] : List (BitVec 8)))))) ?_
  refine w_val (v := .int .i64 2) (y_as (Ev.t (v := .int .i64 2) rfl rfl)) ?_
  refine wpList_nil ?_
  refine then_n ?_
  refine wp_ret ?_
  refine then_r ?_
  refine fin_ret2 rfl (Ev.t (v := .string (str ([] : List (BitVec 8)))) rfl rfl) (Ev.t (v := .int .i64 2) rfl rfl) ?_
  exact ⟨rfl, hk⟩

set_option maxRecDepth 100000 in
set_option maxHeartbeats 1000000 in
theorem ctrXor_z (key text : List (BitVec 8)) (hok : Aes.okKey key.length) (s : List (BitVec 8)) (d : Nat) (hs : s.length = 16) (h1 : 1 ≤ d) (h16 : d ≤ 16) (ht : 70000 < text.length) (w0 : World) : Calls Try.prog 21 #[.string (str key), .string (str s), .int .i64 ((d : Nat) : Int), .string (str text)] w0 fun e w' => e = .returned (.tuple #[.string (str ([] : List (BitVec 8))), .int .i64 6]) ∧ Below w0.heap.size w0 w' := by
  refine enter (n := 71) Try.func21 rfl rfl rfl ?_
  have hk : Below w0.heap.size w0 w0 := Below.refl _ _
  refine wp_seq ?_
  refine wp_region_lit ?_
  refine w_val (v := .string (str ([] : List (BitVec 8)))) (y_as (Ev.c (v := .string (str ([] : List (BitVec 8)))))) ?_
  refine w_val (v := .int .i64 0) (y_as (Ev.c (v := .int .i64 0))) ?_
  refine wpList_nil ?_
  refine then_n ?_
  refine wp_seq ?_
  refine wp_region_lit ?_
  refine w_val (v := .string (str key)) (y_mv (Ev.t (v := .string (str key)) rfl rfl)) ?_
  refine w_call (Try.func23) (by kernel_rfl) rfl (m1 (Ev.t (v := .string (str key)) rfl rfl)) (new_l key w0 hok) ?_
  rintro _ w1 ⟨p, rfl, hge_p, hc, hb_p⟩
  refine ⟨_, rfl, ?_⟩
  have ge_p : w0.heap.size ≤ p := by have := hk.size; omega
  replace hk := thenB hk hb_p
  refine w_val (v := .tuple #[.pointer (some ⟨p, 0, none⟩), .int .i64 0]) (y_mv (Ev.t (v := .tuple #[.pointer (some ⟨p, 0, none⟩), .int .i64 0]) rfl rfl)) ?_
  refine w_val (v := .pointer (some ⟨p, 0, none⟩)) (y_ext (v := .pointer (some ⟨p, 0, none⟩)) (Ev.t (v := .tuple #[.pointer (some ⟨p, 0, none⟩), .int .i64 0]) rfl rfl) rfl) ?_
  refine w_val (v := .int .i64 0) (y_ext (v := .int .i64 0) (Ev.t (v := .tuple #[.pointer (some ⟨p, 0, none⟩), .int .i64 0]) rfl rfl) rfl) ?_
  refine w_val (v := .pointer (some ⟨p, 0, none⟩)) (y_as (Ev.t (v := .pointer (some ⟨p, 0, none⟩)) rfl rfl)) ?_
  refine w_val (v := .int .i64 0) (y_as (Ev.t (v := .int .i64 0) rfl rfl)) ?_
  refine wpList_nil ?_
  refine then_n ?_
  refine wp_seq ?_
  refine wp_seq ?_
  refine wp_region_lit ?_
  refine w_val (v := .int .i64 0) (y_mv (Ev.t (v := .int .i64 0) rfl rfl)) ?_
  refine w_val (v := .bool false) (y_bin (Ev.t (v := .int .i64 0) rfl rfl) (Ev.c (v := .int .i64 0)) b_neq) ?_
  refine wpList_nil ?_
  refine then_n ?_
  refine c_ff (Ev.t (v := .bool false) rfl rfl) ?_
  refine wp_skip ?_
  refine then_n ?_
  refine wp_seq ?_
  refine wp_seq ?_
  refine wp_region_lit ?_
  refine w_val (v := .string (str s)) (y_mv (Ev.t (v := .string (str s)) rfl rfl)) ?_
  refine w_val (v := .int .i64 ((d : Nat) : Int)) (y_mv (Ev.t (v := .int .i64 ((d : Nat) : Int)) rfl rfl)) ?_
  refine w_call (Try.func35) (by kernel_rfl) rfl (m2 (Ev.t (v := .string (str s)) rfl rfl) (Ev.t (v := .int .i64 ((d : Nat) : Int)) rfl rfl)) (wrong_y s d hs h1 h16 w1) ?_
  rintro _ w2 ⟨rfl, hb3⟩
  refine ⟨_, rfl, ?_⟩
  replace hk := thenB hk hb3
  replace hc := hc.below hb3
  refine w_val (v := .int .i64 0) (y_as (Ev.t (v := .int .i64 0) rfl rfl)) ?_
  refine wpList_nil ?_
  refine then_n ?_
  refine wp_seq ?_
  refine wp_region_lit ?_
  refine w_val (v := .int .i64 0) (y_mv (Ev.t (v := .int .i64 0) rfl rfl)) ?_
  refine w_val (v := .bool false) (y_bin (Ev.t (v := .int .i64 0) rfl rfl) (Ev.c (v := .int .i64 0)) b_neq) ?_
  refine wpList_nil ?_
  refine then_n ?_
  refine c_ff (Ev.t (v := .bool false) rfl rfl) ?_
  refine wp_skip ?_
  refine then_n ?_
  refine wp_seq ?_
  refine wp_seq ?_
  refine wp_region_lit ?_
  refine w_val (v := .string (str text)) (y_mv (Ev.t (v := .string (str text)) rfl rfl)) ?_
  refine w_val (v := .int .i64 ((text.length : Nat) : Int)) (y_len (Ev.t (v := .string (str text)) rfl rfl) Try.underlying9) ?_
  refine w_val (v := .bool (decide (70000 < ((text.length : Nat) : Int)))) (y_bin (Ev.t (v := .int .i64 ((text.length : Nat) : Int)) rfl rfl) (Ev.c (v := .int .i64 70000)) b_gtr) ?_
  refine wpList_nil ?_
  refine then_n ?_
  have hc4 : 70000 < ((text.length : Nat) : Int) := by omega
  refine c_t (p := 70000 < ((text.length : Nat) : Int)) (Ev.t (v := .bool (decide (70000 < ((text.length : Nat) : Int)))) rfl rfl) hc4 ?_
  refine wp_seq ?_
  refine wp_region_lit ?_
  refine w_val (v := .string (str ([] : List (BitVec 8)))) (y_as (Ev.c (v := .string (str ([] : List (BitVec 8)))))) ?_
  refine w_val (v := .int .i64 6) (y_as (Ev.c (v := .int .i64 6))) ?_
  refine wpList_nil ?_
  refine then_n ?_
  refine wp_ret ?_
  refine then_r ?_
  refine fin_ret2 rfl (Ev.t (v := .string (str ([] : List (BitVec 8)))) rfl rfl) (Ev.t (v := .int .i64 6) rfl rfl) ?_
  exact ⟨rfl, hk⟩

set_option maxRecDepth 100000 in
set_option maxHeartbeats 1000000 in
theorem refCtr_z (key text : List (BitVec 8)) (hok : Aes.okKey key.length) (s : List (BitVec 8)) (d : Nat) (hs : s.length = 16) (h1 : 1 ≤ d) (h16 : d ≤ 16) (ht : 70000 < text.length) (w0 : World) : Calls Try.prog 22 #[.string (str key), .string (str s), .int .i64 ((d : Nat) : Int), .string (str text)] w0 fun e w' => e = .returned (.tuple #[.string (str ([] : List (BitVec 8))), .int .i64 6]) ∧ Below w0.heap.size w0 w' := by
  refine enter (n := 36) Try.func22 rfl rfl rfl ?_
  have hk : Below w0.heap.size w0 w0 := Below.refl _ _
  refine wp_seq ?_
  refine wp_region_lit ?_
  refine w_val (v := .string (str ([] : List (BitVec 8)))) (y_as (Ev.c (v := .string (str ([] : List (BitVec 8)))))) ?_
  refine w_val (v := .int .i64 0) (y_as (Ev.c (v := .int .i64 0))) ?_
  refine wpList_nil ?_
  refine then_n ?_
  refine wp_seq ?_
  refine wp_seq ?_
  refine wp_region_lit ?_
  refine w_val (v := .string (str key)) (y_mv (Ev.t (v := .string (str key)) rfl rfl)) ?_
  refine w_call (Try.func27) (by kernel_rfl) rfl (m1 (Ev.t (v := .string (str key)) rfl rfl)) (right_l key w0 hok) ?_
  rintro _ _ ⟨rfl, rfl⟩
  refine ⟨_, rfl, ?_⟩
  refine w_val (v := .bool false) (y_not (Ev.t (v := .bool true) rfl rfl)) ?_
  refine wpList_nil ?_
  refine then_n ?_
  refine c_ff (Ev.t (v := .bool false) rfl rfl) ?_
  refine wp_skip ?_
  refine then_n ?_
  refine wp_seq ?_
  refine wp_seq ?_
  refine wp_region_lit ?_
  refine w_val (v := .string (str s)) (y_mv (Ev.t (v := .string (str s)) rfl rfl)) ?_
  refine w_val (v := .int .i64 ((d : Nat) : Int)) (y_mv (Ev.t (v := .int .i64 ((d : Nat) : Int)) rfl rfl)) ?_
  refine w_call (Try.func20) (by kernel_rfl) rfl (m3 (Ev.t (v := .string (str s)) rfl rfl) (Ev.t (v := .int .i64 ((d : Nat) : Int)) rfl rfl) (Ev.c (v := U64 (0#64)))) (refNext_y s d hs h1 h16 0 (by omega) w0) ?_
  rintro _ w2 ⟨rfl, hb3⟩
  refine ⟨_, rfl, ?_⟩
  replace hk := thenB hk hb3
  refine w_val (v := .tuple #[.string (str (Ct.nx s d 0)), .int .i64 0]) (y_mv (Ev.t (v := .tuple #[.string (str (Ct.nx s d 0)), .int .i64 0]) rfl rfl)) ?_
  refine w_val (v := .string (str (Ct.nx s d 0))) (y_ext (v := .string (str (Ct.nx s d 0))) (Ev.t (v := .tuple #[.string (str (Ct.nx s d 0)), .int .i64 0]) rfl rfl) rfl) ?_
  refine w_val (v := .int .i64 0) (y_ext (v := .int .i64 0) (Ev.t (v := .tuple #[.string (str (Ct.nx s d 0)), .int .i64 0]) rfl rfl) rfl) ?_
  refine w_val (v := .string (str (Ct.nx s d 0))) (y_as (Ev.t (v := .string (str (Ct.nx s d 0))) rfl rfl)) ?_
  refine w_val (v := .int .i64 0) (y_as (Ev.t (v := .int .i64 0) rfl rfl)) ?_
  refine wpList_nil ?_
  refine then_n ?_
  refine wp_seq ?_
  refine wp_region_lit ?_
  refine w_val (v := .int .i64 0) (y_mv (Ev.t (v := .int .i64 0) rfl rfl)) ?_
  refine w_val (v := .bool false) (y_bin (Ev.t (v := .int .i64 0) rfl rfl) (Ev.c (v := .int .i64 0)) b_neq) ?_
  refine wpList_nil ?_
  refine then_n ?_
  refine c_ff (Ev.t (v := .bool false) rfl rfl) ?_
  refine wp_skip ?_
  refine then_n ?_
  refine wp_seq ?_
  refine wp_seq ?_
  refine wp_region_lit ?_
  refine w_val (v := .string (str text)) (y_mv (Ev.t (v := .string (str text)) rfl rfl)) ?_
  refine w_val (v := .int .i64 ((text.length : Nat) : Int)) (y_len (Ev.t (v := .string (str text)) rfl rfl) Try.underlying9) ?_
  refine w_val (v := .bool (decide (70000 < ((text.length : Nat) : Int)))) (y_bin (Ev.t (v := .int .i64 ((text.length : Nat) : Int)) rfl rfl) (Ev.c (v := .int .i64 70000)) b_gtr) ?_
  refine wpList_nil ?_
  refine then_n ?_
  have hc4 : 70000 < ((text.length : Nat) : Int) := by omega
  refine c_t (p := 70000 < ((text.length : Nat) : Int)) (Ev.t (v := .bool (decide (70000 < ((text.length : Nat) : Int)))) rfl rfl) hc4 ?_
  refine wp_seq ?_
  refine wp_region_lit ?_
  refine w_val (v := .string (str ([] : List (BitVec 8)))) (y_as (Ev.c (v := .string (str ([] : List (BitVec 8)))))) ?_
  refine w_val (v := .int .i64 6) (y_as (Ev.c (v := .int .i64 6))) ?_
  refine wpList_nil ?_
  refine then_n ?_
  refine wp_ret ?_
  refine then_r ?_
  refine fin_ret2 rfl (Ev.t (v := .string (str ([] : List (BitVec 8)))) rfl rfl) (Ev.t (v := .int .i64 6) rfl rfl) ?_
  exact ⟨rfl, hk⟩

set_option maxRecDepth 100000 in
set_option maxHeartbeats 1000000 in
theorem ctrXor_y (key text : List (BitVec 8)) (hok : Aes.okKey key.length) (s : List (BitVec 8)) (d : Nat) (hs : s.length = 16) (h1 : 1 ≤ d) (h16 : d ≤ 16) (ht : text.length ≤ 70000) (w0 : World) : Calls Try.prog 21 #[.string (str key), .string (str s), .int .i64 ((d : Nat) : Int), .string (str text)] w0 fun e w' => e = .returned (.tuple #[.string (str (Ct.x key s d text)), .int .i64 0]) ∧ Below w0.heap.size w0 w' := by
  have hle := fun x => Aes.enc_len key x hok
  have hlx := Ct.length_x key s d text
  refine enter (n := 71) Try.func21 rfl rfl rfl ?_
  have hk : Below w0.heap.size w0 w0 := Below.refl _ _
  refine wp_seq ?_
  refine wp_region_lit ?_
  refine w_val (v := .string (str ([] : List (BitVec 8)))) (y_as (Ev.c (v := .string (str ([] : List (BitVec 8)))))) ?_
  refine w_val (v := .int .i64 0) (y_as (Ev.c (v := .int .i64 0))) ?_
  refine wpList_nil ?_
  refine then_n ?_
  refine wp_seq ?_
  refine wp_region_lit ?_
  refine w_val (v := .string (str key)) (y_mv (Ev.t (v := .string (str key)) rfl rfl)) ?_
  refine w_call (Try.func23) (by kernel_rfl) rfl (m1 (Ev.t (v := .string (str key)) rfl rfl)) (new_l key w0 hok) ?_
  rintro _ w1 ⟨p, rfl, hge_p, hc, hb_p⟩
  refine ⟨_, rfl, ?_⟩
  have ge_p : w0.heap.size ≤ p := by have := hk.size; omega
  replace hk := thenB hk hb_p
  refine w_val (v := .tuple #[.pointer (some ⟨p, 0, none⟩), .int .i64 0]) (y_mv (Ev.t (v := .tuple #[.pointer (some ⟨p, 0, none⟩), .int .i64 0]) rfl rfl)) ?_
  refine w_val (v := .pointer (some ⟨p, 0, none⟩)) (y_ext (v := .pointer (some ⟨p, 0, none⟩)) (Ev.t (v := .tuple #[.pointer (some ⟨p, 0, none⟩), .int .i64 0]) rfl rfl) rfl) ?_
  refine w_val (v := .int .i64 0) (y_ext (v := .int .i64 0) (Ev.t (v := .tuple #[.pointer (some ⟨p, 0, none⟩), .int .i64 0]) rfl rfl) rfl) ?_
  refine w_val (v := .pointer (some ⟨p, 0, none⟩)) (y_as (Ev.t (v := .pointer (some ⟨p, 0, none⟩)) rfl rfl)) ?_
  refine w_val (v := .int .i64 0) (y_as (Ev.t (v := .int .i64 0) rfl rfl)) ?_
  refine wpList_nil ?_
  refine then_n ?_
  refine wp_seq ?_
  refine wp_seq ?_
  refine wp_region_lit ?_
  refine w_val (v := .int .i64 0) (y_mv (Ev.t (v := .int .i64 0) rfl rfl)) ?_
  refine w_val (v := .bool false) (y_bin (Ev.t (v := .int .i64 0) rfl rfl) (Ev.c (v := .int .i64 0)) b_neq) ?_
  refine wpList_nil ?_
  refine then_n ?_
  refine c_ff (Ev.t (v := .bool false) rfl rfl) ?_
  refine wp_skip ?_
  refine then_n ?_
  refine wp_seq ?_
  refine wp_seq ?_
  refine wp_region_lit ?_
  refine w_val (v := .string (str s)) (y_mv (Ev.t (v := .string (str s)) rfl rfl)) ?_
  refine w_val (v := .int .i64 ((d : Nat) : Int)) (y_mv (Ev.t (v := .int .i64 ((d : Nat) : Int)) rfl rfl)) ?_
  refine w_call (Try.func35) (by kernel_rfl) rfl (m2 (Ev.t (v := .string (str s)) rfl rfl) (Ev.t (v := .int .i64 ((d : Nat) : Int)) rfl rfl)) (wrong_y s d hs h1 h16 w1) ?_
  rintro _ w2 ⟨rfl, hb3⟩
  refine ⟨_, rfl, ?_⟩
  replace hk := thenB hk hb3
  replace hc := hc.below hb3
  refine w_val (v := .int .i64 0) (y_as (Ev.t (v := .int .i64 0) rfl rfl)) ?_
  refine wpList_nil ?_
  refine then_n ?_
  refine wp_seq ?_
  refine wp_region_lit ?_
  refine w_val (v := .int .i64 0) (y_mv (Ev.t (v := .int .i64 0) rfl rfl)) ?_
  refine w_val (v := .bool false) (y_bin (Ev.t (v := .int .i64 0) rfl rfl) (Ev.c (v := .int .i64 0)) b_neq) ?_
  refine wpList_nil ?_
  refine then_n ?_
  refine c_ff (Ev.t (v := .bool false) rfl rfl) ?_
  refine wp_skip ?_
  refine then_n ?_
  refine wp_seq ?_
  refine wp_seq ?_
  refine wp_region_lit ?_
  refine w_val (v := .string (str text)) (y_mv (Ev.t (v := .string (str text)) rfl rfl)) ?_
  refine w_val (v := .int .i64 ((text.length : Nat) : Int)) (y_len (Ev.t (v := .string (str text)) rfl rfl) Try.underlying9) ?_
  refine w_val (v := .bool (decide (70000 < ((text.length : Nat) : Int)))) (y_bin (Ev.t (v := .int .i64 ((text.length : Nat) : Int)) rfl rfl) (Ev.c (v := .int .i64 70000)) b_gtr) ?_
  refine wpList_nil ?_
  refine then_n ?_
  have hc4 : ¬ (70000 < ((text.length : Nat) : Int)) := by omega
  refine c_f (p := 70000 < ((text.length : Nat) : Int)) (Ev.t (v := .bool (decide (70000 < ((text.length : Nat) : Int)))) rfl rfl) hc4 ?_
  refine wp_skip ?_
  refine then_n ?_
  refine wp_seq ?_
  refine wp_region_lit ?_
  refine w_val (v := .pointer (some ⟨p, 0, none⟩)) (y_mv (Ev.t (v := .pointer (some ⟨p, 0, none⟩)) rfl rfl)) ?_
  refine w_val (v := .string (str s)) (y_mv (Ev.t (v := .string (str s)) rfl rfl)) ?_
  refine w_val (v := .int .i64 ((d : Nat) : Int)) (y_mv (Ev.t (v := .int .i64 ((d : Nat) : Int)) rfl rfl)) ?_
  refine w_call (Try.func38) (by kernel_rfl) rfl (m3 (Ev.t (v := .pointer (some ⟨p, 0, none⟩)) rfl rfl) (Ev.t (v := .string (str s)) rfl rfl) (Ev.t (v := .int .i64 ((d : Nat) : Int)) rfl rfl)) (blocks_c p s d w2) ?_
  rintro _ w5 ⟨bc, bs, bw, rfl, hge_bc, hge_bs, hge_bw, nb1, nb2, nb3, r_bc, r_bs, r_bw, hbb⟩
  refine ⟨_, rfl, ?_⟩
  have ge_bc : w0.heap.size ≤ bc := by have := hk.size; omega
  have ge_bs : w0.heap.size ≤ bs := by have := hk.size; omega
  have ge_bw : w0.heap.size ≤ bw := by have := hk.size; omega
  replace hk := thenB hk hbb
  replace hc := hc.below hbb
  refine w_val (v := .func (.func 55) #[] #[.pointer (some ⟨bc, 0, none⟩), .pointer (some ⟨bs, 0, none⟩), .pointer (some ⟨bw, 0, none⟩)]) (y_as (Ev.t (v := .func (.func 55) #[] #[.pointer (some ⟨bc, 0, none⟩), .pointer (some ⟨bs, 0, none⟩), .pointer (some ⟨bw, 0, none⟩)]) rfl rfl)) ?_
  refine wpList_nil ?_
  refine then_n ?_
  refine wp_seq ?_
  refine wp_region_lit ?_
  refine w_val (v := .string (str text)) (y_mv (Ev.t (v := .string (str text)) rfl rfl)) ?_
  refine w_bytes (Ev.t (v := .string (str text)) rfl rfl) Try.underlying9 Try.underlying47 Try.underlying5 ?_
  intro b_40 cap_b_40 w6 hbe_b_40 hc_b_40 r_b_40 hb7
  have ne_bc_b_40 : bc ≠ b_40 := by have := r_bc.lt; omega
  have ne_bs_b_40 : bs ≠ b_40 := by have := r_bs.lt; omega
  have ne_bw_b_40 : bw ≠ b_40 := by have := r_bw.lt; omega
  have ge_b_40 : w0.heap.size ≤ b_40 := by have := hk.size; omega
  clear hbe_b_40
  replace r_bc := r_bc.step hb7
  replace r_bs := r_bs.step hb7
  replace r_bw := r_bw.step hb7
  replace hk := thenB hk hb7
  replace hc := hc.below hb7
  refine w_val (v := .slice (some ⟨b_40, 0, none⟩) text.length cap_b_40) (y_as (Ev.t (v := .slice (some ⟨b_40, 0, none⟩) text.length cap_b_40) rfl rfl)) ?_
  refine wpList_nil ?_
  refine then_n ?_
  refine wp_seq ?_
  refine wp_seq ?_
  refine wp_region_lit ?_
  refine w_val (v := .int .i64 0) (y_as (Ev.c (v := .int .i64 0))) ?_
  refine wpList_nil ?_
  refine then_n ?_
  refine wp_block ?_
  refine c_loop (fun dN aN wl => ∃ (k : Nat), dN = (text.length + 16 - 16 * k) ∧ ∃ f8, aN = fr 71 f8 ∧ (16 * k < text.length + 16) ∧ f8 0 = .string (str key) ∧ f8 1 = .string (str s) ∧ f8 2 = .int .i64 ((d : Nat) : Int) ∧ f8 3 = .string (str text) ∧ f8 8 = .string (str ([] : List (BitVec 8))) ∧ f8 9 = .int .i64 0 ∧ f8 10 = .pointer (some ⟨p, 0, none⟩) ∧ f8 11 = .int .i64 0 ∧ f8 12 = .int .i64 0 ∧ f8 13 = .func (.func 55) #[] #[.pointer (some ⟨bc, 0, none⟩), .pointer (some ⟨bs, 0, none⟩), .pointer (some ⟨bw, 0, none⟩)] ∧ f8 14 = .slice (some ⟨b_40, 0, none⟩) text.length cap_b_40 ∧ f8 15 = .int .i64 (((16 * k) : Nat) : Int) ∧ Row wl bc 44 1 (fun j => .pointer (some ⟨p, 0, none⟩)) ∧ Row wl bs 9 1 (fun j => .string (str (Ct.nx s d k))) ∧ Row wl bw 3 1 (fun j => .int .i64 ((d : Nat) : Int)) ∧ Row wl b_40 5 text.length (fun j => if j < 16 * k then (fun j => U8 (gb text j ^^^ Ct.ks key s d j)) j else (fun j => U8 (gb text j)) j) ∧ CiphAt Aes.bk Aes.undo wl p (Aes.words key) ∧ Below w0.heap.size w0 wl) (text.length + 16 - 16 * 0) ?_ ?_
  · exact ⟨0, rfl, _, rfl, (by first | omega | with_reducible rfl | assumption | trivial | exact ⟨rfl, rfl⟩ | simp), rfl, rfl, rfl, rfl, rfl, rfl, rfl, rfl, rfl, rfl, rfl, (Eq.trans (b := .int .i64 0) rfl (by first | with_reducible rfl | (with_reducible congr 1 <;> omega) | (with_reducible congr 2 <;> omega) | (with_reducible congr 3 <;> omega) | rfl)), r_bc, (r_bs.congr (fun j hj => by (first | with_reducible rfl | (dsimp only; done) | ((try dsimp only); (repeat' split) <;> first | with_reducible rfl | (exfalso; omega) | (subst_vars; with_reducible rfl) | (subst_vars; simp only [Nat.add_sub_cancel_left, Nat.add_sub_cancel, Nat.sub_self, Nat.sub_zero]; done) | (with_reducible congr 1 <;> omega) | (with_reducible congr 2 <;> omega) | (with_reducible congr 3 <;> omega) | rfl | (subst_vars; rfl))))), r_bw, (r_b_40.congr (fun j hj => by (try dsimp only); rw [if_neg (by omega)])), hc, hk⟩
  · skip
    clear r_bc r_bs r_bw r_b_40 hc hk
    rintro _ _ w9 ⟨k, rfl, f8, rfl, i1_0, s1_0, s1_1, s1_2, s1_3, s1_8, s1_9, s1_10, s1_11, s1_12, s1_13, s1_14, s1_15, r_bc, r_bs, r_bw, r_b_40, hc, hk⟩
    refine wp_seq ?_
    refine wp_seq ?_
    refine wp_region_lit ?_
    refine w_val (v := .int .i64 (((16 * k) : Nat) : Int)) (y_mv (Ev.t (v := .int .i64 (((16 * k) : Nat) : Int)) s1_15 rfl)) ?_
    refine w_val (v := .slice (some ⟨b_40, 0, none⟩) text.length cap_b_40) (y_mv (Ev.t (v := .slice (some ⟨b_40, 0, none⟩) text.length cap_b_40) s1_14 rfl)) ?_
    refine w_val (v := .int .i64 ((text.length : Nat) : Int)) (y_len_sl (Ev.t (v := .slice (some ⟨b_40, 0, none⟩) text.length cap_b_40) rfl rfl) Try.underlying47) ?_
    refine w_val (v := .bool (decide ((((16 * k) : Nat) : Int) < ((text.length : Nat) : Int)))) (y_bin (Ev.t (v := .int .i64 (((16 * k) : Nat) : Int)) rfl rfl) (Ev.t (v := .int .i64 ((text.length : Nat) : Int)) rfl rfl) b_lss) ?_
    refine wpList_nil ?_
    refine then_n ?_
    refine c_if (p := (((16 * k) : Nat) : Int) < ((text.length : Nat) : Int)) (Ev.t (v := .bool (decide ((((16 * k) : Nat) : Int) < ((text.length : Nat) : Int)))) rfl rfl) (fun hc10 => ?_) (fun hc10 => ?_)
    · skip
      refine wp_skip ?_
      refine then_n ?_
      refine wp_seq ?_
      refine wp_block ?_
      refine wp_seq ?_
      refine wp_region_lit ?_
      refine w_val (v := .func (.func 55) #[] #[.pointer (some ⟨bc, 0, none⟩), .pointer (some ⟨bs, 0, none⟩), .pointer (some ⟨bw, 0, none⟩)]) (y_mv (Ev.t (v := .func (.func 55) #[] #[.pointer (some ⟨bc, 0, none⟩), .pointer (some ⟨bs, 0, none⟩), .pointer (some ⟨bw, 0, none⟩)]) s1_13 rfl)) ?_
      have hx_hc := CiphAt.onward hc r_bs (by decide) (by decide)
      have rb_ := r_bs
      clear r_bs
      refine w_callv (Ev.t (v := .func (.func 55) #[] #[.pointer (some ⟨bc, 0, none⟩), .pointer (some ⟨bs, 0, none⟩), .pointer (some ⟨bw, 0, none⟩)]) rfl rfl) (Try.func55) (by kernel_rfl) rfl m0 (by first | rfl | simp) (blk_c p bc bs bw k key s d hok hs h1 h16 nb1 nb2 w9 r_bc rb_ r_bw hc) ?_
      rintro _ w11 ⟨rfl, r_bs, hgb⟩
      refine ⟨_, rfl, ?_⟩
      replace r_bc := r_bc.stepG hgb (by omega)
      replace r_bw := r_bw.stepG hgb (by omega)
      replace r_b_40 := r_b_40.stepG hgb (by omega)
      replace hk := thenG hk hgb (by omega)
      replace hc := hx_hc _ hgb
      refine w_val (v := .string (str (Aes.enc (Aes.words key) (Ct.nx s d k)))) (y_as (Ev.t (v := .string (str (Aes.enc (Aes.words key) (Ct.nx s d k)))) rfl rfl)) ?_
      refine wpList_nil ?_
      refine then_n ?_
      refine wp_seq ?_
      refine wp_region_lit ?_
      refine w_val (v := .slice (some ⟨b_40, 0, none⟩) text.length cap_b_40) (y_mv (Ev.t (v := .slice (some ⟨b_40, 0, none⟩) text.length cap_b_40) s1_14 rfl)) ?_
      refine w_val (v := .int .i64 ((text.length : Nat) : Int)) (y_len_sl (Ev.t (v := .slice (some ⟨b_40, 0, none⟩) text.length cap_b_40) rfl rfl) Try.underlying47) ?_
      refine w_val (v := .int .i64 (((16 * k) : Nat) : Int)) (y_mv (Ev.t (v := .int .i64 (((16 * k) : Nat) : Int)) s1_15 rfl)) ?_
      refine w_val (v := .int .i64 (((text.length : Nat) : Int) - (((16 * k) : Nat) : Int))) (y_bin (Ev.t (v := .int .i64 ((text.length : Nat) : Int)) rfl rfl) (Ev.t (v := .int .i64 (((16 * k) : Nat) : Int)) rfl rfl) (b_sub (by omega))) ?_
      refine w_val (v := .int .i64 (min 16 (((text.length : Nat) : Int) - (((16 * k) : Nat) : Int)))) (y_min (Ev.c (v := .int .i64 16)) (Ev.t (v := .int .i64 (((text.length : Nat) : Int) - (((16 * k) : Nat) : Int))) rfl rfl)) ?_
      refine w_val (v := .int .i64 0) (y_mv (Ev.c (v := .int .i64 0))) ?_
      refine wpList_nil ?_
      refine then_n ?_
      refine wp_block ?_
      refine c_loop (fun dN aN wl => ∃ (i : Nat), dN = (16 - i) ∧ ∃ f12, aN = fr 71 f12 ∧ (i ≤ 16) ∧ (16 * k + i ≤ text.length) ∧ f12 0 = .string (str key) ∧ f12 1 = .string (str s) ∧ f12 2 = .int .i64 ((d : Nat) : Int) ∧ f12 3 = .string (str text) ∧ f12 8 = .string (str ([] : List (BitVec 8))) ∧ f12 9 = .int .i64 0 ∧ f12 10 = .pointer (some ⟨p, 0, none⟩) ∧ f12 11 = .int .i64 0 ∧ f12 12 = .int .i64 0 ∧ f12 13 = .func (.func 55) #[] #[.pointer (some ⟨bc, 0, none⟩), .pointer (some ⟨bs, 0, none⟩), .pointer (some ⟨bw, 0, none⟩)] ∧ f12 14 = .slice (some ⟨b_40, 0, none⟩) text.length cap_b_40 ∧ f12 15 = .int .i64 (((16 * k) : Nat) : Int) ∧ f12 16 = .string (str (Aes.enc (Aes.words key) (Ct.nx s d k))) ∧ f12 53 = .int .i64 (min 16 (((text.length : Nat) : Int) - (((16 * k) : Nat) : Int))) ∧ f12 54 = .int .i64 ((i : Nat) : Int) ∧ Row wl bc 44 1 (fun j => .pointer (some ⟨p, 0, none⟩)) ∧ Row wl bs 9 1 (fun j => .string (str (Ct.nx s d (k + 1)))) ∧ Row wl bw 3 1 (fun j => .int .i64 ((d : Nat) : Int)) ∧ Row wl b_40 5 text.length (fun j => if j < ((16 * k) + i) then (fun j => U8 (gb text j ^^^ Ct.ks key s d j)) j else (fun j => U8 (gb text j)) j) ∧ CiphAt Aes.bk Aes.undo wl p (Aes.words key) ∧ Below w0.heap.size w0 wl) (16 - 0) ?_ ?_
      · exact ⟨0, rfl, _, rfl, (by first | omega | with_reducible rfl | assumption | trivial | exact ⟨rfl, rfl⟩ | simp), (by first | omega | with_reducible rfl | assumption | trivial | exact ⟨rfl, rfl⟩ | simp), s1_0, s1_1, s1_2, s1_3, s1_8, s1_9, s1_10, s1_11, s1_12, s1_13, s1_14, s1_15, rfl, rfl, (Eq.trans (b := .int .i64 0) rfl (by first | with_reducible rfl | (with_reducible congr 1 <;> omega) | (with_reducible congr 2 <;> omega) | (with_reducible congr 3 <;> omega) | rfl)), r_bc, r_bs, r_bw, (r_b_40.congr (fun j hj => by (first | with_reducible rfl | (dsimp only; done) | ((try dsimp only); (repeat' split) <;> first | with_reducible rfl | (exfalso; omega) | (subst_vars; with_reducible rfl) | (subst_vars; simp only [Nat.add_sub_cancel_left, Nat.add_sub_cancel, Nat.sub_self, Nat.sub_zero]; done) | (with_reducible congr 1 <;> omega) | (with_reducible congr 2 <;> omega) | (with_reducible congr 3 <;> omega) | rfl | (subst_vars; rfl))))), hc, hk⟩
      · skip
        clear r_bc r_bs r_bw r_b_40 hc hk
        rintro _ _ w13 ⟨i, rfl, f12, rfl, i2_0, i2_1, s2_0, s2_1, s2_2, s2_3, s2_8, s2_9, s2_10, s2_11, s2_12, s2_13, s2_14, s2_15, s2_16, s2_53, s2_54, r_bc, r_bs, r_bw, r_b_40, hc, hk⟩
        refine wp_seq ?_
        refine wp_region_lit ?_
        refine w_val (v := .bool (decide (((i : Nat) : Int) < (min 16 (((text.length : Nat) : Int) - (((16 * k) : Nat) : Int)))))) (y_bin (Ev.t (v := .int .i64 ((i : Nat) : Int)) s2_54 rfl) (Ev.t (v := .int .i64 (min 16 (((text.length : Nat) : Int) - (((16 * k) : Nat) : Int)))) s2_53 rfl) b_lss) ?_
        refine wpList_nil ?_
        refine then_n ?_
        refine wp_seq ?_
        refine c_if (p := ((i : Nat) : Int) < (min 16 (((text.length : Nat) : Int) - (((16 * k) : Nat) : Int)))) (Ev.t (v := .bool (decide (((i : Nat) : Int) < (min 16 (((text.length : Nat) : Int) - (((16 * k) : Nat) : Int)))))) rfl rfl) (fun hc14 => ?_) (fun hc14 => ?_)
        · skip
          refine wp_skip ?_
          refine then_n ?_
          refine wp_seq ?_
          refine wp_block ?_
          refine wp_seq ?_
          refine wp_region_lit ?_
          refine w_val (v := .int .i64 ((i : Nat) : Int)) (y_mv (Ev.t (v := .int .i64 ((i : Nat) : Int)) s2_54 rfl)) ?_
          refine w_val (v := .int .i64 ((i : Nat) : Int)) (y_as (Ev.t (v := .int .i64 ((i : Nat) : Int)) rfl rfl)) ?_
          refine wpList_nil ?_
          refine then_n ?_
          refine region_t 11 CtrCT.mixed (by kernel_rfl) ?_
          simp only [List.take_succ_cons, List.take_zero, List.drop_succ_cons, List.drop_zero]
          refine q_val (v := .slice (some ⟨b_40, 0, none⟩) text.length cap_b_40) (fun w' hw' => y_mv (Ev.t (v := .slice (some ⟨b_40, 0, none⟩) text.length cap_b_40) s2_14 rfl)) ?_
          refine q_val (v := .int .i64 (((16 * k) : Nat) : Int)) (fun w' hw' => y_mv (Ev.t (v := .int .i64 (((16 * k) : Nat) : Int)) s2_15 rfl)) ?_
          refine q_val (v := .int .i64 ((i : Nat) : Int)) (fun w' hw' => y_mv (Ev.t (v := .int .i64 ((i : Nat) : Int)) rfl rfl)) ?_
          refine q_val (v := .int .i64 ((((16 * k) : Nat) : Int) + ((i : Nat) : Int))) (fun w' hw' => y_bin (Ev.t (v := .int .i64 (((16 * k) : Nat) : Int)) rfl rfl) (Ev.t (v := .int .i64 ((i : Nat) : Int)) rfl rfl) (b_add (by omega))) ?_
          refine q_val (v := .pointer (some ⟨b_40, ((16 * k) + i), none⟩)) (fun w' hw' => y_is1z (i := ((16 * k) + i)) (Ev.t (v := .slice (some ⟨b_40, 0, none⟩) text.length cap_b_40) rfl rfl) (Ev.t (v := .int .i64 ((((16 * k) : Nat) : Int) + ((i : Nat) : Int))) rfl rfl) Try.underlying47 CtrCT.sz5 (by omega) (by omega)) ?_
          refine q_val (v := U8 (gb text ((16 * k) + i))) (fun w' hw' => y_ld (Ev.t (v := .pointer (some ⟨b_40, ((16 * k) + i), none⟩)) rfl rfl) CtrCT.sc5 (cls_cell (r_b_40.val (v := U8 (gb text ((16 * k) + i))) (by omega) ((if_neg (by omega)).trans rfl)) r_b_40.lt w' hw')) ?_
          refine q_val (v := .string (str (Aes.enc (Aes.words key) (Ct.nx s d k)))) (fun w' hw' => y_mv (Ev.t (v := .string (str (Aes.enc (Aes.words key) (Ct.nx s d k)))) s2_16 rfl)) ?_
          refine q_val (v := .int .i64 ((i : Nat) : Int)) (fun w' hw' => y_mv (Ev.t (v := .int .i64 ((i : Nat) : Int)) rfl rfl)) ?_
          refine q_val (v := U8 (gb (Aes.enc (Aes.words key) (Ct.nx s d k)) i)) (fun w' hw' => y_idx (Ev.t (v := .string (str (Aes.enc (Aes.words key) (Ct.nx s d k)))) rfl rfl) (Ev.t (v := .int .i64 ((i : Nat) : Int)) rfl rfl) Try.underlying9 (by omega) (by rw [hle]; omega)) ?_
          refine q_val (v := U8 ((gb text ((16 * k) + i)) ^^^ (gb (Aes.enc (Aes.words key) (Ct.nx s d k)) i))) (fun w' hw' => y_bin (Ev.t (v := U8 (gb text ((16 * k) + i))) rfl rfl) (Ev.t (v := U8 (gb (Aes.enc (Aes.words key) (Ct.nx s d k)) i)) rfl rfl) xor8) ?_
          refine q_val (v := .pointer (some ⟨b_40, ((16 * k) + i), none⟩)) (fun w' hw' => y_is1z (i := ((16 * k) + i)) (Ev.t (v := .slice (some ⟨b_40, 0, none⟩) text.length cap_b_40) rfl rfl) (Ev.t (v := .int .i64 ((((16 * k) : Nat) : Int) + ((i : Nat) : Int))) rfl rfl) Try.underlying47 CtrCT.sz5 (by omega) (by omega)) ?_
          refine q_nil ?_
          intro w15 hb16
          replace r_bc := r_bc.step hb16
          replace r_bs := r_bs.step hb16
          replace r_bw := r_bw.step hb16
          replace r_b_40 := r_b_40.step hb16
          replace hk := thenB hk hb16
          replace hc := hc.below hb16
          have hx_hc := CiphAt.onward hc r_b_40 (by decide) (by decide)
          refine w_st (v := U8 ((gb text ((16 * k) + i)) ^^^ (gb (Aes.enc (Aes.words key) (Ct.nx s d k)) i))) (Ev.t (v := .pointer (some ⟨b_40, ((16 * k) + i), none⟩)) rfl rfl) (Ev.t (v := U8 ((gb text ((16 * k) + i)) ^^^ (gb (Aes.enc (Aes.words key) (Ct.nx s d k)) i))) rfl rfl) rfl rfl CtrCT.sz5 r_b_40 (by omega) ?_
          clear r_b_40; intro w17 r_b_40 hg18 _
          replace r_bc := r_bc.stepG hg18 (by omega)
          replace r_bs := r_bs.stepG hg18 (by omega)
          replace r_bw := r_bw.stepG hg18 (by omega)
          replace hk := thenG hk hg18 (by omega)
          replace hc := hx_hc _ hg18
          refine wpList_nil ?_
          refine inb_n ?_
          refine then_n ?_
          refine wp_region_lit ?_
          refine w_val (v := .int .i64 (((i : Nat) : Int) + 1)) (y_bin (Ev.t (v := .int .i64 ((i : Nat) : Int)) s2_54 rfl) (Ev.c (v := .int .i64 1)) (b_add (by omega))) ?_
          refine w_val (v := .int .i64 (((i : Nat) : Int) + 1)) (y_mv (Ev.t (v := .int .i64 (((i : Nat) : Int) + 1)) rfl rfl)) ?_
          refine wpList_nil ?_
          exact then_n ⟨_, (by omega), i + 1, rfl, _, rfl, (by first | omega | with_reducible rfl | assumption | trivial | simp), (by first | omega | with_reducible rfl | assumption | trivial | simp), s2_0, s2_1, s2_2, s2_3, s2_8, s2_9, s2_10, s2_11, s2_12, s2_13, s2_14, s2_15, s2_16, s2_53, (Eq.trans (b := .int .i64 (((i : Nat) : Int) + 1)) rfl (by first | with_reducible rfl | (with_reducible congr 1 <;> omega) | (with_reducible congr 2 <;> omega) | (with_reducible congr 3 <;> omega) | rfl)), r_bc, r_bs, r_bw, (r_b_40.congr (fun j hj => by (try dsimp only); by_cases e : j = 16 * k + i; (rw [if_pos e, if_pos (by omega), e]; show U8 (gb text (16 * k + i) ^^^ gb (Aes.enc (Aes.words key) (Ct.nx s d k)) i) = U8 (gb text (16 * k + i) ^^^ Ct.ks key s d (16 * k + i)); unfold Ct.ks; rw [show (16 * k + i) / 16 = k from by omega, show (16 * k + i) % 16 = i from by omega]); (rw [if_neg e]; by_cases e2 : j < 16 * k + i; (rw [if_pos e2, if_pos (by omega)]); (rw [if_neg e2, if_neg (by omega)])))), hc, hk⟩
        · skip
          refine wp_exit ?_
          refine then_x ?_
          refine then_x ?_
          refine inb_x ?_
          refine inb_n ?_
          refine then_n ?_
          refine wp_region_lit ?_
          refine w_val (v := .int .i64 (((16 * k) : Nat) : Int)) (y_mv (Ev.t (v := .int .i64 (((16 * k) : Nat) : Int)) s2_15 rfl)) ?_
          refine w_val (v := .int .i64 ((((16 * k) : Nat) : Int) + 16)) (y_bin (Ev.t (v := .int .i64 (((16 * k) : Nat) : Int)) rfl rfl) (Ev.c (v := .int .i64 16)) (b_add (by omega))) ?_
          refine w_val (v := .int .i64 ((((16 * k) : Nat) : Int) + 16)) (y_as (Ev.t (v := .int .i64 ((((16 * k) : Nat) : Int) + 16)) rfl rfl)) ?_
          refine wpList_nil ?_
          exact then_n ⟨_, (by omega), k + 1, rfl, _, rfl, (by first | omega | with_reducible rfl | assumption | trivial | simp), s2_0, s2_1, s2_2, s2_3, s2_8, s2_9, s2_10, s2_11, s2_12, s2_13, s2_14, (Eq.trans (b := .int .i64 ((((16 * k) : Nat) : Int) + 16)) rfl (by first | with_reducible rfl | (with_reducible congr 1 <;> omega) | (with_reducible congr 2 <;> omega) | (with_reducible congr 3 <;> omega) | rfl)), r_bc, r_bs, r_bw, (r_b_40.congr (fun j hj => by (try dsimp only); by_cases e : j < 16 * k + i; (rw [if_pos e, if_pos (by omega)]); (rw [if_neg e, if_neg (by omega)]))), hc, hk⟩
    · skip
      refine wp_exit ?_
      refine then_x ?_
      replace r_b_40 := r_b_40.congr (g := fun j => U8 (gb (Ct.x key s d text) j)) (fun j hj => by (try dsimp only); rw [if_pos (by omega), Ct.gb_x _ _ _ _ _ hj])
      refine then_x ?_
      refine inb_x ?_
      refine then_n ?_
      refine wp_seq ?_
      refine wp_region_lit ?_
      refine w_val (v := .slice (some ⟨b_40, 0, none⟩) text.length cap_b_40) (y_mv (Ev.t (v := .slice (some ⟨b_40, 0, none⟩) text.length cap_b_40) s1_14 rfl)) ?_
      refine w_val (v := .string (str (Ct.x key s d text))) (y_str (l := Ct.x key s d text) (Ev.t (v := .slice (some ⟨b_40, 0, none⟩) text.length cap_b_40) rfl rfl) (by first | rfl | assumption | (simp; omega) | omega) Try.underlying47 Try.underlying5 Try.underlying9 (fun j hj => by rw [Nat.zero_add]; exact (r_b_40.cell (by omega)))) ?_
      refine w_val (v := .string (str (Ct.x key s d text))) (y_as (Ev.t (v := .string (str (Ct.x key s d text))) rfl rfl)) ?_
      refine w_val (v := .int .i64 0) (y_as (Ev.c (v := .int .i64 0))) ?_
      refine wpList_nil ?_
      refine then_n ?_
      refine wp_ret ?_
      refine fin_ret2 rfl (Ev.t (v := .string (str (Ct.x key s d text))) rfl rfl) (Ev.t (v := .int .i64 0) rfl rfl) ?_
      exact ⟨rfl, hk⟩
end Go.Proofs.Ythmcoaadigaddaa
