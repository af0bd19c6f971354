/-
  Wrap: what the program and the reference compute. Conditions as each says.
-/
import Derived.Test.YthmcoaadigaddaaRows
import Derived.Test.YthmcoaadigaddaaGenMore
import Derived.Test.YthmcoaadigaddaaAesBase
import Derived.Test.YthmcoaadigaddaaOctW
import Derived.Test.YthmcoaadigaddaaWrapPlain
import Derived.ProofKit
namespace Go.Proofs.Ythmcoaadigaddaa
open Go.RowKit
set_option linter.unusedSimpArgs false
set_option linter.unusedVariables false
namespace WrapWT
theorem mixed : Try.prog.follows .mixedOrders = true := by kernel_rfl
theorem so3 : (Try.prog.underlying 3).isSome = true := by rw [Try.underlying3]; rfl
theorem sz5 : (Try.prog.info? 5).map (·.size) = some 1 := by kernel_rfl
end WrapWT
set_option maxRecDepth 100000 in
set_option maxHeartbeats 1000000 in
theorem count_c (x : Int) (t : Nat) (hx : x = (t : Int)) (ht : t ≤ 4294967296) (w0 : World) : Calls Try.prog 26 #[.int .i64 x] w0 fun e w' => e = .returned (.string (str (Wr.no t))) ∧ Below w0.heap.size w0 w' := by
  subst hx
  refine enter (n := 12) Try.func26 rfl rfl rfl ?_
  have hk : Below w0.heap.size w0 w0 := Below.refl _ _
  refine wp_seq ?_
  refine wp_region_lit ?_
  refine w_val (v := .string (str ([] : List (BitVec 8)))) (y_as (Ev.c (v := .string (str ([] : List (BitVec 8)))))) ?_
  refine wpList_nil ?_
  refine then_n ?_
  refine wp_seq ?_
  refine wp_region_lit ?_
  refine w_val (v := .int .i64 ((t : Nat) : Int)) (y_mv (Ev.t (v := .int .i64 ((t : Nat) : Int)) rfl rfl)) ?_
  refine w_val (v := U64 (BitVec.ofNat 64 t)) (y_nat_u64 (p := t) (Ev.t (v := .int .i64 ((t : Nat) : Int)) rfl rfl) (by omega) WrapWT.so3 Try.underlying35) ?_
  refine w_call (Try.func47) (by kernel_rfl) rfl (m2 (Ev.t (v := U64 (BitVec.ofNat 64 t)) rfl rfl) (Ev.c (v := .int .i64 8))) (put_c (BitVec.ofNat 64 t) 8 (by omega) (by omega) (fun h => absurd h (by omega)) w0) ?_
  rintro _ w1 ⟨rfl, hb2⟩
  refine ⟨_, rfl, ?_⟩
  replace hk := thenB hk hb2
  refine w_val (v := .tuple #[.string (str (Wr.no t)), .int .i64 0]) (y_mv (Ev.t (v := .tuple #[.string (str (Wr.no t)), .int .i64 0]) rfl rfl)) ?_
  refine w_val (v := .string (str (Wr.no t))) (y_ext (v := .string (str (Wr.no t))) (Ev.t (v := .tuple #[.string (str (Wr.no t)), .int .i64 0]) rfl rfl) rfl) ?_
  refine w_val (v := .int .i64 0) (y_ext (v := .int .i64 0) (Ev.t (v := .tuple #[.string (str (Wr.no t)), .int .i64 0]) rfl rfl) rfl) ?_
  refine w_val (v := .string (str (Wr.no t))) (y_as (Ev.t (v := .string (str (Wr.no t))) rfl rfl)) ?_
  refine w_val (v := .int .i64 0) (y_as (Ev.t (v := .int .i64 0) rfl rfl)) ?_
  refine wpList_nil ?_
  refine then_n ?_
  refine wp_seq ?_
  refine wp_region_lit ?_
  refine w_val (v := .string (str (Wr.no t))) (y_mv (Ev.t (v := .string (str (Wr.no t))) rfl rfl)) ?_
  refine w_val (v := .string (str (Wr.no t))) (y_as (Ev.t (v := .string (str (Wr.no t))) rfl rfl)) ?_
  refine wpList_nil ?_
  refine then_n ?_
  refine wp_ret ?_
  refine fin_ret1 rfl (Ev.t (v := .string (str (Wr.no t))) rfl rfl) ?_
  exact ⟨rfl, hk⟩

set_option maxRecDepth 100000 in
set_option maxHeartbeats 1000000 in
theorem refNumber_c (x : Int) (t : Nat) (hx : x = (t : Int)) (ht : t ≤ 4294967296) (w0 : World) : Calls Try.prog 31 #[.int .i64 x] w0 fun e w' => e = .returned (.string (str (Wr.no t))) ∧ Below w0.heap.size w0 w' := by
  subst hx
  refine enter (n := 12) Try.func31 rfl rfl rfl ?_
  have hk : Below w0.heap.size w0 w0 := Below.refl _ _
  refine wp_seq ?_
  refine wp_region_lit ?_
  refine w_val (v := .string (str ([] : List (BitVec 8)))) (y_as (Ev.c (v := .string (str ([] : List (BitVec 8)))))) ?_
  refine wpList_nil ?_
  refine then_n ?_
  refine wp_seq ?_
  refine wp_region_lit ?_
  refine w_val (v := .int .i64 ((t : Nat) : Int)) (y_mv (Ev.t (v := .int .i64 ((t : Nat) : Int)) rfl rfl)) ?_
  refine w_val (v := U64 (BitVec.ofNat 64 t)) (y_nat_u64 (p := t) (Ev.t (v := .int .i64 ((t : Nat) : Int)) rfl rfl) (by omega) WrapWT.so3 Try.underlying35) ?_
  refine w_call (Try.func51) (by kernel_rfl) rfl (m2 (Ev.t (v := U64 (BitVec.ofNat 64 t)) rfl rfl) (Ev.c (v := .int .i64 8))) (refPut_c (BitVec.ofNat 64 t) 8 (by omega) (by omega) (by rw [BitVec.toNat_ofNat]; omega) w0) ?_
  rintro _ w1 ⟨rfl, hb2⟩
  refine ⟨_, rfl, ?_⟩
  replace hk := thenB hk hb2
  refine w_val (v := .tuple #[.string (str (Wr.no t)), .int .i64 0]) (y_mv (Ev.t (v := .tuple #[.string (str (Wr.no t)), .int .i64 0]) rfl rfl)) ?_
  refine w_val (v := .string (str (Wr.no t))) (y_ext (v := .string (str (Wr.no t))) (Ev.t (v := .tuple #[.string (str (Wr.no t)), .int .i64 0]) rfl rfl) rfl) ?_
  refine w_val (v := .int .i64 0) (y_ext (v := .int .i64 0) (Ev.t (v := .tuple #[.string (str (Wr.no t)), .int .i64 0]) rfl rfl) rfl) ?_
  refine w_val (v := .string (str (Wr.no t))) (y_as (Ev.t (v := .string (str (Wr.no t))) rfl rfl)) ?_
  refine w_val (v := .int .i64 0) (y_as (Ev.t (v := .int .i64 0) rfl rfl)) ?_
  refine wpList_nil ?_
  refine then_n ?_
  refine wp_seq ?_
  refine wp_region_lit ?_
  refine w_val (v := .string (str (Wr.no t))) (y_mv (Ev.t (v := .string (str (Wr.no t))) rfl rfl)) ?_
  refine w_val (v := .string (str (Wr.no t))) (y_as (Ev.t (v := .string (str (Wr.no t))) rfl rfl)) ?_
  refine wpList_nil ?_
  refine then_n ?_
  refine wp_ret ?_
  refine fin_ret1 rfl (Ev.t (v := .string (str (Wr.no t))) rfl rfl) ?_
  exact ⟨rfl, hk⟩

set_option maxRecDepth 100000 in
set_option maxHeartbeats 1000000 in
theorem wrap_k (key text : List (BitVec 8)) (hok : ¬ Aes.okKey key.length) (w0 : World) : Calls Try.prog 11 #[.string (str key), .string (str text)] w0 fun e w' => e = .returned (.tuple #[.string (str ([] : List (BitVec 8))), .int .i64 3]) ∧ Below w0.heap.size w0 w' := by
  refine enter (n := 86) Try.func11 rfl rfl rfl ?_
  have hk : Below w0.heap.size w0 w0 := Below.refl _ _
  refine wp_seq ?_
  refine wp_region_lit ?_
  refine w_val (v := .string (str ([] : List (BitVec 8)))) (y_as (Ev.c (v := .string (str ([] : List (BitVec 8)))))) ?_
  refine w_val (v := .int .i64 0) (y_as (Ev.c (v := .int .i64 0))) ?_
  refine wpList_nil ?_
  refine then_n ?_
  refine wp_seq ?_
  refine wp_region_lit ?_
  refine w_val (v := .string (str key)) (y_mv (Ev.t (v := .string (str key)) rfl rfl)) ?_
  refine w_call (Try.func23) (by kernel_rfl) rfl (m1 (Ev.t (v := .string (str key)) rfl rfl)) (new_l_no key w0 hok) ?_
  rintro _ _ ⟨rfl, rfl⟩
  refine ⟨_, rfl, ?_⟩
  refine w_val (v := .tuple #[.pointer none, .int .i64 3]) (y_mv (Ev.t (v := .tuple #[.pointer none, .int .i64 3]) rfl rfl)) ?_
  refine w_val (v := .pointer none) (y_ext (v := .pointer none) (Ev.t (v := .tuple #[.pointer none, .int .i64 3]) rfl rfl) rfl) ?_
  refine w_val (v := .int .i64 3) (y_ext (v := .int .i64 3) (Ev.t (v := .tuple #[.pointer none, .int .i64 3]) rfl rfl) rfl) ?_
  refine w_val (v := .pointer none) (y_as (Ev.t (v := .pointer none) rfl rfl)) ?_
  refine w_val (v := .int .i64 3) (y_as (Ev.t (v := .int .i64 3) rfl rfl)) ?_
  refine wpList_nil ?_
  refine then_n ?_
  refine wp_seq ?_
  refine wp_seq ?_
  refine wp_region_lit ?_
  refine w_val (v := .int .i64 3) (y_mv (Ev.t (v := .int .i64 3) rfl rfl)) ?_
  refine w_val (v := .bool true) (y_bin (Ev.t (v := .int .i64 3) rfl rfl) (Ev.c (v := .int .i64 0)) b_neq) ?_
  refine wpList_nil ?_
  refine then_n ?_
  refine c_tt (Ev.t (v := .bool true) rfl rfl) ?_
  refine wp_seq ?_
  refine wp_region_lit ?_
  refine w_val (v := .int .i64 3) (y_mv (Ev.t (v := .int .i64 3) rfl rfl)) ?_
  refine w_val (v := .string (str ([] : List (BitVec 8)))) (y_as (Ev.c (v := .string (str ([] : List (BitVec 8)))))) ?_
  refine w_val (v := .int .i64 3) (y_as (Ev.t (v := .int .i64 3) rfl rfl)) ?_
  refine wpList_nil ?_
  refine then_n ?_
  refine wp_ret ?_
  refine then_r ?_
  refine fin_ret2 rfl (Ev.t (v := .string (str ([] : List (BitVec 8)))) rfl rfl) (Ev.t (v := .int .i64 3) rfl rfl) ?_
  exact ⟨rfl, hk⟩

set_option maxRecDepth 100000 in
set_option maxHeartbeats 1000000 in
theorem wrap_s (key text : List (BitVec 8)) (hok : Aes.okKey key.length) (hs : ¬ (text.length % 8 = 0 ∧ 16 ≤ text.length ∧ text.length ≤ 1024)) (w0 : World) : Calls Try.prog 11 #[.string (str key), .string (str text)] w0 fun e w' => e = .returned (.tuple #[.string (str ([] : List (BitVec 8))), .int .i64 6]) ∧ Below w0.heap.size w0 w' := by
  refine enter (n := 86) Try.func11 rfl rfl rfl ?_
  have hk : Below w0.heap.size w0 w0 := Below.refl _ _
  refine wp_seq ?_
  refine wp_region_lit ?_
  refine w_val (v := .string (str ([] : List (BitVec 8)))) (y_as (Ev.c (v := .string (str ([] : List (BitVec 8)))))) ?_
  refine w_val (v := .int .i64 0) (y_as (Ev.c (v := .int .i64 0))) ?_
  refine wpList_nil ?_
  refine then_n ?_
  refine wp_seq ?_
  refine wp_region_lit ?_
  refine w_val (v := .string (str key)) (y_mv (Ev.t (v := .string (str key)) rfl rfl)) ?_
  refine w_call (Try.func23) (by kernel_rfl) rfl (m1 (Ev.t (v := .string (str key)) rfl rfl)) (new_l key w0 hok) ?_
  rintro _ w1 ⟨p, rfl, hge_p, hc, hb_p⟩
  refine ⟨_, rfl, ?_⟩
  have ge_p : w0.heap.size ≤ p := by have := hk.size; omega
  replace hk := thenB hk hb_p
  refine w_val (v := .tuple #[.pointer (some ⟨p, 0, none⟩), .int .i64 0]) (y_mv (Ev.t (v := .tuple #[.pointer (some ⟨p, 0, none⟩), .int .i64 0]) rfl rfl)) ?_
  refine w_val (v := .pointer (some ⟨p, 0, none⟩)) (y_ext (v := .pointer (some ⟨p, 0, none⟩)) (Ev.t (v := .tuple #[.pointer (some ⟨p, 0, none⟩), .int .i64 0]) rfl rfl) rfl) ?_
  refine w_val (v := .int .i64 0) (y_ext (v := .int .i64 0) (Ev.t (v := .tuple #[.pointer (some ⟨p, 0, none⟩), .int .i64 0]) rfl rfl) rfl) ?_
  refine w_val (v := .pointer (some ⟨p, 0, none⟩)) (y_as (Ev.t (v := .pointer (some ⟨p, 0, none⟩)) rfl rfl)) ?_
  refine w_val (v := .int .i64 0) (y_as (Ev.t (v := .int .i64 0) rfl rfl)) ?_
  refine wpList_nil ?_
  refine then_n ?_
  refine wp_seq ?_
  refine wp_seq ?_
  refine wp_region_lit ?_
  refine w_val (v := .int .i64 0) (y_mv (Ev.t (v := .int .i64 0) rfl rfl)) ?_
  refine w_val (v := .bool false) (y_bin (Ev.t (v := .int .i64 0) rfl rfl) (Ev.c (v := .int .i64 0)) b_neq) ?_
  refine wpList_nil ?_
  refine then_n ?_
  refine c_ff (Ev.t (v := .bool false) rfl rfl) ?_
  refine wp_skip ?_
  refine then_n ?_
  refine wp_seq ?_
  refine wp_seq ?_
  refine wp_region_lit ?_
  refine w_val (v := .string (str text)) (y_mv (Ev.t (v := .string (str text)) rfl rfl)) ?_
  refine w_val (v := .int .i64 ((text.length : Nat) : Int)) (y_len (Ev.t (v := .string (str text)) rfl rfl) Try.underlying9) ?_
  refine w_val (v := .int .i64 (((text.length : Nat) : Int) % 8)) (y_bin (Ev.t (v := .int .i64 ((text.length : Nat) : Int)) rfl rfl) (Ev.c (v := .int .i64 8)) (b_rem (by omega))) ?_
  refine w_val (v := .bool (decide ((((text.length : Nat) : Int) % 8) ≠ 0))) (y_bin (Ev.t (v := .int .i64 (((text.length : Nat) : Int) % 8)) rfl rfl) (Ev.c (v := .int .i64 0)) b_neq) ?_
  refine w_val (v := .bool (decide ((((text.length : Nat) : Int) % 8) ≠ 0))) (y_mv (Ev.t (v := .bool (decide ((((text.length : Nat) : Int) % 8) ≠ 0))) rfl rfl)) ?_
  by_cases hc2 : (((text.length : Nat) : Int) % 8) ≠ 0
  · skip
    refine w_skip (want_no (j := 4) rfl rfl (Ev.t (v := .bool true) (Eq.trans (b := .bool (decide ((((text.length : Nat) : Int) % 8) ≠ 0))) rfl (by rw [decide_eq_true hc2])) rfl) rfl) ?_
    refine w_skip (want_no (j := 4) rfl rfl (Ev.t (v := .bool true) (Eq.trans (b := .bool (decide ((((text.length : Nat) : Int) % 8) ≠ 0))) rfl (by rw [decide_eq_true hc2])) rfl) rfl) ?_
    refine w_skip (want_no (j := 4) rfl rfl (Ev.t (v := .bool true) (Eq.trans (b := .bool (decide ((((text.length : Nat) : Int) % 8) ≠ 0))) rfl (by rw [decide_eq_true hc2])) rfl) rfl) ?_
    refine w_val (v := .bool true) (y_pick_t (Ev.t (v := .bool true) (Eq.trans (b := .bool (decide ((((text.length : Nat) : Int) % 8) ≠ 0))) rfl (by rw [decide_eq_true hc2])) rfl) (Ev.c (v := .bool true))) ?_
    refine w_val (v := .bool true) (y_mv (Ev.t (v := .bool true) rfl rfl)) ?_
    refine w_skip (want_no (j := 9) rfl rfl (Ev.t (v := .bool true) rfl rfl) rfl) ?_
    refine w_skip (want_no (j := 9) rfl rfl (Ev.t (v := .bool true) rfl rfl) rfl) ?_
    refine w_skip (want_no (j := 9) rfl rfl (Ev.t (v := .bool true) rfl rfl) rfl) ?_
    refine w_val (v := .bool true) (y_pick_t (Ev.t (v := .bool true) rfl rfl) (Ev.c (v := .bool true))) ?_
    refine wpList_nil ?_
    refine then_n ?_
    refine c_tt (Ev.t (v := .bool true) rfl rfl) ?_
    refine wp_seq ?_
    refine wp_region_lit ?_
    refine w_val (v := .string (str ([] : List (BitVec 8)))) (y_as (Ev.c (v := .string (str ([] : List (BitVec 8)))))) ?_
    refine w_val (v := .int .i64 6) (y_as (Ev.c (v := .int .i64 6))) ?_
    refine wpList_nil ?_
    refine then_n ?_
    refine wp_ret ?_
    refine then_r ?_
    refine fin_ret2 rfl (Ev.t (v := .string (str ([] : List (BitVec 8)))) rfl rfl) (Ev.t (v := .int .i64 6) rfl rfl) ?_
    exact ⟨rfl, hk⟩
  · skip
    refine w_val_g (v := .string (str text)) (want_yes (j := 4) rfl rfl (Ev.t (v := .bool false) (Eq.trans (b := .bool (decide ((((text.length : Nat) : Int) % 8) ≠ 0))) rfl (by rw [decide_eq_false hc2])) rfl) rfl) (y_mv (Ev.t (v := .string (str text)) rfl rfl)) ?_
    refine w_val_g (v := .int .i64 ((text.length : Nat) : Int)) (want_yes (j := 4) rfl rfl (Ev.t (v := .bool false) (Eq.trans (b := .bool (decide ((((text.length : Nat) : Int) % 8) ≠ 0))) rfl (by rw [decide_eq_false hc2])) rfl) rfl) (y_len (Ev.t (v := .string (str text)) rfl rfl) Try.underlying9) ?_
    refine w_val_g (v := .bool (decide (((text.length : Nat) : Int) < 16))) (want_yes (j := 4) rfl rfl (Ev.t (v := .bool false) (Eq.trans (b := .bool (decide ((((text.length : Nat) : Int) % 8) ≠ 0))) rfl (by rw [decide_eq_false hc2])) rfl) rfl) (y_bin (Ev.t (v := .int .i64 ((text.length : Nat) : Int)) rfl rfl) (Ev.c (v := .int .i64 16)) b_lss) ?_
    refine w_val (v := .bool (decide (((text.length : Nat) : Int) < 16))) (y_pick_f (Ev.t (v := .bool false) (Eq.trans (b := .bool (decide ((((text.length : Nat) : Int) % 8) ≠ 0))) rfl (by rw [decide_eq_false hc2])) rfl) (Ev.t (v := .bool (decide (((text.length : Nat) : Int) < 16))) rfl rfl)) ?_
    refine w_val (v := .bool (decide (((text.length : Nat) : Int) < 16))) (y_mv (Ev.t (v := .bool (decide (((text.length : Nat) : Int) < 16))) rfl rfl)) ?_
    by_cases hc3 : ((text.length : Nat) : Int) < 16
    · skip
      refine w_skip (want_no (j := 9) rfl rfl (Ev.t (v := .bool true) (Eq.trans (b := .bool (decide (((text.length : Nat) : Int) < 16))) rfl (by rw [decide_eq_true hc3])) rfl) rfl) ?_
      refine w_skip (want_no (j := 9) rfl rfl (Ev.t (v := .bool true) (Eq.trans (b := .bool (decide (((text.length : Nat) : Int) < 16))) rfl (by rw [decide_eq_true hc3])) rfl) rfl) ?_
      refine w_skip (want_no (j := 9) rfl rfl (Ev.t (v := .bool true) (Eq.trans (b := .bool (decide (((text.length : Nat) : Int) < 16))) rfl (by rw [decide_eq_true hc3])) rfl) rfl) ?_
      refine w_val (v := .bool true) (y_pick_t (Ev.t (v := .bool true) (Eq.trans (b := .bool (decide (((text.length : Nat) : Int) < 16))) rfl (by rw [decide_eq_true hc3])) rfl) (Ev.c (v := .bool true))) ?_
      refine wpList_nil ?_
      refine then_n ?_
      refine c_tt (Ev.t (v := .bool true) rfl rfl) ?_
      refine wp_seq ?_
      refine wp_region_lit ?_
      refine w_val (v := .string (str ([] : List (BitVec 8)))) (y_as (Ev.c (v := .string (str ([] : List (BitVec 8)))))) ?_
      refine w_val (v := .int .i64 6) (y_as (Ev.c (v := .int .i64 6))) ?_
      refine wpList_nil ?_
      refine then_n ?_
      refine wp_ret ?_
      refine then_r ?_
      refine fin_ret2 rfl (Ev.t (v := .string (str ([] : List (BitVec 8)))) rfl rfl) (Ev.t (v := .int .i64 6) rfl rfl) ?_
      exact ⟨rfl, hk⟩
    · skip
      refine w_val_g (v := .string (str text)) (want_yes (j := 9) rfl rfl (Ev.t (v := .bool false) (Eq.trans (b := .bool (decide (((text.length : Nat) : Int) < 16))) rfl (by rw [decide_eq_false hc3])) rfl) rfl) (y_mv (Ev.t (v := .string (str text)) rfl rfl)) ?_
      refine w_val_g (v := .int .i64 ((text.length : Nat) : Int)) (want_yes (j := 9) rfl rfl (Ev.t (v := .bool false) (Eq.trans (b := .bool (decide (((text.length : Nat) : Int) < 16))) rfl (by rw [decide_eq_false hc3])) rfl) rfl) (y_len (Ev.t (v := .string (str text)) rfl rfl) Try.underlying9) ?_
      refine w_val_g (v := .bool (decide (1024 < ((text.length : Nat) : Int)))) (want_yes (j := 9) rfl rfl (Ev.t (v := .bool false) (Eq.trans (b := .bool (decide (((text.length : Nat) : Int) < 16))) rfl (by rw [decide_eq_false hc3])) rfl) rfl) (y_bin (Ev.t (v := .int .i64 ((text.length : Nat) : Int)) rfl rfl) (Ev.c (v := .int .i64 1024)) b_gtr) ?_
      refine w_val (v := .bool (decide (1024 < ((text.length : Nat) : Int)))) (y_pick_f (Ev.t (v := .bool false) (Eq.trans (b := .bool (decide (((text.length : Nat) : Int) < 16))) rfl (by rw [decide_eq_false hc3])) rfl) (Ev.t (v := .bool (decide (1024 < ((text.length : Nat) : Int)))) rfl rfl)) ?_
      refine wpList_nil ?_
      refine then_n ?_
      refine c_if (p := 1024 < ((text.length : Nat) : Int)) (Ev.t (v := .bool (decide (1024 < ((text.length : Nat) : Int)))) rfl rfl) (fun hc4 => ?_) (fun hc4 => ?_)
      · skip
        refine wp_seq ?_
        refine wp_region_lit ?_
        refine w_val (v := .string (str ([] : List (BitVec 8)))) (y_as (Ev.c (v := .string (str ([] : List (BitVec 8)))))) ?_
        refine w_val (v := .int .i64 6) (y_as (Ev.c (v := .int .i64 6))) ?_
        refine wpList_nil ?_
        refine then_n ?_
        refine wp_ret ?_
        refine then_r ?_
        refine fin_ret2 rfl (Ev.t (v := .string (str ([] : List (BitVec 8)))) rfl rfl) (Ev.t (v := .int .i64 6) rfl rfl) ?_
        exact ⟨rfl, hk⟩
      · skip
        refine wp_skip ?_
        refine then_n ?_
        refine wp_seq ?_
        exfalso; omega

set_option maxRecDepth 100000 in
set_option maxHeartbeats 1000000 in
theorem wrap_y (key text : List (BitVec 8)) (n : Nat) (hok : Aes.okKey key.length) (hn : text.length = 8 * n) (h2 : 2 ≤ n) (h128 : n ≤ 128) (w0 : World) : Calls Try.prog 11 #[.string (str key), .string (str text)] w0 fun e w' => e = .returned (.tuple #[.string (str (Wr.a key text (6 * n) ++ Wr.q key text (6 * n))), .int .i64 0]) ∧ Below w0.heap.size w0 w' := by
  have hla := Wr.len_a key text hok
  have hlq := Wr.len_q key text hok (by omega)
  have hle := fun x => Aes.enc_len key x hok
  refine enter (n := 86) Try.func11 rfl rfl rfl ?_
  have hk : Below w0.heap.size w0 w0 := Below.refl _ _
  refine wp_seq ?_
  refine wp_region_lit ?_
  refine w_val (v := .string (str ([] : List (BitVec 8)))) (y_as (Ev.c (v := .string (str ([] : List (BitVec 8)))))) ?_
  refine w_val (v := .int .i64 0) (y_as (Ev.c (v := .int .i64 0))) ?_
  refine wpList_nil ?_
  refine then_n ?_
  refine wp_seq ?_
  refine wp_region_lit ?_
  refine w_val (v := .string (str key)) (y_mv (Ev.t (v := .string (str key)) rfl rfl)) ?_
  refine w_call (Try.func23) (by kernel_rfl) rfl (m1 (Ev.t (v := .string (str key)) rfl rfl)) (new_l key w0 hok) ?_
  rintro _ w1 ⟨p, rfl, hge_p, hc, hb_p⟩
  refine ⟨_, rfl, ?_⟩
  have ge_p : w0.heap.size ≤ p := by have := hk.size; omega
  replace hk := thenB hk hb_p
  refine w_val (v := .tuple #[.pointer (some ⟨p, 0, none⟩), .int .i64 0]) (y_mv (Ev.t (v := .tuple #[.pointer (some ⟨p, 0, none⟩), .int .i64 0]) rfl rfl)) ?_
  refine w_val (v := .pointer (some ⟨p, 0, none⟩)) (y_ext (v := .pointer (some ⟨p, 0, none⟩)) (Ev.t (v := .tuple #[.pointer (some ⟨p, 0, none⟩), .int .i64 0]) rfl rfl) rfl) ?_
  refine w_val (v := .int .i64 0) (y_ext (v := .int .i64 0) (Ev.t (v := .tuple #[.pointer (some ⟨p, 0, none⟩), .int .i64 0]) rfl rfl) rfl) ?_
  refine w_val (v := .pointer (some ⟨p, 0, none⟩)) (y_as (Ev.t (v := .pointer (some ⟨p, 0, none⟩)) rfl rfl)) ?_
  refine w_val (v := .int .i64 0) (y_as (Ev.t (v := .int .i64 0) rfl rfl)) ?_
  refine wpList_nil ?_
  refine then_n ?_
  refine wp_seq ?_
  refine wp_seq ?_
  refine wp_region_lit ?_
  refine w_val (v := .int .i64 0) (y_mv (Ev.t (v := .int .i64 0) rfl rfl)) ?_
  refine w_val (v := .bool false) (y_bin (Ev.t (v := .int .i64 0) rfl rfl) (Ev.c (v := .int .i64 0)) b_neq) ?_
  refine wpList_nil ?_
  refine then_n ?_
  refine c_ff (Ev.t (v := .bool false) rfl rfl) ?_
  refine wp_skip ?_
  refine then_n ?_
  refine wp_seq ?_
  refine wp_seq ?_
  refine wp_region_lit ?_
  refine w_val (v := .string (str text)) (y_mv (Ev.t (v := .string (str text)) rfl rfl)) ?_
  refine w_val (v := .int .i64 ((text.length : Nat) : Int)) (y_len (Ev.t (v := .string (str text)) rfl rfl) Try.underlying9) ?_
  refine w_val (v := .int .i64 (((text.length : Nat) : Int) % 8)) (y_bin (Ev.t (v := .int .i64 ((text.length : Nat) : Int)) rfl rfl) (Ev.c (v := .int .i64 8)) (b_rem (by omega))) ?_
  refine w_val (v := .bool (decide ((((text.length : Nat) : Int) % 8) ≠ 0))) (y_bin (Ev.t (v := .int .i64 (((text.length : Nat) : Int) % 8)) rfl rfl) (Ev.c (v := .int .i64 0)) b_neq) ?_
  refine w_val (v := .bool (decide ((((text.length : Nat) : Int) % 8) ≠ 0))) (y_mv (Ev.t (v := .bool (decide ((((text.length : Nat) : Int) % 8) ≠ 0))) rfl rfl)) ?_
  have hc2 : ¬ ((((text.length : Nat) : Int) % 8) ≠ 0) := by omega
  refine w_val_g (v := .string (str text)) (want_yes (j := 4) rfl rfl (Ev.t (v := .bool false) (Eq.trans (b := .bool (decide ((((text.length : Nat) : Int) % 8) ≠ 0))) rfl (by rw [decide_eq_false hc2])) rfl) rfl) (y_mv (Ev.t (v := .string (str text)) rfl rfl)) ?_
  refine w_val_g (v := .int .i64 ((text.length : Nat) : Int)) (want_yes (j := 4) rfl rfl (Ev.t (v := .bool false) (Eq.trans (b := .bool (decide ((((text.length : Nat) : Int) % 8) ≠ 0))) rfl (by rw [decide_eq_false hc2])) rfl) rfl) (y_len (Ev.t (v := .string (str text)) rfl rfl) Try.underlying9) ?_
  refine w_val_g (v := .bool (decide (((text.length : Nat) : Int) < 16))) (want_yes (j := 4) rfl rfl (Ev.t (v := .bool false) (Eq.trans (b := .bool (decide ((((text.length : Nat) : Int) % 8) ≠ 0))) rfl (by rw [decide_eq_false hc2])) rfl) rfl) (y_bin (Ev.t (v := .int .i64 ((text.length : Nat) : Int)) rfl rfl) (Ev.c (v := .int .i64 16)) b_lss) ?_
  refine w_val (v := .bool (decide (((text.length : Nat) : Int) < 16))) (y_pick_f (Ev.t (v := .bool false) (Eq.trans (b := .bool (decide ((((text.length : Nat) : Int) % 8) ≠ 0))) rfl (by rw [decide_eq_false hc2])) rfl) (Ev.t (v := .bool (decide (((text.length : Nat) : Int) < 16))) rfl rfl)) ?_
  refine w_val (v := .bool (decide (((text.length : Nat) : Int) < 16))) (y_mv (Ev.t (v := .bool (decide (((text.length : Nat) : Int) < 16))) rfl rfl)) ?_
  have hc3 : ¬ (((text.length : Nat) : Int) < 16) := by omega
  refine w_val_g (v := .string (str text)) (want_yes (j := 9) rfl rfl (Ev.t (v := .bool false) (Eq.trans (b := .bool (decide (((text.length : Nat) : Int) < 16))) rfl (by rw [decide_eq_false hc3])) rfl) rfl) (y_mv (Ev.t (v := .string (str text)) rfl rfl)) ?_
  refine w_val_g (v := .int .i64 ((text.length : Nat) : Int)) (want_yes (j := 9) rfl rfl (Ev.t (v := .bool false) (Eq.trans (b := .bool (decide (((text.length : Nat) : Int) < 16))) rfl (by rw [decide_eq_false hc3])) rfl) rfl) (y_len (Ev.t (v := .string (str text)) rfl rfl) Try.underlying9) ?_
  refine w_val_g (v := .bool (decide (1024 < ((text.length : Nat) : Int)))) (want_yes (j := 9) rfl rfl (Ev.t (v := .bool false) (Eq.trans (b := .bool (decide (((text.length : Nat) : Int) < 16))) rfl (by rw [decide_eq_false hc3])) rfl) rfl) (y_bin (Ev.t (v := .int .i64 ((text.length : Nat) : Int)) rfl rfl) (Ev.c (v := .int .i64 1024)) b_gtr) ?_
  refine w_val (v := .bool (decide (1024 < ((text.length : Nat) : Int)))) (y_pick_f (Ev.t (v := .bool false) (Eq.trans (b := .bool (decide (((text.length : Nat) : Int) < 16))) rfl (by rw [decide_eq_false hc3])) rfl) (Ev.t (v := .bool (decide (1024 < ((text.length : Nat) : Int)))) rfl rfl)) ?_
  refine wpList_nil ?_
  refine then_n ?_
  have hc4 : ¬ (1024 < ((text.length : Nat) : Int)) := by omega
  refine c_f (p := 1024 < ((text.length : Nat) : Int)) (Ev.t (v := .bool (decide (1024 < ((text.length : Nat) : Int)))) rfl rfl) hc4 ?_
  refine wp_skip ?_
  refine then_n ?_
  refine wp_seq ?_
  refine wp_region_lit ?_
  refine w_val (v := .string (str text)) (y_mv (Ev.t (v := .string (str text)) rfl rfl)) ?_
  refine w_bytes (Ev.t (v := .string (str text)) rfl rfl) Try.underlying9 Try.underlying47 Try.underlying5 ?_
  intro b_39 cap_b_39 w5 hbe_b_39 hc_b_39 r_b_39 hb6
  have ge_b_39 : w0.heap.size ≤ b_39 := by have := hk.size; omega
  clear hbe_b_39
  replace hk := thenB hk hb6
  replace hc := hc.below hb6
  refine w_val (v := .string (str Wr.iv)) (y_as (Ev.c (v := .string (str Wr.iv)))) ?_
  refine w_val (v := .slice (some ⟨b_39, 0, none⟩) text.length cap_b_39) (y_as (Ev.t (v := .slice (some ⟨b_39, 0, none⟩) text.length cap_b_39) rfl rfl)) ?_
  refine wpList_nil ?_
  refine then_n ?_
  refine wp_seq ?_
  refine wp_region_lit ?_
  refine w_val (v := .string (str text)) (y_mv (Ev.t (v := .string (str text)) rfl rfl)) ?_
  refine w_val (v := .int .i64 ((text.length : Nat) : Int)) (y_len (Ev.t (v := .string (str text)) rfl rfl) Try.underlying9) ?_
  refine w_val (v := .int .i64 (((text.length : Nat) : Int) / 8)) (y_bin (Ev.t (v := .int .i64 ((text.length : Nat) : Int)) rfl rfl) (Ev.c (v := .int .i64 8)) (b_quo (by omega))) ?_
  refine w_val (v := .int .i64 (((text.length : Nat) : Int) / 8)) (y_as (Ev.t (v := .int .i64 (((text.length : Nat) : Int) / 8)) rfl rfl)) ?_
  refine wpList_nil ?_
  refine then_n ?_
  refine wp_seq ?_
  refine wp_seq ?_
  refine wp_region_lit ?_
  refine w_val (v := .int .i64 0) (y_mv (Ev.c (v := .int .i64 0))) ?_
  refine wpList_nil ?_
  refine then_n ?_
  refine wp_block ?_
  refine c_loop (fun dN aN wl => ∃ (o : Nat), dN = (6 - o) ∧ ∃ f7, aN = fr 86 f7 ∧ (o ≤ 6) ∧ f7 0 = .string (str key) ∧ f7 1 = .string (str text) ∧ f7 4 = .string (str ([] : List (BitVec 8))) ∧ f7 5 = .int .i64 0 ∧ f7 6 = .pointer (some ⟨p, 0, none⟩) ∧ f7 7 = .int .i64 0 ∧ f7 8 = .string (str (Wr.a key text (n * o))) ∧ f7 9 = .slice (some ⟨b_39, 0, none⟩) text.length cap_b_39 ∧ f7 10 = .int .i64 ((n : Nat) : Int) ∧ f7 43 = .int .i64 ((o : Nat) : Int) ∧ Row wl b_39 5 text.length (fun j => U8 (gb (Wr.q key text (n * o)) j)) ∧ CiphAt Aes.bk Aes.undo wl p (Aes.words key) ∧ Below w0.heap.size w0 wl) (6 - 0) ?_ ?_
  · exact ⟨0, rfl, _, rfl, (by first | omega | with_reducible rfl | assumption | trivial | exact ⟨rfl, rfl⟩ | simp), rfl, rfl, rfl, rfl, rfl, rfl, (Eq.trans (b := .string (str Wr.iv)) rfl (by rw [Nat.mul_zero]; rfl)), rfl, (Eq.trans (b := .int .i64 (((text.length : Nat) : Int) / 8)) rfl (by congr 1; omega)), (Eq.trans (b := .int .i64 0) rfl (by first | with_reducible rfl | (with_reducible congr 1 <;> omega) | (with_reducible congr 2 <;> omega) | (with_reducible congr 3 <;> omega) | rfl)), (r_b_39.congr (fun j hj => by show _ = U8 (gb (Wr.q key text (n * 0)) j); rw [Nat.mul_zero]; rfl)), hc, hk⟩
  · skip
    clear r_b_39 hc hk
    rintro _ _ w8 ⟨o, rfl, f7, rfl, i1_0, s1_0, s1_1, s1_4, s1_5, s1_6, s1_7, s1_8, s1_9, s1_10, s1_43, r_b_39, hc, hk⟩
    have hno : n * o ≤ n * 6 := Nat.mul_le_mul_left _ i1_0
    refine wp_seq ?_
    refine wp_region_lit ?_
    refine w_val (v := .bool (decide (((o : Nat) : Int) < 6))) (y_bin (Ev.t (v := .int .i64 ((o : Nat) : Int)) s1_43 rfl) (Ev.c (v := .int .i64 6)) b_lss) ?_
    refine wpList_nil ?_
    refine then_n ?_
    refine wp_seq ?_
    refine c_if (p := ((o : Nat) : Int) < 6) (Ev.t (v := .bool (decide (((o : Nat) : Int) < 6))) rfl rfl) (fun hc9 => ?_) (fun hc9 => ?_)
    · skip
      refine wp_skip ?_
      refine then_n ?_
      refine wp_seq ?_
      refine wp_block ?_
      refine wp_seq ?_
      refine wp_region_lit ?_
      refine w_val (v := .int .i64 ((o : Nat) : Int)) (y_mv (Ev.t (v := .int .i64 ((o : Nat) : Int)) s1_43 rfl)) ?_
      refine w_val (v := .int .i64 ((o : Nat) : Int)) (y_as (Ev.t (v := .int .i64 ((o : Nat) : Int)) rfl rfl)) ?_
      refine wpList_nil ?_
      refine then_n ?_
      refine wp_seq ?_
      refine wp_region_lit ?_
      refine w_val (v := .int .i64 ((n : Nat) : Int)) (y_mv (Ev.t (v := .int .i64 ((n : Nat) : Int)) s1_10 rfl)) ?_
      refine w_val (v := .int .i64 0) (y_mv (Ev.c (v := .int .i64 0))) ?_
      refine wpList_nil ?_
      refine then_n ?_
      refine wp_block ?_
      refine c_loop (fun dN aN wl => ∃ (i : Nat), dN = (n - i) ∧ ∃ f10, aN = fr 86 f10 ∧ (i ≤ n) ∧ f10 0 = .string (str key) ∧ f10 1 = .string (str text) ∧ f10 4 = .string (str ([] : List (BitVec 8))) ∧ f10 5 = .int .i64 0 ∧ f10 6 = .pointer (some ⟨p, 0, none⟩) ∧ f10 7 = .int .i64 0 ∧ f10 8 = .string (str (Wr.a key text (n * o + i))) ∧ f10 9 = .slice (some ⟨b_39, 0, none⟩) text.length cap_b_39 ∧ f10 10 = .int .i64 ((n : Nat) : Int) ∧ f10 11 = .int .i64 ((o : Nat) : Int) ∧ f10 43 = .int .i64 ((o : Nat) : Int) ∧ f10 46 = .int .i64 ((n : Nat) : Int) ∧ f10 47 = .int .i64 ((i : Nat) : Int) ∧ Row wl b_39 5 text.length (fun j => if j < 8 * i then U8 (gb (Wr.q key text (n * o + i)) (j + 8 * (n - i))) else U8 (gb (Wr.q key text (n * o + i)) (j - 8 * i))) ∧ CiphAt Aes.bk Aes.undo wl p (Aes.words key) ∧ Below w0.heap.size w0 wl) (n - 0) ?_ ?_
      · exact ⟨0, rfl, _, rfl, (by first | omega | with_reducible rfl | assumption | trivial | exact ⟨rfl, rfl⟩ | simp), s1_0, s1_1, s1_4, s1_5, s1_6, s1_7, (by refine Eq.trans (b := .string (str (Wr.a key text (n * o)))) ?_ ?_; exact s1_8; (rfl)), s1_9, s1_10, rfl, s1_43, rfl, (Eq.trans (b := .int .i64 0) rfl (by first | with_reducible rfl | (with_reducible congr 1 <;> omega) | (with_reducible congr 2 <;> omega) | (with_reducible congr 3 <;> omega) | rfl)), (r_b_39.congr (fun j hj => by (try dsimp only); rw [if_neg (by omega)]; rfl)), hc, hk⟩
      · skip
        clear r_b_39 hc hk
        rintro _ _ w11 ⟨i, rfl, f10, rfl, i2_0, s2_0, s2_1, s2_4, s2_5, s2_6, s2_7, s2_8, s2_9, s2_10, s2_11, s2_43, s2_46, s2_47, r_b_39, hc, hk⟩
        refine wp_seq ?_
        refine wp_region_lit ?_
        refine w_val (v := .bool (decide (((i : Nat) : Int) < ((n : Nat) : Int)))) (y_bin (Ev.t (v := .int .i64 ((i : Nat) : Int)) s2_47 rfl) (Ev.t (v := .int .i64 ((n : Nat) : Int)) s2_46 rfl) b_lss) ?_
        refine wpList_nil ?_
        refine then_n ?_
        refine wp_seq ?_
        refine c_if (p := ((i : Nat) : Int) < ((n : Nat) : Int)) (Ev.t (v := .bool (decide (((i : Nat) : Int) < ((n : Nat) : Int)))) rfl rfl) (fun hc12 => ?_) (fun hc12 => ?_)
        · skip
          refine wp_skip ?_
          refine then_n ?_
          refine wp_seq ?_
          refine wp_block ?_
          refine wp_seq ?_
          refine wp_region_lit ?_
          refine w_val (v := .int .i64 ((i : Nat) : Int)) (y_mv (Ev.t (v := .int .i64 ((i : Nat) : Int)) s2_47 rfl)) ?_
          refine w_val (v := .int .i64 ((i : Nat) : Int)) (y_as (Ev.t (v := .int .i64 ((i : Nat) : Int)) rfl rfl)) ?_
          refine wpList_nil ?_
          refine then_n ?_
          refine wp_seq ?_
          refine wp_region_lit ?_
          refine w_val (v := .slice (some ⟨b_39, 0, none⟩) text.length cap_b_39) (y_mv (Ev.t (v := .slice (some ⟨b_39, 0, none⟩) text.length cap_b_39) s2_9 rfl)) ?_
          refine w_val (v := .int .i64 ((i : Nat) : Int)) (y_mv (Ev.t (v := .int .i64 ((i : Nat) : Int)) rfl rfl)) ?_
          refine w_val (v := .int .i64 (8 * ((i : Nat) : Int))) (y_bin (Ev.c (v := .int .i64 8)) (Ev.t (v := .int .i64 ((i : Nat) : Int)) rfl rfl) (b_mul (by omega))) ?_
          refine w_val (v := .int .i64 ((i : Nat) : Int)) (y_mv (Ev.t (v := .int .i64 ((i : Nat) : Int)) rfl rfl)) ?_
          refine w_val (v := .int .i64 (8 * ((i : Nat) : Int))) (y_bin (Ev.c (v := .int .i64 8)) (Ev.t (v := .int .i64 ((i : Nat) : Int)) rfl rfl) (b_mul (by omega))) ?_
          refine w_val (v := .int .i64 ((8 * ((i : Nat) : Int)) + 8)) (y_bin (Ev.t (v := .int .i64 (8 * ((i : Nat) : Int))) rfl rfl) (Ev.c (v := .int .i64 8)) (b_add (by omega))) ?_
          refine w_val (v := .slice (some ⟨b_39, (8 * i), none⟩) (((8 * i) + 8) - (8 * i)) (cap_b_39 - (8 * i))) (y_sloff (y_slv (Ev.t (v := .slice (some ⟨b_39, 0, none⟩) text.length cap_b_39) rfl rfl) (evo.s (Ev.t (v := .int .i64 (8 * ((i : Nat) : Int))) rfl rfl)) (evo.s (Ev.t (v := .int .i64 ((8 * ((i : Nat) : Int)) + 8)) rfl rfl)) Try.underlying47 WrapWT.sz5 (bnd_lh (l := (8 * i)) (h := ((8 * i) + 8)) (by omega) (by omega) (by (try simp only [hle]); omega) (by (try simp only [hle]); omega)) (by (try simp only [hle]); omega)) (by first | rfl | omega) rfl) ?_
          refine w_val (v := .slice (some ⟨b_39, (8 * i), none⟩) (((8 * i) + 8) - (8 * i)) (cap_b_39 - (8 * i))) (y_as (Ev.t (v := .slice (some ⟨b_39, (8 * i), none⟩) (((8 * i) + 8) - (8 * i)) (cap_b_39 - (8 * i))) rfl rfl)) ?_
          refine wpList_nil ?_
          refine then_n ?_
          refine wp_seq ?_
          refine wp_region_lit ?_
          refine w_val (v := .pointer (some ⟨p, 0, none⟩)) (y_mv (Ev.t (v := .pointer (some ⟨p, 0, none⟩)) s2_6 rfl)) ?_
          refine w_val (v := .string (str (Wr.a key text (n * o + i)))) (y_mv (Ev.t (v := .string (str (Wr.a key text (n * o + i)))) s2_8 rfl)) ?_
          refine w_val (v := .slice (some ⟨b_39, (8 * i), none⟩) (((8 * i) + 8) - (8 * i)) (cap_b_39 - (8 * i))) (y_mv (Ev.t (v := .slice (some ⟨b_39, (8 * i), none⟩) (((8 * i) + 8) - (8 * i)) (cap_b_39 - (8 * i))) rfl rfl)) ?_
          refine w_val (v := .string (str ((Wr.q key text (n * o + i)).take 8))) (y_str (l := (Wr.q key text (n * o + i)).take 8) (Ev.t (v := .slice (some ⟨b_39, (8 * i), none⟩) (((8 * i) + 8) - (8 * i)) (cap_b_39 - (8 * i))) rfl rfl) (by simp only [List.length_take, hlq]; omega) Try.underlying47 Try.underlying5 Try.underlying9 (fun j hj => (r_b_39.val (by omega) (by (try dsimp only); rw [if_neg (by omega), gb_take _ _ _ (by omega)]; congr 2; omega)))) ?_
          refine w_val (v := .string (str ((Wr.a key text (n * o + i)) ++ ((Wr.q key text (n * o + i)).take 8)))) (y_bin (Ev.t (v := .string (str (Wr.a key text (n * o + i)))) rfl rfl) (Ev.t (v := .string (str ((Wr.q key text (n * o + i)).take 8))) rfl rfl) (b_cat (by simp only [List.length_append, List.length_take, hla, hlq]; omega))) ?_
          refine w_call (Try.func24) (by kernel_rfl) rfl (m2 (Ev.t (v := .pointer (some ⟨p, 0, none⟩)) rfl rfl) (Ev.t (v := .string (str ((Wr.a key text (n * o + i)) ++ ((Wr.q key text (n * o + i)).take 8)))) rfl rfl)) (enc_l p key ((Wr.a key text (n * o + i)) ++ ((Wr.q key text (n * o + i)).take 8)) w11 hok hc (by simp only [List.length_append, List.length_take, hla, hlq]; omega)) ?_
          rintro _ w13 ⟨rfl, hb14⟩
          refine ⟨_, rfl, ?_⟩
          replace r_b_39 := r_b_39.step hb14
          replace hk := thenB hk hb14
          replace hc := hc.below hb14
          refine w_val (v := .tuple #[.string (str (Aes.enc (Aes.words key) ((Wr.a key text (n * o + i)) ++ ((Wr.q key text (n * o + i)).take 8)))), .int .i64 0]) (y_mv (Ev.t (v := .tuple #[.string (str (Aes.enc (Aes.words key) ((Wr.a key text (n * o + i)) ++ ((Wr.q key text (n * o + i)).take 8)))), .int .i64 0]) rfl rfl)) ?_
          refine w_val (v := .string (str (Aes.enc (Aes.words key) ((Wr.a key text (n * o + i)) ++ ((Wr.q key text (n * o + i)).take 8))))) (y_ext (v := .string (str (Aes.enc (Aes.words key) ((Wr.a key text (n * o + i)) ++ ((Wr.q key text (n * o + i)).take 8))))) (Ev.t (v := .tuple #[.string (str (Aes.enc (Aes.words key) ((Wr.a key text (n * o + i)) ++ ((Wr.q key text (n * o + i)).take 8)))), .int .i64 0]) rfl rfl) rfl) ?_
          refine w_val (v := .int .i64 0) (y_ext (v := .int .i64 0) (Ev.t (v := .tuple #[.string (str (Aes.enc (Aes.words key) ((Wr.a key text (n * o + i)) ++ ((Wr.q key text (n * o + i)).take 8)))), .int .i64 0]) rfl rfl) rfl) ?_
          refine w_val (v := .string (str (Aes.enc (Aes.words key) ((Wr.a key text (n * o + i)) ++ ((Wr.q key text (n * o + i)).take 8))))) (y_as (Ev.t (v := .string (str (Aes.enc (Aes.words key) ((Wr.a key text (n * o + i)) ++ ((Wr.q key text (n * o + i)).take 8))))) rfl rfl)) ?_
          refine w_val (v := .int .i64 0) (y_as (Ev.t (v := .int .i64 0) rfl rfl)) ?_
          refine wpList_nil ?_
          refine then_n ?_
          refine wp_seq ?_
          refine region_q WrapWT.mixed (by kernel_rfl) ?_
          refine q_val (v := .string (str (Aes.enc (Aes.words key) ((Wr.a key text (n * o + i)) ++ ((Wr.q key text (n * o + i)).take 8))))) (fun w' hw' => y_mv (Ev.t (v := .string (str (Aes.enc (Aes.words key) ((Wr.a key text (n * o + i)) ++ ((Wr.q key text (n * o + i)).take 8))))) rfl rfl)) ?_
          refine q_val (v := .string (str ((Aes.enc (Aes.words key) ((Wr.a key text (n * o + i)) ++ ((Wr.q key text (n * o + i)).take 8))).take 8))) (fun w' hw' => y_sls (Ev.t (v := .string (str (Aes.enc (Aes.words key) ((Wr.a key text (n * o + i)) ++ ((Wr.q key text (n * o + i)).take 8))))) rfl rfl) evo.no (evo.s (Ev.c (v := .int .i64 8))) Try.underlying9 (bnd_h (h := 8) (by omega) (by (try simp only [hle]); omega))) ?_
          refine q_val (v := .int .i64 ((n : Nat) : Int)) (fun w' hw' => y_mv (Ev.t (v := .int .i64 ((n : Nat) : Int)) s2_10 rfl)) ?_
          refine q_val (v := .int .i64 ((o : Nat) : Int)) (fun w' hw' => y_mv (Ev.t (v := .int .i64 ((o : Nat) : Int)) s2_11 rfl)) ?_
          refine q_val (v := .int .i64 (((n : Nat) : Int) * ((o : Nat) : Int))) (fun w' hw' => y_bin (Ev.t (v := .int .i64 ((n : Nat) : Int)) rfl rfl) (Ev.t (v := .int .i64 ((o : Nat) : Int)) rfl rfl) (b_mul (by omega))) ?_
          refine q_val (v := .int .i64 ((i : Nat) : Int)) (fun w' hw' => y_mv (Ev.t (v := .int .i64 ((i : Nat) : Int)) rfl rfl)) ?_
          refine q_val (v := .int .i64 ((((n : Nat) : Int) * ((o : Nat) : Int)) + ((i : Nat) : Int))) (fun w' hw' => y_bin (Ev.t (v := .int .i64 (((n : Nat) : Int) * ((o : Nat) : Int))) rfl rfl) (Ev.t (v := .int .i64 ((i : Nat) : Int)) rfl rfl) (b_add (by omega))) ?_
          refine q_val (v := .int .i64 (((((n : Nat) : Int) * ((o : Nat) : Int)) + ((i : Nat) : Int)) + 1)) (fun w' hw' => y_bin (Ev.t (v := .int .i64 ((((n : Nat) : Int) * ((o : Nat) : Int)) + ((i : Nat) : Int))) rfl rfl) (Ev.c (v := .int .i64 1)) (b_add (by omega))) ?_
          refine q_call (v := .string (str (Wr.no (((n * o) + i) + 1)))) (Try.func26) (by kernel_rfl) rfl (m1 (Ev.t (v := .int .i64 (((((n : Nat) : Int) * ((o : Nat) : Int)) + ((i : Nat) : Int)) + 1)) rfl rfl)) (fun w' hw' => count_c (((((n : Nat) : Int) * ((o : Nat) : Int)) + ((i : Nat) : Int)) + 1) (((n * o) + i) + 1) (by omega) (by omega) w') ?_
          refine q_call (v := .string (str (Oct.xor ((Aes.enc (Aes.words key) ((Wr.a key text (n * o + i)) ++ ((Wr.q key text (n * o + i)).take 8))).take 8) (Wr.no (((n * o) + i) + 1))))) (Try.func25) (by kernel_rfl) rfl (m2 (Ev.t (v := .string (str ((Aes.enc (Aes.words key) ((Wr.a key text (n * o + i)) ++ ((Wr.q key text (n * o + i)).take 8))).take 8))) rfl rfl) (Ev.t (v := .string (str (Wr.no (((n * o) + i) + 1)))) rfl rfl)) (fun w' hw' => xor_c ((Aes.enc (Aes.words key) ((Wr.a key text (n * o + i)) ++ ((Wr.q key text (n * o + i)).take 8))).take 8) (Wr.no (((n * o) + i) + 1)) (by simp only [List.length_take, hla, hle]; omega) w') ?_
          refine q_val (v := .string (str (Oct.xor ((Aes.enc (Aes.words key) ((Wr.a key text (n * o + i)) ++ ((Wr.q key text (n * o + i)).take 8))).take 8) (Wr.no (((n * o) + i) + 1))))) (fun w' hw' => y_as (Ev.t (v := .string (str (Oct.xor ((Aes.enc (Aes.words key) ((Wr.a key text (n * o + i)) ++ ((Wr.q key text (n * o + i)).take 8))).take 8) (Wr.no (((n * o) + i) + 1))))) rfl rfl)) ?_
          refine q_nil ?_
          intro w15 hb16
          replace r_b_39 := r_b_39.step hb16
          replace hk := thenB hk hb16
          replace hc := hc.below hb16
          refine then_n ?_
          refine wp_region_lit ?_
          refine w_val (v := .slice (some ⟨b_39, (8 * i), none⟩) (((8 * i) + 8) - (8 * i)) (cap_b_39 - (8 * i))) (y_mv (Ev.t (v := .slice (some ⟨b_39, (8 * i), none⟩) (((8 * i) + 8) - (8 * i)) (cap_b_39 - (8 * i))) rfl rfl)) ?_
          refine w_val (v := .string (str (Aes.enc (Aes.words key) ((Wr.a key text (n * o + i)) ++ ((Wr.q key text (n * o + i)).take 8))))) (y_mv (Ev.t (v := .string (str (Aes.enc (Aes.words key) ((Wr.a key text (n * o + i)) ++ ((Wr.q key text (n * o + i)).take 8))))) rfl rfl)) ?_
          refine w_val (v := .string (str ((Aes.enc (Aes.words key) ((Wr.a key text (n * o + i)) ++ ((Wr.q key text (n * o + i)).take 8))).drop 8))) (y_slf (Ev.t (v := .string (str (Aes.enc (Aes.words key) ((Wr.a key text (n * o + i)) ++ ((Wr.q key text (n * o + i)).take 8))))) rfl rfl) (evo.s (Ev.c (v := .int .i64 8))) Try.underlying9 (bnd_l (l := 8) (by omega) (by (try simp only [hle]); omega))) ?_
          have hx_hc := CiphAt.onward hc r_b_39 (by decide) (by decide)
          refine w_copys (l := (Aes.enc (Aes.words key) ((Wr.a key text (n * o + i)) ++ ((Wr.q key text (n * o + i)).take 8))).drop 8) (Ev.t (v := .slice (some ⟨b_39, (8 * i), none⟩) (((8 * i) + 8) - (8 * i)) (cap_b_39 - (8 * i))) rfl rfl) (Ev.t (v := .string (str ((Aes.enc (Aes.words key) ((Wr.a key text (n * o + i)) ++ ((Wr.q key text (n * o + i)).take 8))).drop 8))) rfl rfl) Try.underlying47 WrapWT.sz5 r_b_39 (by omega) ?_
          clear r_b_39; intro w17 r_b_39 hg18 _
          replace hk := thenG hk hg18 (by omega)
          replace hc := hx_hc _ hg18
          refine wpList_nil ?_
          refine inb_n ?_
          refine then_n ?_
          refine wp_region_lit ?_
          refine w_val (v := .int .i64 (((i : Nat) : Int) + 1)) (y_bin (Ev.t (v := .int .i64 ((i : Nat) : Int)) s2_47 rfl) (Ev.c (v := .int .i64 1)) (b_add (by omega))) ?_
          refine w_val (v := .int .i64 (((i : Nat) : Int) + 1)) (y_mv (Ev.t (v := .int .i64 (((i : Nat) : Int) + 1)) rfl rfl)) ?_
          refine wpList_nil ?_
          exact then_n ⟨_, (by omega), i + 1, rfl, _, rfl, (by first | omega | with_reducible rfl | assumption | trivial | simp), s2_0, s2_1, s2_4, s2_5, s2_6, s2_7, (Eq.trans (b := .string (str (Oct.xor ((Aes.enc (Aes.words key) ((Wr.a key text (n * o + i)) ++ ((Wr.q key text (n * o + i)).take 8))).take 8) (Wr.no (((n * o) + i) + 1))))) rfl (by rw [show n * o + (i + 1) = (n * o + i) + 1 from rfl, Wr.a_succ])), s2_9, s2_10, s2_11, s2_43, s2_46, (Eq.trans (b := .int .i64 (((i : Nat) : Int) + 1)) rfl (by first | with_reducible rfl | (with_reducible congr 1 <;> omega) | (with_reducible congr 2 <;> omega) | (with_reducible congr 3 <;> omega) | rfl)), (r_b_39.congr (fun j hj => by exact Wr.row_step key text hok n (n * o + i) i j _ hn (by omega) (by omega) (by omega))), hc, hk⟩
        · skip
          refine wp_exit ?_
          refine then_x ?_
          replace r_b_39 := r_b_39.congr (g := fun j => U8 (gb (Wr.q key text (n * (o + 1))) j)) (fun j hj => by (try dsimp only); rw [if_pos (by omega), show n * (o + 1) = n * o + i from by rw [Nat.mul_succ]; omega]; congr 2; omega)
          refine then_x ?_
          refine inb_x ?_
          refine inb_n ?_
          refine then_n ?_
          refine wp_region_lit ?_
          refine w_val (v := .int .i64 (((o : Nat) : Int) + 1)) (y_bin (Ev.t (v := .int .i64 ((o : Nat) : Int)) s2_43 rfl) (Ev.c (v := .int .i64 1)) (b_add (by omega))) ?_
          refine w_val (v := .int .i64 (((o : Nat) : Int) + 1)) (y_mv (Ev.t (v := .int .i64 (((o : Nat) : Int) + 1)) rfl rfl)) ?_
          refine wpList_nil ?_
          exact then_n ⟨_, (by omega), o + 1, rfl, _, rfl, (by first | omega | with_reducible rfl | assumption | trivial | simp), s2_0, s2_1, s2_4, s2_5, s2_6, s2_7, (by refine Eq.trans (b := .string (str (Wr.a key text (n * o + i)))) ?_ ?_; exact s2_8; (rw [show n * (o + 1) = n * o + i from by rw [Nat.mul_succ]; omega])), s2_9, s2_10, (Eq.trans (b := .int .i64 (((o : Nat) : Int) + 1)) rfl (by first | with_reducible rfl | (with_reducible congr 1 <;> omega) | (with_reducible congr 2 <;> omega) | (with_reducible congr 3 <;> omega) | rfl)), r_b_39, hc, hk⟩
    · skip
      refine wp_exit ?_
      refine then_x ?_
      replace r_b_39 := r_b_39.congr (g := fun j => U8 (gb (Wr.q key text (6 * n)) j)) (fun j hj => by rw [show o = 6 from by omega, Nat.mul_comm])
      refine then_x ?_
      refine inb_x ?_
      refine then_n ?_
      refine wp_seq ?_
      refine wp_region_lit ?_
      refine w_val (v := .string (str (Wr.a key text (n * o)))) (y_mv (Ev.t (v := .string (str (Wr.a key text (n * o)))) s1_8 rfl)) ?_
      refine w_val (v := .slice (some ⟨b_39, 0, none⟩) text.length cap_b_39) (y_mv (Ev.t (v := .slice (some ⟨b_39, 0, none⟩) text.length cap_b_39) s1_9 rfl)) ?_
      refine w_val (v := .string (str (Wr.q key text (6 * n)))) (y_str (l := Wr.q key text (6 * n)) (Ev.t (v := .slice (some ⟨b_39, 0, none⟩) text.length cap_b_39) rfl rfl) (by simp only [hlq] <;> omega) Try.underlying47 Try.underlying5 Try.underlying9 (fun j hj => (r_b_39.val (by omega) (by rw [Nat.zero_add])))) ?_
      refine w_val (v := .string (str ((Wr.a key text (n * o)) ++ (Wr.q key text (6 * n))))) (y_bin (Ev.t (v := .string (str (Wr.a key text (n * o)))) rfl rfl) (Ev.t (v := .string (str (Wr.q key text (6 * n)))) rfl rfl) (b_cat (by simp only [List.length_append, List.length_take, hla, hlq]; omega))) ?_
      refine w_val (v := .string (str ((Wr.a key text (n * o)) ++ (Wr.q key text (6 * n))))) (y_as (Ev.t (v := .string (str ((Wr.a key text (n * o)) ++ (Wr.q key text (6 * n))))) rfl rfl)) ?_
      refine w_val (v := .int .i64 0) (y_as (Ev.c (v := .int .i64 0))) ?_
      refine wpList_nil ?_
      refine then_n ?_
      refine wp_ret ?_
      refine fin_ret2 rfl (Ev.t (v := .string (str ((Wr.a key text (n * o)) ++ (Wr.q key text (6 * n))))) rfl rfl) (Ev.t (v := .int .i64 0) rfl rfl) ?_
      refine ⟨congrArg Ending.returned ?_, hk⟩
      show (.tuple #[.string (str ((Wr.a key text (n * o)) ++ (Wr.q key text (6 * n)))), .int .i64 0] : Value) = .tuple #[.string (str (Wr.a key text (6 * n) ++ Wr.q key text (6 * n))), .int .i64 0]
      rw [show o = 6 from by omega, Nat.mul_comm]

set_option maxRecDepth 100000 in
set_option maxHeartbeats 1000000 in
theorem refWrap_k (key text : List (BitVec 8)) (hok : ¬ Aes.okKey key.length) (w0 : World) : Calls Try.prog 12 #[.string (str key), .string (str text)] w0 fun e w' => e = .returned (.tuple #[.string (str ([] : List (BitVec 8))), .int .i64 3]) ∧ Below w0.heap.size w0 w' := by
  refine enter (n := 58) Try.func12 rfl rfl rfl ?_
  have hk : Below w0.heap.size w0 w0 := Below.refl _ _
  refine wp_seq ?_
  refine wp_region_lit ?_
  refine w_val (v := .string (str ([] : List (BitVec 8)))) (y_as (Ev.c (v := .string (str ([] : List (BitVec 8)))))) ?_
  refine w_val (v := .int .i64 0) (y_as (Ev.c (v := .int .i64 0))) ?_
  refine wpList_nil ?_
  refine then_n ?_
  refine wp_seq ?_
  refine wp_seq ?_
  refine wp_region_lit ?_
  refine w_val (v := .string (str key)) (y_mv (Ev.t (v := .string (str key)) rfl rfl)) ?_
  refine w_call (Try.func27) (by kernel_rfl) rfl (m1 (Ev.t (v := .string (str key)) rfl rfl)) (right_l_no key w0 hok) ?_
  rintro _ _ ⟨rfl, rfl⟩
  refine ⟨_, rfl, ?_⟩
  refine w_val (v := .bool true) (y_not (Ev.t (v := .bool false) rfl rfl)) ?_
  refine wpList_nil ?_
  refine then_n ?_
  refine c_tt (Ev.t (v := .bool true) rfl rfl) ?_
  refine wp_seq ?_
  refine wp_region_lit ?_
  refine w_val (v := .string (str ([] : List (BitVec 8)))) (y_as (Ev.c (v := .string (str ([] : List (BitVec 8)))))) ?_
  refine w_val (v := .int .i64 3) (y_as (Ev.c (v := .int .i64 3))) ?_
  refine wpList_nil ?_
  refine then_n ?_
  refine wp_ret ?_
  refine then_r ?_
  refine fin_ret2 rfl (Ev.t (v := .string (str ([] : List (BitVec 8)))) rfl rfl) (Ev.t (v := .int .i64 3) rfl rfl) ?_
  exact ⟨rfl, hk⟩

set_option maxRecDepth 100000 in
set_option maxHeartbeats 1000000 in
theorem refWrap_s (key text : List (BitVec 8)) (hok : Aes.okKey key.length) (hs : ¬ (text.length % 8 = 0 ∧ 16 ≤ text.length ∧ text.length ≤ 1024)) (w0 : World) : Calls Try.prog 12 #[.string (str key), .string (str text)] w0 fun e w' => e = .returned (.tuple #[.string (str ([] : List (BitVec 8))), .int .i64 6]) ∧ Below w0.heap.size w0 w' := by
  refine enter (n := 58) Try.func12 rfl rfl rfl ?_
  have hk : Below w0.heap.size w0 w0 := Below.refl _ _
  refine wp_seq ?_
  refine wp_region_lit ?_
  refine w_val (v := .string (str ([] : List (BitVec 8)))) (y_as (Ev.c (v := .string (str ([] : List (BitVec 8)))))) ?_
  refine w_val (v := .int .i64 0) (y_as (Ev.c (v := .int .i64 0))) ?_
  refine wpList_nil ?_
  refine then_n ?_
  refine wp_seq ?_
  refine wp_seq ?_
  refine wp_region_lit ?_
  refine w_val (v := .string (str key)) (y_mv (Ev.t (v := .string (str key)) rfl rfl)) ?_
  refine w_call (Try.func27) (by kernel_rfl) rfl (m1 (Ev.t (v := .string (str key)) rfl rfl)) (right_l key w0 hok) ?_
  rintro _ _ ⟨rfl, rfl⟩
  refine ⟨_, rfl, ?_⟩
  refine w_val (v := .bool false) (y_not (Ev.t (v := .bool true) rfl rfl)) ?_
  refine wpList_nil ?_
  refine then_n ?_
  refine c_ff (Ev.t (v := .bool false) rfl rfl) ?_
  refine wp_skip ?_
  refine then_n ?_
  refine wp_seq ?_
  refine wp_seq ?_
  refine wp_region_lit ?_
  refine w_val (v := .string (str text)) (y_mv (Ev.t (v := .string (str text)) rfl rfl)) ?_
  refine w_val (v := .int .i64 ((text.length : Nat) : Int)) (y_len (Ev.t (v := .string (str text)) rfl rfl) Try.underlying9) ?_
  refine w_val (v := .int .i64 (((text.length : Nat) : Int) % 8)) (y_bin (Ev.t (v := .int .i64 ((text.length : Nat) : Int)) rfl rfl) (Ev.c (v := .int .i64 8)) (b_rem (by omega))) ?_
  refine w_val (v := .bool (decide ((((text.length : Nat) : Int) % 8) ≠ 0))) (y_bin (Ev.t (v := .int .i64 (((text.length : Nat) : Int) % 8)) rfl rfl) (Ev.c (v := .int .i64 0)) b_neq) ?_
  refine w_val (v := .bool (decide ((((text.length : Nat) : Int) % 8) ≠ 0))) (y_mv (Ev.t (v := .bool (decide ((((text.length : Nat) : Int) % 8) ≠ 0))) rfl rfl)) ?_
  by_cases hc2 : (((text.length : Nat) : Int) % 8) ≠ 0
  · skip
    refine w_skip (want_no (j := 4) rfl rfl (Ev.t (v := .bool true) (Eq.trans (b := .bool (decide ((((text.length : Nat) : Int) % 8) ≠ 0))) rfl (by rw [decide_eq_true hc2])) rfl) rfl) ?_
    refine w_skip (want_no (j := 4) rfl rfl (Ev.t (v := .bool true) (Eq.trans (b := .bool (decide ((((text.length : Nat) : Int) % 8) ≠ 0))) rfl (by rw [decide_eq_true hc2])) rfl) rfl) ?_
    refine w_skip (want_no (j := 4) rfl rfl (Ev.t (v := .bool true) (Eq.trans (b := .bool (decide ((((text.length : Nat) : Int) % 8) ≠ 0))) rfl (by rw [decide_eq_true hc2])) rfl) rfl) ?_
    refine w_val (v := .bool true) (y_pick_t (Ev.t (v := .bool true) (Eq.trans (b := .bool (decide ((((text.length : Nat) : Int) % 8) ≠ 0))) rfl (by rw [decide_eq_true hc2])) rfl) (Ev.c (v := .bool true))) ?_
    refine w_val (v := .bool true) (y_mv (Ev.t (v := .bool true) rfl rfl)) ?_
    refine w_skip (want_no (j := 9) rfl rfl (Ev.t (v := .bool true) rfl rfl) rfl) ?_
    refine w_skip (want_no (j := 9) rfl rfl (Ev.t (v := .bool true) rfl rfl) rfl) ?_
    refine w_skip (want_no (j := 9) rfl rfl (Ev.t (v := .bool true) rfl rfl) rfl) ?_
    refine w_val (v := .bool true) (y_pick_t (Ev.t (v := .bool true) rfl rfl) (Ev.c (v := .bool true))) ?_
    refine wpList_nil ?_
    refine then_n ?_
    refine c_tt (Ev.t (v := .bool true) rfl rfl) ?_
    refine wp_seq ?_
    refine wp_region_lit ?_
    refine w_val (v := .string (str ([] : List (BitVec 8)))) (y_as (Ev.c (v := .string (str ([] : List (BitVec 8)))))) ?_
    refine w_val (v := .int .i64 6) (y_as (Ev.c (v := .int .i64 6))) ?_
    refine wpList_nil ?_
    refine then_n ?_
    refine wp_ret ?_
    refine then_r ?_
    refine fin_ret2 rfl (Ev.t (v := .string (str ([] : List (BitVec 8)))) rfl rfl) (Ev.t (v := .int .i64 6) rfl rfl) ?_
    exact ⟨rfl, hk⟩
  · skip
    refine w_val_g (v := .string (str text)) (want_yes (j := 4) rfl rfl (Ev.t (v := .bool false) (Eq.trans (b := .bool (decide ((((text.length : Nat) : Int) % 8) ≠ 0))) rfl (by rw [decide_eq_false hc2])) rfl) rfl) (y_mv (Ev.t (v := .string (str text)) rfl rfl)) ?_
    refine w_val_g (v := .int .i64 ((text.length : Nat) : Int)) (want_yes (j := 4) rfl rfl (Ev.t (v := .bool false) (Eq.trans (b := .bool (decide ((((text.length : Nat) : Int) % 8) ≠ 0))) rfl (by rw [decide_eq_false hc2])) rfl) rfl) (y_len (Ev.t (v := .string (str text)) rfl rfl) Try.underlying9) ?_
    refine w_val_g (v := .bool (decide (((text.length : Nat) : Int) < 16))) (want_yes (j := 4) rfl rfl (Ev.t (v := .bool false) (Eq.trans (b := .bool (decide ((((text.length : Nat) : Int) % 8) ≠ 0))) rfl (by rw [decide_eq_false hc2])) rfl) rfl) (y_bin (Ev.t (v := .int .i64 ((text.length : Nat) : Int)) rfl rfl) (Ev.c (v := .int .i64 16)) b_lss) ?_
    refine w_val (v := .bool (decide (((text.length : Nat) : Int) < 16))) (y_pick_f (Ev.t (v := .bool false) (Eq.trans (b := .bool (decide ((((text.length : Nat) : Int) % 8) ≠ 0))) rfl (by rw [decide_eq_false hc2])) rfl) (Ev.t (v := .bool (decide (((text.length : Nat) : Int) < 16))) rfl rfl)) ?_
    refine w_val (v := .bool (decide (((text.length : Nat) : Int) < 16))) (y_mv (Ev.t (v := .bool (decide (((text.length : Nat) : Int) < 16))) rfl rfl)) ?_
    by_cases hc3 : ((text.length : Nat) : Int) < 16
    · skip
      refine w_skip (want_no (j := 9) rfl rfl (Ev.t (v := .bool true) (Eq.trans (b := .bool (decide (((text.length : Nat) : Int) < 16))) rfl (by rw [decide_eq_true hc3])) rfl) rfl) ?_
      refine w_skip (want_no (j := 9) rfl rfl (Ev.t (v := .bool true) (Eq.trans (b := .bool (decide (((text.length : Nat) : Int) < 16))) rfl (by rw [decide_eq_true hc3])) rfl) rfl) ?_
      refine w_skip (want_no (j := 9) rfl rfl (Ev.t (v := .bool true) (Eq.trans (b := .bool (decide (((text.length : Nat) : Int) < 16))) rfl (by rw [decide_eq_true hc3])) rfl) rfl) ?_
      refine w_val (v := .bool true) (y_pick_t (Ev.t (v := .bool true) (Eq.trans (b := .bool (decide (((text.length : Nat) : Int) < 16))) rfl (by rw [decide_eq_true hc3])) rfl) (Ev.c (v := .bool true))) ?_
      refine wpList_nil ?_
      refine then_n ?_
      refine c_tt (Ev.t (v := .bool true) rfl rfl) ?_
      refine wp_seq ?_
      refine wp_region_lit ?_
      refine w_val (v := .string (str ([] : List (BitVec 8)))) (y_as (Ev.c (v := .string (str ([] : List (BitVec 8)))))) ?_
      refine w_val (v := .int .i64 6) (y_as (Ev.c (v := .int .i64 6))) ?_
      refine wpList_nil ?_
      refine then_n ?_
      refine wp_ret ?_
      refine then_r ?_
      refine fin_ret2 rfl (Ev.t (v := .string (str ([] : List (BitVec 8)))) rfl rfl) (Ev.t (v := .int .i64 6) rfl rfl) ?_
      exact ⟨rfl, hk⟩
    · skip
      refine w_val_g (v := .string (str text)) (want_yes (j := 9) rfl rfl (Ev.t (v := .bool false) (Eq.trans (b := .bool (decide (((text.length : Nat) : Int) < 16))) rfl (by rw [decide_eq_false hc3])) rfl) rfl) (y_mv (Ev.t (v := .string (str text)) rfl rfl)) ?_
      refine w_val_g (v := .int .i64 ((text.length : Nat) : Int)) (want_yes (j := 9) rfl rfl (Ev.t (v := .bool false) (Eq.trans (b := .bool (decide (((text.length : Nat) : Int) < 16))) rfl (by rw [decide_eq_false hc3])) rfl) rfl) (y_len (Ev.t (v := .string (str text)) rfl rfl) Try.underlying9) ?_
      refine w_val_g (v := .bool (decide (1024 < ((text.length : Nat) : Int)))) (want_yes (j := 9) rfl rfl (Ev.t (v := .bool false) (Eq.trans (b := .bool (decide (((text.length : Nat) : Int) < 16))) rfl (by rw [decide_eq_false hc3])) rfl) rfl) (y_bin (Ev.t (v := .int .i64 ((text.length : Nat) : Int)) rfl rfl) (Ev.c (v := .int .i64 1024)) b_gtr) ?_
      refine w_val (v := .bool (decide (1024 < ((text.length : Nat) : Int)))) (y_pick_f (Ev.t (v := .bool false) (Eq.trans (b := .bool (decide (((text.length : Nat) : Int) < 16))) rfl (by rw [decide_eq_false hc3])) rfl) (Ev.t (v := .bool (decide (1024 < ((text.length : Nat) : Int)))) rfl rfl)) ?_
      refine wpList_nil ?_
      refine then_n ?_
      refine c_if (p := 1024 < ((text.length : Nat) : Int)) (Ev.t (v := .bool (decide (1024 < ((text.length : Nat) : Int)))) rfl rfl) (fun hc4 => ?_) (fun hc4 => ?_)
      · skip
        refine wp_seq ?_
        refine wp_region_lit ?_
        refine w_val (v := .string (str ([] : List (BitVec 8)))) (y_as (Ev.c (v := .string (str ([] : List (BitVec 8)))))) ?_
        refine w_val (v := .int .i64 6) (y_as (Ev.c (v := .int .i64 6))) ?_
        refine wpList_nil ?_
        refine then_n ?_
        refine wp_ret ?_
        refine then_r ?_
        refine fin_ret2 rfl (Ev.t (v := .string (str ([] : List (BitVec 8)))) rfl rfl) (Ev.t (v := .int .i64 6) rfl rfl) ?_
        exact ⟨rfl, hk⟩
      · skip
        refine wp_skip ?_
        refine then_n ?_
        refine wp_seq ?_
        exfalso; omega

set_option maxRecDepth 100000 in
set_option maxHeartbeats 1000000 in
theorem refWrap_y (key text : List (BitVec 8)) (n : Nat) (hok : Aes.okKey key.length) (hn : text.length = 8 * n) (h2 : 2 ≤ n) (h128 : n ≤ 128) (w0 : World) : Calls Try.prog 12 #[.string (str key), .string (str text)] w0 fun e w' => e = .returned (.tuple #[.string (str (Wr.a key text (6 * n) ++ Wr.q key text (6 * n))), .int .i64 0]) ∧ Below w0.heap.size w0 w' := by
  have hla := Wr.len_a key text hok
  have hlq := Wr.len_q key text hok (by omega)
  have hle := fun x => Aes.enc_len key x hok
  refine enter (n := 58) Try.func12 rfl rfl rfl ?_
  have hk : Below w0.heap.size w0 w0 := Below.refl _ _
  refine wp_seq ?_
  refine wp_region_lit ?_
  refine w_val (v := .string (str ([] : List (BitVec 8)))) (y_as (Ev.c (v := .string (str ([] : List (BitVec 8)))))) ?_
  refine w_val (v := .int .i64 0) (y_as (Ev.c (v := .int .i64 0))) ?_
  refine wpList_nil ?_
  refine then_n ?_
  refine wp_seq ?_
  refine wp_seq ?_
  refine wp_region_lit ?_
  refine w_val (v := .string (str key)) (y_mv (Ev.t (v := .string (str key)) rfl rfl)) ?_
  refine w_call (Try.func27) (by kernel_rfl) rfl (m1 (Ev.t (v := .string (str key)) rfl rfl)) (right_l key w0 hok) ?_
  rintro _ _ ⟨rfl, rfl⟩
  refine ⟨_, rfl, ?_⟩
  refine w_val (v := .bool false) (y_not (Ev.t (v := .bool true) rfl rfl)) ?_
  refine wpList_nil ?_
  refine then_n ?_
  refine c_ff (Ev.t (v := .bool false) rfl rfl) ?_
  refine wp_skip ?_
  refine then_n ?_
  refine wp_seq ?_
  refine wp_seq ?_
  refine wp_region_lit ?_
  refine w_val (v := .string (str text)) (y_mv (Ev.t (v := .string (str text)) rfl rfl)) ?_
  refine w_val (v := .int .i64 ((text.length : Nat) : Int)) (y_len (Ev.t (v := .string (str text)) rfl rfl) Try.underlying9) ?_
  refine w_val (v := .int .i64 (((text.length : Nat) : Int) % 8)) (y_bin (Ev.t (v := .int .i64 ((text.length : Nat) : Int)) rfl rfl) (Ev.c (v := .int .i64 8)) (b_rem (by omega))) ?_
  refine w_val (v := .bool (decide ((((text.length : Nat) : Int) % 8) ≠ 0))) (y_bin (Ev.t (v := .int .i64 (((text.length : Nat) : Int) % 8)) rfl rfl) (Ev.c (v := .int .i64 0)) b_neq) ?_
  refine w_val (v := .bool (decide ((((text.length : Nat) : Int) % 8) ≠ 0))) (y_mv (Ev.t (v := .bool (decide ((((text.length : Nat) : Int) % 8) ≠ 0))) rfl rfl)) ?_
  have hc2 : ¬ ((((text.length : Nat) : Int) % 8) ≠ 0) := by omega
  refine w_val_g (v := .string (str text)) (want_yes (j := 4) rfl rfl (Ev.t (v := .bool false) (Eq.trans (b := .bool (decide ((((text.length : Nat) : Int) % 8) ≠ 0))) rfl (by rw [decide_eq_false hc2])) rfl) rfl) (y_mv (Ev.t (v := .string (str text)) rfl rfl)) ?_
  refine w_val_g (v := .int .i64 ((text.length : Nat) : Int)) (want_yes (j := 4) rfl rfl (Ev.t (v := .bool false) (Eq.trans (b := .bool (decide ((((text.length : Nat) : Int) % 8) ≠ 0))) rfl (by rw [decide_eq_false hc2])) rfl) rfl) (y_len (Ev.t (v := .string (str text)) rfl rfl) Try.underlying9) ?_
  refine w_val_g (v := .bool (decide (((text.length : Nat) : Int) < 16))) (want_yes (j := 4) rfl rfl (Ev.t (v := .bool false) (Eq.trans (b := .bool (decide ((((text.length : Nat) : Int) % 8) ≠ 0))) rfl (by rw [decide_eq_false hc2])) rfl) rfl) (y_bin (Ev.t (v := .int .i64 ((text.length : Nat) : Int)) rfl rfl) (Ev.c (v := .int .i64 16)) b_lss) ?_
  refine w_val (v := .bool (decide (((text.length : Nat) : Int) < 16))) (y_pick_f (Ev.t (v := .bool false) (Eq.trans (b := .bool (decide ((((text.length : Nat) : Int) % 8) ≠ 0))) rfl (by rw [decide_eq_false hc2])) rfl) (Ev.t (v := .bool (decide (((text.length : Nat) : Int) < 16))) rfl rfl)) ?_
  refine w_val (v := .bool (decide (((text.length : Nat) : Int) < 16))) (y_mv (Ev.t (v := .bool (decide (((text.length : Nat) : Int) < 16))) rfl rfl)) ?_
  have hc3 : ¬ (((text.length : Nat) : Int) < 16) := by omega
  refine w_val_g (v := .string (str text)) (want_yes (j := 9) rfl rfl (Ev.t (v := .bool false) (Eq.trans (b := .bool (decide (((text.length : Nat) : Int) < 16))) rfl (by rw [decide_eq_false hc3])) rfl) rfl) (y_mv (Ev.t (v := .string (str text)) rfl rfl)) ?_
  refine w_val_g (v := .int .i64 ((text.length : Nat) : Int)) (want_yes (j := 9) rfl rfl (Ev.t (v := .bool false) (Eq.trans (b := .bool (decide (((text.length : Nat) : Int) < 16))) rfl (by rw [decide_eq_false hc3])) rfl) rfl) (y_len (Ev.t (v := .string (str text)) rfl rfl) Try.underlying9) ?_
  refine w_val_g (v := .bool (decide (1024 < ((text.length : Nat) : Int)))) (want_yes (j := 9) rfl rfl (Ev.t (v := .bool false) (Eq.trans (b := .bool (decide (((text.length : Nat) : Int) < 16))) rfl (by rw [decide_eq_false hc3])) rfl) rfl) (y_bin (Ev.t (v := .int .i64 ((text.length : Nat) : Int)) rfl rfl) (Ev.c (v := .int .i64 1024)) b_gtr) ?_
  refine w_val (v := .bool (decide (1024 < ((text.length : Nat) : Int)))) (y_pick_f (Ev.t (v := .bool false) (Eq.trans (b := .bool (decide (((text.length : Nat) : Int) < 16))) rfl (by rw [decide_eq_false hc3])) rfl) (Ev.t (v := .bool (decide (1024 < ((text.length : Nat) : Int)))) rfl rfl)) ?_
  refine wpList_nil ?_
  refine then_n ?_
  have hc4 : ¬ (1024 < ((text.length : Nat) : Int)) := by omega
  refine c_f (p := 1024 < ((text.length : Nat) : Int)) (Ev.t (v := .bool (decide (1024 < ((text.length : Nat) : Int)))) rfl rfl) hc4 ?_
  refine wp_skip ?_
  refine then_n ?_
  refine wp_seq ?_
  refine wp_region_lit ?_
  refine w_val (v := .string (str key)) (y_mv (Ev.t (v := .string (str key)) rfl rfl)) ?_
  refine w_call (Try.func28) (by kernel_rfl) rfl (m1 (Ev.t (v := .string (str key)) rfl rfl)) (refNew_l key w0 hok) ?_
  rintro _ w5 ⟨bx, g, cap, rfl, hbn, hge_bx, hge_g, r_bx, r_g⟩
  refine ⟨_, rfl, ?_⟩
  have ge_bx : w0.heap.size ≤ bx := by have := hk.size; omega
  have ge_g : w0.heap.size ≤ g := by have := hk.size; omega
  replace hk := thenB hk hbn
  refine w_val (v := .pointer (some ⟨bx, 0, none⟩)) (y_as (Ev.t (v := .pointer (some ⟨bx, 0, none⟩)) rfl rfl)) ?_
  refine wpList_nil ?_
  refine then_n ?_
  refine wp_seq ?_
  refine wp_region_lit ?_
  refine w_val (v := .string (str Wr.iv)) (y_as (Ev.c (v := .string (str Wr.iv)))) ?_
  refine wpList_nil ?_
  refine then_n ?_
  refine wp_seq ?_
  refine wp_region_lit ?_
  refine w_val (v := .string (str text)) (y_mv (Ev.t (v := .string (str text)) rfl rfl)) ?_
  refine w_val (v := .string (str text)) (y_as (Ev.t (v := .string (str text)) rfl rfl)) ?_
  refine wpList_nil ?_
  refine then_n ?_
  refine wp_seq ?_
  refine wp_seq ?_
  refine wp_region_lit ?_
  refine w_val (v := .int .i64 1) (y_as (Ev.c (v := .int .i64 1))) ?_
  refine wpList_nil ?_
  refine then_n ?_
  refine wp_block ?_
  refine c_loop (fun dN aN wl => ∃ (t : Nat), dN = (6 * n - t) ∧ ∃ f6, aN = fr 58 f6 ∧ (t ≤ 6 * n) ∧ f6 0 = .string (str key) ∧ f6 1 = .string (str text) ∧ f6 4 = .string (str ([] : List (BitVec 8))) ∧ f6 5 = .int .i64 0 ∧ f6 6 = .pointer (some ⟨bx, 0, none⟩) ∧ f6 7 = .string (str (Wr.a key text (t))) ∧ f6 8 = .string (str (Wr.q key text (t))) ∧ f6 9 = .int .i64 (((t + 1) : Nat) : Int) ∧ Row wl bx 88 513 (fun j => if j < 256 then U8 (Aes.sb j) else if j < 512 then U8 (Aes.bk (j - 256)) else .slice (some ⟨g, 0, none⟩) ((Aes.words key).length) cap) ∧ Row wl g 92 ((Aes.words key).length * 4) (fun j => U8 (Aes.byteOf (Aes.gw (Aes.words key) (j / 4)) (j % 4))) ∧ Below w0.heap.size w0 wl) (6 * n - 0) ?_ ?_
  · exact ⟨0, rfl, _, rfl, (by first | omega | with_reducible rfl | assumption | trivial | exact ⟨rfl, rfl⟩ | simp), rfl, rfl, rfl, rfl, rfl, (Eq.trans (b := .string (str Wr.iv)) rfl (by rfl)), (Eq.trans (b := .string (str text)) rfl (by rfl)), (Eq.trans (b := .int .i64 1) rfl (by rfl)), r_bx, r_g, hk⟩
  · skip
    clear r_bx r_g hk
    rintro _ _ w7 ⟨t, rfl, f6, rfl, i1_0, s1_0, s1_1, s1_4, s1_5, s1_6, s1_7, s1_8, s1_9, r_bx, r_g, hk⟩
    refine wp_seq ?_
    refine wp_seq ?_
    refine wp_region_lit ?_
    refine w_val (v := .int .i64 (((t + 1) : Nat) : Int)) (y_mv (Ev.t (v := .int .i64 (((t + 1) : Nat) : Int)) s1_9 rfl)) ?_
    refine w_val (v := .string (str text)) (y_mv (Ev.t (v := .string (str text)) s1_1 rfl)) ?_
    refine w_val (v := .int .i64 ((text.length : Nat) : Int)) (y_len (Ev.t (v := .string (str text)) rfl rfl) Try.underlying9) ?_
    refine w_val (v := .int .i64 (((text.length : Nat) : Int) / 8)) (y_bin (Ev.t (v := .int .i64 ((text.length : Nat) : Int)) rfl rfl) (Ev.c (v := .int .i64 8)) (b_quo (by omega))) ?_
    refine w_val (v := .int .i64 (6 * (((text.length : Nat) : Int) / 8))) (y_bin (Ev.c (v := .int .i64 6)) (Ev.t (v := .int .i64 (((text.length : Nat) : Int) / 8)) rfl rfl) (b_mul (by omega))) ?_
    refine w_val (v := .bool (decide ((((t + 1) : Nat) : Int) ≤ (6 * (((text.length : Nat) : Int) / 8))))) (y_bin (Ev.t (v := .int .i64 (((t + 1) : Nat) : Int)) rfl rfl) (Ev.t (v := .int .i64 (6 * (((text.length : Nat) : Int) / 8))) rfl rfl) b_leq) ?_
    refine wpList_nil ?_
    refine then_n ?_
    refine c_if (p := (((t + 1) : Nat) : Int) ≤ (6 * (((text.length : Nat) : Int) / 8))) (Ev.t (v := .bool (decide ((((t + 1) : Nat) : Int) ≤ (6 * (((text.length : Nat) : Int) / 8))))) rfl rfl) (fun hc8 => ?_) (fun hc8 => ?_)
    · skip
      refine wp_skip ?_
      refine then_n ?_
      refine wp_seq ?_
      refine wp_block ?_
      refine wp_seq ?_
      refine wp_region_lit ?_
      refine w_val (v := .pointer (some ⟨bx, 0, none⟩)) (y_mv (Ev.t (v := .pointer (some ⟨bx, 0, none⟩)) s1_6 rfl)) ?_
      refine w_val (v := .string (str (Wr.a key text (t)))) (y_mv (Ev.t (v := .string (str (Wr.a key text (t)))) s1_7 rfl)) ?_
      refine w_val (v := .string (str (Wr.q key text (t)))) (y_mv (Ev.t (v := .string (str (Wr.q key text (t)))) s1_8 rfl)) ?_
      refine w_val (v := .string (str ((Wr.q key text (t)).take 8))) (y_sls (Ev.t (v := .string (str (Wr.q key text (t)))) rfl rfl) evo.no (evo.s (Ev.c (v := .int .i64 8))) Try.underlying9 (bnd_h (h := 8) (by omega) (by (try simp only [hle, hlq]); omega))) ?_
      refine w_val (v := .string (str ((Wr.a key text (t)) ++ ((Wr.q key text (t)).take 8)))) (y_bin (Ev.t (v := .string (str (Wr.a key text (t)))) rfl rfl) (Ev.t (v := .string (str ((Wr.q key text (t)).take 8))) rfl rfl) (b_cat (by simp only [List.length_append, List.length_take, List.length_drop, hla, hle, hlq]; omega))) ?_
      refine w_call (Try.func29) (by kernel_rfl) rfl (m2 (Ev.t (v := .pointer (some ⟨bx, 0, none⟩)) rfl rfl) (Ev.t (v := .string (str ((Wr.a key text (t)) ++ ((Wr.q key text (t)).take 8)))) rfl rfl)) (refEnc_l bx g cap key ((Wr.a key text (t)) ++ ((Wr.q key text (t)).take 8)) w7 hok (by simp only [List.length_append, List.length_take, hla, hlq]; omega) r_bx r_g) ?_
      rintro _ w9 ⟨rfl, hb10⟩
      refine ⟨_, rfl, ?_⟩
      replace r_bx := r_bx.step hb10
      replace r_g := r_g.step hb10
      replace hk := thenB hk hb10
      refine w_val (v := .string (str (Aes.enc (Aes.words key) ((Wr.a key text (t)) ++ ((Wr.q key text (t)).take 8))))) (y_as (Ev.t (v := .string (str (Aes.enc (Aes.words key) ((Wr.a key text (t)) ++ ((Wr.q key text (t)).take 8))))) rfl rfl)) ?_
      refine wpList_nil ?_
      refine then_n ?_
      refine wp_seq ?_
      refine region_q WrapWT.mixed (by kernel_rfl) ?_
      refine q_val (v := .string (str (Aes.enc (Aes.words key) ((Wr.a key text (t)) ++ ((Wr.q key text (t)).take 8))))) (fun w' hw' => y_mv (Ev.t (v := .string (str (Aes.enc (Aes.words key) ((Wr.a key text (t)) ++ ((Wr.q key text (t)).take 8))))) rfl rfl)) ?_
      refine q_val (v := .string (str ((Aes.enc (Aes.words key) ((Wr.a key text (t)) ++ ((Wr.q key text (t)).take 8))).take 8))) (fun w' hw' => y_sls (Ev.t (v := .string (str (Aes.enc (Aes.words key) ((Wr.a key text (t)) ++ ((Wr.q key text (t)).take 8))))) rfl rfl) evo.no (evo.s (Ev.c (v := .int .i64 8))) Try.underlying9 (bnd_h (h := 8) (by omega) (by (try simp only [hle, hlq]); omega))) ?_
      refine q_val (v := .int .i64 (((t + 1) : Nat) : Int)) (fun w' hw' => y_mv (Ev.t (v := .int .i64 (((t + 1) : Nat) : Int)) s1_9 rfl)) ?_
      refine q_call (v := .string (str (Wr.no (t + 1)))) (Try.func31) (by kernel_rfl) rfl (m1 (Ev.t (v := .int .i64 (((t + 1) : Nat) : Int)) rfl rfl)) (fun w' hw' => refNumber_c (((t + 1) : Nat) : Int) (t + 1) rfl (by omega) w') ?_
      refine q_call (v := .string (str (Oct.xor ((Aes.enc (Aes.words key) ((Wr.a key text (t)) ++ ((Wr.q key text (t)).take 8))).take 8) (Wr.no (t + 1))))) (Try.func30) (by kernel_rfl) rfl (m2 (Ev.t (v := .string (str ((Aes.enc (Aes.words key) ((Wr.a key text (t)) ++ ((Wr.q key text (t)).take 8))).take 8))) rfl rfl) (Ev.t (v := .string (str (Wr.no (t + 1)))) rfl rfl)) (fun w' hw' => refXor_c ((Aes.enc (Aes.words key) ((Wr.a key text (t)) ++ ((Wr.q key text (t)).take 8))).take 8) (Wr.no (t + 1)) (by simp only [List.length_take, hla, hle]; omega) w') ?_
      refine q_val (v := .string (str (Oct.xor ((Aes.enc (Aes.words key) ((Wr.a key text (t)) ++ ((Wr.q key text (t)).take 8))).take 8) (Wr.no (t + 1))))) (fun w' hw' => y_as (Ev.t (v := .string (str (Oct.xor ((Aes.enc (Aes.words key) ((Wr.a key text (t)) ++ ((Wr.q key text (t)).take 8))).take 8) (Wr.no (t + 1))))) rfl rfl)) ?_
      refine q_nil ?_
      intro w11 hb12
      replace r_bx := r_bx.step hb12
      replace r_g := r_g.step hb12
      replace hk := thenB hk hb12
      refine then_n ?_
      refine region_q WrapWT.mixed (by kernel_rfl) ?_
      refine q_val (v := .string (str (Wr.q key text (t)))) (fun w' hw' => y_mv (Ev.t (v := .string (str (Wr.q key text (t)))) s1_8 rfl)) ?_
      refine q_val (v := .string (str ((Wr.q key text (t)).drop 8))) (fun w' hw' => y_slf (Ev.t (v := .string (str (Wr.q key text (t)))) rfl rfl) (evo.s (Ev.c (v := .int .i64 8))) Try.underlying9 (bnd_l (l := 8) (by omega) (by (try simp only [hle, hlq]); omega))) ?_
      refine q_val (v := .string (str (Aes.enc (Aes.words key) ((Wr.a key text (t)) ++ ((Wr.q key text (t)).take 8))))) (fun w' hw' => y_mv (Ev.t (v := .string (str (Aes.enc (Aes.words key) ((Wr.a key text (t)) ++ ((Wr.q key text (t)).take 8))))) rfl rfl)) ?_
      refine q_val (v := .string (str ((Aes.enc (Aes.words key) ((Wr.a key text (t)) ++ ((Wr.q key text (t)).take 8))).drop 8))) (fun w' hw' => y_slf (Ev.t (v := .string (str (Aes.enc (Aes.words key) ((Wr.a key text (t)) ++ ((Wr.q key text (t)).take 8))))) rfl rfl) (evo.s (Ev.c (v := .int .i64 8))) Try.underlying9 (bnd_l (l := 8) (by omega) (by (try simp only [hle, hlq]); omega))) ?_
      refine q_val (v := .string (str (((Wr.q key text (t)).drop 8) ++ ((Aes.enc (Aes.words key) ((Wr.a key text (t)) ++ ((Wr.q key text (t)).take 8))).drop 8)))) (fun w' hw' => y_bin (Ev.t (v := .string (str ((Wr.q key text (t)).drop 8))) rfl rfl) (Ev.t (v := .string (str ((Aes.enc (Aes.words key) ((Wr.a key text (t)) ++ ((Wr.q key text (t)).take 8))).drop 8))) rfl rfl) (b_cat (by simp only [List.length_append, List.length_take, List.length_drop, hla, hle, hlq]; omega))) ?_
      refine q_val (v := .string (str (((Wr.q key text (t)).drop 8) ++ ((Aes.enc (Aes.words key) ((Wr.a key text (t)) ++ ((Wr.q key text (t)).take 8))).drop 8)))) (fun w' hw' => y_as (Ev.t (v := .string (str (((Wr.q key text (t)).drop 8) ++ ((Aes.enc (Aes.words key) ((Wr.a key text (t)) ++ ((Wr.q key text (t)).take 8))).drop 8)))) rfl rfl)) ?_
      refine q_nil ?_
      intro w13 hb14
      replace r_bx := r_bx.step hb14
      replace r_g := r_g.step hb14
      replace hk := thenB hk hb14
      refine inb_n ?_
      refine then_n ?_
      refine wp_region_lit ?_
      refine w_val (v := .int .i64 (((t + 1) : Nat) : Int)) (y_mv (Ev.t (v := .int .i64 (((t + 1) : Nat) : Int)) s1_9 rfl)) ?_
      refine w_val (v := .int .i64 ((((t + 1) : Nat) : Int) + 1)) (y_bin (Ev.t (v := .int .i64 (((t + 1) : Nat) : Int)) rfl rfl) (Ev.c (v := .int .i64 1)) (b_add (by omega))) ?_
      refine w_val (v := .int .i64 ((((t + 1) : Nat) : Int) + 1)) (y_as (Ev.t (v := .int .i64 ((((t + 1) : Nat) : Int) + 1)) rfl rfl)) ?_
      refine wpList_nil ?_
      exact then_n ⟨_, (by omega), t + 1, rfl, _, rfl, (by first | omega | with_reducible rfl | assumption | trivial | simp), s1_0, s1_1, s1_4, s1_5, s1_6, (Eq.trans (b := .string (str (Oct.xor ((Aes.enc (Aes.words key) ((Wr.a key text (t)) ++ ((Wr.q key text (t)).take 8))).take 8) (Wr.no (t + 1))))) rfl (by rw [Wr.a_succ])), (Eq.trans (b := .string (str (((Wr.q key text (t)).drop 8) ++ ((Aes.enc (Aes.words key) ((Wr.a key text (t)) ++ ((Wr.q key text (t)).take 8))).drop 8)))) rfl (by rw [Wr.q_succ])), (Eq.trans (b := .int .i64 ((((t + 1) : Nat) : Int) + 1)) rfl (by congr 1)), r_bx, r_g, hk⟩
    · skip
      refine wp_exit ?_
      refine then_x ?_
      refine then_x ?_
      refine inb_x ?_
      refine then_n ?_
      refine wp_seq ?_
      refine wp_region_lit ?_
      refine w_val (v := .string (str (Wr.a key text (t)))) (y_mv (Ev.t (v := .string (str (Wr.a key text (t)))) s1_7 rfl)) ?_
      refine w_val (v := .string (str (Wr.q key text (t)))) (y_mv (Ev.t (v := .string (str (Wr.q key text (t)))) s1_8 rfl)) ?_
      refine w_val (v := .string (str ((Wr.a key text (t)) ++ (Wr.q key text (t))))) (y_bin (Ev.t (v := .string (str (Wr.a key text (t)))) rfl rfl) (Ev.t (v := .string (str (Wr.q key text (t)))) rfl rfl) (b_cat (by simp only [List.length_append, List.length_take, List.length_drop, hla, hle, hlq]; omega))) ?_
      refine w_val (v := .string (str ((Wr.a key text (t)) ++ (Wr.q key text (t))))) (y_as (Ev.t (v := .string (str ((Wr.a key text (t)) ++ (Wr.q key text (t))))) rfl rfl)) ?_
      refine w_val (v := .int .i64 0) (y_as (Ev.c (v := .int .i64 0))) ?_
      refine wpList_nil ?_
      refine then_n ?_
      refine wp_ret ?_
      refine fin_ret2 rfl (Ev.t (v := .string (str ((Wr.a key text (t)) ++ (Wr.q key text (t))))) rfl rfl) (Ev.t (v := .int .i64 0) rfl rfl) ?_
      refine ⟨congrArg Ending.returned ?_, hk⟩
      show (.tuple #[.string (str ((Wr.a key text (t)) ++ (Wr.q key text (t)))), .int .i64 0] : Value) = .tuple #[.string (str (Wr.a key text (6 * n) ++ Wr.q key text (6 * n))), .int .i64 0]
      rw [show t = 6 * n from by omega]

set_option maxRecDepth 100000 in
set_option maxHeartbeats 1000000 in
theorem value_k (key text : List (BitVec 8)) (hok : ¬ Aes.okKey key.length) (w0 : World) : Calls Try.prog 16 #[.string (str key), .string (str text)] w0 fun e w' => e = .returned (.tuple #[.string (str ([] : List (BitVec 8))), .string (str ([] : List (BitVec 8))), .int .i64 3]) ∧ Below w0.heap.size w0 w' := by
  refine enter (n := 90) Try.func16 rfl rfl rfl ?_
  have hk : Below w0.heap.size w0 w0 := Below.refl _ _
  refine wp_seq ?_
  refine wp_region_lit ?_
  refine w_val (v := .string (str ([] : List (BitVec 8)))) (y_as (Ev.c (v := .string (str ([] : List (BitVec 8)))))) ?_
  refine w_val (v := .string (str ([] : List (BitVec 8)))) (y_as (Ev.c (v := .string (str ([] : List (BitVec 8)))))) ?_
  refine w_val (v := .int .i64 0) (y_as (Ev.c (v := .int .i64 0))) ?_
  refine wpList_nil ?_
  refine then_n ?_
  refine wp_seq ?_
  refine wp_region_lit ?_
  refine w_val (v := .string (str key)) (y_mv (Ev.t (v := .string (str key)) rfl rfl)) ?_
  refine w_call (Try.func23) (by kernel_rfl) rfl (m1 (Ev.t (v := .string (str key)) rfl rfl)) (new_l_no key w0 hok) ?_
  rintro _ _ ⟨rfl, rfl⟩
  refine ⟨_, rfl, ?_⟩
  refine w_val (v := .tuple #[.pointer none, .int .i64 3]) (y_mv (Ev.t (v := .tuple #[.pointer none, .int .i64 3]) rfl rfl)) ?_
  refine w_val (v := .pointer none) (y_ext (v := .pointer none) (Ev.t (v := .tuple #[.pointer none, .int .i64 3]) rfl rfl) rfl) ?_
  refine w_val (v := .int .i64 3) (y_ext (v := .int .i64 3) (Ev.t (v := .tuple #[.pointer none, .int .i64 3]) rfl rfl) rfl) ?_
  refine w_val (v := .pointer none) (y_as (Ev.t (v := .pointer none) rfl rfl)) ?_
  refine w_val (v := .int .i64 3) (y_as (Ev.t (v := .int .i64 3) rfl rfl)) ?_
  refine wpList_nil ?_
  refine then_n ?_
  refine wp_seq ?_
  refine wp_seq ?_
  refine wp_region_lit ?_
  refine w_val (v := .int .i64 3) (y_mv (Ev.t (v := .int .i64 3) rfl rfl)) ?_
  refine w_val (v := .bool true) (y_bin (Ev.t (v := .int .i64 3) rfl rfl) (Ev.c (v := .int .i64 0)) b_neq) ?_
  refine wpList_nil ?_
  refine then_n ?_
  refine c_tt (Ev.t (v := .bool true) rfl rfl) ?_
  refine wp_seq ?_
  refine wp_region_lit ?_
  refine w_val (v := .int .i64 3) (y_mv (Ev.t (v := .int .i64 3) rfl rfl)) ?_
  refine w_val (v := .string (str ([] : List (BitVec 8)))) (y_as (Ev.c (v := .string (str ([] : List (BitVec 8)))))) ?_
  refine w_val (v := .string (str ([] : List (BitVec 8)))) (y_as (Ev.c (v := .string (str ([] : List (BitVec 8)))))) ?_
  refine w_val (v := .int .i64 3) (y_as (Ev.t (v := .int .i64 3) rfl rfl)) ?_
  refine wpList_nil ?_
  refine then_n ?_
  refine wp_ret ?_
  refine then_r ?_
  refine fin_ret3 rfl (Ev.t (v := .string (str ([] : List (BitVec 8)))) rfl rfl) (Ev.t (v := .string (str ([] : List (BitVec 8)))) rfl rfl) (Ev.t (v := .int .i64 3) rfl rfl) ?_
  exact ⟨rfl, hk⟩

set_option maxRecDepth 100000 in
set_option maxHeartbeats 1000000 in
theorem value_s (key text : List (BitVec 8)) (hok : Aes.okKey key.length) (hs : ¬ (text.length % 8 = 0 ∧ 24 ≤ text.length ∧ text.length ≤ 1032)) (w0 : World) : Calls Try.prog 16 #[.string (str key), .string (str text)] w0 fun e w' => e = .returned (.tuple #[.string (str ([] : List (BitVec 8))), .string (str ([] : List (BitVec 8))), .int .i64 6]) ∧ Below w0.heap.size w0 w' := by
  refine enter (n := 90) Try.func16 rfl rfl rfl ?_
  have hk : Below w0.heap.size w0 w0 := Below.refl _ _
  refine wp_seq ?_
  refine wp_region_lit ?_
  refine w_val (v := .string (str ([] : List (BitVec 8)))) (y_as (Ev.c (v := .string (str ([] : List (BitVec 8)))))) ?_
  refine w_val (v := .string (str ([] : List (BitVec 8)))) (y_as (Ev.c (v := .string (str ([] : List (BitVec 8)))))) ?_
  refine w_val (v := .int .i64 0) (y_as (Ev.c (v := .int .i64 0))) ?_
  refine wpList_nil ?_
  refine then_n ?_
  refine wp_seq ?_
  refine wp_region_lit ?_
  refine w_val (v := .string (str key)) (y_mv (Ev.t (v := .string (str key)) rfl rfl)) ?_
  refine w_call (Try.func23) (by kernel_rfl) rfl (m1 (Ev.t (v := .string (str key)) rfl rfl)) (new_l key w0 hok) ?_
  rintro _ w1 ⟨p, rfl, hge_p, hc, hb_p⟩
  refine ⟨_, rfl, ?_⟩
  have ge_p : w0.heap.size ≤ p := by have := hk.size; omega
  replace hk := thenB hk hb_p
  refine w_val (v := .tuple #[.pointer (some ⟨p, 0, none⟩), .int .i64 0]) (y_mv (Ev.t (v := .tuple #[.pointer (some ⟨p, 0, none⟩), .int .i64 0]) rfl rfl)) ?_
  refine w_val (v := .pointer (some ⟨p, 0, none⟩)) (y_ext (v := .pointer (some ⟨p, 0, none⟩)) (Ev.t (v := .tuple #[.pointer (some ⟨p, 0, none⟩), .int .i64 0]) rfl rfl) rfl) ?_
  refine w_val (v := .int .i64 0) (y_ext (v := .int .i64 0) (Ev.t (v := .tuple #[.pointer (some ⟨p, 0, none⟩), .int .i64 0]) rfl rfl) rfl) ?_
  refine w_val (v := .pointer (some ⟨p, 0, none⟩)) (y_as (Ev.t (v := .pointer (some ⟨p, 0, none⟩)) rfl rfl)) ?_
  refine w_val (v := .int .i64 0) (y_as (Ev.t (v := .int .i64 0) rfl rfl)) ?_
  refine wpList_nil ?_
  refine then_n ?_
  refine wp_seq ?_
  refine wp_seq ?_
  refine wp_region_lit ?_
  refine w_val (v := .int .i64 0) (y_mv (Ev.t (v := .int .i64 0) rfl rfl)) ?_
  refine w_val (v := .bool false) (y_bin (Ev.t (v := .int .i64 0) rfl rfl) (Ev.c (v := .int .i64 0)) b_neq) ?_
  refine wpList_nil ?_
  refine then_n ?_
  refine c_ff (Ev.t (v := .bool false) rfl rfl) ?_
  refine wp_skip ?_
  refine then_n ?_
  refine wp_seq ?_
  refine wp_seq ?_
  refine wp_region_lit ?_
  refine w_val (v := .string (str text)) (y_mv (Ev.t (v := .string (str text)) rfl rfl)) ?_
  refine w_val (v := .int .i64 ((text.length : Nat) : Int)) (y_len (Ev.t (v := .string (str text)) rfl rfl) Try.underlying9) ?_
  refine w_val (v := .int .i64 (((text.length : Nat) : Int) % 8)) (y_bin (Ev.t (v := .int .i64 ((text.length : Nat) : Int)) rfl rfl) (Ev.c (v := .int .i64 8)) (b_rem (by omega))) ?_
  refine w_val (v := .bool (decide ((((text.length : Nat) : Int) % 8) ≠ 0))) (y_bin (Ev.t (v := .int .i64 (((text.length : Nat) : Int) % 8)) rfl rfl) (Ev.c (v := .int .i64 0)) b_neq) ?_
  refine w_val (v := .bool (decide ((((text.length : Nat) : Int) % 8) ≠ 0))) (y_mv (Ev.t (v := .bool (decide ((((text.length : Nat) : Int) % 8) ≠ 0))) rfl rfl)) ?_
  by_cases hc2 : (((text.length : Nat) : Int) % 8) ≠ 0
  · skip
    refine w_skip (want_no (j := 4) rfl rfl (Ev.t (v := .bool true) (Eq.trans (b := .bool (decide ((((text.length : Nat) : Int) % 8) ≠ 0))) rfl (by rw [decide_eq_true hc2])) rfl) rfl) ?_
    refine w_skip (want_no (j := 4) rfl rfl (Ev.t (v := .bool true) (Eq.trans (b := .bool (decide ((((text.length : Nat) : Int) % 8) ≠ 0))) rfl (by rw [decide_eq_true hc2])) rfl) rfl) ?_
    refine w_skip (want_no (j := 4) rfl rfl (Ev.t (v := .bool true) (Eq.trans (b := .bool (decide ((((text.length : Nat) : Int) % 8) ≠ 0))) rfl (by rw [decide_eq_true hc2])) rfl) rfl) ?_
    refine w_val (v := .bool true) (y_pick_t (Ev.t (v := .bool true) (Eq.trans (b := .bool (decide ((((text.length : Nat) : Int) % 8) ≠ 0))) rfl (by rw [decide_eq_true hc2])) rfl) (Ev.c (v := .bool true))) ?_
    refine w_val (v := .bool true) (y_mv (Ev.t (v := .bool true) rfl rfl)) ?_
    refine w_skip (want_no (j := 9) rfl rfl (Ev.t (v := .bool true) rfl rfl) rfl) ?_
    refine w_skip (want_no (j := 9) rfl rfl (Ev.t (v := .bool true) rfl rfl) rfl) ?_
    refine w_skip (want_no (j := 9) rfl rfl (Ev.t (v := .bool true) rfl rfl) rfl) ?_
    refine w_val (v := .bool true) (y_pick_t (Ev.t (v := .bool true) rfl rfl) (Ev.c (v := .bool true))) ?_
    refine wpList_nil ?_
    refine then_n ?_
    refine c_tt (Ev.t (v := .bool true) rfl rfl) ?_
    refine wp_seq ?_
    refine wp_region_lit ?_
    refine w_val (v := .string (str ([] : List (BitVec 8)))) (y_as (Ev.c (v := .string (str ([] : List (BitVec 8)))))) ?_
    refine w_val (v := .string (str ([] : List (BitVec 8)))) (y_as (Ev.c (v := .string (str ([] : List (BitVec 8)))))) ?_
    refine w_val (v := .int .i64 6) (y_as (Ev.c (v := .int .i64 6))) ?_
    refine wpList_nil ?_
    refine then_n ?_
    refine wp_ret ?_
    refine then_r ?_
    refine fin_ret3 rfl (Ev.t (v := .string (str ([] : List (BitVec 8)))) rfl rfl) (Ev.t (v := .string (str ([] : List (BitVec 8)))) rfl rfl) (Ev.t (v := .int .i64 6) rfl rfl) ?_
    exact ⟨rfl, hk⟩
  · skip
    refine w_val_g (v := .string (str text)) (want_yes (j := 4) rfl rfl (Ev.t (v := .bool false) (Eq.trans (b := .bool (decide ((((text.length : Nat) : Int) % 8) ≠ 0))) rfl (by rw [decide_eq_false hc2])) rfl) rfl) (y_mv (Ev.t (v := .string (str text)) rfl rfl)) ?_
    refine w_val_g (v := .int .i64 ((text.length : Nat) : Int)) (want_yes (j := 4) rfl rfl (Ev.t (v := .bool false) (Eq.trans (b := .bool (decide ((((text.length : Nat) : Int) % 8) ≠ 0))) rfl (by rw [decide_eq_false hc2])) rfl) rfl) (y_len (Ev.t (v := .string (str text)) rfl rfl) Try.underlying9) ?_
    refine w_val_g (v := .bool (decide (((text.length : Nat) : Int) < 24))) (want_yes (j := 4) rfl rfl (Ev.t (v := .bool false) (Eq.trans (b := .bool (decide ((((text.length : Nat) : Int) % 8) ≠ 0))) rfl (by rw [decide_eq_false hc2])) rfl) rfl) (y_bin (Ev.t (v := .int .i64 ((text.length : Nat) : Int)) rfl rfl) (Ev.c (v := .int .i64 24)) b_lss) ?_
    refine w_val (v := .bool (decide (((text.length : Nat) : Int) < 24))) (y_pick_f (Ev.t (v := .bool false) (Eq.trans (b := .bool (decide ((((text.length : Nat) : Int) % 8) ≠ 0))) rfl (by rw [decide_eq_false hc2])) rfl) (Ev.t (v := .bool (decide (((text.length : Nat) : Int) < 24))) rfl rfl)) ?_
    refine w_val (v := .bool (decide (((text.length : Nat) : Int) < 24))) (y_mv (Ev.t (v := .bool (decide (((text.length : Nat) : Int) < 24))) rfl rfl)) ?_
    by_cases hc3 : ((text.length : Nat) : Int) < 24
    · skip
      refine w_skip (want_no (j := 9) rfl rfl (Ev.t (v := .bool true) (Eq.trans (b := .bool (decide (((text.length : Nat) : Int) < 24))) rfl (by rw [decide_eq_true hc3])) rfl) rfl) ?_
      refine w_skip (want_no (j := 9) rfl rfl (Ev.t (v := .bool true) (Eq.trans (b := .bool (decide (((text.length : Nat) : Int) < 24))) rfl (by rw [decide_eq_true hc3])) rfl) rfl) ?_
      refine w_skip (want_no (j := 9) rfl rfl (Ev.t (v := .bool true) (Eq.trans (b := .bool (decide (((text.length : Nat) : Int) < 24))) rfl (by rw [decide_eq_true hc3])) rfl) rfl) ?_
      refine w_val (v := .bool true) (y_pick_t (Ev.t (v := .bool true) (Eq.trans (b := .bool (decide (((text.length : Nat) : Int) < 24))) rfl (by rw [decide_eq_true hc3])) rfl) (Ev.c (v := .bool true))) ?_
      refine wpList_nil ?_
      refine then_n ?_
      refine c_tt (Ev.t (v := .bool true) rfl rfl) ?_
      refine wp_seq ?_
      refine wp_region_lit ?_
      refine w_val (v := .string (str ([] : List (BitVec 8)))) (y_as (Ev.c (v := .string (str ([] : List (BitVec 8)))))) ?_
      refine w_val (v := .string (str ([] : List (BitVec 8)))) (y_as (Ev.c (v := .string (str ([] : List (BitVec 8)))))) ?_
      refine w_val (v := .int .i64 6) (y_as (Ev.c (v := .int .i64 6))) ?_
      refine wpList_nil ?_
      refine then_n ?_
      refine wp_ret ?_
      refine then_r ?_
      refine fin_ret3 rfl (Ev.t (v := .string (str ([] : List (BitVec 8)))) rfl rfl) (Ev.t (v := .string (str ([] : List (BitVec 8)))) rfl rfl) (Ev.t (v := .int .i64 6) rfl rfl) ?_
      exact ⟨rfl, hk⟩
    · skip
      refine w_val_g (v := .string (str text)) (want_yes (j := 9) rfl rfl (Ev.t (v := .bool false) (Eq.trans (b := .bool (decide (((text.length : Nat) : Int) < 24))) rfl (by rw [decide_eq_false hc3])) rfl) rfl) (y_mv (Ev.t (v := .string (str text)) rfl rfl)) ?_
      refine w_val_g (v := .int .i64 ((text.length : Nat) : Int)) (want_yes (j := 9) rfl rfl (Ev.t (v := .bool false) (Eq.trans (b := .bool (decide (((text.length : Nat) : Int) < 24))) rfl (by rw [decide_eq_false hc3])) rfl) rfl) (y_len (Ev.t (v := .string (str text)) rfl rfl) Try.underlying9) ?_
      refine w_val_g (v := .bool (decide (1032 < ((text.length : Nat) : Int)))) (want_yes (j := 9) rfl rfl (Ev.t (v := .bool false) (Eq.trans (b := .bool (decide (((text.length : Nat) : Int) < 24))) rfl (by rw [decide_eq_false hc3])) rfl) rfl) (y_bin (Ev.t (v := .int .i64 ((text.length : Nat) : Int)) rfl rfl) (Ev.c (v := .int .i64 1032)) b_gtr) ?_
      refine w_val (v := .bool (decide (1032 < ((text.length : Nat) : Int)))) (y_pick_f (Ev.t (v := .bool false) (Eq.trans (b := .bool (decide (((text.length : Nat) : Int) < 24))) rfl (by rw [decide_eq_false hc3])) rfl) (Ev.t (v := .bool (decide (1032 < ((text.length : Nat) : Int)))) rfl rfl)) ?_
      refine wpList_nil ?_
      refine then_n ?_
      refine c_if (p := 1032 < ((text.length : Nat) : Int)) (Ev.t (v := .bool (decide (1032 < ((text.length : Nat) : Int)))) rfl rfl) (fun hc4 => ?_) (fun hc4 => ?_)
      · skip
        refine wp_seq ?_
        refine wp_region_lit ?_
        refine w_val (v := .string (str ([] : List (BitVec 8)))) (y_as (Ev.c (v := .string (str ([] : List (BitVec 8)))))) ?_
        refine w_val (v := .string (str ([] : List (BitVec 8)))) (y_as (Ev.c (v := .string (str ([] : List (BitVec 8)))))) ?_
        refine w_val (v := .int .i64 6) (y_as (Ev.c (v := .int .i64 6))) ?_
        refine wpList_nil ?_
        refine then_n ?_
        refine wp_ret ?_
        refine then_r ?_
        refine fin_ret3 rfl (Ev.t (v := .string (str ([] : List (BitVec 8)))) rfl rfl) (Ev.t (v := .string (str ([] : List (BitVec 8)))) rfl rfl) (Ev.t (v := .int .i64 6) rfl rfl) ?_
        exact ⟨rfl, hk⟩
      · skip
        refine wp_skip ?_
        refine then_n ?_
        refine wp_seq ?_
        exfalso; omega

set_option maxRecDepth 100000 in
set_option maxHeartbeats 1000000 in
theorem refValue_k (key text : List (BitVec 8)) (hok : ¬ Aes.okKey key.length) (w0 : World) : Calls Try.prog 17 #[.string (str key), .string (str text)] w0 fun e w' => e = .returned (.tuple #[.string (str ([] : List (BitVec 8))), .string (str ([] : List (BitVec 8))), .int .i64 3]) ∧ Below w0.heap.size w0 w' := by
  refine enter (n := 67) Try.func17 rfl rfl rfl ?_
  have hk : Below w0.heap.size w0 w0 := Below.refl _ _
  refine wp_seq ?_
  refine wp_region_lit ?_
  refine w_val (v := .string (str ([] : List (BitVec 8)))) (y_as (Ev.c (v := .string (str ([] : List (BitVec 8)))))) ?_
  refine w_val (v := .string (str ([] : List (BitVec 8)))) (y_as (Ev.c (v := .string (str ([] : List (BitVec 8)))))) ?_
  refine w_val (v := .int .i64 0) (y_as (Ev.c (v := .int .i64 0))) ?_
  refine wpList_nil ?_
  refine then_n ?_
  refine wp_seq ?_
  refine wp_seq ?_
  refine wp_region_lit ?_
  refine w_val (v := .string (str key)) (y_mv (Ev.t (v := .string (str key)) rfl rfl)) ?_
  refine w_call (Try.func27) (by kernel_rfl) rfl (m1 (Ev.t (v := .string (str key)) rfl rfl)) (right_l_no key w0 hok) ?_
  rintro _ _ ⟨rfl, rfl⟩
  refine ⟨_, rfl, ?_⟩
  refine w_val (v := .bool true) (y_not (Ev.t (v := .bool false) rfl rfl)) ?_
  refine wpList_nil ?_
  refine then_n ?_
  refine c_tt (Ev.t (v := .bool true) rfl rfl) ?_
  refine wp_seq ?_
  refine wp_region_lit ?_
  refine w_val (v := .string (str ([] : List (BitVec 8)))) (y_as (Ev.c (v := .string (str ([] : List (BitVec 8)))))) ?_
  refine w_val (v := .string (str ([] : List (BitVec 8)))) (y_as (Ev.c (v := .string (str ([] : List (BitVec 8)))))) ?_
  refine w_val (v := .int .i64 3) (y_as (Ev.c (v := .int .i64 3))) ?_
  refine wpList_nil ?_
  refine then_n ?_
  refine wp_ret ?_
  refine then_r ?_
  refine fin_ret3 rfl (Ev.t (v := .string (str ([] : List (BitVec 8)))) rfl rfl) (Ev.t (v := .string (str ([] : List (BitVec 8)))) rfl rfl) (Ev.t (v := .int .i64 3) rfl rfl) ?_
  exact ⟨rfl, hk⟩

set_option maxRecDepth 100000 in
set_option maxHeartbeats 1000000 in
theorem refValue_s (key text : List (BitVec 8)) (hok : Aes.okKey key.length) (hs : ¬ (text.length % 8 = 0 ∧ 24 ≤ text.length ∧ text.length ≤ 1032)) (w0 : World) : Calls Try.prog 17 #[.string (str key), .string (str text)] w0 fun e w' => e = .returned (.tuple #[.string (str ([] : List (BitVec 8))), .string (str ([] : List (BitVec 8))), .int .i64 6]) ∧ Below w0.heap.size w0 w' := by
  refine enter (n := 67) Try.func17 rfl rfl rfl ?_
  have hk : Below w0.heap.size w0 w0 := Below.refl _ _
  refine wp_seq ?_
  refine wp_region_lit ?_
  refine w_val (v := .string (str ([] : List (BitVec 8)))) (y_as (Ev.c (v := .string (str ([] : List (BitVec 8)))))) ?_
  refine w_val (v := .string (str ([] : List (BitVec 8)))) (y_as (Ev.c (v := .string (str ([] : List (BitVec 8)))))) ?_
  refine w_val (v := .int .i64 0) (y_as (Ev.c (v := .int .i64 0))) ?_
  refine wpList_nil ?_
  refine then_n ?_
  refine wp_seq ?_
  refine wp_seq ?_
  refine wp_region_lit ?_
  refine w_val (v := .string (str key)) (y_mv (Ev.t (v := .string (str key)) rfl rfl)) ?_
  refine w_call (Try.func27) (by kernel_rfl) rfl (m1 (Ev.t (v := .string (str key)) rfl rfl)) (right_l key w0 hok) ?_
  rintro _ _ ⟨rfl, rfl⟩
  refine ⟨_, rfl, ?_⟩
  refine w_val (v := .bool false) (y_not (Ev.t (v := .bool true) rfl rfl)) ?_
  refine wpList_nil ?_
  refine then_n ?_
  refine c_ff (Ev.t (v := .bool false) rfl rfl) ?_
  refine wp_skip ?_
  refine then_n ?_
  refine wp_seq ?_
  refine wp_seq ?_
  refine wp_region_lit ?_
  refine w_val (v := .string (str text)) (y_mv (Ev.t (v := .string (str text)) rfl rfl)) ?_
  refine w_val (v := .int .i64 ((text.length : Nat) : Int)) (y_len (Ev.t (v := .string (str text)) rfl rfl) Try.underlying9) ?_
  refine w_val (v := .int .i64 (((text.length : Nat) : Int) % 8)) (y_bin (Ev.t (v := .int .i64 ((text.length : Nat) : Int)) rfl rfl) (Ev.c (v := .int .i64 8)) (b_rem (by omega))) ?_
  refine w_val (v := .bool (decide ((((text.length : Nat) : Int) % 8) ≠ 0))) (y_bin (Ev.t (v := .int .i64 (((text.length : Nat) : Int) % 8)) rfl rfl) (Ev.c (v := .int .i64 0)) b_neq) ?_
  refine w_val (v := .bool (decide ((((text.length : Nat) : Int) % 8) ≠ 0))) (y_mv (Ev.t (v := .bool (decide ((((text.length : Nat) : Int) % 8) ≠ 0))) rfl rfl)) ?_
  by_cases hc2 : (((text.length : Nat) : Int) % 8) ≠ 0
  · skip
    refine w_skip (want_no (j := 4) rfl rfl (Ev.t (v := .bool true) (Eq.trans (b := .bool (decide ((((text.length : Nat) : Int) % 8) ≠ 0))) rfl (by rw [decide_eq_true hc2])) rfl) rfl) ?_
    refine w_skip (want_no (j := 4) rfl rfl (Ev.t (v := .bool true) (Eq.trans (b := .bool (decide ((((text.length : Nat) : Int) % 8) ≠ 0))) rfl (by rw [decide_eq_true hc2])) rfl) rfl) ?_
    refine w_skip (want_no (j := 4) rfl rfl (Ev.t (v := .bool true) (Eq.trans (b := .bool (decide ((((text.length : Nat) : Int) % 8) ≠ 0))) rfl (by rw [decide_eq_true hc2])) rfl) rfl) ?_
    refine w_val (v := .bool true) (y_pick_t (Ev.t (v := .bool true) (Eq.trans (b := .bool (decide ((((text.length : Nat) : Int) % 8) ≠ 0))) rfl (by rw [decide_eq_true hc2])) rfl) (Ev.c (v := .bool true))) ?_
    refine w_val (v := .bool true) (y_mv (Ev.t (v := .bool true) rfl rfl)) ?_
    refine w_skip (want_no (j := 9) rfl rfl (Ev.t (v := .bool true) rfl rfl) rfl) ?_
    refine w_skip (want_no (j := 9) rfl rfl (Ev.t (v := .bool true) rfl rfl) rfl) ?_
    refine w_skip (want_no (j := 9) rfl rfl (Ev.t (v := .bool true) rfl rfl) rfl) ?_
    refine w_val (v := .bool true) (y_pick_t (Ev.t (v := .bool true) rfl rfl) (Ev.c (v := .bool true))) ?_
    refine wpList_nil ?_
    refine then_n ?_
    refine c_tt (Ev.t (v := .bool true) rfl rfl) ?_
    refine wp_seq ?_
    refine wp_region_lit ?_
    refine w_val (v := .string (str ([] : List (BitVec 8)))) (y_as (Ev.c (v := .string (str ([] : List (BitVec 8)))))) ?_
    refine w_val (v := .string (str ([] : List (BitVec 8)))) (y_as (Ev.c (v := .string (str ([] : List (BitVec 8)))))) ?_
    refine w_val (v := .int .i64 6) (y_as (Ev.c (v := .int .i64 6))) ?_
    refine wpList_nil ?_
    refine then_n ?_
    refine wp_ret ?_
    refine then_r ?_
    refine fin_ret3 rfl (Ev.t (v := .string (str ([] : List (BitVec 8)))) rfl rfl) (Ev.t (v := .string (str ([] : List (BitVec 8)))) rfl rfl) (Ev.t (v := .int .i64 6) rfl rfl) ?_
    exact ⟨rfl, hk⟩
  · skip
    refine w_val_g (v := .string (str text)) (want_yes (j := 4) rfl rfl (Ev.t (v := .bool false) (Eq.trans (b := .bool (decide ((((text.length : Nat) : Int) % 8) ≠ 0))) rfl (by rw [decide_eq_false hc2])) rfl) rfl) (y_mv (Ev.t (v := .string (str text)) rfl rfl)) ?_
    refine w_val_g (v := .int .i64 ((text.length : Nat) : Int)) (want_yes (j := 4) rfl rfl (Ev.t (v := .bool false) (Eq.trans (b := .bool (decide ((((text.length : Nat) : Int) % 8) ≠ 0))) rfl (by rw [decide_eq_false hc2])) rfl) rfl) (y_len (Ev.t (v := .string (str text)) rfl rfl) Try.underlying9) ?_
    refine w_val_g (v := .bool (decide (((text.length : Nat) : Int) < 24))) (want_yes (j := 4) rfl rfl (Ev.t (v := .bool false) (Eq.trans (b := .bool (decide ((((text.length : Nat) : Int) % 8) ≠ 0))) rfl (by rw [decide_eq_false hc2])) rfl) rfl) (y_bin (Ev.t (v := .int .i64 ((text.length : Nat) : Int)) rfl rfl) (Ev.c (v := .int .i64 24)) b_lss) ?_
    refine w_val (v := .bool (decide (((text.length : Nat) : Int) < 24))) (y_pick_f (Ev.t (v := .bool false) (Eq.trans (b := .bool (decide ((((text.length : Nat) : Int) % 8) ≠ 0))) rfl (by rw [decide_eq_false hc2])) rfl) (Ev.t (v := .bool (decide (((text.length : Nat) : Int) < 24))) rfl rfl)) ?_
    refine w_val (v := .bool (decide (((text.length : Nat) : Int) < 24))) (y_mv (Ev.t (v := .bool (decide (((text.length : Nat) : Int) < 24))) rfl rfl)) ?_
    by_cases hc3 : ((text.length : Nat) : Int) < 24
    · skip
      refine w_skip (want_no (j := 9) rfl rfl (Ev.t (v := .bool true) (Eq.trans (b := .bool (decide (((text.length : Nat) : Int) < 24))) rfl (by rw [decide_eq_true hc3])) rfl) rfl) ?_
      refine w_skip (want_no (j := 9) rfl rfl (Ev.t (v := .bool true) (Eq.trans (b := .bool (decide (((text.length : Nat) : Int) < 24))) rfl (by rw [decide_eq_true hc3])) rfl) rfl) ?_
      refine w_skip (want_no (j := 9) rfl rfl (Ev.t (v := .bool true) (Eq.trans (b := .bool (decide (((text.length : Nat) : Int) < 24))) rfl (by rw [decide_eq_true hc3])) rfl) rfl) ?_
      refine w_val (v := .bool true) (y_pick_t (Ev.t (v := .bool true) (Eq.trans (b := .bool (decide (((text.length : Nat) : Int) < 24))) rfl (by rw [decide_eq_true hc3])) rfl) (Ev.c (v := .bool true))) ?_
      refine wpList_nil ?_
      refine then_n ?_
      refine c_tt (Ev.t (v := .bool true) rfl rfl) ?_
      refine wp_seq ?_
      refine wp_region_lit ?_
      refine w_val (v := .string (str ([] : List (BitVec 8)))) (y_as (Ev.c (v := .string (str ([] : List (BitVec 8)))))) ?_
      refine w_val (v := .string (str ([] : List (BitVec 8)))) (y_as (Ev.c (v := .string (str ([] : List (BitVec 8)))))) ?_
      refine w_val (v := .int .i64 6) (y_as (Ev.c (v := .int .i64 6))) ?_
      refine wpList_nil ?_
      refine then_n ?_
      refine wp_ret ?_
      refine then_r ?_
      refine fin_ret3 rfl (Ev.t (v := .string (str ([] : List (BitVec 8)))) rfl rfl) (Ev.t (v := .string (str ([] : List (BitVec 8)))) rfl rfl) (Ev.t (v := .int .i64 6) rfl rfl) ?_
      exact ⟨rfl, hk⟩
    · skip
      refine w_val_g (v := .string (str text)) (want_yes (j := 9) rfl rfl (Ev.t (v := .bool false) (Eq.trans (b := .bool (decide (((text.length : Nat) : Int) < 24))) rfl (by rw [decide_eq_false hc3])) rfl) rfl) (y_mv (Ev.t (v := .string (str text)) rfl rfl)) ?_
      refine w_val_g (v := .int .i64 ((text.length : Nat) : Int)) (want_yes (j := 9) rfl rfl (Ev.t (v := .bool false) (Eq.trans (b := .bool (decide (((text.length : Nat) : Int) < 24))) rfl (by rw [decide_eq_false hc3])) rfl) rfl) (y_len (Ev.t (v := .string (str text)) rfl rfl) Try.underlying9) ?_
      refine w_val_g (v := .bool (decide (1032 < ((text.length : Nat) : Int)))) (want_yes (j := 9) rfl rfl (Ev.t (v := .bool false) (Eq.trans (b := .bool (decide (((text.length : Nat) : Int) < 24))) rfl (by rw [decide_eq_false hc3])) rfl) rfl) (y_bin (Ev.t (v := .int .i64 ((text.length : Nat) : Int)) rfl rfl) (Ev.c (v := .int .i64 1032)) b_gtr) ?_
      refine w_val (v := .bool (decide (1032 < ((text.length : Nat) : Int)))) (y_pick_f (Ev.t (v := .bool false) (Eq.trans (b := .bool (decide (((text.length : Nat) : Int) < 24))) rfl (by rw [decide_eq_false hc3])) rfl) (Ev.t (v := .bool (decide (1032 < ((text.length : Nat) : Int)))) rfl rfl)) ?_
      refine wpList_nil ?_
      refine then_n ?_
      refine c_if (p := 1032 < ((text.length : Nat) : Int)) (Ev.t (v := .bool (decide (1032 < ((text.length : Nat) : Int)))) rfl rfl) (fun hc4 => ?_) (fun hc4 => ?_)
      · skip
        refine wp_seq ?_
        refine wp_region_lit ?_
        refine w_val (v := .string (str ([] : List (BitVec 8)))) (y_as (Ev.c (v := .string (str ([] : List (BitVec 8)))))) ?_
        refine w_val (v := .string (str ([] : List (BitVec 8)))) (y_as (Ev.c (v := .string (str ([] : List (BitVec 8)))))) ?_
        refine w_val (v := .int .i64 6) (y_as (Ev.c (v := .int .i64 6))) ?_
        refine wpList_nil ?_
        refine then_n ?_
        refine wp_ret ?_
        refine then_r ?_
        refine fin_ret3 rfl (Ev.t (v := .string (str ([] : List (BitVec 8)))) rfl rfl) (Ev.t (v := .string (str ([] : List (BitVec 8)))) rfl rfl) (Ev.t (v := .int .i64 6) rfl rfl) ?_
        exact ⟨rfl, hk⟩
      · skip
        refine wp_skip ?_
        refine then_n ?_
        refine wp_seq ?_
        exfalso; omega

set_option maxRecDepth 100000 in
set_option maxHeartbeats 1000000 in
theorem value_y (key text : List (BitVec 8)) (n : Nat) (hok : Aes.okKey key.length) (hn : text.length = 8 * n + 8) (h2 : 2 ≤ n) (h128 : n ≤ 128) (w0 : World) : Calls Try.prog 16 #[.string (str key), .string (str text)] w0 fun e w' => e = .returned (.tuple #[.string (str (Wr.b key (text.take 8) (text.drop 8) (6 * n) (6 * n))), .string (str (Wr.c key (text.take 8) (text.drop 8) (6 * n) (6 * n))), .int .i64 0]) ∧ Below w0.heap.size w0 w' := by
  have hr8 : (text.drop 8).length = 8 * n := by rw [List.length_drop]; omega
  have hv8 : (text.take 8).length = 8 := by rw [List.length_take]; omega
  have hla := Wr.len_b key (text.take 8) (text.drop 8) hv8 (6 * n)
  have hlq := Wr.len_c key (text.take 8) (text.drop 8) (by omega) (6 * n)
  have hle := fun x => Aes.dec_len key x
  refine enter (n := 90) Try.func16 rfl rfl rfl ?_
  have hk : Below w0.heap.size w0 w0 := Below.refl _ _
  refine wp_seq ?_
  refine wp_region_lit ?_
  refine w_val (v := .string (str ([] : List (BitVec 8)))) (y_as (Ev.c (v := .string (str ([] : List (BitVec 8)))))) ?_
  refine w_val (v := .string (str ([] : List (BitVec 8)))) (y_as (Ev.c (v := .string (str ([] : List (BitVec 8)))))) ?_
  refine w_val (v := .int .i64 0) (y_as (Ev.c (v := .int .i64 0))) ?_
  refine wpList_nil ?_
  refine then_n ?_
  refine wp_seq ?_
  refine wp_region_lit ?_
  refine w_val (v := .string (str key)) (y_mv (Ev.t (v := .string (str key)) rfl rfl)) ?_
  refine w_call (Try.func23) (by kernel_rfl) rfl (m1 (Ev.t (v := .string (str key)) rfl rfl)) (new_l key w0 hok) ?_
  rintro _ w1 ⟨p, rfl, hge_p, hc, hb_p⟩
  refine ⟨_, rfl, ?_⟩
  have ge_p : w0.heap.size ≤ p := by have := hk.size; omega
  replace hk := thenB hk hb_p
  refine w_val (v := .tuple #[.pointer (some ⟨p, 0, none⟩), .int .i64 0]) (y_mv (Ev.t (v := .tuple #[.pointer (some ⟨p, 0, none⟩), .int .i64 0]) rfl rfl)) ?_
  refine w_val (v := .pointer (some ⟨p, 0, none⟩)) (y_ext (v := .pointer (some ⟨p, 0, none⟩)) (Ev.t (v := .tuple #[.pointer (some ⟨p, 0, none⟩), .int .i64 0]) rfl rfl) rfl) ?_
  refine w_val (v := .int .i64 0) (y_ext (v := .int .i64 0) (Ev.t (v := .tuple #[.pointer (some ⟨p, 0, none⟩), .int .i64 0]) rfl rfl) rfl) ?_
  refine w_val (v := .pointer (some ⟨p, 0, none⟩)) (y_as (Ev.t (v := .pointer (some ⟨p, 0, none⟩)) rfl rfl)) ?_
  refine w_val (v := .int .i64 0) (y_as (Ev.t (v := .int .i64 0) rfl rfl)) ?_
  refine wpList_nil ?_
  refine then_n ?_
  refine wp_seq ?_
  refine wp_seq ?_
  refine wp_region_lit ?_
  refine w_val (v := .int .i64 0) (y_mv (Ev.t (v := .int .i64 0) rfl rfl)) ?_
  refine w_val (v := .bool false) (y_bin (Ev.t (v := .int .i64 0) rfl rfl) (Ev.c (v := .int .i64 0)) b_neq) ?_
  refine wpList_nil ?_
  refine then_n ?_
  refine c_ff (Ev.t (v := .bool false) rfl rfl) ?_
  refine wp_skip ?_
  refine then_n ?_
  refine wp_seq ?_
  refine wp_seq ?_
  refine wp_region_lit ?_
  refine w_val (v := .string (str text)) (y_mv (Ev.t (v := .string (str text)) rfl rfl)) ?_
  refine w_val (v := .int .i64 ((text.length : Nat) : Int)) (y_len (Ev.t (v := .string (str text)) rfl rfl) Try.underlying9) ?_
  refine w_val (v := .int .i64 (((text.length : Nat) : Int) % 8)) (y_bin (Ev.t (v := .int .i64 ((text.length : Nat) : Int)) rfl rfl) (Ev.c (v := .int .i64 8)) (b_rem (by omega))) ?_
  refine w_val (v := .bool (decide ((((text.length : Nat) : Int) % 8) ≠ 0))) (y_bin (Ev.t (v := .int .i64 (((text.length : Nat) : Int) % 8)) rfl rfl) (Ev.c (v := .int .i64 0)) b_neq) ?_
  refine w_val (v := .bool (decide ((((text.length : Nat) : Int) % 8) ≠ 0))) (y_mv (Ev.t (v := .bool (decide ((((text.length : Nat) : Int) % 8) ≠ 0))) rfl rfl)) ?_
  have hc2 : ¬ ((((text.length : Nat) : Int) % 8) ≠ 0) := by omega
  refine w_val_g (v := .string (str text)) (want_yes (j := 4) rfl rfl (Ev.t (v := .bool false) (Eq.trans (b := .bool (decide ((((text.length : Nat) : Int) % 8) ≠ 0))) rfl (by rw [decide_eq_false hc2])) rfl) rfl) (y_mv (Ev.t (v := .string (str text)) rfl rfl)) ?_
  refine w_val_g (v := .int .i64 ((text.length : Nat) : Int)) (want_yes (j := 4) rfl rfl (Ev.t (v := .bool false) (Eq.trans (b := .bool (decide ((((text.length : Nat) : Int) % 8) ≠ 0))) rfl (by rw [decide_eq_false hc2])) rfl) rfl) (y_len (Ev.t (v := .string (str text)) rfl rfl) Try.underlying9) ?_
  refine w_val_g (v := .bool (decide (((text.length : Nat) : Int) < 24))) (want_yes (j := 4) rfl rfl (Ev.t (v := .bool false) (Eq.trans (b := .bool (decide ((((text.length : Nat) : Int) % 8) ≠ 0))) rfl (by rw [decide_eq_false hc2])) rfl) rfl) (y_bin (Ev.t (v := .int .i64 ((text.length : Nat) : Int)) rfl rfl) (Ev.c (v := .int .i64 24)) b_lss) ?_
  refine w_val (v := .bool (decide (((text.length : Nat) : Int) < 24))) (y_pick_f (Ev.t (v := .bool false) (Eq.trans (b := .bool (decide ((((text.length : Nat) : Int) % 8) ≠ 0))) rfl (by rw [decide_eq_false hc2])) rfl) (Ev.t (v := .bool (decide (((text.length : Nat) : Int) < 24))) rfl rfl)) ?_
  refine w_val (v := .bool (decide (((text.length : Nat) : Int) < 24))) (y_mv (Ev.t (v := .bool (decide (((text.length : Nat) : Int) < 24))) rfl rfl)) ?_
  have hc3 : ¬ (((text.length : Nat) : Int) < 24) := by omega
  refine w_val_g (v := .string (str text)) (want_yes (j := 9) rfl rfl (Ev.t (v := .bool false) (Eq.trans (b := .bool (decide (((text.length : Nat) : Int) < 24))) rfl (by rw [decide_eq_false hc3])) rfl) rfl) (y_mv (Ev.t (v := .string (str text)) rfl rfl)) ?_
  refine w_val_g (v := .int .i64 ((text.length : Nat) : Int)) (want_yes (j := 9) rfl rfl (Ev.t (v := .bool false) (Eq.trans (b := .bool (decide (((text.length : Nat) : Int) < 24))) rfl (by rw [decide_eq_false hc3])) rfl) rfl) (y_len (Ev.t (v := .string (str text)) rfl rfl) Try.underlying9) ?_
  refine w_val_g (v := .bool (decide (1032 < ((text.length : Nat) : Int)))) (want_yes (j := 9) rfl rfl (Ev.t (v := .bool false) (Eq.trans (b := .bool (decide (((text.length : Nat) : Int) < 24))) rfl (by rw [decide_eq_false hc3])) rfl) rfl) (y_bin (Ev.t (v := .int .i64 ((text.length : Nat) : Int)) rfl rfl) (Ev.c (v := .int .i64 1032)) b_gtr) ?_
  refine w_val (v := .bool (decide (1032 < ((text.length : Nat) : Int)))) (y_pick_f (Ev.t (v := .bool false) (Eq.trans (b := .bool (decide (((text.length : Nat) : Int) < 24))) rfl (by rw [decide_eq_false hc3])) rfl) (Ev.t (v := .bool (decide (1032 < ((text.length : Nat) : Int)))) rfl rfl)) ?_
  refine wpList_nil ?_
  refine then_n ?_
  have hc4 : ¬ (1032 < ((text.length : Nat) : Int)) := by omega
  refine c_f (p := 1032 < ((text.length : Nat) : Int)) (Ev.t (v := .bool (decide (1032 < ((text.length : Nat) : Int)))) rfl rfl) hc4 ?_
  refine wp_skip ?_
  refine then_n ?_
  refine wp_seq ?_
  refine region_dc (Nat.testBit 0) 7 WrapWT.mixed rfl ?_
  intro w5 hb6
  replace hk := thenB hk hb6
  replace hc := hc.below hb6
  have hS : Cls w5 w5 := Below.refl _ _
  refine d_pure (v := .string (str text)) 0 rfl (by kernel_rfl) (by kernel_rfl) (by kernel_rfl) (by kernel_rfl) (fun _ _ _ h => h) (fun w' => y_mv (Ev.t (v := .string (str text)) rfl rfl)) ?_
  refine d_pure (v := .string (str (text.take 8))) 1 rfl (by kernel_rfl) (by kernel_rfl) (by kernel_rfl) (by kernel_rfl) (fun _ _ _ h => h) (fun w' => y_sls (Ev.t (v := .string (str text)) rfl rfl) evo.no (evo.s (Ev.c (v := .int .i64 8))) Try.underlying9 (bnd_h (h := 8) (by omega) (by (try simp only [hle, hr8]); omega))) ?_
  refine d_pure (v := .string (str text)) 2 rfl (by kernel_rfl) (by kernel_rfl) (by kernel_rfl) (by kernel_rfl) (fun _ _ _ h => h) (fun w' => y_mv (Ev.t (v := .string (str text)) rfl rfl)) ?_
  refine d_pure (v := .string (str (text.drop 8))) 3 rfl (by kernel_rfl) (by kernel_rfl) (by kernel_rfl) (by kernel_rfl) (fun _ _ _ h => h) (fun w' => y_slf (Ev.t (v := .string (str text)) rfl rfl) (evo.s (Ev.c (v := .int .i64 8))) Try.underlying9 (bnd_l (l := 8) (by omega) (by (try simp only [hle, hr8]); omega))) ?_
  refine d_pure (v := .string (str (text.take 8))) 5 rfl (by kernel_rfl) (by kernel_rfl) (by kernel_rfl) (by kernel_rfl) (fun _ _ _ h => h) (fun w' => y_as (Ev.t (v := .string (str (text.take 8))) rfl rfl)) ?_
  refine d_one 4 (by kernel_rfl) rfl ?_
  refine w_bytes (Ev.t (v := .string (str (text.drop 8))) rfl rfl) Try.underlying9 Try.underlying47 Try.underlying5 ?_
  intro b_43 cap_b_43 w7 hbe_b_43 hc_b_43 r_b_43 hb8
  have ge_b_43 : w0.heap.size ≤ b_43 := by have := hk.size; omega
  clear hbe_b_43
  replace hk := thenB hk hb8
  replace hc := hc.below hb8
  replace hS := thenB hS hb8
  refine wpList_nil ?_
  refine then_n ⟨fun _ h => thenB h (by assumption), ?_⟩
  refine d_pure (v := .slice (some ⟨b_43, 0, none⟩) ((text.drop 8).length) cap_b_43) 6 rfl (by kernel_rfl) (by kernel_rfl) (by kernel_rfl) (by kernel_rfl) (fun _ _ _ h => h) (fun w' => y_as (Ev.t (v := .slice (some ⟨b_43, 0, none⟩) ((text.drop 8).length) cap_b_43) rfl rfl)) ?_
  refine d_done (by kernel_rfl) ?_
  clear hS
  refine then_n ?_
  refine wp_seq ?_
  refine wp_region_lit ?_
  refine w_val (v := .slice (some ⟨b_43, 0, none⟩) ((text.drop 8).length) cap_b_43) (y_mv (Ev.t (v := .slice (some ⟨b_43, 0, none⟩) ((text.drop 8).length) cap_b_43) rfl rfl)) ?_
  refine w_val (v := .int .i64 (((text.drop 8).length : Nat) : Int)) (y_len_sl (Ev.t (v := .slice (some ⟨b_43, 0, none⟩) ((text.drop 8).length) cap_b_43) rfl rfl) Try.underlying47) ?_
  refine w_val (v := .int .i64 ((((text.drop 8).length : Nat) : Int) / 8)) (y_bin (Ev.t (v := .int .i64 (((text.drop 8).length : Nat) : Int)) rfl rfl) (Ev.c (v := .int .i64 8)) (b_quo (by omega))) ?_
  refine w_val (v := .int .i64 ((((text.drop 8).length : Nat) : Int) / 8)) (y_as (Ev.t (v := .int .i64 ((((text.drop 8).length : Nat) : Int) / 8)) rfl rfl)) ?_
  refine wpList_nil ?_
  refine then_n ?_
  refine wp_seq ?_
  refine wp_seq ?_
  refine wp_region_lit ?_
  refine w_val (v := .int .i64 5) (y_as (Ev.c (v := .int .i64 5))) ?_
  refine wpList_nil ?_
  refine then_n ?_
  refine wp_block ?_
  refine c_loop (fun dN aN wl => ∃ (o : Nat), dN = (6 - o) ∧ ∃ f9, aN = fr 90 f9 ∧ (o ≤ 6) ∧ f9 0 = .string (str key) ∧ f9 1 = .string (str text) ∧ f9 4 = .string (str ([] : List (BitVec 8))) ∧ f9 5 = .string (str ([] : List (BitVec 8))) ∧ f9 6 = .int .i64 0 ∧ f9 7 = .pointer (some ⟨p, 0, none⟩) ∧ f9 8 = .int .i64 0 ∧ f9 9 = .string (str (Wr.b key (text.take 8) (text.drop 8) (6 * n) (n * o))) ∧ f9 10 = .slice (some ⟨b_43, 0, none⟩) ((text.drop 8).length) cap_b_43 ∧ f9 11 = .int .i64 ((n : Nat) : Int) ∧ f9 12 = .int .i64 (5 - ((o : Nat) : Int)) ∧ Row wl b_43 5 ((text.drop 8).length) (fun j => U8 (gb (Wr.c key (text.take 8) (text.drop 8) (6 * n) (n * o)) j)) ∧ CiphAt Aes.bk Aes.undo wl p (Aes.words key) ∧ Below w0.heap.size w0 wl) (6 - 0) ?_ ?_
  · exact ⟨0, rfl, _, rfl, (by first | omega | with_reducible rfl | assumption | trivial | exact ⟨rfl, rfl⟩ | simp), rfl, rfl, rfl, rfl, rfl, rfl, rfl, (Eq.trans (b := .string (str (text.take 8))) rfl (by rw [Nat.mul_zero]; rfl)), rfl, (Eq.trans (b := .int .i64 ((((text.drop 8).length : Nat) : Int) / 8)) rfl (by congr 1; omega)), (Eq.trans (b := .int .i64 5) rfl (by rfl)), (r_b_43.congr (fun j hj => by show _ = U8 (gb (Wr.c key (text.take 8) (text.drop 8) (6 * n) (n * 0)) j); rw [Nat.mul_zero]; rfl)), hc, hk⟩
  · skip
    clear r_b_43 hc hk
    rintro _ _ w10 ⟨o, rfl, f9, rfl, i1_0, s1_0, s1_1, s1_4, s1_5, s1_6, s1_7, s1_8, s1_9, s1_10, s1_11, s1_12, r_b_43, hc, hk⟩
    have hno : n * o ≤ n * 6 := Nat.mul_le_mul_left _ i1_0
    refine wp_seq ?_
    refine wp_seq ?_
    refine wp_region_lit ?_
    refine w_val (v := .int .i64 (5 - ((o : Nat) : Int))) (y_mv (Ev.t (v := .int .i64 (5 - ((o : Nat) : Int))) s1_12 rfl)) ?_
    refine w_val (v := .bool (decide (0 ≤ (5 - ((o : Nat) : Int))))) (y_bin (Ev.t (v := .int .i64 (5 - ((o : Nat) : Int))) rfl rfl) (Ev.c (v := .int .i64 0)) b_geq) ?_
    refine wpList_nil ?_
    refine then_n ?_
    refine c_if (p := 0 ≤ (5 - ((o : Nat) : Int))) (Ev.t (v := .bool (decide (0 ≤ (5 - ((o : Nat) : Int))))) rfl rfl) (fun hc11 => ?_) (fun hc11 => ?_)
    · skip
      refine wp_skip ?_
      refine then_n ?_
      refine wp_seq ?_
      refine wp_block ?_
      refine wp_seq ?_
      refine wp_region_lit ?_
      refine w_val (v := .int .i64 ((n : Nat) : Int)) (y_mv (Ev.t (v := .int .i64 ((n : Nat) : Int)) s1_11 rfl)) ?_
      refine w_val (v := .int .i64 (((n : Nat) : Int) - 1)) (y_bin (Ev.t (v := .int .i64 ((n : Nat) : Int)) rfl rfl) (Ev.c (v := .int .i64 1)) (b_sub (by omega))) ?_
      refine w_val (v := .int .i64 (((n : Nat) : Int) - 1)) (y_as (Ev.t (v := .int .i64 (((n : Nat) : Int) - 1)) rfl rfl)) ?_
      refine wpList_nil ?_
      refine then_n ?_
      refine wp_block ?_
      refine c_loop (fun dN aN wl => ∃ (c : Nat), dN = (2 * c) ∧ ∃ f12, aN = fr 90 f12 ∧ (c ≤ n) ∧ f12 0 = .string (str key) ∧ f12 1 = .string (str text) ∧ f12 4 = .string (str ([] : List (BitVec 8))) ∧ f12 5 = .string (str ([] : List (BitVec 8))) ∧ f12 6 = .int .i64 0 ∧ f12 7 = .pointer (some ⟨p, 0, none⟩) ∧ f12 8 = .int .i64 0 ∧ f12 9 = .string (str (Wr.b key (text.take 8) (text.drop 8) (6 * n) (n * o + (n - c)))) ∧ f12 10 = .slice (some ⟨b_43, 0, none⟩) ((text.drop 8).length) cap_b_43 ∧ f12 11 = .int .i64 ((n : Nat) : Int) ∧ f12 12 = .int .i64 (5 - ((o : Nat) : Int)) ∧ f12 13 = .int .i64 (((c : Nat) : Int) - 1) ∧ Row wl b_43 5 ((text.drop 8).length) (fun j => if j < 8 * c then U8 (gb (Wr.c key (text.take 8) (text.drop 8) (6 * n) (n * o + (n - c))) (j + 8 * (n - c))) else U8 (gb (Wr.c key (text.take 8) (text.drop 8) (6 * n) (n * o + (n - c))) (j - 8 * c))) ∧ CiphAt Aes.bk Aes.undo wl p (Aes.words key) ∧ Below w0.heap.size w0 wl) (2 * n) ?_ ?_
      · exact ⟨n, rfl, _, rfl, (by first | omega | with_reducible rfl | assumption | trivial | exact ⟨rfl, rfl⟩ | simp), s1_0, s1_1, s1_4, s1_5, s1_6, s1_7, s1_8, (by refine Eq.trans (b := .string (str (Wr.b key (text.take 8) (text.drop 8) (6 * n) (n * o)))) ?_ ?_; exact s1_9; (rw [Nat.sub_self]; rfl)), s1_10, s1_11, s1_12, rfl, (r_b_43.congr (fun j hj => by (try dsimp only); rw [if_pos (by omega), Nat.sub_self]; rfl)), hc, hk⟩
      · skip
        clear r_b_43 hc hk
        rintro _ _ w13 ⟨c, rfl, f12, rfl, i2_0, s2_0, s2_1, s2_4, s2_5, s2_6, s2_7, s2_8, s2_9, s2_10, s2_11, s2_12, s2_13, r_b_43, hc, hk⟩
        have hno5 : o ≤ 5 := by omega
        have hno6 : n * o ≤ n * 5 := Nat.mul_le_mul_left _ hno5
        refine wp_seq ?_
        refine wp_seq ?_
        refine wp_region_lit ?_
        refine w_val (v := .int .i64 (((c : Nat) : Int) - 1)) (y_mv (Ev.t (v := .int .i64 (((c : Nat) : Int) - 1)) s2_13 rfl)) ?_
        refine w_val (v := .bool (decide (0 ≤ (((c : Nat) : Int) - 1)))) (y_bin (Ev.t (v := .int .i64 (((c : Nat) : Int) - 1)) rfl rfl) (Ev.c (v := .int .i64 0)) b_geq) ?_
        refine wpList_nil ?_
        refine then_n ?_
        refine c_if (p := 0 ≤ (((c : Nat) : Int) - 1)) (Ev.t (v := .bool (decide (0 ≤ (((c : Nat) : Int) - 1)))) rfl rfl) (fun hc14 => ?_) (fun hc14 => ?_)
        · skip
          refine wp_skip ?_
          refine then_n ?_
          refine wp_seq ?_
          refine wp_block ?_
          refine wp_seq ?_
          refine wp_region_lit ?_
          refine w_val (v := .slice (some ⟨b_43, 0, none⟩) ((text.drop 8).length) cap_b_43) (y_mv (Ev.t (v := .slice (some ⟨b_43, 0, none⟩) ((text.drop 8).length) cap_b_43) s2_10 rfl)) ?_
          refine w_val (v := .int .i64 (((c : Nat) : Int) - 1)) (y_mv (Ev.t (v := .int .i64 (((c : Nat) : Int) - 1)) s2_13 rfl)) ?_
          refine w_val (v := .int .i64 (8 * (((c : Nat) : Int) - 1))) (y_bin (Ev.c (v := .int .i64 8)) (Ev.t (v := .int .i64 (((c : Nat) : Int) - 1)) rfl rfl) (b_mul (by (try rw [Int.mul_sub]); omega))) ?_
          refine w_val (v := .int .i64 (((c : Nat) : Int) - 1)) (y_mv (Ev.t (v := .int .i64 (((c : Nat) : Int) - 1)) s2_13 rfl)) ?_
          refine w_val (v := .int .i64 (8 * (((c : Nat) : Int) - 1))) (y_bin (Ev.c (v := .int .i64 8)) (Ev.t (v := .int .i64 (((c : Nat) : Int) - 1)) rfl rfl) (b_mul (by (try rw [Int.mul_sub]); omega))) ?_
          refine w_val (v := .int .i64 ((8 * (((c : Nat) : Int) - 1)) + 8)) (y_bin (Ev.t (v := .int .i64 (8 * (((c : Nat) : Int) - 1))) rfl rfl) (Ev.c (v := .int .i64 8)) (b_add (by (try rw [Int.mul_sub]); omega))) ?_
          refine w_val (v := .slice (some ⟨b_43, (8 * (c - 1)), none⟩) (((8 * (c - 1)) + 8) - (8 * (c - 1))) (cap_b_43 - (8 * (c - 1)))) (y_sloff (y_slv (Ev.t (v := .slice (some ⟨b_43, 0, none⟩) ((text.drop 8).length) cap_b_43) rfl rfl) (evo.s (Ev.t (v := .int .i64 (8 * (((c : Nat) : Int) - 1))) rfl rfl)) (evo.s (Ev.t (v := .int .i64 ((8 * (((c : Nat) : Int) - 1)) + 8)) rfl rfl)) Try.underlying47 WrapWT.sz5 (bnd_lh (l := (8 * (c - 1))) (h := ((8 * (c - 1)) + 8)) (by omega) (by omega) (by (try simp only [hle, hr8]); omega) (by (try simp only [hle, hr8]); omega)) (by (try simp only [hle, hr8]); omega)) (by first | rfl | omega) rfl) ?_
          refine w_val (v := .slice (some ⟨b_43, (8 * (c - 1)), none⟩) (((8 * (c - 1)) + 8) - (8 * (c - 1))) (cap_b_43 - (8 * (c - 1)))) (y_as (Ev.t (v := .slice (some ⟨b_43, (8 * (c - 1)), none⟩) (((8 * (c - 1)) + 8) - (8 * (c - 1))) (cap_b_43 - (8 * (c - 1)))) rfl rfl)) ?_
          refine wpList_nil ?_
          refine then_n ?_
          refine wp_seq ?_
          refine region_dc (Nat.testBit 516096) 19 WrapWT.mixed rfl ?_
          intro w15 hb16
          replace r_b_43 := r_b_43.step hb16
          replace hk := thenB hk hb16
          replace hc := hc.below hb16
          have hS : Cls w15 w15 := Below.refl _ _
          refine d_pure (v := .pointer (some ⟨p, 0, none⟩)) 0 rfl (by kernel_rfl) (by kernel_rfl) (by kernel_rfl) (by kernel_rfl) (fun _ _ _ h => h) (fun w' => y_mv (Ev.t (v := .pointer (some ⟨p, 0, none⟩)) s2_7 rfl)) ?_
          refine d_pure (v := .string (str (Wr.b key (text.take 8) (text.drop 8) (6 * n) (n * o + (n - c))))) 1 rfl (by kernel_rfl) (by kernel_rfl) (by kernel_rfl) (by kernel_rfl) (fun _ _ _ h => h) (fun w' => y_mv (Ev.t (v := .string (str (Wr.b key (text.take 8) (text.drop 8) (6 * n) (n * o + (n - c))))) s2_9 rfl)) ?_
          refine d_pure (v := .int .i64 ((n : Nat) : Int)) 2 rfl (by kernel_rfl) (by kernel_rfl) (by kernel_rfl) (by kernel_rfl) (fun _ _ _ h => h) (fun w' => y_mv (Ev.t (v := .int .i64 ((n : Nat) : Int)) s2_11 rfl)) ?_
          refine d_pure (v := .int .i64 (5 - ((o : Nat) : Int))) 3 rfl (by kernel_rfl) (by kernel_rfl) (by kernel_rfl) (by kernel_rfl) (fun _ _ _ h => h) (fun w' => y_mv (Ev.t (v := .int .i64 (5 - ((o : Nat) : Int))) s2_12 rfl)) ?_
          refine d_pure (v := .int .i64 (((n : Nat) : Int) * (5 - ((o : Nat) : Int)))) 4 rfl (by kernel_rfl) (by kernel_rfl) (by kernel_rfl) (by kernel_rfl) (fun _ _ _ h => h) (fun w' => y_bin (Ev.t (v := .int .i64 ((n : Nat) : Int)) rfl rfl) (Ev.t (v := .int .i64 (5 - ((o : Nat) : Int))) rfl rfl) (b_mul (by (try rw [Int.mul_sub]); omega))) ?_
          refine d_pure (v := .int .i64 (((c : Nat) : Int) - 1)) 5 rfl (by kernel_rfl) (by kernel_rfl) (by kernel_rfl) (by kernel_rfl) (fun _ _ _ h => h) (fun w' => y_mv (Ev.t (v := .int .i64 (((c : Nat) : Int) - 1)) s2_13 rfl)) ?_
          refine d_pure (v := .int .i64 ((((n : Nat) : Int) * (5 - ((o : Nat) : Int))) + (((c : Nat) : Int) - 1))) 6 rfl (by kernel_rfl) (by kernel_rfl) (by kernel_rfl) (by kernel_rfl) (fun _ _ _ h => h) (fun w' => y_bin (Ev.t (v := .int .i64 (((n : Nat) : Int) * (5 - ((o : Nat) : Int)))) rfl rfl) (Ev.t (v := .int .i64 (((c : Nat) : Int) - 1)) rfl rfl) (b_add (by (try rw [Int.mul_sub]); omega))) ?_
          refine d_pure (v := .int .i64 (((((n : Nat) : Int) * (5 - ((o : Nat) : Int))) + (((c : Nat) : Int) - 1)) + 1)) 7 rfl (by kernel_rfl) (by kernel_rfl) (by kernel_rfl) (by kernel_rfl) (fun _ _ _ h => h) (fun w' => y_bin (Ev.t (v := .int .i64 ((((n : Nat) : Int) * (5 - ((o : Nat) : Int))) + (((c : Nat) : Int) - 1))) rfl rfl) (Ev.c (v := .int .i64 1)) (b_add (by (try rw [Int.mul_sub]); omega))) ?_
          refine d_pure (v := .slice (some ⟨b_43, (8 * (c - 1)), none⟩) (((8 * (c - 1)) + 8) - (8 * (c - 1))) (cap_b_43 - (8 * (c - 1)))) 10 rfl (by kernel_rfl) (by kernel_rfl) (by kernel_rfl) (by kernel_rfl) (fun _ _ _ h => h) (fun w' => y_mv (Ev.t (v := .slice (some ⟨b_43, (8 * (c - 1)), none⟩) (((8 * (c - 1)) + 8) - (8 * (c - 1))) (cap_b_43 - (8 * (c - 1)))) rfl rfl)) ?_
          refine d_take (v := .string (str ((Wr.c key (text.take 8) (text.drop 8) (6 * n) (n * o + (n - c))).drop ((Wr.c key (text.take 8) (text.drop 8) (6 * n) (n * o + (n - c))).length - 8)))) 11 (Nat.testBit 522240) rfl (by kernel_rfl) (by kernel_rfl) (by kernel_rfl) (by kernel_rfl) (by kernel_rfl) (by kernel_rfl) (fun _ _ _ h => h) hS (fun w' hw' => y_str (l := (Wr.c key (text.take 8) (text.drop 8) (6 * n) (n * o + (n - c))).drop ((Wr.c key (text.take 8) (text.drop 8) (6 * n) (n * o + (n - c))).length - 8)) (Ev.t (v := .slice (some ⟨b_43, (8 * (c - 1)), none⟩) (((8 * (c - 1)) + 8) - (8 * (c - 1))) (cap_b_43 - (8 * (c - 1)))) rfl rfl) (by simp only [List.length_drop, hlq]; omega) Try.underlying47 Try.underlying5 Try.underlying9 (fun j hj => (cls_cell (r_b_43.val (by omega) (by (try dsimp only); rw [if_pos (by omega), gb_drop]; congr 2; rw [hlq, hr8]; omega)) r_b_43.lt w' hw'))) ?_
          refine d_one 8 (by kernel_rfl) rfl ?_
          refine w_call (Try.func26) (by kernel_rfl) rfl (m1 (Ev.t (v := .int .i64 (((((n : Nat) : Int) * (5 - ((o : Nat) : Int))) + (((c : Nat) : Int) - 1)) + 1)) rfl rfl)) (count_c (((((n : Nat) : Int) * (5 - ((o : Nat) : Int))) + (((c : Nat) : Int) - 1)) + 1) (6 * n - (n * o + (n - c))) (by first | (rw [Int.mul_sub]; omega) | omega) (by omega) w15) ?_
          rintro _ w17 ⟨rfl, hb18⟩
          refine ⟨_, rfl, ?_⟩
          replace r_b_43 := r_b_43.step hb18
          replace hk := thenB hk hb18
          replace hc := hc.below hb18
          replace hS := thenB hS hb18
          refine wpList_nil ?_
          refine then_n ⟨fun _ h => thenB h (by assumption), ?_⟩
          refine d_one 9 (by kernel_rfl) rfl ?_
          refine w_call (Try.func25) (by kernel_rfl) rfl (m2 (Ev.t (v := .string (str (Wr.b key (text.take 8) (text.drop 8) (6 * n) (n * o + (n - c))))) rfl rfl) (Ev.t (v := .string (str (Wr.no (6 * n - (n * o + (n - c)))))) rfl rfl)) (xor_c (Wr.b key (text.take 8) (text.drop 8) (6 * n) (n * o + (n - c))) (Wr.no (6 * n - (n * o + (n - c)))) (by simp only [hla]; omega) w17) ?_
          rintro _ w19 ⟨rfl, hb20⟩
          refine ⟨_, rfl, ?_⟩
          replace r_b_43 := r_b_43.step hb20
          replace hk := thenB hk hb20
          replace hc := hc.below hb20
          replace hS := thenB hS hb20
          refine wpList_nil ?_
          refine then_n ⟨fun _ h => thenB h (by assumption), ?_⟩
          refine d_pure (v := .string (str ((Oct.xor (Wr.b key (text.take 8) (text.drop 8) (6 * n) (n * o + (n - c))) (Wr.no (6 * n - (n * o + (n - c))))) ++ ((Wr.c key (text.take 8) (text.drop 8) (6 * n) (n * o + (n - c))).drop ((Wr.c key (text.take 8) (text.drop 8) (6 * n) (n * o + (n - c))).length - 8))))) 12 rfl (by kernel_rfl) (by kernel_rfl) (by kernel_rfl) (by kernel_rfl) (fun _ _ _ h => h) (fun w' => y_bin (Ev.t (v := .string (str (Oct.xor (Wr.b key (text.take 8) (text.drop 8) (6 * n) (n * o + (n - c))) (Wr.no (6 * n - (n * o + (n - c))))))) rfl rfl) (Ev.t (v := .string (str ((Wr.c key (text.take 8) (text.drop 8) (6 * n) (n * o + (n - c))).drop ((Wr.c key (text.take 8) (text.drop 8) (6 * n) (n * o + (n - c))).length - 8)))) rfl rfl) (b_cat (by simp only [List.length_append, List.length_drop, Oct.length_xor, Wr.len_no, hla, hlq]; omega))) ?_
          refine d_one 13 (by kernel_rfl) rfl ?_
          have ne_b_43_p : b_43 ≠ p := CiphAt.ne_row hc r_b_43 (by decide)
          have hw_ := hc
          refine w_call (Try.func33) (by kernel_rfl) rfl (m2 (Ev.t (v := .pointer (some ⟨p, 0, none⟩)) rfl rfl) (Ev.t (v := .string (str ((Oct.xor (Wr.b key (text.take 8) (text.drop 8) (6 * n) (n * o + (n - c))) (Wr.no (6 * n - (n * o + (n - c))))) ++ ((Wr.c key (text.take 8) (text.drop 8) (6 * n) (n * o + (n - c))).drop ((Wr.c key (text.take 8) (text.drop 8) (6 * n) (n * o + (n - c))).length - 8))))) rfl rfl)) (dec_g p key ((Oct.xor (Wr.b key (text.take 8) (text.drop 8) (6 * n) (n * o + (n - c))) (Wr.no (6 * n - (n * o + (n - c))))) ++ ((Wr.c key (text.take 8) (text.drop 8) (6 * n) (n * o + (n - c))).drop ((Wr.c key (text.take 8) (text.drop 8) (6 * n) (n * o + (n - c))).length - 8))) w19 hok hw_ (by simp only [List.length_append, List.length_drop, Oct.length_xor, Wr.len_no, hla, hlq]; omega)) ?_
          rintro _ w21 ⟨rfl, hgd, hc⟩
          refine ⟨_, rfl, ?_⟩
          replace r_b_43 := r_b_43.stepG hgd (by omega)
          replace hk := thenG hk hgd (by omega)
          clear hS
          refine wpList_nil ?_
          refine then_n ⟨fun hD => absurd hD (by decide), ?_⟩
          refine d_one 14 (by kernel_rfl) rfl ?_
          refine w_val (v := .tuple #[.string (str (Aes.dec (Aes.words key) ((Oct.xor (Wr.b key (text.take 8) (text.drop 8) (6 * n) (n * o + (n - c))) (Wr.no (6 * n - (n * o + (n - c))))) ++ ((Wr.c key (text.take 8) (text.drop 8) (6 * n) (n * o + (n - c))).drop ((Wr.c key (text.take 8) (text.drop 8) (6 * n) (n * o + (n - c))).length - 8))))), .int .i64 0]) (y_mv (Ev.t (v := .tuple #[.string (str (Aes.dec (Aes.words key) ((Oct.xor (Wr.b key (text.take 8) (text.drop 8) (6 * n) (n * o + (n - c))) (Wr.no (6 * n - (n * o + (n - c))))) ++ ((Wr.c key (text.take 8) (text.drop 8) (6 * n) (n * o + (n - c))).drop ((Wr.c key (text.take 8) (text.drop 8) (6 * n) (n * o + (n - c))).length - 8))))), .int .i64 0]) rfl rfl)) ?_
          refine wpList_nil ?_
          refine then_n ⟨fun hD => absurd hD (by decide), ?_⟩
          refine d_two 15 16 (by kernel_rfl) rfl rfl ?_ ?_
          · skip
            refine w_val (v := .string (str (Aes.dec (Aes.words key) ((Oct.xor (Wr.b key (text.take 8) (text.drop 8) (6 * n) (n * o + (n - c))) (Wr.no (6 * n - (n * o + (n - c))))) ++ ((Wr.c key (text.take 8) (text.drop 8) (6 * n) (n * o + (n - c))).drop ((Wr.c key (text.take 8) (text.drop 8) (6 * n) (n * o + (n - c))).length - 8)))))) (y_ext (v := .string (str (Aes.dec (Aes.words key) ((Oct.xor (Wr.b key (text.take 8) (text.drop 8) (6 * n) (n * o + (n - c))) (Wr.no (6 * n - (n * o + (n - c))))) ++ ((Wr.c key (text.take 8) (text.drop 8) (6 * n) (n * o + (n - c))).drop ((Wr.c key (text.take 8) (text.drop 8) (6 * n) (n * o + (n - c))).length - 8)))))) (Ev.t (v := .tuple #[.string (str (Aes.dec (Aes.words key) ((Oct.xor (Wr.b key (text.take 8) (text.drop 8) (6 * n) (n * o + (n - c))) (Wr.no (6 * n - (n * o + (n - c))))) ++ ((Wr.c key (text.take 8) (text.drop 8) (6 * n) (n * o + (n - c))).drop ((Wr.c key (text.take 8) (text.drop 8) (6 * n) (n * o + (n - c))).length - 8))))), .int .i64 0]) rfl rfl) rfl) ?_
            refine wpList_nil ?_
            refine then_n ⟨fun hD => absurd hD (by decide), ?_⟩
            refine d_two 16 17 (by kernel_rfl) rfl rfl ?_ ?_
            · skip
              refine w_val (v := .int .i64 0) (y_ext (v := .int .i64 0) (Ev.t (v := .tuple #[.string (str (Aes.dec (Aes.words key) ((Oct.xor (Wr.b key (text.take 8) (text.drop 8) (6 * n) (n * o + (n - c))) (Wr.no (6 * n - (n * o + (n - c))))) ++ ((Wr.c key (text.take 8) (text.drop 8) (6 * n) (n * o + (n - c))).drop ((Wr.c key (text.take 8) (text.drop 8) (6 * n) (n * o + (n - c))).length - 8))))), .int .i64 0]) rfl rfl) rfl) ?_
              refine wpList_nil ?_
              refine then_n ⟨fun hD => absurd hD (by decide), ?_⟩
              refine d_one 17 (by kernel_rfl) rfl ?_
              refine w_val (v := .string (str (Aes.dec (Aes.words key) ((Oct.xor (Wr.b key (text.take 8) (text.drop 8) (6 * n) (n * o + (n - c))) (Wr.no (6 * n - (n * o + (n - c))))) ++ ((Wr.c key (text.take 8) (text.drop 8) (6 * n) (n * o + (n - c))).drop ((Wr.c key (text.take 8) (text.drop 8) (6 * n) (n * o + (n - c))).length - 8)))))) (y_as (Ev.t (v := .string (str (Aes.dec (Aes.words key) ((Oct.xor (Wr.b key (text.take 8) (text.drop 8) (6 * n) (n * o + (n - c))) (Wr.no (6 * n - (n * o + (n - c))))) ++ ((Wr.c key (text.take 8) (text.drop 8) (6 * n) (n * o + (n - c))).drop ((Wr.c key (text.take 8) (text.drop 8) (6 * n) (n * o + (n - c))).length - 8)))))) rfl rfl)) ?_
              refine wpList_nil ?_
              refine then_n ⟨fun hD => absurd hD (by decide), ?_⟩
              refine d_one 18 (by kernel_rfl) rfl ?_
              refine w_val (v := .int .i64 0) (y_as (Ev.t (v := .int .i64 0) rfl rfl)) ?_
              refine wpList_nil ?_
              refine then_n ⟨fun hD => absurd hD (by decide), ?_⟩
              refine d_done (by kernel_rfl) ?_
              refine then_n ?_
              refine wp_seq ?_
              refine wp_region_lit ?_
              refine w_val (v := .string (str (Aes.dec (Aes.words key) ((Oct.xor (Wr.b key (text.take 8) (text.drop 8) (6 * n) (n * o + (n - c))) (Wr.no (6 * n - (n * o + (n - c))))) ++ ((Wr.c key (text.take 8) (text.drop 8) (6 * n) (n * o + (n - c))).drop ((Wr.c key (text.take 8) (text.drop 8) (6 * n) (n * o + (n - c))).length - 8)))))) (y_mv (Ev.t (v := .string (str (Aes.dec (Aes.words key) ((Oct.xor (Wr.b key (text.take 8) (text.drop 8) (6 * n) (n * o + (n - c))) (Wr.no (6 * n - (n * o + (n - c))))) ++ ((Wr.c key (text.take 8) (text.drop 8) (6 * n) (n * o + (n - c))).drop ((Wr.c key (text.take 8) (text.drop 8) (6 * n) (n * o + (n - c))).length - 8)))))) rfl rfl)) ?_
              refine w_val (v := .string (str ((Aes.dec (Aes.words key) ((Oct.xor (Wr.b key (text.take 8) (text.drop 8) (6 * n) (n * o + (n - c))) (Wr.no (6 * n - (n * o + (n - c))))) ++ ((Wr.c key (text.take 8) (text.drop 8) (6 * n) (n * o + (n - c))).drop ((Wr.c key (text.take 8) (text.drop 8) (6 * n) (n * o + (n - c))).length - 8)))).take 8))) (y_sls (Ev.t (v := .string (str (Aes.dec (Aes.words key) ((Oct.xor (Wr.b key (text.take 8) (text.drop 8) (6 * n) (n * o + (n - c))) (Wr.no (6 * n - (n * o + (n - c))))) ++ ((Wr.c key (text.take 8) (text.drop 8) (6 * n) (n * o + (n - c))).drop ((Wr.c key (text.take 8) (text.drop 8) (6 * n) (n * o + (n - c))).length - 8)))))) rfl rfl) evo.no (evo.s (Ev.c (v := .int .i64 8))) Try.underlying9 (bnd_h (h := 8) (by omega) (by (try simp only [hle, hr8]); omega))) ?_
              refine w_val (v := .string (str ((Aes.dec (Aes.words key) ((Oct.xor (Wr.b key (text.take 8) (text.drop 8) (6 * n) (n * o + (n - c))) (Wr.no (6 * n - (n * o + (n - c))))) ++ ((Wr.c key (text.take 8) (text.drop 8) (6 * n) (n * o + (n - c))).drop ((Wr.c key (text.take 8) (text.drop 8) (6 * n) (n * o + (n - c))).length - 8)))).take 8))) (y_as (Ev.t (v := .string (str ((Aes.dec (Aes.words key) ((Oct.xor (Wr.b key (text.take 8) (text.drop 8) (6 * n) (n * o + (n - c))) (Wr.no (6 * n - (n * o + (n - c))))) ++ ((Wr.c key (text.take 8) (text.drop 8) (6 * n) (n * o + (n - c))).drop ((Wr.c key (text.take 8) (text.drop 8) (6 * n) (n * o + (n - c))).length - 8)))).take 8))) rfl rfl)) ?_
              refine wpList_nil ?_
              refine then_n ?_
              refine wp_region_lit ?_
              refine w_val (v := .slice (some ⟨b_43, (8 * (c - 1)), none⟩) (((8 * (c - 1)) + 8) - (8 * (c - 1))) (cap_b_43 - (8 * (c - 1)))) (y_mv (Ev.t (v := .slice (some ⟨b_43, (8 * (c - 1)), none⟩) (((8 * (c - 1)) + 8) - (8 * (c - 1))) (cap_b_43 - (8 * (c - 1)))) rfl rfl)) ?_
              refine w_val (v := .string (str (Aes.dec (Aes.words key) ((Oct.xor (Wr.b key (text.take 8) (text.drop 8) (6 * n) (n * o + (n - c))) (Wr.no (6 * n - (n * o + (n - c))))) ++ ((Wr.c key (text.take 8) (text.drop 8) (6 * n) (n * o + (n - c))).drop ((Wr.c key (text.take 8) (text.drop 8) (6 * n) (n * o + (n - c))).length - 8)))))) (y_mv (Ev.t (v := .string (str (Aes.dec (Aes.words key) ((Oct.xor (Wr.b key (text.take 8) (text.drop 8) (6 * n) (n * o + (n - c))) (Wr.no (6 * n - (n * o + (n - c))))) ++ ((Wr.c key (text.take 8) (text.drop 8) (6 * n) (n * o + (n - c))).drop ((Wr.c key (text.take 8) (text.drop 8) (6 * n) (n * o + (n - c))).length - 8)))))) rfl rfl)) ?_
              refine w_val (v := .string (str ((Aes.dec (Aes.words key) ((Oct.xor (Wr.b key (text.take 8) (text.drop 8) (6 * n) (n * o + (n - c))) (Wr.no (6 * n - (n * o + (n - c))))) ++ ((Wr.c key (text.take 8) (text.drop 8) (6 * n) (n * o + (n - c))).drop ((Wr.c key (text.take 8) (text.drop 8) (6 * n) (n * o + (n - c))).length - 8)))).drop 8))) (y_slf (Ev.t (v := .string (str (Aes.dec (Aes.words key) ((Oct.xor (Wr.b key (text.take 8) (text.drop 8) (6 * n) (n * o + (n - c))) (Wr.no (6 * n - (n * o + (n - c))))) ++ ((Wr.c key (text.take 8) (text.drop 8) (6 * n) (n * o + (n - c))).drop ((Wr.c key (text.take 8) (text.drop 8) (6 * n) (n * o + (n - c))).length - 8)))))) rfl rfl) (evo.s (Ev.c (v := .int .i64 8))) Try.underlying9 (bnd_l (l := 8) (by omega) (by (try simp only [hle, hr8]); omega))) ?_
              have hx_hc := CiphAt.onward hc r_b_43 (by decide) (by decide)
              refine w_copys (l := (Aes.dec (Aes.words key) ((Oct.xor (Wr.b key (text.take 8) (text.drop 8) (6 * n) (n * o + (n - c))) (Wr.no (6 * n - (n * o + (n - c))))) ++ ((Wr.c key (text.take 8) (text.drop 8) (6 * n) (n * o + (n - c))).drop ((Wr.c key (text.take 8) (text.drop 8) (6 * n) (n * o + (n - c))).length - 8)))).drop 8) (Ev.t (v := .slice (some ⟨b_43, (8 * (c - 1)), none⟩) (((8 * (c - 1)) + 8) - (8 * (c - 1))) (cap_b_43 - (8 * (c - 1)))) rfl rfl) (Ev.t (v := .string (str ((Aes.dec (Aes.words key) ((Oct.xor (Wr.b key (text.take 8) (text.drop 8) (6 * n) (n * o + (n - c))) (Wr.no (6 * n - (n * o + (n - c))))) ++ ((Wr.c key (text.take 8) (text.drop 8) (6 * n) (n * o + (n - c))).drop ((Wr.c key (text.take 8) (text.drop 8) (6 * n) (n * o + (n - c))).length - 8)))).drop 8))) rfl rfl) Try.underlying47 WrapWT.sz5 r_b_43 (by omega) ?_
              clear r_b_43; intro w22 r_b_43 hg23 _
              replace hk := thenG hk hg23 (by omega)
              replace hc := hx_hc _ hg23
              refine wpList_nil ?_
              refine inb_n ?_
              refine then_n ?_
              refine wp_region_lit ?_
              refine w_val (v := .int .i64 (((c : Nat) : Int) - 1)) (y_mv (Ev.t (v := .int .i64 (((c : Nat) : Int) - 1)) s2_13 rfl)) ?_
              refine w_val (v := .int .i64 ((((c : Nat) : Int) - 1) - 1)) (y_bin (Ev.t (v := .int .i64 (((c : Nat) : Int) - 1)) rfl rfl) (Ev.c (v := .int .i64 1)) (b_sub (by omega))) ?_
              refine w_val (v := .int .i64 ((((c : Nat) : Int) - 1) - 1)) (y_as (Ev.t (v := .int .i64 ((((c : Nat) : Int) - 1) - 1)) rfl rfl)) ?_
              refine wpList_nil ?_
              exact then_n ⟨_, (by omega), c - 1, rfl, _, rfl, (by first | omega | with_reducible rfl | assumption | trivial | simp), s2_0, s2_1, s2_4, s2_5, s2_6, s2_7, s2_8, (Eq.trans (b := .string (str ((Aes.dec (Aes.words key) ((Oct.xor (Wr.b key (text.take 8) (text.drop 8) (6 * n) (n * o + (n - c))) (Wr.no (6 * n - (n * o + (n - c))))) ++ ((Wr.c key (text.take 8) (text.drop 8) (6 * n) (n * o + (n - c))).drop ((Wr.c key (text.take 8) (text.drop 8) (6 * n) (n * o + (n - c))).length - 8)))).take 8))) rfl (by rw [show n * o + (n - (c - 1)) = (n * o + (n - c)) + 1 from by omega, Wr.b_succ])), s2_10, s2_11, s2_12, (Eq.trans (b := .int .i64 ((((c : Nat) : Int) - 1) - 1)) rfl (by congr 1; omega)), (r_b_43.congr (fun j hj => by exact Wr.back_step' key (text.take 8) (text.drop 8) (6 * n) n (n * o + (n - c)) _ c j _ hr8 (by omega) (by omega) (by omega) (by omega) (by omega))), hc, hk⟩
            · skip
              refine w_val (v := .string (str (Aes.dec (Aes.words key) ((Oct.xor (Wr.b key (text.take 8) (text.drop 8) (6 * n) (n * o + (n - c))) (Wr.no (6 * n - (n * o + (n - c))))) ++ ((Wr.c key (text.take 8) (text.drop 8) (6 * n) (n * o + (n - c))).drop ((Wr.c key (text.take 8) (text.drop 8) (6 * n) (n * o + (n - c))).length - 8)))))) (y_as (Ev.t (v := .string (str (Aes.dec (Aes.words key) ((Oct.xor (Wr.b key (text.take 8) (text.drop 8) (6 * n) (n * o + (n - c))) (Wr.no (6 * n - (n * o + (n - c))))) ++ ((Wr.c key (text.take 8) (text.drop 8) (6 * n) (n * o + (n - c))).drop ((Wr.c key (text.take 8) (text.drop 8) (6 * n) (n * o + (n - c))).length - 8)))))) rfl rfl)) ?_
              refine wpList_nil ?_
              refine then_n ⟨fun hD => absurd hD (by decide), ?_⟩
              refine d_one 16 (by kernel_rfl) rfl ?_
              refine w_val (v := .int .i64 0) (y_ext (v := .int .i64 0) (Ev.t (v := .tuple #[.string (str (Aes.dec (Aes.words key) ((Oct.xor (Wr.b key (text.take 8) (text.drop 8) (6 * n) (n * o + (n - c))) (Wr.no (6 * n - (n * o + (n - c))))) ++ ((Wr.c key (text.take 8) (text.drop 8) (6 * n) (n * o + (n - c))).drop ((Wr.c key (text.take 8) (text.drop 8) (6 * n) (n * o + (n - c))).length - 8))))), .int .i64 0]) rfl rfl) rfl) ?_
              refine wpList_nil ?_
              refine then_n ⟨fun hD => absurd hD (by decide), ?_⟩
              refine d_one 18 (by kernel_rfl) rfl ?_
              refine w_val (v := .int .i64 0) (y_as (Ev.t (v := .int .i64 0) rfl rfl)) ?_
              refine wpList_nil ?_
              refine then_n ⟨fun hD => absurd hD (by decide), ?_⟩
              refine d_done (by kernel_rfl) ?_
              refine then_n ?_
              refine wp_seq ?_
              refine wp_region_lit ?_
              refine w_val (v := .string (str (Aes.dec (Aes.words key) ((Oct.xor (Wr.b key (text.take 8) (text.drop 8) (6 * n) (n * o + (n - c))) (Wr.no (6 * n - (n * o + (n - c))))) ++ ((Wr.c key (text.take 8) (text.drop 8) (6 * n) (n * o + (n - c))).drop ((Wr.c key (text.take 8) (text.drop 8) (6 * n) (n * o + (n - c))).length - 8)))))) (y_mv (Ev.t (v := .string (str (Aes.dec (Aes.words key) ((Oct.xor (Wr.b key (text.take 8) (text.drop 8) (6 * n) (n * o + (n - c))) (Wr.no (6 * n - (n * o + (n - c))))) ++ ((Wr.c key (text.take 8) (text.drop 8) (6 * n) (n * o + (n - c))).drop ((Wr.c key (text.take 8) (text.drop 8) (6 * n) (n * o + (n - c))).length - 8)))))) rfl rfl)) ?_
              refine w_val (v := .string (str ((Aes.dec (Aes.words key) ((Oct.xor (Wr.b key (text.take 8) (text.drop 8) (6 * n) (n * o + (n - c))) (Wr.no (6 * n - (n * o + (n - c))))) ++ ((Wr.c key (text.take 8) (text.drop 8) (6 * n) (n * o + (n - c))).drop ((Wr.c key (text.take 8) (text.drop 8) (6 * n) (n * o + (n - c))).length - 8)))).take 8))) (y_sls (Ev.t (v := .string (str (Aes.dec (Aes.words key) ((Oct.xor (Wr.b key (text.take 8) (text.drop 8) (6 * n) (n * o + (n - c))) (Wr.no (6 * n - (n * o + (n - c))))) ++ ((Wr.c key (text.take 8) (text.drop 8) (6 * n) (n * o + (n - c))).drop ((Wr.c key (text.take 8) (text.drop 8) (6 * n) (n * o + (n - c))).length - 8)))))) rfl rfl) evo.no (evo.s (Ev.c (v := .int .i64 8))) Try.underlying9 (bnd_h (h := 8) (by omega) (by (try simp only [hle, hr8]); omega))) ?_
              refine w_val (v := .string (str ((Aes.dec (Aes.words key) ((Oct.xor (Wr.b key (text.take 8) (text.drop 8) (6 * n) (n * o + (n - c))) (Wr.no (6 * n - (n * o + (n - c))))) ++ ((Wr.c key (text.take 8) (text.drop 8) (6 * n) (n * o + (n - c))).drop ((Wr.c key (text.take 8) (text.drop 8) (6 * n) (n * o + (n - c))).length - 8)))).take 8))) (y_as (Ev.t (v := .string (str ((Aes.dec (Aes.words key) ((Oct.xor (Wr.b key (text.take 8) (text.drop 8) (6 * n) (n * o + (n - c))) (Wr.no (6 * n - (n * o + (n - c))))) ++ ((Wr.c key (text.take 8) (text.drop 8) (6 * n) (n * o + (n - c))).drop ((Wr.c key (text.take 8) (text.drop 8) (6 * n) (n * o + (n - c))).length - 8)))).take 8))) rfl rfl)) ?_
              refine wpList_nil ?_
              refine then_n ?_
              refine wp_region_lit ?_
              refine w_val (v := .slice (some ⟨b_43, (8 * (c - 1)), none⟩) (((8 * (c - 1)) + 8) - (8 * (c - 1))) (cap_b_43 - (8 * (c - 1)))) (y_mv (Ev.t (v := .slice (some ⟨b_43, (8 * (c - 1)), none⟩) (((8 * (c - 1)) + 8) - (8 * (c - 1))) (cap_b_43 - (8 * (c - 1)))) rfl rfl)) ?_
              refine w_val (v := .string (str (Aes.dec (Aes.words key) ((Oct.xor (Wr.b key (text.take 8) (text.drop 8) (6 * n) (n * o + (n - c))) (Wr.no (6 * n - (n * o + (n - c))))) ++ ((Wr.c key (text.take 8) (text.drop 8) (6 * n) (n * o + (n - c))).drop ((Wr.c key (text.take 8) (text.drop 8) (6 * n) (n * o + (n - c))).length - 8)))))) (y_mv (Ev.t (v := .string (str (Aes.dec (Aes.words key) ((Oct.xor (Wr.b key (text.take 8) (text.drop 8) (6 * n) (n * o + (n - c))) (Wr.no (6 * n - (n * o + (n - c))))) ++ ((Wr.c key (text.take 8) (text.drop 8) (6 * n) (n * o + (n - c))).drop ((Wr.c key (text.take 8) (text.drop 8) (6 * n) (n * o + (n - c))).length - 8)))))) rfl rfl)) ?_
              refine w_val (v := .string (str ((Aes.dec (Aes.words key) ((Oct.xor (Wr.b key (text.take 8) (text.drop 8) (6 * n) (n * o + (n - c))) (Wr.no (6 * n - (n * o + (n - c))))) ++ ((Wr.c key (text.take 8) (text.drop 8) (6 * n) (n * o + (n - c))).drop ((Wr.c key (text.take 8) (text.drop 8) (6 * n) (n * o + (n - c))).length - 8)))).drop 8))) (y_slf (Ev.t (v := .string (str (Aes.dec (Aes.words key) ((Oct.xor (Wr.b key (text.take 8) (text.drop 8) (6 * n) (n * o + (n - c))) (Wr.no (6 * n - (n * o + (n - c))))) ++ ((Wr.c key (text.take 8) (text.drop 8) (6 * n) (n * o + (n - c))).drop ((Wr.c key (text.take 8) (text.drop 8) (6 * n) (n * o + (n - c))).length - 8)))))) rfl rfl) (evo.s (Ev.c (v := .int .i64 8))) Try.underlying9 (bnd_l (l := 8) (by omega) (by (try simp only [hle, hr8]); omega))) ?_
              have hx_hc := CiphAt.onward hc r_b_43 (by decide) (by decide)
              refine w_copys (l := (Aes.dec (Aes.words key) ((Oct.xor (Wr.b key (text.take 8) (text.drop 8) (6 * n) (n * o + (n - c))) (Wr.no (6 * n - (n * o + (n - c))))) ++ ((Wr.c key (text.take 8) (text.drop 8) (6 * n) (n * o + (n - c))).drop ((Wr.c key (text.take 8) (text.drop 8) (6 * n) (n * o + (n - c))).length - 8)))).drop 8) (Ev.t (v := .slice (some ⟨b_43, (8 * (c - 1)), none⟩) (((8 * (c - 1)) + 8) - (8 * (c - 1))) (cap_b_43 - (8 * (c - 1)))) rfl rfl) (Ev.t (v := .string (str ((Aes.dec (Aes.words key) ((Oct.xor (Wr.b key (text.take 8) (text.drop 8) (6 * n) (n * o + (n - c))) (Wr.no (6 * n - (n * o + (n - c))))) ++ ((Wr.c key (text.take 8) (text.drop 8) (6 * n) (n * o + (n - c))).drop ((Wr.c key (text.take 8) (text.drop 8) (6 * n) (n * o + (n - c))).length - 8)))).drop 8))) rfl rfl) Try.underlying47 WrapWT.sz5 r_b_43 (by omega) ?_
              clear r_b_43; intro w24 r_b_43 hg25 _
              replace hk := thenG hk hg25 (by omega)
              replace hc := hx_hc _ hg25
              refine wpList_nil ?_
              refine inb_n ?_
              refine then_n ?_
              refine wp_region_lit ?_
              refine w_val (v := .int .i64 (((c : Nat) : Int) - 1)) (y_mv (Ev.t (v := .int .i64 (((c : Nat) : Int) - 1)) s2_13 rfl)) ?_
              refine w_val (v := .int .i64 ((((c : Nat) : Int) - 1) - 1)) (y_bin (Ev.t (v := .int .i64 (((c : Nat) : Int) - 1)) rfl rfl) (Ev.c (v := .int .i64 1)) (b_sub (by omega))) ?_
              refine w_val (v := .int .i64 ((((c : Nat) : Int) - 1) - 1)) (y_as (Ev.t (v := .int .i64 ((((c : Nat) : Int) - 1) - 1)) rfl rfl)) ?_
              refine wpList_nil ?_
              exact then_n ⟨_, (by omega), c - 1, rfl, _, rfl, (by first | omega | with_reducible rfl | assumption | trivial | simp), s2_0, s2_1, s2_4, s2_5, s2_6, s2_7, s2_8, (Eq.trans (b := .string (str ((Aes.dec (Aes.words key) ((Oct.xor (Wr.b key (text.take 8) (text.drop 8) (6 * n) (n * o + (n - c))) (Wr.no (6 * n - (n * o + (n - c))))) ++ ((Wr.c key (text.take 8) (text.drop 8) (6 * n) (n * o + (n - c))).drop ((Wr.c key (text.take 8) (text.drop 8) (6 * n) (n * o + (n - c))).length - 8)))).take 8))) rfl (by rw [show n * o + (n - (c - 1)) = (n * o + (n - c)) + 1 from by omega, Wr.b_succ])), s2_10, s2_11, s2_12, (Eq.trans (b := .int .i64 ((((c : Nat) : Int) - 1) - 1)) rfl (by congr 1; omega)), (r_b_43.congr (fun j hj => by exact Wr.back_step' key (text.take 8) (text.drop 8) (6 * n) n (n * o + (n - c)) _ c j _ hr8 (by omega) (by omega) (by omega) (by omega) (by omega))), hc, hk⟩
          · skip
            refine w_val (v := .int .i64 0) (y_ext (v := .int .i64 0) (Ev.t (v := .tuple #[.string (str (Aes.dec (Aes.words key) ((Oct.xor (Wr.b key (text.take 8) (text.drop 8) (6 * n) (n * o + (n - c))) (Wr.no (6 * n - (n * o + (n - c))))) ++ ((Wr.c key (text.take 8) (text.drop 8) (6 * n) (n * o + (n - c))).drop ((Wr.c key (text.take 8) (text.drop 8) (6 * n) (n * o + (n - c))).length - 8))))), .int .i64 0]) rfl rfl) rfl) ?_
            refine wpList_nil ?_
            refine then_n ⟨fun hD => absurd hD (by decide), ?_⟩
            refine d_one 15 (by kernel_rfl) rfl ?_
            refine w_val (v := .string (str (Aes.dec (Aes.words key) ((Oct.xor (Wr.b key (text.take 8) (text.drop 8) (6 * n) (n * o + (n - c))) (Wr.no (6 * n - (n * o + (n - c))))) ++ ((Wr.c key (text.take 8) (text.drop 8) (6 * n) (n * o + (n - c))).drop ((Wr.c key (text.take 8) (text.drop 8) (6 * n) (n * o + (n - c))).length - 8)))))) (y_ext (v := .string (str (Aes.dec (Aes.words key) ((Oct.xor (Wr.b key (text.take 8) (text.drop 8) (6 * n) (n * o + (n - c))) (Wr.no (6 * n - (n * o + (n - c))))) ++ ((Wr.c key (text.take 8) (text.drop 8) (6 * n) (n * o + (n - c))).drop ((Wr.c key (text.take 8) (text.drop 8) (6 * n) (n * o + (n - c))).length - 8)))))) (Ev.t (v := .tuple #[.string (str (Aes.dec (Aes.words key) ((Oct.xor (Wr.b key (text.take 8) (text.drop 8) (6 * n) (n * o + (n - c))) (Wr.no (6 * n - (n * o + (n - c))))) ++ ((Wr.c key (text.take 8) (text.drop 8) (6 * n) (n * o + (n - c))).drop ((Wr.c key (text.take 8) (text.drop 8) (6 * n) (n * o + (n - c))).length - 8))))), .int .i64 0]) rfl rfl) rfl) ?_
            refine wpList_nil ?_
            refine then_n ⟨fun hD => absurd hD (by decide), ?_⟩
            refine d_one 17 (by kernel_rfl) rfl ?_
            refine w_val (v := .string (str (Aes.dec (Aes.words key) ((Oct.xor (Wr.b key (text.take 8) (text.drop 8) (6 * n) (n * o + (n - c))) (Wr.no (6 * n - (n * o + (n - c))))) ++ ((Wr.c key (text.take 8) (text.drop 8) (6 * n) (n * o + (n - c))).drop ((Wr.c key (text.take 8) (text.drop 8) (6 * n) (n * o + (n - c))).length - 8)))))) (y_as (Ev.t (v := .string (str (Aes.dec (Aes.words key) ((Oct.xor (Wr.b key (text.take 8) (text.drop 8) (6 * n) (n * o + (n - c))) (Wr.no (6 * n - (n * o + (n - c))))) ++ ((Wr.c key (text.take 8) (text.drop 8) (6 * n) (n * o + (n - c))).drop ((Wr.c key (text.take 8) (text.drop 8) (6 * n) (n * o + (n - c))).length - 8)))))) rfl rfl)) ?_
            refine wpList_nil ?_
            refine then_n ⟨fun hD => absurd hD (by decide), ?_⟩
            refine d_one 18 (by kernel_rfl) rfl ?_
            refine w_val (v := .int .i64 0) (y_as (Ev.t (v := .int .i64 0) rfl rfl)) ?_
            refine wpList_nil ?_
            refine then_n ⟨fun hD => absurd hD (by decide), ?_⟩
            refine d_done (by kernel_rfl) ?_
            refine then_n ?_
            refine wp_seq ?_
            refine wp_region_lit ?_
            refine w_val (v := .string (str (Aes.dec (Aes.words key) ((Oct.xor (Wr.b key (text.take 8) (text.drop 8) (6 * n) (n * o + (n - c))) (Wr.no (6 * n - (n * o + (n - c))))) ++ ((Wr.c key (text.take 8) (text.drop 8) (6 * n) (n * o + (n - c))).drop ((Wr.c key (text.take 8) (text.drop 8) (6 * n) (n * o + (n - c))).length - 8)))))) (y_mv (Ev.t (v := .string (str (Aes.dec (Aes.words key) ((Oct.xor (Wr.b key (text.take 8) (text.drop 8) (6 * n) (n * o + (n - c))) (Wr.no (6 * n - (n * o + (n - c))))) ++ ((Wr.c key (text.take 8) (text.drop 8) (6 * n) (n * o + (n - c))).drop ((Wr.c key (text.take 8) (text.drop 8) (6 * n) (n * o + (n - c))).length - 8)))))) rfl rfl)) ?_
            refine w_val (v := .string (str ((Aes.dec (Aes.words key) ((Oct.xor (Wr.b key (text.take 8) (text.drop 8) (6 * n) (n * o + (n - c))) (Wr.no (6 * n - (n * o + (n - c))))) ++ ((Wr.c key (text.take 8) (text.drop 8) (6 * n) (n * o + (n - c))).drop ((Wr.c key (text.take 8) (text.drop 8) (6 * n) (n * o + (n - c))).length - 8)))).take 8))) (y_sls (Ev.t (v := .string (str (Aes.dec (Aes.words key) ((Oct.xor (Wr.b key (text.take 8) (text.drop 8) (6 * n) (n * o + (n - c))) (Wr.no (6 * n - (n * o + (n - c))))) ++ ((Wr.c key (text.take 8) (text.drop 8) (6 * n) (n * o + (n - c))).drop ((Wr.c key (text.take 8) (text.drop 8) (6 * n) (n * o + (n - c))).length - 8)))))) rfl rfl) evo.no (evo.s (Ev.c (v := .int .i64 8))) Try.underlying9 (bnd_h (h := 8) (by omega) (by (try simp only [hle, hr8]); omega))) ?_
            refine w_val (v := .string (str ((Aes.dec (Aes.words key) ((Oct.xor (Wr.b key (text.take 8) (text.drop 8) (6 * n) (n * o + (n - c))) (Wr.no (6 * n - (n * o + (n - c))))) ++ ((Wr.c key (text.take 8) (text.drop 8) (6 * n) (n * o + (n - c))).drop ((Wr.c key (text.take 8) (text.drop 8) (6 * n) (n * o + (n - c))).length - 8)))).take 8))) (y_as (Ev.t (v := .string (str ((Aes.dec (Aes.words key) ((Oct.xor (Wr.b key (text.take 8) (text.drop 8) (6 * n) (n * o + (n - c))) (Wr.no (6 * n - (n * o + (n - c))))) ++ ((Wr.c key (text.take 8) (text.drop 8) (6 * n) (n * o + (n - c))).drop ((Wr.c key (text.take 8) (text.drop 8) (6 * n) (n * o + (n - c))).length - 8)))).take 8))) rfl rfl)) ?_
            refine wpList_nil ?_
            refine then_n ?_
            refine wp_region_lit ?_
            refine w_val (v := .slice (some ⟨b_43, (8 * (c - 1)), none⟩) (((8 * (c - 1)) + 8) - (8 * (c - 1))) (cap_b_43 - (8 * (c - 1)))) (y_mv (Ev.t (v := .slice (some ⟨b_43, (8 * (c - 1)), none⟩) (((8 * (c - 1)) + 8) - (8 * (c - 1))) (cap_b_43 - (8 * (c - 1)))) rfl rfl)) ?_
            refine w_val (v := .string (str (Aes.dec (Aes.words key) ((Oct.xor (Wr.b key (text.take 8) (text.drop 8) (6 * n) (n * o + (n - c))) (Wr.no (6 * n - (n * o + (n - c))))) ++ ((Wr.c key (text.take 8) (text.drop 8) (6 * n) (n * o + (n - c))).drop ((Wr.c key (text.take 8) (text.drop 8) (6 * n) (n * o + (n - c))).length - 8)))))) (y_mv (Ev.t (v := .string (str (Aes.dec (Aes.words key) ((Oct.xor (Wr.b key (text.take 8) (text.drop 8) (6 * n) (n * o + (n - c))) (Wr.no (6 * n - (n * o + (n - c))))) ++ ((Wr.c key (text.take 8) (text.drop 8) (6 * n) (n * o + (n - c))).drop ((Wr.c key (text.take 8) (text.drop 8) (6 * n) (n * o + (n - c))).length - 8)))))) rfl rfl)) ?_
            refine w_val (v := .string (str ((Aes.dec (Aes.words key) ((Oct.xor (Wr.b key (text.take 8) (text.drop 8) (6 * n) (n * o + (n - c))) (Wr.no (6 * n - (n * o + (n - c))))) ++ ((Wr.c key (text.take 8) (text.drop 8) (6 * n) (n * o + (n - c))).drop ((Wr.c key (text.take 8) (text.drop 8) (6 * n) (n * o + (n - c))).length - 8)))).drop 8))) (y_slf (Ev.t (v := .string (str (Aes.dec (Aes.words key) ((Oct.xor (Wr.b key (text.take 8) (text.drop 8) (6 * n) (n * o + (n - c))) (Wr.no (6 * n - (n * o + (n - c))))) ++ ((Wr.c key (text.take 8) (text.drop 8) (6 * n) (n * o + (n - c))).drop ((Wr.c key (text.take 8) (text.drop 8) (6 * n) (n * o + (n - c))).length - 8)))))) rfl rfl) (evo.s (Ev.c (v := .int .i64 8))) Try.underlying9 (bnd_l (l := 8) (by omega) (by (try simp only [hle, hr8]); omega))) ?_
            have hx_hc := CiphAt.onward hc r_b_43 (by decide) (by decide)
            refine w_copys (l := (Aes.dec (Aes.words key) ((Oct.xor (Wr.b key (text.take 8) (text.drop 8) (6 * n) (n * o + (n - c))) (Wr.no (6 * n - (n * o + (n - c))))) ++ ((Wr.c key (text.take 8) (text.drop 8) (6 * n) (n * o + (n - c))).drop ((Wr.c key (text.take 8) (text.drop 8) (6 * n) (n * o + (n - c))).length - 8)))).drop 8) (Ev.t (v := .slice (some ⟨b_43, (8 * (c - 1)), none⟩) (((8 * (c - 1)) + 8) - (8 * (c - 1))) (cap_b_43 - (8 * (c - 1)))) rfl rfl) (Ev.t (v := .string (str ((Aes.dec (Aes.words key) ((Oct.xor (Wr.b key (text.take 8) (text.drop 8) (6 * n) (n * o + (n - c))) (Wr.no (6 * n - (n * o + (n - c))))) ++ ((Wr.c key (text.take 8) (text.drop 8) (6 * n) (n * o + (n - c))).drop ((Wr.c key (text.take 8) (text.drop 8) (6 * n) (n * o + (n - c))).length - 8)))).drop 8))) rfl rfl) Try.underlying47 WrapWT.sz5 r_b_43 (by omega) ?_
            clear r_b_43; intro w26 r_b_43 hg27 _
            replace hk := thenG hk hg27 (by omega)
            replace hc := hx_hc _ hg27
            refine wpList_nil ?_
            refine inb_n ?_
            refine then_n ?_
            refine wp_region_lit ?_
            refine w_val (v := .int .i64 (((c : Nat) : Int) - 1)) (y_mv (Ev.t (v := .int .i64 (((c : Nat) : Int) - 1)) s2_13 rfl)) ?_
            refine w_val (v := .int .i64 ((((c : Nat) : Int) - 1) - 1)) (y_bin (Ev.t (v := .int .i64 (((c : Nat) : Int) - 1)) rfl rfl) (Ev.c (v := .int .i64 1)) (b_sub (by omega))) ?_
            refine w_val (v := .int .i64 ((((c : Nat) : Int) - 1) - 1)) (y_as (Ev.t (v := .int .i64 ((((c : Nat) : Int) - 1) - 1)) rfl rfl)) ?_
            refine wpList_nil ?_
            exact then_n ⟨_, (by omega), c - 1, rfl, _, rfl, (by first | omega | with_reducible rfl | assumption | trivial | simp), s2_0, s2_1, s2_4, s2_5, s2_6, s2_7, s2_8, (Eq.trans (b := .string (str ((Aes.dec (Aes.words key) ((Oct.xor (Wr.b key (text.take 8) (text.drop 8) (6 * n) (n * o + (n - c))) (Wr.no (6 * n - (n * o + (n - c))))) ++ ((Wr.c key (text.take 8) (text.drop 8) (6 * n) (n * o + (n - c))).drop ((Wr.c key (text.take 8) (text.drop 8) (6 * n) (n * o + (n - c))).length - 8)))).take 8))) rfl (by rw [show n * o + (n - (c - 1)) = (n * o + (n - c)) + 1 from by omega, Wr.b_succ])), s2_10, s2_11, s2_12, (Eq.trans (b := .int .i64 ((((c : Nat) : Int) - 1) - 1)) rfl (by congr 1; omega)), (r_b_43.congr (fun j hj => by exact Wr.back_step' key (text.take 8) (text.drop 8) (6 * n) n (n * o + (n - c)) _ c j _ hr8 (by omega) (by omega) (by omega) (by omega) (by omega))), hc, hk⟩
        · skip
          refine wp_exit ?_
          refine then_x ?_
          replace r_b_43 := r_b_43.congr (g := fun j => U8 (gb (Wr.c key (text.take 8) (text.drop 8) (6 * n) (n * (o + 1))) j)) (fun j hj => by (try dsimp only); rw [if_neg (by omega), show n * (o + 1) = n * o + (n - c) from by rw [Nat.mul_succ]; omega]; congr 2; omega)
          refine then_x ?_
          refine inb_x ?_
          refine inb_n ?_
          refine then_n ?_
          refine wp_region_lit ?_
          refine w_val (v := .int .i64 (5 - ((o : Nat) : Int))) (y_mv (Ev.t (v := .int .i64 (5 - ((o : Nat) : Int))) s2_12 rfl)) ?_
          refine w_val (v := .int .i64 ((5 - ((o : Nat) : Int)) - 1)) (y_bin (Ev.t (v := .int .i64 (5 - ((o : Nat) : Int))) rfl rfl) (Ev.c (v := .int .i64 1)) (b_sub (by omega))) ?_
          refine w_val (v := .int .i64 ((5 - ((o : Nat) : Int)) - 1)) (y_as (Ev.t (v := .int .i64 ((5 - ((o : Nat) : Int)) - 1)) rfl rfl)) ?_
          refine wpList_nil ?_
          exact then_n ⟨_, (by omega), o + 1, rfl, _, rfl, (by first | omega | with_reducible rfl | assumption | trivial | simp), s2_0, s2_1, s2_4, s2_5, s2_6, s2_7, s2_8, (by refine Eq.trans (b := .string (str (Wr.b key (text.take 8) (text.drop 8) (6 * n) (n * o + (n - c))))) ?_ ?_; exact s2_9; (rw [show n * (o + 1) = n * o + (n - c) from by rw [Nat.mul_succ]; omega])), s2_10, s2_11, (Eq.trans (b := .int .i64 ((5 - ((o : Nat) : Int)) - 1)) rfl (by congr 1; omega)), r_b_43, hc, hk⟩
    · skip
      refine wp_exit ?_
      refine then_x ?_
      replace r_b_43 := r_b_43.congr (g := fun j => U8 (gb (Wr.c key (text.take 8) (text.drop 8) (6 * n) (6 * n)) j)) (fun j hj => by rw [show o = 6 from by omega, Nat.mul_comm n 6])
      refine then_x ?_
      refine inb_x ?_
      refine then_n ?_
      refine wp_seq ?_
      refine region_q WrapWT.mixed (by kernel_rfl) ?_
      refine q_val (v := .string (str (Wr.b key (text.take 8) (text.drop 8) (6 * n) (n * o)))) (fun w' hw' => y_mv (Ev.t (v := .string (str (Wr.b key (text.take 8) (text.drop 8) (6 * n) (n * o)))) s1_9 rfl)) ?_
      refine q_val (v := .slice (some ⟨b_43, 0, none⟩) ((text.drop 8).length) cap_b_43) (fun w' hw' => y_mv (Ev.t (v := .slice (some ⟨b_43, 0, none⟩) ((text.drop 8).length) cap_b_43) s1_10 rfl)) ?_
      refine q_val (v := .string (str (Wr.c key (text.take 8) (text.drop 8) (6 * n) (6 * n)))) (fun w' hw' => y_str (l := Wr.c key (text.take 8) (text.drop 8) (6 * n) (6 * n)) (Ev.t (v := .slice (some ⟨b_43, 0, none⟩) ((text.drop 8).length) cap_b_43) rfl rfl) (by simp only [hlq]) Try.underlying47 Try.underlying5 Try.underlying9 (fun j hj => (cls_cell (r_b_43.val (by omega) (by rw [Nat.zero_add])) r_b_43.lt w' hw'))) ?_
      refine q_val (v := .string (str (Wr.b key (text.take 8) (text.drop 8) (6 * n) (n * o)))) (fun w' hw' => y_as (Ev.t (v := .string (str (Wr.b key (text.take 8) (text.drop 8) (6 * n) (n * o)))) rfl rfl)) ?_
      refine q_val (v := .string (str (Wr.c key (text.take 8) (text.drop 8) (6 * n) (6 * n)))) (fun w' hw' => y_as (Ev.t (v := .string (str (Wr.c key (text.take 8) (text.drop 8) (6 * n) (6 * n)))) rfl rfl)) ?_
      refine q_val (v := .int .i64 0) (fun w' hw' => y_as (Ev.c (v := .int .i64 0))) ?_
      refine q_nil ?_
      intro w28 hb29
      replace r_b_43 := r_b_43.step hb29
      replace hk := thenB hk hb29
      replace hc := hc.below hb29
      refine then_n ?_
      refine wp_ret ?_
      refine fin_ret3 rfl (Ev.t (v := .string (str (Wr.b key (text.take 8) (text.drop 8) (6 * n) (n * o)))) rfl rfl) (Ev.t (v := .string (str (Wr.c key (text.take 8) (text.drop 8) (6 * n) (6 * n)))) rfl rfl) (Ev.t (v := .int .i64 0) rfl rfl) ?_
      refine ⟨congrArg Ending.returned ?_, hk⟩
      show (.tuple #[.string (str (Wr.b key (text.take 8) (text.drop 8) (6 * n) (n * o))), .string (str (Wr.c key (text.take 8) (text.drop 8) (6 * n) (6 * n))), .int .i64 0] : Value) = .tuple #[.string (str (Wr.b key (text.take 8) (text.drop 8) (6 * n) (6 * n))), .string (str (Wr.c key (text.take 8) (text.drop 8) (6 * n) (6 * n))), .int .i64 0]
      rw [show o = 6 from by omega, Nat.mul_comm n 6]

set_option maxRecDepth 100000 in
set_option maxHeartbeats 1000000 in
theorem refValue_y (key text : List (BitVec 8)) (n : Nat) (hok : Aes.okKey key.length) (hn : text.length = 8 * n + 8) (h2 : 2 ≤ n) (h128 : n ≤ 128) (w0 : World) : Calls Try.prog 17 #[.string (str key), .string (str text)] w0 fun e w' => e = .returned (.tuple #[.string (str (Wr.b key (text.take 8) (text.drop 8) (6 * n) (6 * n))), .string (str (Wr.c key (text.take 8) (text.drop 8) (6 * n) (6 * n))), .int .i64 0]) ∧ Below w0.heap.size w0 w' := by
  have hr8 : (text.drop 8).length = 8 * n := by rw [List.length_drop]; omega
  have hv8 : (text.take 8).length = 8 := by rw [List.length_take]; omega
  have hla := Wr.len_b key (text.take 8) (text.drop 8) hv8 (6 * n)
  have hlq := Wr.len_c key (text.take 8) (text.drop 8) (by omega) (6 * n)
  have hle := fun x => Aes.dec_len key x
  refine enter (n := 67) Try.func17 rfl rfl rfl ?_
  have hk : Below w0.heap.size w0 w0 := Below.refl _ _
  refine wp_seq ?_
  refine wp_region_lit ?_
  refine w_val (v := .string (str ([] : List (BitVec 8)))) (y_as (Ev.c (v := .string (str ([] : List (BitVec 8)))))) ?_
  refine w_val (v := .string (str ([] : List (BitVec 8)))) (y_as (Ev.c (v := .string (str ([] : List (BitVec 8)))))) ?_
  refine w_val (v := .int .i64 0) (y_as (Ev.c (v := .int .i64 0))) ?_
  refine wpList_nil ?_
  refine then_n ?_
  refine wp_seq ?_
  refine wp_seq ?_
  refine wp_region_lit ?_
  refine w_val (v := .string (str key)) (y_mv (Ev.t (v := .string (str key)) rfl rfl)) ?_
  refine w_call (Try.func27) (by kernel_rfl) rfl (m1 (Ev.t (v := .string (str key)) rfl rfl)) (right_l key w0 hok) ?_
  rintro _ _ ⟨rfl, rfl⟩
  refine ⟨_, rfl, ?_⟩
  refine w_val (v := .bool false) (y_not (Ev.t (v := .bool true) rfl rfl)) ?_
  refine wpList_nil ?_
  refine then_n ?_
  refine c_ff (Ev.t (v := .bool false) rfl rfl) ?_
  refine wp_skip ?_
  refine then_n ?_
  refine wp_seq ?_
  refine wp_seq ?_
  refine wp_region_lit ?_
  refine w_val (v := .string (str text)) (y_mv (Ev.t (v := .string (str text)) rfl rfl)) ?_
  refine w_val (v := .int .i64 ((text.length : Nat) : Int)) (y_len (Ev.t (v := .string (str text)) rfl rfl) Try.underlying9) ?_
  refine w_val (v := .int .i64 (((text.length : Nat) : Int) % 8)) (y_bin (Ev.t (v := .int .i64 ((text.length : Nat) : Int)) rfl rfl) (Ev.c (v := .int .i64 8)) (b_rem (by omega))) ?_
  refine w_val (v := .bool (decide ((((text.length : Nat) : Int) % 8) ≠ 0))) (y_bin (Ev.t (v := .int .i64 (((text.length : Nat) : Int) % 8)) rfl rfl) (Ev.c (v := .int .i64 0)) b_neq) ?_
  refine w_val (v := .bool (decide ((((text.length : Nat) : Int) % 8) ≠ 0))) (y_mv (Ev.t (v := .bool (decide ((((text.length : Nat) : Int) % 8) ≠ 0))) rfl rfl)) ?_
  have hc2 : ¬ ((((text.length : Nat) : Int) % 8) ≠ 0) := by omega
  refine w_val_g (v := .string (str text)) (want_yes (j := 4) rfl rfl (Ev.t (v := .bool false) (Eq.trans (b := .bool (decide ((((text.length : Nat) : Int) % 8) ≠ 0))) rfl (by rw [decide_eq_false hc2])) rfl) rfl) (y_mv (Ev.t (v := .string (str text)) rfl rfl)) ?_
  refine w_val_g (v := .int .i64 ((text.length : Nat) : Int)) (want_yes (j := 4) rfl rfl (Ev.t (v := .bool false) (Eq.trans (b := .bool (decide ((((text.length : Nat) : Int) % 8) ≠ 0))) rfl (by rw [decide_eq_false hc2])) rfl) rfl) (y_len (Ev.t (v := .string (str text)) rfl rfl) Try.underlying9) ?_
  refine w_val_g (v := .bool (decide (((text.length : Nat) : Int) < 24))) (want_yes (j := 4) rfl rfl (Ev.t (v := .bool false) (Eq.trans (b := .bool (decide ((((text.length : Nat) : Int) % 8) ≠ 0))) rfl (by rw [decide_eq_false hc2])) rfl) rfl) (y_bin (Ev.t (v := .int .i64 ((text.length : Nat) : Int)) rfl rfl) (Ev.c (v := .int .i64 24)) b_lss) ?_
  refine w_val (v := .bool (decide (((text.length : Nat) : Int) < 24))) (y_pick_f (Ev.t (v := .bool false) (Eq.trans (b := .bool (decide ((((text.length : Nat) : Int) % 8) ≠ 0))) rfl (by rw [decide_eq_false hc2])) rfl) (Ev.t (v := .bool (decide (((text.length : Nat) : Int) < 24))) rfl rfl)) ?_
  refine w_val (v := .bool (decide (((text.length : Nat) : Int) < 24))) (y_mv (Ev.t (v := .bool (decide (((text.length : Nat) : Int) < 24))) rfl rfl)) ?_
  have hc3 : ¬ (((text.length : Nat) : Int) < 24) := by omega
  refine w_val_g (v := .string (str text)) (want_yes (j := 9) rfl rfl (Ev.t (v := .bool false) (Eq.trans (b := .bool (decide (((text.length : Nat) : Int) < 24))) rfl (by rw [decide_eq_false hc3])) rfl) rfl) (y_mv (Ev.t (v := .string (str text)) rfl rfl)) ?_
  refine w_val_g (v := .int .i64 ((text.length : Nat) : Int)) (want_yes (j := 9) rfl rfl (Ev.t (v := .bool false) (Eq.trans (b := .bool (decide (((text.length : Nat) : Int) < 24))) rfl (by rw [decide_eq_false hc3])) rfl) rfl) (y_len (Ev.t (v := .string (str text)) rfl rfl) Try.underlying9) ?_
  refine w_val_g (v := .bool (decide (1032 < ((text.length : Nat) : Int)))) (want_yes (j := 9) rfl rfl (Ev.t (v := .bool false) (Eq.trans (b := .bool (decide (((text.length : Nat) : Int) < 24))) rfl (by rw [decide_eq_false hc3])) rfl) rfl) (y_bin (Ev.t (v := .int .i64 ((text.length : Nat) : Int)) rfl rfl) (Ev.c (v := .int .i64 1032)) b_gtr) ?_
  refine w_val (v := .bool (decide (1032 < ((text.length : Nat) : Int)))) (y_pick_f (Ev.t (v := .bool false) (Eq.trans (b := .bool (decide (((text.length : Nat) : Int) < 24))) rfl (by rw [decide_eq_false hc3])) rfl) (Ev.t (v := .bool (decide (1032 < ((text.length : Nat) : Int)))) rfl rfl)) ?_
  refine wpList_nil ?_
  refine then_n ?_
  have hc4 : ¬ (1032 < ((text.length : Nat) : Int)) := by omega
  refine c_f (p := 1032 < ((text.length : Nat) : Int)) (Ev.t (v := .bool (decide (1032 < ((text.length : Nat) : Int)))) rfl rfl) hc4 ?_
  refine wp_skip ?_
  refine then_n ?_
  refine wp_seq ?_
  refine wp_region_lit ?_
  refine w_val (v := .string (str key)) (y_mv (Ev.t (v := .string (str key)) rfl rfl)) ?_
  refine w_call (Try.func28) (by kernel_rfl) rfl (m1 (Ev.t (v := .string (str key)) rfl rfl)) (refNew_l key w0 hok) ?_
  rintro _ w5 ⟨bx, g, cap, rfl, hbn, hge_bx, hge_g, r_bx, r_g⟩
  refine ⟨_, rfl, ?_⟩
  have ge_bx : w0.heap.size ≤ bx := by have := hk.size; omega
  have ge_g : w0.heap.size ≤ g := by have := hk.size; omega
  replace hk := thenB hk hbn
  refine w_val (v := .pointer (some ⟨bx, 0, none⟩)) (y_as (Ev.t (v := .pointer (some ⟨bx, 0, none⟩)) rfl rfl)) ?_
  refine wpList_nil ?_
  refine then_n ?_
  refine wp_seq ?_
  refine wp_region_lit ?_
  refine w_val (v := .string (str text)) (y_mv (Ev.t (v := .string (str text)) rfl rfl)) ?_
  refine w_val (v := .string (str (text.take 8))) (y_sls (Ev.t (v := .string (str text)) rfl rfl) evo.no (evo.s (Ev.c (v := .int .i64 8))) Try.underlying9 (bnd_h (h := 8) (by (try simp only [hle, hlq]); omega) (by (try simp only [hle, hlq]); omega))) ?_
  refine w_val (v := .string (str (text.take 8))) (y_as (Ev.t (v := .string (str (text.take 8))) rfl rfl)) ?_
  refine wpList_nil ?_
  refine then_n ?_
  refine wp_seq ?_
  refine wp_region_lit ?_
  refine w_val (v := .string (str text)) (y_mv (Ev.t (v := .string (str text)) rfl rfl)) ?_
  refine w_val (v := .string (str (text.drop 8))) (y_slf (Ev.t (v := .string (str text)) rfl rfl) (evo.s (Ev.c (v := .int .i64 8))) Try.underlying9 (bnd_l (l := 8) (by (try simp only [hle, hlq]); omega) (by (try simp only [hle, hlq]); omega))) ?_
  refine w_val (v := .string (str (text.drop 8))) (y_as (Ev.t (v := .string (str (text.drop 8))) rfl rfl)) ?_
  refine wpList_nil ?_
  refine then_n ?_
  refine wp_seq ?_
  refine wp_seq ?_
  refine wp_region_lit ?_
  refine w_val (v := .string (str (text.drop 8))) (y_mv (Ev.t (v := .string (str (text.drop 8))) rfl rfl)) ?_
  refine w_val (v := .int .i64 (((text.drop 8).length : Nat) : Int)) (y_len (Ev.t (v := .string (str (text.drop 8))) rfl rfl) Try.underlying9) ?_
  refine w_val (v := .int .i64 ((((text.drop 8).length : Nat) : Int) / 8)) (y_bin (Ev.t (v := .int .i64 (((text.drop 8).length : Nat) : Int)) rfl rfl) (Ev.c (v := .int .i64 8)) (b_quo (by omega))) ?_
  refine w_val (v := .int .i64 (6 * ((((text.drop 8).length : Nat) : Int) / 8))) (y_bin (Ev.c (v := .int .i64 6)) (Ev.t (v := .int .i64 ((((text.drop 8).length : Nat) : Int) / 8)) rfl rfl) (b_mul (by omega))) ?_
  refine w_val (v := .int .i64 (6 * ((((text.drop 8).length : Nat) : Int) / 8))) (y_as (Ev.t (v := .int .i64 (6 * ((((text.drop 8).length : Nat) : Int) / 8))) rfl rfl)) ?_
  refine wpList_nil ?_
  refine then_n ?_
  refine wp_block ?_
  refine c_loop (fun dN aN wl => ∃ (u : Nat), dN = (6 * n - u) ∧ ∃ f6, aN = fr 67 f6 ∧ (u ≤ 6 * n) ∧ f6 0 = .string (str key) ∧ f6 1 = .string (str text) ∧ f6 4 = .string (str ([] : List (BitVec 8))) ∧ f6 5 = .string (str ([] : List (BitVec 8))) ∧ f6 6 = .int .i64 0 ∧ f6 7 = .pointer (some ⟨bx, 0, none⟩) ∧ f6 8 = .string (str (Wr.b key (text.take 8) (text.drop 8) (6 * n) (u))) ∧ f6 9 = .string (str (Wr.c key (text.take 8) (text.drop 8) (6 * n) (u))) ∧ f6 10 = .int .i64 (((6 * n - u) : Nat) : Int) ∧ Row wl bx 88 513 (fun j => if j < 256 then U8 (Aes.sb j) else if j < 512 then U8 (Aes.bk (j - 256)) else .slice (some ⟨g, 0, none⟩) ((Aes.words key).length) cap) ∧ Row wl g 92 ((Aes.words key).length * 4) (fun j => U8 (Aes.byteOf (Aes.gw (Aes.words key) (j / 4)) (j % 4))) ∧ Below w0.heap.size w0 wl) (6 * n - 0) ?_ ?_
  · exact ⟨0, rfl, _, rfl, (by first | omega | with_reducible rfl | assumption | trivial | exact ⟨rfl, rfl⟩ | simp), rfl, rfl, rfl, rfl, rfl, rfl, (Eq.trans (b := .string (str (text.take 8))) rfl (by rfl)), (Eq.trans (b := .string (str (text.drop 8))) rfl (by rfl)), (Eq.trans (b := .int .i64 (6 * ((((text.drop 8).length : Nat) : Int) / 8))) rfl (by congr 1; omega)), r_bx, r_g, hk⟩
  · skip
    clear r_bx r_g hk
    rintro _ _ w7 ⟨u, rfl, f6, rfl, i1_0, s1_0, s1_1, s1_4, s1_5, s1_6, s1_7, s1_8, s1_9, s1_10, r_bx, r_g, hk⟩
    refine wp_seq ?_
    refine wp_seq ?_
    refine wp_region_lit ?_
    refine w_val (v := .int .i64 (((6 * n - u) : Nat) : Int)) (y_mv (Ev.t (v := .int .i64 (((6 * n - u) : Nat) : Int)) s1_10 rfl)) ?_
    refine w_val (v := .bool (decide (1 ≤ (((6 * n - u) : Nat) : Int)))) (y_bin (Ev.t (v := .int .i64 (((6 * n - u) : Nat) : Int)) rfl rfl) (Ev.c (v := .int .i64 1)) b_geq) ?_
    refine wpList_nil ?_
    refine then_n ?_
    refine c_if (p := 1 ≤ (((6 * n - u) : Nat) : Int)) (Ev.t (v := .bool (decide (1 ≤ (((6 * n - u) : Nat) : Int)))) rfl rfl) (fun hc8 => ?_) (fun hc8 => ?_)
    · skip
      refine wp_skip ?_
      refine then_n ?_
      refine wp_seq ?_
      refine wp_block ?_
      refine wp_seq ?_
      refine wp_region_lit ?_
      refine w_val (v := .string (str (Wr.c key (text.take 8) (text.drop 8) (6 * n) (u)))) (y_mv (Ev.t (v := .string (str (Wr.c key (text.take 8) (text.drop 8) (6 * n) (u)))) s1_9 rfl)) ?_
      refine w_val (v := .int .i64 (((Wr.c key (text.take 8) (text.drop 8) (6 * n) (u)).length : Nat) : Int)) (y_len (Ev.t (v := .string (str (Wr.c key (text.take 8) (text.drop 8) (6 * n) (u)))) rfl rfl) Try.underlying9) ?_
      refine w_val (v := .int .i64 ((((Wr.c key (text.take 8) (text.drop 8) (6 * n) (u)).length : Nat) : Int) - 8)) (y_bin (Ev.t (v := .int .i64 (((Wr.c key (text.take 8) (text.drop 8) (6 * n) (u)).length : Nat) : Int)) rfl rfl) (Ev.c (v := .int .i64 8)) (b_sub (by (try simp only [hlq]); omega))) ?_
      refine w_val (v := .int .i64 ((((Wr.c key (text.take 8) (text.drop 8) (6 * n) (u)).length : Nat) : Int) - 8)) (y_as (Ev.t (v := .int .i64 ((((Wr.c key (text.take 8) (text.drop 8) (6 * n) (u)).length : Nat) : Int) - 8)) rfl rfl)) ?_
      refine wpList_nil ?_
      refine then_n ?_
      refine wp_seq ?_
      refine region_t 9 WrapWT.mixed (by kernel_rfl) ?_
      simp only [List.take_succ_cons, List.take_zero, List.drop_succ_cons, List.drop_zero]
      refine q_val (v := .pointer (some ⟨bx, 0, none⟩)) (fun w' hw' => y_mv (Ev.t (v := .pointer (some ⟨bx, 0, none⟩)) s1_7 rfl)) ?_
      refine q_val (v := .string (str (Wr.b key (text.take 8) (text.drop 8) (6 * n) (u)))) (fun w' hw' => y_mv (Ev.t (v := .string (str (Wr.b key (text.take 8) (text.drop 8) (6 * n) (u)))) s1_8 rfl)) ?_
      refine q_val (v := .int .i64 (((6 * n - u) : Nat) : Int)) (fun w' hw' => y_mv (Ev.t (v := .int .i64 (((6 * n - u) : Nat) : Int)) s1_10 rfl)) ?_
      refine q_call (v := .string (str (Wr.no (6 * n - u)))) (Try.func31) (by kernel_rfl) rfl (m1 (Ev.t (v := .int .i64 (((6 * n - u) : Nat) : Int)) rfl rfl)) (fun w' hw' => refNumber_c (((6 * n - u) : Nat) : Int) (6 * n - u) (by omega) (by omega) w') ?_
      refine q_call (v := .string (str (Oct.xor (Wr.b key (text.take 8) (text.drop 8) (6 * n) (u)) (Wr.no (6 * n - u))))) (Try.func30) (by kernel_rfl) rfl (m2 (Ev.t (v := .string (str (Wr.b key (text.take 8) (text.drop 8) (6 * n) (u)))) rfl rfl) (Ev.t (v := .string (str (Wr.no (6 * n - u)))) rfl rfl)) (fun w' hw' => refXor_c (Wr.b key (text.take 8) (text.drop 8) (6 * n) (u)) (Wr.no (6 * n - u)) (by simp only [hla]; omega) w') ?_
      refine q_val (v := .string (str (Wr.c key (text.take 8) (text.drop 8) (6 * n) (u)))) (fun w' hw' => y_mv (Ev.t (v := .string (str (Wr.c key (text.take 8) (text.drop 8) (6 * n) (u)))) s1_9 rfl)) ?_
      refine q_val (v := .int .i64 ((((Wr.c key (text.take 8) (text.drop 8) (6 * n) (u)).length : Nat) : Int) - 8)) (fun w' hw' => y_mv (Ev.t (v := .int .i64 ((((Wr.c key (text.take 8) (text.drop 8) (6 * n) (u)).length : Nat) : Int) - 8)) rfl rfl)) ?_
      refine q_val (v := .string (str ((Wr.c key (text.take 8) (text.drop 8) (6 * n) (u)).drop (((Wr.c key (text.take 8) (text.drop 8) (6 * n) (u)).length) - 8)))) (fun w' hw' => y_slf (Ev.t (v := .string (str (Wr.c key (text.take 8) (text.drop 8) (6 * n) (u)))) rfl rfl) (evo.s (Ev.t (v := .int .i64 ((((Wr.c key (text.take 8) (text.drop 8) (6 * n) (u)).length : Nat) : Int) - 8)) rfl rfl)) Try.underlying9 (bnd_l (l := (((Wr.c key (text.take 8) (text.drop 8) (6 * n) (u)).length) - 8)) (by (try simp only [hle, hlq]); omega) (by (try simp only [hle, hlq]); omega))) ?_
      refine q_val (v := .string (str ((Oct.xor (Wr.b key (text.take 8) (text.drop 8) (6 * n) (u)) (Wr.no (6 * n - u))) ++ ((Wr.c key (text.take 8) (text.drop 8) (6 * n) (u)).drop (((Wr.c key (text.take 8) (text.drop 8) (6 * n) (u)).length) - 8))))) (fun w' hw' => y_bin (Ev.t (v := .string (str (Oct.xor (Wr.b key (text.take 8) (text.drop 8) (6 * n) (u)) (Wr.no (6 * n - u))))) rfl rfl) (Ev.t (v := .string (str ((Wr.c key (text.take 8) (text.drop 8) (6 * n) (u)).drop (((Wr.c key (text.take 8) (text.drop 8) (6 * n) (u)).length) - 8)))) rfl rfl) (b_cat (by simp only [List.length_append, List.length_take, List.length_drop, Oct.length_xor, Wr.len_no, hla, hle, hlq]; omega))) ?_
      refine q_nil ?_
      intro w9 hb10
      replace r_bx := r_bx.step hb10
      replace r_g := r_g.step hb10
      replace hk := thenB hk hb10
      refine w_call (Try.func34) (by kernel_rfl) rfl (m2 (Ev.t (v := .pointer (some ⟨bx, 0, none⟩)) rfl rfl) (Ev.t (v := .string (str ((Oct.xor (Wr.b key (text.take 8) (text.drop 8) (6 * n) (u)) (Wr.no (6 * n - u))) ++ ((Wr.c key (text.take 8) (text.drop 8) (6 * n) (u)).drop (((Wr.c key (text.take 8) (text.drop 8) (6 * n) (u)).length) - 8))))) rfl rfl)) (refDec_l bx g cap key ((Oct.xor (Wr.b key (text.take 8) (text.drop 8) (6 * n) (u)) (Wr.no (6 * n - u))) ++ ((Wr.c key (text.take 8) (text.drop 8) (6 * n) (u)).drop (((Wr.c key (text.take 8) (text.drop 8) (6 * n) (u)).length) - 8))) w9 hok (by simp only [List.length_append, List.length_drop, Oct.length_xor, Wr.len_no, hla, hlq]; omega) r_bx r_g) ?_
      rintro _ w11 ⟨rfl, hb12⟩
      refine ⟨_, rfl, ?_⟩
      replace r_bx := r_bx.step hb12
      replace r_g := r_g.step hb12
      replace hk := thenB hk hb12
      refine w_val (v := .string (str (Aes.dec (Aes.words key) ((Oct.xor (Wr.b key (text.take 8) (text.drop 8) (6 * n) (u)) (Wr.no (6 * n - u))) ++ ((Wr.c key (text.take 8) (text.drop 8) (6 * n) (u)).drop (((Wr.c key (text.take 8) (text.drop 8) (6 * n) (u)).length) - 8)))))) (y_as (Ev.t (v := .string (str (Aes.dec (Aes.words key) ((Oct.xor (Wr.b key (text.take 8) (text.drop 8) (6 * n) (u)) (Wr.no (6 * n - u))) ++ ((Wr.c key (text.take 8) (text.drop 8) (6 * n) (u)).drop (((Wr.c key (text.take 8) (text.drop 8) (6 * n) (u)).length) - 8)))))) rfl rfl)) ?_
      refine wpList_nil ?_
      refine then_n ?_
      refine wp_seq ?_
      refine wp_region_lit ?_
      refine w_val (v := .string (str (Aes.dec (Aes.words key) ((Oct.xor (Wr.b key (text.take 8) (text.drop 8) (6 * n) (u)) (Wr.no (6 * n - u))) ++ ((Wr.c key (text.take 8) (text.drop 8) (6 * n) (u)).drop (((Wr.c key (text.take 8) (text.drop 8) (6 * n) (u)).length) - 8)))))) (y_mv (Ev.t (v := .string (str (Aes.dec (Aes.words key) ((Oct.xor (Wr.b key (text.take 8) (text.drop 8) (6 * n) (u)) (Wr.no (6 * n - u))) ++ ((Wr.c key (text.take 8) (text.drop 8) (6 * n) (u)).drop (((Wr.c key (text.take 8) (text.drop 8) (6 * n) (u)).length) - 8)))))) rfl rfl)) ?_
      refine w_val (v := .string (str ((Aes.dec (Aes.words key) ((Oct.xor (Wr.b key (text.take 8) (text.drop 8) (6 * n) (u)) (Wr.no (6 * n - u))) ++ ((Wr.c key (text.take 8) (text.drop 8) (6 * n) (u)).drop (((Wr.c key (text.take 8) (text.drop 8) (6 * n) (u)).length) - 8)))).take 8))) (y_sls (Ev.t (v := .string (str (Aes.dec (Aes.words key) ((Oct.xor (Wr.b key (text.take 8) (text.drop 8) (6 * n) (u)) (Wr.no (6 * n - u))) ++ ((Wr.c key (text.take 8) (text.drop 8) (6 * n) (u)).drop (((Wr.c key (text.take 8) (text.drop 8) (6 * n) (u)).length) - 8)))))) rfl rfl) evo.no (evo.s (Ev.c (v := .int .i64 8))) Try.underlying9 (bnd_h (h := 8) (by (try simp only [hle, hlq]); omega) (by (try simp only [hle, hlq]); omega))) ?_
      refine w_val (v := .string (str ((Aes.dec (Aes.words key) ((Oct.xor (Wr.b key (text.take 8) (text.drop 8) (6 * n) (u)) (Wr.no (6 * n - u))) ++ ((Wr.c key (text.take 8) (text.drop 8) (6 * n) (u)).drop (((Wr.c key (text.take 8) (text.drop 8) (6 * n) (u)).length) - 8)))).take 8))) (y_as (Ev.t (v := .string (str ((Aes.dec (Aes.words key) ((Oct.xor (Wr.b key (text.take 8) (text.drop 8) (6 * n) (u)) (Wr.no (6 * n - u))) ++ ((Wr.c key (text.take 8) (text.drop 8) (6 * n) (u)).drop (((Wr.c key (text.take 8) (text.drop 8) (6 * n) (u)).length) - 8)))).take 8))) rfl rfl)) ?_
      refine wpList_nil ?_
      refine then_n ?_
      refine region_q WrapWT.mixed (by kernel_rfl) ?_
      refine q_val (v := .string (str (Aes.dec (Aes.words key) ((Oct.xor (Wr.b key (text.take 8) (text.drop 8) (6 * n) (u)) (Wr.no (6 * n - u))) ++ ((Wr.c key (text.take 8) (text.drop 8) (6 * n) (u)).drop (((Wr.c key (text.take 8) (text.drop 8) (6 * n) (u)).length) - 8)))))) (fun w' hw' => y_mv (Ev.t (v := .string (str (Aes.dec (Aes.words key) ((Oct.xor (Wr.b key (text.take 8) (text.drop 8) (6 * n) (u)) (Wr.no (6 * n - u))) ++ ((Wr.c key (text.take 8) (text.drop 8) (6 * n) (u)).drop (((Wr.c key (text.take 8) (text.drop 8) (6 * n) (u)).length) - 8)))))) rfl rfl)) ?_
      refine q_val (v := .string (str ((Aes.dec (Aes.words key) ((Oct.xor (Wr.b key (text.take 8) (text.drop 8) (6 * n) (u)) (Wr.no (6 * n - u))) ++ ((Wr.c key (text.take 8) (text.drop 8) (6 * n) (u)).drop (((Wr.c key (text.take 8) (text.drop 8) (6 * n) (u)).length) - 8)))).drop 8))) (fun w' hw' => y_slf (Ev.t (v := .string (str (Aes.dec (Aes.words key) ((Oct.xor (Wr.b key (text.take 8) (text.drop 8) (6 * n) (u)) (Wr.no (6 * n - u))) ++ ((Wr.c key (text.take 8) (text.drop 8) (6 * n) (u)).drop (((Wr.c key (text.take 8) (text.drop 8) (6 * n) (u)).length) - 8)))))) rfl rfl) (evo.s (Ev.c (v := .int .i64 8))) Try.underlying9 (bnd_l (l := 8) (by (try simp only [hle, hlq]); omega) (by (try simp only [hle, hlq]); omega))) ?_
      refine q_val (v := .string (str (Wr.c key (text.take 8) (text.drop 8) (6 * n) (u)))) (fun w' hw' => y_mv (Ev.t (v := .string (str (Wr.c key (text.take 8) (text.drop 8) (6 * n) (u)))) s1_9 rfl)) ?_
      refine q_val (v := .int .i64 ((((Wr.c key (text.take 8) (text.drop 8) (6 * n) (u)).length : Nat) : Int) - 8)) (fun w' hw' => y_mv (Ev.t (v := .int .i64 ((((Wr.c key (text.take 8) (text.drop 8) (6 * n) (u)).length : Nat) : Int) - 8)) rfl rfl)) ?_
      refine q_val (v := .string (str ((Wr.c key (text.take 8) (text.drop 8) (6 * n) (u)).take (((Wr.c key (text.take 8) (text.drop 8) (6 * n) (u)).length) - 8)))) (fun w' hw' => y_sls (Ev.t (v := .string (str (Wr.c key (text.take 8) (text.drop 8) (6 * n) (u)))) rfl rfl) evo.no (evo.s (Ev.t (v := .int .i64 ((((Wr.c key (text.take 8) (text.drop 8) (6 * n) (u)).length : Nat) : Int) - 8)) rfl rfl)) Try.underlying9 (bnd_h (h := (((Wr.c key (text.take 8) (text.drop 8) (6 * n) (u)).length) - 8)) (by (try simp only [hle, hlq]); omega) (by (try simp only [hle, hlq]); omega))) ?_
      refine q_val (v := .string (str (((Aes.dec (Aes.words key) ((Oct.xor (Wr.b key (text.take 8) (text.drop 8) (6 * n) (u)) (Wr.no (6 * n - u))) ++ ((Wr.c key (text.take 8) (text.drop 8) (6 * n) (u)).drop (((Wr.c key (text.take 8) (text.drop 8) (6 * n) (u)).length) - 8)))).drop 8) ++ ((Wr.c key (text.take 8) (text.drop 8) (6 * n) (u)).take (((Wr.c key (text.take 8) (text.drop 8) (6 * n) (u)).length) - 8))))) (fun w' hw' => y_bin (Ev.t (v := .string (str ((Aes.dec (Aes.words key) ((Oct.xor (Wr.b key (text.take 8) (text.drop 8) (6 * n) (u)) (Wr.no (6 * n - u))) ++ ((Wr.c key (text.take 8) (text.drop 8) (6 * n) (u)).drop (((Wr.c key (text.take 8) (text.drop 8) (6 * n) (u)).length) - 8)))).drop 8))) rfl rfl) (Ev.t (v := .string (str ((Wr.c key (text.take 8) (text.drop 8) (6 * n) (u)).take (((Wr.c key (text.take 8) (text.drop 8) (6 * n) (u)).length) - 8)))) rfl rfl) (b_cat (by simp only [List.length_append, List.length_take, List.length_drop, Oct.length_xor, Wr.len_no, hla, hle, hlq]; omega))) ?_
      refine q_val (v := .string (str (((Aes.dec (Aes.words key) ((Oct.xor (Wr.b key (text.take 8) (text.drop 8) (6 * n) (u)) (Wr.no (6 * n - u))) ++ ((Wr.c key (text.take 8) (text.drop 8) (6 * n) (u)).drop (((Wr.c key (text.take 8) (text.drop 8) (6 * n) (u)).length) - 8)))).drop 8) ++ ((Wr.c key (text.take 8) (text.drop 8) (6 * n) (u)).take (((Wr.c key (text.take 8) (text.drop 8) (6 * n) (u)).length) - 8))))) (fun w' hw' => y_as (Ev.t (v := .string (str (((Aes.dec (Aes.words key) ((Oct.xor (Wr.b key (text.take 8) (text.drop 8) (6 * n) (u)) (Wr.no (6 * n - u))) ++ ((Wr.c key (text.take 8) (text.drop 8) (6 * n) (u)).drop (((Wr.c key (text.take 8) (text.drop 8) (6 * n) (u)).length) - 8)))).drop 8) ++ ((Wr.c key (text.take 8) (text.drop 8) (6 * n) (u)).take (((Wr.c key (text.take 8) (text.drop 8) (6 * n) (u)).length) - 8))))) rfl rfl)) ?_
      refine q_nil ?_
      intro w13 hb14
      replace r_bx := r_bx.step hb14
      replace r_g := r_g.step hb14
      replace hk := thenB hk hb14
      refine inb_n ?_
      refine then_n ?_
      refine wp_region_lit ?_
      refine w_val (v := .int .i64 (((6 * n - u) : Nat) : Int)) (y_mv (Ev.t (v := .int .i64 (((6 * n - u) : Nat) : Int)) s1_10 rfl)) ?_
      refine w_val (v := .int .i64 ((((6 * n - u) : Nat) : Int) - 1)) (y_bin (Ev.t (v := .int .i64 (((6 * n - u) : Nat) : Int)) rfl rfl) (Ev.c (v := .int .i64 1)) (b_sub (by (try simp only [hlq]); omega))) ?_
      refine w_val (v := .int .i64 ((((6 * n - u) : Nat) : Int) - 1)) (y_as (Ev.t (v := .int .i64 ((((6 * n - u) : Nat) : Int) - 1)) rfl rfl)) ?_
      refine wpList_nil ?_
      exact then_n ⟨_, (by omega), u + 1, rfl, _, rfl, (by first | omega | with_reducible rfl | assumption | trivial | simp), s1_0, s1_1, s1_4, s1_5, s1_6, s1_7, (Eq.trans (b := .string (str ((Aes.dec (Aes.words key) ((Oct.xor (Wr.b key (text.take 8) (text.drop 8) (6 * n) (u)) (Wr.no (6 * n - u))) ++ ((Wr.c key (text.take 8) (text.drop 8) (6 * n) (u)).drop (((Wr.c key (text.take 8) (text.drop 8) (6 * n) (u)).length) - 8)))).take 8))) rfl (by rw [Wr.b_succ])), (Eq.trans (b := .string (str (((Aes.dec (Aes.words key) ((Oct.xor (Wr.b key (text.take 8) (text.drop 8) (6 * n) (u)) (Wr.no (6 * n - u))) ++ ((Wr.c key (text.take 8) (text.drop 8) (6 * n) (u)).drop (((Wr.c key (text.take 8) (text.drop 8) (6 * n) (u)).length) - 8)))).drop 8) ++ ((Wr.c key (text.take 8) (text.drop 8) (6 * n) (u)).take (((Wr.c key (text.take 8) (text.drop 8) (6 * n) (u)).length) - 8))))) rfl (by rw [Wr.c_succ])), (Eq.trans (b := .int .i64 ((((6 * n - u) : Nat) : Int) - 1)) rfl (by congr 1; omega)), r_bx, r_g, hk⟩
    · skip
      refine wp_exit ?_
      refine then_x ?_
      refine then_x ?_
      refine inb_x ?_
      refine then_n ?_
      refine wp_seq ?_
      refine wp_region_lit ?_
      refine w_val (v := .string (str (Wr.b key (text.take 8) (text.drop 8) (6 * n) (u)))) (y_mv (Ev.t (v := .string (str (Wr.b key (text.take 8) (text.drop 8) (6 * n) (u)))) s1_8 rfl)) ?_
      refine w_val (v := .string (str (Wr.c key (text.take 8) (text.drop 8) (6 * n) (u)))) (y_mv (Ev.t (v := .string (str (Wr.c key (text.take 8) (text.drop 8) (6 * n) (u)))) s1_9 rfl)) ?_
      refine w_val (v := .string (str (Wr.b key (text.take 8) (text.drop 8) (6 * n) (u)))) (y_as (Ev.t (v := .string (str (Wr.b key (text.take 8) (text.drop 8) (6 * n) (u)))) rfl rfl)) ?_
      refine w_val (v := .string (str (Wr.c key (text.take 8) (text.drop 8) (6 * n) (u)))) (y_as (Ev.t (v := .string (str (Wr.c key (text.take 8) (text.drop 8) (6 * n) (u)))) rfl rfl)) ?_
      refine w_val (v := .int .i64 0) (y_as (Ev.c (v := .int .i64 0))) ?_
      refine wpList_nil ?_
      refine then_n ?_
      refine wp_ret ?_
      refine fin_ret3 rfl (Ev.t (v := .string (str (Wr.b key (text.take 8) (text.drop 8) (6 * n) (u)))) rfl rfl) (Ev.t (v := .string (str (Wr.c key (text.take 8) (text.drop 8) (6 * n) (u)))) rfl rfl) (Ev.t (v := .int .i64 0) rfl rfl) ?_
      refine ⟨congrArg Ending.returned ?_, hk⟩
      show (.tuple #[.string (str (Wr.b key (text.take 8) (text.drop 8) (6 * n) (u))), .string (str (Wr.c key (text.take 8) (text.drop 8) (6 * n) (u))), .int .i64 0] : Value) = .tuple #[.string (str (Wr.b key (text.take 8) (text.drop 8) (6 * n) (6 * n))), .string (str (Wr.c key (text.take 8) (text.drop 8) (6 * n) (6 * n))), .int .i64 0]
      rw [show u = 6 * n from by omega]

set_option maxRecDepth 100000 in
set_option maxHeartbeats 1000000 in
theorem unwrap_k (key text : List (BitVec 8)) (hok : ¬ Aes.okKey key.length) (w0 : World) : Calls Try.prog 14 #[.string (str key), .string (str text)] w0 fun e w' => e = .returned (.tuple #[.string (str ([] : List (BitVec 8))), .int .i64 3]) ∧ Below w0.heap.size w0 w' := by
  refine enter (n := 23) Try.func14 rfl rfl rfl ?_
  have hk : Below w0.heap.size w0 w0 := Below.refl _ _
  refine wp_seq ?_
  refine wp_region_lit ?_
  refine w_val (v := .string (str ([] : List (BitVec 8)))) (y_as (Ev.c (v := .string (str ([] : List (BitVec 8)))))) ?_
  refine w_val (v := .int .i64 0) (y_as (Ev.c (v := .int .i64 0))) ?_
  refine wpList_nil ?_
  refine then_n ?_
  refine wp_seq ?_
  refine wp_region_lit ?_
  refine w_val (v := .string (str key)) (y_mv (Ev.t (v := .string (str key)) rfl rfl)) ?_
  refine w_val (v := .string (str text)) (y_mv (Ev.t (v := .string (str text)) rfl rfl)) ?_
  refine w_call (Try.func16) (by kernel_rfl) rfl (m2 (Ev.t (v := .string (str key)) rfl rfl) (Ev.t (v := .string (str text)) rfl rfl)) (value_k key text hok w0) ?_
  rintro _ w1 ⟨rfl, hb2⟩
  refine ⟨_, rfl, ?_⟩
  replace hk := thenB hk hb2
  refine w_val (v := .tuple #[.string (str ([] : List (BitVec 8))), .string (str ([] : List (BitVec 8))), .int .i64 3]) (y_mv (Ev.t (v := .tuple #[.string (str ([] : List (BitVec 8))), .string (str ([] : List (BitVec 8))), .int .i64 3]) rfl rfl)) ?_
  refine w_val (v := .string (str ([] : List (BitVec 8)))) (y_ext (v := .string (str ([] : List (BitVec 8)))) (Ev.t (v := .tuple #[.string (str ([] : List (BitVec 8))), .string (str ([] : List (BitVec 8))), .int .i64 3]) rfl rfl) rfl) ?_
  refine w_val (v := .string (str ([] : List (BitVec 8)))) (y_ext (v := .string (str ([] : List (BitVec 8)))) (Ev.t (v := .tuple #[.string (str ([] : List (BitVec 8))), .string (str ([] : List (BitVec 8))), .int .i64 3]) rfl rfl) rfl) ?_
  refine w_val (v := .int .i64 3) (y_ext (v := .int .i64 3) (Ev.t (v := .tuple #[.string (str ([] : List (BitVec 8))), .string (str ([] : List (BitVec 8))), .int .i64 3]) rfl rfl) rfl) ?_
  refine w_val (v := .string (str ([] : List (BitVec 8)))) (y_as (Ev.t (v := .string (str ([] : List (BitVec 8)))) rfl rfl)) ?_
  refine w_val (v := .string (str ([] : List (BitVec 8)))) (y_as (Ev.t (v := .string (str ([] : List (BitVec 8)))) rfl rfl)) ?_
  refine w_val (v := .int .i64 3) (y_as (Ev.t (v := .int .i64 3) rfl rfl)) ?_
  refine wpList_nil ?_
  refine then_n ?_
  refine wp_seq ?_
  refine wp_seq ?_
  refine wp_region_lit ?_
  refine w_val (v := .int .i64 3) (y_mv (Ev.t (v := .int .i64 3) rfl rfl)) ?_
  refine w_val (v := .bool true) (y_bin (Ev.t (v := .int .i64 3) rfl rfl) (Ev.c (v := .int .i64 0)) b_neq) ?_
  refine wpList_nil ?_
  refine then_n ?_
  refine c_tt (Ev.t (v := .bool true) rfl rfl) ?_
  refine wp_seq ?_
  refine wp_region_lit ?_
  refine w_val (v := .int .i64 3) (y_mv (Ev.t (v := .int .i64 3) rfl rfl)) ?_
  refine w_val (v := .string (str ([] : List (BitVec 8)))) (y_as (Ev.c (v := .string (str ([] : List (BitVec 8)))))) ?_
  refine w_val (v := .int .i64 3) (y_as (Ev.t (v := .int .i64 3) rfl rfl)) ?_
  refine wpList_nil ?_
  refine then_n ?_
  refine wp_ret ?_
  refine then_r ?_
  refine fin_ret2 rfl (Ev.t (v := .string (str ([] : List (BitVec 8)))) rfl rfl) (Ev.t (v := .int .i64 3) rfl rfl) ?_
  exact ⟨rfl, hk⟩

set_option maxRecDepth 100000 in
set_option maxHeartbeats 1000000 in
theorem unwrap_s (key text : List (BitVec 8)) (hok : Aes.okKey key.length) (hs : ¬ (text.length % 8 = 0 ∧ 24 ≤ text.length ∧ text.length ≤ 1032)) (w0 : World) : Calls Try.prog 14 #[.string (str key), .string (str text)] w0 fun e w' => e = .returned (.tuple #[.string (str ([] : List (BitVec 8))), .int .i64 6]) ∧ Below w0.heap.size w0 w' := by
  refine enter (n := 23) Try.func14 rfl rfl rfl ?_
  have hk : Below w0.heap.size w0 w0 := Below.refl _ _
  refine wp_seq ?_
  refine wp_region_lit ?_
  refine w_val (v := .string (str ([] : List (BitVec 8)))) (y_as (Ev.c (v := .string (str ([] : List (BitVec 8)))))) ?_
  refine w_val (v := .int .i64 0) (y_as (Ev.c (v := .int .i64 0))) ?_
  refine wpList_nil ?_
  refine then_n ?_
  refine wp_seq ?_
  refine wp_region_lit ?_
  refine w_val (v := .string (str key)) (y_mv (Ev.t (v := .string (str key)) rfl rfl)) ?_
  refine w_val (v := .string (str text)) (y_mv (Ev.t (v := .string (str text)) rfl rfl)) ?_
  refine w_call (Try.func16) (by kernel_rfl) rfl (m2 (Ev.t (v := .string (str key)) rfl rfl) (Ev.t (v := .string (str text)) rfl rfl)) (value_s key text hok hs w0) ?_
  rintro _ w1 ⟨rfl, hb2⟩
  refine ⟨_, rfl, ?_⟩
  replace hk := thenB hk hb2
  refine w_val (v := .tuple #[.string (str ([] : List (BitVec 8))), .string (str ([] : List (BitVec 8))), .int .i64 6]) (y_mv (Ev.t (v := .tuple #[.string (str ([] : List (BitVec 8))), .string (str ([] : List (BitVec 8))), .int .i64 6]) rfl rfl)) ?_
  refine w_val (v := .string (str ([] : List (BitVec 8)))) (y_ext (v := .string (str ([] : List (BitVec 8)))) (Ev.t (v := .tuple #[.string (str ([] : List (BitVec 8))), .string (str ([] : List (BitVec 8))), .int .i64 6]) rfl rfl) rfl) ?_
  refine w_val (v := .string (str ([] : List (BitVec 8)))) (y_ext (v := .string (str ([] : List (BitVec 8)))) (Ev.t (v := .tuple #[.string (str ([] : List (BitVec 8))), .string (str ([] : List (BitVec 8))), .int .i64 6]) rfl rfl) rfl) ?_
  refine w_val (v := .int .i64 6) (y_ext (v := .int .i64 6) (Ev.t (v := .tuple #[.string (str ([] : List (BitVec 8))), .string (str ([] : List (BitVec 8))), .int .i64 6]) rfl rfl) rfl) ?_
  refine w_val (v := .string (str ([] : List (BitVec 8)))) (y_as (Ev.t (v := .string (str ([] : List (BitVec 8)))) rfl rfl)) ?_
  refine w_val (v := .string (str ([] : List (BitVec 8)))) (y_as (Ev.t (v := .string (str ([] : List (BitVec 8)))) rfl rfl)) ?_
  refine w_val (v := .int .i64 6) (y_as (Ev.t (v := .int .i64 6) rfl rfl)) ?_
  refine wpList_nil ?_
  refine then_n ?_
  refine wp_seq ?_
  refine wp_seq ?_
  refine wp_region_lit ?_
  refine w_val (v := .int .i64 6) (y_mv (Ev.t (v := .int .i64 6) rfl rfl)) ?_
  refine w_val (v := .bool true) (y_bin (Ev.t (v := .int .i64 6) rfl rfl) (Ev.c (v := .int .i64 0)) b_neq) ?_
  refine wpList_nil ?_
  refine then_n ?_
  refine c_tt (Ev.t (v := .bool true) rfl rfl) ?_
  refine wp_seq ?_
  refine wp_region_lit ?_
  refine w_val (v := .int .i64 6) (y_mv (Ev.t (v := .int .i64 6) rfl rfl)) ?_
  refine w_val (v := .string (str ([] : List (BitVec 8)))) (y_as (Ev.c (v := .string (str ([] : List (BitVec 8)))))) ?_
  refine w_val (v := .int .i64 6) (y_as (Ev.t (v := .int .i64 6) rfl rfl)) ?_
  refine wpList_nil ?_
  refine then_n ?_
  refine wp_ret ?_
  refine then_r ?_
  refine fin_ret2 rfl (Ev.t (v := .string (str ([] : List (BitVec 8)))) rfl rfl) (Ev.t (v := .int .i64 6) rfl rfl) ?_
  exact ⟨rfl, hk⟩

set_option maxRecDepth 100000 in
set_option maxHeartbeats 1000000 in
theorem unwrap_y (key text : List (BitVec 8)) (n : Nat) (hok : Aes.okKey key.length) (hn : text.length = 8 * n + 8) (h2 : 2 ≤ n) (h128 : n ≤ 128) (ha : Wr.b key (text.take 8) (text.drop 8) (6 * n) (6 * n) = Wr.iv) (w0 : World) : Calls Try.prog 14 #[.string (str key), .string (str text)] w0 fun e w' => e = .returned (.tuple #[.string (str (Wr.c key (text.take 8) (text.drop 8) (6 * n) (6 * n))), .int .i64 0]) ∧ Below w0.heap.size w0 w' := by
  have hla := Wr.len_b key (text.take 8) (text.drop 8) (by rw [List.length_take]; omega) (6 * n)
  refine enter (n := 23) Try.func14 rfl rfl rfl ?_
  have hk : Below w0.heap.size w0 w0 := Below.refl _ _
  refine wp_seq ?_
  refine wp_region_lit ?_
  refine w_val (v := .string (str ([] : List (BitVec 8)))) (y_as (Ev.c (v := .string (str ([] : List (BitVec 8)))))) ?_
  refine w_val (v := .int .i64 0) (y_as (Ev.c (v := .int .i64 0))) ?_
  refine wpList_nil ?_
  refine then_n ?_
  refine wp_seq ?_
  refine wp_region_lit ?_
  refine w_val (v := .string (str key)) (y_mv (Ev.t (v := .string (str key)) rfl rfl)) ?_
  refine w_val (v := .string (str text)) (y_mv (Ev.t (v := .string (str text)) rfl rfl)) ?_
  refine w_call (Try.func16) (by kernel_rfl) rfl (m2 (Ev.t (v := .string (str key)) rfl rfl) (Ev.t (v := .string (str text)) rfl rfl)) (value_y key text n hok hn h2 h128 w0) ?_
  rintro _ w1 ⟨rfl, hb2⟩
  refine ⟨_, rfl, ?_⟩
  replace hk := thenB hk hb2
  refine w_val (v := .tuple #[.string (str (Wr.b key (text.take 8) (text.drop 8) (6 * n) (6 * n))), .string (str (Wr.c key (text.take 8) (text.drop 8) (6 * n) (6 * n))), .int .i64 0]) (y_mv (Ev.t (v := .tuple #[.string (str (Wr.b key (text.take 8) (text.drop 8) (6 * n) (6 * n))), .string (str (Wr.c key (text.take 8) (text.drop 8) (6 * n) (6 * n))), .int .i64 0]) rfl rfl)) ?_
  refine w_val (v := .string (str (Wr.b key (text.take 8) (text.drop 8) (6 * n) (6 * n)))) (y_ext (v := .string (str (Wr.b key (text.take 8) (text.drop 8) (6 * n) (6 * n)))) (Ev.t (v := .tuple #[.string (str (Wr.b key (text.take 8) (text.drop 8) (6 * n) (6 * n))), .string (str (Wr.c key (text.take 8) (text.drop 8) (6 * n) (6 * n))), .int .i64 0]) rfl rfl) rfl) ?_
  refine w_val (v := .string (str (Wr.c key (text.take 8) (text.drop 8) (6 * n) (6 * n)))) (y_ext (v := .string (str (Wr.c key (text.take 8) (text.drop 8) (6 * n) (6 * n)))) (Ev.t (v := .tuple #[.string (str (Wr.b key (text.take 8) (text.drop 8) (6 * n) (6 * n))), .string (str (Wr.c key (text.take 8) (text.drop 8) (6 * n) (6 * n))), .int .i64 0]) rfl rfl) rfl) ?_
  refine w_val (v := .int .i64 0) (y_ext (v := .int .i64 0) (Ev.t (v := .tuple #[.string (str (Wr.b key (text.take 8) (text.drop 8) (6 * n) (6 * n))), .string (str (Wr.c key (text.take 8) (text.drop 8) (6 * n) (6 * n))), .int .i64 0]) rfl rfl) rfl) ?_
  refine w_val (v := .string (str (Wr.b key (text.take 8) (text.drop 8) (6 * n) (6 * n)))) (y_as (Ev.t (v := .string (str (Wr.b key (text.take 8) (text.drop 8) (6 * n) (6 * n)))) rfl rfl)) ?_
  refine w_val (v := .string (str (Wr.c key (text.take 8) (text.drop 8) (6 * n) (6 * n)))) (y_as (Ev.t (v := .string (str (Wr.c key (text.take 8) (text.drop 8) (6 * n) (6 * n)))) rfl rfl)) ?_
  refine w_val (v := .int .i64 0) (y_as (Ev.t (v := .int .i64 0) rfl rfl)) ?_
  refine wpList_nil ?_
  refine then_n ?_
  refine wp_seq ?_
  refine wp_seq ?_
  refine wp_region_lit ?_
  refine w_val (v := .int .i64 0) (y_mv (Ev.t (v := .int .i64 0) rfl rfl)) ?_
  refine w_val (v := .bool false) (y_bin (Ev.t (v := .int .i64 0) rfl rfl) (Ev.c (v := .int .i64 0)) b_neq) ?_
  refine wpList_nil ?_
  refine then_n ?_
  refine c_ff (Ev.t (v := .bool false) rfl rfl) ?_
  refine wp_skip ?_
  refine then_n ?_
  refine wp_seq ?_
  refine wp_seq ?_
  refine wp_region_lit ?_
  refine w_val (v := .string (str (Wr.b key (text.take 8) (text.drop 8) (6 * n) (6 * n)))) (y_mv (Ev.t (v := .string (str (Wr.b key (text.take 8) (text.drop 8) (6 * n) (6 * n)))) rfl rfl)) ?_
  refine w_call (Try.func32) (by kernel_rfl) rfl (m2 (Ev.t (v := .string (str (Wr.b key (text.take 8) (text.drop 8) (6 * n) (6 * n)))) rfl rfl) (Ev.c (v := .string (str Wr.iv)))) (same_c (Wr.b key (text.take 8) (text.drop 8) (6 * n) (6 * n)) Wr.iv (by rw [hla]; omega) w1) ?_
  rintro _ w3 ⟨rfl, hb4⟩
  refine ⟨_, rfl, ?_⟩
  replace hk := thenB hk hb4
  refine w_val (v := .bool (decide (¬ (Wr.b key (text.take 8) (text.drop 8) (6 * n) (6 * n) = Wr.iv)))) (y_notp (Ev.t (v := .bool (decide (Wr.b key (text.take 8) (text.drop 8) (6 * n) (6 * n) = Wr.iv))) rfl rfl)) ?_
  refine wpList_nil ?_
  refine then_n ?_
  have hc5 : ¬ (¬ (Wr.b key (text.take 8) (text.drop 8) (6 * n) (6 * n) = Wr.iv)) := by exact fun h => h ha
  refine c_f (p := ¬ (Wr.b key (text.take 8) (text.drop 8) (6 * n) (6 * n) = Wr.iv)) (Ev.t (v := .bool (decide (¬ (Wr.b key (text.take 8) (text.drop 8) (6 * n) (6 * n) = Wr.iv)))) rfl rfl) hc5 ?_
  refine wp_skip ?_
  refine then_n ?_
  refine wp_seq ?_
  refine wp_region_lit ?_
  refine w_val (v := .string (str (Wr.c key (text.take 8) (text.drop 8) (6 * n) (6 * n)))) (y_mv (Ev.t (v := .string (str (Wr.c key (text.take 8) (text.drop 8) (6 * n) (6 * n)))) rfl rfl)) ?_
  refine w_val (v := .string (str (Wr.c key (text.take 8) (text.drop 8) (6 * n) (6 * n)))) (y_as (Ev.t (v := .string (str (Wr.c key (text.take 8) (text.drop 8) (6 * n) (6 * n)))) rfl rfl)) ?_
  refine w_val (v := .int .i64 0) (y_as (Ev.c (v := .int .i64 0))) ?_
  refine wpList_nil ?_
  refine then_n ?_
  refine wp_ret ?_
  refine fin_ret2 rfl (Ev.t (v := .string (str (Wr.c key (text.take 8) (text.drop 8) (6 * n) (6 * n)))) rfl rfl) (Ev.t (v := .int .i64 0) rfl rfl) ?_
  exact ⟨rfl, hk⟩

set_option maxRecDepth 100000 in
set_option maxHeartbeats 1000000 in
theorem unwrap_n (key text : List (BitVec 8)) (n : Nat) (hok : Aes.okKey key.length) (hn : text.length = 8 * n + 8) (h2 : 2 ≤ n) (h128 : n ≤ 128) (ha : ¬ Wr.b key (text.take 8) (text.drop 8) (6 * n) (6 * n) = Wr.iv) (w0 : World) : Calls Try.prog 14 #[.string (str key), .string (str text)] w0 fun e w' => e = .returned (.tuple #[.string (str ([] : List (BitVec 8))), .int .i64 8]) ∧ Below w0.heap.size w0 w' := by
  have hla := Wr.len_b key (text.take 8) (text.drop 8) (by rw [List.length_take]; omega) (6 * n)
  refine enter (n := 23) Try.func14 rfl rfl rfl ?_
  have hk : Below w0.heap.size w0 w0 := Below.refl _ _
  refine wp_seq ?_
  refine wp_region_lit ?_
  refine w_val (v := .string (str ([] : List (BitVec 8)))) (y_as (Ev.c (v := .string (str ([] : List (BitVec 8)))))) ?_
  refine w_val (v := .int .i64 0) (y_as (Ev.c (v := .int .i64 0))) ?_
  refine wpList_nil ?_
  refine then_n ?_
  refine wp_seq ?_
  refine wp_region_lit ?_
  refine w_val (v := .string (str key)) (y_mv (Ev.t (v := .string (str key)) rfl rfl)) ?_
  refine w_val (v := .string (str text)) (y_mv (Ev.t (v := .string (str text)) rfl rfl)) ?_
  refine w_call (Try.func16) (by kernel_rfl) rfl (m2 (Ev.t (v := .string (str key)) rfl rfl) (Ev.t (v := .string (str text)) rfl rfl)) (value_y key text n hok hn h2 h128 w0) ?_
  rintro _ w1 ⟨rfl, hb2⟩
  refine ⟨_, rfl, ?_⟩
  replace hk := thenB hk hb2
  refine w_val (v := .tuple #[.string (str (Wr.b key (text.take 8) (text.drop 8) (6 * n) (6 * n))), .string (str (Wr.c key (text.take 8) (text.drop 8) (6 * n) (6 * n))), .int .i64 0]) (y_mv (Ev.t (v := .tuple #[.string (str (Wr.b key (text.take 8) (text.drop 8) (6 * n) (6 * n))), .string (str (Wr.c key (text.take 8) (text.drop 8) (6 * n) (6 * n))), .int .i64 0]) rfl rfl)) ?_
  refine w_val (v := .string (str (Wr.b key (text.take 8) (text.drop 8) (6 * n) (6 * n)))) (y_ext (v := .string (str (Wr.b key (text.take 8) (text.drop 8) (6 * n) (6 * n)))) (Ev.t (v := .tuple #[.string (str (Wr.b key (text.take 8) (text.drop 8) (6 * n) (6 * n))), .string (str (Wr.c key (text.take 8) (text.drop 8) (6 * n) (6 * n))), .int .i64 0]) rfl rfl) rfl) ?_
  refine w_val (v := .string (str (Wr.c key (text.take 8) (text.drop 8) (6 * n) (6 * n)))) (y_ext (v := .string (str (Wr.c key (text.take 8) (text.drop 8) (6 * n) (6 * n)))) (Ev.t (v := .tuple #[.string (str (Wr.b key (text.take 8) (text.drop 8) (6 * n) (6 * n))), .string (str (Wr.c key (text.take 8) (text.drop 8) (6 * n) (6 * n))), .int .i64 0]) rfl rfl) rfl) ?_
  refine w_val (v := .int .i64 0) (y_ext (v := .int .i64 0) (Ev.t (v := .tuple #[.string (str (Wr.b key (text.take 8) (text.drop 8) (6 * n) (6 * n))), .string (str (Wr.c key (text.take 8) (text.drop 8) (6 * n) (6 * n))), .int .i64 0]) rfl rfl) rfl) ?_
  refine w_val (v := .string (str (Wr.b key (text.take 8) (text.drop 8) (6 * n) (6 * n)))) (y_as (Ev.t (v := .string (str (Wr.b key (text.take 8) (text.drop 8) (6 * n) (6 * n)))) rfl rfl)) ?_
  refine w_val (v := .string (str (Wr.c key (text.take 8) (text.drop 8) (6 * n) (6 * n)))) (y_as (Ev.t (v := .string (str (Wr.c key (text.take 8) (text.drop 8) (6 * n) (6 * n)))) rfl rfl)) ?_
  refine w_val (v := .int .i64 0) (y_as (Ev.t (v := .int .i64 0) rfl rfl)) ?_
  refine wpList_nil ?_
  refine then_n ?_
  refine wp_seq ?_
  refine wp_seq ?_
  refine wp_region_lit ?_
  refine w_val (v := .int .i64 0) (y_mv (Ev.t (v := .int .i64 0) rfl rfl)) ?_
  refine w_val (v := .bool false) (y_bin (Ev.t (v := .int .i64 0) rfl rfl) (Ev.c (v := .int .i64 0)) b_neq) ?_
  refine wpList_nil ?_
  refine then_n ?_
  refine c_ff (Ev.t (v := .bool false) rfl rfl) ?_
  refine wp_skip ?_
  refine then_n ?_
  refine wp_seq ?_
  refine wp_seq ?_
  refine wp_region_lit ?_
  refine w_val (v := .string (str (Wr.b key (text.take 8) (text.drop 8) (6 * n) (6 * n)))) (y_mv (Ev.t (v := .string (str (Wr.b key (text.take 8) (text.drop 8) (6 * n) (6 * n)))) rfl rfl)) ?_
  refine w_call (Try.func32) (by kernel_rfl) rfl (m2 (Ev.t (v := .string (str (Wr.b key (text.take 8) (text.drop 8) (6 * n) (6 * n)))) rfl rfl) (Ev.c (v := .string (str Wr.iv)))) (same_c (Wr.b key (text.take 8) (text.drop 8) (6 * n) (6 * n)) Wr.iv (by rw [hla]; omega) w1) ?_
  rintro _ w3 ⟨rfl, hb4⟩
  refine ⟨_, rfl, ?_⟩
  replace hk := thenB hk hb4
  refine w_val (v := .bool (decide (¬ (Wr.b key (text.take 8) (text.drop 8) (6 * n) (6 * n) = Wr.iv)))) (y_notp (Ev.t (v := .bool (decide (Wr.b key (text.take 8) (text.drop 8) (6 * n) (6 * n) = Wr.iv))) rfl rfl)) ?_
  refine wpList_nil ?_
  refine then_n ?_
  have hc5 : ¬ (Wr.b key (text.take 8) (text.drop 8) (6 * n) (6 * n) = Wr.iv) := by exact ha
  refine c_t (p := ¬ (Wr.b key (text.take 8) (text.drop 8) (6 * n) (6 * n) = Wr.iv)) (Ev.t (v := .bool (decide (¬ (Wr.b key (text.take 8) (text.drop 8) (6 * n) (6 * n) = Wr.iv)))) rfl rfl) hc5 ?_
  refine wp_seq ?_
  refine wp_region_lit ?_
  refine w_val (v := .string (str ([] : List (BitVec 8)))) (y_as (Ev.c (v := .string (str ([] : List (BitVec 8)))))) ?_
  refine w_val (v := .int .i64 8) (y_as (Ev.c (v := .int .i64 8))) ?_
  refine wpList_nil ?_
  refine then_n ?_
  refine wp_ret ?_
  refine then_r ?_
  refine fin_ret2 rfl (Ev.t (v := .string (str ([] : List (BitVec 8)))) rfl rfl) (Ev.t (v := .int .i64 8) rfl rfl) ?_
  exact ⟨rfl, hk⟩

set_option maxRecDepth 100000 in
set_option maxHeartbeats 1000000 in
theorem refUnwrap_k (key text : List (BitVec 8)) (hok : ¬ Aes.okKey key.length) (w0 : World) : Calls Try.prog 15 #[.string (str key), .string (str text)] w0 fun e w' => e = .returned (.tuple #[.string (str ([] : List (BitVec 8))), .int .i64 3]) ∧ Below w0.heap.size w0 w' := by
  refine enter (n := 22) Try.func15 rfl rfl rfl ?_
  have hk : Below w0.heap.size w0 w0 := Below.refl _ _
  refine wp_seq ?_
  refine wp_region_lit ?_
  refine w_val (v := .string (str ([] : List (BitVec 8)))) (y_as (Ev.c (v := .string (str ([] : List (BitVec 8)))))) ?_
  refine w_val (v := .int .i64 0) (y_as (Ev.c (v := .int .i64 0))) ?_
  refine wpList_nil ?_
  refine then_n ?_
  refine wp_seq ?_
  refine wp_region_lit ?_
  refine w_val (v := .string (str key)) (y_mv (Ev.t (v := .string (str key)) rfl rfl)) ?_
  refine w_val (v := .string (str text)) (y_mv (Ev.t (v := .string (str text)) rfl rfl)) ?_
  refine w_call (Try.func17) (by kernel_rfl) rfl (m2 (Ev.t (v := .string (str key)) rfl rfl) (Ev.t (v := .string (str text)) rfl rfl)) (refValue_k key text hok w0) ?_
  rintro _ w1 ⟨rfl, hb2⟩
  refine ⟨_, rfl, ?_⟩
  replace hk := thenB hk hb2
  refine w_val (v := .tuple #[.string (str ([] : List (BitVec 8))), .string (str ([] : List (BitVec 8))), .int .i64 3]) (y_mv (Ev.t (v := .tuple #[.string (str ([] : List (BitVec 8))), .string (str ([] : List (BitVec 8))), .int .i64 3]) rfl rfl)) ?_
  refine w_val (v := .string (str ([] : List (BitVec 8)))) (y_ext (v := .string (str ([] : List (BitVec 8)))) (Ev.t (v := .tuple #[.string (str ([] : List (BitVec 8))), .string (str ([] : List (BitVec 8))), .int .i64 3]) rfl rfl) rfl) ?_
  refine w_val (v := .string (str ([] : List (BitVec 8)))) (y_ext (v := .string (str ([] : List (BitVec 8)))) (Ev.t (v := .tuple #[.string (str ([] : List (BitVec 8))), .string (str ([] : List (BitVec 8))), .int .i64 3]) rfl rfl) rfl) ?_
  refine w_val (v := .int .i64 3) (y_ext (v := .int .i64 3) (Ev.t (v := .tuple #[.string (str ([] : List (BitVec 8))), .string (str ([] : List (BitVec 8))), .int .i64 3]) rfl rfl) rfl) ?_
  refine w_val (v := .string (str ([] : List (BitVec 8)))) (y_as (Ev.t (v := .string (str ([] : List (BitVec 8)))) rfl rfl)) ?_
  refine w_val (v := .string (str ([] : List (BitVec 8)))) (y_as (Ev.t (v := .string (str ([] : List (BitVec 8)))) rfl rfl)) ?_
  refine w_val (v := .int .i64 3) (y_as (Ev.t (v := .int .i64 3) rfl rfl)) ?_
  refine wpList_nil ?_
  refine then_n ?_
  refine wp_seq ?_
  refine wp_seq ?_
  refine wp_region_lit ?_
  refine w_val (v := .int .i64 3) (y_mv (Ev.t (v := .int .i64 3) rfl rfl)) ?_
  refine w_val (v := .bool true) (y_bin (Ev.t (v := .int .i64 3) rfl rfl) (Ev.c (v := .int .i64 0)) b_neq) ?_
  refine wpList_nil ?_
  refine then_n ?_
  refine c_tt (Ev.t (v := .bool true) rfl rfl) ?_
  refine wp_seq ?_
  refine wp_region_lit ?_
  refine w_val (v := .int .i64 3) (y_mv (Ev.t (v := .int .i64 3) rfl rfl)) ?_
  refine w_val (v := .string (str ([] : List (BitVec 8)))) (y_as (Ev.c (v := .string (str ([] : List (BitVec 8)))))) ?_
  refine w_val (v := .int .i64 3) (y_as (Ev.t (v := .int .i64 3) rfl rfl)) ?_
  refine wpList_nil ?_
  refine then_n ?_
  refine wp_ret ?_
  refine then_r ?_
  refine fin_ret2 rfl (Ev.t (v := .string (str ([] : List (BitVec 8)))) rfl rfl) (Ev.t (v := .int .i64 3) rfl rfl) ?_
  exact ⟨rfl, hk⟩

set_option maxRecDepth 100000 in
set_option maxHeartbeats 1000000 in
theorem refUnwrap_s (key text : List (BitVec 8)) (hok : Aes.okKey key.length) (hs : ¬ (text.length % 8 = 0 ∧ 24 ≤ text.length ∧ text.length ≤ 1032)) (w0 : World) : Calls Try.prog 15 #[.string (str key), .string (str text)] w0 fun e w' => e = .returned (.tuple #[.string (str ([] : List (BitVec 8))), .int .i64 6]) ∧ Below w0.heap.size w0 w' := by
  refine enter (n := 22) Try.func15 rfl rfl rfl ?_
  have hk : Below w0.heap.size w0 w0 := Below.refl _ _
  refine wp_seq ?_
  refine wp_region_lit ?_
  refine w_val (v := .string (str ([] : List (BitVec 8)))) (y_as (Ev.c (v := .string (str ([] : List (BitVec 8)))))) ?_
  refine w_val (v := .int .i64 0) (y_as (Ev.c (v := .int .i64 0))) ?_
  refine wpList_nil ?_
  refine then_n ?_
  refine wp_seq ?_
  refine wp_region_lit ?_
  refine w_val (v := .string (str key)) (y_mv (Ev.t (v := .string (str key)) rfl rfl)) ?_
  refine w_val (v := .string (str text)) (y_mv (Ev.t (v := .string (str text)) rfl rfl)) ?_
  refine w_call (Try.func17) (by kernel_rfl) rfl (m2 (Ev.t (v := .string (str key)) rfl rfl) (Ev.t (v := .string (str text)) rfl rfl)) (refValue_s key text hok hs w0) ?_
  rintro _ w1 ⟨rfl, hb2⟩
  refine ⟨_, rfl, ?_⟩
  replace hk := thenB hk hb2
  refine w_val (v := .tuple #[.string (str ([] : List (BitVec 8))), .string (str ([] : List (BitVec 8))), .int .i64 6]) (y_mv (Ev.t (v := .tuple #[.string (str ([] : List (BitVec 8))), .string (str ([] : List (BitVec 8))), .int .i64 6]) rfl rfl)) ?_
  refine w_val (v := .string (str ([] : List (BitVec 8)))) (y_ext (v := .string (str ([] : List (BitVec 8)))) (Ev.t (v := .tuple #[.string (str ([] : List (BitVec 8))), .string (str ([] : List (BitVec 8))), .int .i64 6]) rfl rfl) rfl) ?_
  refine w_val (v := .string (str ([] : List (BitVec 8)))) (y_ext (v := .string (str ([] : List (BitVec 8)))) (Ev.t (v := .tuple #[.string (str ([] : List (BitVec 8))), .string (str ([] : List (BitVec 8))), .int .i64 6]) rfl rfl) rfl) ?_
  refine w_val (v := .int .i64 6) (y_ext (v := .int .i64 6) (Ev.t (v := .tuple #[.string (str ([] : List (BitVec 8))), .string (str ([] : List (BitVec 8))), .int .i64 6]) rfl rfl) rfl) ?_
  refine w_val (v := .string (str ([] : List (BitVec 8)))) (y_as (Ev.t (v := .string (str ([] : List (BitVec 8)))) rfl rfl)) ?_
  refine w_val (v := .string (str ([] : List (BitVec 8)))) (y_as (Ev.t (v := .string (str ([] : List (BitVec 8)))) rfl rfl)) ?_
  refine w_val (v := .int .i64 6) (y_as (Ev.t (v := .int .i64 6) rfl rfl)) ?_
  refine wpList_nil ?_
  refine then_n ?_
  refine wp_seq ?_
  refine wp_seq ?_
  refine wp_region_lit ?_
  refine w_val (v := .int .i64 6) (y_mv (Ev.t (v := .int .i64 6) rfl rfl)) ?_
  refine w_val (v := .bool true) (y_bin (Ev.t (v := .int .i64 6) rfl rfl) (Ev.c (v := .int .i64 0)) b_neq) ?_
  refine wpList_nil ?_
  refine then_n ?_
  refine c_tt (Ev.t (v := .bool true) rfl rfl) ?_
  refine wp_seq ?_
  refine wp_region_lit ?_
  refine w_val (v := .int .i64 6) (y_mv (Ev.t (v := .int .i64 6) rfl rfl)) ?_
  refine w_val (v := .string (str ([] : List (BitVec 8)))) (y_as (Ev.c (v := .string (str ([] : List (BitVec 8)))))) ?_
  refine w_val (v := .int .i64 6) (y_as (Ev.t (v := .int .i64 6) rfl rfl)) ?_
  refine wpList_nil ?_
  refine then_n ?_
  refine wp_ret ?_
  refine then_r ?_
  refine fin_ret2 rfl (Ev.t (v := .string (str ([] : List (BitVec 8)))) rfl rfl) (Ev.t (v := .int .i64 6) rfl rfl) ?_
  exact ⟨rfl, hk⟩

set_option maxRecDepth 100000 in
set_option maxHeartbeats 1000000 in
theorem refUnwrap_y (key text : List (BitVec 8)) (n : Nat) (hok : Aes.okKey key.length) (hn : text.length = 8 * n + 8) (h2 : 2 ≤ n) (h128 : n ≤ 128) (ha : Wr.b key (text.take 8) (text.drop 8) (6 * n) (6 * n) = Wr.iv) (w0 : World) : Calls Try.prog 15 #[.string (str key), .string (str text)] w0 fun e w' => e = .returned (.tuple #[.string (str (Wr.c key (text.take 8) (text.drop 8) (6 * n) (6 * n))), .int .i64 0]) ∧ Below w0.heap.size w0 w' := by
  have hla := Wr.len_b key (text.take 8) (text.drop 8) (by rw [List.length_take]; omega) (6 * n)
  refine enter (n := 22) Try.func15 rfl rfl rfl ?_
  have hk : Below w0.heap.size w0 w0 := Below.refl _ _
  refine wp_seq ?_
  refine wp_region_lit ?_
  refine w_val (v := .string (str ([] : List (BitVec 8)))) (y_as (Ev.c (v := .string (str ([] : List (BitVec 8)))))) ?_
  refine w_val (v := .int .i64 0) (y_as (Ev.c (v := .int .i64 0))) ?_
  refine wpList_nil ?_
  refine then_n ?_
  refine wp_seq ?_
  refine wp_region_lit ?_
  refine w_val (v := .string (str key)) (y_mv (Ev.t (v := .string (str key)) rfl rfl)) ?_
  refine w_val (v := .string (str text)) (y_mv (Ev.t (v := .string (str text)) rfl rfl)) ?_
  refine w_call (Try.func17) (by kernel_rfl) rfl (m2 (Ev.t (v := .string (str key)) rfl rfl) (Ev.t (v := .string (str text)) rfl rfl)) (refValue_y key text n hok hn h2 h128 w0) ?_
  rintro _ w1 ⟨rfl, hb2⟩
  refine ⟨_, rfl, ?_⟩
  replace hk := thenB hk hb2
  refine w_val (v := .tuple #[.string (str (Wr.b key (text.take 8) (text.drop 8) (6 * n) (6 * n))), .string (str (Wr.c key (text.take 8) (text.drop 8) (6 * n) (6 * n))), .int .i64 0]) (y_mv (Ev.t (v := .tuple #[.string (str (Wr.b key (text.take 8) (text.drop 8) (6 * n) (6 * n))), .string (str (Wr.c key (text.take 8) (text.drop 8) (6 * n) (6 * n))), .int .i64 0]) rfl rfl)) ?_
  refine w_val (v := .string (str (Wr.b key (text.take 8) (text.drop 8) (6 * n) (6 * n)))) (y_ext (v := .string (str (Wr.b key (text.take 8) (text.drop 8) (6 * n) (6 * n)))) (Ev.t (v := .tuple #[.string (str (Wr.b key (text.take 8) (text.drop 8) (6 * n) (6 * n))), .string (str (Wr.c key (text.take 8) (text.drop 8) (6 * n) (6 * n))), .int .i64 0]) rfl rfl) rfl) ?_
  refine w_val (v := .string (str (Wr.c key (text.take 8) (text.drop 8) (6 * n) (6 * n)))) (y_ext (v := .string (str (Wr.c key (text.take 8) (text.drop 8) (6 * n) (6 * n)))) (Ev.t (v := .tuple #[.string (str (Wr.b key (text.take 8) (text.drop 8) (6 * n) (6 * n))), .string (str (Wr.c key (text.take 8) (text.drop 8) (6 * n) (6 * n))), .int .i64 0]) rfl rfl) rfl) ?_
  refine w_val (v := .int .i64 0) (y_ext (v := .int .i64 0) (Ev.t (v := .tuple #[.string (str (Wr.b key (text.take 8) (text.drop 8) (6 * n) (6 * n))), .string (str (Wr.c key (text.take 8) (text.drop 8) (6 * n) (6 * n))), .int .i64 0]) rfl rfl) rfl) ?_
  refine w_val (v := .string (str (Wr.b key (text.take 8) (text.drop 8) (6 * n) (6 * n)))) (y_as (Ev.t (v := .string (str (Wr.b key (text.take 8) (text.drop 8) (6 * n) (6 * n)))) rfl rfl)) ?_
  refine w_val (v := .string (str (Wr.c key (text.take 8) (text.drop 8) (6 * n) (6 * n)))) (y_as (Ev.t (v := .string (str (Wr.c key (text.take 8) (text.drop 8) (6 * n) (6 * n)))) rfl rfl)) ?_
  refine w_val (v := .int .i64 0) (y_as (Ev.t (v := .int .i64 0) rfl rfl)) ?_
  refine wpList_nil ?_
  refine then_n ?_
  refine wp_seq ?_
  refine wp_seq ?_
  refine wp_region_lit ?_
  refine w_val (v := .int .i64 0) (y_mv (Ev.t (v := .int .i64 0) rfl rfl)) ?_
  refine w_val (v := .bool false) (y_bin (Ev.t (v := .int .i64 0) rfl rfl) (Ev.c (v := .int .i64 0)) b_neq) ?_
  refine wpList_nil ?_
  refine then_n ?_
  refine c_ff (Ev.t (v := .bool false) rfl rfl) ?_
  refine wp_skip ?_
  refine then_n ?_
  refine wp_seq ?_
  refine wp_seq ?_
  refine wp_region_lit ?_
  refine w_val (v := .string (str (Wr.b key (text.take 8) (text.drop 8) (6 * n) (6 * n)))) (y_mv (Ev.t (v := .string (str (Wr.b key (text.take 8) (text.drop 8) (6 * n) (6 * n)))) rfl rfl)) ?_
  refine w_val (v := .bool (decide ((Wr.b key (text.take 8) (text.drop 8) (6 * n) (6 * n)) ≠ Wr.iv))) (y_bin (Ev.t (v := .string (str (Wr.b key (text.take 8) (text.drop 8) (6 * n) (6 * n)))) rfl rfl) (Ev.c (v := .string (str Wr.iv))) b_nes) ?_
  refine wpList_nil ?_
  refine then_n ?_
  have hc3 : ¬ ((Wr.b key (text.take 8) (text.drop 8) (6 * n) (6 * n)) ≠ Wr.iv) := by exact fun h => h ha
  refine c_f (p := (Wr.b key (text.take 8) (text.drop 8) (6 * n) (6 * n)) ≠ Wr.iv) (Ev.t (v := .bool (decide ((Wr.b key (text.take 8) (text.drop 8) (6 * n) (6 * n)) ≠ Wr.iv))) rfl rfl) hc3 ?_
  refine wp_skip ?_
  refine then_n ?_
  refine wp_seq ?_
  refine wp_region_lit ?_
  refine w_val (v := .string (str (Wr.c key (text.take 8) (text.drop 8) (6 * n) (6 * n)))) (y_mv (Ev.t (v := .string (str (Wr.c key (text.take 8) (text.drop 8) (6 * n) (6 * n)))) rfl rfl)) ?_
  refine w_val (v := .string (str (Wr.c key (text.take 8) (text.drop 8) (6 * n) (6 * n)))) (y_as (Ev.t (v := .string (str (Wr.c key (text.take 8) (text.drop 8) (6 * n) (6 * n)))) rfl rfl)) ?_
  refine w_val (v := .int .i64 0) (y_as (Ev.c (v := .int .i64 0))) ?_
  refine wpList_nil ?_
  refine then_n ?_
  refine wp_ret ?_
  refine fin_ret2 rfl (Ev.t (v := .string (str (Wr.c key (text.take 8) (text.drop 8) (6 * n) (6 * n)))) rfl rfl) (Ev.t (v := .int .i64 0) rfl rfl) ?_
  exact ⟨rfl, hk⟩

set_option maxRecDepth 100000 in
set_option maxHeartbeats 1000000 in
theorem refUnwrap_n (key text : List (BitVec 8)) (n : Nat) (hok : Aes.okKey key.length) (hn : text.length = 8 * n + 8) (h2 : 2 ≤ n) (h128 : n ≤ 128) (ha : ¬ Wr.b key (text.take 8) (text.drop 8) (6 * n) (6 * n) = Wr.iv) (w0 : World) : Calls Try.prog 15 #[.string (str key), .string (str text)] w0 fun e w' => e = .returned (.tuple #[.string (str ([] : List (BitVec 8))), .int .i64 8]) ∧ Below w0.heap.size w0 w' := by
  have hla := Wr.len_b key (text.take 8) (text.drop 8) (by rw [List.length_take]; omega) (6 * n)
  refine enter (n := 22) Try.func15 rfl rfl rfl ?_
  have hk : Below w0.heap.size w0 w0 := Below.refl _ _
  refine wp_seq ?_
  refine wp_region_lit ?_
  refine w_val (v := .string (str ([] : List (BitVec 8)))) (y_as (Ev.c (v := .string (str ([] : List (BitVec 8)))))) ?_
  refine w_val (v := .int .i64 0) (y_as (Ev.c (v := .int .i64 0))) ?_
  refine wpList_nil ?_
  refine then_n ?_
  refine wp_seq ?_
  refine wp_region_lit ?_
  refine w_val (v := .string (str key)) (y_mv (Ev.t (v := .string (str key)) rfl rfl)) ?_
  refine w_val (v := .string (str text)) (y_mv (Ev.t (v := .string (str text)) rfl rfl)) ?_
  refine w_call (Try.func17) (by kernel_rfl) rfl (m2 (Ev.t (v := .string (str key)) rfl rfl) (Ev.t (v := .string (str text)) rfl rfl)) (refValue_y key text n hok hn h2 h128 w0) ?_
  rintro _ w1 ⟨rfl, hb2⟩
  refine ⟨_, rfl, ?_⟩
  replace hk := thenB hk hb2
  refine w_val (v := .tuple #[.string (str (Wr.b key (text.take 8) (text.drop 8) (6 * n) (6 * n))), .string (str (Wr.c key (text.take 8) (text.drop 8) (6 * n) (6 * n))), .int .i64 0]) (y_mv (Ev.t (v := .tuple #[.string (str (Wr.b key (text.take 8) (text.drop 8) (6 * n) (6 * n))), .string (str (Wr.c key (text.take 8) (text.drop 8) (6 * n) (6 * n))), .int .i64 0]) rfl rfl)) ?_
  refine w_val (v := .string (str (Wr.b key (text.take 8) (text.drop 8) (6 * n) (6 * n)))) (y_ext (v := .string (str (Wr.b key (text.take 8) (text.drop 8) (6 * n) (6 * n)))) (Ev.t (v := .tuple #[.string (str (Wr.b key (text.take 8) (text.drop 8) (6 * n) (6 * n))), .string (str (Wr.c key (text.take 8) (text.drop 8) (6 * n) (6 * n))), .int .i64 0]) rfl rfl) rfl) ?_
  refine w_val (v := .string (str (Wr.c key (text.take 8) (text.drop 8) (6 * n) (6 * n)))) (y_ext (v := .string (str (Wr.c key (text.take 8) (text.drop 8) (6 * n) (6 * n)))) (Ev.t (v := .tuple #[.string (str (Wr.b key (text.take 8) (text.drop 8) (6 * n) (6 * n))), .string (str (Wr.c key (text.take 8) (text.drop 8) (6 * n) (6 * n))), .int .i64 0]) rfl rfl) rfl) ?_
  refine w_val (v := .int .i64 0) (y_ext (v := .int .i64 0) (Ev.t (v := .tuple #[.string (str (Wr.b key (text.take 8) (text.drop 8) (6 * n) (6 * n))), .string (str (Wr.c key (text.take 8) (text.drop 8) (6 * n) (6 * n))), .int .i64 0]) rfl rfl) rfl) ?_
  refine w_val (v := .string (str (Wr.b key (text.take 8) (text.drop 8) (6 * n) (6 * n)))) (y_as (Ev.t (v := .string (str (Wr.b key (text.take 8) (text.drop 8) (6 * n) (6 * n)))) rfl rfl)) ?_
  refine w_val (v := .string (str (Wr.c key (text.take 8) (text.drop 8) (6 * n) (6 * n)))) (y_as (Ev.t (v := .string (str (Wr.c key (text.take 8) (text.drop 8) (6 * n) (6 * n)))) rfl rfl)) ?_
  refine w_val (v := .int .i64 0) (y_as (Ev.t (v := .int .i64 0) rfl rfl)) ?_
  refine wpList_nil ?_
  refine then_n ?_
  refine wp_seq ?_
  refine wp_seq ?_
  refine wp_region_lit ?_
  refine w_val (v := .int .i64 0) (y_mv (Ev.t (v := .int .i64 0) rfl rfl)) ?_
  refine w_val (v := .bool false) (y_bin (Ev.t (v := .int .i64 0) rfl rfl) (Ev.c (v := .int .i64 0)) b_neq) ?_
  refine wpList_nil ?_
  refine then_n ?_
  refine c_ff (Ev.t (v := .bool false) rfl rfl) ?_
  refine wp_skip ?_
  refine then_n ?_
  refine wp_seq ?_
  refine wp_seq ?_
  refine wp_region_lit ?_
  refine w_val (v := .string (str (Wr.b key (text.take 8) (text.drop 8) (6 * n) (6 * n)))) (y_mv (Ev.t (v := .string (str (Wr.b key (text.take 8) (text.drop 8) (6 * n) (6 * n)))) rfl rfl)) ?_
  refine w_val (v := .bool (decide ((Wr.b key (text.take 8) (text.drop 8) (6 * n) (6 * n)) ≠ Wr.iv))) (y_bin (Ev.t (v := .string (str (Wr.b key (text.take 8) (text.drop 8) (6 * n) (6 * n)))) rfl rfl) (Ev.c (v := .string (str Wr.iv))) b_nes) ?_
  refine wpList_nil ?_
  refine then_n ?_
  have hc3 : (Wr.b key (text.take 8) (text.drop 8) (6 * n) (6 * n)) ≠ Wr.iv := by exact ha
  refine c_t (p := (Wr.b key (text.take 8) (text.drop 8) (6 * n) (6 * n)) ≠ Wr.iv) (Ev.t (v := .bool (decide ((Wr.b key (text.take 8) (text.drop 8) (6 * n) (6 * n)) ≠ Wr.iv))) rfl rfl) hc3 ?_
  refine wp_seq ?_
  refine wp_region_lit ?_
  refine w_val (v := .string (str ([] : List (BitVec 8)))) (y_as (Ev.c (v := .string (str ([] : List (BitVec 8)))))) ?_
  refine w_val (v := .int .i64 8) (y_as (Ev.c (v := .int .i64 8))) ?_
  refine wpList_nil ?_
  refine then_n ?_
  refine wp_ret ?_
  refine then_r ?_
  refine fin_ret2 rfl (Ev.t (v := .string (str ([] : List (BitVec 8)))) rfl rfl) (Ev.t (v := .int .i64 8) rfl rfl) ?_
  exact ⟨rfl, hk⟩
end Go.Proofs.Ythmcoaadigaddaa
