/-
  Wrap: what the program and the reference compute. Conditions as each says.
-/
import Derived.Test.YthmcoaadigaddaaRows
import Derived.Test.YthmcoaadigaddaaGenMore
import Derived.Test.YthmcoaadigaddaaAesBase
import Derived.Test.YthmcoaadigaddaaOctW
import Derived.Test.YthmcoaadigaddaaWrapPlain
import Derived.ProofKit
namespace Go.Proofs.Ythmcoaadigaddaa
open Go.RowKit
set_option linter.unusedSimpArgs false
set_option linter.unusedVariables false
namespace WrapWT
theorem mixed : Try.prog.follows .mixedOrders = true := by kernel_rfl
theorem so3 : (Try.prog.underlying 3).isSome = true := by rw [Try.underlying3]; rfl
theorem sz5 : (Try.prog.info? 5).map (·.size) = some 1 := by kernel_rfl
end WrapWT
set_option maxRecDepth 100000 in
set_option maxHeartbeats 1000000 in
theorem count_c (x : Int) (t : Nat) (hx : x = (t : Int)) (ht : t ≤ 4294967296) (w0 : World) : Calls Try.prog 26 #[.int .i64 x] w0 fun e w' => e = .returned (.string (str (Wr.no t))) ∧ Below w0.heap.size w0 w' := by
  subst hx
  refine enter (n := 12) Try.func26 rfl rfl rfl ?_
  have hk : Below w0.heap.size w0 w0 := Below.refl _ _
  refine wp_seq ?_
  refine wp_region_lit ?_
  refine w_val (v := .string (str ([] : List (BitVec 8)))) (y_as (Ev.c (v := .string (str ([] : List (BitVec 8)))))) ?_
  refine wpList_nil ?_
  refine then_n ?_
  refine wp_seq ?_
  refine wp_region_lit ?_
  refine w_val (v := .int .i64 ((t : Nat) : Int)) (y_mv (Ev.t (v := .int .i64 ((t : Nat) : Int)) rfl rfl)) ?_
  refine w_val (v := U64 (BitVec.ofNat 64 t)) (y_nat_u64 (p := t) (Ev.t (v := .int .i64 ((t : Nat) : Int)) rfl rfl) (by omega) WrapWT.so3 Try.underlying35) ?_
  refine w_call (Try.func47) (by kernel_rfl) rfl (m2 (Ev.t (v := U64 (BitVec.ofNat 64 t)) rfl rfl) (Ev.c (v := .int .i64 8))) (put_c (BitVec.ofNat 64 t) 8 (by omega) (by omega) (fun h => absurd h (by omega)) w0) ?_
  rintro _ w1 ⟨rfl, hb2⟩
  refine ⟨_, rfl, ?_⟩
  replace hk := thenB hk hb2
  refine w_val (v := .tuple #[.string (str (Wr.no t)), .int .i64 0]) (y_mv (Ev.t (v := .tuple #[.string (str (Wr.no t)), .int .i64 0]) rfl rfl)) ?_
  refine w_val (v := .string (str (Wr.no t))) (y_ext (v := .string (str (Wr.no t))) (Ev.t (v := .tuple #[.string (str (Wr.no t)), .int .i64 0]) rfl rfl) rfl) ?_
  refine w_val (v := .int .i64 0) (y_ext (v := .int .i64 0) (Ev.t (v := .tuple #[.string (str (Wr.no t)), .int .i64 0]) rfl rfl) rfl) ?_
  refine w_val (v := .string (str (Wr.no t))) (y_as (Ev.t (v := .string (str (Wr.no t))) rfl rfl)) ?_
  refine w_val (v := .int .i64 0) (y_as (Ev.t (v := .int .i64 0) rfl rfl)) ?_
  refine wpList_nil ?_
  refine then_n ?_
  refine wp_seq ?_
  refine wp_region_lit ?_
  refine w_val (v := .string (str (Wr.no t))) (y_mv (Ev.t (v := .string (str (Wr.no t))) rfl rfl)) ?_
  refine w_val (v := .string (str (Wr.no t))) (y_as (Ev.t (v := .string (str (Wr.no t))) rfl rfl)) ?_
  refine wpList_nil ?_
  refine then_n ?_
  refine wp_ret ?_
  refine fin_ret1 rfl (Ev.t (v := .string (str (Wr.no t))) rfl rfl) ?_
  exact ⟨rfl, hk⟩

set_option maxRecDepth 100000 in
set_option maxHeartbeats 1000000 in
theorem refNumber_c (x : Int) (t : Nat) (hx : x = (t : Int)) (ht : t ≤ 4294967296) (w0 : World) : Calls Try.prog 31 #[.int .i64 x] w0 fun e w' => e = .returned (.string (str (Wr.no t))) ∧ Below w0.heap.size w0 w' := by
  subst hx
  refine enter (n := 12) Try.func31 rfl rfl rfl ?_
  have hk : Below w0.heap.size w0 w0 := Below.refl _ _
  refine wp_seq ?_
  refine wp_region_lit ?_
  refine w_val (v := .string (str ([] : List (BitVec 8)))) (y_as (Ev.c (v := .string (str ([] : List (BitVec 8)))))) ?_
  refine wpList_nil ?_
  refine then_n ?_
  refine wp_seq ?_
  refine wp_region_lit ?_
  refine w_val (v := .int .i64 ((t : Nat) : Int)) (y_mv (Ev.t (v := .int .i64 ((t : Nat) : Int)) rfl rfl)) ?_
  refine w_val (v := U64 (BitVec.ofNat 64 t)) (y_nat_u64 (p := t) (Ev.t (v := .int .i64 ((t : Nat) : Int)) rfl rfl) (by omega) WrapWT.so3 Try.underlying35) ?_
  refine w_call (Try.func51) (by kernel_rfl) rfl (m2 (Ev.t (v := U64 (BitVec.ofNat 64 t)) rfl rfl) (Ev.c (v := .int .i64 8))) (refPut_c (BitVec.ofNat 64 t) 8 (by omega) (by omega) (by rw [BitVec.toNat_ofNat]; omega) w0) ?_
  rintro _ w1 ⟨rfl, hb2⟩
  refine ⟨_, rfl, ?_⟩
  replace hk := thenB hk hb2
  refine w_val (v := .tuple #[.string (str (Wr.no t)), .int .i64 0]) (y_mv (Ev.t (v := .tuple #[.string (str (Wr.no t)), .int .i64 0]) rfl rfl)) ?_
  refine w_val (v := .string (str (Wr.no t))) (y_ext (v := .string (str (Wr.no t))) (Ev.t (v := .tuple #[.string (str (Wr.no t)), .int .i64 0]) rfl rfl) rfl) ?_
  refine w_val (v := .int .i64 0) (y_ext (v := .int .i64 0) (Ev.t (v := .tuple #[.string (str (Wr.no t)), .int .i64 0]) rfl rfl) rfl) ?_
  refine w_val (v := .string (str (Wr.no t))) (y_as (Ev.t (v := .string (str (Wr.no t))) rfl rfl)) ?_
  refine w_val (v := .int .i64 0) (y_as (Ev.t (v := .int .i64 0) rfl rfl)) ?_
  refine wpList_nil ?_
  refine then_n ?_
  refine wp_seq ?_
  refine wp_region_lit ?_
  refine w_val (v := .string (str (Wr.no t))) (y_mv (Ev.t (v := .string (str (Wr.no t))) rfl rfl)) ?_
  refine w_val (v := .string (str (Wr.no t))) (y_as (Ev.t (v := .string (str (Wr.no t))) rfl rfl)) ?_
  refine wpList_nil ?_
  refine then_n ?_
  refine wp_ret ?_
  refine fin_ret1 rfl (Ev.t (v := .string (str (Wr.no t))) rfl rfl) ?_
  exact ⟨rfl, hk⟩

set_option maxRecDepth 100000 in
set_option maxHeartbeats 1000000 in
theorem wrap_k (key text : List (BitVec 8)) (hok : ¬ Aes.okKey key.length) (w0 : World) : Calls Try.prog 11 #[.string (str key), .string (str text)] w0 fun e w' => e = .returned (.tuple #[.string (str ([] : List (BitVec 8))), .int .i64 3]) ∧ Below w0.heap.size w0 w' := by
  refine enter (n := 86) Try.func11 rfl rfl rfl ?_
  have hk : Below w0.heap.size w0 w0 := Below.refl _ _
  refine wp_seq ?_
  refine wp_region_lit ?_
  refine w_val (v := .string (str ([] : List (BitVec 8)))) (y_as (Ev.c (v := .string (str ([] : List (BitVec 8)))))) ?_
  refine w_val (v := .int .i64 0) (y_as (Ev.c (v := .int .i64 0))) ?_
  refine wpList_nil ?_
  refine then_n ?_
  refine wp_seq ?_
  refine wp_region_lit ?_
  refine w_val (v := .string (str key)) (y_mv (Ev.t (v := .string (str key)) rfl rfl)) ?_
  refine w_call (Try.func23) (by kernel_rfl) rfl (m1 (Ev.t (v := .string (str key)) rfl rfl)) (new_l_no key w0 hok) ?_
  rintro _ _ ⟨rfl, rfl⟩
  refine ⟨_, rfl, ?_⟩
  refine w_val (v := .tuple #[.pointer none, .int .i64 3]) (y_mv (Ev.t (v := .tuple #[.pointer none, .int .i64 3]) rfl rfl)) ?_
  refine w_val (v := .pointer none) (y_ext (v := .pointer none) (Ev.t (v := .tuple #[.pointer none, .int .i64 3]) rfl rfl) rfl) ?_
  refine w_val (v := .int .i64 3) (y_ext (v := .int .i64 3) (Ev.t (v := .tuple #[.pointer none, .int .i64 3]) rfl rfl) rfl) ?_
  refine w_val (v := .pointer none) (y_as (Ev.t (v := .pointer none) rfl rfl)) ?_
  refine w_val (v := .int .i64 3) (y_as (Ev.t (v := .int .i64 3) rfl rfl)) ?_
  refine wpList_nil ?_
  refine then_n ?_
  refine wp_seq ?_
  refine wp_seq ?_
  refine wp_region_lit ?_
  refine w_val (v := .int .i64 3) (y_mv (Ev.t (v := .int .i64 3) rfl rfl)) ?_
  refine w_val (v := .bool true) (y_bin (Ev.t (v := .int .i64 3) rfl rfl) (Ev.c (v := .int .i64 0)) b_neq) ?_
  refine wpList_nil ?_
  refine then_n ?_
  refine c_tt (Ev.t (v := .bool true) rfl rfl) ?_
  refine wp_seq ?_
  refine wp_region_lit ?_
  refine w_val (v := .int .i64 3) (y_mv (Ev.t (v := .int .i64 3) rfl rfl)) ?_
  refine w_val (v := .string (str ([] : List (BitVec 8)))) (y_as (Ev.c (v := .string (str ([] : List (BitVec 8)))))) ?_
  refine w_val (v := .int .i64 3) (y_as (Ev.t (v := .int .i64 3) rfl rfl)) ?_
  refine wpList_nil ?_
  refine then_n ?_
  refine wp_ret ?_
  refine then_r ?_
  refine fin_ret2 rfl (Ev.t (v := .string (str ([] : List (BitVec 8)))) rfl rfl) (Ev.t (v := .int .i64 3) rfl rfl) ?_
  exact ⟨rfl, hk⟩

set_option maxRecDepth 100000 in
set_option maxHeartbeats 1000000 in
theorem wrap_s (key text : List (BitVec 8)) (hok : Aes.okKey key.length) (hs : ¬ (text.length % 8 = 0 ∧ 16 ≤ text.length ∧ text.length ≤ 1024)) (w0 : World) : Calls Try.prog 11 #[.string (str key), .string (str text)] w0 fun e w' => e = .returned (.tuple #[.string (str ([] : List (BitVec 8))), .int .i64 6]) ∧ Below w0.heap.size w0 w' := by
  refine enter (n := 86) Try.func11 rfl rfl rfl ?_
  have hk : Below w0.heap.size w0 w0 := Below.refl _ _
  refine wp_seq ?_
  refine wp_region_lit ?_
  refine w_val (v := .string (str ([] : List (BitVec 8)))) (y_as (Ev.c (v := .string (str ([] : List (BitVec 8)))))) ?_
  refine w_val (v := .int .i64 0) (y_as (Ev.c (v := .int .i64 0))) ?_
  refine wpList_nil ?_
  refine then_n ?_
  refine wp_seq ?_
  refine wp_region_lit ?_
  refine w_val (v := .string (str key)) (y_mv (Ev.t (v := .string (str key)) rfl rfl)) ?_
  refine w_call (Try.func23) (by kernel_rfl) rfl (m1 (Ev.t (v := .string (str key)) rfl rfl)) (new_l key w0 hok) ?_
  rintro _ w1 ⟨p, rfl, hge_p, hc, hb_p⟩
  refine ⟨_, rfl, ?_⟩
  have ge_p : w0.heap.size ≤ p := by have := hk.size; omega
  replace hk := thenB hk hb_p
  refine w_val (v := .tuple #[.pointer (some ⟨p, 0, none⟩), .int .i64 0]) (y_mv (Ev.t (v := .tuple #[.pointer (some ⟨p, 0, none⟩), .int .i64 0]) rfl rfl)) ?_
  refine w_val (v := .pointer (some ⟨p, 0, none⟩)) (y_ext (v := .pointer (some ⟨p, 0, none⟩)) (Ev.t (v := .tuple #[.pointer (some ⟨p, 0, none⟩), .int .i64 0]) rfl rfl) rfl) ?_
  refine w_val (v := .int .i64 0) (y_ext (v := .int .i64 0) (Ev.t (v := .tuple #[.pointer (some ⟨p, 0, none⟩), .int .i64 0]) rfl rfl) rfl) ?_
  refine w_val (v := .pointer (some ⟨p, 0, none⟩)) (y_as (Ev.t (v := .pointer (some ⟨p, 0, none⟩)) rfl rfl)) ?_
  refine w_val (v := .int .i64 0) (y_as (Ev.t (v := .int .i64 0) rfl rfl)) ?_
  refine wpList_nil ?_
  refine then_n ?_
  refine wp_seq ?_
  refine wp_seq ?_
  refine wp_region_lit ?_
  refine w_val (v := .int .i64 0) (y_mv (Ev.t (v := .int .i64 0) rfl rfl)) ?_
  refine w_val (v := .bool false) (y_bin (Ev.t (v := .int .i64 0) rfl rfl) (Ev.c (v := .int .i64 0)) b_neq) ?_
  refine wpList_nil ?_
  refine then_n ?_
  refine c_ff (Ev.t (v := .bool false) rfl rfl) ?_
  refine wp_skip ?_
  refine then_n ?_
  refine wp_seq ?_
  refine wp_seq ?_
  refine wp_region_lit ?_
  refine w_val (v := .string (str text)) (y_mv (Ev.t (v := .string (str text)) rfl rfl)) ?_
  refine w_val (v := .int .i64 ((text.length : Nat) : Int)) (y_len (Ev.t (v := .string (str text)) rfl rfl) Try.underlying9) ?_
  refine w_val (v := .int .i64 (((text.length : Nat) : Int) % 8)) (y_bin (Ev.t (v := .int .i64 ((text.length : Nat) : Int)) rfl rfl) (Ev.c (v := .int .i64 8)) (b_rem (by omega))) ?_
  refine w_val (v := .bool (decide ((((text.length : Nat) : Int) % 8) ≠ 0))) (y_bin (Ev.t (v := .int .i64 (((text.length : Nat) : Int) % 8)) rfl rfl) (Ev.c (v := .int .i64 0)) b_neq) ?_
  refine w_val (v := .bool (decide ((((text.length : Nat) : Int) % 8) ≠ 0))) (y_mv (Ev.t (v := .bool (decide ((((text.length : Nat) : Int) % 8) ≠ 0))) rfl rfl)) ?_
  by_cases hc2 : (((text.length : Nat) : Int) % 8) ≠ 0
  · skip
    refine w_skip (want_no (j := 4) rfl rfl (Ev.t (v := .bool true) (Eq.trans (b := .bool (decide ((((text.length : Nat) : Int) % 8) ≠ 0))) rfl (by rw [decide_eq_true hc2])) rfl) rfl) ?_
    refine w_skip (want_no (j := 4) rfl rfl (Ev.t (v := .bool true) (Eq.trans (b := .bool (decide ((((text.length : Nat) : Int) % 8) ≠ 0))) rfl (by rw [decide_eq_true hc2])) rfl) rfl) ?_
    refine w_skip (want_no (j := 4) rfl rfl (Ev.t (v := .bool true) (Eq.trans (b := .bool (decide ((((text.length : Nat) : Int) % 8) ≠ 0))) rfl (by rw [decide_eq_true hc2])) rfl) rfl) ?_
    refine w_val (v := .bool true) (y_pick_t (Ev.t (v := .bool true) (Eq.trans (b := .bool (decide ((((text.length : Nat) : Int) % 8) ≠ 0))) rfl (by rw [decide_eq_true hc2])) rfl) (Ev.c (v := .bool true))) ?_
    refine w_val (v := .bool true) (y_mv (Ev.t (v := .bool true) rfl rfl)) ?_
    refine w_skip (want_no (j := 9) rfl rfl (Ev.t (v := .bool true) rfl rfl) rfl) ?_
    refine w_skip (want_no (j := 9) rfl rfl (Ev.t (v := .bool true) rfl rfl) rfl) ?_
    refine w_skip (want_no (j := 9) rfl rfl (Ev.t (v := .bool true) rfl rfl) rfl) ?_
    refine w_val (v := .bool true) (y_pick_t (Ev.t (v := .bool true) rfl rfl) (Ev.c (v := .bool true))) ?_
    refine wpList_nil ?_
    refine then_n ?_
    refine c_tt (Ev.t (v := .bool true) rfl rfl) ?_
    refine wp_seq ?_
    refine wp_region_lit ?_
    refine w_val (v := .string (str ([] : List (BitVec 8)))) (y_as (Ev.c (v := .string (str ([] : List (BitVec 8)))))) ?_
    refine w_val (v := .int .i64 6) (y_as (Ev.c (v := .int .i64 6))) ?_
    refine wpList_nil ?_
    refine then_n ?_
    refine wp_ret ?_
    refine then_r ?_
    refine fin_ret2 rfl (Ev.t (v := .string (str ([] : List (BitVec 8)))) rfl rfl) (Ev.t (v := .int .i64 6) rfl rfl) ?_
    exact ⟨rfl, hk⟩
  · skip
    refine w_val_g (v := .string (str text)) (want_yes (j := 4) rfl rfl (Ev.t (v := .bool false) (Eq.trans (b := .bool (decide ((((text.length : Nat) : Int) % 8) ≠ 0))) rfl (by rw [decide_eq_false hc2])) rfl) rfl) (y_mv (Ev.t (v := .string (str text)) rfl rfl)) ?_
    refine w_val_g (v := .int .i64 ((text.length : Nat) : Int)) (want_yes (j := 4) rfl rfl (Ev.t (v := .bool false) (Eq.trans (b := .bool (decide ((((text.length : Nat) : Int) % 8) ≠ 0))) rfl (by rw [decide_eq_false hc2])) rfl) rfl) (y_len (Ev.t (v := .string (str text)) rfl rfl) Try.underlying9) ?_
    refine w_val_g (v := .bool (decide (((text.length : Nat) : Int) < 16))) (want_yes (j := 4) rfl rfl (Ev.t (v := .bool false) (Eq.trans (b := .bool (decide ((((text.length : Nat) : Int) % 8) ≠ 0))) rfl (by rw [decide_eq_false hc2])) rfl) rfl) (y_bin (Ev.t (v := .int .i64 ((text.length : Nat) : Int)) rfl rfl) (Ev.c (v := .int .i64 16)) b_lss) ?_
    refine w_val (v := .bool (decide (((text.length : Nat) : Int) < 16))) (y_pick_f (Ev.t (v := .bool false) (Eq.trans (b := .bool (decide ((((text.length : Nat) : Int) % 8) ≠ 0))) rfl (by rw [decide_eq_false hc2])) rfl) (Ev.t (v := .bool (decide (((text.length : Nat) : Int) < 16))) rfl rfl)) ?_
    refine w_val (v := .bool (decide (((text.length : Nat) : Int) < 16))) (y_mv (Ev.t (v := .bool (decide (((text.length : Nat) : Int) < 16))) rfl rfl)) ?_
    by_cases hc3 : ((text.length : Nat) : Int) < 16
    · skip
      refine w_skip (want_no (j := 9) rfl rfl (Ev.t (v := .bool true) (Eq.trans (b := .bool (decide (((text.length : Nat) : Int) < 16))) rfl (by rw [decide_eq_true hc3])) rfl) rfl) ?_
      refine w_skip (want_no (j := 9) rfl rfl (Ev.t (v := .bool true) (Eq.trans (b := .bool (decide (((text.length : Nat) : Int) < 16))) rfl (by rw [decide_eq_true hc3])) rfl) rfl) ?_
      refine w_skip (want_no (j := 9) rfl rfl (Ev.t (v := .bool true) (Eq.trans (b := .bool (decide (((text.length : Nat) : Int) < 16))) rfl (by rw [decide_eq_true hc3])) rfl) rfl) ?_
      refine w_val (v := .bool true) (y_pick_t (Ev.t (v := .bool true) (Eq.trans (b := .bool (decide (((text.length : Nat) : Int) < 16))) rfl (by rw [decide_eq_true hc3])) rfl) (Ev.c (v := .bool true))) ?_
      refine wpList_nil ?_
      refine then_n ?_
      refine c_tt (Ev.t (v := .bool true) rfl rfl) ?_
      refine wp_seq ?_
      refine wp_region_lit ?_
      refine w_val (v := .string (str ([] : List (BitVec 8)))) (y_as (Ev.c (v := .string (str ([] : List (BitVec 8)))))) ?_
      refine w_val (v := .int .i64 6) (y_as (Ev.c (v := .int .i64 6))) ?_
      refine wpList_nil ?_
      refine then_n ?_
      refine wp_ret ?_
      refine then_r ?_
      refine fin_ret2 rfl (Ev.t (v := .string (str ([] : List (BitVec 8)))) rfl rfl) (Ev.t (v := .int .i64 6) rfl rfl) ?_
      exact ⟨rfl, hk⟩
    · skip
      refine w_val_g (v := .string (str text)) (want_yes (j := 9) rfl rfl (Ev.t (v := .bool false) (Eq.trans (b := .bool (decide (((text.length : Nat) : Int) < 16))) rfl (by rw [decide_eq_false hc3])) rfl) rfl) (y_mv (Ev.t (v := .string (str text)) rfl rfl)) ?_
      refine w_val_g (v := .int .i64 ((text.length : Nat) : Int)) (want_yes (j := 9) rfl rfl (Ev.t (v := .bool false) (Eq.trans (b := .bool (decide (((text.length : Nat) : Int) < 16))) rfl (by rw [decide_eq_false hc3])) rfl) rfl) (y_len (Ev.t (v := .string (str text)) rfl rfl) Try.underlying9) ?_
      refine w_val_g (v := .bool (decide (1024 < ((text.length : Nat) : Int)))) (want_yes (j := 9) rfl rfl (Ev.t (v := .bool false) (Eq.trans (b := .bool (decide (((text.length : Nat) : Int) < 16))) rfl (by rw [decide_eq_false hc3])) rfl) rfl) (y_bin (Ev.t (v := .int .i64 ((text.length : Nat) : Int)) rfl rfl) (Ev.c (v := .int .i64 1024)) b_gtr) ?_
      refine w_val (v := .bool (decide (1024 < ((text.length : Nat) : Int)))) (y_pick_f (Ev.t (v := .bool false) (Eq.trans (b := .bool (decide (((text.length : Nat) : Int) < 16))) rfl (by rw [decide_eq_false hc3])) rfl) (Ev.t (v := .bool (decide (1024 < ((text.length : Nat) : Int)))) rfl rfl)) ?_
      refine wpList_nil ?_
      refine then_n ?_
      refine c_if (p := 1024 < ((text.length : Nat) : Int)) (Ev.t (v := .bool (decide (1024 < ((text.length : Nat) : Int)))) rfl rfl) (fun hc4 => ?_) (fun hc4 => ?_)
      · skip
        refine wp_seq ?_
        refine wp_region_lit ?_
        refine w_val (v := .string (str ([] : List (BitVec 8)))) (y_as (Ev.c (v := .string (str ([] : List (BitVec 8)))))) ?_
        refine w_val (v := .int .i64 6) (y_as (Ev.c (v := .int .i64 6))) ?_
        refine wpList_nil ?_
        refine then_n ?_
        refine wp_ret ?_
        refine then_r ?_
        refine fin_ret2 rfl (Ev.t (v := .string (str ([] : List (BitVec 8)))) rfl rfl) (Ev.t (v := .int .i64 6) rfl rfl) ?_
        exact ⟨rfl, hk⟩
      · skip
        refine wp_skip ?_
        refine then_n ?_
        refine wp_seq ?_
        exfalso; omega

set_option maxRecDepth 100000 in
set_option maxHeartbeats 1000000 in
theorem wrap_y (key text : List (BitVec 8)) (n : Nat) (hok : Aes.okKey key.length) (hn : text.length = 8 * n) (h2 : 2 ≤ n) (h128 : n ≤ 128) (w0 : World) : Calls Try.prog 11 #[.string (str key), .string (str text)] w0 fun e w' => e = .returned (.tuple #[.string (str (Wr.a key text (6 * n) ++ Wr.q key text (6 * n))), .int .i64 0]) ∧ Below w0.heap.size w0 w' := by
  have hla := Wr.len_a key text hok
  have hlq := Wr.len_q key text hok (by omega)
  have hle := fun x => Aes.enc_len key x hok
  refine enter (n := 86) Try.func11 rfl rfl rfl ?_
  have hk : Below w0.heap.size w0 w0 := Below.refl _ _
  refine wp_seq ?_
  refine wp_region_lit ?_
  refine w_val (v := .string (str ([] : List (BitVec 8)))) (y_as (Ev.c (v := .string (str ([] : List (BitVec 8)))))) ?_
  refine w_val (v := .int .i64 0) (y_as (Ev.c (v := .int .i64 0))) ?_
  refine wpList_nil ?_
  refine then_n ?_
  refine wp_seq ?_
  refine wp_region_lit ?_
  refine w_val (v := .string (str key)) (y_mv (Ev.t (v := .string (str key)) rfl rfl)) ?_
  refine w_call (Try.func23) (by kernel_rfl) rfl (m1 (Ev.t (v := .string (str key)) rfl rfl)) (new_l key w0 hok) ?_
  rintro _ w1 ⟨p, rfl, hge_p, hc, hb_p⟩
  refine ⟨_, rfl, ?_⟩
  have ge_p : w0.heap.size ≤ p := by have := hk.size; omega
  replace hk := thenB hk hb_p
  refine w_val (v := .tuple #[.pointer (some ⟨p, 0, none⟩), .int .i64 0]) (y_mv (Ev.t (v := .tuple #[.pointer (some ⟨p, 0, none⟩), .int .i64 0]) rfl rfl)) ?_
  refine w_val (v := .pointer (some ⟨p, 0, none⟩)) (y_ext (v := .pointer (some ⟨p, 0, none⟩)) (Ev.t (v := .tuple #[.pointer (some ⟨p, 0, none⟩), .int .i64 0]) rfl rfl) rfl) ?_
  refine w_val (v := .int .i64 0) (y_ext (v := .int .i64 0) (Ev.t (v := .tuple #[.pointer (some ⟨p, 0, none⟩), .int .i64 0]) rfl rfl) rfl) ?_
  refine w_val (v := .pointer (some ⟨p, 0, none⟩)) (y_as (Ev.t (v := .pointer (some ⟨p, 0, none⟩)) rfl rfl)) ?_
  refine w_val (v := .int .i64 0) (y_as (Ev.t (v := .int .i64 0) rfl rfl)) ?_
  refine wpList_nil ?_
  refine then_n ?_
  refine wp_seq ?_
  refine wp_seq ?_
  refine wp_region_lit ?_
  refine w_val (v := .int .i64 0) (y_mv (Ev.t (v := .int .i64 0) rfl rfl)) ?_
  refine w_val (v := .bool false) (y_bin (Ev.t (v := .int .i64 0) rfl rfl) (Ev.c (v := .int .i64 0)) b_neq) ?_
  refine wpList_nil ?_
  refine then_n ?_
  refine c_ff (Ev.t (v := .bool false) rfl rfl) ?_
  refine wp_skip ?_
  refine then_n ?_
  refine wp_seq ?_
  refine wp_seq ?_
  refine wp_region_lit ?_
  refine w_val (v := .string (str text)) (y_mv (Ev.t (v := .string (str text)) rfl rfl)) ?_
  refine w_val (v := .int .i64 ((text.length : Nat) : Int)) (y_len (Ev.t (v := .string (str text)) rfl rfl) Try.underlying9) ?_
  refine w_val (v := .int .i64 (((text.length : Nat) : Int) % 8)) (y_bin (Ev.t (v := .int .i64 ((text.length : Nat) : Int)) rfl rfl) (Ev.c (v := .int .i64 8)) (b_rem (by omega))) ?_
  refine w_val (v := .bool (decide ((((text.length : Nat) : Int) % 8) ≠ 0))) (y_bin (Ev.t (v := .int .i64 (((text.length : Nat) : Int) % 8)) rfl rfl) (Ev.c (v := .int .i64 0)) b_neq) ?_
  refine w_val (v := .bool (decide ((((text.length : Nat) : Int) % 8) ≠ 0))) (y_mv (Ev.t (v := .bool (decide ((((text.length : Nat) : Int) % 8) ≠ 0))) rfl rfl)) ?_
  have hc2 : ¬ ((((text.length : Nat) : Int) % 8) ≠ 0) := by omega
  refine w_val_g (v := .string (str text)) (want_yes (j := 4) rfl rfl (Ev.t (v := .bool false) (Eq.trans (b := .bool (decide ((((text.length : Nat) : Int) % 8) ≠ 0))) rfl (by rw [decide_eq_false hc2])) rfl) rfl) (y_mv (Ev.t (v := .string (str text)) rfl rfl)) ?_
  refine w_val_g (v := .int .i64 ((text.length : Nat) : Int)) (want_yes (j := 4) rfl rfl (Ev.t (v := .bool false) (Eq.trans (b := .bool (decide ((((text.length : Nat) : Int) % 8) ≠ 0))) rfl (by rw [decide_eq_false hc2])) rfl) rfl) (y_len (Ev.t (v := .string (str text)) rfl rfl) Try.underlying9) ?_
  refine w_val_g (v := .bool (decide (((text.length : Nat) : Int) < 16))) (want_yes (j := 4) rfl rfl (Ev.t (v := .bool false) (Eq.trans (b := .bool (decide ((((text.length : Nat) : Int) % 8) ≠ 0))) rfl (by rw [decide_eq_false hc2])) rfl) rfl) (y_bin (Ev.t (v := .int .i64 ((text.length : Nat) : Int)) rfl rfl) (Ev.c (v := .int .i64 16)) b_lss) ?_
  refine w_val (v := .bool (decide (((text.length : Nat) : Int) < 16))) (y_pick_f (Ev.t (v := .bool false) (Eq.trans (b := .bool (decide ((((text.length : Nat) : Int) % 8) ≠ 0))) rfl (by rw [decide_eq_false hc2])) rfl) (Ev.t (v := .bool (decide (((text.length : Nat) : Int) < 16))) rfl rfl)) ?_
  refine w_val (v := .bool (decide (((text.length : Nat) : Int) < 16))) (y_mv (Ev.t (v := .bool (decide (((text.length : Nat) : Int) < 16))) rfl rfl)) ?_
  have hc3 : ¬ (((text.length : Nat) : Int) < 16) := by omega
  refine w_val_g (v := .string (str text)) (want_yes (j := 9) rfl rfl (Ev.t (v := .bool false) (Eq.trans (b := .bool (decide (((text.length : Nat) : Int) < 16))) rfl (by rw [decide_eq_false hc3])) rfl) rfl) (y_mv (Ev.t (v := .string (str text)) rfl rfl)) ?_
  refine w_val_g (v := .int .i64 ((text.length : Nat) : Int)) (want_yes (j := 9) rfl rfl (Ev.t (v := .bool false) (Eq.trans (b := .bool (decide (((text.length : Nat) : Int) < 16))) rfl (by rw [decide_eq_false hc3])) rfl) rfl) (y_len (Ev.t (v := .string (str text)) rfl rfl) Try.underlying9) ?_
  refine w_val_g (v := .bool (decide (1024 < ((text.length : Nat) : Int)))) (want_yes (j := 9) rfl rfl (Ev.t (v := .bool false) (Eq.trans (b := .bool (decide (((text.length : Nat) : Int) < 16))) rfl (by rw [decide_eq_false hc3])) rfl) rfl) (y_bin (Ev.t (v := .int .i64 ((text.length : Nat) : Int)) rfl rfl) (Ev.c (v := .int .i64 1024)) b_gtr) ?_
  refine w_val (v := .bool (decide (1024 < ((text.length : Nat) : Int)))) (y_pick_f (Ev.t (v := .bool false) (Eq.trans (b := .bool (decide (((text.length : Nat) : Int) < 16))) rfl (by rw [decide_eq_false hc3])) rfl) (Ev.t (v := .bool (decide (1024 < ((text.length : Nat) : Int)))) rfl rfl)) ?_
  refine wpList_nil ?_
  refine then_n ?_
  have hc4 : ¬ (1024 < ((text.length : Nat) : Int)) := by omega
  refine c_f (p := 1024 < ((text.length : Nat) : Int)) (Ev.t (v := .bool (decide (1024 < ((text.length : Nat) : Int)))) rfl rfl) hc4 ?_
  refine wp_skip ?_
  refine then_n ?_
  refine wp_seq ?_
  refine wp_region_lit ?_
  refine w_val (v := .string (str text)) (y_mv (Ev.t (v := .string (str text)) rfl rfl)) ?_
  refine w_bytes (Ev.t (v := .string (str text)) rfl rfl) Try.underlying9 Try.underlying47 Try.underlying5 ?_
  intro b_39 cap_b_39 w5 hbe_b_39 hc_b_39 r_b_39 hb6
  have ge_b_39 : w0.heap.size ≤ b_39 := by have := hk.size; omega
  clear hbe_b_39
  replace hk := thenB hk hb6
  replace hc := hc.below hb6
  refine w_val (v := .string (str Wr.iv)) (y_as (Ev.c (v := .string (str Wr.iv)))) ?_
  refine w_val (v := .slice (some ⟨b_39, 0, none⟩) text.length cap_b_39) (y_as (Ev.t (v := .slice (some ⟨b_39, 0, none⟩) text.length cap_b_39) rfl rfl)) ?_
  refine wpList_nil ?_
  refine then_n ?_
  refine wp_seq ?_
  refine wp_region_lit ?_
  refine w_val (v := .string (str text)) (y_mv (Ev.t (v := .string (str text)) rfl rfl)) ?_
  refine w_val (v := .int .i64 ((text.length : Nat) : Int)) (y_len (Ev.t (v := .string (str text)) rfl rfl) Try.underlying9) ?_
  refine w_val (v := .int .i64 (((text.length : Nat) : Int) / 8)) (y_bin (Ev.t (v := .int .i64 ((text.length : Nat) : Int)) rfl rfl) (Ev.c (v := .int .i64 8)) (b_quo (by omega))) ?_
  refine w_val (v := .int .i64 (((text.length : Nat) : Int) / 8)) (y_as (Ev.t (v := .int .i64 (((text.length : Nat) : Int) / 8)) rfl rfl)) ?_
  refine wpList_nil ?_
  refine then_n ?_
  refine wp_seq ?_
  refine wp_seq ?_
  refine wp_region_lit ?_
  refine w_val (v := .int .i64 0) (y_mv (Ev.c (v := .int .i64 0))) ?_
  refine wpList_nil ?_
  refine then_n ?_
  refine wp_block ?_
  refine c_loop (fun dN aN wl => ∃ (o : Nat), dN = (6 - o) ∧ ∃ f7, aN = fr 86 f7 ∧ (o ≤ 6) ∧ f7 0 = .string (str key) ∧ f7 1 = .string (str text) ∧ f7 4 = .string (str ([] : List (BitVec 8))) ∧ f7 5 = .int .i64 0 ∧ f7 6 = .pointer (some ⟨p, 0, none⟩) ∧ f7 7 = .int .i64 0 ∧ f7 8 = .string (str (Wr.a key text (n * o))) ∧ f7 9 = .slice (some ⟨b_39, 0, none⟩) text.length cap_b_39 ∧ f7 10 = .int .i64 ((n : Nat) : Int) ∧ f7 43 = .int .i64 ((o : Nat) : Int) ∧ Row wl b_39 5 text.length (fun j => U8 (gb (Wr.q key text (n * o)) j)) ∧ CiphAt Aes.bk Aes.undo wl p (Aes.words key) ∧ Below w0.heap.size w0 wl) (6 - 0) ?_ ?_
  · exact ⟨0, rfl, _, rfl, (by first | omega | with_reducible rfl | assumption | trivial | exact ⟨rfl, rfl⟩ | simp), rfl, rfl, rfl, rfl, rfl, rfl, (Eq.trans (b := .string (str Wr.iv)) rfl (by rw [Nat.mul_zero]; rfl)), rfl, (Eq.trans (b := .int .i64 (((text.length : Nat) : Int) / 8)) rfl (by congr 1; omega)), (Eq.trans (b := .int .i64 0) rfl (by first | with_reducible rfl | (with_reducible congr 1 <;> omega) | (with_reducible congr 2 <;> omega) | (with_reducible congr 3 <;> omega) | rfl)), (r_b_39.congr (fun j hj => by show _ = U8 (gb (Wr.q key text (n * 0)) j); rw [Nat.mul_zero]; rfl)), hc, hk⟩
  · skip
    clear r_b_39 hc hk
    rintro _ _ w8 ⟨o, rfl, f7, rfl, i1_0, s1_0, s1_1, s1_4, s1_5, s1_6, s1_7, s1_8, s1_9, s1_10, s1_43, r_b_39, hc, hk⟩
    have hno : n * o ≤ n * 6 := Nat.mul_le_mul_left _ i1_0
    refine wp_seq ?_
    refine wp_region_lit ?_
    refine w_val (v := .bool (decide (((o : Nat) : Int) < 6))) (y_bin (Ev.t (v := .int .i64 ((o : Nat) : Int)) s1_43 rfl) (Ev.c (v := .int .i64 6)) b_lss) ?_
    refine wpList_nil ?_
    refine then_n ?_
    refine wp_seq ?_
    refine c_if (p := ((o : Nat) : Int) < 6) (Ev.t (v := .bool (decide (((o : Nat) : Int) < 6))) rfl rfl) (fun hc9 => ?_) (fun hc9 => ?_)
    · skip
      refine wp_skip ?_
      refine then_n ?_
      refine wp_seq ?_
      refine wp_block ?_
      refine wp_seq ?_
      refine wp_region_lit ?_
      refine w_val (v := .int .i64 ((o : Nat) : Int)) (y_mv (Ev.t (v := .int .i64 ((o : Nat) : Int)) s1_43 rfl)) ?_
      refine w_val (v := .int .i64 ((o : Nat) : Int)) (y_as (Ev.t (v := .int .i64 ((o : Nat) : Int)) rfl rfl)) ?_
      refine wpList_nil ?_
      refine then_n ?_
      refine wp_seq ?_
      refine wp_region_lit ?_
      refine w_val (v := .int .i64 ((n : Nat) : Int)) (y_mv (Ev.t (v := .int .i64 ((n : Nat) : Int)) s1_10 rfl)) ?_
      refine w_val (v := .int .i64 0) (y_mv (Ev.c (v := .int .i64 0))) ?_
      refine wpList_nil ?_
      refine then_n ?_
      refine wp_block ?_
      refine c_loop (fun dN aN wl => ∃ (i : Nat), dN = (n - i) ∧ ∃ f10, aN = fr 86 f10 ∧ (i ≤ n) ∧ f10 0 = .string (str key) ∧ f10 1 = .string (str text) ∧ f10 4 = .string (str ([] : List (BitVec 8))) ∧ f10 5 = .int .i64 0 ∧ f10 6 = .pointer (some ⟨p, 0, none⟩) ∧ f10 7 = .int .i64 0 ∧ f10 8 = .string (str (Wr.a key text (n * o + i))) ∧ f10 9 = .slice (some ⟨b_39, 0, none⟩) text.length cap_b_39 ∧ f10 10 = .int .i64 ((n : Nat) : Int) ∧ f10 11 = .int .i64 ((o : Nat) : Int) ∧ f10 43 = .int .i64 ((o : Nat) : Int) ∧ f10 46 = .int .i64 ((n : Nat) : Int) ∧ f10 47 = .int .i64 ((i : Nat) : Int) ∧ Row wl b_39 5 text.length (fun j => if j < 8 * i then U8 (gb (Wr.q key text (n * o + i)) (j + 8 * (n - i))) else U8 (gb (Wr.q key text (n * o + i)) (j - 8 * i))) ∧ CiphAt Aes.bk Aes.undo wl p (Aes.words key) ∧ Below w0.heap.size w0 wl) (n - 0) ?_ ?_
      · exact ⟨0, rfl, _, rfl, (by first | omega | with_reducible rfl | assumption | trivial | exact ⟨rfl, rfl⟩ | simp), s1_0, s1_1, s1_4, s1_5, s1_6, s1_7, (by refine Eq.trans (b := .string (str (Wr.a key text (n * o)))) ?_ ?_; exact s1_8; (rfl)), s1_9, s1_10, rfl, s1_43, rfl, (Eq.trans (b := .int .i64 0) rfl (by first | with_reducible rfl | (with_reducible congr 1 <;> omega) | (with_reducible congr 2 <;> omega) | (with_reducible congr 3 <;> omega) | rfl)), (r_b_39.congr (fun j hj => by (try dsimp only); rw [if_neg (by omega)]; rfl)), hc, hk⟩
      · skip
        clear r_b_39 hc hk
        rintro _ _ w11 ⟨i, rfl, f10, rfl, i2_0, s2_0, s2_1, s2_4, s2_5, s2_6, s2_7, s2_8, s2_9, s2_10, s2_11, s2_43, s2_46, s2_47, r_b_39, hc, hk⟩
        refine wp_seq ?_
        refine wp_region_lit ?_
        refine w_val (v := .bool (decide (((i : Nat) : Int) < ((n : Nat) : Int)))) (y_bin (Ev.t (v := .int .i64 ((i : Nat) : Int)) s2_47 rfl) (Ev.t (v := .int .i64 ((n : Nat) : Int)) s2_46 rfl) b_lss) ?_
        refine wpList_nil ?_
        refine then_n ?_
        refine wp_seq ?_
        refine c_if (p := ((i : Nat) : Int) < ((n : Nat) : Int)) (Ev.t (v := .bool (decide (((i : Nat) : Int) < ((n : Nat) : Int)))) rfl rfl) (fun hc12 => ?_) (fun hc12 => ?_)
        · skip
          refine wp_skip ?_
          refine then_n ?_
          refine wp_seq ?_
          refine wp_block ?_
          refine wp_seq ?_
          refine wp_region_lit ?_
          refine w_val (v := .int .i64 ((i : Nat) : Int)) (y_mv (Ev.t (v := .int .i64 ((i : Nat) : Int)) s2_47 rfl)) ?_
          refine w_val (v := .int .i64 ((i : Nat) : Int)) (y_as (Ev.t (v := .int .i64 ((i : Nat) : Int)) rfl rfl)) ?_
          refine wpList_nil ?_
          refine then_n ?_
          refine wp_seq ?_
          refine wp_region_lit ?_
          refine w_val (v := .slice (some ⟨b_39, 0, none⟩) text.length cap_b_39) (y_mv (Ev.t (v := .slice (some ⟨b_39, 0, none⟩) text.length cap_b_39) s2_9 rfl)) ?_
          refine w_val (v := .int .i64 ((i : Nat) : Int)) (y_mv (Ev.t (v := .int .i64 ((i : Nat) : Int)) rfl rfl)) ?_
          refine w_val (v := .int .i64 (8 * ((i : Nat) : Int))) (y_bin (Ev.c (v := .int .i64 8)) (Ev.t (v := .int .i64 ((i : Nat) : Int)) rfl rfl) (b_mul (by omega))) ?_
          refine w_val (v := .int .i64 ((i : Nat) : Int)) (y_mv (Ev.t (v := .int .i64 ((i : Nat) : Int)) rfl rfl)) ?_
          refine w_val (v := .int .i64 (8 * ((i : Nat) : Int))) (y_bin (Ev.c (v := .int .i64 8)) (Ev.t (v := .int .i64 ((i : Nat) : Int)) rfl rfl) (b_mul (by omega))) ?_
          refine w_val (v := .int .i64 ((8 * ((i : Nat) : Int)) + 8)) (y_bin (Ev.t (v := .int .i64 (8 * ((i : Nat) : Int))) rfl rfl) (Ev.c (v := .int .i64 8)) (b_add (by omega))) ?_
          refine w_val (v := .slice (some ⟨b_39, (8 * i), none⟩) (((8 * i) + 8) - (8 * i)) (cap_b_39 - (8 * i))) (y_sloff (y_slv (Ev.t (v := .slice (some ⟨b_39, 0, none⟩) text.length cap_b_39) rfl rfl) (evo.s (Ev.t (v := .int .i64 (8 * ((i : Nat) : Int))) rfl rfl)) (evo.s (Ev.t (v := .int .i64 ((8 * ((i : Nat) : Int)) + 8)) rfl rfl)) Try.underlying47 WrapWT.sz5 (bnd_lh (l := (8 * i)) (h := ((8 * i) + 8)) (by omega) (by omega) (by (try simp only [hle]); omega) (by (try simp only [hle]); omega)) (by (try simp only [hle]); omega)) (by first | rfl | omega) rfl) ?_
          refine w_val (v := .slice (some ⟨b_39, (8 * i), none⟩) (((8 * i) + 8) - (8 * i)) (cap_b_39 - (8 * i))) (y_as (Ev.t (v := .slice (some ⟨b_39, (8 * i), none⟩) (((8 * i) + 8) - (8 * i)) (cap_b_39 - (8 * i))) rfl rfl)) ?_
          refine wpList_nil ?_
          refine then_n ?_
          refine wp_seq ?_
          refine wp_region_lit ?_
          refine w_val (v := .pointer (some ⟨p, 0, none⟩)) (y_mv (Ev.t (v := .pointer (some ⟨p, 0, none⟩)) s2_6 rfl)) ?_
          refine w_val (v := .string (str (Wr.a key text (n * o + i)))) (y_mv (Ev.t (v := .string (str (Wr.a key text (n * o + i)))) s2_8 rfl)) ?_
          refine w_val (v := .slice (some ⟨b_39, (8 * i), none⟩) (((8 * i) + 8) - (8 * i)) (cap_b_39 - (8 * i))) (y_mv (Ev.t (v := .slice (some ⟨b_39, (8 * i), none⟩) (((8 * i) + 8) - (8 * i)) (cap_b_39 - (8 * i))) rfl rfl)) ?_
          refine w_val (v := .string (str ((Wr.q key text (n * o + i)).take 8))) (y_str (l := (Wr.q key text (n * o + i)).take 8) (Ev.t (v := .slice (some ⟨b_39, (8 * i), none⟩) (((8 * i) + 8) - (8 * i)) (cap_b_39 - (8 * i))) rfl rfl) (by simp only [List.length_take, hlq]; omega) Try.underlying47 Try.underlying5 Try.underlying9 (fun j hj => (r_b_39.val (by omega) (by (try dsimp only); rw [if_neg (by omega), gb_take _ _ _ (by omega)]; congr 2; omega)))) ?_
          refine w_val (v := .string (str ((Wr.a key text (n * o + i)) ++ ((Wr.q key text (n * o + i)).take 8)))) (y_bin (Ev.t (v := .string (str (Wr.a key text (n * o + i)))) rfl rfl) (Ev.t (v := .string (str ((Wr.q key text (n * o + i)).take 8))) rfl rfl) (b_cat (by simp only [List.length_append, List.length_take, hla, hlq]; omega))) ?_
          refine w_call (Try.func24) (by kernel_rfl) rfl (m2 (Ev.t (v := .pointer (some ⟨p, 0, none⟩)) rfl rfl) (Ev.t (v := .string (str ((Wr.a key text (n * o + i)) ++ ((Wr.q key text (n * o + i)).take 8)))) rfl rfl)) (enc_l p key ((Wr.a key text (n * o + i)) ++ ((Wr.q key text (n * o + i)).take 8)) w11 hok hc (by simp only [List.length_append, List.length_take, hla, hlq]; omega)) ?_
          rintro _ w13 ⟨rfl, hb14⟩
          refine ⟨_, rfl, ?_⟩
          replace r_b_39 := r_b_39.step hb14
          replace hk := thenB hk hb14
          replace hc := hc.below hb14
          refine w_val (v := .tuple #[.string (str (Aes.enc (Aes.words key) ((Wr.a key text (n * o + i)) ++ ((Wr.q key text (n * o + i)).take 8)))), .int .i64 0]) (y_mv (Ev.t (v := .tuple #[.string (str (Aes.enc (Aes.words key) ((Wr.a key text (n * o + i)) ++ ((Wr.q key text (n * o + i)).take 8)))), .int .i64 0]) rfl rfl)) ?_
          refine w_val (v := .string (str (Aes.enc (Aes.words key) ((Wr.a key text (n * o + i)) ++ ((Wr.q key text (n * o + i)).take 8))))) (y_ext (v := .string (str (Aes.enc (Aes.words key) ((Wr.a key text (n * o + i)) ++ ((Wr.q key text (n * o + i)).take 8))))) (Ev.t (v := .tuple #[.string (str (Aes.enc (Aes.words key) ((Wr.a key text (n * o + i)) ++ ((Wr.q key text (n * o + i)).take 8)))), .int .i64 0]) rfl rfl) rfl) ?_
          refine w_val (v := .int .i64 0) (y_ext (v := .int .i64 0) (Ev.t (v := .tuple #[.string (str (Aes.enc (Aes.words key) ((Wr.a key text (n * o + i)) ++ ((Wr.q key text (n * o + i)).take 8)))), .int .i64 0]) rfl rfl) rfl) ?_
          refine w_val (v := .string (str (Aes.enc (Aes.words key) ((Wr.a key text (n * o + i)) ++ ((Wr.q key text (n * o + i)).take 8))))) (y_as (Ev.t (v := .string (str (Aes.enc (Aes.words key) ((Wr.a key text (n * o + i)) ++ ((Wr.q key text (n * o + i)).take 8))))) rfl rfl)) ?_
          refine w_val (v := .int .i64 0) (y_as (Ev.t (v := .int .i64 0) rfl rfl)) ?_
          refine wpList_nil ?_
          refine then_n ?_
          refine wp_seq ?_
          refine region_q WrapWT.mixed (by kernel_rfl) ?_
          refine q_val (v := .string (str (Aes.enc (Aes.words key) ((Wr.a key text (n * o + i)) ++ ((Wr.q key text (n * o + i)).take 8))))) (fun w' hw' => y_mv (Ev.t (v := .string (str (Aes.enc (Aes.words key) ((Wr.a key text (n * o + i)) ++ ((Wr.q key text (n * o + i)).take 8))))) rfl rfl)) ?_
          refine q_val (v := .string (str ((Aes.enc (Aes.words key) ((Wr.a key text (n * o + i)) ++ ((Wr.q key text (n * o + i)).take 8))).take 8))) (fun w' hw' => y_sls (Ev.t (v := .string (str (Aes.enc (Aes.words key) ((Wr.a key text (n * o + i)) ++ ((Wr.q key text (n * o + i)).take 8))))) rfl rfl) evo.no (evo.s (Ev.c (v := .int .i64 8))) Try.underlying9 (bnd_h (h := 8) (by omega) (by (try simp only [hle]); omega))) ?_
          refine q_val (v := .int .i64 ((n : Nat) : Int)) (fun w' hw' => y_mv (Ev.t (v := .int .i64 ((n : Nat) : Int)) s2_10 rfl)) ?_
          refine q_val (v := .int .i64 ((o : Nat) : Int)) (fun w' hw' => y_mv (Ev.t (v := .int .i64 ((o : Nat) : Int)) s2_11 rfl)) ?_
          refine q_val (v := .int .i64 (((n : Nat) : Int) * ((o : Nat) : Int))) (fun w' hw' => y_bin (Ev.t (v := .int .i64 ((n : Nat) : Int)) rfl rfl) (Ev.t (v := .int .i64 ((o : Nat) : Int)) rfl rfl) (b_mul (by omega))) ?_
          refine q_val (v := .int .i64 ((i : Nat) : Int)) (fun w' hw' => y_mv (Ev.t (v := .int .i64 ((i : Nat) : Int)) rfl rfl)) ?_
          refine q_val (v := .int .i64 ((((n : Nat) : Int) * ((o : Nat) : Int)) + ((i : Nat) : Int))) (fun w' hw' => y_bin (Ev.t (v := .int .i64 (((n : Nat) : Int) * ((o : Nat) : Int))) rfl rfl) (Ev.t (v := .int .i64 ((i : Nat) : Int)) rfl rfl) (b_add (by omega))) ?_
          refine q_val (v := .int .i64 (((((n : Nat) : Int) * ((o : Nat) : Int)) + ((i : Nat) : Int)) + 1)) (fun w' hw' => y_bin (Ev.t (v := .int .i64 ((((n : Nat) : Int) * ((o : Nat) : Int)) + ((i : Nat) : Int))) rfl rfl) (Ev.c (v := .int .i64 1)) (b_add (by omega))) ?_
          refine q_call (v := .string (str (Wr.no (((n * o) + i) + 1)))) (Try.func26) (by kernel_rfl) rfl (m1 (Ev.t (v := .int .i64 (((((n : Nat) : Int) * ((o : Nat) : Int)) + ((i : Nat) : Int)) + 1)) rfl rfl)) (fun w' hw' => count_c (((((n : Nat) : Int) * ((o : Nat) : Int)) + ((i : Nat) : Int)) + 1) (((n * o) + i) + 1) (by omega) (by omega) w') ?_
          refine q_call (v := .string (str (Oct.xor ((Aes.enc (Aes.words key) ((Wr.a key text (n * o + i)) ++ ((Wr.q key text (n * o + i)).take 8))).take 8) (Wr.no (((n * o) + i) + 1))))) (Try.func25) (by kernel_rfl) rfl (m2 (Ev.t (v := .string (str ((Aes.enc (Aes.words key) ((Wr.a key text (n * o + i)) ++ ((Wr.q key text (n * o + i)).take 8))).take 8))) rfl rfl) (Ev.t (v := .string (str (Wr.no (((n * o) + i) + 1)))) rfl rfl)) (fun w' hw' => xor_c ((Aes.enc (Aes.words key) ((Wr.a key text (n * o + i)) ++ ((Wr.q key text (n * o + i)).take 8))).take 8) (Wr.no (((n * o) + i) + 1)) (by simp only [List.length_take, hla, hle]; omega) w') ?_
          refine q_val (v := .string (str (Oct.xor ((Aes.enc (Aes.words key) ((Wr.a key text (n * o + i)) ++ ((Wr.q key text (n * o + i)).take 8))).take 8) (Wr.no (((n * o) + i) + 1))))) (fun w' hw' => y_as (Ev.t (v := .string (str (Oct.xor ((Aes.enc (Aes.words key) ((Wr.a key text (n * o + i)) ++ ((Wr.q key text (n * o + i)).take 8))).take 8) (Wr.no (((n * o) + i) + 1))))) rfl rfl)) ?_
          refine q_nil ?_
          intro w15 hb16
          replace r_b_39 := r_b_39.step hb16
          replace hk := thenB hk hb16
          replace hc := hc.below hb16
          refine then_n ?_
          refine wp_region_lit ?_
          refine w_val (v := .slice (some ⟨b_39, (8 * i), none⟩) (((8 * i) + 8) - (8 * i)) (cap_b_39 - (8 * i))) (y_mv (Ev.t (v := .slice (some ⟨b_39, (8 * i), none⟩) (((8 * i) + 8) - (8 * i)) (cap_b_39 - (8 * i))) rfl rfl)) ?_
          refine w_val (v := .string (str (Aes.enc (Aes.words key) ((Wr.a key text (n * o + i)) ++ ((Wr.q key text (n * o + i)).take 8))))) (y_mv (Ev.t (v := .string (str (Aes.enc (Aes.words key) ((Wr.a key text (n * o + i)) ++ ((Wr.q key text (n * o + i)).take 8))))) rfl rfl)) ?_
          refine w_val (v := .string (str ((Aes.enc (Aes.words key) ((Wr.a key text (n * o + i)) ++ ((Wr.q key text (n * o + i)).take 8))).drop 8))) (y_slf (Ev.t (v := .string (str (Aes.enc (Aes.words key) ((Wr.a key text (n * o + i)) ++ ((Wr.q key text (n * o + i)).take 8))))) rfl rfl) (evo.s (Ev.c (v := .int .i64 8))) Try.underlying9 (bnd_l (l := 8) (by omega) (by (try simp only [hle]); omega))) ?_
          have hx_hc := CiphAt.onward hc r_b_39 (by decide) (by decide)
          refine w_copys (l := (Aes.enc (Aes.words key) ((Wr.a key text (n * o + i)) ++ ((Wr.q key text (n * o + i)).take 8))).drop 8) (Ev.t (v := .slice (some ⟨b_39, (8 * i), none⟩) (((8 * i) + 8) - (8 * i)) (cap_b_39 - (8 * i))) rfl rfl) (Ev.t (v := .string (str ((Aes.enc (Aes.words key) ((Wr.a key text (n * o + i)) ++ ((Wr.q key text (n * o + i)).take 8))).drop 8))) rfl rfl) Try.underlying47 WrapWT.sz5 r_b_39 (by omega) ?_
          clear r_b_39; intro w17 r_b_39 hg18 _
          replace hk := thenG hk hg18 (by omega)
          replace hc := hx_hc _ hg18
          refine wpList_nil ?_
          refine inb_n ?_
          refine then_n ?_
          refine wp_region_lit ?_
          refine w_val (v := .int .i64 (((i : Nat) : Int) + 1)) (y_bin (Ev.t (v := .int .i64 ((i : Nat) : Int)) s2_47 rfl) (Ev.c (v := .int .i64 1)) (b_add (by omega))) ?_
          refine w_val (v := .int .i64 (((i : Nat) : Int) + 1)) (y_mv (Ev.t (v := .int .i64 (((i : Nat) : Int) + 1)) rfl rfl)) ?_
          refine wpList_nil ?_
          exact then_n ⟨_, (by omega), i + 1, rfl, _, rfl, (by first | omega | with_reducible rfl | assumption | trivial | simp), s2_0, s2_1, s2_4, s2_5, s2_6, s2_7, (Eq.trans (b := .string (str (Oct.xor ((Aes.enc (Aes.words key) ((Wr.a key text (n * o + i)) ++ ((Wr.q key text (n * o + i)).take 8))).take 8) (Wr.no (((n * o) + i) + 1))))) rfl (by rw [show n * o + (i + 1) = (n * o + i) + 1 from rfl, Wr.a_succ])), s2_9, s2_10, s2_11, s2_43, s2_46, (Eq.trans (b := .int .i64 (((i : Nat) : Int) + 1)) rfl (by first | with_reducible rfl | (with_reducible congr 1 <;> omega) | (with_reducible congr 2 <;> omega) | (with_reducible congr 3 <;> omega) | rfl)), (r_b_39.congr (fun j hj => by exact Wr.row_step key text hok n (n * o + i) i j _ hn (by omega) (by omega) (by omega))), hc, hk⟩
        · skip
          refine wp_exit ?_
          refine then_x ?_
          replace r_b_39 := r_b_39.congr (g := fun j => U8 (gb (Wr.q key text (n * (o + 1))) j)) (fun j hj => by (try dsimp only); rw [if_pos (by omega), show n * (o + 1) = n * o + i from by rw [Nat.mul_succ]; omega]; congr 2; omega)
          refine then_x ?_
          refine inb_x ?_
          refine inb_n ?_
          refine then_n ?_
          refine wp_region_lit ?_
          refine w_val (v := .int .i64 (((o : Nat) : Int) + 1)) (y_bin (Ev.t (v := .int .i64 ((o : Nat) : Int)) s2_43 rfl) (Ev.c (v := .int .i64 1)) (b_add (by omega))) ?_
          refine w_val (v := .int .i64 (((o : Nat) : Int) + 1)) (y_mv (Ev.t (v := .int .i64 (((o : Nat) : Int) + 1)) rfl rfl)) ?_
          refine wpList_nil ?_
          exact then_n ⟨_, (by omega), o + 1, rfl, _, rfl, (by first | omega | with_reducible rfl | assumption | trivial | simp), s2_0, s2_1, s2_4, s2_5, s2_6, s2_7, (by refine Eq.trans (b := .string (str (Wr.a key text (n * o + i)))) ?_ ?_; exact s2_8; (rw [show n * (o + 1) = n * o + i from by rw [Nat.mul_succ]; omega])), s2_9, s2_10, (Eq.trans (b := .int .i64 (((o : Nat) : Int) + 1)) rfl (by first | with_reducible rfl | (with_reducible congr 1 <;> omega) | (with_reducible congr 2 <;> omega) | (with_reducible congr 3 <;> omega) | rfl)), r_b_39, hc, hk⟩
    · skip
      refine wp_exit ?_
      refine then_x ?_
      replace r_b_39 := r_b_39.congr (g := fun j => U8 (gb (Wr.q key text (6 * n)) j)) (fun j hj => by rw [show o = 6 from by omega, Nat.mul_comm])
      refine then_x ?_
      refine inb_x ?_
      refine then_n ?_
      refine wp_seq ?_
      refine wp_region_lit ?_
      refine w_val (v := .string (str (Wr.a key text (n * o)))) (y_mv (Ev.t (v := .string (str (Wr.a key text (n * o)))) s1_8 rfl)) ?_
      refine w_val (v := .slice (some ⟨b_39, 0, none⟩) text.length cap_b_39) (y_mv (Ev.t (v := .slice (some ⟨b_39, 0, none⟩) text.length cap_b_39) s1_9 rfl)) ?_
      refine w_val (v := .string (str (Wr.q key text (6 * n)))) (y_str (l := Wr.q key text (6 * n)) (Ev.t (v := .slice (some ⟨b_39, 0, none⟩) text.length cap_b_39) rfl rfl) (by simp only [hlq] <;> omega) Try.underlying47 Try.underlying5 Try.underlying9 (fun j hj => (r_b_39.val (by omega) (by rw [Nat.zero_add])))) ?_
      refine w_val (v := .string (str ((Wr.a key text (n * o)) ++ (Wr.q key text (6 * n))))) (y_bin (Ev.t (v := .string (str (Wr.a key text (n * o)))) rfl rfl) (Ev.t (v := .string (str (Wr.q key text (6 * n)))) rfl rfl) (b_cat (by simp only [List.length_append, List.length_take, hla, hlq]; omega))) ?_
      refine w_val (v := .string (str ((Wr.a key text (n * o)) ++ (Wr.q key text (6 * n))))) (y_as (Ev.t (v := .string (str ((Wr.a key text (n * o)) ++ (Wr.q key text (6 * n))))) rfl rfl)) ?_
      refine w_val (v := .int .i64 0) (y_as (Ev.c (v := .int .i64 0))) ?_
      refine wpList_nil ?_
      refine then_n ?_
      refine wp_ret ?_
      refine fin_ret2 rfl (Ev.t (v := .string (str ((Wr.a key text (n * o)) ++ (Wr.q key text (6 * n))))) rfl rfl) (Ev.t (v := .int .i64 0) rfl rfl) ?_
      refine ⟨congrArg Ending.returned ?_, hk⟩
      show (.tuple #[.string (str ((Wr.a key text (n * o)) ++ (Wr.q key text (6 * n)))), .int .i64 0] : Value) = .tuple #[.string (str (Wr.a key text (6 * n) ++ Wr.q key text (6 * n))), .int .i64 0]
      rw [show o = 6 from by omega, Nat.mul_comm]

set_option maxRecDepth 100000 in
set_option maxHeartbeats 1000000 in
theorem refWrap_k (key text : List (BitVec 8)) (hok : ¬ Aes.okKey key.length) (w0 : World) : Calls Try.prog 12 #[.string (str key), .string (str text)] w0 fun e w' => e = .returned (.tuple #[.string (str ([] : List (BitVec 8))), .int .i64 3]) ∧ Below w0.heap.size w0 w' := by
  refine enter (n := 58) Try.func12 rfl rfl rfl ?_
  have hk : Below w0.heap.size w0 w0 := Below.refl _ _
  refine wp_seq ?_
  refine wp_region_lit ?_
  refine w_val (v := .string (str ([] : List (BitVec 8)))) (y_as (Ev.c (v := .string (str ([] : List (BitVec 8)))))) ?_
  refine w_val (v := .int .i64 0) (y_as (Ev.c (v := .int .i64 0))) ?_
  refine wpList_nil ?_
  refine then_n ?_
  refine wp_seq ?_
  refine wp_seq ?_
  refine wp_region_lit ?_
  refine w_val (v := .string (str key)) (y_mv (Ev.t (v := .string (str key)) rfl rfl)) ?_
  refine w_call (Try.func27) (by kernel_rfl) rfl (m1 (Ev.t (v := .string (str key)) rfl rfl)) (right_l_no key w0 hok) ?_
  rintro _ _ ⟨rfl, rfl⟩
  refine ⟨_, rfl, ?_⟩
  refine w_val (v := .bool true) (y_not (Ev.t (v := .bool false) rfl rfl)) ?_
  refine wpList_nil ?_
  refine then_n ?_
  refine c_tt (Ev.t (v := .bool true) rfl rfl) ?_
  refine wp_seq ?_
  refine wp_region_lit ?_
  refine w_val (v := .string (str ([] : List (BitVec 8)))) (y_as (Ev.c (v := .string (str ([] : List (BitVec 8)))))) ?_
  refine w_val (v := .int .i64 3) (y_as (Ev.c (v := .int .i64 3))) ?_
  refine wpList_nil ?_
  refine then_n ?_
  refine wp_ret ?_
  refine then_r ?_
  refine fin_ret2 rfl (Ev.t (v := .string (str ([] : List (BitVec 8)))) rfl rfl) (Ev.t (v := .int .i64 3) rfl rfl) ?_
  exact ⟨rfl, hk⟩

set_option maxRecDepth 100000 in
set_option maxHeartbeats 1000000 in
theorem refWrap_s (key text : List (BitVec 8)) (hok : Aes.okKey key.length) (hs : ¬ (text.length % 8 = 0 ∧ 16 ≤ text.length ∧ text.length ≤ 1024)) (w0 : World) : Calls Try.prog 12 #[.string (str key), .string (str text)] w0 fun e w' => e = .returned (.tuple #[.string (str ([] : List (BitVec 8))), .int .i64 6]) ∧ Below w0.heap.size w0 w' := by
  refine enter (n := 58) Try.func12 rfl rfl rfl ?_
  have hk : Below w0.heap.size w0 w0 := Below.refl _ _
  refine wp_seq ?_
  refine wp_region_lit ?_
  refine w_val (v := .string (str ([] : List (BitVec 8)))) (y_as (Ev.c (v := .string (str ([] : List (BitVec 8)))))) ?_
  refine w_val (v := .int .i64 0) (y_as (Ev.c (v := .int .i64 0))) ?_
  refine wpList_nil ?_
  refine then_n ?_
  refine wp_seq ?_
  refine wp_seq ?_
  refine wp_region_lit ?_
  refine w_val (v := .string (str key)) (y_mv (Ev.t (v := .string (str key)) rfl rfl)) ?_
  refine w_call (Try.func27) (by kernel_rfl) rfl (m1 (Ev.t (v := .string (str key)) rfl rfl)) (right_l key w0 hok) ?_
  rintro _ _ ⟨rfl, rfl⟩
  refine ⟨_, rfl, ?_⟩
  refine w_val (v := .bool false) (y_not (Ev.t (v := .bool true) rfl rfl)) ?_
  refine wpList_nil ?_
  refine then_n ?_
  refine c_ff (Ev.t (v := .bool false) rfl rfl) ?_
  refine wp_skip ?_
  refine then_n ?_
  refine wp_seq ?_
  refine wp_seq ?_
  refine wp_region_lit ?_
  refine w_val (v := .string (str text)) (y_mv (Ev.t (v := .string (str text)) rfl rfl)) ?_
  refine w_val (v := .int .i64 ((text.length : Nat) : Int)) (y_len (Ev.t (v := .string (str text)) rfl rfl) Try.underlying9) ?_
  refine w_val (v := .int .i64 (((text.length : Nat) : Int) % 8)) (y_bin (Ev.t (v := .int .i64 ((text.length : Nat) : Int)) rfl rfl) (Ev.c (v := .int .i64 8)) (b_rem (by omega))) ?_
  refine w_val (v := .bool (decide ((((text.length : Nat) : Int) % 8) ≠ 0))) (y_bin (Ev.t (v := .int .i64 (((text.length : Nat) : Int) % 8)) rfl rfl) (Ev.c (v := .int .i64 0)) b_neq) ?_
  refine w_val (v := .bool (decide ((((text.length : Nat) : Int) % 8) ≠ 0))) (y_mv (Ev.t (v := .bool (decide ((((text.length : Nat) : Int) % 8) ≠ 0))) rfl rfl)) ?_
  by_cases hc2 : (((text.length : Nat) : Int) % 8) ≠ 0
  · skip
    refine w_skip (want_no (j := 4) rfl rfl (Ev.t (v := .bool true) (Eq.trans (b := .bool (decide ((((text.length : Nat) : Int) % 8) ≠ 0))) rfl (by rw [decide_eq_true hc2])) rfl) rfl) ?_
    refine w_skip (want_no (j := 4) rfl rfl (Ev.t (v := .bool true) (Eq.trans (b := .bool (decide ((((text.length : Nat) : Int) % 8) ≠ 0))) rfl (by rw [decide_eq_true hc2])) rfl) rfl) ?_
    refine w_skip (want_no (j := 4) rfl rfl (Ev.t (v := .bool true) (Eq.trans (b := .bool (decide ((((text.length : Nat) : Int) % 8) ≠ 0))) rfl (by rw [decide_eq_true hc2])) rfl) rfl) ?_
    refine w_val (v := .bool true) (y_pick_t (Ev.t (v := .bool true) (Eq.trans (b := .bool (decide ((((text.length : Nat) : Int) % 8) ≠ 0))) rfl (by rw [decide_eq_true hc2])) rfl) (Ev.c (v := .bool true))) ?_
    refine w_val (v := .bool true) (y_mv (Ev.t (v := .bool true) rfl rfl)) ?_
    refine w_skip (want_no (j := 9) rfl rfl (Ev.t (v := .bool true) rfl rfl) rfl) ?_
    refine w_skip (want_no (j := 9) rfl rfl (Ev.t (v := .bool true) rfl rfl) rfl) ?_
    refine w_skip (want_no (j := 9) rfl rfl (Ev.t (v := .bool true) rfl rfl) rfl) ?_
    refine w_val (v := .bool true) (y_pick_t (Ev.t (v := .bool true) rfl rfl) (Ev.c (v := .bool true))) ?_
    refine wpList_nil ?_
    refine then_n ?_
    refine c_tt (Ev.t (v := .bool true) rfl rfl) ?_
    refine wp_seq ?_
    refine wp_region_lit ?_
    refine w_val (v := .string (str ([] : List (BitVec 8)))) (y_as (Ev.c (v := .string (str ([] : List (BitVec 8)))))) ?_
    refine w_val (v := .int .i64 6) (y_as (Ev.c (v := .int .i64 6))) ?_
    refine wpList_nil ?_
    refine then_n ?_
    refine wp_ret ?_
    refine then_r ?_
    refine fin_ret2 rfl (Ev.t (v := .string (str ([] : List (BitVec 8)))) rfl rfl) (Ev.t (v := .int .i64 6) rfl rfl) ?_
    exact ⟨rfl, hk⟩
  · skip
    refine w_val_g (v := .string (str text)) (want_yes (j := 4) rfl rfl (Ev.t (v := .bool false) (Eq.trans (b := .bool (decide ((((text.length : Nat) : Int) % 8) ≠ 0))) rfl (by rw [decide_eq_false hc2])) rfl) rfl) (y_mv (Ev.t (v := .string (str text)) rfl rfl)) ?_
    refine w_val_g (v := .int .i64 ((text.length : Nat) : Int)) (want_yes (j := 4) rfl rfl (Ev.t (v := .bool false) (Eq.trans (b := .bool (decide ((((text.length : Nat) : Int) % 8) ≠ 0))) rfl (by rw [decide_eq_false hc2])) rfl) rfl) (y_len (Ev.t (v := .string (str text)) rfl rfl) Try.underlying9) ?_
    refine w_val_g (v := .bool (decide (((text.length : Nat) : Int) < 16))) (want_yes (j := 4) rfl rfl (Ev.t (v := .bool false) (Eq.trans (b := .bool (decide ((((text.length : Nat) : Int) % 8) ≠ 0))) rfl (by rw [decide_eq_false hc2])) rfl) rfl) (y_bin (Ev.t (v := .int .i64 ((text.length : Nat) : Int)) rfl rfl) (Ev.c (v := .int .i64 16)) b_lss) ?_
    refine w_val (v := .bool (decide (((text.length : Nat) : Int) < 16))) (y_pick_f (Ev.t (v := .bool false) (Eq.trans (b := .bool (decide ((((text.length : Nat) : Int) % 8) ≠ 0))) rfl (by rw [decide_eq_false hc2])) rfl) (Ev.t (v := .bool (decide (((text.length : Nat) : Int) < 16))) rfl rfl)) ?_
    refine w_val (v := .bool (decide (((text.length : Nat) : Int) < 16))) (y_mv (Ev.t (v := .bool (decide (((text.length : Nat) : Int) < 16))) rfl rfl)) ?_
    by_cases hc3 : ((text.length : Nat) : Int) < 16
    · skip
      refine w_skip (want_no (j := 9) rfl rfl (Ev.t (v := .bool true) (Eq.trans (b := .bool (decide (((text.length : Nat) : Int) < 16))) rfl (by rw [decide_eq_true hc3])) rfl) rfl) ?_
      refine w_skip (want_no (j := 9) rfl rfl (Ev.t (v := .bool true) (Eq.trans (b := .bool (decide (((text.length : Nat) : Int) < 16))) rfl (by rw [decide_eq_true hc3])) rfl) rfl) ?_
      refine w_skip (want_no (j := 9) rfl rfl (Ev.t (v := .bool true) (Eq.trans (b := .bool (decide (((text.length : Nat) : Int) < 16))) rfl (by rw [decide_eq_true hc3])) rfl) rfl) ?_
      refine w_val (v := .bool true) (y_pick_t (Ev.t (v := .bool true) (Eq.trans (b := .bool (decide (((text.length : Nat) : Int) < 16))) rfl (by rw [decide_eq_true hc3])) rfl) (Ev.c (v := .bool true))) ?_
      refine wpList_nil ?_
      refine then_n ?_
      refine c_tt (Ev.t (v := .bool true) rfl rfl) ?_
      refine wp_seq ?_
      refine wp_region_lit ?_
      refine w_val (v := .string (str ([] : List (BitVec 8)))) (y_as (Ev.c (v := .string (str ([] : List (BitVec 8)))))) ?_
      refine w_val (v := .int .i64 6) (y_as (Ev.c (v := .int .i64 6))) ?_
      refine wpList_nil ?_
      refine then_n ?_
      refine wp_ret ?_
      refine then_r ?_
      refine fin_ret2 rfl (Ev.t (v := .string (str ([] : List (BitVec 8)))) rfl rfl) (Ev.t (v := .int .i64 6) rfl rfl) ?_
      exact ⟨rfl, hk⟩
    · skip
      refine w_val_g (v := .string (str text)) (want_yes (j := 9) rfl rfl (Ev.t (v := .bool false) (Eq.trans (b := .bool (decide (((text.length : Nat) : Int) < 16))) rfl (by rw [decide_eq_false hc3])) rfl) rfl) (y_mv (Ev.t (v := .string (str text)) rfl rfl)) ?_
      refine w_val_g (v := .int .i64 ((text.length : Nat) : Int)) (want_yes (j := 9) rfl rfl (Ev.t (v := .bool false) (Eq.trans (b := .bool (decide (((text.length : Nat) : Int) < 16))) rfl (by rw [decide_eq_false hc3])) rfl) rfl) (y_len (Ev.t (v := .string (str text)) rfl rfl) Try.underlying9) ?_
      refine w_val_g (v := .bool (decide (1024 < ((text.length : Nat) : Int)))) (want_yes (j := 9) rfl rfl (Ev.t (v := .bool false) (Eq.trans (b := .bool (decide (((text.length : Nat) : Int) < 16))) rfl (by rw [decide_eq_false hc3])) rfl) rfl) (y_bin (Ev.t (v := .int .i64 ((text.length : Nat) : Int)) rfl rfl) (Ev.c (v := .int .i64 1024)) b_gtr) ?_
      refine w_val (v := .bool (decide (1024 < ((text.length : Nat) : Int)))) (y_pick_f (Ev.t (v := .bool false) (Eq.trans (b := .bool (decide (((text.length : Nat) : Int) < 16))) rfl (by rw [decide_eq_false hc3])) rfl) (Ev.t (v := .bool (decide (1024 < ((text.length : Nat) : Int)))) rfl rfl)) ?_
      refine wpList_nil ?_
      refine then_n ?_
      refine c_if (p := 1024 < ((text.length : Nat) : Int)) (Ev.t (v := .bool (decide (1024 < ((text.length : Nat) : Int)))) rfl rfl) (fun hc4 => ?_) (fun hc4 => ?_)
      · skip
        refine wp_seq ?_
        refine wp_region_lit ?_
        refine w_val (v := .string (str ([] : List (BitVec 8)))) (y_as (Ev.c (v := .string (str ([] : List (BitVec 8)))))) ?_
        refine w_val (v := .int .i64 6) (y_as (Ev.c (v := .int .i64 6))) ?_
        refine wpList_nil ?_
        refine then_n ?_
        refine wp_ret ?_
        refine then_r ?_
        refine fin_ret2 rfl (Ev.t (v := .string (str ([] : List (BitVec 8)))) rfl rfl) (Ev.t (v := .int .i64 6) rfl rfl) ?_
        exact ⟨rfl, hk⟩
      · skip
        refine wp_skip ?_
        refine then_n ?_
        refine wp_seq ?_
        exfalso; omega

set_option maxRecDepth 100000 in
set_option maxHeartbeats 1000000 in
theorem refWrap_y (key text : List (BitVec 8)) (n : Nat) (hok : Aes.okKey key.length) (hn : text.length = 8 * n) (h2 : 2 ≤ n) (h128 : n ≤ 128) (w0 : World) : Calls Try.prog 12 #[.string (str key), .string (str text)] w0 fun e w' => e = .returned (.tuple #[.string (str (Wr.a key text (6 * n) ++ Wr.q key text (6 * n))), .int .i64 0]) ∧ Below w0.heap.size w0 w' := by
  have hla := Wr.len_a key text hok
  have hlq := Wr.len_q key text hok (by omega)
  have hle := fun x => Aes.enc_len key x hok
  refine enter (n := 58) Try.func12 rfl rfl rfl ?_
  have hk : Below w0.heap.size w0 w0 := Below.refl _ _
  refine wp_seq ?_
  refine wp_region_lit ?_
  refine w_val (v := .string (str ([] : List (BitVec 8)))) (y_as (Ev.c (v := .string (str ([] : List (BitVec 8)))))) ?_
  refine w_val (v := .int .i64 0) (y_as (Ev.c (v := .int .i64 0))) ?_
  refine wpList_nil ?_
  refine then_n ?_
  refine wp_seq ?_
  refine wp_seq ?_
  refine wp_region_lit ?_
  refine w_val (v := .string (str key)) (y_mv (Ev.t (v := .string (str key)) rfl rfl)) ?_
  refine w_call (Try.func27) (by kernel_rfl) rfl (m1 (Ev.t (v := .string (str key)) rfl rfl)) (right_l key w0 hok) ?_
  rintro _ _ ⟨rfl, rfl⟩
  refine ⟨_, rfl, ?_⟩
  refine w_val (v := .bool false) (y_not (Ev.t (v := .bool true) rfl rfl)) ?_
  refine wpList_nil ?_
  refine then_n ?_
  refine c_ff (Ev.t (v := .bool false) rfl rfl) ?_
  refine wp_skip ?_
  refine then_n ?_
  refine wp_seq ?_
  refine wp_seq ?_
  refine wp_region_lit ?_
  refine w_val (v := .string (str text)) (y_mv (Ev.t (v := .string (str text)) rfl rfl)) ?_
  refine w_val (v := .int .i64 ((text.length : Nat) : Int)) (y_len (Ev.t (v := .string (str text)) rfl rfl) Try.underlying9) ?_
  refine w_val (v := .int .i64 (((text.length : Nat) : Int) % 8)) (y_bin (Ev.t (v := .int .i64 ((text.length : Nat) : Int)) rfl rfl) (Ev.c (v := .int .i64 8)) (b_rem (by omega))) ?_
  refine w_val (v := .bool (decide ((((text.length : Nat) : Int) % 8) ≠ 0))) (y_bin (Ev.t (v := .int .i64 (((text.length : Nat) : Int) % 8)) rfl rfl) (Ev.c (v := .int .i64 0)) b_neq) ?_
  refine w_val (v := .bool (decide ((((text.length : Nat) : Int) % 8) ≠ 0))) (y_mv (Ev.t (v := .bool (decide ((((text.length : Nat) : Int) % 8) ≠ 0))) rfl rfl)) ?_
  have hc2 : ¬ ((((text.length : Nat) : Int) % 8) ≠ 0) := by omega
  refine w_val_g (v := .string (str text)) (want_yes (j := 4) rfl rfl (Ev.t (v := .bool false) (Eq.trans (b := .bool (decide ((((text.length : Nat) : Int) % 8) ≠ 0))) rfl (by rw [decide_eq_false hc2])) rfl) rfl) (y_mv (Ev.t (v := .string (str text)) rfl rfl)) ?_
  refine w_val_g (v := .int .i64 ((text.length : Nat) : Int)) (want_yes (j := 4) rfl rfl (Ev.t (v := .bool false) (Eq.trans (b := .bool (decide ((((text.length : Nat) : Int) % 8) ≠ 0))) rfl (by rw [decide_eq_false hc2])) rfl) rfl) (y_len (Ev.t (v := .string (str text)) rfl rfl) Try.underlying9) ?_
  refine w_val_g (v := .bool (decide (((text.length : Nat) : Int) < 16))) (want_yes (j := 4) rfl rfl (Ev.t (v := .bool false) (Eq.trans (b := .bool (decide ((((text.length : Nat) : Int) % 8) ≠ 0))) rfl (by rw [decide_eq_false hc2])) rfl) rfl) (y_bin (Ev.t (v := .int .i64 ((text.length : Nat) : Int)) rfl rfl) (Ev.c (v := .int .i64 16)) b_lss) ?_
  refine w_val (v := .bool (decide (((text.length : Nat) : Int) < 16))) (y_pick_f (Ev.t (v := .bool false) (Eq.trans (b := .bool (decide ((((text.length : Nat) : Int) % 8) ≠ 0))) rfl (by rw [decide_eq_false hc2])) rfl) (Ev.t (v := .bool (decide (((text.length : Nat) : Int) < 16))) rfl rfl)) ?_
  refine w_val (v := .bool (decide (((text.length : Nat) : Int) < 16))) (y_mv (Ev.t (v := .bool (decide (((text.length : Nat) : Int) < 16))) rfl rfl)) ?_
  have hc3 : ¬ (((text.length : Nat) : Int) < 16) := by omega
  refine w_val_g (v := .string (str text)) (want_yes (j := 9) rfl rfl (Ev.t (v := .bool false) (Eq.trans (b := .bool (decide (((text.length : Nat) : Int) < 16))) rfl (by rw [decide_eq_false hc3])) rfl) rfl) (y_mv (Ev.t (v := .string (str text)) rfl rfl)) ?_
  refine w_val_g (v := .int .i64 ((text.length : Nat) : Int)) (want_yes (j := 9) rfl rfl (Ev.t (v := .bool false) (Eq.trans (b := .bool (decide (((text.length : Nat) : Int) < 16))) rfl (by rw [decide_eq_false hc3])) rfl) rfl) (y_len (Ev.t (v := .string (str text)) rfl rfl) Try.underlying9) ?_
  refine w_val_g (v := .bool (decide (1024 < ((text.length : Nat) : Int)))) (want_yes (j := 9) rfl rfl (Ev.t (v := .bool false) (Eq.trans (b := .bool (decide (((text.length : Nat) : Int) < 16))) rfl (by rw [decide_eq_false hc3])) rfl) rfl) (y_bin (Ev.t (v := .int .i64 ((text.length : Nat) : Int)) rfl rfl) (Ev.c (v := .int .i64 1024)) b_gtr) ?_
  refine w_val (v := .bool (decide (1024 < ((text.length : Nat) : Int)))) (y_pick_f (Ev.t (v := .bool false) (Eq.trans (b := .bool (decide (((text.length : Nat) : Int) < 16))) rfl (by rw [decide_eq_false hc3])) rfl) (Ev.t (v := .bool (decide (1024 < ((text.length : Nat) : Int)))) rfl rfl)) ?_
  refine wpList_nil ?_
  refine then_n ?_
  have hc4 : ¬ (1024 < ((text.length : Nat) : Int)) := by omega
  refine c_f (p := 1024 < ((text.length : Nat) : Int)) (Ev.t (v := .bool (decide (1024 < ((text.length : Nat) : Int)))) rfl rfl) hc4 ?_
  refine wp_skip ?_
  refine then_n ?_
  refine wp_seq ?_
  refine wp_region_lit ?_
  refine w_val (v := .string (str key)) (y_mv (Ev.t (v := .string (str key)) rfl rfl)) ?_
  refine w_call (Try.func28) (by kernel_rfl) rfl (m1 (Ev.t (v := .string (str key)) rfl rfl)) (refNew_l key w0 hok) ?_
  rintro _ w5 ⟨bx, g, cap, rfl, hbn, hge_bx, hge_g, r_bx, r_g⟩
  refine ⟨_, rfl, ?_⟩
  have ge_bx : w0.heap.size ≤ bx := by have := hk.size; omega
  have ge_g : w0.heap.size ≤ g := by have := hk.size; omega
  replace hk := thenB hk hbn
  refine w_val (v := .pointer (some ⟨bx, 0, none⟩)) (y_as (Ev.t (v := .pointer (some ⟨bx, 0, none⟩)) rfl rfl)) ?_
  refine wpList_nil ?_
  refine then_n ?_
  refine wp_seq ?_
  refine wp_region_lit ?_
  refine w_val (v := .string (str Wr.iv)) (y_as (Ev.c (v := .string (str Wr.iv)))) ?_
  refine wpList_nil ?_
  refine then_n ?_
  refine wp_seq ?_
  refine wp_region_lit ?_
  refine w_val (v := .string (str text)) (y_mv (Ev.t (v := .string (str text)) rfl rfl)) ?_
  refine w_val (v := .string (str text)) (y_as (Ev.t (v := .string (str text)) rfl rfl)) ?_
  refine wpList_nil ?_
  refine then_n ?_
  refine wp_seq ?_
  refine wp_seq ?_
  refine wp_region_lit ?_
  refine w_val (v := .int .i64 1) (y_as (Ev.c (v := .int .i64 1))) ?_
  refine wpList_nil ?_
  refine then_n ?_
  refine wp_block ?_
  refine c_loop (fun dN aN wl => ∃ (t : Nat), dN = (6 * n - t) ∧ ∃ f6, aN = fr 58 f6 ∧ (t ≤ 6 * n) ∧ f6 0 = .string (str key) ∧ f6 1 = .string (str text) ∧ f6 4 = .string (str ([] : List (BitVec 8))) ∧ f6 5 = .int .i64 0 ∧ f6 6 = .pointer (some ⟨bx, 0, none⟩) ∧ f6 7 = .string (str (Wr.a key text (t))) ∧ f6 8 = .string (str (Wr.q key text (t))) ∧ f6 9 = .int .i64 (((t + 1) : Nat) : Int) ∧ Row wl bx 88 513 (fun j => if j < 256 then U8 (Aes.sb j) else if j < 512 then U8 (Aes.bk (j - 256)) else .slice (some ⟨g, 0, none⟩) ((Aes.words key).length) cap) ∧ Row wl g 92 ((Aes.words key).length * 4) (fun j => U8 (Aes.byteOf (Aes.gw (Aes.words key) (j / 4)) (j % 4))) ∧ Below w0.heap.size w0 wl) (6 * n - 0) ?_ ?_
  · exact ⟨0, rfl, _, rfl, (by first | omega | with_reducible rfl | assumption | trivial | exact ⟨rfl, rfl⟩ | simp), rfl, rfl, rfl, rfl, rfl, (Eq.trans (b := .string (str Wr.iv)) rfl (by rfl)), (Eq.trans (b := .string (str text)) rfl (by rfl)), (Eq.trans (b := .int .i64 1) rfl (by rfl)), r_bx, r_g, hk⟩
  · skip
    clear r_bx r_g hk
    rintro _ _ w7 ⟨t, rfl, f6, rfl, i1_0, s1_0, s1_1, s1_4, s1_5, s1_6, s1_7, s1_8, s1_9, r_bx, r_g, hk⟩
    refine wp_seq ?_
    refine wp_seq ?_
    refine wp_region_lit ?_
    refine w_val (v := .int .i64 (((t + 1) : Nat) : Int)) (y_mv (Ev.t (v := .int .i64 (((t + 1) : Nat) : Int)) s1_9 rfl)) ?_
    refine w_val (v := .string (str text)) (y_mv (Ev.t (v := .string (str text)) s1_1 rfl)) ?_
    refine w_val (v := .int .i64 ((text.length : Nat) : Int)) (y_len (Ev.t (v := .string (str text)) rfl rfl) Try.underlying9) ?_
    refine w_val (v := .int .i64 (((text.length : Nat) : Int) / 8)) (y_bin (Ev.t (v := .int .i64 ((text.length : Nat) : Int)) rfl rfl) (Ev.c (v := .int .i64 8)) (b_quo (by omega))) ?_
    refine w_val (v := .int .i64 (6 * (((text.length : Nat) : Int) / 8))) (y_bin (Ev.c (v := .int .i64 6)) (Ev.t (v := .int .i64 (((text.length : Nat) : Int) / 8)) rfl rfl) (b_mul (by omega))) ?_
    refine w_val (v := .bool (decide ((((t + 1) : Nat) : Int) ≤ (6 * (((text.length : Nat) : Int) / 8))))) (y_bin (Ev.t (v := .int .i64 (((t + 1) : Nat) : Int)) rfl rfl) (Ev.t (v := .int .i64 (6 * (((text.length : Nat) : Int) / 8))) rfl rfl) b_leq) ?_
    refine wpList_nil ?_
    refine then_n ?_
    refine c_if (p := (((t + 1) : Nat) : Int) ≤ (6 * (((text.length : Nat) : Int) / 8))) (Ev.t (v := .bool (decide ((((t + 1) : Nat) : Int) ≤ (6 * (((text.length : Nat) : Int) / 8))))) rfl rfl) (fun hc8 => ?_) (fun hc8 => ?_)
    · skip
      refine wp_skip ?_
      refine then_n ?_
      refine wp_seq ?_
      refine wp_block ?_
      refine wp_seq ?_
      refine wp_region_lit ?_
      refine w_val (v := .pointer (some ⟨bx, 0, none⟩)) (y_mv (Ev.t (v := .pointer (some ⟨bx, 0, none⟩)) s1_6 rfl)) ?_
      refine w_val (v := .string (str (Wr.a key text (t)))) (y_mv (Ev.t (v := .string (str (Wr.a key text (t)))) s1_7 rfl)) ?_
      refine w_val (v := .string (str (Wr.q key text (t)))) (y_mv (Ev.t (v := .string (str (Wr.q key text (t)))) s1_8 rfl)) ?_
      refine w_val (v := .string (str ((Wr.q key text (t)).take 8))) (y_sls (Ev.t (v := .string (str (Wr.q key text (t)))) rfl rfl) evo.no (evo.s (Ev.c (v := .int .i64 8))) Try.underlying9 (bnd_h (h := 8) (by omega) (by (try simp only [hle, hlq]); omega))) ?_
      refine w_val (v := .string (str ((Wr.a key text (t)) ++ ((Wr.q key text (t)).take 8)))) (y_bin (Ev.t (v := .string (str (Wr.a key text (t)))) rfl rfl) (Ev.t (v := .string (str ((Wr.q key text (t)).take 8))) rfl rfl) (b_cat (by simp only [List.length_append, List.length_take, List.length_drop, hla, hle, hlq]; omega))) ?_
      refine w_call (Try.func29) (by kernel_rfl) rfl (m2 (Ev.t (v := .pointer (some ⟨bx, 0, none⟩)) rfl rfl) (Ev.t (v := .string (str ((Wr.a key text (t)) ++ ((Wr.q key text (t)).take 8)))) rfl rfl)) (refEnc_l bx g cap key ((Wr.a key text (t)) ++ ((Wr.q key text (t)).take 8)) w7 hok (by simp only [List.length_append, List.length_take, hla, hlq]; omega) r_bx r_g) ?_
      rintro _ w9 ⟨rfl, hb10⟩
      refine ⟨_, rfl, ?_⟩
      replace r_bx := r_bx.step hb10
      replace r_g := r_g.step hb10
      replace hk := thenB hk hb10
      refine w_val (v := .string (str (Aes.enc (Aes.words key) ((Wr.a key text (t)) ++ ((Wr.q key text (t)).take 8))))) (y_as (Ev.t (v := .string (str (Aes.enc (Aes.words key) ((Wr.a key text (t)) ++ ((Wr.q key text (t)).take 8))))) rfl rfl)) ?_
      refine wpList_nil ?_
      refine then_n ?_
      refine wp_seq ?_
      refine region_q WrapWT.mixed (by kernel_rfl) ?_
      refine q_val (v := .string (str (Aes.enc (Aes.words key) ((Wr.a key text (t)) ++ ((Wr.q key text (t)).take 8))))) (fun w' hw' => y_mv (Ev.t (v := .string (str (Aes.enc (Aes.words key) ((Wr.a key text (t)) ++ ((Wr.q key text (t)).take 8))))) rfl rfl)) ?_
      refine q_val (v := .string (str ((Aes.enc (Aes.words key) ((Wr.a key text (t)) ++ ((Wr.q key text (t)).take 8))).take 8))) (fun w' hw' => y_sls (Ev.t (v := .string (str (Aes.enc (Aes.words key) ((Wr.a key text (t)) ++ ((Wr.q key text (t)).take 8))))) rfl rfl) evo.no (evo.s (Ev.c (v := .int .i64 8))) Try.underlying9 (bnd_h (h := 8) (by omega) (by (try simp only [hle, hlq]); omega))) ?_
      refine q_val (v := .int .i64 (((t + 1) : Nat) : Int)) (fun w' hw' => y_mv (Ev.t (v := .int .i64 (((t + 1) : Nat) : Int)) s1_9 rfl)) ?_
      refine q_call (v := .string (str (Wr.no (t + 1)))) (Try.func31) (by kernel_rfl) rfl (m1 (Ev.t (v := .int .i64 (((t + 1) : Nat) : Int)) rfl rfl)) (fun w' hw' => refNumber_c (((t + 1) : Nat) : Int) (t + 1) rfl (by omega) w') ?_
      refine q_call (v := .string (str (Oct.xor ((Aes.enc (Aes.words key) ((Wr.a key text (t)) ++ ((Wr.q key text (t)).take 8))).take 8) (Wr.no (t + 1))))) (Try.func30) (by kernel_rfl) rfl (m2 (Ev.t (v := .string (str ((Aes.enc (Aes.words key) ((Wr.a key text (t)) ++ ((Wr.q key text (t)).take 8))).take 8))) rfl rfl) (Ev.t (v := .string (str (Wr.no (t + 1)))) rfl rfl)) (fun w' hw' => refXor_c ((Aes.enc (Aes.words key) ((Wr.a key text (t)) ++ ((Wr.q key text (t)).take 8))).take 8) (Wr.no (t + 1)) (by simp only [List.length_take, hla, hle]; omega) w') ?_
      refine q_val (v := .string (str (Oct.xor ((Aes.enc (Aes.words key) ((Wr.a key text (t)) ++ ((Wr.q key text (t)).take 8))).take 8) (Wr.no (t + 1))))) (fun w' hw' => y_as (Ev.t (v := .string (str (Oct.xor ((Aes.enc (Aes.words key) ((Wr.a key text (t)) ++ ((Wr.q key text (t)).take 8))).take 8) (Wr.no (t + 1))))) rfl rfl)) ?_
      refine q_nil ?_
      intro w11 hb12
      replace r_bx := r_bx.step hb12
      replace r_g := r_g.step hb12
      replace hk := thenB hk hb12
      refine then_n ?_
      refine region_q WrapWT.mixed (by kernel_rfl) ?_
      refine q_val (v := .string (str (Wr.q key text (t)))) (fun w' hw' => y_mv (Ev.t (v := .string (str (Wr.q key text (t)))) s1_8 rfl)) ?_
      refine q_val (v := .string (str ((Wr.q key text (t)).drop 8))) (fun w' hw' => y_slf (Ev.t (v := .string (str (Wr.q key text (t)))) rfl rfl) (evo.s (Ev.c (v := .int .i64 8))) Try.underlying9 (bnd_l (l := 8) (by omega) (by (try simp only [hle, hlq]); omega))) ?_
      refine q_val (v := .string (str (Aes.enc (Aes.words key) ((Wr.a key text (t)) ++ ((Wr.q key text (t)).take 8))))) (fun w' hw' => y_mv (Ev.t (v := .string (str (Aes.enc (Aes.words key) ((Wr.a key text (t)) ++ ((Wr.q key text (t)).take 8))))) rfl rfl)) ?_
      refine q_val (v := .string (str ((Aes.enc (Aes.words key) ((Wr.a key text (t)) ++ ((Wr.q key text (t)).take 8))).drop 8))) (fun w' hw' => y_slf (Ev.t (v := .string (str (Aes.enc (Aes.words key) ((Wr.a key text (t)) ++ ((Wr.q key text (t)).take 8))))) rfl rfl) (evo.s (Ev.c (v := .int .i64 8))) Try.underlying9 (bnd_l (l := 8) (by omega) (by (try simp only [hle, hlq]); omega))) ?_
      refine q_val (v := .string (str (((Wr.q key text (t)).drop 8) ++ ((Aes.enc (Aes.words key) ((Wr.a key text (t)) ++ ((Wr.q key text (t)).take 8))).drop 8)))) (fun w' hw' => y_bin (Ev.t (v := .string (str ((Wr.q key text (t)).drop 8))) rfl rfl) (Ev.t (v := .string (str ((Aes.enc (Aes.words key) ((Wr.a key text (t)) ++ ((Wr.q key text (t)).take 8))).drop 8))) rfl rfl) (b_cat (by simp only [List.length_append, List.length_take, List.length_drop, hla, hle, hlq]; omega))) ?_
      refine q_val (v := .string (str (((Wr.q key text (t)).drop 8) ++ ((Aes.enc (Aes.words key) ((Wr.a key text (t)) ++ ((Wr.q key text (t)).take 8))).drop 8)))) (fun w' hw' => y_as (Ev.t (v := .string (str (((Wr.q key text (t)).drop 8) ++ ((Aes.enc (Aes.words key) ((Wr.a key text (t)) ++ ((Wr.q key text (t)).take 8))).drop 8)))) rfl rfl)) ?_
      refine q_nil ?_
      intro w13 hb14
      replace r_bx := r_bx.step hb14
      replace r_g := r_g.step hb14
      replace hk := thenB hk hb14
      refine inb_n ?_
      refine then_n ?_
      refine wp_region_lit ?_
      refine w_val (v := .int .i64 (((t + 1) : Nat) : Int)) (y_mv (Ev.t (v := .int .i64 (((t + 1) : Nat) : Int)) s1_9 rfl)) ?_
      refine w_val (v := .int .i64 ((((t + 1) : Nat) : Int) + 1)) (y_bin (Ev.t (v := .int .i64 (((t + 1) : Nat) : Int)) rfl rfl) (Ev.c (v := .int .i64 1)) (b_add (by omega))) ?_
      refine w_val (v := .int .i64 ((((t + 1) : Nat) : Int) + 1)) (y_as (Ev.t (v := .int .i64 ((((t + 1) : Nat) : Int) + 1)) rfl rfl)) ?_
      refine wpList_nil ?_
      exact then_n ⟨_, (by omega), t + 1, rfl, _, rfl, (by first | omega | with_reducible rfl | assumption | trivial | simp), s1_0, s1_1, s1_4, s1_5, s1_6, (Eq.trans (b := .string (str (Oct.xor ((Aes.enc (Aes.words key) ((Wr.a key text (t)) ++ ((Wr.q key text (t)).take 8))).take 8) (Wr.no (t + 1))))) rfl (by rw [Wr.a_succ])), (Eq.trans (b := .string (str (((Wr.q key text (t)).drop 8) ++ ((Aes.enc (Aes.words key) ((Wr.a key text (t)) ++ ((Wr.q key text (t)).take 8))).drop 8)))) rfl (by rw [Wr.q_succ])), (Eq.trans (b := .int .i64 ((((t + 1) : Nat) : Int) + 1)) rfl (by congr 1)), r_bx, r_g, hk⟩
    · skip
      refine wp_exit ?_
      refine then_x ?_
      refine then_x ?_
      refine inb_x ?_
      refine then_n ?_
      refine wp_seq ?_
      refine wp_region_lit ?_
      refine w_val (v := .string (str (Wr.a key text (t)))) (y_mv (Ev.t (v := .string (str (Wr.a key text (t)))) s1_7 rfl)) ?_
      refine w_val (v := .string (str (Wr.q key text (t)))) (y_mv (Ev.t (v := .string (str (Wr.q key text (t)))) s1_8 rfl)) ?_
      refine w_val (v := .string (str ((Wr.a key text (t)) ++ (Wr.q key text (t))))) (y_bin (Ev.t (v := .string (str (Wr.a key text (t)))) rfl rfl) (Ev.t (v := .string (str (Wr.q key text (t)))) rfl rfl) (b_cat (by simp only [List.length_append, List.length_take, List.length_drop, hla, hle, hlq]; omega))) ?_
      refine w_val (v := .string (str ((Wr.a key text (t)) ++ (Wr.q key text (t))))) (y_as (Ev.t (v := .string (str ((Wr.a key text (t)) ++ (Wr.q key text (t))))) rfl rfl)) ?_
      refine w_val (v := .int .i64 0) (y_as (Ev.c (v := .int .i64 0))) ?_
      refine wpList_nil ?_
      refine then_n ?_
      refine wp_ret ?_
      refine fin_ret2 rfl (Ev.t (v := .string (str ((Wr.a key text (t)) ++ (Wr.q key text (t))))) rfl rfl) (Ev.t (v := .int .i64 0) rfl rfl) ?_
      refine ⟨congrArg Ending.returned ?_, hk⟩
      show (.tuple #[.string (str ((Wr.a key text (t)) ++ (Wr.q key text (t)))), .int .i64 0] : Value) = .tuple #[.string (str (Wr.a key text (6 * n) ++ Wr.q key text (6 * n))), .int .i64 0]
      rw [show t = 6 * n from by omega]
end Go.Proofs.Ythmcoaadigaddaa
