/-
  The laws AesWords and AesEncrypts answer true. No conditions.
-/
import Derived.Test.YtcdhkpndpadbhaaGenAny
import Derived.Test.YtcdhkpndpadbhaaAesList
namespace Go.Proofs.Ytcdhkpndpadbhaa
open Go.RowKit
set_option linter.unusedSimpArgs false
set_option linter.unusedVariables false
namespace AesLawsWT
theorem mixed : Try.prog.follows .mixedOrders = true := by kernel_rfl
theorem sc41 : (Try.prog.underlying 41).map scal = some true := by rw [Try.underlying41]; rfl
theorem sz41 : (Try.prog.info? 41).map (·.size) = some 1 := by kernel_rfl
end AesLawsWT
set_option maxRecDepth 100000 in
set_option maxHeartbeats 1000000 in
theorem aesWords_no (key : List (BitVec 8)) (hok : ¬ Aes.okKey key.length) (w0 : World) : Calls Try.prog 6 #[.string (str key)] w0 fun e w' => e = .returned (.bool true) ∧ Below w0.heap.size w0 w' := by
  refine enter (n := 74) Try.func6 rfl rfl rfl ?_
  have hk : Below w0.heap.size w0 w0 := Below.refl _ _
  refine wp_seq ?_
  refine wp_region_lit ?_
  refine w_val (v := .bool false) (y_as (Ev.c (v := .bool false))) ?_
  refine wpList_nil ?_
  refine then_n ?_
  refine wp_seq ?_
  refine wp_seq ?_
  refine wp_region_lit ?_
  refine w_call (Try.func11) (by kernel_rfl) rfl m0 (wakes_c  w0) ?_
  rintro _ w1 ⟨rfl, hb2⟩
  refine ⟨_, rfl, ?_⟩
  replace hk := thenB hk hb2
  refine w_val (v := .bool false) (y_not (Ev.t (v := .bool true) rfl rfl)) ?_
  refine wpList_nil ?_
  refine then_n ?_
  refine c_ff (Ev.t (v := .bool false) rfl rfl) ?_
  refine wp_skip ?_
  refine then_n ?_
  refine wp_seq ?_
  refine wp_region_lit ?_
  refine w_val (v := .string (str key)) (y_mv (Ev.t (v := .string (str key)) rfl rfl)) ?_
  refine w_call (Try.func17) (by kernel_rfl) rfl (m1 (Ev.t (v := .string (str key)) rfl rfl)) (expand_l_no key w1 hok) ?_
  rintro _ _ ⟨rfl, rfl⟩
  refine ⟨_, rfl, ?_⟩
  refine w_val (v := .tuple #[.slice none 0 0, .int .i64 3]) (y_mv (Ev.t (v := .tuple #[.slice none 0 0, .int .i64 3]) rfl rfl)) ?_
  refine w_val (v := .slice none 0 0) (y_ext (v := .slice none 0 0) (Ev.t (v := .tuple #[.slice none 0 0, .int .i64 3]) rfl rfl) rfl) ?_
  refine w_val (v := .int .i64 3) (y_ext (v := .int .i64 3) (Ev.t (v := .tuple #[.slice none 0 0, .int .i64 3]) rfl rfl) rfl) ?_
  refine w_val (v := .slice none 0 0) (y_as (Ev.t (v := .slice none 0 0) rfl rfl)) ?_
  refine w_val (v := .int .i64 3) (y_as (Ev.t (v := .int .i64 3) rfl rfl)) ?_
  refine wpList_nil ?_
  refine then_n ?_
  refine wp_seq ?_
  refine wp_region_lit ?_
  refine w_val (v := .string (str key)) (y_mv (Ev.t (v := .string (str key)) rfl rfl)) ?_
  refine w_call (Try.func13) (by kernel_rfl) rfl (m1 (Ev.t (v := .string (str key)) rfl rfl)) (new_l_no key w1 hok) ?_
  rintro _ _ ⟨rfl, rfl⟩
  refine ⟨_, rfl, ?_⟩
  refine w_val (v := .tuple #[.pointer none, .int .i64 3]) (y_mv (Ev.t (v := .tuple #[.pointer none, .int .i64 3]) rfl rfl)) ?_
  refine w_val (v := .pointer none) (y_ext (v := .pointer none) (Ev.t (v := .tuple #[.pointer none, .int .i64 3]) rfl rfl) rfl) ?_
  refine w_val (v := .int .i64 3) (y_ext (v := .int .i64 3) (Ev.t (v := .tuple #[.pointer none, .int .i64 3]) rfl rfl) rfl) ?_
  refine w_val (v := .pointer none) (y_as (Ev.t (v := .pointer none) rfl rfl)) ?_
  refine w_val (v := .int .i64 3) (y_as (Ev.t (v := .int .i64 3) rfl rfl)) ?_
  refine wpList_nil ?_
  refine then_n ?_
  refine wp_seq ?_
  refine wp_seq ?_
  refine wp_region_lit ?_
  refine w_val (v := .string (str key)) (y_mv (Ev.t (v := .string (str key)) rfl rfl)) ?_
  refine w_call (Try.func18) (by kernel_rfl) rfl (m1 (Ev.t (v := .string (str key)) rfl rfl)) (right_l_no key w1 hok) ?_
  rintro _ _ ⟨rfl, rfl⟩
  refine ⟨_, rfl, ?_⟩
  refine w_val (v := .bool true) (y_not (Ev.t (v := .bool false) rfl rfl)) ?_
  refine wpList_nil ?_
  refine then_n ?_
  refine c_tt (Ev.t (v := .bool true) rfl rfl) ?_
  refine wp_seq ?_
  refine wp_region_lit ?_
  refine w_val (v := .slice none 0 0) (y_mv (Ev.t (v := .slice none 0 0) rfl rfl)) ?_
  refine w_val (v := .int .i64 0) (y_len_sl (Ev.t (v := .slice none 0 0) rfl rfl) Try.underlying34) ?_
  refine w_val (v := .bool true) (y_bin (Ev.t (v := .int .i64 0) rfl rfl) (Ev.c (v := .int .i64 0)) b_eql) ?_
  refine w_val (v := .bool true) (y_mv (Ev.t (v := .bool true) rfl rfl)) ?_
  refine w_val_g (v := .pointer none) (want_yes (j := 3) rfl rfl (Ev.t (v := .bool true) rfl rfl) rfl) (y_mv (Ev.t (v := .pointer none) rfl rfl)) ?_
  refine w_val_g (v := .bool true) (want_yes (j := 3) rfl rfl (Ev.t (v := .bool true) rfl rfl) rfl) (y_bin (Ev.t (v := .pointer none) rfl rfl) (Ev.c (v := .pointer none)) (b_eqp Try.underlying25)) ?_
  refine w_val (v := .bool true) (y_pick_t (Ev.t (v := .bool true) rfl rfl) (Ev.t (v := .bool true) rfl rfl)) ?_
  refine w_val (v := .bool true) (y_mv (Ev.t (v := .bool true) rfl rfl)) ?_
  refine w_val_g (v := .int .i64 3) (want_yes (j := 7) rfl rfl (Ev.t (v := .bool true) rfl rfl) rfl) (y_mv (Ev.t (v := .int .i64 3) rfl rfl)) ?_
  refine w_val_g (v := .bool true) (want_yes (j := 7) rfl rfl (Ev.t (v := .bool true) rfl rfl) rfl) (y_bin (Ev.t (v := .int .i64 3) rfl rfl) (Ev.c (v := .int .i64 3)) b_eql) ?_
  refine w_val (v := .bool true) (y_pick_t (Ev.t (v := .bool true) rfl rfl) (Ev.t (v := .bool true) rfl rfl)) ?_
  refine w_val (v := .bool true) (y_mv (Ev.t (v := .bool true) rfl rfl)) ?_
  refine w_val_g (v := .int .i64 3) (want_yes (j := 11) rfl rfl (Ev.t (v := .bool true) rfl rfl) rfl) (y_mv (Ev.t (v := .int .i64 3) rfl rfl)) ?_
  refine w_val_g (v := .bool true) (want_yes (j := 11) rfl rfl (Ev.t (v := .bool true) rfl rfl) rfl) (y_bin (Ev.t (v := .int .i64 3) rfl rfl) (Ev.c (v := .int .i64 3)) b_eql) ?_
  refine w_val (v := .bool true) (y_pick_t (Ev.t (v := .bool true) rfl rfl) (Ev.t (v := .bool true) rfl rfl)) ?_
  refine w_val (v := .bool true) (y_as (Ev.t (v := .bool true) rfl rfl)) ?_
  refine wpList_nil ?_
  refine then_n ?_
  refine wp_ret ?_
  refine then_r ?_
  refine fin_ret1 rfl (Ev.t (v := .bool true) rfl rfl) ?_
  exact ⟨rfl, hk⟩

set_option maxRecDepth 100000 in
set_option maxHeartbeats 1000000 in
theorem aesWords_yes (key : List (BitVec 8)) (hok : Aes.okKey key.length) (w0 : World) : Calls Try.prog 6 #[.string (str key)] w0 fun e w' => e = .returned (.bool true) ∧ Below w0.heap.size w0 w' := by
  have hwp := Aes.words_pos key hok
  refine enter (n := 74) Try.func6 rfl rfl rfl ?_
  have hk : Below w0.heap.size w0 w0 := Below.refl _ _
  refine wp_seq ?_
  refine wp_region_lit ?_
  refine w_val (v := .bool false) (y_as (Ev.c (v := .bool false))) ?_
  refine wpList_nil ?_
  refine then_n ?_
  refine wp_seq ?_
  refine wp_seq ?_
  refine wp_region_lit ?_
  refine w_call (Try.func11) (by kernel_rfl) rfl m0 (wakes_c  w0) ?_
  rintro _ w1 ⟨rfl, hb2⟩
  refine ⟨_, rfl, ?_⟩
  replace hk := thenB hk hb2
  refine w_val (v := .bool false) (y_not (Ev.t (v := .bool true) rfl rfl)) ?_
  refine wpList_nil ?_
  refine then_n ?_
  refine c_ff (Ev.t (v := .bool false) rfl rfl) ?_
  refine wp_skip ?_
  refine then_n ?_
  refine wp_seq ?_
  refine wp_region_lit ?_
  refine w_val (v := .string (str key)) (y_mv (Ev.t (v := .string (str key)) rfl rfl)) ?_
  refine w_call (Try.func17) (by kernel_rfl) rfl (m1 (Ev.t (v := .string (str key)) rfl rfl)) (expand_l key w1 hok) ?_
  rintro _ w3 ⟨l, rfl, hge_l, r_l, hbl⟩
  refine ⟨_, rfl, ?_⟩
  have ge_l : w0.heap.size ≤ l := by have := hk.size; omega
  replace hk := thenB hk hbl
  refine w_val (v := .tuple #[.slice (some ⟨l, 0, none⟩) ((Aes.words key).length) ((Aes.words key).length), .int .i64 0]) (y_mv (Ev.t (v := .tuple #[.slice (some ⟨l, 0, none⟩) ((Aes.words key).length) ((Aes.words key).length), .int .i64 0]) rfl rfl)) ?_
  refine w_val (v := .slice (some ⟨l, 0, none⟩) ((Aes.words key).length) ((Aes.words key).length)) (y_ext (v := .slice (some ⟨l, 0, none⟩) ((Aes.words key).length) ((Aes.words key).length)) (Ev.t (v := .tuple #[.slice (some ⟨l, 0, none⟩) ((Aes.words key).length) ((Aes.words key).length), .int .i64 0]) rfl rfl) rfl) ?_
  refine w_val (v := .int .i64 0) (y_ext (v := .int .i64 0) (Ev.t (v := .tuple #[.slice (some ⟨l, 0, none⟩) ((Aes.words key).length) ((Aes.words key).length), .int .i64 0]) rfl rfl) rfl) ?_
  refine w_val (v := .slice (some ⟨l, 0, none⟩) ((Aes.words key).length) ((Aes.words key).length)) (y_as (Ev.t (v := .slice (some ⟨l, 0, none⟩) ((Aes.words key).length) ((Aes.words key).length)) rfl rfl)) ?_
  refine w_val (v := .int .i64 0) (y_as (Ev.t (v := .int .i64 0) rfl rfl)) ?_
  refine wpList_nil ?_
  refine then_n ?_
  refine wp_seq ?_
  refine wp_region_lit ?_
  refine w_val (v := .string (str key)) (y_mv (Ev.t (v := .string (str key)) rfl rfl)) ?_
  refine w_call (Try.func13) (by kernel_rfl) rfl (m1 (Ev.t (v := .string (str key)) rfl rfl)) (new_l key w3 hok) ?_
  rintro _ w4 ⟨p, rfl, hge_p, hc, hb_p⟩
  refine ⟨_, rfl, ?_⟩
  have ge_p : w0.heap.size ≤ p := Nat.le_trans hk.size hge_p
  replace r_l := r_l.step hb_p
  replace hk := thenB hk hb_p
  refine w_val (v := .tuple #[.pointer (some ⟨p, 0, none⟩), .int .i64 0]) (y_mv (Ev.t (v := .tuple #[.pointer (some ⟨p, 0, none⟩), .int .i64 0]) rfl rfl)) ?_
  refine w_val (v := .pointer (some ⟨p, 0, none⟩)) (y_ext (v := .pointer (some ⟨p, 0, none⟩)) (Ev.t (v := .tuple #[.pointer (some ⟨p, 0, none⟩), .int .i64 0]) rfl rfl) rfl) ?_
  refine w_val (v := .int .i64 0) (y_ext (v := .int .i64 0) (Ev.t (v := .tuple #[.pointer (some ⟨p, 0, none⟩), .int .i64 0]) rfl rfl) rfl) ?_
  refine w_val (v := .pointer (some ⟨p, 0, none⟩)) (y_as (Ev.t (v := .pointer (some ⟨p, 0, none⟩)) rfl rfl)) ?_
  refine w_val (v := .int .i64 0) (y_as (Ev.t (v := .int .i64 0) rfl rfl)) ?_
  refine wpList_nil ?_
  refine then_n ?_
  refine wp_seq ?_
  refine wp_seq ?_
  refine wp_region_lit ?_
  refine w_val (v := .string (str key)) (y_mv (Ev.t (v := .string (str key)) rfl rfl)) ?_
  refine w_call (Try.func18) (by kernel_rfl) rfl (m1 (Ev.t (v := .string (str key)) rfl rfl)) (right_l key w4 hok) ?_
  rintro _ _ ⟨rfl, rfl⟩
  refine ⟨_, rfl, ?_⟩
  refine w_val (v := .bool false) (y_not (Ev.t (v := .bool true) rfl rfl)) ?_
  refine wpList_nil ?_
  refine then_n ?_
  refine c_ff (Ev.t (v := .bool false) rfl rfl) ?_
  refine wp_skip ?_
  refine then_n ?_
  refine wp_seq ?_
  refine wp_region_lit ?_
  refine w_val (v := .string (str key)) (y_mv (Ev.t (v := .string (str key)) rfl rfl)) ?_
  refine w_call (Try.func19) (by kernel_rfl) rfl (m1 (Ev.t (v := .string (str key)) rfl rfl)) (refNew_l key w4 hok) ?_
  rintro _ w6 ⟨bx, g, cap, rfl, hbn, hge_bx, hge_g, r_bx, r_g⟩
  refine ⟨_, rfl, ?_⟩
  have ne_l_bx : l ≠ bx := by have := r_l.lt; omega
  have ge_bx : w0.heap.size ≤ bx := by have := hk.size; omega
  have ne_l_g : l ≠ g := by have := r_l.lt; omega
  have ge_g : w0.heap.size ≤ g := by have := hk.size; omega
  replace r_l := r_l.step hbn
  replace hk := thenB hk hbn
  replace hc := hc.below hbn
  refine w_call (Try.func20) (by kernel_rfl) rfl (m1 (Ev.t (v := .pointer (some ⟨bx, 0, none⟩)) rfl rfl)) (refWords_l bx g (Aes.words key).length cap (Aes.words key) (by omega) (by omega) w6 r_bx r_g) ?_
  rintro _ w7 ⟨m, cm, rfl, hbm, hge_m, r_m⟩
  refine ⟨_, rfl, ?_⟩
  have ne_l_m : l ≠ m := by have := r_l.lt; omega
  have ne_bx_m : bx ≠ m := by have := r_bx.lt; omega
  have ne_g_m : g ≠ m := by have := r_g.lt; omega
  have ge_m : w0.heap.size ≤ m := by have := hk.size; omega
  replace r_l := r_l.step hbm
  replace r_bx := r_bx.step hbm
  replace r_g := r_g.step hbm
  replace hk := thenB hk hbm
  replace hc := hc.below hbm
  refine w_val (v := .slice (some ⟨m, 0, none⟩) ((Aes.words key).length) cm) (y_as (Ev.t (v := .slice (some ⟨m, 0, none⟩) ((Aes.words key).length) cm) rfl rfl)) ?_
  refine wpList_nil ?_
  refine then_n ?_
  refine wp_seq ?_
  refine wp_seq ?_
  refine wp_region_lit ?_
  refine w_val (v := .int .i64 0) (y_mv (Ev.t (v := .int .i64 0) rfl rfl)) ?_
  refine w_val (v := .bool false) (y_bin (Ev.t (v := .int .i64 0) rfl rfl) (Ev.c (v := .int .i64 0)) b_neq) ?_
  refine w_val (v := .bool false) (y_mv (Ev.t (v := .bool false) rfl rfl)) ?_
  refine w_val_g (v := .int .i64 0) (want_yes (j := 2) rfl rfl (Ev.t (v := .bool false) rfl rfl) rfl) (y_mv (Ev.t (v := .int .i64 0) rfl rfl)) ?_
  refine w_val_g (v := .bool false) (want_yes (j := 2) rfl rfl (Ev.t (v := .bool false) rfl rfl) rfl) (y_bin (Ev.t (v := .int .i64 0) rfl rfl) (Ev.c (v := .int .i64 0)) b_neq) ?_
  refine w_val (v := .bool false) (y_pick_f (Ev.t (v := .bool false) rfl rfl) (Ev.t (v := .bool false) rfl rfl)) ?_
  refine w_val (v := .bool false) (y_mv (Ev.t (v := .bool false) rfl rfl)) ?_
  refine w_val_g (v := .pointer (some ⟨p, 0, none⟩)) (want_yes (j := 6) rfl rfl (Ev.t (v := .bool false) rfl rfl) rfl) (y_mv (Ev.t (v := .pointer (some ⟨p, 0, none⟩)) rfl rfl)) ?_
  refine w_val_g (v := .bool false) (want_yes (j := 6) rfl rfl (Ev.t (v := .bool false) rfl rfl) rfl) (y_bin (Ev.t (v := .pointer (some ⟨p, 0, none⟩)) rfl rfl) (Ev.c (v := .pointer none)) (b_eqp Try.underlying25)) ?_
  refine w_val (v := .bool false) (y_pick_f (Ev.t (v := .bool false) rfl rfl) (Ev.t (v := .bool false) rfl rfl)) ?_
  refine w_val (v := .bool false) (y_mv (Ev.t (v := .bool false) rfl rfl)) ?_
  refine w_val_g (v := .slice (some ⟨l, 0, none⟩) ((Aes.words key).length) ((Aes.words key).length)) (want_yes (j := 10) rfl rfl (Ev.t (v := .bool false) rfl rfl) rfl) (y_mv (Ev.t (v := .slice (some ⟨l, 0, none⟩) ((Aes.words key).length) ((Aes.words key).length)) rfl rfl)) ?_
  refine w_val_g (v := .int .i64 (((Aes.words key).length : Nat) : Int)) (want_yes (j := 10) rfl rfl (Ev.t (v := .bool false) rfl rfl) rfl) (y_len_sl (Ev.t (v := .slice (some ⟨l, 0, none⟩) ((Aes.words key).length) ((Aes.words key).length)) rfl rfl) Try.underlying34) ?_
  refine w_val_g (v := .slice (some ⟨m, 0, none⟩) ((Aes.words key).length) cm) (want_yes (j := 10) rfl rfl (Ev.t (v := .bool false) rfl rfl) rfl) (y_mv (Ev.t (v := .slice (some ⟨m, 0, none⟩) ((Aes.words key).length) cm) rfl rfl)) ?_
  refine w_val_g (v := .int .i64 (((Aes.words key).length : Nat) : Int)) (want_yes (j := 10) rfl rfl (Ev.t (v := .bool false) rfl rfl) rfl) (y_len_sl (Ev.t (v := .slice (some ⟨m, 0, none⟩) ((Aes.words key).length) cm) rfl rfl) Try.underlying34) ?_
  refine w_val_g (v := .bool (decide ((((Aes.words key).length : Nat) : Int) ≠ (((Aes.words key).length : Nat) : Int)))) (want_yes (j := 10) rfl rfl (Ev.t (v := .bool false) rfl rfl) rfl) (y_bin (Ev.t (v := .int .i64 (((Aes.words key).length : Nat) : Int)) rfl rfl) (Ev.t (v := .int .i64 (((Aes.words key).length : Nat) : Int)) rfl rfl) b_neq) ?_
  refine w_val (v := .bool (decide ((((Aes.words key).length : Nat) : Int) ≠ (((Aes.words key).length : Nat) : Int)))) (y_pick_f (Ev.t (v := .bool false) rfl rfl) (Ev.t (v := .bool (decide ((((Aes.words key).length : Nat) : Int) ≠ (((Aes.words key).length : Nat) : Int)))) rfl rfl)) ?_
  refine wpList_nil ?_
  refine then_n ?_
  have hc8 : ¬ ((((Aes.words key).length : Nat) : Int) ≠ (((Aes.words key).length : Nat) : Int)) := by exact fun h => h rfl
  refine c_f (p := (((Aes.words key).length : Nat) : Int) ≠ (((Aes.words key).length : Nat) : Int)) (Ev.t (v := .bool (decide ((((Aes.words key).length : Nat) : Int) ≠ (((Aes.words key).length : Nat) : Int)))) rfl rfl) hc8 ?_
  refine wp_skip ?_
  refine then_n ?_
  refine wp_seq ?_
  refine wp_seq ?_
  refine wp_region_lit ?_
  refine w_val (v := .slice (some ⟨l, 0, none⟩) ((Aes.words key).length) ((Aes.words key).length)) (y_mv (Ev.t (v := .slice (some ⟨l, 0, none⟩) ((Aes.words key).length) ((Aes.words key).length)) rfl rfl)) ?_
  refine w_val (v := .int .i64 (((Aes.words key).length : Nat) : Int)) (y_len_sl (Ev.t (v := .slice (some ⟨l, 0, none⟩) ((Aes.words key).length) ((Aes.words key).length)) rfl rfl) Try.underlying34) ?_
  refine w_val (v := .int .i64 0) (y_mv (Ev.c (v := .int .i64 0))) ?_
  refine wpList_nil ?_
  refine then_n ?_
  refine wp_block ?_
  refine c_loop (fun d a wl => ∃ (i : Nat), d = ((Aes.words key).length - i) ∧ ∃ f9, a = fr 74 f9 ∧ (i ≤ (Aes.words key).length) ∧ f9 0 = .string (str key) ∧ f9 3 = .slice (some ⟨l, 0, none⟩) ((Aes.words key).length) ((Aes.words key).length) ∧ f9 4 = .int .i64 0 ∧ f9 5 = .pointer (some ⟨p, 0, none⟩) ∧ f9 6 = .int .i64 0 ∧ f9 7 = .slice (some ⟨m, 0, none⟩) ((Aes.words key).length) cm ∧ f9 60 = .int .i64 (((Aes.words key).length : Nat) : Int) ∧ f9 61 = .int .i64 ((i : Nat) : Int) ∧ Row wl l 41 ((Aes.words key).length) (fun j => U32 (Aes.gw (Aes.words key) j)) ∧ Row wl bx 71 513 (fun j => if j < 256 then U8 (Aes.sb j) else if j < 512 then U8 (Aes.bk (j - 256)) else .slice (some ⟨g, 0, none⟩) ((Aes.words key).length) cap) ∧ Row wl g 73 ((Aes.words key).length * 4) (fun j => U8 (Aes.byteOf (Aes.gw (Aes.words key) (j / 4)) (j % 4))) ∧ Row wl m 41 ((Aes.words key).length) (fun j => U32 (Aes.gw (Aes.words key) j)) ∧ CiphAt Aes.bk Aes.undo wl p (Aes.words key) ∧ Below w0.heap.size w0 wl) ((Aes.words key).length - 0) ?_ ?_
  · exact ⟨0, rfl, _, rfl, (by first | omega | with_reducible rfl | assumption | trivial | exact ⟨rfl, rfl⟩ | simp), rfl, rfl, rfl, rfl, rfl, rfl, rfl, (Eq.trans (b := .int .i64 0) rfl (by first | with_reducible rfl | (with_reducible congr 1 <;> omega) | (with_reducible congr 2 <;> omega) | (with_reducible congr 3 <;> omega) | rfl)), r_l, r_bx, r_g, r_m, hc, hk⟩
  · skip
    clear r_l r_bx r_g r_m hc hk
    rintro _ _ w10 ⟨i, rfl, f9, rfl, i1_0, s1_0, s1_3, s1_4, s1_5, s1_6, s1_7, s1_60, s1_61, r_l, r_bx, r_g, r_m, hc, hk⟩
    refine wp_seq ?_
    refine wp_region_lit ?_
    refine w_val (v := .bool (decide (((i : Nat) : Int) < (((Aes.words key).length : Nat) : Int)))) (y_bin (Ev.t (v := .int .i64 ((i : Nat) : Int)) s1_61 rfl) (Ev.t (v := .int .i64 (((Aes.words key).length : Nat) : Int)) s1_60 rfl) b_lss) ?_
    refine wpList_nil ?_
    refine then_n ?_
    refine wp_seq ?_
    refine c_if (p := ((i : Nat) : Int) < (((Aes.words key).length : Nat) : Int)) (Ev.t (v := .bool (decide (((i : Nat) : Int) < (((Aes.words key).length : Nat) : Int)))) rfl rfl) (fun hc11 => ?_) (fun hc11 => ?_)
    · skip
      refine wp_skip ?_
      refine then_n ?_
      refine wp_seq ?_
      refine wp_block ?_
      refine wp_seq ?_
      refine wp_region_lit ?_
      refine w_val (v := .int .i64 ((i : Nat) : Int)) (y_mv (Ev.t (v := .int .i64 ((i : Nat) : Int)) s1_61 rfl)) ?_
      refine w_val (v := .int .i64 ((i : Nat) : Int)) (y_as (Ev.t (v := .int .i64 ((i : Nat) : Int)) rfl rfl)) ?_
      refine wpList_nil ?_
      refine then_n ?_
      refine wp_seq ?_
      refine region_q AesLawsWT.mixed (by kernel_rfl) ?_
      refine q_val (v := .slice (some ⟨l, 0, none⟩) ((Aes.words key).length) ((Aes.words key).length)) (fun w' hw' => y_mv (Ev.t (v := .slice (some ⟨l, 0, none⟩) ((Aes.words key).length) ((Aes.words key).length)) s1_3 rfl)) ?_
      refine q_val (v := .int .i64 ((i : Nat) : Int)) (fun w' hw' => y_mv (Ev.t (v := .int .i64 ((i : Nat) : Int)) rfl rfl)) ?_
      refine q_val (v := .pointer (some ⟨l, i, none⟩)) (fun w' hw' => y_is1z (i := i) (Ev.t (v := .slice (some ⟨l, 0, none⟩) ((Aes.words key).length) ((Aes.words key).length)) rfl rfl) (Ev.t (v := .int .i64 ((i : Nat) : Int)) rfl rfl) Try.underlying34 AesLawsWT.sz41 (by omega) (by omega)) ?_
      refine q_val (v := U32 (Aes.gw (Aes.words key) i)) (fun w' hw' => y_ld (Ev.t (v := .pointer (some ⟨l, i, none⟩)) rfl rfl) AesLawsWT.sc41 (cls_cell (r_l.val (v := U32 (Aes.gw (Aes.words key) i)) (by omega) rfl) r_l.lt w' hw')) ?_
      refine q_val (v := .slice (some ⟨m, 0, none⟩) ((Aes.words key).length) cm) (fun w' hw' => y_mv (Ev.t (v := .slice (some ⟨m, 0, none⟩) ((Aes.words key).length) cm) s1_7 rfl)) ?_
      refine q_val (v := .int .i64 ((i : Nat) : Int)) (fun w' hw' => y_mv (Ev.t (v := .int .i64 ((i : Nat) : Int)) rfl rfl)) ?_
      refine q_val (v := .pointer (some ⟨m, i, none⟩)) (fun w' hw' => y_is1z (i := i) (Ev.t (v := .slice (some ⟨m, 0, none⟩) ((Aes.words key).length) cm) rfl rfl) (Ev.t (v := .int .i64 ((i : Nat) : Int)) rfl rfl) Try.underlying34 AesLawsWT.sz41 (by omega) (by omega)) ?_
      refine q_val (v := U32 (Aes.gw (Aes.words key) i)) (fun w' hw' => y_ld (Ev.t (v := .pointer (some ⟨m, i, none⟩)) rfl rfl) AesLawsWT.sc41 (cls_cell (r_m.val (v := U32 (Aes.gw (Aes.words key) i)) (by omega) rfl) r_m.lt w' hw')) ?_
      refine q_val (v := .bool (decide ((Aes.gw (Aes.words key) i) ≠ (Aes.gw (Aes.words key) i)))) (fun w' hw' => y_bin (Ev.t (v := U32 (Aes.gw (Aes.words key) i)) rfl rfl) (Ev.t (v := U32 (Aes.gw (Aes.words key) i)) rfl rfl) neq32) ?_
      refine q_nil ?_
      intro w12 hb13
      replace r_l := r_l.step hb13
      replace r_bx := r_bx.step hb13
      replace r_g := r_g.step hb13
      replace r_m := r_m.step hb13
      replace hk := thenB hk hb13
      replace hc := hc.below hb13
      refine then_n ?_
      have hc14 : ¬ ((Aes.gw (Aes.words key) i) ≠ (Aes.gw (Aes.words key) i)) := by exact fun h => h rfl
      refine c_f (p := (Aes.gw (Aes.words key) i) ≠ (Aes.gw (Aes.words key) i)) (Ev.t (v := .bool (decide ((Aes.gw (Aes.words key) i) ≠ (Aes.gw (Aes.words key) i)))) rfl rfl) hc14 ?_
      refine wp_skip ?_
      refine inb_n ?_
      refine then_n ?_
      refine wp_region_lit ?_
      refine w_val (v := .int .i64 (((i : Nat) : Int) + 1)) (y_bin (Ev.t (v := .int .i64 ((i : Nat) : Int)) s1_61 rfl) (Ev.c (v := .int .i64 1)) (b_add (by omega))) ?_
      refine w_val (v := .int .i64 (((i : Nat) : Int) + 1)) (y_mv (Ev.t (v := .int .i64 (((i : Nat) : Int) + 1)) rfl rfl)) ?_
      refine wpList_nil ?_
      exact then_n ⟨_, (by omega), i + 1, rfl, _, rfl, (by first | omega | with_reducible rfl | assumption | trivial | simp), s1_0, s1_3, s1_4, s1_5, s1_6, s1_7, s1_60, (Eq.trans (b := .int .i64 (((i : Nat) : Int) + 1)) rfl (by first | with_reducible rfl | (with_reducible congr 1 <;> omega) | (with_reducible congr 2 <;> omega) | (with_reducible congr 3 <;> omega) | rfl)), r_l, r_bx, r_g, r_m, hc, hk⟩
    · skip
      refine wp_exit ?_
      refine then_x ?_
      refine then_x ?_
      refine inb_x ?_
      refine then_n ?_
      refine wp_seq ?_
      refine wp_region_lit ?_
      refine w_val (v := .bool true) (y_as (Ev.c (v := .bool true))) ?_
      refine wpList_nil ?_
      refine then_n ?_
      refine wp_ret ?_
      refine fin_ret1 rfl (Ev.t (v := .bool true) rfl rfl) ?_
      exact ⟨rfl, hk⟩

set_option maxRecDepth 100000 in
set_option maxHeartbeats 1000000 in
theorem aesEncrypts_no (key block : List (BitVec 8)) (hok : ¬ Aes.okKey key.length) (w0 : World) : Calls Try.prog 7 #[.string (str key), .string (str block)] w0 fun e w' => e = .returned (.bool true) ∧ Below w0.heap.size w0 w' := by
  refine enter (n := 79) Try.func7 rfl rfl rfl ?_
  have hk : Below w0.heap.size w0 w0 := Below.refl _ _
  refine wp_seq ?_
  refine wp_region_lit ?_
  refine w_val (v := .bool false) (y_as (Ev.c (v := .bool false))) ?_
  refine wpList_nil ?_
  refine then_n ?_
  refine wp_seq ?_
  refine wp_seq ?_
  refine wp_region_lit ?_
  refine w_call (Try.func11) (by kernel_rfl) rfl m0 (wakes_c  w0) ?_
  rintro _ w1 ⟨rfl, hb2⟩
  refine ⟨_, rfl, ?_⟩
  replace hk := thenB hk hb2
  refine w_val (v := .bool false) (y_not (Ev.t (v := .bool true) rfl rfl)) ?_
  refine wpList_nil ?_
  refine then_n ?_
  refine c_ff (Ev.t (v := .bool false) rfl rfl) ?_
  refine wp_skip ?_
  refine then_n ?_
  refine wp_seq ?_
  refine wp_region_lit ?_
  refine w_val (v := .string (str key)) (y_mv (Ev.t (v := .string (str key)) rfl rfl)) ?_
  refine w_call (Try.func13) (by kernel_rfl) rfl (m1 (Ev.t (v := .string (str key)) rfl rfl)) (new_l_no key w1 hok) ?_
  rintro _ _ ⟨rfl, rfl⟩
  refine ⟨_, rfl, ?_⟩
  refine w_val (v := .tuple #[.pointer none, .int .i64 3]) (y_mv (Ev.t (v := .tuple #[.pointer none, .int .i64 3]) rfl rfl)) ?_
  refine w_val (v := .pointer none) (y_ext (v := .pointer none) (Ev.t (v := .tuple #[.pointer none, .int .i64 3]) rfl rfl) rfl) ?_
  refine w_val (v := .int .i64 3) (y_ext (v := .int .i64 3) (Ev.t (v := .tuple #[.pointer none, .int .i64 3]) rfl rfl) rfl) ?_
  refine w_val (v := .pointer none) (y_as (Ev.t (v := .pointer none) rfl rfl)) ?_
  refine w_val (v := .int .i64 3) (y_as (Ev.t (v := .int .i64 3) rfl rfl)) ?_
  refine wpList_nil ?_
  refine then_n ?_
  refine wp_seq ?_
  refine wp_seq ?_
  refine wp_region_lit ?_
  refine w_val (v := .string (str key)) (y_mv (Ev.t (v := .string (str key)) rfl rfl)) ?_
  refine w_call (Try.func18) (by kernel_rfl) rfl (m1 (Ev.t (v := .string (str key)) rfl rfl)) (right_l_no key w1 hok) ?_
  rintro _ _ ⟨rfl, rfl⟩
  refine ⟨_, rfl, ?_⟩
  refine w_val (v := .bool true) (y_not (Ev.t (v := .bool false) rfl rfl)) ?_
  refine wpList_nil ?_
  refine then_n ?_
  refine c_tt (Ev.t (v := .bool true) rfl rfl) ?_
  refine wp_seq ?_
  refine wp_region_lit ?_
  refine w_val (v := .int .i64 3) (y_mv (Ev.t (v := .int .i64 3) rfl rfl)) ?_
  refine w_val (v := .bool true) (y_bin (Ev.t (v := .int .i64 3) rfl rfl) (Ev.c (v := .int .i64 3)) b_eql) ?_
  refine w_val (v := .bool true) (y_mv (Ev.t (v := .bool true) rfl rfl)) ?_
  refine w_val_g (v := .pointer none) (want_yes (j := 2) rfl rfl (Ev.t (v := .bool true) rfl rfl) rfl) (y_mv (Ev.t (v := .pointer none) rfl rfl)) ?_
  refine w_val_g (v := .bool true) (want_yes (j := 2) rfl rfl (Ev.t (v := .bool true) rfl rfl) rfl) (y_bin (Ev.t (v := .pointer none) rfl rfl) (Ev.c (v := .pointer none)) (b_eqp Try.underlying25)) ?_
  refine w_val (v := .bool true) (y_pick_t (Ev.t (v := .bool true) rfl rfl) (Ev.t (v := .bool true) rfl rfl)) ?_
  refine w_val (v := .bool true) (y_as (Ev.t (v := .bool true) rfl rfl)) ?_
  refine wpList_nil ?_
  refine then_n ?_
  refine wp_ret ?_
  refine then_r ?_
  refine fin_ret1 rfl (Ev.t (v := .bool true) rfl rfl) ?_
  exact ⟨rfl, hk⟩

set_option maxRecDepth 100000 in
set_option maxHeartbeats 1000000 in
theorem aesEncrypts_bad (key block : List (BitVec 8)) (hok : Aes.okKey key.length) (hs : block.length ≠ 16) (w0 : World) : Calls Try.prog 7 #[.string (str key), .string (str block)] w0 fun e w' => e = .returned (.bool true) ∧ Below w0.heap.size w0 w' := by
  refine enter (n := 79) Try.func7 rfl rfl rfl ?_
  have hk : Below w0.heap.size w0 w0 := Below.refl _ _
  refine wp_seq ?_
  refine wp_region_lit ?_
  refine w_val (v := .bool false) (y_as (Ev.c (v := .bool false))) ?_
  refine wpList_nil ?_
  refine then_n ?_
  refine wp_seq ?_
  refine wp_seq ?_
  refine wp_region_lit ?_
  refine w_call (Try.func11) (by kernel_rfl) rfl m0 (wakes_c  w0) ?_
  rintro _ w1 ⟨rfl, hb2⟩
  refine ⟨_, rfl, ?_⟩
  replace hk := thenB hk hb2
  refine w_val (v := .bool false) (y_not (Ev.t (v := .bool true) rfl rfl)) ?_
  refine wpList_nil ?_
  refine then_n ?_
  refine c_ff (Ev.t (v := .bool false) rfl rfl) ?_
  refine wp_skip ?_
  refine then_n ?_
  refine wp_seq ?_
  refine wp_region_lit ?_
  refine w_val (v := .string (str key)) (y_mv (Ev.t (v := .string (str key)) rfl rfl)) ?_
  refine w_call (Try.func13) (by kernel_rfl) rfl (m1 (Ev.t (v := .string (str key)) rfl rfl)) (new_l key w1 hok) ?_
  rintro _ w3 ⟨p, rfl, hge_p, hc, hb_p⟩
  refine ⟨_, rfl, ?_⟩
  have ge_p : w0.heap.size ≤ p := Nat.le_trans hk.size hge_p
  replace hk := thenB hk hb_p
  refine w_val (v := .tuple #[.pointer (some ⟨p, 0, none⟩), .int .i64 0]) (y_mv (Ev.t (v := .tuple #[.pointer (some ⟨p, 0, none⟩), .int .i64 0]) rfl rfl)) ?_
  refine w_val (v := .pointer (some ⟨p, 0, none⟩)) (y_ext (v := .pointer (some ⟨p, 0, none⟩)) (Ev.t (v := .tuple #[.pointer (some ⟨p, 0, none⟩), .int .i64 0]) rfl rfl) rfl) ?_
  refine w_val (v := .int .i64 0) (y_ext (v := .int .i64 0) (Ev.t (v := .tuple #[.pointer (some ⟨p, 0, none⟩), .int .i64 0]) rfl rfl) rfl) ?_
  refine w_val (v := .pointer (some ⟨p, 0, none⟩)) (y_as (Ev.t (v := .pointer (some ⟨p, 0, none⟩)) rfl rfl)) ?_
  refine w_val (v := .int .i64 0) (y_as (Ev.t (v := .int .i64 0) rfl rfl)) ?_
  refine wpList_nil ?_
  refine then_n ?_
  refine wp_seq ?_
  refine wp_seq ?_
  refine wp_region_lit ?_
  refine w_val (v := .string (str key)) (y_mv (Ev.t (v := .string (str key)) rfl rfl)) ?_
  refine w_call (Try.func18) (by kernel_rfl) rfl (m1 (Ev.t (v := .string (str key)) rfl rfl)) (right_l key w3 hok) ?_
  rintro _ _ ⟨rfl, rfl⟩
  refine ⟨_, rfl, ?_⟩
  refine w_val (v := .bool false) (y_not (Ev.t (v := .bool true) rfl rfl)) ?_
  refine wpList_nil ?_
  refine then_n ?_
  refine c_ff (Ev.t (v := .bool false) rfl rfl) ?_
  refine wp_skip ?_
  refine then_n ?_
  refine wp_seq ?_
  refine wp_region_lit ?_
  refine w_val (v := .pointer (some ⟨p, 0, none⟩)) (y_mv (Ev.t (v := .pointer (some ⟨p, 0, none⟩)) rfl rfl)) ?_
  refine w_val (v := .string (str block)) (y_mv (Ev.t (v := .string (str block)) rfl rfl)) ?_
  refine w_call (Try.func14) (by kernel_rfl) rfl (m2 (Ev.t (v := .pointer (some ⟨p, 0, none⟩)) rfl rfl) (Ev.t (v := .string (str block)) rfl rfl)) (enc_l_bad p key block w3 hok hc (by omega)) ?_
  rintro _ _ ⟨rfl, rfl⟩
  refine ⟨_, rfl, ?_⟩
  refine w_val (v := .tuple #[.string (str ([] : List (BitVec 8))), .int .i64 6]) (y_mv (Ev.t (v := .tuple #[.string (str ([] : List (BitVec 8))), .int .i64 6]) rfl rfl)) ?_
  refine w_val (v := .string (str ([] : List (BitVec 8)))) (y_ext (v := .string (str ([] : List (BitVec 8)))) (Ev.t (v := .tuple #[.string (str ([] : List (BitVec 8))), .int .i64 6]) rfl rfl) rfl) ?_
  refine w_val (v := .int .i64 6) (y_ext (v := .int .i64 6) (Ev.t (v := .tuple #[.string (str ([] : List (BitVec 8))), .int .i64 6]) rfl rfl) rfl) ?_
  refine w_val (v := .string (str ([] : List (BitVec 8)))) (y_as (Ev.t (v := .string (str ([] : List (BitVec 8)))) rfl rfl)) ?_
  refine w_val (v := .int .i64 6) (y_as (Ev.t (v := .int .i64 6) rfl rfl)) ?_
  refine wpList_nil ?_
  refine then_n ?_
  refine wp_seq ?_
  refine wp_region_lit ?_
  refine w_val (v := .pointer (some ⟨p, 0, none⟩)) (y_mv (Ev.t (v := .pointer (some ⟨p, 0, none⟩)) rfl rfl)) ?_
  refine w_val (v := .string (str block)) (y_mv (Ev.t (v := .string (str block)) rfl rfl)) ?_
  refine w_call (Try.func21) (by kernel_rfl) rfl (m2 (Ev.t (v := .pointer (some ⟨p, 0, none⟩)) rfl rfl) (Ev.t (v := .string (str block)) rfl rfl)) (dec_l_bad p key block w3 hok hc (by omega)) ?_
  rintro _ _ ⟨rfl, rfl⟩
  refine ⟨_, rfl, ?_⟩
  refine w_val (v := .tuple #[.string (str ([] : List (BitVec 8))), .int .i64 6]) (y_mv (Ev.t (v := .tuple #[.string (str ([] : List (BitVec 8))), .int .i64 6]) rfl rfl)) ?_
  refine w_val (v := .string (str ([] : List (BitVec 8)))) (y_ext (v := .string (str ([] : List (BitVec 8)))) (Ev.t (v := .tuple #[.string (str ([] : List (BitVec 8))), .int .i64 6]) rfl rfl) rfl) ?_
  refine w_val (v := .int .i64 6) (y_ext (v := .int .i64 6) (Ev.t (v := .tuple #[.string (str ([] : List (BitVec 8))), .int .i64 6]) rfl rfl) rfl) ?_
  refine w_val (v := .string (str ([] : List (BitVec 8)))) (y_as (Ev.t (v := .string (str ([] : List (BitVec 8)))) rfl rfl)) ?_
  refine w_val (v := .int .i64 6) (y_as (Ev.t (v := .int .i64 6) rfl rfl)) ?_
  refine wpList_nil ?_
  refine then_n ?_
  refine wp_seq ?_
  refine wp_seq ?_
  refine wp_region_lit ?_
  refine w_val (v := .string (str block)) (y_mv (Ev.t (v := .string (str block)) rfl rfl)) ?_
  refine w_val (v := .int .i64 ((block.length : Nat) : Int)) (y_len (Ev.t (v := .string (str block)) rfl rfl) Try.underlying9) ?_
  refine w_val (v := .bool (decide (((block.length : Nat) : Int) ≠ 16))) (y_bin (Ev.t (v := .int .i64 ((block.length : Nat) : Int)) rfl rfl) (Ev.c (v := .int .i64 16)) b_neq) ?_
  refine wpList_nil ?_
  refine then_n ?_
  have hc7 : ((block.length : Nat) : Int) ≠ 16 := by omega
  refine c_t (p := ((block.length : Nat) : Int) ≠ 16) (Ev.t (v := .bool (decide (((block.length : Nat) : Int) ≠ 16))) rfl rfl) hc7 ?_
  refine wp_seq ?_
  refine wp_region_lit ?_
  refine w_val (v := .string (str ([] : List (BitVec 8)))) (y_mv (Ev.t (v := .string (str ([] : List (BitVec 8)))) rfl rfl)) ?_
  refine w_val (v := .bool (decide (([] : List (BitVec 8)) = ([] : List (BitVec 8))))) (y_bin (Ev.t (v := .string (str ([] : List (BitVec 8)))) rfl rfl) (Ev.c (v := .string (str ([] : List (BitVec 8))))) b_eqs) ?_
  refine w_val (v := .bool (decide (([] : List (BitVec 8)) = ([] : List (BitVec 8))))) (y_mv (Ev.t (v := .bool (decide (([] : List (BitVec 8)) = ([] : List (BitVec 8))))) rfl rfl)) ?_
  have hc8 : ([] : List (BitVec 8)) = ([] : List (BitVec 8)) := by rfl
  refine w_val_g (v := .string (str ([] : List (BitVec 8)))) (want_yes (j := 2) rfl rfl (Ev.t (v := .bool true) (Eq.trans (b := .bool (decide (([] : List (BitVec 8)) = ([] : List (BitVec 8))))) rfl (by rw [decide_eq_true hc8])) rfl) rfl) (y_mv (Ev.t (v := .string (str ([] : List (BitVec 8)))) rfl rfl)) ?_
  refine w_val_g (v := .bool (decide (([] : List (BitVec 8)) = ([] : List (BitVec 8))))) (want_yes (j := 2) rfl rfl (Ev.t (v := .bool true) (Eq.trans (b := .bool (decide (([] : List (BitVec 8)) = ([] : List (BitVec 8))))) rfl (by rw [decide_eq_true hc8])) rfl) rfl) (y_bin (Ev.t (v := .string (str ([] : List (BitVec 8)))) rfl rfl) (Ev.c (v := .string (str ([] : List (BitVec 8))))) b_eqs) ?_
  refine w_val (v := .bool (decide (([] : List (BitVec 8)) = ([] : List (BitVec 8))))) (y_pick_t (Ev.t (v := .bool true) (Eq.trans (b := .bool (decide (([] : List (BitVec 8)) = ([] : List (BitVec 8))))) rfl (by rw [decide_eq_true hc8])) rfl) (Ev.t (v := .bool (decide (([] : List (BitVec 8)) = ([] : List (BitVec 8))))) rfl rfl)) ?_
  refine w_val (v := .bool (decide (([] : List (BitVec 8)) = ([] : List (BitVec 8))))) (y_mv (Ev.t (v := .bool (decide (([] : List (BitVec 8)) = ([] : List (BitVec 8))))) rfl rfl)) ?_
  refine w_val_g (v := .int .i64 6) (want_yes (j := 6) rfl rfl (Ev.t (v := .bool true) (Eq.trans (b := .bool (decide (([] : List (BitVec 8)) = ([] : List (BitVec 8))))) rfl (by rw [decide_eq_true hc8])) rfl) rfl) (y_mv (Ev.t (v := .int .i64 6) rfl rfl)) ?_
  refine w_val_g (v := .bool true) (want_yes (j := 6) rfl rfl (Ev.t (v := .bool true) (Eq.trans (b := .bool (decide (([] : List (BitVec 8)) = ([] : List (BitVec 8))))) rfl (by rw [decide_eq_true hc8])) rfl) rfl) (y_bin (Ev.t (v := .int .i64 6) rfl rfl) (Ev.c (v := .int .i64 6)) b_eql) ?_
  refine w_val (v := .bool true) (y_pick_t (Ev.t (v := .bool true) (Eq.trans (b := .bool (decide (([] : List (BitVec 8)) = ([] : List (BitVec 8))))) rfl (by rw [decide_eq_true hc8])) rfl) (Ev.t (v := .bool true) rfl rfl)) ?_
  refine w_val (v := .bool true) (y_mv (Ev.t (v := .bool true) rfl rfl)) ?_
  refine w_val_g (v := .int .i64 6) (want_yes (j := 10) rfl rfl (Ev.t (v := .bool true) rfl rfl) rfl) (y_mv (Ev.t (v := .int .i64 6) rfl rfl)) ?_
  refine w_val_g (v := .bool true) (want_yes (j := 10) rfl rfl (Ev.t (v := .bool true) rfl rfl) rfl) (y_bin (Ev.t (v := .int .i64 6) rfl rfl) (Ev.c (v := .int .i64 6)) b_eql) ?_
  refine w_val (v := .bool true) (y_pick_t (Ev.t (v := .bool true) rfl rfl) (Ev.t (v := .bool true) rfl rfl)) ?_
  refine w_val (v := .bool true) (y_as (Ev.t (v := .bool true) rfl rfl)) ?_
  refine wpList_nil ?_
  refine then_n ?_
  refine wp_ret ?_
  refine then_r ?_
  refine fin_ret1 rfl (Ev.t (v := .bool true) rfl rfl) ?_
  exact ⟨rfl, hk⟩

set_option maxRecDepth 100000 in
set_option maxHeartbeats 1000000 in
theorem aesEncrypts_yes (key block : List (BitVec 8)) (hok : Aes.okKey key.length) (hs : block.length = 16) (w0 : World) : Calls Try.prog 7 #[.string (str key), .string (str block)] w0 fun e w' => e = .returned (.bool true) ∧ Below w0.heap.size w0 w' := by
  refine enter (n := 79) Try.func7 rfl rfl rfl ?_
  have hk : Below w0.heap.size w0 w0 := Below.refl _ _
  refine wp_seq ?_
  refine wp_region_lit ?_
  refine w_val (v := .bool false) (y_as (Ev.c (v := .bool false))) ?_
  refine wpList_nil ?_
  refine then_n ?_
  refine wp_seq ?_
  refine wp_seq ?_
  refine wp_region_lit ?_
  refine w_call (Try.func11) (by kernel_rfl) rfl m0 (wakes_c  w0) ?_
  rintro _ w1 ⟨rfl, hb2⟩
  refine ⟨_, rfl, ?_⟩
  replace hk := thenB hk hb2
  refine w_val (v := .bool false) (y_not (Ev.t (v := .bool true) rfl rfl)) ?_
  refine wpList_nil ?_
  refine then_n ?_
  refine c_ff (Ev.t (v := .bool false) rfl rfl) ?_
  refine wp_skip ?_
  refine then_n ?_
  refine wp_seq ?_
  refine wp_region_lit ?_
  refine w_val (v := .string (str key)) (y_mv (Ev.t (v := .string (str key)) rfl rfl)) ?_
  refine w_call (Try.func13) (by kernel_rfl) rfl (m1 (Ev.t (v := .string (str key)) rfl rfl)) (new_l key w1 hok) ?_
  rintro _ w3 ⟨p, rfl, hge_p, hc, hb_p⟩
  refine ⟨_, rfl, ?_⟩
  have ge_p : w0.heap.size ≤ p := Nat.le_trans hk.size hge_p
  replace hk := thenB hk hb_p
  refine w_val (v := .tuple #[.pointer (some ⟨p, 0, none⟩), .int .i64 0]) (y_mv (Ev.t (v := .tuple #[.pointer (some ⟨p, 0, none⟩), .int .i64 0]) rfl rfl)) ?_
  refine w_val (v := .pointer (some ⟨p, 0, none⟩)) (y_ext (v := .pointer (some ⟨p, 0, none⟩)) (Ev.t (v := .tuple #[.pointer (some ⟨p, 0, none⟩), .int .i64 0]) rfl rfl) rfl) ?_
  refine w_val (v := .int .i64 0) (y_ext (v := .int .i64 0) (Ev.t (v := .tuple #[.pointer (some ⟨p, 0, none⟩), .int .i64 0]) rfl rfl) rfl) ?_
  refine w_val (v := .pointer (some ⟨p, 0, none⟩)) (y_as (Ev.t (v := .pointer (some ⟨p, 0, none⟩)) rfl rfl)) ?_
  refine w_val (v := .int .i64 0) (y_as (Ev.t (v := .int .i64 0) rfl rfl)) ?_
  refine wpList_nil ?_
  refine then_n ?_
  refine wp_seq ?_
  refine wp_seq ?_
  refine wp_region_lit ?_
  refine w_val (v := .string (str key)) (y_mv (Ev.t (v := .string (str key)) rfl rfl)) ?_
  refine w_call (Try.func18) (by kernel_rfl) rfl (m1 (Ev.t (v := .string (str key)) rfl rfl)) (right_l key w3 hok) ?_
  rintro _ _ ⟨rfl, rfl⟩
  refine ⟨_, rfl, ?_⟩
  refine w_val (v := .bool false) (y_not (Ev.t (v := .bool true) rfl rfl)) ?_
  refine wpList_nil ?_
  refine then_n ?_
  refine c_ff (Ev.t (v := .bool false) rfl rfl) ?_
  refine wp_skip ?_
  refine then_n ?_
  refine wp_seq ?_
  refine wp_region_lit ?_
  refine w_val (v := .pointer (some ⟨p, 0, none⟩)) (y_mv (Ev.t (v := .pointer (some ⟨p, 0, none⟩)) rfl rfl)) ?_
  refine w_val (v := .string (str block)) (y_mv (Ev.t (v := .string (str block)) rfl rfl)) ?_
  refine w_call (Try.func14) (by kernel_rfl) rfl (m2 (Ev.t (v := .pointer (some ⟨p, 0, none⟩)) rfl rfl) (Ev.t (v := .string (str block)) rfl rfl)) (enc_l p key block w3 hok hc (by omega)) ?_
  rintro _ w5 ⟨rfl, hb6⟩
  refine ⟨_, rfl, ?_⟩
  replace hk := thenB hk hb6
  replace hc := hc.below hb6
  refine w_val (v := .tuple #[.string (str (Aes.enc (Aes.words key) block)), .int .i64 0]) (y_mv (Ev.t (v := .tuple #[.string (str (Aes.enc (Aes.words key) block)), .int .i64 0]) rfl rfl)) ?_
  refine w_val (v := .string (str (Aes.enc (Aes.words key) block))) (y_ext (v := .string (str (Aes.enc (Aes.words key) block))) (Ev.t (v := .tuple #[.string (str (Aes.enc (Aes.words key) block)), .int .i64 0]) rfl rfl) rfl) ?_
  refine w_val (v := .int .i64 0) (y_ext (v := .int .i64 0) (Ev.t (v := .tuple #[.string (str (Aes.enc (Aes.words key) block)), .int .i64 0]) rfl rfl) rfl) ?_
  refine w_val (v := .string (str (Aes.enc (Aes.words key) block))) (y_as (Ev.t (v := .string (str (Aes.enc (Aes.words key) block))) rfl rfl)) ?_
  refine w_val (v := .int .i64 0) (y_as (Ev.t (v := .int .i64 0) rfl rfl)) ?_
  refine wpList_nil ?_
  refine then_n ?_
  refine wp_seq ?_
  refine wp_region_lit ?_
  refine w_val (v := .pointer (some ⟨p, 0, none⟩)) (y_mv (Ev.t (v := .pointer (some ⟨p, 0, none⟩)) rfl rfl)) ?_
  refine w_val (v := .string (str block)) (y_mv (Ev.t (v := .string (str block)) rfl rfl)) ?_
  have hw_ := hc
  refine w_call (Try.func21) (by kernel_rfl) rfl (m2 (Ev.t (v := .pointer (some ⟨p, 0, none⟩)) rfl rfl) (Ev.t (v := .string (str block)) rfl rfl)) (dec_l w0.heap.size p key block w5 hok hw_ ge_p (by omega)) ?_
  rintro _ w7 ⟨rfl, hbd, hc⟩
  refine ⟨_, rfl, ?_⟩
  replace hk := hk.trans hbd
  refine w_val (v := .tuple #[.string (str (Aes.dec (Aes.words key) block)), .int .i64 0]) (y_mv (Ev.t (v := .tuple #[.string (str (Aes.dec (Aes.words key) block)), .int .i64 0]) rfl rfl)) ?_
  refine w_val (v := .string (str (Aes.dec (Aes.words key) block))) (y_ext (v := .string (str (Aes.dec (Aes.words key) block))) (Ev.t (v := .tuple #[.string (str (Aes.dec (Aes.words key) block)), .int .i64 0]) rfl rfl) rfl) ?_
  refine w_val (v := .int .i64 0) (y_ext (v := .int .i64 0) (Ev.t (v := .tuple #[.string (str (Aes.dec (Aes.words key) block)), .int .i64 0]) rfl rfl) rfl) ?_
  refine w_val (v := .string (str (Aes.dec (Aes.words key) block))) (y_as (Ev.t (v := .string (str (Aes.dec (Aes.words key) block))) rfl rfl)) ?_
  refine w_val (v := .int .i64 0) (y_as (Ev.t (v := .int .i64 0) rfl rfl)) ?_
  refine wpList_nil ?_
  refine then_n ?_
  refine wp_seq ?_
  refine wp_seq ?_
  refine wp_region_lit ?_
  refine w_val (v := .string (str block)) (y_mv (Ev.t (v := .string (str block)) rfl rfl)) ?_
  refine w_val (v := .int .i64 ((block.length : Nat) : Int)) (y_len (Ev.t (v := .string (str block)) rfl rfl) Try.underlying9) ?_
  refine w_val (v := .bool (decide (((block.length : Nat) : Int) ≠ 16))) (y_bin (Ev.t (v := .int .i64 ((block.length : Nat) : Int)) rfl rfl) (Ev.c (v := .int .i64 16)) b_neq) ?_
  refine wpList_nil ?_
  refine then_n ?_
  have hc8 : ¬ (((block.length : Nat) : Int) ≠ 16) := by omega
  refine c_f (p := ((block.length : Nat) : Int) ≠ 16) (Ev.t (v := .bool (decide (((block.length : Nat) : Int) ≠ 16))) rfl rfl) hc8 ?_
  refine wp_skip ?_
  refine then_n ?_
  refine wp_seq ?_
  refine wp_region_lit ?_
  refine w_val (v := .string (str key)) (y_mv (Ev.t (v := .string (str key)) rfl rfl)) ?_
  refine w_call (Try.func19) (by kernel_rfl) rfl (m1 (Ev.t (v := .string (str key)) rfl rfl)) (refNew_l key w7 hok) ?_
  rintro _ w9 ⟨bx, g, cap, rfl, hbn, hge_bx, hge_g, r_bx, r_g⟩
  refine ⟨_, rfl, ?_⟩
  have ge_bx : w0.heap.size ≤ bx := by have := hk.size; omega
  have ge_g : w0.heap.size ≤ g := by have := hk.size; omega
  replace hk := thenB hk hbn
  replace hc := hc.below hbn
  refine w_val (v := .pointer (some ⟨bx, 0, none⟩)) (y_as (Ev.t (v := .pointer (some ⟨bx, 0, none⟩)) rfl rfl)) ?_
  refine wpList_nil ?_
  refine then_n ?_
  refine wp_seq ?_
  refine wp_region_lit ?_
  refine w_val (v := .int .i64 0) (y_mv (Ev.t (v := .int .i64 0) rfl rfl)) ?_
  refine w_val (v := .bool true) (y_bin (Ev.t (v := .int .i64 0) rfl rfl) (Ev.c (v := .int .i64 0)) b_eql) ?_
  refine w_val (v := .bool true) (y_mv (Ev.t (v := .bool true) rfl rfl)) ?_
  refine w_val_g (v := .int .i64 0) (want_yes (j := 2) rfl rfl (Ev.t (v := .bool true) rfl rfl) rfl) (y_mv (Ev.t (v := .int .i64 0) rfl rfl)) ?_
  refine w_val_g (v := .bool true) (want_yes (j := 2) rfl rfl (Ev.t (v := .bool true) rfl rfl) rfl) (y_bin (Ev.t (v := .int .i64 0) rfl rfl) (Ev.c (v := .int .i64 0)) b_eql) ?_
  refine w_val (v := .bool true) (y_pick_t (Ev.t (v := .bool true) rfl rfl) (Ev.t (v := .bool true) rfl rfl)) ?_
  refine w_val (v := .bool true) (y_mv (Ev.t (v := .bool true) rfl rfl)) ?_
  refine w_val_g (v := .string (str (Aes.enc (Aes.words key) block))) (want_yes (j := 6) rfl rfl (Ev.t (v := .bool true) rfl rfl) rfl) (y_mv (Ev.t (v := .string (str (Aes.enc (Aes.words key) block))) rfl rfl)) ?_
  refine w_val_g (v := .pointer (some ⟨bx, 0, none⟩)) (want_yes (j := 6) rfl rfl (Ev.t (v := .bool true) rfl rfl) rfl) (y_mv (Ev.t (v := .pointer (some ⟨bx, 0, none⟩)) rfl rfl)) ?_
  refine w_val_g (v := .string (str block)) (want_yes (j := 6) rfl rfl (Ev.t (v := .bool true) rfl rfl) rfl) (y_mv (Ev.t (v := .string (str block)) rfl rfl)) ?_
  refine w_unguard (want_yes (j := 6) rfl rfl (Ev.t (v := .bool true) rfl rfl) rfl) ?_
  refine w_call (Try.func22) (by kernel_rfl) rfl (m2 (Ev.t (v := .pointer (some ⟨bx, 0, none⟩)) rfl rfl) (Ev.t (v := .string (str block)) rfl rfl)) (refEnc_l bx g cap key block w9 hok hs r_bx r_g) ?_
  rintro _ w10 ⟨rfl, hb11⟩
  refine ⟨_, rfl, ?_⟩
  replace r_bx := r_bx.step hb11
  replace r_g := r_g.step hb11
  replace hk := thenB hk hb11
  replace hc := hc.below hb11
  refine w_val_g (v := .bool (decide ((Aes.enc (Aes.words key) block) = (Aes.enc (Aes.words key) block)))) (want_yes (j := 6) rfl rfl (Ev.t (v := .bool true) rfl rfl) rfl) (y_bin (Ev.t (v := .string (str (Aes.enc (Aes.words key) block))) rfl rfl) (Ev.t (v := .string (str (Aes.enc (Aes.words key) block))) rfl rfl) b_eqs) ?_
  refine w_val (v := .bool (decide ((Aes.enc (Aes.words key) block) = (Aes.enc (Aes.words key) block)))) (y_pick_t (Ev.t (v := .bool true) rfl rfl) (Ev.t (v := .bool (decide ((Aes.enc (Aes.words key) block) = (Aes.enc (Aes.words key) block)))) rfl rfl)) ?_
  refine w_val (v := .bool (decide ((Aes.enc (Aes.words key) block) = (Aes.enc (Aes.words key) block)))) (y_mv (Ev.t (v := .bool (decide ((Aes.enc (Aes.words key) block) = (Aes.enc (Aes.words key) block)))) rfl rfl)) ?_
  have hc12 : (Aes.enc (Aes.words key) block) = (Aes.enc (Aes.words key) block) := by rfl
  refine w_val_g (v := .string (str (Aes.dec (Aes.words key) block))) (want_yes (j := 13) rfl rfl (Ev.t (v := .bool true) (Eq.trans (b := .bool (decide ((Aes.enc (Aes.words key) block) = (Aes.enc (Aes.words key) block)))) rfl (by rw [decide_eq_true hc12])) rfl) rfl) (y_mv (Ev.t (v := .string (str (Aes.dec (Aes.words key) block))) rfl rfl)) ?_
  refine w_val_g (v := .pointer (some ⟨bx, 0, none⟩)) (want_yes (j := 13) rfl rfl (Ev.t (v := .bool true) (Eq.trans (b := .bool (decide ((Aes.enc (Aes.words key) block) = (Aes.enc (Aes.words key) block)))) rfl (by rw [decide_eq_true hc12])) rfl) rfl) (y_mv (Ev.t (v := .pointer (some ⟨bx, 0, none⟩)) rfl rfl)) ?_
  refine w_val_g (v := .string (str block)) (want_yes (j := 13) rfl rfl (Ev.t (v := .bool true) (Eq.trans (b := .bool (decide ((Aes.enc (Aes.words key) block) = (Aes.enc (Aes.words key) block)))) rfl (by rw [decide_eq_true hc12])) rfl) rfl) (y_mv (Ev.t (v := .string (str block)) rfl rfl)) ?_
  refine w_unguard (want_yes (j := 13) rfl rfl (Ev.t (v := .bool true) (Eq.trans (b := .bool (decide ((Aes.enc (Aes.words key) block) = (Aes.enc (Aes.words key) block)))) rfl (by rw [decide_eq_true hc12])) rfl) rfl) ?_
  refine w_call (Try.func23) (by kernel_rfl) rfl (m2 (Ev.t (v := .pointer (some ⟨bx, 0, none⟩)) rfl rfl) (Ev.t (v := .string (str block)) rfl rfl)) (refDec_l bx g cap key block w10 hok hs r_bx r_g) ?_
  rintro _ w13 ⟨rfl, hb14⟩
  refine ⟨_, rfl, ?_⟩
  replace r_bx := r_bx.step hb14
  replace r_g := r_g.step hb14
  replace hk := thenB hk hb14
  replace hc := hc.below hb14
  refine w_val_g (v := .bool (decide ((Aes.dec (Aes.words key) block) = (Aes.dec (Aes.words key) block)))) (want_yes (j := 13) rfl rfl (Ev.t (v := .bool true) (Eq.trans (b := .bool (decide ((Aes.enc (Aes.words key) block) = (Aes.enc (Aes.words key) block)))) rfl (by rw [decide_eq_true hc12])) rfl) rfl) (y_bin (Ev.t (v := .string (str (Aes.dec (Aes.words key) block))) rfl rfl) (Ev.t (v := .string (str (Aes.dec (Aes.words key) block))) rfl rfl) b_eqs) ?_
  refine w_val (v := .bool (decide ((Aes.dec (Aes.words key) block) = (Aes.dec (Aes.words key) block)))) (y_pick_t (Ev.t (v := .bool true) (Eq.trans (b := .bool (decide ((Aes.enc (Aes.words key) block) = (Aes.enc (Aes.words key) block)))) rfl (by rw [decide_eq_true hc12])) rfl) (Ev.t (v := .bool (decide ((Aes.dec (Aes.words key) block) = (Aes.dec (Aes.words key) block)))) rfl rfl)) ?_
  refine w_val (v := .bool (decide ((Aes.dec (Aes.words key) block) = (Aes.dec (Aes.words key) block)))) (y_as (Ev.t (v := .bool (decide ((Aes.dec (Aes.words key) block) = (Aes.dec (Aes.words key) block)))) rfl rfl)) ?_
  refine wpList_nil ?_
  refine then_n ?_
  refine wp_ret ?_
  have hc15 : (Aes.dec (Aes.words key) block) = (Aes.dec (Aes.words key) block) := by rfl
  refine fin_ret1 rfl (Ev.t (v := .bool true) (Eq.trans (b := .bool (decide ((Aes.dec (Aes.words key) block) = (Aes.dec (Aes.words key) block)))) rfl (by rw [decide_eq_true hc15])) rfl) ?_
  exact ⟨rfl, hk⟩

theorem walk_AesWords (key : List (BitVec 8)) (hkey : key.length ≤ 140737488351232) (w : World) : Calls Try.prog 6 #[.string (str key)] w fun e w' => e = .returned (.bool true) ∧ Below w.heap.size w w' := by
  by_cases hk : Aes.okKey key.length
  · exact aesWords_yes key hk w
  · exact aesWords_no key hk w
theorem walk_AesEncrypts (key : List (BitVec 8)) (hkey : key.length ≤ 140737488351232) (block : List (BitVec 8)) (hb : block.length ≤ 140737488351232) (w : World) : Calls Try.prog 7 #[.string (str key), .string (str block)] w fun e w' => e = .returned (.bool true) ∧ Below w.heap.size w w' := by
  by_cases hk : Aes.okKey key.length
  · by_cases hs : block.length = 16
    · exact aesEncrypts_yes key block hk hs w
    · exact aesEncrypts_bad key block hk hs w
  · exact aesEncrypts_no key block hk w
end Go.Proofs.Ytcdhkpndpadbhaa
