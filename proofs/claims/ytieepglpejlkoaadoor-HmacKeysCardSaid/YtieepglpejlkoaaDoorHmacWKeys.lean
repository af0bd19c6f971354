/-
  The walk of the law HmacKeys. Conditions as each says.
-/
import Derived.Test.YtieepglpejlkoaaDoorRows
import Derived.Test.YtieepglpejlkoaaDoorHmacW
import Derived.ProofKit
namespace Go.Proofs.YtieepglpejlkoaaDoor
open Go.RowKit
set_option linter.unusedSimpArgs false
set_option linter.unusedVariables false
namespace HmacWKeysT
theorem mixed : Tryd.prog.follows .mixedOrders = true := by kernel_rfl
theorem fa44_2 (g off : Nat) : ∀ w, (Instr.fieldAt 44 (.pointer (some ⟨g, off, none⟩)) 2).run Tryd.prog w = .ok (.pointer (some ⟨g, off + 2, none⟩)) w := fun w => by kernel_rfl
theorem fa65_0 (g off : Nat) : ∀ w, (Instr.fieldAt 65 (.pointer (some ⟨g, off, none⟩)) 0).run Tryd.prog w = .ok (.pointer (some ⟨g, off + 0, none⟩)) w := fun w => by kernel_rfl
theorem fa65_1 (g off : Nat) : ∀ w, (Instr.fieldAt 65 (.pointer (some ⟨g, off, none⟩)) 1).run Tryd.prog w = .ok (.pointer (some ⟨g, off + 1, none⟩)) w := fun w => by kernel_rfl
theorem fa65_2 (g off : Nat) : ∀ w, (Instr.fieldAt 65 (.pointer (some ⟨g, off, none⟩)) 2).run Tryd.prog w = .ok (.pointer (some ⟨g, off + 2, none⟩)) w := fun w => by kernel_rfl
theorem sc3 : (Tryd.prog.underlying 3).map scal = some true := by rw [Tryd.underlying3]; rfl
theorem sc31 : (Tryd.prog.underlying 31).map scal = some true := by rw [Tryd.underlying31]; rfl
theorem sc5 : (Tryd.prog.underlying 5).map scal = some true := by rw [Tryd.underlying5]; rfl
theorem sc9 : (Tryd.prog.underlying 9).map scal = some true := by rw [Tryd.underlying9]; rfl
theorem sz31 : (Tryd.prog.info? 31).map (·.size) = some 1 := by kernel_rfl
theorem sz5 : (Tryd.prog.info? 5).map (·.size) = some 1 := by kernel_rfl
theorem sz9 : (Tryd.prog.info? 9).map (·.size) = some 1 := by kernel_rfl
end HmacWKeysT
set_option maxRecDepth 100000 in
set_option maxHeartbeats 1000000 in
theorem hmacKeys_n (k : Int) (k1 : k ≠ 256) (k2 : k ≠ 384) (k3 : k ≠ 512) (key text : List (BitVec 8)) (hk2 : key.length ≤ 140737488351232) (hs : text.length ≤ 140737488351232) (w0 : World) (hT : Sha.Tabs w0) : Calls Tryd.prog 9 #[.int .i64 k, .string (str key), .string (str text)] w0 fun e w' => e = .returned (.bool true) ∧ Below w0.heap.size w0 w' := by
 have hT0 := hT.lt
 refine enter (n := 78) Tryd.func9 rfl rfl rfl ?_
 have hk : Below w0.heap.size w0 w0 := Below.refl _ _
 refine wp_seq ?_
 refine wp_region_lit ?_
 refine w_as (evc (.bool false)) ?_
 refine wpList_nil ?_
 refine then_n ?_
 refine wp_seq ?_
 refine wp_seq ?_
 refine wp_region_lit ?_
 refine w_call (Tryd.func26) (by kernel_rfl) rfl m0 (macWakes_c w0 hT) ?_
 rintro _ w1 ⟨rfl, hb2⟩
 refine ⟨_, rfl, ?_⟩
 replace hk := thenB hk hb2
 replace hT := Sha.Tabs.below hT hb2
 refine w_val (v := .bool false) (y_not (ev (.bool true) rfl rfl)) ?_
 refine wpList_nil ?_
 refine then_n ?_
 refine c_ff (ev (.bool false) rfl rfl) ?_
 refine wp_skip ?_
 refine then_n ?_
 refine wp_seq ?_
 refine wp_seq ?_
 refine wp_region_lit ?_
 refine w_mv (ev (.int .i64 k) rfl rfl) ?_
 refine w_call (Tryd.func21) (by kernel_rfl) rfl (m1 (ev (.int .i64 k) rfl rfl)) (known_no k k1 k2 k3 w1 ) ?_
 rintro _ w3 ⟨rfl, hb4⟩
 refine ⟨_, rfl, ?_⟩
 replace hk := thenB hk hb4
 replace hT := Sha.Tabs.below hT hb4
 refine w_val (v := .bool true) (y_not (ev (.bool false) rfl rfl)) ?_
 refine w_mv (ev (.bool true) rfl rfl) ?_
 first | with_reducible refine w_skip ?_ ?_ | refine w_skip ?_ ?_
 · exact want_no (j := 3) rfl rfl (ev (.bool true) rfl rfl) rfl
 first | with_reducible refine w_skip ?_ ?_ | refine w_skip ?_ ?_
 · exact want_no (j := 3) rfl rfl (ev (.bool true) rfl rfl) rfl
 first | with_reducible refine w_skip ?_ ?_ | refine w_skip ?_ ?_
 · exact want_no (j := 3) rfl rfl (ev (.bool true) rfl rfl) rfl
 refine w_val (v := .bool true) (y_pick_t (ev (.bool true) rfl rfl) (evc (.bool true))) ?_
 refine w_mv (ev (.bool true) rfl rfl) ?_
 first | with_reducible refine w_skip ?_ ?_ | refine w_skip ?_ ?_
 · exact want_no (j := 8) rfl rfl (ev (.bool true) rfl rfl) rfl
 first | with_reducible refine w_skip ?_ ?_ | refine w_skip ?_ ?_
 · exact want_no (j := 8) rfl rfl (ev (.bool true) rfl rfl) rfl
 first | with_reducible refine w_skip ?_ ?_ | refine w_skip ?_ ?_
 · exact want_no (j := 8) rfl rfl (ev (.bool true) rfl rfl) rfl
 refine w_val (v := .bool true) (y_pick_t (ev (.bool true) rfl rfl) (evc (.bool true))) ?_
 refine wpList_nil ?_
 refine then_n ?_
 refine c_tt (ev (.bool true) rfl rfl) ?_
 refine wp_seq ?_
 refine wp_region_lit ?_
 refine w_as (evc (.bool true)) ?_
 refine wpList_nil ?_
 refine then_n ?_
 refine wp_ret ?_
 refine then_r ?_
 refine fin_ret1 rfl (ev (.bool true) rfl rfl) ?_
 exact ⟨rfl, hk⟩

set_option maxRecDepth 100000 in
set_option maxHeartbeats 1000000 in
theorem hmacKeys_y (kind : Nat) (hkd : Sha.Known kind) (key text : List (BitVec 8)) (hk2 : key.length ≤ 140737488351232) (hs : text.length ≤ 140737488351232) (w0 : World) (hT : Sha.Tabs w0) : Calls Tryd.prog 9 #[.int .i64 ((kind : Nat) : Int), .string (str key), .string (str text)] w0 fun e w' => e = .returned (.bool true) ∧ Below w0.heap.size w0 w' := by
 have hT0 := hT.lt
 have hbs := Sha.bs_le kind
 have hol := Sha.ol_lt kind
 refine enter (n := 78) Tryd.func9 rfl rfl rfl ?_
 have hk : Below w0.heap.size w0 w0 := Below.refl _ _
 refine wp_seq ?_
 refine wp_region_lit ?_
 refine w_as (evc (.bool false)) ?_
 refine wpList_nil ?_
 refine then_n ?_
 refine wp_seq ?_
 refine wp_seq ?_
 refine wp_region_lit ?_
 refine w_call (Tryd.func26) (by kernel_rfl) rfl m0 (macWakes_c w0 hT) ?_
 rintro _ w1 ⟨rfl, hb2⟩
 refine ⟨_, rfl, ?_⟩
 replace hk := thenB hk hb2
 replace hT := Sha.Tabs.below hT hb2
 refine w_val (v := .bool false) (y_not (ev (.bool true) rfl rfl)) ?_
 refine wpList_nil ?_
 refine then_n ?_
 refine c_ff (ev (.bool false) rfl rfl) ?_
 refine wp_skip ?_
 refine then_n ?_
 refine wp_seq ?_
 refine wp_seq ?_
 refine wp_region_lit ?_
 refine w_mv (ev (.int .i64 ((kind : Nat) : Int)) rfl rfl) ?_
 refine w_call (Tryd.func21) (by kernel_rfl) rfl (m1 (ev (.int .i64 ((kind : Nat) : Int)) rfl rfl)) (known_l kind  w1 hkd) ?_
 rintro _ w3 ⟨rfl, hb4⟩
 refine ⟨_, rfl, ?_⟩
 replace hk := thenB hk hb4
 replace hT := Sha.Tabs.below hT hb4
 refine w_val (v := .bool false) (y_not (ev (.bool true) rfl rfl)) ?_
 refine w_mv (ev (.bool false) rfl rfl) ?_
 refine w_val_g (v := .string (str key)) (want_yes (j := 3) rfl rfl (ev (.bool false) rfl rfl) rfl) (y_mv (ev (.string (str key)) rfl rfl)) ?_
 refine w_val_g (v := .int .i64 ((key.length : Nat) : Int)) (want_yes (j := 3) rfl rfl (ev (.bool false) rfl rfl) rfl) (y_len (ev (.string (str key)) rfl rfl) Tryd.underlying9) ?_
 refine w_val_g (v := .bool (decide (5000 < ((key.length : Nat) : Int)))) (want_yes (j := 3) rfl rfl (ev (.bool false) rfl rfl) rfl) (y_bin (ev (.int .i64 ((key.length : Nat) : Int)) rfl rfl) (evc (.int .i64 5000)) b_gtr) ?_
 refine w_val (v := .bool (decide (5000 < ((key.length : Nat) : Int)))) (y_pick_f (ev (.bool false) rfl rfl) (ev (.bool (decide (5000 < ((key.length : Nat) : Int)))) rfl rfl)) ?_
 refine w_mv (ev (.bool (decide (5000 < ((key.length : Nat) : Int)))) rfl rfl) ?_
 by_cases hc5 : 5000 < ((key.length : Nat) : Int)
 ·skip
  first | with_reducible refine w_skip ?_ ?_ | refine w_skip ?_ ?_
  · exact want_no (j := 8) rfl rfl (ev (.bool true) (Eq.trans (b := .bool (decide (5000 < ((key.length : Nat) : Int)))) rfl (by rw [decide_eq_true hc5])) rfl) rfl
  first | with_reducible refine w_skip ?_ ?_ | refine w_skip ?_ ?_
  · exact want_no (j := 8) rfl rfl (ev (.bool true) (Eq.trans (b := .bool (decide (5000 < ((key.length : Nat) : Int)))) rfl (by rw [decide_eq_true hc5])) rfl) rfl
  first | with_reducible refine w_skip ?_ ?_ | refine w_skip ?_ ?_
  · exact want_no (j := 8) rfl rfl (ev (.bool true) (Eq.trans (b := .bool (decide (5000 < ((key.length : Nat) : Int)))) rfl (by rw [decide_eq_true hc5])) rfl) rfl
  refine w_val (v := .bool true) (y_pick_t (ev (.bool true) (Eq.trans (b := .bool (decide (5000 < ((key.length : Nat) : Int)))) rfl (by rw [decide_eq_true hc5])) rfl) (evc (.bool true))) ?_
  refine wpList_nil ?_
  refine then_n ?_
  refine c_tt (ev (.bool true) rfl rfl) ?_
  refine wp_seq ?_
  refine wp_region_lit ?_
  refine w_as (evc (.bool true)) ?_
  refine wpList_nil ?_
  refine then_n ?_
  refine wp_ret ?_
  refine then_r ?_
  refine fin_ret1 rfl (ev (.bool true) rfl rfl) ?_
  exact ⟨rfl, hk⟩
 ·skip
  refine w_val_g (v := .string (str text)) (want_yes (j := 8) rfl rfl (ev (.bool false) (Eq.trans (b := .bool (decide (5000 < ((key.length : Nat) : Int)))) rfl (by rw [decide_eq_false hc5])) rfl) rfl) (y_mv (ev (.string (str text)) rfl rfl)) ?_
  refine w_val_g (v := .int .i64 ((text.length : Nat) : Int)) (want_yes (j := 8) rfl rfl (ev (.bool false) (Eq.trans (b := .bool (decide (5000 < ((key.length : Nat) : Int)))) rfl (by rw [decide_eq_false hc5])) rfl) rfl) (y_len (ev (.string (str text)) rfl rfl) Tryd.underlying9) ?_
  refine w_val_g (v := .bool (decide (5000 < ((text.length : Nat) : Int)))) (want_yes (j := 8) rfl rfl (ev (.bool false) (Eq.trans (b := .bool (decide (5000 < ((key.length : Nat) : Int)))) rfl (by rw [decide_eq_false hc5])) rfl) rfl) (y_bin (ev (.int .i64 ((text.length : Nat) : Int)) rfl rfl) (evc (.int .i64 5000)) b_gtr) ?_
  refine w_val (v := .bool (decide (5000 < ((text.length : Nat) : Int)))) (y_pick_f (ev (.bool false) (Eq.trans (b := .bool (decide (5000 < ((key.length : Nat) : Int)))) rfl (by rw [decide_eq_false hc5])) rfl) (ev (.bool (decide (5000 < ((text.length : Nat) : Int)))) rfl rfl)) ?_
  refine wpList_nil ?_
  refine then_n ?_
  refine c_if (p := 5000 < ((text.length : Nat) : Int)) (ev (.bool (decide (5000 < ((text.length : Nat) : Int)))) rfl rfl) (fun hc6 => ?_) (fun hc6 => ?_)
  ·skip
   refine wp_seq ?_
   refine wp_region_lit ?_
   refine w_as (evc (.bool true)) ?_
   refine wpList_nil ?_
   refine then_n ?_
   refine wp_ret ?_
   refine then_r ?_
   refine fin_ret1 rfl (ev (.bool true) rfl rfl) ?_
   exact ⟨rfl, hk⟩
  ·skip
   refine wp_skip ?_
   refine then_n ?_
   refine wp_seq ?_
   refine wp_region_lit ?_
   refine w_mv (ev (.int .i64 ((kind : Nat) : Int)) rfl rfl) ?_
   refine w_mv (ev (.string (str key)) rfl rfl) ?_
   refine w_mv (ev (.string (str text)) rfl rfl) ?_
   refine w_call (Tryd.func27) (by kernel_rfl) rfl (m3 (ev (.int .i64 ((kind : Nat) : Int)) rfl rfl) (ev (.string (str key)) rfl rfl) (ev (.string (str text)) rfl rfl)) (mac_l kind hkd key text (by omega) (by (try simp only [List.length_append, List.length_singleton, Sha.length_sum]); omega) w3 hT) ?_
   rintro _ w7 ⟨rfl, hb8⟩
   refine ⟨_, rfl, ?_⟩
   replace hk := thenB hk hb8
   replace hT := Sha.Tabs.below hT hb8
   refine w_mv (ev (.tuple #[.string (str (Hm.mac kind key text)), .int .i64 0]) rfl rfl) ?_
   refine w_val (v := .string (str (Hm.mac kind key text))) (y_ext (v := .string (str (Hm.mac kind key text))) (ev (.tuple #[.string (str (Hm.mac kind key text)), .int .i64 0]) rfl rfl) rfl) ?_
   refine w_val (v := .int .i64 0) (y_ext (v := .int .i64 0) (ev (.tuple #[.string (str (Hm.mac kind key text)), .int .i64 0]) rfl rfl) rfl) ?_
   refine w_as (ev (.string (str (Hm.mac kind key text))) rfl rfl) ?_
   refine w_as (ev (.int .i64 0) rfl rfl) ?_
   refine wpList_nil ?_
   refine then_n ?_
   refine wp_seq ?_
   refine wp_region_lit ?_
   refine w_mv (ev (.int .i64 ((kind : Nat) : Int)) rfl rfl) ?_
   refine w_call (Tryd.func22) (by kernel_rfl) rfl (m1 (ev (.int .i64 ((kind : Nat) : Int)) rfl rfl)) (make_l kind w7 hkd) ?_
   rintro _ w9 ⟨rp, rfl, hge_rp, hR, hb_rp⟩
   refine ⟨_, rfl, ?_⟩
   have ge_rp : w0.heap.size ≤ rp := by have := hk.size; omega
   replace hk := thenB hk hb_rp
   replace hT := Sha.Tabs.below hT hb_rp
   have hR2 := hR
   obtain ⟨g, cap, r_rp, _⟩ := hR2
   refine w_as (ev (pt rp 0) rfl rfl) ?_
   refine wpList_nil ?_
   refine then_n ?_
   refine wp_seq ?_
   refine wp_region_lit ?_
   refine w_mv (ev (.string (str key)) rfl rfl) ?_
   refine w_val (v := .string (str (key ++ ([0#8])))) (y_bin (ev (.string (str key)) rfl rfl) (evc (.string (str ([0#8])))) (b_cat (by (try simp only [List.length_append, List.length_singleton]); omega))) ?_
   refine w_as (ev (.string (str (key ++ ([0#8])))) rfl rfl) ?_
   refine wpList_nil ?_
   refine then_n ?_
   refine wp_seq ?_
   refine wp_block ?_
   refine wp_seq ?_
   refine wp_region_lit ?_
   refine w_mv (ev (.string (str key)) rfl rfl) ?_
   refine w_val (v := .int .i64 ((key.length : Nat) : Int)) (y_len (ev (.string (str key)) rfl rfl) Tryd.underlying9) ?_
   refine w_mv (ev (pt rp 0) rfl rfl) ?_
   refine w_val (v := pt rp 0) (y_nc (ev (pt rp 0) rfl rfl)) ?_
   refine w_val (v := pt rp 2) (y_off (y_fa (ev (pt rp 0) rfl rfl) (HmacWKeysT.fa44_2 _ _)) (by first | rfl | omega)) ?_
   refine w_val (v := .int .i64 (((Sha.bs kind) : Nat) : Int)) (y_ld (ev (pt rp 2) rfl rfl) HmacWKeysT.sc3 (r_rp.val (by omega) ((if_neg (by omega)).trans ((if_neg (by omega)).trans (etv (if_pos (by omega))))))) ?_
   refine w_val (v := .bool (decide ((((Sha.bs kind) : Nat) : Int) < ((key.length : Nat) : Int)))) (y_bin (ev (.int .i64 ((key.length : Nat) : Int)) rfl rfl) (ev (.int .i64 (((Sha.bs kind) : Nat) : Int)) rfl rfl) b_gtr) ?_
   refine w_as (ev (.bool (decide ((((Sha.bs kind) : Nat) : Int) < ((key.length : Nat) : Int)))) rfl rfl) ?_
   refine wpList_nil ?_
   refine then_n ?_
   refine c_if (p := (((Sha.bs kind) : Nat) : Int) < ((key.length : Nat) : Int)) (ev (.bool (decide ((((Sha.bs kind) : Nat) : Int) < ((key.length : Nat) : Int)))) rfl rfl) (fun hc10 => ?_) (fun hc10 => ?_)
   ·skip
    refine wp_region_lit ?_
    refine w_mv (ev (pt rp 0) rfl rfl) ?_
    refine w_mv (ev (.string (str key)) rfl rfl) ?_
    refine w_call (Tryd.func29) (by kernel_rfl) rfl (m2 (ev (pt rp 0) rfl rfl) (ev (.string (str key)) rfl rfl)) (ruleSum_l kind key w9 rp hkd (by (try simp only [List.length_append, Hm.pd_len, Sha.length_sum]); omega) hR) ?_
    rintro _ w11 ⟨rfl, hb12⟩
    refine ⟨_, rfl, ?_⟩
    replace r_rp := r_rp.step hb12
    replace hk := thenB hk hb12
    replace hT := Sha.Tabs.below hT hb12
    replace hR := Sha.RuleAt.below hR hb12
    refine w_as (ev (.string (str (Sha.sum kind key))) rfl rfl) ?_
    refine wpList_nil ?_
    refine inb_n ?_
    refine then_n ?_
    refine wp_seq ?_
    refine wp_region_lit ?_
    refine w_mv (ev (.int .i64 ((kind : Nat) : Int)) rfl rfl) ?_
    refine w_mv (ev (.string (str (Sha.sum kind key))) rfl rfl) ?_
    refine w_mv (ev (.string (str text)) rfl rfl) ?_
    refine w_call (Tryd.func27) (by kernel_rfl) rfl (m3 (ev (.int .i64 ((kind : Nat) : Int)) rfl rfl) (ev (.string (str (Sha.sum kind key))) rfl rfl) (ev (.string (str text)) rfl rfl)) (mac_l kind hkd (Sha.sum kind key) text (by omega) (by (try simp only [List.length_append, List.length_singleton, Sha.length_sum]); omega) w11 hT) ?_
    rintro _ w13 ⟨rfl, hb14⟩
    refine ⟨_, rfl, ?_⟩
    replace r_rp := r_rp.step hb14
    replace hk := thenB hk hb14
    replace hT := Sha.Tabs.below hT hb14
    replace hR := Sha.RuleAt.below hR hb14
    refine w_mv (ev (.tuple #[.string (str (Hm.mac kind (Sha.sum kind key) text)), .int .i64 0]) rfl rfl) ?_
    refine w_val (v := .string (str (Hm.mac kind (Sha.sum kind key) text))) (y_ext (v := .string (str (Hm.mac kind (Sha.sum kind key) text))) (ev (.tuple #[.string (str (Hm.mac kind (Sha.sum kind key) text)), .int .i64 0]) rfl rfl) rfl) ?_
    refine w_val (v := .int .i64 0) (y_ext (v := .int .i64 0) (ev (.tuple #[.string (str (Hm.mac kind (Sha.sum kind key) text)), .int .i64 0]) rfl rfl) rfl) ?_
    refine w_as (ev (.string (str (Hm.mac kind (Sha.sum kind key) text))) rfl rfl) ?_
    refine w_as (ev (.int .i64 0) rfl rfl) ?_
    refine wpList_nil ?_
    refine then_n ?_
    refine wp_seq ?_
    refine wp_region_lit ?_
    refine w_mv (ev (.string (str (Hm.mac kind key text))) rfl rfl) ?_
    refine w_mv (ev (.string (str (Hm.mac kind (Sha.sum kind key) text))) rfl rfl) ?_
    refine w_val (v := .bool (decide ((Hm.mac kind key text) = (Hm.mac kind (Sha.sum kind key) text)))) (y_bin (ev (.string (str (Hm.mac kind key text))) rfl rfl) (ev (.string (str (Hm.mac kind (Sha.sum kind key) text))) rfl rfl) b_eqs) ?_
    refine w_mv (ev (.bool (decide ((Hm.mac kind key text) = (Hm.mac kind (Sha.sum kind key) text)))) rfl rfl) ?_
    have hc15 : (Hm.mac kind key text) = (Hm.mac kind (Sha.sum kind key) text) := by exact Hm.mac_congr _ _ _ _ (fun i _ => by rw [Hm.kk_sum kind key (by omega)])
    refine w_val_g (v := .int .i64 0) (want_yes (j := 3) rfl rfl (ev (.bool true) (Eq.trans (b := .bool (decide ((Hm.mac kind key text) = (Hm.mac kind (Sha.sum kind key) text)))) rfl (by rw [decide_eq_true hc15])) rfl) rfl) (y_mv (ev (.int .i64 0) rfl rfl)) ?_
    refine w_val_g (v := .bool true) (want_yes (j := 3) rfl rfl (ev (.bool true) (Eq.trans (b := .bool (decide ((Hm.mac kind key text) = (Hm.mac kind (Sha.sum kind key) text)))) rfl (by rw [decide_eq_true hc15])) rfl) rfl) (y_bin (ev (.int .i64 0) rfl rfl) (evc (.int .i64 0)) b_eql) ?_
    refine w_val (v := .bool true) (y_pick_t (ev (.bool true) (Eq.trans (b := .bool (decide ((Hm.mac kind key text) = (Hm.mac kind (Sha.sum kind key) text)))) rfl (by rw [decide_eq_true hc15])) rfl) (ev (.bool true) rfl rfl)) ?_
    refine w_mv (ev (.bool true) rfl rfl) ?_
    refine w_val_g (v := .int .i64 0) (want_yes (j := 7) rfl rfl (ev (.bool true) rfl rfl) rfl) (y_mv (ev (.int .i64 0) rfl rfl)) ?_
    refine w_val_g (v := .bool true) (want_yes (j := 7) rfl rfl (ev (.bool true) rfl rfl) rfl) (y_bin (ev (.int .i64 0) rfl rfl) (evc (.int .i64 0)) b_eql) ?_
    refine w_val (v := .bool true) (y_pick_t (ev (.bool true) rfl rfl) (ev (.bool true) rfl rfl)) ?_
    refine w_as (ev (.bool true) rfl rfl) ?_
    refine wpList_nil ?_
    refine then_n ?_
    refine wp_ret ?_
    refine fin_ret1 rfl (ev (.bool true) rfl rfl) ?_
    exact ⟨rfl, hk⟩
   ·skip
    refine wp_seq ?_
    refine wp_region_lit ?_
    refine w_mv (ev (.string (str key)) rfl rfl) ?_
    refine w_val (v := .int .i64 ((key.length : Nat) : Int)) (y_len (ev (.string (str key)) rfl rfl) Tryd.underlying9) ?_
    refine w_mv (ev (pt rp 0) rfl rfl) ?_
    refine w_val (v := pt rp 0) (y_nc (ev (pt rp 0) rfl rfl)) ?_
    refine w_val (v := pt rp 2) (y_off (y_fa (ev (pt rp 0) rfl rfl) (HmacWKeysT.fa44_2 _ _)) (by first | rfl | omega)) ?_
    refine w_val (v := .int .i64 (((Sha.bs kind) : Nat) : Int)) (y_ld (ev (pt rp 2) rfl rfl) HmacWKeysT.sc3 (r_rp.val (by omega) ((if_neg (by omega)).trans ((if_neg (by omega)).trans (etv (if_pos (by omega))))))) ?_
    refine w_val (v := .bool (decide (((key.length : Nat) : Int) = (((Sha.bs kind) : Nat) : Int)))) (y_bin (ev (.int .i64 ((key.length : Nat) : Int)) rfl rfl) (ev (.int .i64 (((Sha.bs kind) : Nat) : Int)) rfl rfl) b_eql) ?_
    refine w_as (ev (.bool (decide (((key.length : Nat) : Int) = (((Sha.bs kind) : Nat) : Int)))) rfl rfl) ?_
    refine wpList_nil ?_
    refine then_n ?_
    refine c_if (p := ((key.length : Nat) : Int) = (((Sha.bs kind) : Nat) : Int)) (ev (.bool (decide (((key.length : Nat) : Int) = (((Sha.bs kind) : Nat) : Int)))) rfl rfl) (fun hc16 => ?_) (fun hc16 => ?_)
    ·skip
     refine wp_seq ?_
     refine wp_region_lit ?_
     refine w_mv (ev (.int .i64 0) rfl rfl) ?_
     refine w_val (v := .bool true) (y_bin (ev (.int .i64 0) rfl rfl) (evc (.int .i64 0)) b_eql) ?_
     refine w_as (ev (.bool true) rfl rfl) ?_
     refine wpList_nil ?_
     refine then_n ?_
     refine wp_ret ?_
     refine inb_r ?_
     refine then_r ?_
     refine fin_ret1 rfl (ev (.bool true) rfl rfl) ?_
     exact ⟨rfl, hk⟩
    ·skip
     refine wp_skip ?_
     refine inb_n ?_
     refine then_n ?_
     refine wp_seq ?_
     refine wp_region_lit ?_
     refine w_mv (ev (.int .i64 ((kind : Nat) : Int)) rfl rfl) ?_
     refine w_mv (ev (.string (str (key ++ ([0#8])))) rfl rfl) ?_
     refine w_mv (ev (.string (str text)) rfl rfl) ?_
     refine w_call (Tryd.func27) (by kernel_rfl) rfl (m3 (ev (.int .i64 ((kind : Nat) : Int)) rfl rfl) (ev (.string (str (key ++ ([0#8])))) rfl rfl) (ev (.string (str text)) rfl rfl)) (mac_l kind hkd (key ++ ([0#8])) text (by omega) (by (try simp only [List.length_append, List.length_singleton, Sha.length_sum]); omega) w9 hT) ?_
     rintro _ w17 ⟨rfl, hb18⟩
     refine ⟨_, rfl, ?_⟩
     replace r_rp := r_rp.step hb18
     replace hk := thenB hk hb18
     replace hT := Sha.Tabs.below hT hb18
     replace hR := Sha.RuleAt.below hR hb18
     refine w_mv (ev (.tuple #[.string (str (Hm.mac kind (key ++ ([0#8])) text)), .int .i64 0]) rfl rfl) ?_
     refine w_val (v := .string (str (Hm.mac kind (key ++ ([0#8])) text))) (y_ext (v := .string (str (Hm.mac kind (key ++ ([0#8])) text))) (ev (.tuple #[.string (str (Hm.mac kind (key ++ ([0#8])) text)), .int .i64 0]) rfl rfl) rfl) ?_
     refine w_val (v := .int .i64 0) (y_ext (v := .int .i64 0) (ev (.tuple #[.string (str (Hm.mac kind (key ++ ([0#8])) text)), .int .i64 0]) rfl rfl) rfl) ?_
     refine w_as (ev (.string (str (Hm.mac kind (key ++ ([0#8])) text))) rfl rfl) ?_
     refine w_as (ev (.int .i64 0) rfl rfl) ?_
     refine wpList_nil ?_
     refine then_n ?_
     refine wp_seq ?_
     refine wp_region_lit ?_
     refine w_mv (ev (.string (str (Hm.mac kind key text))) rfl rfl) ?_
     refine w_mv (ev (.string (str (Hm.mac kind (key ++ ([0#8])) text))) rfl rfl) ?_
     refine w_val (v := .bool (decide ((Hm.mac kind key text) = (Hm.mac kind (key ++ ([0#8])) text)))) (y_bin (ev (.string (str (Hm.mac kind key text))) rfl rfl) (ev (.string (str (Hm.mac kind (key ++ ([0#8])) text))) rfl rfl) b_eqs) ?_
     refine w_mv (ev (.bool (decide ((Hm.mac kind key text) = (Hm.mac kind (key ++ ([0#8])) text)))) rfl rfl) ?_
     have hc19 : (Hm.mac kind key text) = (Hm.mac kind (key ++ ([0#8])) text) := by exact Hm.mac_congr _ _ _ _ (fun i _ => (Hm.kk_zero kind key (by omega) i).symm)
     refine w_val_g (v := .int .i64 0) (want_yes (j := 3) rfl rfl (ev (.bool true) (Eq.trans (b := .bool (decide ((Hm.mac kind key text) = (Hm.mac kind (key ++ ([0#8])) text)))) rfl (by rw [decide_eq_true hc19])) rfl) rfl) (y_mv (ev (.int .i64 0) rfl rfl)) ?_
     refine w_val_g (v := .bool true) (want_yes (j := 3) rfl rfl (ev (.bool true) (Eq.trans (b := .bool (decide ((Hm.mac kind key text) = (Hm.mac kind (key ++ ([0#8])) text)))) rfl (by rw [decide_eq_true hc19])) rfl) rfl) (y_bin (ev (.int .i64 0) rfl rfl) (evc (.int .i64 0)) b_eql) ?_
     refine w_val (v := .bool true) (y_pick_t (ev (.bool true) (Eq.trans (b := .bool (decide ((Hm.mac kind key text) = (Hm.mac kind (key ++ ([0#8])) text)))) rfl (by rw [decide_eq_true hc19])) rfl) (ev (.bool true) rfl rfl)) ?_
     refine w_mv (ev (.bool true) rfl rfl) ?_
     refine w_val_g (v := .int .i64 0) (want_yes (j := 7) rfl rfl (ev (.bool true) rfl rfl) rfl) (y_mv (ev (.int .i64 0) rfl rfl)) ?_
     refine w_val_g (v := .bool true) (want_yes (j := 7) rfl rfl (ev (.bool true) rfl rfl) rfl) (y_bin (ev (.int .i64 0) rfl rfl) (evc (.int .i64 0)) b_eql) ?_
     refine w_val (v := .bool true) (y_pick_t (ev (.bool true) rfl rfl) (ev (.bool true) rfl rfl)) ?_
     refine w_as (ev (.bool true) rfl rfl) ?_
     refine wpList_nil ?_
     refine then_n ?_
     refine wp_ret ?_
     refine fin_ret1 rfl (ev (.bool true) rfl rfl) ?_
     exact ⟨rfl, hk⟩

theorem walk_HmacKeys (k : Int) (hw : (Lit.int .i64 k).wf = true) (key : List (BitVec 8)) (hk2 : key.length ≤ 140737488351232) (text : List (BitVec 8)) (hs : text.length ≤ 140737488351232) (w : World) (hT : Sha.Tabs w) : Calls Tryd.prog 9 #[.int .i64 k, .string (str key), .string (str text)] w fun e w' => e = .returned (.bool true) ∧ Below w.heap.size w w' := by
  by_cases k1 : k = 256
  · subst k1; exact hmacKeys_y 256 (.inl rfl) key text hk2 hs w hT
  by_cases k2 : k = 384
  · subst k2; exact hmacKeys_y 384 (.inr (.inl rfl)) key text hk2 hs w hT
  by_cases k3 : k = 512
  · subst k3; exact hmacKeys_y 512 (.inr (.inr rfl)) key text hk2 hs w hT
  exact hmacKeys_n k k1 k2 k3 key text hk2 hs w hT
end Go.Proofs.YtieepglpejlkoaaDoor
