/-
  The walk of the law ShaSizes. Conditions as each says.
-/
import Derived.Test.YtieepglpejlkoaaDoorRows
import Derived.Test.YtieepglpejlkoaaDoorShaW
import Derived.ProofKit
namespace Go.Proofs.YtieepglpejlkoaaDoor
open Go.RowKit
set_option linter.unusedSimpArgs false
set_option linter.unusedVariables false
namespace ShaWSizesT
theorem mixed : Tryd.prog.follows .mixedOrders = true := by kernel_rfl
theorem fa44_1 (g off : Nat) : ∀ w, (Instr.fieldAt 44 (.pointer (some ⟨g, off, none⟩)) 1).run Tryd.prog w = .ok (.pointer (some ⟨g, off + 1, none⟩)) w := fun w => by kernel_rfl
theorem fa44_2 (g off : Nat) : ∀ w, (Instr.fieldAt 44 (.pointer (some ⟨g, off, none⟩)) 2).run Tryd.prog w = .ok (.pointer (some ⟨g, off + 2, none⟩)) w := fun w => by kernel_rfl
theorem fa53_0 (g off : Nat) : ∀ w, (Instr.fieldAt 53 (.pointer (some ⟨g, off, none⟩)) 0).run Tryd.prog w = .ok (.pointer (some ⟨g, off + 0, none⟩)) w := fun w => by kernel_rfl
theorem sc3 : (Tryd.prog.underlying 3).map scal = some true := by rw [Tryd.underlying3]; rfl
theorem sc9 : (Tryd.prog.underlying 9).map scal = some true := by rw [Tryd.underlying9]; rfl
theorem sz9 : (Tryd.prog.info? 9).map (·.size) = some 1 := by kernel_rfl
end ShaWSizesT
set_option maxRecDepth 100000 in
set_option maxHeartbeats 1000000 in
theorem shaSizes_n (k : Int) (k1 : k ≠ 256) (k2 : k ≠ 384) (k3 : k ≠ 512) (w0 : World) (hT : Sha.Tabs w0) : Calls Tryd.prog 4 #[.int .i64 k] w0 fun e w' => e = .returned (.bool true) ∧ Below w0.heap.size w0 w' := by
 have hT0 := hT.lt
 refine enter (n := 80) Tryd.func4 rfl rfl rfl ?_
 have hk : Below w0.heap.size w0 w0 := Below.refl _ _
 refine wp_seq ?_
 refine wp_region_lit ?_
 refine w_as (evc (.bool false)) ?_
 refine wpList_nil ?_
 refine then_n ?_
 refine wp_seq ?_
 refine wp_region_lit ?_
 refine w_mv (ev (.int .i64 k) rfl rfl) ?_
 refine w_call (Tryd.func19) (by kernel_rfl) rfl (m1 (ev (.int .i64 k) rfl rfl)) (shaSize_no k k1 k2 k3  w0 ) ?_
 rintro _ w1 ⟨rfl, hb2⟩
 refine ⟨_, rfl, ?_⟩
 replace hk := thenB hk hb2
 replace hT := Sha.Tabs.below hT hb2
 refine w_mv (ev (.tuple #[.int .i64 0, .int .i64 0, .int .i64 11]) rfl rfl) ?_
 refine w_val (v := .int .i64 0) (y_ext (v := .int .i64 0) (ev (.tuple #[.int .i64 0, .int .i64 0, .int .i64 11]) rfl rfl) rfl) ?_
 refine w_val (v := .int .i64 0) (y_ext (v := .int .i64 0) (ev (.tuple #[.int .i64 0, .int .i64 0, .int .i64 11]) rfl rfl) rfl) ?_
 refine w_val (v := .int .i64 11) (y_ext (v := .int .i64 11) (ev (.tuple #[.int .i64 0, .int .i64 0, .int .i64 11]) rfl rfl) rfl) ?_
 refine w_as (ev (.int .i64 0) rfl rfl) ?_
 refine w_as (ev (.int .i64 0) rfl rfl) ?_
 refine w_as (ev (.int .i64 11) rfl rfl) ?_
 refine wpList_nil ?_
 refine then_n ?_
 refine wp_seq ?_
 refine wp_region_lit ?_
 refine w_mv (ev (.int .i64 k) rfl rfl) ?_
 refine w_call (Tryd.func20) (by kernel_rfl) rfl (m1 (ev (.int .i64 k) rfl rfl)) (shaNew_no k k1 k2 k3 w1 ) ?_
 rintro _ w3 ⟨rfl, hb4⟩
 refine ⟨_, rfl, ?_⟩
 replace hk := thenB hk hb4
 replace hT := Sha.Tabs.below hT hb4
 refine w_mv (ev (.tuple #[.pointer none, .int .i64 11]) rfl rfl) ?_
 refine w_val (v := .pointer none) (y_ext (v := .pointer none) (ev (.tuple #[.pointer none, .int .i64 11]) rfl rfl) rfl) ?_
 refine w_val (v := .int .i64 11) (y_ext (v := .int .i64 11) (ev (.tuple #[.pointer none, .int .i64 11]) rfl rfl) rfl) ?_
 refine w_as (ev (.pointer none) rfl rfl) ?_
 refine w_as (ev (.int .i64 11) rfl rfl) ?_
 refine wpList_nil ?_
 refine then_n ?_
 refine wp_seq ?_
 refine wp_seq ?_
 refine wp_region_lit ?_
 refine w_call (Tryd.func16) (by kernel_rfl) rfl m0 (shaWakes_c w3 hT) ?_
 rintro _ w5 ⟨rfl, hb6⟩
 refine ⟨_, rfl, ?_⟩
 replace hk := thenB hk hb6
 replace hT := Sha.Tabs.below hT hb6
 refine w_val (v := .bool false) (y_not (ev (.bool true) rfl rfl)) ?_
 refine w_mv (ev (.bool false) rfl rfl) ?_
 refine w_val_g (v := .pointer none) (want_yes (j := 2) rfl rfl (ev (.bool false) rfl rfl) rfl) (y_mv (ev (.pointer none) rfl rfl)) ?_
 refine w_val_g (v := .bool true) (want_yes (j := 2) rfl rfl (ev (.bool false) rfl rfl) rfl) (y_bin (ev (.pointer none) rfl rfl) (evc (.pointer none)) (b_eqp Tryd.underlying31)) ?_
 refine w_val_g (v := .int .i64 11) (want_yes (j := 2) rfl rfl (ev (.bool false) rfl rfl) rfl) (y_mv (ev (.int .i64 11) rfl rfl)) ?_
 refine w_val_g (v := .bool true) (want_yes (j := 2) rfl rfl (ev (.bool false) rfl rfl) rfl) (y_bin (ev (.int .i64 11) rfl rfl) (evc (.int .i64 0)) b_neq) ?_
 refine w_val_g (v := .bool false) (want_yes (j := 2) rfl rfl (ev (.bool false) rfl rfl) rfl) (y_bin (ev (.bool true) rfl rfl) (ev (.bool true) rfl rfl) (b_neb Tryd.underlying4)) ?_
 refine w_val (v := .bool false) (y_pick_f (ev (.bool false) rfl rfl) (ev (.bool false) rfl rfl)) ?_
 refine w_mv (ev (.bool false) rfl rfl) ?_
 refine w_val_g (v := .int .i64 11) (want_yes (j := 9) rfl rfl (ev (.bool false) rfl rfl) rfl) (y_mv (ev (.int .i64 11) rfl rfl)) ?_
 refine w_val_g (v := .int .i64 11) (want_yes (j := 9) rfl rfl (ev (.bool false) rfl rfl) rfl) (y_mv (ev (.int .i64 11) rfl rfl)) ?_
 refine w_val_g (v := .bool false) (want_yes (j := 9) rfl rfl (ev (.bool false) rfl rfl) rfl) (y_bin (ev (.int .i64 11) rfl rfl) (ev (.int .i64 11) rfl rfl) b_neq) ?_
 refine w_val (v := .bool false) (y_pick_f (ev (.bool false) rfl rfl) (ev (.bool false) rfl rfl)) ?_
 refine wpList_nil ?_
 refine then_n ?_
 refine c_ff (ev (.bool false) rfl rfl) ?_
 refine wp_skip ?_
 refine then_n ?_
 refine wp_seq ?_
 refine wp_seq ?_
 refine wp_region_lit ?_
 refine w_mv (ev (.int .i64 k) rfl rfl) ?_
 refine w_call (Tryd.func21) (by kernel_rfl) rfl (m1 (ev (.int .i64 k) rfl rfl)) (known_no k k1 k2 k3 w5 ) ?_
 rintro _ w7 ⟨rfl, hb8⟩
 refine ⟨_, rfl, ?_⟩
 replace hk := thenB hk hb8
 replace hT := Sha.Tabs.below hT hb8
 refine w_val (v := .bool true) (y_not (ev (.bool false) rfl rfl)) ?_
 refine wpList_nil ?_
 refine then_n ?_
 refine c_tt (ev (.bool true) rfl rfl) ?_
 refine wp_seq ?_
 refine wp_region_lit ?_
 refine w_mv (ev (.int .i64 0) rfl rfl) ?_
 refine w_val (v := .bool true) (y_bin (ev (.int .i64 0) rfl rfl) (evc (.int .i64 0)) b_eql) ?_
 refine w_mv (ev (.bool true) rfl rfl) ?_
 refine w_val_g (v := .int .i64 0) (want_yes (j := 2) rfl rfl (ev (.bool true) rfl rfl) rfl) (y_mv (ev (.int .i64 0) rfl rfl)) ?_
 refine w_val_g (v := .bool true) (want_yes (j := 2) rfl rfl (ev (.bool true) rfl rfl) rfl) (y_bin (ev (.int .i64 0) rfl rfl) (evc (.int .i64 0)) b_eql) ?_
 refine w_val (v := .bool true) (y_pick_t (ev (.bool true) rfl rfl) (ev (.bool true) rfl rfl)) ?_
 refine w_mv (ev (.bool true) rfl rfl) ?_
 refine w_val_g (v := .int .i64 11) (want_yes (j := 6) rfl rfl (ev (.bool true) rfl rfl) rfl) (y_mv (ev (.int .i64 11) rfl rfl)) ?_
 refine w_val_g (v := .bool true) (want_yes (j := 6) rfl rfl (ev (.bool true) rfl rfl) rfl) (y_bin (ev (.int .i64 11) rfl rfl) (evc (.int .i64 11)) b_eql) ?_
 refine w_val (v := .bool true) (y_pick_t (ev (.bool true) rfl rfl) (ev (.bool true) rfl rfl)) ?_
 refine w_as (ev (.bool true) rfl rfl) ?_
 refine wpList_nil ?_
 refine then_n ?_
 refine wp_ret ?_
 refine then_r ?_
 refine fin_ret1 rfl (ev (.bool true) rfl rfl) ?_
 exact ⟨rfl, hk⟩

set_option maxRecDepth 100000 in
set_option maxHeartbeats 1000000 in
theorem shaSizes_y (kind : Nat) (hkd : Sha.Known kind) (w0 : World) (hT : Sha.Tabs w0) : Calls Tryd.prog 4 #[.int .i64 ((kind : Nat) : Int)] w0 fun e w' => e = .returned (.bool true) ∧ Below w0.heap.size w0 w' := by
 have hT0 := hT.lt
 refine enter (n := 80) Tryd.func4 rfl rfl rfl ?_
 have hk : Below w0.heap.size w0 w0 := Below.refl _ _
 refine wp_seq ?_
 refine wp_region_lit ?_
 refine w_as (evc (.bool false)) ?_
 refine wpList_nil ?_
 refine then_n ?_
 refine wp_seq ?_
 refine wp_region_lit ?_
 refine w_mv (ev (.int .i64 ((kind : Nat) : Int)) rfl rfl) ?_
 refine w_call (Tryd.func19) (by kernel_rfl) rfl (m1 (ev (.int .i64 ((kind : Nat) : Int)) rfl rfl)) (size_l kind  w0 hkd) ?_
 rintro _ w1 ⟨rfl, hb2⟩
 refine ⟨_, rfl, ?_⟩
 replace hk := thenB hk hb2
 replace hT := Sha.Tabs.below hT hb2
 refine w_mv (ev (.tuple #[.int .i64 ((Sha.ol kind : Nat) : Int), .int .i64 ((Sha.bs kind : Nat) : Int), .int .i64 0]) rfl rfl) ?_
 refine w_val (v := .int .i64 ((Sha.ol kind : Nat) : Int)) (y_ext (v := .int .i64 ((Sha.ol kind : Nat) : Int)) (ev (.tuple #[.int .i64 ((Sha.ol kind : Nat) : Int), .int .i64 ((Sha.bs kind : Nat) : Int), .int .i64 0]) rfl rfl) rfl) ?_
 refine w_val (v := .int .i64 ((Sha.bs kind : Nat) : Int)) (y_ext (v := .int .i64 ((Sha.bs kind : Nat) : Int)) (ev (.tuple #[.int .i64 ((Sha.ol kind : Nat) : Int), .int .i64 ((Sha.bs kind : Nat) : Int), .int .i64 0]) rfl rfl) rfl) ?_
 refine w_val (v := .int .i64 0) (y_ext (v := .int .i64 0) (ev (.tuple #[.int .i64 ((Sha.ol kind : Nat) : Int), .int .i64 ((Sha.bs kind : Nat) : Int), .int .i64 0]) rfl rfl) rfl) ?_
 refine w_as (ev (.int .i64 ((Sha.ol kind : Nat) : Int)) rfl rfl) ?_
 refine w_as (ev (.int .i64 ((Sha.bs kind : Nat) : Int)) rfl rfl) ?_
 refine w_as (ev (.int .i64 0) rfl rfl) ?_
 refine wpList_nil ?_
 refine then_n ?_
 refine wp_seq ?_
 refine wp_region_lit ?_
 refine w_mv (ev (.int .i64 ((kind : Nat) : Int)) rfl rfl) ?_
 refine w_call (Tryd.func20) (by kernel_rfl) rfl (m1 (ev (.int .i64 ((kind : Nat) : Int)) rfl rfl)) (new_at kind w1 hkd) ?_
 rintro _ w3 ⟨p, rfl, hge_p, ha, hb_p⟩
 refine ⟨_, rfl, ?_⟩
 have ge_p : w0.heap.size ≤ p := by have := hk.size; omega
 replace hk := thenB hk hb_p
 replace hT := Sha.Tabs.below hT hb_p
 refine w_mv (ev (.tuple #[pt p 0, .int .i64 0]) rfl rfl) ?_
 refine w_val (v := pt p 0) (y_ext (v := pt p 0) (ev (.tuple #[pt p 0, .int .i64 0]) rfl rfl) rfl) ?_
 refine w_val (v := .int .i64 0) (y_ext (v := .int .i64 0) (ev (.tuple #[pt p 0, .int .i64 0]) rfl rfl) rfl) ?_
 refine w_as (ev (pt p 0) rfl rfl) ?_
 refine w_as (ev (.int .i64 0) rfl rfl) ?_
 refine wpList_nil ?_
 refine then_n ?_
 refine wp_seq ?_
 refine wp_seq ?_
 refine wp_region_lit ?_
 refine w_call (Tryd.func16) (by kernel_rfl) rfl m0 (shaWakes_c w3 hT) ?_
 rintro _ w4 ⟨rfl, hb5⟩
 refine ⟨_, rfl, ?_⟩
 replace hk := thenB hk hb5
 replace hT := Sha.Tabs.below hT hb5
 replace ha := Sha.At.below ha hb5
 refine w_val (v := .bool false) (y_not (ev (.bool true) rfl rfl)) ?_
 refine w_mv (ev (.bool false) rfl rfl) ?_
 refine w_val_g (v := pt p 0) (want_yes (j := 2) rfl rfl (ev (.bool false) rfl rfl) rfl) (y_mv (ev (pt p 0) rfl rfl)) ?_
 refine w_val_g (v := .bool false) (want_yes (j := 2) rfl rfl (ev (.bool false) rfl rfl) rfl) (y_bin (ev (pt p 0) rfl rfl) (evc (.pointer none)) (b_eqp Tryd.underlying31)) ?_
 refine w_val_g (v := .int .i64 0) (want_yes (j := 2) rfl rfl (ev (.bool false) rfl rfl) rfl) (y_mv (ev (.int .i64 0) rfl rfl)) ?_
 refine w_val_g (v := .bool false) (want_yes (j := 2) rfl rfl (ev (.bool false) rfl rfl) rfl) (y_bin (ev (.int .i64 0) rfl rfl) (evc (.int .i64 0)) b_neq) ?_
 refine w_val_g (v := .bool false) (want_yes (j := 2) rfl rfl (ev (.bool false) rfl rfl) rfl) (y_bin (ev (.bool false) rfl rfl) (ev (.bool false) rfl rfl) (b_neb Tryd.underlying4)) ?_
 refine w_val (v := .bool false) (y_pick_f (ev (.bool false) rfl rfl) (ev (.bool false) rfl rfl)) ?_
 refine w_mv (ev (.bool false) rfl rfl) ?_
 refine w_val_g (v := .int .i64 0) (want_yes (j := 9) rfl rfl (ev (.bool false) rfl rfl) rfl) (y_mv (ev (.int .i64 0) rfl rfl)) ?_
 refine w_val_g (v := .int .i64 0) (want_yes (j := 9) rfl rfl (ev (.bool false) rfl rfl) rfl) (y_mv (ev (.int .i64 0) rfl rfl)) ?_
 refine w_val_g (v := .bool false) (want_yes (j := 9) rfl rfl (ev (.bool false) rfl rfl) rfl) (y_bin (ev (.int .i64 0) rfl rfl) (ev (.int .i64 0) rfl rfl) b_neq) ?_
 refine w_val (v := .bool false) (y_pick_f (ev (.bool false) rfl rfl) (ev (.bool false) rfl rfl)) ?_
 refine wpList_nil ?_
 refine then_n ?_
 refine c_ff (ev (.bool false) rfl rfl) ?_
 refine wp_skip ?_
 refine then_n ?_
 refine wp_seq ?_
 refine wp_seq ?_
 refine wp_region_lit ?_
 refine w_mv (ev (.int .i64 ((kind : Nat) : Int)) rfl rfl) ?_
 refine w_call (Tryd.func21) (by kernel_rfl) rfl (m1 (ev (.int .i64 ((kind : Nat) : Int)) rfl rfl)) (known_l kind  w4 hkd) ?_
 rintro _ w6 ⟨rfl, hb7⟩
 refine ⟨_, rfl, ?_⟩
 replace hk := thenB hk hb7
 replace hT := Sha.Tabs.below hT hb7
 replace ha := Sha.At.below ha hb7
 refine w_val (v := .bool false) (y_not (ev (.bool true) rfl rfl)) ?_
 refine wpList_nil ?_
 refine then_n ?_
 refine c_ff (ev (.bool false) rfl rfl) ?_
 refine wp_skip ?_
 refine then_n ?_
 refine wp_seq ?_
 refine wp_region_lit ?_
 refine w_mv (ev (.int .i64 ((kind : Nat) : Int)) rfl rfl) ?_
 refine w_call (Tryd.func22) (by kernel_rfl) rfl (m1 (ev (.int .i64 ((kind : Nat) : Int)) rfl rfl)) (make_l kind w6 hkd) ?_
 rintro _ w8 ⟨rp, rfl, hge_rp, ⟨g, cap, r_rp, r_g⟩, hb_rp⟩
 refine ⟨_, rfl, ?_⟩
 have ne_p_rp : p ≠ rp := by have := ha.lt; omega
 have ge_rp : w0.heap.size ≤ rp := by have := hk.size; omega
 replace hk := thenB hk hb_rp
 replace hT := Sha.Tabs.below hT hb_rp
 replace ha := Sha.At.below ha hb_rp
 refine w_as (ev (pt rp 0) rfl rfl) ?_
 refine wpList_nil ?_
 refine then_n ?_
 refine wp_seq ?_
 refine wp_region_lit ?_
 refine w_mv (ev (pt p 0) rfl rfl) ?_
 refine w_call (Tryd.func23) (by kernel_rfl) rfl (m1 (ev (pt p 0) rfl rfl)) (sum_l kind ([]) w8 p (by omega) hkd (by (try simp only [List.nil_append, List.length_append, List.length_nil]); omega) ha hT) ?_
 rintro _ w9 ⟨rfl, hb10⟩
 refine ⟨_, rfl, ?_⟩
 replace r_rp := r_rp.step hb10
 replace hk := thenB hk hb10
 replace hT := Sha.Tabs.below hT hb10
 replace ha := Sha.At.below ha hb10
 refine w_mv (ev (.tuple #[.string (str (Sha.sum kind ([]))), .int .i64 0]) rfl rfl) ?_
 refine w_val (v := .string (str (Sha.sum kind ([])))) (y_ext (v := .string (str (Sha.sum kind ([])))) (ev (.tuple #[.string (str (Sha.sum kind ([]))), .int .i64 0]) rfl rfl) rfl) ?_
 refine w_val (v := .int .i64 0) (y_ext (v := .int .i64 0) (ev (.tuple #[.string (str (Sha.sum kind ([]))), .int .i64 0]) rfl rfl) rfl) ?_
 refine w_as (ev (.string (str (Sha.sum kind ([])))) rfl rfl) ?_
 refine w_as (ev (.int .i64 0) rfl rfl) ?_
 refine wpList_nil ?_
 refine then_n ?_
 refine wp_seq ?_
 refine wp_region_lit ?_
 refine w_mv (ev (.int .i64 ((Sha.ol kind : Nat) : Int)) rfl rfl) ?_
 refine w_mv (ev (pt rp 0) rfl rfl) ?_
 refine w_val (v := pt rp 0) (y_nc (ev (pt rp 0) rfl rfl)) ?_
 refine w_val (v := pt rp 1) (y_off (y_fa (ev (pt rp 0) rfl rfl) (ShaWSizesT.fa44_1 _ _)) (by first | rfl | omega)) ?_
 refine w_val (v := .int .i64 (((kind / 8) : Nat) : Int)) (y_ld (ev (pt rp 1) rfl rfl) ShaWSizesT.sc3 (r_rp.val (by omega) ((if_neg (by omega)).trans (etv (if_pos (by omega)))))) ?_
 refine w_val (v := .bool (decide (((Sha.ol kind : Nat) : Int) = (((kind / 8) : Nat) : Int)))) (y_bin (ev (.int .i64 ((Sha.ol kind : Nat) : Int)) rfl rfl) (ev (.int .i64 (((kind / 8) : Nat) : Int)) rfl rfl) b_eql) ?_
 refine w_mv (ev (.bool (decide (((Sha.ol kind : Nat) : Int) = (((kind / 8) : Nat) : Int)))) rfl rfl) ?_
 have hc11 : ((Sha.ol kind : Nat) : Int) = (((kind / 8) : Nat) : Int) := by rcases hkd with rfl | rfl | rfl <;> rfl
 refine w_val_g (v := .int .i64 ((Sha.bs kind : Nat) : Int)) (want_yes (j := 6) rfl rfl (ev (.bool true) (Eq.trans (b := .bool (decide (((Sha.ol kind : Nat) : Int) = (((kind / 8) : Nat) : Int)))) rfl (by rw [decide_eq_true hc11])) rfl) rfl) (y_mv (ev (.int .i64 ((Sha.bs kind : Nat) : Int)) rfl rfl)) ?_
 refine w_val_g (v := pt rp 0) (want_yes (j := 6) rfl rfl (ev (.bool true) (Eq.trans (b := .bool (decide (((Sha.ol kind : Nat) : Int) = (((kind / 8) : Nat) : Int)))) rfl (by rw [decide_eq_true hc11])) rfl) rfl) (y_mv (ev (pt rp 0) rfl rfl)) ?_
 refine w_val_g (v := pt rp 0) (want_yes (j := 6) rfl rfl (ev (.bool true) (Eq.trans (b := .bool (decide (((Sha.ol kind : Nat) : Int) = (((kind / 8) : Nat) : Int)))) rfl (by rw [decide_eq_true hc11])) rfl) rfl) (y_nc (ev (pt rp 0) rfl rfl)) ?_
 refine w_val_g (v := pt rp 2) (want_yes (j := 6) rfl rfl (ev (.bool true) (Eq.trans (b := .bool (decide (((Sha.ol kind : Nat) : Int) = (((kind / 8) : Nat) : Int)))) rfl (by rw [decide_eq_true hc11])) rfl) rfl) (y_off (y_fa (ev (pt rp 0) rfl rfl) (ShaWSizesT.fa44_2 _ _)) (by first | rfl | omega)) ?_
 refine w_val_g (v := .int .i64 (((Sha.bs kind) : Nat) : Int)) (want_yes (j := 6) rfl rfl (ev (.bool true) (Eq.trans (b := .bool (decide (((Sha.ol kind : Nat) : Int) = (((kind / 8) : Nat) : Int)))) rfl (by rw [decide_eq_true hc11])) rfl) rfl) (y_ld (ev (pt rp 2) rfl rfl) ShaWSizesT.sc3 (r_rp.val (by omega) ((if_neg (by omega)).trans ((if_neg (by omega)).trans (etv (if_pos (by omega))))))) ?_
 refine w_val_g (v := .bool (decide (((Sha.bs kind : Nat) : Int) = (((Sha.bs kind) : Nat) : Int)))) (want_yes (j := 6) rfl rfl (ev (.bool true) (Eq.trans (b := .bool (decide (((Sha.ol kind : Nat) : Int) = (((kind / 8) : Nat) : Int)))) rfl (by rw [decide_eq_true hc11])) rfl) rfl) (y_bin (ev (.int .i64 ((Sha.bs kind : Nat) : Int)) rfl rfl) (ev (.int .i64 (((Sha.bs kind) : Nat) : Int)) rfl rfl) b_eql) ?_
 refine w_val (v := .bool (decide (((Sha.bs kind : Nat) : Int) = (((Sha.bs kind) : Nat) : Int)))) (y_pick_t (ev (.bool true) (Eq.trans (b := .bool (decide (((Sha.ol kind : Nat) : Int) = (((kind / 8) : Nat) : Int)))) rfl (by rw [decide_eq_true hc11])) rfl) (ev (.bool (decide (((Sha.bs kind : Nat) : Int) = (((Sha.bs kind) : Nat) : Int)))) rfl rfl)) ?_
 refine w_mv (ev (.bool (decide (((Sha.bs kind : Nat) : Int) = (((Sha.bs kind) : Nat) : Int)))) rfl rfl) ?_
 by_cases hc12 : ((Sha.bs kind : Nat) : Int) = (((Sha.bs kind) : Nat) : Int)
 ·skip
  refine w_val_g (v := .string (str (Sha.sum kind ([])))) (want_yes (j := 14) rfl rfl (ev (.bool true) (Eq.trans (b := .bool (decide (((Sha.bs kind : Nat) : Int) = (((Sha.bs kind) : Nat) : Int)))) rfl (by rw [decide_eq_true hc12])) rfl) rfl) (y_mv (ev (.string (str (Sha.sum kind ([])))) rfl rfl)) ?_
  refine w_val_g (v := .int .i64 (((Sha.sum kind ([])).length : Nat) : Int)) (want_yes (j := 14) rfl rfl (ev (.bool true) (Eq.trans (b := .bool (decide (((Sha.bs kind : Nat) : Int) = (((Sha.bs kind) : Nat) : Int)))) rfl (by rw [decide_eq_true hc12])) rfl) rfl) (y_len (ev (.string (str (Sha.sum kind ([])))) rfl rfl) Tryd.underlying9) ?_
  refine w_val_g (v := .int .i64 ((Sha.ol kind : Nat) : Int)) (want_yes (j := 14) rfl rfl (ev (.bool true) (Eq.trans (b := .bool (decide (((Sha.bs kind : Nat) : Int) = (((Sha.bs kind) : Nat) : Int)))) rfl (by rw [decide_eq_true hc12])) rfl) rfl) (y_mv (ev (.int .i64 ((Sha.ol kind : Nat) : Int)) rfl rfl)) ?_
  refine w_val_g (v := .bool (decide ((((Sha.sum kind ([])).length : Nat) : Int) = ((Sha.ol kind : Nat) : Int)))) (want_yes (j := 14) rfl rfl (ev (.bool true) (Eq.trans (b := .bool (decide (((Sha.bs kind : Nat) : Int) = (((Sha.bs kind) : Nat) : Int)))) rfl (by rw [decide_eq_true hc12])) rfl) rfl) (y_bin (ev (.int .i64 (((Sha.sum kind ([])).length : Nat) : Int)) rfl rfl) (ev (.int .i64 ((Sha.ol kind : Nat) : Int)) rfl rfl) b_eql) ?_
  refine w_val (v := .bool (decide ((((Sha.sum kind ([])).length : Nat) : Int) = ((Sha.ol kind : Nat) : Int)))) (y_pick_t (ev (.bool true) (Eq.trans (b := .bool (decide (((Sha.bs kind : Nat) : Int) = (((Sha.bs kind) : Nat) : Int)))) rfl (by rw [decide_eq_true hc12])) rfl) (ev (.bool (decide ((((Sha.sum kind ([])).length : Nat) : Int) = ((Sha.ol kind : Nat) : Int)))) rfl rfl)) ?_
  refine w_mv (ev (.bool (decide ((((Sha.sum kind ([])).length : Nat) : Int) = ((Sha.ol kind : Nat) : Int)))) rfl rfl) ?_
  have hc13 : (((Sha.sum kind ([])).length : Nat) : Int) = ((Sha.ol kind : Nat) : Int) := by rw [Sha.length_sum]
  refine w_val_g (v := .int .i64 0) (want_yes (j := 20) rfl rfl (ev (.bool true) (Eq.trans (b := .bool (decide ((((Sha.sum kind ([])).length : Nat) : Int) = ((Sha.ol kind : Nat) : Int)))) rfl (by rw [decide_eq_true hc13])) rfl) rfl) (y_mv (ev (.int .i64 0) rfl rfl)) ?_
  refine w_val_g (v := .bool true) (want_yes (j := 20) rfl rfl (ev (.bool true) (Eq.trans (b := .bool (decide ((((Sha.sum kind ([])).length : Nat) : Int) = ((Sha.ol kind : Nat) : Int)))) rfl (by rw [decide_eq_true hc13])) rfl) rfl) (y_bin (ev (.int .i64 0) rfl rfl) (evc (.int .i64 0)) b_eql) ?_
  refine w_val (v := .bool true) (y_pick_t (ev (.bool true) (Eq.trans (b := .bool (decide ((((Sha.sum kind ([])).length : Nat) : Int) = ((Sha.ol kind : Nat) : Int)))) rfl (by rw [decide_eq_true hc13])) rfl) (ev (.bool true) rfl rfl)) ?_
  refine w_as (ev (.bool true) rfl rfl) ?_
  refine wpList_nil ?_
  refine then_n ?_
  refine wp_ret ?_
  refine fin_ret1 rfl (ev (.bool true) rfl rfl) ?_
  exact ⟨rfl, hk⟩
 ·skip
  first | with_reducible refine w_skip ?_ ?_ | refine w_skip ?_ ?_
  · exact want_no (j := 14) rfl rfl (ev (.bool false) (Eq.trans (b := .bool (decide (((Sha.bs kind : Nat) : Int) = (((Sha.bs kind) : Nat) : Int)))) rfl (by rw [decide_eq_false hc12])) rfl) rfl
  first | with_reducible refine w_skip ?_ ?_ | refine w_skip ?_ ?_
  · exact want_no (j := 14) rfl rfl (ev (.bool false) (Eq.trans (b := .bool (decide (((Sha.bs kind : Nat) : Int) = (((Sha.bs kind) : Nat) : Int)))) rfl (by rw [decide_eq_false hc12])) rfl) rfl
  first | with_reducible refine w_skip ?_ ?_ | refine w_skip ?_ ?_
  · exact want_no (j := 14) rfl rfl (ev (.bool false) (Eq.trans (b := .bool (decide (((Sha.bs kind : Nat) : Int) = (((Sha.bs kind) : Nat) : Int)))) rfl (by rw [decide_eq_false hc12])) rfl) rfl
  first | with_reducible refine w_skip ?_ ?_ | refine w_skip ?_ ?_
  · exact want_no (j := 14) rfl rfl (ev (.bool false) (Eq.trans (b := .bool (decide (((Sha.bs kind : Nat) : Int) = (((Sha.bs kind) : Nat) : Int)))) rfl (by rw [decide_eq_false hc12])) rfl) rfl
  refine w_val (v := .bool false) (y_pick_f (ev (.bool false) (Eq.trans (b := .bool (decide (((Sha.bs kind : Nat) : Int) = (((Sha.bs kind) : Nat) : Int)))) rfl (by rw [decide_eq_false hc12])) rfl) (evc (.bool false))) ?_
  refine w_mv (ev (.bool false) rfl rfl) ?_
  first | with_reducible refine w_skip ?_ ?_ | refine w_skip ?_ ?_
  · exact want_no (j := 20) rfl rfl (ev (.bool false) rfl rfl) rfl
  first | with_reducible refine w_skip ?_ ?_ | refine w_skip ?_ ?_
  · exact want_no (j := 20) rfl rfl (ev (.bool false) rfl rfl) rfl
  refine w_val (v := .bool false) (y_pick_f (ev (.bool false) rfl rfl) (evc (.bool false))) ?_
  refine w_as (ev (.bool false) rfl rfl) ?_
  refine wpList_nil ?_
  refine then_n ?_
  refine wp_ret ?_
  refine fin_ret1 rfl (ev (.bool false) rfl rfl) ?_
  refine ⟨congrArg Ending.returned ?_, hk⟩
  show (.bool false : Value) = .bool true
  first | with_reducible rfl | (with_reducible congr 1 <;> omega) | (with_reducible congr 2 <;> omega) | (with_reducible congr 3 <;> omega) | rfl

theorem walk_ShaSizes (k : Int) (hw : (Lit.int .i64 k).wf = true) (w : World) (hT : Sha.Tabs w) : Calls Tryd.prog 4 #[.int .i64 k] w fun e w' => e = .returned (.bool true) ∧ Below w.heap.size w w' := by
  by_cases k1 : k = 256
  · subst k1; exact shaSizes_y 256 (.inl rfl) w hT
  by_cases k2 : k = 384
  · subst k2; exact shaSizes_y 384 (.inr (.inl rfl)) w hT
  by_cases k3 : k = 512
  · subst k3; exact shaSizes_y 512 (.inr (.inr rfl)) w hT
  exact shaSizes_n k k1 k2 k3 w hT
end Go.Proofs.YtieepglpejlkoaaDoor
