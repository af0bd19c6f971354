/-
  The walk of the law HmacPieces. Conditions as each says.
-/
import Derived.Test.YtieepglpejlkoaaDoorRows
import Derived.Test.YtieepglpejlkoaaDoorHmacW
import Derived.ProofKit
namespace Go.Proofs.YtieepglpejlkoaaDoor
open Go.RowKit
set_option linter.unusedSimpArgs false
set_option linter.unusedVariables false
namespace HmacWPiecesT
theorem mixed : Tryd.prog.follows .mixedOrders = true := by kernel_rfl
theorem fa44_2 (g off : Nat) : ∀ w, (Instr.fieldAt 44 (.pointer (some ⟨g, off, none⟩)) 2).run Tryd.prog w = .ok (.pointer (some ⟨g, off + 2, none⟩)) w := fun w => by kernel_rfl
theorem fa65_0 (g off : Nat) : ∀ w, (Instr.fieldAt 65 (.pointer (some ⟨g, off, none⟩)) 0).run Tryd.prog w = .ok (.pointer (some ⟨g, off + 0, none⟩)) w := fun w => by kernel_rfl
theorem fa65_1 (g off : Nat) : ∀ w, (Instr.fieldAt 65 (.pointer (some ⟨g, off, none⟩)) 1).run Tryd.prog w = .ok (.pointer (some ⟨g, off + 1, none⟩)) w := fun w => by kernel_rfl
theorem fa65_2 (g off : Nat) : ∀ w, (Instr.fieldAt 65 (.pointer (some ⟨g, off, none⟩)) 2).run Tryd.prog w = .ok (.pointer (some ⟨g, off + 2, none⟩)) w := fun w => by kernel_rfl
theorem sc3 : (Tryd.prog.underlying 3).map scal = some true := by rw [Tryd.underlying3]; rfl
theorem sc31 : (Tryd.prog.underlying 31).map scal = some true := by rw [Tryd.underlying31]; rfl
theorem sc5 : (Tryd.prog.underlying 5).map scal = some true := by rw [Tryd.underlying5]; rfl
theorem sc9 : (Tryd.prog.underlying 9).map scal = some true := by rw [Tryd.underlying9]; rfl
theorem sz31 : (Tryd.prog.info? 31).map (·.size) = some 1 := by kernel_rfl
theorem sz5 : (Tryd.prog.info? 5).map (·.size) = some 1 := by kernel_rfl
theorem sz9 : (Tryd.prog.info? 9).map (·.size) = some 1 := by kernel_rfl
end HmacWPiecesT
set_option maxRecDepth 100000 in
set_option maxHeartbeats 1000000 in
theorem hmacPieces_n (k : Int) (k1 : k ≠ 256) (k2 : k ≠ 384) (k3 : k ≠ 512) (key : List (BitVec 8)) (hk2 : key.length ≤ 140737488351232) (l : Value) (w0 : World) (hT : Sha.Tabs w0) : Calls Tryd.prog 10 #[.int .i64 k, .string (str key), l] w0 fun e w' => e = .returned (.bool true) ∧ Below w0.heap.size w0 w' := by
 have hT0 := hT.lt
 refine enter (n := 110) Tryd.func10 rfl rfl rfl ?_
 have hk : Below w0.heap.size w0 w0 := Below.refl _ _
 refine sr ?_
 refine w_as (evc (.bool false)) ?_
 refine nt ?_
 refine sr ?_
 refine w_mv (ev (.int .i64 k) rfl rfl) ?_
 refine w_mv (ev (.string (str key)) rfl rfl) ?_
 refine w_call (Tryd.func30) (by kernel_rfl) rfl (m2 (ev (.int .i64 k) rfl rfl) (ev (.string (str key)) rfl rfl)) (macNew_no k k1 k2 k3 key w0 ) ?_
 rintro _ w1 ⟨rfl, hb2⟩
 refine ⟨_, rfl, ?_⟩
 replace hk := thenB hk hb2
 replace hT := Sha.Tabs.below hT hb2
 refine w_mv (ev (.tuple #[.pointer none, .int .i64 11]) rfl rfl) ?_
 refine w_val (y_ext (v := .pointer none) (ev (.tuple #[.pointer none, .int .i64 11]) rfl rfl) rfl) ?_
 refine w_val (y_ext (v := .int .i64 11) (ev (.tuple #[.pointer none, .int .i64 11]) rfl rfl) rfl) ?_
 refine w_as (ev (.pointer none) rfl rfl) ?_
 refine w_as (ev (.int .i64 11) rfl rfl) ?_
 refine nt ?_
 refine wp_seq ?_
 refine sr ?_
 refine w_call (Tryd.func26) (by kernel_rfl) rfl m0 (macWakes_c w1 hT) ?_
 rintro _ w3 ⟨rfl, hb4⟩
 refine ⟨_, rfl, ?_⟩
 replace hk := thenB hk hb4
 replace hT := Sha.Tabs.below hT hb4
 refine w_val (y_not (ev (.bool true) rfl rfl)) ?_
 refine nt ?_
 refine c_ff (ev (.bool false) rfl rfl) ?_
 refine wp_skip ?_
 refine then_n ?_
 refine wp_seq ?_
 refine sr ?_
 refine w_mv (ev (.int .i64 11) rfl rfl) ?_
 refine w_val (y_bin (ev (.int .i64 11) rfl rfl) (evc (.int .i64 0)) b_neq) ?_
 refine w_mv (ev (.bool true) rfl rfl) ?_
 first | with_reducible refine w_skip ?_ ?_ | refine w_skip ?_ ?_
 · exact want_no (j := 2) rfl rfl (ev (.bool true) rfl rfl) rfl
 first | with_reducible refine w_skip ?_ ?_ | refine w_skip ?_ ?_
 · exact want_no (j := 2) rfl rfl (ev (.bool true) rfl rfl) rfl
 first | with_reducible refine w_skip ?_ ?_ | refine w_skip ?_ ?_
 · exact want_no (j := 2) rfl rfl (ev (.bool true) rfl rfl) rfl
 refine w_val (y_pick_t (ev (.bool true) rfl rfl) (evc (.bool true))) ?_
 refine w_mv (ev (.bool true) rfl rfl) ?_
 first | with_reducible refine w_skip ?_ ?_ | refine w_skip ?_ ?_
 · exact want_no (j := 7) rfl rfl (ev (.bool true) rfl rfl) rfl
 first | with_reducible refine w_skip ?_ ?_ | refine w_skip ?_ ?_
 · exact want_no (j := 7) rfl rfl (ev (.bool true) rfl rfl) rfl
 first | with_reducible refine w_skip ?_ ?_ | refine w_skip ?_ ?_
 · exact want_no (j := 7) rfl rfl (ev (.bool true) rfl rfl) rfl
 refine w_val (y_pick_t (ev (.bool true) rfl rfl) (evc (.bool true))) ?_
 refine nt ?_
 refine c_tt (ev (.bool true) rfl rfl) ?_
 refine sr ?_
 refine w_mv (ev (.pointer none) rfl rfl) ?_
 refine w_val (y_bin (ev (.pointer none) rfl rfl) (evc (.pointer none)) (b_eqp Tryd.underlying59)) ?_
 refine w_mv (ev (.int .i64 11) rfl rfl) ?_
 refine w_val (y_bin (ev (.int .i64 11) rfl rfl) (evc (.int .i64 0)) b_neq) ?_
 refine w_val (y_bin (ev (.bool true) rfl rfl) (ev (.bool true) rfl rfl) (b_eqb Tryd.underlying4)) ?_
 refine w_mv (ev (.bool true) rfl rfl) ?_
 refine w_val_g (v := .int .i64 11) (want_yes (j := 5) rfl rfl (ev (.bool true) rfl rfl) rfl) (y_mv (ev (.int .i64 11) rfl rfl)) ?_
 refine w_val_g (want_yes (j := 5) rfl rfl (ev (.bool true) rfl rfl) rfl) (y_bin (ev (.int .i64 11) rfl rfl) (evc (.int .i64 0)) b_eql) ?_
 refine w_val_g (v := .bool false) (want_yes (j := 5) rfl rfl (ev (.bool true) rfl rfl) rfl) (y_mv (ev (.bool false) rfl rfl)) ?_
 refine w_val_g (v := .int .i64 k) (want_yes (j := 8) rfl rfl (ev (.bool false) rfl rfl) rfl) (y_mv (ev (.int .i64 k) rfl rfl)) ?_
 refine w_unguard (want_yes (j := 8) rfl rfl (ev (.bool false) rfl rfl) rfl) ?_
 refine w_call (Tryd.func21) (by kernel_rfl) rfl (m1 (ev (.int .i64 k) rfl rfl)) (known_no k k1 k2 k3 w3 ) ?_
 rintro _ w5 ⟨rfl, hb6⟩
 refine ⟨_, rfl, ?_⟩
 replace hk := thenB hk hb6
 replace hT := Sha.Tabs.below hT hb6
 refine w_val_g (want_yes (j := 8) rfl rfl (ev (.bool false) rfl rfl) rfl) (y_not (ev (.bool false) rfl rfl)) ?_
 refine w_val_g (want_yes (j := 5) rfl rfl (ev (.bool true) rfl rfl) rfl) (y_pick_f (ev (.bool false) rfl rfl) (ev (.bool true) rfl rfl)) ?_
 refine w_val (y_pick_t (ev (.bool true) rfl rfl) (ev (.bool true) rfl rfl)) ?_
 refine w_as (ev (.bool true) rfl rfl) ?_
 refine nt ?_
 refine wp_ret ?_
 refine then_r ?_
 refine fin_ret1 rfl (ev (.bool true) rfl rfl) ?_
 exact ⟨rfl, hk⟩

set_option maxRecDepth 100000 in
set_option maxHeartbeats 1000000 in
theorem hmacPieces_y (kind : Nat) (hkd : Sha.Known kind) (key : List (BitVec 8)) (hk2 : key.length ≤ 140737488351232) (g off n cap : Nat) (hn_ : n ≤ 140737488351232) (l : Nat → List (BitVec 8)) (w0 : World) (hgl : g < w0.heap.size) (hl : ∀ i, i < n → w0.cell? ⟨g, off + i, none⟩ = some (.string (str (l i)))) (hT : Sha.Tabs w0) : Calls Tryd.prog 10 #[.int .i64 ((kind : Nat) : Int), .string (str key), .slice (some ⟨g, off, none⟩) n cap] w0 fun e w' => e = .returned (.bool true) ∧ Below w0.heap.size w0 w' := by
 have hT0 := hT.lt
 have hbs := Sha.bs_le kind
 refine enter (n := 110) Tryd.func10 rfl rfl rfl ?_
 have hk : Below w0.heap.size w0 w0 := Below.refl _ _
 refine sr ?_
 refine w_as (evc (.bool false)) ?_
 refine nt ?_
 refine sr ?_
 refine w_mv (ev (.int .i64 ((kind : Nat) : Int)) rfl rfl) ?_
 refine w_mv (ev (.string (str key)) rfl rfl) ?_
 refine w_call (Tryd.func30) (by kernel_rfl) rfl (m2 (ev (.int .i64 ((kind : Nat) : Int)) rfl rfl) (ev (.string (str key)) rfl rfl)) (macNew_l kind hkd key (by omega) w0 hT) ?_
 rintro _ w1 ⟨m, pi, po, pn, rfl, hge_m, hge_pi, hge_po, hge_pn, nb1, nb2, nb3, nb4, nb5, nb6, r_m, hi, ho, hn, hb_m⟩
 refine ⟨_, rfl, ?_⟩
 have ge_m : w0.heap.size ≤ m := by have := hk.size; omega
 have ge_pi : w0.heap.size ≤ pi := by have := hk.size; omega
 have ge_po : w0.heap.size ≤ po := by have := hk.size; omega
 have ge_pn : w0.heap.size ≤ pn := by have := hk.size; omega
 replace hk := thenB hk hb_m
 replace hT := Sha.Tabs.below hT hb_m
 refine w_mv (ev (.tuple #[pt m 0, .int .i64 0]) rfl rfl) ?_
 refine w_val (y_ext (v := pt m 0) (ev (.tuple #[pt m 0, .int .i64 0]) rfl rfl) rfl) ?_
 refine w_val (y_ext (v := .int .i64 0) (ev (.tuple #[pt m 0, .int .i64 0]) rfl rfl) rfl) ?_
 refine w_as (ev (pt m 0) rfl rfl) ?_
 refine w_as (ev (.int .i64 0) rfl rfl) ?_
 refine nt ?_
 refine wp_seq ?_
 refine sr ?_
 refine w_call (Tryd.func26) (by kernel_rfl) rfl m0 (macWakes_c w1 hT) ?_
 rintro _ w2 ⟨rfl, hb3⟩
 refine ⟨_, rfl, ?_⟩
 replace r_m := r_m.step hb3
 replace hk := thenB hk hb3
 replace hT := Sha.Tabs.below hT hb3
 replace hi := Sha.At.below hi hb3
 replace ho := Sha.At.below ho hb3
 replace hn := Sha.At.below hn hb3
 refine w_val (y_not (ev (.bool true) rfl rfl)) ?_
 refine nt ?_
 refine c_ff (ev (.bool false) rfl rfl) ?_
 refine wp_skip ?_
 refine then_n ?_
 refine wp_seq ?_
 refine sr ?_
 refine w_mv (ev (.int .i64 0) rfl rfl) ?_
 refine w_val (y_bin (ev (.int .i64 0) rfl rfl) (evc (.int .i64 0)) b_neq) ?_
 refine w_mv (ev (.bool false) rfl rfl) ?_
 refine w_val_g (v := .slice (some ⟨g, off, none⟩) n cap) (want_yes (j := 2) rfl rfl (ev (.bool false) rfl rfl) rfl) (y_mv (ev (.slice (some ⟨g, off, none⟩) n cap) rfl rfl)) ?_
 refine w_val_g (v := .int .i64 ((n : Nat) : Int)) (want_yes (j := 2) rfl rfl (ev (.bool false) rfl rfl) rfl) (y_len_sl (ev (.slice (some ⟨g, off, none⟩) n cap) rfl rfl) Tryd.underlying45) ?_
 refine w_val_g (want_yes (j := 2) rfl rfl (ev (.bool false) rfl rfl) rfl) (y_bin (ev (.int .i64 ((n : Nat) : Int)) rfl rfl) (evc (.int .i64 1000)) b_gtr) ?_
 refine w_val (y_pick_f (ev (.bool false) rfl rfl) (ev (.bool (decide (1000 < ((n : Nat) : Int)))) rfl rfl)) ?_
 refine w_mv (ev (.bool (decide (1000 < ((n : Nat) : Int)))) rfl rfl) ?_
 by_cases hc4 : 1000 < ((n : Nat) : Int)
 ·skip
  first | with_reducible refine w_skip ?_ ?_ | refine w_skip ?_ ?_
  · exact want_no (j := 7) rfl rfl (ev (.bool true) (Eq.trans (b := .bool (decide (1000 < ((n : Nat) : Int)))) rfl (by rw [decide_eq_true hc4])) rfl) rfl
  first | with_reducible refine w_skip ?_ ?_ | refine w_skip ?_ ?_
  · exact want_no (j := 7) rfl rfl (ev (.bool true) (Eq.trans (b := .bool (decide (1000 < ((n : Nat) : Int)))) rfl (by rw [decide_eq_true hc4])) rfl) rfl
  first | with_reducible refine w_skip ?_ ?_ | refine w_skip ?_ ?_
  · exact want_no (j := 7) rfl rfl (ev (.bool true) (Eq.trans (b := .bool (decide (1000 < ((n : Nat) : Int)))) rfl (by rw [decide_eq_true hc4])) rfl) rfl
  refine w_val (y_pick_t (ev (.bool true) (Eq.trans (b := .bool (decide (1000 < ((n : Nat) : Int)))) rfl (by rw [decide_eq_true hc4])) rfl) (evc (.bool true))) ?_
  refine nt ?_
  refine c_tt (ev (.bool true) rfl rfl) ?_
  refine sr ?_
  refine w_mv (ev (pt m 0) rfl rfl) ?_
  refine w_val (y_bin (ev (pt m 0) rfl rfl) (evc (.pointer none)) (b_eqp Tryd.underlying59)) ?_
  refine w_mv (ev (.int .i64 0) rfl rfl) ?_
  refine w_val (y_bin (ev (.int .i64 0) rfl rfl) (evc (.int .i64 0)) b_neq) ?_
  refine w_val (y_bin (ev (.bool false) rfl rfl) (ev (.bool false) rfl rfl) (b_eqb Tryd.underlying4)) ?_
  refine w_mv (ev (.bool true) rfl rfl) ?_
  refine w_val_g (v := .int .i64 0) (want_yes (j := 5) rfl rfl (ev (.bool true) rfl rfl) rfl) (y_mv (ev (.int .i64 0) rfl rfl)) ?_
  refine w_val_g (want_yes (j := 5) rfl rfl (ev (.bool true) rfl rfl) rfl) (y_bin (ev (.int .i64 0) rfl rfl) (evc (.int .i64 0)) b_eql) ?_
  refine w_val_g (v := .bool true) (want_yes (j := 5) rfl rfl (ev (.bool true) rfl rfl) rfl) (y_mv (ev (.bool true) rfl rfl)) ?_
  first | with_reducible refine w_skip ?_ ?_ | refine w_skip ?_ ?_
  · exact want_no (j := 8) rfl rfl (ev (.bool true) rfl rfl) rfl
  first | with_reducible refine w_skip ?_ ?_ | refine w_skip ?_ ?_
  · exact want_no (j := 8) rfl rfl (ev (.bool true) rfl rfl) rfl
  first | with_reducible refine w_skip ?_ ?_ | refine w_skip ?_ ?_
  · exact want_no (j := 8) rfl rfl (ev (.bool true) rfl rfl) rfl
  refine w_val_g (want_yes (j := 5) rfl rfl (ev (.bool true) rfl rfl) rfl) (y_pick_t (ev (.bool true) rfl rfl) (evc (.bool true))) ?_
  refine w_val (y_pick_t (ev (.bool true) rfl rfl) (ev (.bool true) rfl rfl)) ?_
  refine w_as (ev (.bool true) rfl rfl) ?_
  refine nt ?_
  refine wp_ret ?_
  refine then_r ?_
  refine fin_ret1 rfl (ev (.bool true) rfl rfl) ?_
  exact ⟨rfl, hk⟩
 ·skip
  refine w_val_g (v := .string (str key)) (want_yes (j := 7) rfl rfl (ev (.bool false) (Eq.trans (b := .bool (decide (1000 < ((n : Nat) : Int)))) rfl (by rw [decide_eq_false hc4])) rfl) rfl) (y_mv (ev (.string (str key)) rfl rfl)) ?_
  refine w_val_g (want_yes (j := 7) rfl rfl (ev (.bool false) (Eq.trans (b := .bool (decide (1000 < ((n : Nat) : Int)))) rfl (by rw [decide_eq_false hc4])) rfl) rfl) (y_len (ev (.string (str key)) rfl rfl) Tryd.underlying9) ?_
  refine w_val_g (want_yes (j := 7) rfl rfl (ev (.bool false) (Eq.trans (b := .bool (decide (1000 < ((n : Nat) : Int)))) rfl (by rw [decide_eq_false hc4])) rfl) rfl) (y_bin (ev (.int .i64 ((key.length : Nat) : Int)) rfl rfl) (evc (.int .i64 5000)) b_gtr) ?_
  refine w_val (y_pick_f (ev (.bool false) (Eq.trans (b := .bool (decide (1000 < ((n : Nat) : Int)))) rfl (by rw [decide_eq_false hc4])) rfl) (ev (.bool (decide (5000 < ((key.length : Nat) : Int)))) rfl rfl)) ?_
  refine nt ?_
  refine c_if (p := 5000 < ((key.length : Nat) : Int)) (ev (.bool (decide (5000 < ((key.length : Nat) : Int)))) rfl rfl) (fun hc5 => ?_) (fun hc5 => ?_)
  ·skip
   refine sr ?_
   refine w_mv (ev (pt m 0) rfl rfl) ?_
   refine w_val (y_bin (ev (pt m 0) rfl rfl) (evc (.pointer none)) (b_eqp Tryd.underlying59)) ?_
   refine w_mv (ev (.int .i64 0) rfl rfl) ?_
   refine w_val (y_bin (ev (.int .i64 0) rfl rfl) (evc (.int .i64 0)) b_neq) ?_
   refine w_val (y_bin (ev (.bool false) rfl rfl) (ev (.bool false) rfl rfl) (b_eqb Tryd.underlying4)) ?_
   refine w_mv (ev (.bool true) rfl rfl) ?_
   refine w_val_g (v := .int .i64 0) (want_yes (j := 5) rfl rfl (ev (.bool true) rfl rfl) rfl) (y_mv (ev (.int .i64 0) rfl rfl)) ?_
   refine w_val_g (want_yes (j := 5) rfl rfl (ev (.bool true) rfl rfl) rfl) (y_bin (ev (.int .i64 0) rfl rfl) (evc (.int .i64 0)) b_eql) ?_
   refine w_val_g (v := .bool true) (want_yes (j := 5) rfl rfl (ev (.bool true) rfl rfl) rfl) (y_mv (ev (.bool true) rfl rfl)) ?_
   first | with_reducible refine w_skip ?_ ?_ | refine w_skip ?_ ?_
   · exact want_no (j := 8) rfl rfl (ev (.bool true) rfl rfl) rfl
   first | with_reducible refine w_skip ?_ ?_ | refine w_skip ?_ ?_
   · exact want_no (j := 8) rfl rfl (ev (.bool true) rfl rfl) rfl
   first | with_reducible refine w_skip ?_ ?_ | refine w_skip ?_ ?_
   · exact want_no (j := 8) rfl rfl (ev (.bool true) rfl rfl) rfl
   refine w_val_g (want_yes (j := 5) rfl rfl (ev (.bool true) rfl rfl) rfl) (y_pick_t (ev (.bool true) rfl rfl) (evc (.bool true))) ?_
   refine w_val (y_pick_t (ev (.bool true) rfl rfl) (ev (.bool true) rfl rfl)) ?_
   refine w_as (ev (.bool true) rfl rfl) ?_
   refine nt ?_
   refine wp_ret ?_
   refine then_r ?_
   refine fin_ret1 rfl (ev (.bool true) rfl rfl) ?_
   exact ⟨rfl, hk⟩
  ·skip
   refine wp_skip ?_
   refine then_n ?_
   refine sr ?_
   refine w_as (evc (.string (str ([] : List (BitVec 8))))) ?_
   refine nt ?_
   refine ss ?_
   rw [← List.append_nil (Hm.pd kind key 54#8)] at hn
   refine wp_region_lit ?_
   refine w_mv (ev (.slice (some ⟨g, off, none⟩) n cap) rfl rfl) ?_
   refine w_val (v := .int .i64 ((n : Nat) : Int)) (y_len_sl (ev (.slice (some ⟨g, off, none⟩) n cap) rfl rfl) Tryd.underlying45) ?_
   refine w_mv (evc (.int .i64 0)) ?_
   refine nt ?_
   refine wp_block ?_
   refine c_loop (fun dN aN wl => ∃ (i : Nat) (A : List (BitVec 8)) (pn : Nat), dN = (n - i) ∧ ∃ f6, aN = fr 110 f6 ∧ (i ≤ n) ∧ (A.length ≤ 10000) ∧ (w0.heap.size ≤ pn) ∧ (pi ≠ pn) ∧ (po ≠ pn) ∧ (m ≠ pn) ∧ f6 0 = .int .i64 ((kind : Nat) : Int) ∧ f6 1 = .string (str key) ∧ f6 2 = .slice (some ⟨g, off, none⟩) n cap ∧ f6 7 = pt m 0 ∧ f6 8 = .int .i64 0 ∧ f6 9 = .string (str A) ∧ f6 50 = .int .i64 ((n : Nat) : Int) ∧ f6 51 = .int .i64 ((i : Nat) : Int) ∧ Row wl m 65 3 (fun j => if j < 1 then pt pi 0 else if j < 2 then pt po 0 else pt pn 0) ∧ Sha.Tabs wl ∧ Sha.At wl pi kind (Hm.pd kind key 54#8) ∧ Sha.At wl po kind (Hm.pd kind key 92#8) ∧ Sha.At wl pn kind (Hm.pd kind key 54#8 ++ A) ∧ Below w0.heap.size w0 wl) (n - 0) ?_ ?_
   · exact ⟨0, [], pn, rfl, _, rfl, iv, (by decide), iv, iv, iv, iv, rfl, rfl, rfl, rfl, rfl, (Eq.trans (b := .string (str ([] : List (BitVec 8)))) rfl (by rfl)), rfl, (etv (b := .int .i64 0) rfl), (r_m.congr (fun j hj => by rfl)), hT, hi, ho, hn, hk⟩
   ·skip
    clear r_m hT hi ho hn hk
    rintro _ _ w7 ⟨i, A, pn, rfl, f6, rfl, i1_0, i1_1, i1_2, i1_3, i1_4, i1_5, s1_0, s1_1, s1_2, s1_7, s1_8, s1_9, s1_50, s1_51, r_m, hT, hi, ho, hn, hk⟩
    refine sr ?_
    refine w_val (y_bin (ev (.int .i64 ((i : Nat) : Int)) s1_51 rfl) (ev (.int .i64 ((n : Nat) : Int)) s1_50 rfl) b_lss) ?_
    refine nt ?_
    refine wp_seq ?_
    refine c_if (p := ((i : Nat) : Int) < ((n : Nat) : Int)) (ev (.bool (decide (((i : Nat) : Int) < ((n : Nat) : Int)))) rfl rfl) (fun hc8 => ?_) (fun hc8 => ?_)
    ·skip
     refine wp_skip ?_
     refine then_n ?_
     refine wp_seq ?_
     refine wp_block ?_
     refine sr ?_
     refine w_mv (ev (.int .i64 ((i : Nat) : Int)) s1_51 rfl) ?_
     refine w_as (ev (.int .i64 ((i : Nat) : Int)) rfl rfl) ?_
     refine nt ?_
     refine wp_seq ?_
     refine sr ?_
     refine w_mv (ev (.string (str A)) s1_9 rfl) ?_
     refine w_val (y_len (ev (.string (str A)) rfl rfl) Tryd.underlying9) ?_
     refine w_val (y_bin (ev (.int .i64 ((A.length : Nat) : Int)) rfl rfl) (evc (.int .i64 5000)) b_gtr) ?_
     refine w_mv (ev (.bool (decide (5000 < ((A.length : Nat) : Int)))) rfl rfl) ?_
     by_cases hc9 : 5000 < ((A.length : Nat) : Int)
     ·skip
      first | with_reducible refine w_skip ?_ ?_ | refine w_skip ?_ ?_
      · exact want_no (j := 3) rfl rfl (ev (.bool true) (Eq.trans (b := .bool (decide (5000 < ((A.length : Nat) : Int)))) rfl (by rw [decide_eq_true hc9])) rfl) rfl
      first | with_reducible refine w_skip ?_ ?_ | refine w_skip ?_ ?_
      · exact want_no (j := 3) rfl rfl (ev (.bool true) (Eq.trans (b := .bool (decide (5000 < ((A.length : Nat) : Int)))) rfl (by rw [decide_eq_true hc9])) rfl) rfl
      first | with_reducible refine w_skip ?_ ?_ | refine w_skip ?_ ?_
      · exact want_no (j := 3) rfl rfl (ev (.bool true) (Eq.trans (b := .bool (decide (5000 < ((A.length : Nat) : Int)))) rfl (by rw [decide_eq_true hc9])) rfl) rfl
      first | with_reducible refine w_skip ?_ ?_ | refine w_skip ?_ ?_
      · exact want_no (j := 3) rfl rfl (ev (.bool true) (Eq.trans (b := .bool (decide (5000 < ((A.length : Nat) : Int)))) rfl (by rw [decide_eq_true hc9])) rfl) rfl
      first | with_reducible refine w_skip ?_ ?_ | refine w_skip ?_ ?_
      · exact want_no (j := 3) rfl rfl (ev (.bool true) (Eq.trans (b := .bool (decide (5000 < ((A.length : Nat) : Int)))) rfl (by rw [decide_eq_true hc9])) rfl) rfl
      first | with_reducible refine w_skip ?_ ?_ | refine w_skip ?_ ?_
      · exact want_no (j := 3) rfl rfl (ev (.bool true) (Eq.trans (b := .bool (decide (5000 < ((A.length : Nat) : Int)))) rfl (by rw [decide_eq_true hc9])) rfl) rfl
      refine w_val (y_pick_t (ev (.bool true) (Eq.trans (b := .bool (decide (5000 < ((A.length : Nat) : Int)))) rfl (by rw [decide_eq_true hc9])) rfl) (evc (.bool true))) ?_
      refine nt ?_
      refine c_tt (ev (.bool true) rfl rfl) ?_
      refine sr ?_
      refine w_as (evc (.bool true)) ?_
      refine nt ?_
      refine wp_ret ?_
      refine then_r ?_
      refine inb_r ?_
      refine then_r ?_
      refine then_r ?_
      refine inb_r ?_
      refine then_r ?_
      refine fin_ret1 rfl (ev (.bool true) rfl rfl) ?_
      exact ⟨rfl, hk⟩
     ·skip
      refine w_val_g (v := .slice (some ⟨g, off, none⟩) n cap) (want_yes (j := 3) rfl rfl (ev (.bool false) (Eq.trans (b := .bool (decide (5000 < ((A.length : Nat) : Int)))) rfl (by rw [decide_eq_false hc9])) rfl) rfl) (y_mv (ev (.slice (some ⟨g, off, none⟩) n cap) s1_2 rfl)) ?_
      refine w_val_g (v := .int .i64 ((i : Nat) : Int)) (want_yes (j := 3) rfl rfl (ev (.bool false) (Eq.trans (b := .bool (decide (5000 < ((A.length : Nat) : Int)))) rfl (by rw [decide_eq_false hc9])) rfl) rfl) (y_mv (ev (.int .i64 ((i : Nat) : Int)) rfl rfl)) ?_
      refine w_val_g (v := pt g (off + i)) (want_yes (j := 3) rfl rfl (ev (.bool false) (Eq.trans (b := .bool (decide (5000 < ((A.length : Nat) : Int)))) rfl (by rw [decide_eq_false hc9])) rfl) rfl) (y_off (y_is1 (i := i) (ev (.slice (some ⟨g, off, none⟩) n cap) rfl rfl) (ev (.int .i64 ((i : Nat) : Int)) rfl rfl) Tryd.underlying45 HmacWPiecesT.sz9 (by omega) (by omega)) (by first | rfl | omega)) ?_
      refine w_val_g (v := .string (str (l i))) (want_yes (j := 3) rfl rfl (ev (.bool false) (Eq.trans (b := .bool (decide (5000 < ((A.length : Nat) : Int)))) rfl (by rw [decide_eq_false hc9])) rfl) rfl) (y_ld (ev (pt g (off + i)) rfl rfl) HmacWPiecesT.sc9 ((hk.cell (p := ⟨g, (off + i), none⟩) hgl).trans (hl i (by omega)))) ?_
      refine w_val_g (want_yes (j := 3) rfl rfl (ev (.bool false) (Eq.trans (b := .bool (decide (5000 < ((A.length : Nat) : Int)))) rfl (by rw [decide_eq_false hc9])) rfl) rfl) (y_len (ev (.string (str (l i))) rfl rfl) Tryd.underlying9) ?_
      refine w_val_g (want_yes (j := 3) rfl rfl (ev (.bool false) (Eq.trans (b := .bool (decide (5000 < ((A.length : Nat) : Int)))) rfl (by rw [decide_eq_false hc9])) rfl) rfl) (y_bin (ev (.int .i64 (((l i).length : Nat) : Int)) rfl rfl) (evc (.int .i64 5000)) b_gtr) ?_
      refine w_val (y_pick_f (ev (.bool false) (Eq.trans (b := .bool (decide (5000 < ((A.length : Nat) : Int)))) rfl (by rw [decide_eq_false hc9])) rfl) (ev (.bool (decide (5000 < (((l i).length : Nat) : Int)))) rfl rfl)) ?_
      refine nt ?_
      refine c_if (p := 5000 < (((l i).length : Nat) : Int)) (ev (.bool (decide (5000 < (((l i).length : Nat) : Int)))) rfl rfl) (fun hc10 => ?_) (fun hc10 => ?_)
      ·skip
       refine sr ?_
       refine w_as (evc (.bool true)) ?_
       refine nt ?_
       refine wp_ret ?_
       refine then_r ?_
       refine inb_r ?_
       refine then_r ?_
       refine then_r ?_
       refine inb_r ?_
       refine then_r ?_
       refine fin_ret1 rfl (ev (.bool true) rfl rfl) ?_
       exact ⟨rfl, hk⟩
      ·skip
       refine wp_skip ?_
       refine then_n ?_
       refine wp_seq ?_
       refine sr ?_
       refine w_mv (ev (pt m 0) s1_7 rfl) ?_
       refine w_mv (ev (.slice (some ⟨g, off, none⟩) n cap) s1_2 rfl) ?_
       refine w_mv (ev (.int .i64 ((i : Nat) : Int)) rfl rfl) ?_
       refine w_val (v := pt g (off + i)) (y_off (y_is1 (i := i) (ev (.slice (some ⟨g, off, none⟩) n cap) rfl rfl) (ev (.int .i64 ((i : Nat) : Int)) rfl rfl) Tryd.underlying45 HmacWPiecesT.sz9 (by omega) (by omega)) (by first | rfl | omega)) ?_
       refine w_val (v := .string (str (l i))) (y_ld (ev (pt g (off + i)) rfl rfl) HmacWPiecesT.sc9 ((hk.cell (p := ⟨g, (off + i), none⟩) hgl).trans (hl i (by omega)))) ?_
       have hw_ := hn
       clear hn
       refine w_call (Tryd.func31) (by kernel_rfl) rfl (m2 (ev (pt m 0) rfl rfl) (ev (.string (str (l i))) rfl rfl)) (macWrite_l kind hkd m pi po pn (Hm.pd kind key 54#8 ++ A) (l i) (by omega) (by omega) (by omega) w7 r_m hT hw_) ?_
       rintro _ w11 ⟨rfl, hn, hgw⟩
       refine ⟨_, rfl, ?_⟩
       replace r_m := r_m.stepG hgw (by omega)
       replace hk := thenG hk hgw (by omega)
       replace hT := Sha.Tabs.grown hT hgw (by omega) (by omega)
       replace hi := Sha.At.grown hi hgw (by omega)
       replace ho := Sha.At.grown ho hgw (by omega)
       refine w_val (y_bin (ev (.int .i64 0) rfl rfl) (evc (.int .i64 0)) b_neq) ?_
       refine nt ?_
       refine c_ff (ev (.bool false) rfl rfl) ?_
       refine wp_skip ?_
       refine then_n ?_
       refine wp_seq ?_
       rw [List.append_assoc] at hn
       refine wp_region_lit ?_
       refine w_mv (ev (.string (str A)) s1_9 rfl) ?_
       refine w_mv (ev (.slice (some ⟨g, off, none⟩) n cap) s1_2 rfl) ?_
       refine w_mv (ev (.int .i64 ((i : Nat) : Int)) rfl rfl) ?_
       refine w_val (v := pt g (off + i)) (y_off (y_is1 (i := i) (ev (.slice (some ⟨g, off, none⟩) n cap) rfl rfl) (ev (.int .i64 ((i : Nat) : Int)) rfl rfl) Tryd.underlying45 HmacWPiecesT.sz9 (by omega) (by omega)) (by first | rfl | omega)) ?_
       refine w_val (v := .string (str (l i))) (y_ld (ev (pt g (off + i)) rfl rfl) HmacWPiecesT.sc9 ((hk.cell (p := ⟨g, (off + i), none⟩) hgl).trans (hl i (by omega)))) ?_
       refine w_val (y_bin (ev (.string (str A)) rfl rfl) (ev (.string (str (l i))) rfl rfl) (b_cat (by (try simp only [List.length_append]); omega))) ?_
       refine w_as (ev (.string (str (A ++ (l i)))) rfl rfl) ?_
       refine nt ?_
       refine wp_seq ?_
       refine sr ?_
       refine w_mv (ev (.int .i64 ((i : Nat) : Int)) rfl rfl) ?_
       refine w_val (y_bin (ev (.int .i64 ((i : Nat) : Int)) rfl rfl) (evc (.int .i64 3)) (b_rem (by omega))) ?_
       refine w_val (y_bin (ev (.int .i64 (((i : Nat) : Int) % 3)) rfl rfl) (evc (.int .i64 2)) b_eql) ?_
       refine nt ?_
       refine c_if (p := (((i : Nat) : Int) % 3) = 2) (ev (.bool (decide ((((i : Nat) : Int) % 3) = 2))) rfl rfl) (fun hc12 => ?_) (fun hc12 => ?_)
       ·skip
        refine wp_seq ?_
        refine sr ?_
        refine w_mv (ev (pt m 0) s1_7 rfl) ?_
        clear hn
        have rm_ := r_m
        clear r_m
        refine w_call (Tryd.func32) (by kernel_rfl) rfl (m1 (ev (pt m 0) rfl rfl)) (macAgain_l kind hkd m pi po pn (Hm.pd kind key 54#8) (by omega) (by omega) (by omega) w11 rm_ hT hi) ?_
        rintro _ w13 ⟨pn2, rfl, hge_pn2, r_m, hn, hga⟩
        refine ⟨_, rfl, ?_⟩
        have ne_pi_pn2 : pi ≠ pn2 := by have := hi.lt; omega
        have ne_po_pn2 : po ≠ pn2 := by have := ho.lt; omega
        have ge_pn2 : w0.heap.size ≤ pn2 := by have := hk.size; omega
        have ne_m_pn2 : m ≠ pn2 := by have := rm_.lt; omega
        replace hk := thenG hk hga (by omega)
        replace hT := Sha.Tabs.grown hT hga (by omega) (by omega)
        replace hi := Sha.At.grown hi hga (by omega)
        replace ho := Sha.At.grown ho hga (by omega)
        refine w_val (y_bin (ev (.int .i64 0) rfl rfl) (evc (.int .i64 0)) b_neq) ?_
        refine nt ?_
        refine c_ff (ev (.bool false) rfl rfl) ?_
        refine wp_skip ?_
        refine then_n ?_
        rw [← List.append_nil (Hm.pd kind key 54#8)] at hn
        refine wp_region_lit ?_
        refine w_as (evc (.string (str ([] : List (BitVec 8))))) ?_
        refine nt ?_
        refine wp_region_lit ?_
        refine w_mv (ev (pt m 0) s1_7 rfl) ?_
        refine w_call (Tryd.func33) (by kernel_rfl) rfl (m1 (ev (pt m 0) rfl rfl)) (macSum_l kind hkd m pi po pn2 (Hm.pd kind key 54#8 ++ ([])) (Hm.pd kind key 92#8) (by omega) (by omega) (by (try simp only [List.length_append, Hm.pd_len, List.length_nil]); omega) (by rw [Hm.pd_len]; omega) (by omega) w13 r_m hT ho hn) ?_
        rintro _ w14 ⟨rfl, hb15⟩
        refine ⟨_, rfl, ?_⟩
        replace r_m := r_m.step hb15
        replace hk := thenB hk hb15
        replace hT := Sha.Tabs.below hT hb15
        replace hi := Sha.At.below hi hb15
        replace ho := Sha.At.below ho hb15
        replace hn := Sha.At.below hn hb15
        refine wpList_nil ?_
        refine inb_n ?_
        refine then_n ?_
        refine wp_region_lit ?_
        refine w_val (y_bin (ev (.int .i64 ((i : Nat) : Int)) s1_51 rfl) (evc (.int .i64 1)) (b_add (by omega))) ?_
        refine w_mv (ev (.int .i64 (((i : Nat) : Int) + 1)) rfl rfl) ?_
        refine wpList_nil ?_
        exact then_n ⟨_, (by omega), i + 1, ([]), pn2, rfl, _, rfl, iv, (by first | (rw [List.length_append]; omega) | decide), iv, iv, iv, iv, s1_0, s1_1, s1_2, s1_7, s1_8, (Eq.trans (b := .string (str ([] : List (BitVec 8)))) rfl (by rfl)), s1_50, (etv (b := .int .i64 (((i : Nat) : Int) + 1)) rfl), r_m, hT, hi, ho, hn, hk⟩
       ·skip
        refine wp_skip ?_
        refine then_n ?_
        refine wp_region_lit ?_
        refine w_mv (ev (pt m 0) s1_7 rfl) ?_
        refine w_call (Tryd.func33) (by kernel_rfl) rfl (m1 (ev (pt m 0) rfl rfl)) (macSum_l kind hkd m pi po pn (Hm.pd kind key 54#8 ++ (A ++ l i)) (Hm.pd kind key 92#8) (by omega) (by omega) (by (try simp only [List.length_append, Hm.pd_len, List.length_nil]); omega) (by rw [Hm.pd_len]; omega) (by omega) w11 r_m hT ho hn) ?_
        rintro _ w16 ⟨rfl, hb17⟩
        refine ⟨_, rfl, ?_⟩
        replace r_m := r_m.step hb17
        replace hk := thenB hk hb17
        replace hT := Sha.Tabs.below hT hb17
        replace hi := Sha.At.below hi hb17
        replace ho := Sha.At.below ho hb17
        replace hn := Sha.At.below hn hb17
        refine wpList_nil ?_
        refine inb_n ?_
        refine then_n ?_
        refine wp_region_lit ?_
        refine w_val (y_bin (ev (.int .i64 ((i : Nat) : Int)) s1_51 rfl) (evc (.int .i64 1)) (b_add (by omega))) ?_
        refine w_mv (ev (.int .i64 (((i : Nat) : Int) + 1)) rfl rfl) ?_
        refine wpList_nil ?_
        exact then_n ⟨_, (by omega), i + 1, (A ++ l i), pn, rfl, _, rfl, iv, (by first | (rw [List.length_append]; omega) | decide), iv, iv, iv, iv, s1_0, s1_1, s1_2, s1_7, s1_8, (Eq.trans (b := .string (str (A ++ (l i)))) rfl (by rfl)), s1_50, (etv (b := .int .i64 (((i : Nat) : Int) + 1)) rfl), r_m, hT, hi, ho, hn, hk⟩
    ·skip
     refine wp_exit ?_
     refine then_x ?_
     refine then_x ?_
     refine inb_x ?_
     refine then_n ?_
     refine sr ?_
     refine w_mv (ev (pt m 0) s1_7 rfl) ?_
     refine w_call (Tryd.func33) (by kernel_rfl) rfl (m1 (ev (pt m 0) rfl rfl)) (macSum_l kind hkd m pi po pn (Hm.pd kind key 54#8 ++ A) (Hm.pd kind key 92#8) (by omega) (by omega) (by (try simp only [List.length_append, Hm.pd_len, List.length_nil]); omega) (by rw [Hm.pd_len]; omega) (by omega) w7 r_m hT ho hn) ?_
     rintro _ w18 ⟨rfl, hb19⟩
     refine ⟨_, rfl, ?_⟩
     replace r_m := r_m.step hb19
     replace hk := thenB hk hb19
     replace hT := Sha.Tabs.below hT hb19
     replace hi := Sha.At.below hi hb19
     replace ho := Sha.At.below ho hb19
     replace hn := Sha.At.below hn hb19
     refine w_mv (ev (.tuple #[.string (str (Hm.mac kind key A)), .int .i64 0]) rfl rfl) ?_
     refine w_val (y_ext (v := .string (str (Hm.mac kind key A))) (ev (.tuple #[.string (str (Hm.mac kind key A)), .int .i64 0]) rfl rfl) rfl) ?_
     refine w_val (y_ext (v := .int .i64 0) (ev (.tuple #[.string (str (Hm.mac kind key A)), .int .i64 0]) rfl rfl) rfl) ?_
     refine w_as (ev (.string (str (Hm.mac kind key A))) rfl rfl) ?_
     refine w_as (ev (.int .i64 0) rfl rfl) ?_
     refine nt ?_
     refine sr ?_
     refine w_mv (ev (.int .i64 ((kind : Nat) : Int)) s1_0 rfl) ?_
     refine w_mv (ev (.string (str key)) s1_1 rfl) ?_
     refine w_mv (ev (.string (str A)) s1_9 rfl) ?_
     refine w_call (Tryd.func28) (by kernel_rfl) rfl (m3 (ev (.int .i64 ((kind : Nat) : Int)) rfl rfl) (ev (.string (str key)) rfl rfl) (ev (.string (str A)) rfl rfl)) (refMac_l kind hkd key A (by omega) (by omega) w18 ) ?_
     rintro _ w20 ⟨rfl, hb21⟩
     refine ⟨_, rfl, ?_⟩
     replace r_m := r_m.step hb21
     replace hk := thenB hk hb21
     replace hT := Sha.Tabs.below hT hb21
     replace hi := Sha.At.below hi hb21
     replace ho := Sha.At.below ho hb21
     replace hn := Sha.At.below hn hb21
     refine w_mv (ev (.tuple #[.string (str (Hm.mac kind key A)), .int .i64 0]) rfl rfl) ?_
     refine w_val (y_ext (v := .string (str (Hm.mac kind key A))) (ev (.tuple #[.string (str (Hm.mac kind key A)), .int .i64 0]) rfl rfl) rfl) ?_
     refine w_val (y_ext (v := .int .i64 0) (ev (.tuple #[.string (str (Hm.mac kind key A)), .int .i64 0]) rfl rfl) rfl) ?_
     refine w_as (ev (.string (str (Hm.mac kind key A))) rfl rfl) ?_
     refine w_as (ev (.int .i64 0) rfl rfl) ?_
     refine nt ?_
     refine sr ?_
     refine w_mv (ev (.string (str (Hm.mac kind key A))) rfl rfl) ?_
     refine w_mv (ev (.string (str (Hm.mac kind key A))) rfl rfl) ?_
     refine w_val (y_bin (ev (.string (str (Hm.mac kind key A))) rfl rfl) (ev (.string (str (Hm.mac kind key A))) rfl rfl) b_eqs_same) ?_
     refine w_mv (ev (.bool true) rfl rfl) ?_
     refine w_val_g (v := .int .i64 0) (want_yes (j := 3) rfl rfl (ev (.bool true) rfl rfl) rfl) (y_mv (ev (.int .i64 0) rfl rfl)) ?_
     refine w_val_g (want_yes (j := 3) rfl rfl (ev (.bool true) rfl rfl) rfl) (y_bin (ev (.int .i64 0) rfl rfl) (evc (.int .i64 0)) b_eql) ?_
     refine w_val (y_pick_t (ev (.bool true) rfl rfl) (ev (.bool true) rfl rfl)) ?_
     refine w_mv (ev (.bool true) rfl rfl) ?_
     refine w_val_g (v := .int .i64 0) (want_yes (j := 7) rfl rfl (ev (.bool true) rfl rfl) rfl) (y_mv (ev (.int .i64 0) rfl rfl)) ?_
     refine w_val_g (want_yes (j := 7) rfl rfl (ev (.bool true) rfl rfl) rfl) (y_bin (ev (.int .i64 0) rfl rfl) (evc (.int .i64 0)) b_eql) ?_
     refine w_val (y_pick_t (ev (.bool true) rfl rfl) (ev (.bool true) rfl rfl)) ?_
     refine w_as (ev (.bool true) rfl rfl) ?_
     refine nt ?_
     refine wp_ret ?_
     refine fin_ret1 rfl (ev (.bool true) rfl rfl) ?_
     exact ⟨rfl, hk⟩

set_option maxRecDepth 100000 in
set_option maxHeartbeats 1000000 in
theorem hmacPieces_0 (kind : Nat) (hkd : Sha.Known kind) (key : List (BitVec 8)) (hk2 : key.length ≤ 140737488351232) (w0 : World) (hT : Sha.Tabs w0) : Calls Tryd.prog 10 #[.int .i64 ((kind : Nat) : Int), .string (str key), .slice none 0 0] w0 fun e w' => e = .returned (.bool true) ∧ Below w0.heap.size w0 w' := by
 have hT0 := hT.lt
 have hbs := Sha.bs_le kind
 refine enter (n := 110) Tryd.func10 rfl rfl rfl ?_
 have hk : Below w0.heap.size w0 w0 := Below.refl _ _
 refine sr ?_
 refine w_as (evc (.bool false)) ?_
 refine nt ?_
 refine sr ?_
 refine w_mv (ev (.int .i64 ((kind : Nat) : Int)) rfl rfl) ?_
 refine w_mv (ev (.string (str key)) rfl rfl) ?_
 refine w_call (Tryd.func30) (by kernel_rfl) rfl (m2 (ev (.int .i64 ((kind : Nat) : Int)) rfl rfl) (ev (.string (str key)) rfl rfl)) (macNew_l kind hkd key (by omega) w0 hT) ?_
 rintro _ w1 ⟨m, pi, po, pn, rfl, hge_m, hge_pi, hge_po, hge_pn, nb1, nb2, nb3, nb4, nb5, nb6, r_m, hi, ho, hn, hb_m⟩
 refine ⟨_, rfl, ?_⟩
 have ge_m : w0.heap.size ≤ m := by have := hk.size; omega
 have ge_pi : w0.heap.size ≤ pi := by have := hk.size; omega
 have ge_po : w0.heap.size ≤ po := by have := hk.size; omega
 have ge_pn : w0.heap.size ≤ pn := by have := hk.size; omega
 replace hk := thenB hk hb_m
 replace hT := Sha.Tabs.below hT hb_m
 refine w_mv (ev (.tuple #[pt m 0, .int .i64 0]) rfl rfl) ?_
 refine w_val (y_ext (v := pt m 0) (ev (.tuple #[pt m 0, .int .i64 0]) rfl rfl) rfl) ?_
 refine w_val (y_ext (v := .int .i64 0) (ev (.tuple #[pt m 0, .int .i64 0]) rfl rfl) rfl) ?_
 refine w_as (ev (pt m 0) rfl rfl) ?_
 refine w_as (ev (.int .i64 0) rfl rfl) ?_
 refine nt ?_
 refine wp_seq ?_
 refine sr ?_
 refine w_call (Tryd.func26) (by kernel_rfl) rfl m0 (macWakes_c w1 hT) ?_
 rintro _ w2 ⟨rfl, hb3⟩
 refine ⟨_, rfl, ?_⟩
 replace r_m := r_m.step hb3
 replace hk := thenB hk hb3
 replace hT := Sha.Tabs.below hT hb3
 replace hi := Sha.At.below hi hb3
 replace ho := Sha.At.below ho hb3
 replace hn := Sha.At.below hn hb3
 refine w_val (y_not (ev (.bool true) rfl rfl)) ?_
 refine nt ?_
 refine c_ff (ev (.bool false) rfl rfl) ?_
 refine wp_skip ?_
 refine then_n ?_
 refine wp_seq ?_
 refine sr ?_
 refine w_mv (ev (.int .i64 0) rfl rfl) ?_
 refine w_val (y_bin (ev (.int .i64 0) rfl rfl) (evc (.int .i64 0)) b_neq) ?_
 refine w_mv (ev (.bool false) rfl rfl) ?_
 refine w_val_g (v := .slice none 0 0) (want_yes (j := 2) rfl rfl (ev (.bool false) rfl rfl) rfl) (y_mv (ev (.slice none 0 0) rfl rfl)) ?_
 refine w_val_g (v := .int .i64 0) (want_yes (j := 2) rfl rfl (ev (.bool false) rfl rfl) rfl) (y_len_sl (ev (.slice none 0 0) rfl rfl) Tryd.underlying45) ?_
 refine w_val_g (want_yes (j := 2) rfl rfl (ev (.bool false) rfl rfl) rfl) (y_bin (ev (.int .i64 0) rfl rfl) (evc (.int .i64 1000)) b_gtr) ?_
 refine w_val (y_pick_f (ev (.bool false) rfl rfl) (ev (.bool false) rfl rfl)) ?_
 refine w_mv (ev (.bool false) rfl rfl) ?_
 refine w_val_g (v := .string (str key)) (want_yes (j := 7) rfl rfl (ev (.bool false) rfl rfl) rfl) (y_mv (ev (.string (str key)) rfl rfl)) ?_
 refine w_val_g (want_yes (j := 7) rfl rfl (ev (.bool false) rfl rfl) rfl) (y_len (ev (.string (str key)) rfl rfl) Tryd.underlying9) ?_
 refine w_val_g (want_yes (j := 7) rfl rfl (ev (.bool false) rfl rfl) rfl) (y_bin (ev (.int .i64 ((key.length : Nat) : Int)) rfl rfl) (evc (.int .i64 5000)) b_gtr) ?_
 refine w_val (y_pick_f (ev (.bool false) rfl rfl) (ev (.bool (decide (5000 < ((key.length : Nat) : Int)))) rfl rfl)) ?_
 refine nt ?_
 refine c_if (p := 5000 < ((key.length : Nat) : Int)) (ev (.bool (decide (5000 < ((key.length : Nat) : Int)))) rfl rfl) (fun hc4 => ?_) (fun hc4 => ?_)
 ·skip
  refine sr ?_
  refine w_mv (ev (pt m 0) rfl rfl) ?_
  refine w_val (y_bin (ev (pt m 0) rfl rfl) (evc (.pointer none)) (b_eqp Tryd.underlying59)) ?_
  refine w_mv (ev (.int .i64 0) rfl rfl) ?_
  refine w_val (y_bin (ev (.int .i64 0) rfl rfl) (evc (.int .i64 0)) b_neq) ?_
  refine w_val (y_bin (ev (.bool false) rfl rfl) (ev (.bool false) rfl rfl) (b_eqb Tryd.underlying4)) ?_
  refine w_mv (ev (.bool true) rfl rfl) ?_
  refine w_val_g (v := .int .i64 0) (want_yes (j := 5) rfl rfl (ev (.bool true) rfl rfl) rfl) (y_mv (ev (.int .i64 0) rfl rfl)) ?_
  refine w_val_g (want_yes (j := 5) rfl rfl (ev (.bool true) rfl rfl) rfl) (y_bin (ev (.int .i64 0) rfl rfl) (evc (.int .i64 0)) b_eql) ?_
  refine w_val_g (v := .bool true) (want_yes (j := 5) rfl rfl (ev (.bool true) rfl rfl) rfl) (y_mv (ev (.bool true) rfl rfl)) ?_
  first | with_reducible refine w_skip ?_ ?_ | refine w_skip ?_ ?_
  · exact want_no (j := 8) rfl rfl (ev (.bool true) rfl rfl) rfl
  first | with_reducible refine w_skip ?_ ?_ | refine w_skip ?_ ?_
  · exact want_no (j := 8) rfl rfl (ev (.bool true) rfl rfl) rfl
  first | with_reducible refine w_skip ?_ ?_ | refine w_skip ?_ ?_
  · exact want_no (j := 8) rfl rfl (ev (.bool true) rfl rfl) rfl
  refine w_val_g (want_yes (j := 5) rfl rfl (ev (.bool true) rfl rfl) rfl) (y_pick_t (ev (.bool true) rfl rfl) (evc (.bool true))) ?_
  refine w_val (y_pick_t (ev (.bool true) rfl rfl) (ev (.bool true) rfl rfl)) ?_
  refine w_as (ev (.bool true) rfl rfl) ?_
  refine nt ?_
  refine wp_ret ?_
  refine then_r ?_
  refine fin_ret1 rfl (ev (.bool true) rfl rfl) ?_
  exact ⟨rfl, hk⟩
 ·skip
  refine wp_skip ?_
  refine then_n ?_
  refine sr ?_
  refine w_as (evc (.string (str ([] : List (BitVec 8))))) ?_
  refine nt ?_
  refine ss ?_
  rw [← List.append_nil (Hm.pd kind key 54#8)] at hn
  refine wp_region_lit ?_
  refine w_mv (ev (.slice none 0 0) rfl rfl) ?_
  refine w_val (v := .int .i64 0) (y_len_sl (ev (.slice none 0 0) rfl rfl) Tryd.underlying45) ?_
  refine w_mv (evc (.int .i64 0)) ?_
  refine nt ?_
  refine wp_block ?_
  refine c_loop (fun dN aN wl => dN = 0 ∧ ∃ f5, aN = fr 110 f5 ∧ f5 0 = .int .i64 ((kind : Nat) : Int) ∧ f5 1 = .string (str key) ∧ f5 2 = .slice none 0 0 ∧ f5 7 = pt m 0 ∧ f5 8 = .int .i64 0 ∧ f5 9 = .string (str ([] : List (BitVec 8))) ∧ f5 50 = .int .i64 0 ∧ f5 51 = .int .i64 0 ∧ Row wl m 65 3 (fun j => if j < 1 then pt pi 0 else if j < 2 then pt po 0 else pt pn 0) ∧ Sha.Tabs wl ∧ Sha.At wl pi kind (Hm.pd kind key 54#8) ∧ Sha.At wl po kind (Hm.pd kind key 92#8) ∧ Sha.At wl pn kind (Hm.pd kind key 54#8 ++ ([])) ∧ Below w0.heap.size w0 wl) 0 ?_ ?_
  · exact ⟨rfl, _, rfl, rfl, rfl, rfl, rfl, rfl, rfl, rfl, rfl, r_m, hT, hi, ho, hn, hk⟩
  ·skip
   clear r_m hT hi ho hn hk
   rintro _ _ w6 ⟨rfl, f5, rfl, s1_0, s1_1, s1_2, s1_7, s1_8, s1_9, s1_50, s1_51, r_m, hT, hi, ho, hn, hk⟩
   refine sr ?_
   refine w_val (y_bin (ev (.int .i64 0) s1_51 rfl) (ev (.int .i64 0) s1_50 rfl) b_lss) ?_
   refine nt ?_
   refine wp_seq ?_
   refine c_ff (ev (.bool false) rfl rfl) ?_
   refine wp_exit ?_
   refine then_x ?_
   refine then_x ?_
   refine inb_x ?_
   refine then_n ?_
   refine sr ?_
   refine w_mv (ev (pt m 0) s1_7 rfl) ?_
   refine w_call (Tryd.func33) (by kernel_rfl) rfl (m1 (ev (pt m 0) rfl rfl)) (macSum_l kind hkd m pi po pn (Hm.pd kind key 54#8 ++ ([])) (Hm.pd kind key 92#8) (by omega) (by omega) (by (try simp only [List.length_append, Hm.pd_len, List.length_nil]); omega) (by rw [Hm.pd_len]; omega) (by omega) w6 r_m hT ho hn) ?_
   rintro _ w7 ⟨rfl, hb8⟩
   refine ⟨_, rfl, ?_⟩
   replace r_m := r_m.step hb8
   replace hk := thenB hk hb8
   replace hT := Sha.Tabs.below hT hb8
   replace hi := Sha.At.below hi hb8
   replace ho := Sha.At.below ho hb8
   replace hn := Sha.At.below hn hb8
   refine w_mv (ev (.tuple #[.string (str (Hm.mac kind key ([]))), .int .i64 0]) rfl rfl) ?_
   refine w_val (y_ext (v := .string (str (Hm.mac kind key ([])))) (ev (.tuple #[.string (str (Hm.mac kind key ([]))), .int .i64 0]) rfl rfl) rfl) ?_
   refine w_val (y_ext (v := .int .i64 0) (ev (.tuple #[.string (str (Hm.mac kind key ([]))), .int .i64 0]) rfl rfl) rfl) ?_
   refine w_as (ev (.string (str (Hm.mac kind key ([])))) rfl rfl) ?_
   refine w_as (ev (.int .i64 0) rfl rfl) ?_
   refine nt ?_
   refine sr ?_
   refine w_mv (ev (.int .i64 ((kind : Nat) : Int)) s1_0 rfl) ?_
   refine w_mv (ev (.string (str key)) s1_1 rfl) ?_
   refine w_mv (ev (.string (str ([] : List (BitVec 8)))) s1_9 rfl) ?_
   refine w_call (Tryd.func28) (by kernel_rfl) rfl (m3 (ev (.int .i64 ((kind : Nat) : Int)) rfl rfl) (ev (.string (str key)) rfl rfl) (ev (.string (str ([] : List (BitVec 8)))) rfl rfl)) (refMac_l kind hkd key ([] : List (BitVec 8)) (by decide) (by omega) w7 ) ?_
   rintro _ w9 ⟨rfl, hb10⟩
   refine ⟨_, rfl, ?_⟩
   replace r_m := r_m.step hb10
   replace hk := thenB hk hb10
   replace hT := Sha.Tabs.below hT hb10
   replace hi := Sha.At.below hi hb10
   replace ho := Sha.At.below ho hb10
   replace hn := Sha.At.below hn hb10
   refine w_mv (ev (.tuple #[.string (str (Hm.mac kind key ([] : List (BitVec 8)))), .int .i64 0]) rfl rfl) ?_
   refine w_val (y_ext (v := .string (str (Hm.mac kind key ([] : List (BitVec 8))))) (ev (.tuple #[.string (str (Hm.mac kind key ([] : List (BitVec 8)))), .int .i64 0]) rfl rfl) rfl) ?_
   refine w_val (y_ext (v := .int .i64 0) (ev (.tuple #[.string (str (Hm.mac kind key ([] : List (BitVec 8)))), .int .i64 0]) rfl rfl) rfl) ?_
   refine w_as (ev (.string (str (Hm.mac kind key ([] : List (BitVec 8))))) rfl rfl) ?_
   refine w_as (ev (.int .i64 0) rfl rfl) ?_
   refine nt ?_
   refine sr ?_
   refine w_mv (ev (.string (str (Hm.mac kind key ([])))) rfl rfl) ?_
   refine w_mv (ev (.string (str (Hm.mac kind key ([] : List (BitVec 8))))) rfl rfl) ?_
   refine w_val (y_bin (ev (.string (str (Hm.mac kind key ([])))) rfl rfl) (ev (.string (str (Hm.mac kind key ([] : List (BitVec 8))))) rfl rfl) b_eqs) ?_
   refine w_mv (ev (.bool (decide ((Hm.mac kind key ([])) = (Hm.mac kind key ([] : List (BitVec 8)))))) rfl rfl) ?_
   have hc11 : (Hm.mac kind key ([])) = (Hm.mac kind key ([] : List (BitVec 8))) := by rfl
   refine w_val_g (v := .int .i64 0) (want_yes (j := 3) rfl rfl (ev (.bool true) (Eq.trans (b := .bool (decide ((Hm.mac kind key ([])) = (Hm.mac kind key ([] : List (BitVec 8)))))) rfl (by rw [decide_eq_true hc11])) rfl) rfl) (y_mv (ev (.int .i64 0) rfl rfl)) ?_
   refine w_val_g (want_yes (j := 3) rfl rfl (ev (.bool true) (Eq.trans (b := .bool (decide ((Hm.mac kind key ([])) = (Hm.mac kind key ([] : List (BitVec 8)))))) rfl (by rw [decide_eq_true hc11])) rfl) rfl) (y_bin (ev (.int .i64 0) rfl rfl) (evc (.int .i64 0)) b_eql) ?_
   refine w_val (y_pick_t (ev (.bool true) (Eq.trans (b := .bool (decide ((Hm.mac kind key ([])) = (Hm.mac kind key ([] : List (BitVec 8)))))) rfl (by rw [decide_eq_true hc11])) rfl) (ev (.bool true) rfl rfl)) ?_
   refine w_mv (ev (.bool true) rfl rfl) ?_
   refine w_val_g (v := .int .i64 0) (want_yes (j := 7) rfl rfl (ev (.bool true) rfl rfl) rfl) (y_mv (ev (.int .i64 0) rfl rfl)) ?_
   refine w_val_g (want_yes (j := 7) rfl rfl (ev (.bool true) rfl rfl) rfl) (y_bin (ev (.int .i64 0) rfl rfl) (evc (.int .i64 0)) b_eql) ?_
   refine w_val (y_pick_t (ev (.bool true) rfl rfl) (ev (.bool true) rfl rfl)) ?_
   refine w_as (ev (.bool true) rfl rfl) ?_
   refine nt ?_
   refine wp_ret ?_
   refine fin_ret1 rfl (ev (.bool true) rfl rfl) ?_
   exact ⟨rfl, hk⟩

theorem walk_HmacPieces (k : Int) (hw : (Lit.int .i64 k).wf = true) (key : List (BitVec 8)) (hk2 : key.length ≤ 140737488351232) (g off n cap : Nat) (hn_ : n ≤ 140737488351232) (l : Nat → List (BitVec 8)) (w : World) (hT : Sha.Tabs w) (hgl : g < w.heap.size) (hl : ∀ i, i < n → w.cell? ⟨g, off + i, none⟩ = some (.string (str (l i)))) : Calls Tryd.prog 10 #[.int .i64 k, .string (str key), .slice (some ⟨g, off, none⟩) n cap] w fun e w' => e = .returned (.bool true) ∧ Below w.heap.size w w' := by
  by_cases k1 : k = 256
  · subst k1; exact hmacPieces_y 256 (.inl rfl) key hk2 g off n cap hn_ l w hgl hl hT
  by_cases k2 : k = 384
  · subst k2; exact hmacPieces_y 384 (.inr (.inl rfl)) key hk2 g off n cap hn_ l w hgl hl hT
  by_cases k3 : k = 512
  · subst k3; exact hmacPieces_y 512 (.inr (.inr rfl)) key hk2 g off n cap hn_ l w hgl hl hT
  exact hmacPieces_n k k1 k2 k3 key hk2 (.slice (some ⟨g, off, none⟩) n cap) w hT

theorem walk_HmacPieces_nil (k : Int) (hw : (Lit.int .i64 k).wf = true) (key : List (BitVec 8)) (hk2 : key.length ≤ 140737488351232) (w : World) (hT : Sha.Tabs w) : Calls Tryd.prog 10 #[.int .i64 k, .string (str key), .slice none 0 0] w fun e w' => e = .returned (.bool true) ∧ Below w.heap.size w w' := by
  by_cases k1 : k = 256
  · subst k1; exact hmacPieces_0 256 (.inl rfl) key hk2 w hT
  by_cases k2 : k = 384
  · subst k2; exact hmacPieces_0 384 (.inr (.inl rfl)) key hk2 w hT
  by_cases k3 : k = 512
  · subst k3; exact hmacPieces_0 512 (.inr (.inr rfl)) key hk2 w hT
  exact hmacPieces_n k k1 k2 k3 key hk2 (.slice none 0 0) w hT
end Go.Proofs.YtieepglpejlkoaaDoor
