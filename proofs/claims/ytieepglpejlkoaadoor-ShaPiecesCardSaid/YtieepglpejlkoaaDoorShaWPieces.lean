/-
  The walk of the law ShaPieces. Conditions as each says.
-/
import Derived.Test.YtieepglpejlkoaaDoorRows
import Derived.Test.YtieepglpejlkoaaDoorShaW
import Derived.ProofKit
namespace Go.Proofs.YtieepglpejlkoaaDoor
open Go.RowKit
set_option linter.unusedSimpArgs false
set_option linter.unusedVariables false
namespace ShaWPiecesT
theorem mixed : Tryd.prog.follows .mixedOrders = true := by kernel_rfl
theorem fa44_1 (g off : Nat) : ∀ w, (Instr.fieldAt 44 (.pointer (some ⟨g, off, none⟩)) 1).run Tryd.prog w = .ok (.pointer (some ⟨g, off + 1, none⟩)) w := fun w => by kernel_rfl
theorem fa44_2 (g off : Nat) : ∀ w, (Instr.fieldAt 44 (.pointer (some ⟨g, off, none⟩)) 2).run Tryd.prog w = .ok (.pointer (some ⟨g, off + 2, none⟩)) w := fun w => by kernel_rfl
theorem fa53_0 (g off : Nat) : ∀ w, (Instr.fieldAt 53 (.pointer (some ⟨g, off, none⟩)) 0).run Tryd.prog w = .ok (.pointer (some ⟨g, off + 0, none⟩)) w := fun w => by kernel_rfl
theorem sc3 : (Tryd.prog.underlying 3).map scal = some true := by rw [Tryd.underlying3]; rfl
theorem sc9 : (Tryd.prog.underlying 9).map scal = some true := by rw [Tryd.underlying9]; rfl
theorem sz9 : (Tryd.prog.info? 9).map (·.size) = some 1 := by kernel_rfl
end ShaWPiecesT
set_option maxRecDepth 100000 in
set_option maxHeartbeats 1000000 in
theorem shaPieces_n (k : Int) (k1 : k ≠ 256) (k2 : k ≠ 384) (k3 : k ≠ 512) (l : Value) (w0 : World) (hT : Sha.Tabs w0) : Calls Tryd.prog 5 #[.int .i64 k, l] w0 fun e w' => e = .returned (.bool true) ∧ Below w0.heap.size w0 w' := by
 have hT0 := hT.lt
 refine enter (n := 88) Tryd.func5 rfl rfl rfl ?_
 have hk : Below w0.heap.size w0 w0 := Below.refl _ _
 refine wp_seq ?_
 refine wp_region_lit ?_
 refine w_as (evc (.bool false)) ?_
 refine wpList_nil ?_
 refine then_n ?_
 refine wp_seq ?_
 refine wp_region_lit ?_
 refine w_mv (ev (.int .i64 k) rfl rfl) ?_
 refine w_call (Tryd.func20) (by kernel_rfl) rfl (m1 (ev (.int .i64 k) rfl rfl)) (shaNew_no k k1 k2 k3 w0 ) ?_
 rintro _ w1 ⟨rfl, hb2⟩
 refine ⟨_, rfl, ?_⟩
 replace hk := thenB hk hb2
 replace hT := Sha.Tabs.below hT hb2
 refine w_mv (ev (.tuple #[.pointer none, .int .i64 11]) rfl rfl) ?_
 refine w_val (v := .pointer none) (y_ext (v := .pointer none) (ev (.tuple #[.pointer none, .int .i64 11]) rfl rfl) rfl) ?_
 refine w_val (v := .int .i64 11) (y_ext (v := .int .i64 11) (ev (.tuple #[.pointer none, .int .i64 11]) rfl rfl) rfl) ?_
 refine w_as (ev (.pointer none) rfl rfl) ?_
 refine w_as (ev (.int .i64 11) rfl rfl) ?_
 refine wpList_nil ?_
 refine then_n ?_
 refine wp_seq ?_
 refine wp_seq ?_
 refine wp_region_lit ?_
 refine w_call (Tryd.func16) (by kernel_rfl) rfl m0 (shaWakes_c w1 hT) ?_
 rintro _ w3 ⟨rfl, hb4⟩
 refine ⟨_, rfl, ?_⟩
 replace hk := thenB hk hb4
 replace hT := Sha.Tabs.below hT hb4
 refine w_val (v := .bool false) (y_not (ev (.bool true) rfl rfl)) ?_
 refine wpList_nil ?_
 refine then_n ?_
 refine c_ff (ev (.bool false) rfl rfl) ?_
 refine wp_skip ?_
 refine then_n ?_
 refine wp_seq ?_
 refine wp_seq ?_
 refine wp_region_lit ?_
 refine w_mv (ev (.int .i64 11) rfl rfl) ?_
 refine w_val (v := .bool true) (y_bin (ev (.int .i64 11) rfl rfl) (evc (.int .i64 0)) b_neq) ?_
 refine w_mv (ev (.bool true) rfl rfl) ?_
 first | with_reducible refine w_skip ?_ ?_ | refine w_skip ?_ ?_
 · exact want_no (j := 2) rfl rfl (ev (.bool true) rfl rfl) rfl
 first | with_reducible refine w_skip ?_ ?_ | refine w_skip ?_ ?_
 · exact want_no (j := 2) rfl rfl (ev (.bool true) rfl rfl) rfl
 first | with_reducible refine w_skip ?_ ?_ | refine w_skip ?_ ?_
 · exact want_no (j := 2) rfl rfl (ev (.bool true) rfl rfl) rfl
 refine w_val (v := .bool true) (y_pick_t (ev (.bool true) rfl rfl) (evc (.bool true))) ?_
 refine wpList_nil ?_
 refine then_n ?_
 refine c_tt (ev (.bool true) rfl rfl) ?_
 refine wp_seq ?_
 refine wp_region_lit ?_
 refine w_mv (ev (.int .i64 11) rfl rfl) ?_
 refine w_val (v := .bool false) (y_bin (ev (.int .i64 11) rfl rfl) (evc (.int .i64 0)) b_eql) ?_
 refine w_mv (ev (.bool false) rfl rfl) ?_
 refine w_val_g (v := .int .i64 k) (want_yes (j := 2) rfl rfl (ev (.bool false) rfl rfl) rfl) (y_mv (ev (.int .i64 k) rfl rfl)) ?_
 refine w_unguard (want_yes (j := 2) rfl rfl (ev (.bool false) rfl rfl) rfl) ?_
 refine w_call (Tryd.func21) (by kernel_rfl) rfl (m1 (ev (.int .i64 k) rfl rfl)) (known_no k k1 k2 k3 w3 ) ?_
 rintro _ w5 ⟨rfl, hb6⟩
 refine ⟨_, rfl, ?_⟩
 replace hk := thenB hk hb6
 replace hT := Sha.Tabs.below hT hb6
 refine w_val_g (v := .bool true) (want_yes (j := 2) rfl rfl (ev (.bool false) rfl rfl) rfl) (y_not (ev (.bool false) rfl rfl)) ?_
 refine w_val (v := .bool true) (y_pick_f (ev (.bool false) rfl rfl) (ev (.bool true) rfl rfl)) ?_
 refine w_as (ev (.bool true) rfl rfl) ?_
 refine wpList_nil ?_
 refine then_n ?_
 refine wp_ret ?_
 refine then_r ?_
 refine fin_ret1 rfl (ev (.bool true) rfl rfl) ?_
 exact ⟨rfl, hk⟩

set_option maxRecDepth 100000 in
set_option maxHeartbeats 1000000 in
theorem shaPieces_y (kind : Nat) (hkd : Sha.Known kind) (g off n cap : Nat) (hn : n ≤ 140737488351232) (l : Nat → List (BitVec 8)) (w0 : World) (hgl : g < w0.heap.size) (hl : ∀ i, i < n → w0.cell? ⟨g, off + i, none⟩ = some (.string (str (l i)))) (hT : Sha.Tabs w0) : Calls Tryd.prog 5 #[.int .i64 ((kind : Nat) : Int), .slice (some ⟨g, off, none⟩) n cap] w0 fun e w' => e = .returned (.bool true) ∧ Below w0.heap.size w0 w' := by
 have hT0 := hT.lt
 refine enter (n := 88) Tryd.func5 rfl rfl rfl ?_
 have hk : Below w0.heap.size w0 w0 := Below.refl _ _
 refine wp_seq ?_
 refine wp_region_lit ?_
 refine w_as (evc (.bool false)) ?_
 refine wpList_nil ?_
 refine then_n ?_
 refine wp_seq ?_
 refine wp_region_lit ?_
 refine w_mv (ev (.int .i64 ((kind : Nat) : Int)) rfl rfl) ?_
 refine w_call (Tryd.func20) (by kernel_rfl) rfl (m1 (ev (.int .i64 ((kind : Nat) : Int)) rfl rfl)) (new_at kind w0 hkd) ?_
 rintro _ w1 ⟨p, rfl, hge_p, ha, hb_p⟩
 refine ⟨_, rfl, ?_⟩
 have ge_p : w0.heap.size ≤ p := by have := hk.size; omega
 replace hk := thenB hk hb_p
 replace hT := Sha.Tabs.below hT hb_p
 refine w_mv (ev (.tuple #[pt p 0, .int .i64 0]) rfl rfl) ?_
 refine w_val (v := pt p 0) (y_ext (v := pt p 0) (ev (.tuple #[pt p 0, .int .i64 0]) rfl rfl) rfl) ?_
 refine w_val (v := .int .i64 0) (y_ext (v := .int .i64 0) (ev (.tuple #[pt p 0, .int .i64 0]) rfl rfl) rfl) ?_
 refine w_as (ev (pt p 0) rfl rfl) ?_
 refine w_as (ev (.int .i64 0) rfl rfl) ?_
 refine wpList_nil ?_
 refine then_n ?_
 refine wp_seq ?_
 refine wp_seq ?_
 refine wp_region_lit ?_
 refine w_call (Tryd.func16) (by kernel_rfl) rfl m0 (shaWakes_c w1 hT) ?_
 rintro _ w2 ⟨rfl, hb3⟩
 refine ⟨_, rfl, ?_⟩
 replace hk := thenB hk hb3
 replace hT := Sha.Tabs.below hT hb3
 replace ha := Sha.At.below ha hb3
 refine w_val (v := .bool false) (y_not (ev (.bool true) rfl rfl)) ?_
 refine wpList_nil ?_
 refine then_n ?_
 refine c_ff (ev (.bool false) rfl rfl) ?_
 refine wp_skip ?_
 refine then_n ?_
 refine wp_seq ?_
 refine wp_seq ?_
 refine wp_region_lit ?_
 refine w_mv (ev (.int .i64 0) rfl rfl) ?_
 refine w_val (v := .bool false) (y_bin (ev (.int .i64 0) rfl rfl) (evc (.int .i64 0)) b_neq) ?_
 refine w_mv (ev (.bool false) rfl rfl) ?_
 refine w_val_g (v := .slice (some ⟨g, off, none⟩) n cap) (want_yes (j := 2) rfl rfl (ev (.bool false) rfl rfl) rfl) (y_mv (ev (.slice (some ⟨g, off, none⟩) n cap) rfl rfl)) ?_
 refine w_val_g (v := .int .i64 ((n : Nat) : Int)) (want_yes (j := 2) rfl rfl (ev (.bool false) rfl rfl) rfl) (y_len_sl (ev (.slice (some ⟨g, off, none⟩) n cap) rfl rfl) Tryd.underlying45) ?_
 refine w_val_g (v := .bool (decide (1000 < ((n : Nat) : Int)))) (want_yes (j := 2) rfl rfl (ev (.bool false) rfl rfl) rfl) (y_bin (ev (.int .i64 ((n : Nat) : Int)) rfl rfl) (evc (.int .i64 1000)) b_gtr) ?_
 refine w_val (v := .bool (decide (1000 < ((n : Nat) : Int)))) (y_pick_f (ev (.bool false) rfl rfl) (ev (.bool (decide (1000 < ((n : Nat) : Int)))) rfl rfl)) ?_
 refine wpList_nil ?_
 refine then_n ?_
 refine c_if (p := 1000 < ((n : Nat) : Int)) (ev (.bool (decide (1000 < ((n : Nat) : Int)))) rfl rfl) (fun hc4 => ?_) (fun hc4 => ?_)
 ·skip
  refine wp_seq ?_
  refine wp_region_lit ?_
  refine w_mv (ev (.int .i64 0) rfl rfl) ?_
  refine w_val (v := .bool true) (y_bin (ev (.int .i64 0) rfl rfl) (evc (.int .i64 0)) b_eql) ?_
  refine w_mv (ev (.bool true) rfl rfl) ?_
  first | with_reducible refine w_skip ?_ ?_ | refine w_skip ?_ ?_
  · exact want_no (j := 2) rfl rfl (ev (.bool true) rfl rfl) rfl
  first | with_reducible refine w_skip ?_ ?_ | refine w_skip ?_ ?_
  · exact want_no (j := 2) rfl rfl (ev (.bool true) rfl rfl) rfl
  first | with_reducible refine w_skip ?_ ?_ | refine w_skip ?_ ?_
  · exact want_no (j := 2) rfl rfl (ev (.bool true) rfl rfl) rfl
  refine w_val (v := .bool true) (y_pick_t (ev (.bool true) rfl rfl) (evc (.bool true))) ?_
  refine w_as (ev (.bool true) rfl rfl) ?_
  refine wpList_nil ?_
  refine then_n ?_
  refine wp_ret ?_
  refine then_r ?_
  refine fin_ret1 rfl (ev (.bool true) rfl rfl) ?_
  exact ⟨rfl, hk⟩
 ·skip
  refine wp_skip ?_
  refine then_n ?_
  refine wp_seq ?_
  refine wp_region_lit ?_
  refine w_as (evc (.string (str ([] : List (BitVec 8))))) ?_
  refine wpList_nil ?_
  refine then_n ?_
  refine wp_seq ?_
  refine wp_seq ?_
  refine wp_region_lit ?_
  refine w_mv (ev (.slice (some ⟨g, off, none⟩) n cap) rfl rfl) ?_
  refine w_val (v := .int .i64 ((n : Nat) : Int)) (y_len_sl (ev (.slice (some ⟨g, off, none⟩) n cap) rfl rfl) Tryd.underlying45) ?_
  refine w_mv (evc (.int .i64 0)) ?_
  refine wpList_nil ?_
  refine then_n ?_
  refine wp_block ?_
  refine c_loop (fun dN aN wl => ∃ (i : Nat) (A : List (BitVec 8)), dN = (n - i) ∧ ∃ f5, aN = fr 88 f5 ∧ (i ≤ n) ∧ (A.length ≤ 10000) ∧ f5 0 = .int .i64 ((kind : Nat) : Int) ∧ f5 1 = .slice (some ⟨g, off, none⟩) n cap ∧ f5 5 = pt p 0 ∧ f5 6 = .int .i64 0 ∧ f5 7 = .string (str A) ∧ f5 35 = .int .i64 ((n : Nat) : Int) ∧ f5 36 = .int .i64 ((i : Nat) : Int) ∧ Sha.Tabs wl ∧ Sha.At wl p kind A ∧ Below w0.heap.size w0 wl) (n - 0) ?_ ?_
  · exact ⟨0, [], rfl, _, rfl, (by first | omega | with_reducible rfl | assumption | trivial | exact ⟨rfl, rfl⟩ | simp), (by decide), rfl, rfl, rfl, rfl, (Eq.trans (b := .string (str ([] : List (BitVec 8)))) rfl (by rfl)), rfl, (Eq.trans (b := .int .i64 0) rfl (by first | with_reducible rfl | (with_reducible congr 1 <;> omega) | (with_reducible congr 2 <;> omega) | (with_reducible congr 3 <;> omega) | rfl)), hT, ha, hk⟩
  ·skip
   clear hT ha hk
   rintro _ _ w6 ⟨i, A, rfl, f5, rfl, i1_0, i1_1, s1_0, s1_1, s1_5, s1_6, s1_7, s1_35, s1_36, hT, ha, hk⟩
   refine wp_seq ?_
   refine wp_region_lit ?_
   refine w_val (v := .bool (decide (((i : Nat) : Int) < ((n : Nat) : Int)))) (y_bin (ev (.int .i64 ((i : Nat) : Int)) s1_36 rfl) (ev (.int .i64 ((n : Nat) : Int)) s1_35 rfl) b_lss) ?_
   refine wpList_nil ?_
   refine then_n ?_
   refine wp_seq ?_
   refine c_if (p := ((i : Nat) : Int) < ((n : Nat) : Int)) (ev (.bool (decide (((i : Nat) : Int) < ((n : Nat) : Int)))) rfl rfl) (fun hc7 => ?_) (fun hc7 => ?_)
   ·skip
    refine wp_skip ?_
    refine then_n ?_
    refine wp_seq ?_
    refine wp_block ?_
    refine wp_seq ?_
    refine wp_region_lit ?_
    refine w_mv (ev (.int .i64 ((i : Nat) : Int)) s1_36 rfl) ?_
    refine w_as (ev (.int .i64 ((i : Nat) : Int)) rfl rfl) ?_
    refine wpList_nil ?_
    refine then_n ?_
    refine wp_seq ?_
    refine wp_seq ?_
    refine wp_region_lit ?_
    refine w_mv (ev (.string (str A)) s1_7 rfl) ?_
    refine w_val (v := .int .i64 ((A.length : Nat) : Int)) (y_len (ev (.string (str A)) rfl rfl) Tryd.underlying9) ?_
    refine w_val (v := .bool (decide (5000 < ((A.length : Nat) : Int)))) (y_bin (ev (.int .i64 ((A.length : Nat) : Int)) rfl rfl) (evc (.int .i64 5000)) b_gtr) ?_
    refine w_mv (ev (.bool (decide (5000 < ((A.length : Nat) : Int)))) rfl rfl) ?_
    by_cases hc8 : 5000 < ((A.length : Nat) : Int)
    ·skip
     first | with_reducible refine w_skip ?_ ?_ | refine w_skip ?_ ?_
     · exact want_no (j := 3) rfl rfl (ev (.bool true) (Eq.trans (b := .bool (decide (5000 < ((A.length : Nat) : Int)))) rfl (by rw [decide_eq_true hc8])) rfl) rfl
     first | with_reducible refine w_skip ?_ ?_ | refine w_skip ?_ ?_
     · exact want_no (j := 3) rfl rfl (ev (.bool true) (Eq.trans (b := .bool (decide (5000 < ((A.length : Nat) : Int)))) rfl (by rw [decide_eq_true hc8])) rfl) rfl
     first | with_reducible refine w_skip ?_ ?_ | refine w_skip ?_ ?_
     · exact want_no (j := 3) rfl rfl (ev (.bool true) (Eq.trans (b := .bool (decide (5000 < ((A.length : Nat) : Int)))) rfl (by rw [decide_eq_true hc8])) rfl) rfl
     first | with_reducible refine w_skip ?_ ?_ | refine w_skip ?_ ?_
     · exact want_no (j := 3) rfl rfl (ev (.bool true) (Eq.trans (b := .bool (decide (5000 < ((A.length : Nat) : Int)))) rfl (by rw [decide_eq_true hc8])) rfl) rfl
     first | with_reducible refine w_skip ?_ ?_ | refine w_skip ?_ ?_
     · exact want_no (j := 3) rfl rfl (ev (.bool true) (Eq.trans (b := .bool (decide (5000 < ((A.length : Nat) : Int)))) rfl (by rw [decide_eq_true hc8])) rfl) rfl
     first | with_reducible refine w_skip ?_ ?_ | refine w_skip ?_ ?_
     · exact want_no (j := 3) rfl rfl (ev (.bool true) (Eq.trans (b := .bool (decide (5000 < ((A.length : Nat) : Int)))) rfl (by rw [decide_eq_true hc8])) rfl) rfl
     refine w_val (v := .bool true) (y_pick_t (ev (.bool true) (Eq.trans (b := .bool (decide (5000 < ((A.length : Nat) : Int)))) rfl (by rw [decide_eq_true hc8])) rfl) (evc (.bool true))) ?_
     refine wpList_nil ?_
     refine then_n ?_
     refine c_tt (ev (.bool true) rfl rfl) ?_
     refine wp_seq ?_
     refine wp_region_lit ?_
     refine w_as (evc (.bool true)) ?_
     refine wpList_nil ?_
     refine then_n ?_
     refine wp_ret ?_
     refine then_r ?_
     refine inb_r ?_
     refine then_r ?_
     refine then_r ?_
     refine inb_r ?_
     refine then_r ?_
     refine fin_ret1 rfl (ev (.bool true) rfl rfl) ?_
     exact ⟨rfl, hk⟩
    ·skip
     refine w_val_g (v := .slice (some ⟨g, off, none⟩) n cap) (want_yes (j := 3) rfl rfl (ev (.bool false) (Eq.trans (b := .bool (decide (5000 < ((A.length : Nat) : Int)))) rfl (by rw [decide_eq_false hc8])) rfl) rfl) (y_mv (ev (.slice (some ⟨g, off, none⟩) n cap) s1_1 rfl)) ?_
     refine w_val_g (v := .int .i64 ((i : Nat) : Int)) (want_yes (j := 3) rfl rfl (ev (.bool false) (Eq.trans (b := .bool (decide (5000 < ((A.length : Nat) : Int)))) rfl (by rw [decide_eq_false hc8])) rfl) rfl) (y_mv (ev (.int .i64 ((i : Nat) : Int)) rfl rfl)) ?_
     refine w_val_g (v := pt g (off + i)) (want_yes (j := 3) rfl rfl (ev (.bool false) (Eq.trans (b := .bool (decide (5000 < ((A.length : Nat) : Int)))) rfl (by rw [decide_eq_false hc8])) rfl) rfl) (y_off (y_is1 (i := i) (ev (.slice (some ⟨g, off, none⟩) n cap) rfl rfl) (ev (.int .i64 ((i : Nat) : Int)) rfl rfl) Tryd.underlying45 ShaWPiecesT.sz9 (by omega) (by omega)) (by first | rfl | omega)) ?_
     refine w_val_g (v := .string (str (l i))) (want_yes (j := 3) rfl rfl (ev (.bool false) (Eq.trans (b := .bool (decide (5000 < ((A.length : Nat) : Int)))) rfl (by rw [decide_eq_false hc8])) rfl) rfl) (y_ld (ev (pt g (off + i)) rfl rfl) ShaWPiecesT.sc9 ((hk.cell (p := ⟨g, (off + i), none⟩) hgl).trans (hl i (by omega)))) ?_
     refine w_val_g (v := .int .i64 (((l i).length : Nat) : Int)) (want_yes (j := 3) rfl rfl (ev (.bool false) (Eq.trans (b := .bool (decide (5000 < ((A.length : Nat) : Int)))) rfl (by rw [decide_eq_false hc8])) rfl) rfl) (y_len (ev (.string (str (l i))) rfl rfl) Tryd.underlying9) ?_
     refine w_val_g (v := .bool (decide (5000 < (((l i).length : Nat) : Int)))) (want_yes (j := 3) rfl rfl (ev (.bool false) (Eq.trans (b := .bool (decide (5000 < ((A.length : Nat) : Int)))) rfl (by rw [decide_eq_false hc8])) rfl) rfl) (y_bin (ev (.int .i64 (((l i).length : Nat) : Int)) rfl rfl) (evc (.int .i64 5000)) b_gtr) ?_
     refine w_val (v := .bool (decide (5000 < (((l i).length : Nat) : Int)))) (y_pick_f (ev (.bool false) (Eq.trans (b := .bool (decide (5000 < ((A.length : Nat) : Int)))) rfl (by rw [decide_eq_false hc8])) rfl) (ev (.bool (decide (5000 < (((l i).length : Nat) : Int)))) rfl rfl)) ?_
     refine wpList_nil ?_
     refine then_n ?_
     refine c_if (p := 5000 < (((l i).length : Nat) : Int)) (ev (.bool (decide (5000 < (((l i).length : Nat) : Int)))) rfl rfl) (fun hc9 => ?_) (fun hc9 => ?_)
     ·skip
      refine wp_seq ?_
      refine wp_region_lit ?_
      refine w_as (evc (.bool true)) ?_
      refine wpList_nil ?_
      refine then_n ?_
      refine wp_ret ?_
      refine then_r ?_
      refine inb_r ?_
      refine then_r ?_
      refine then_r ?_
      refine inb_r ?_
      refine then_r ?_
      refine fin_ret1 rfl (ev (.bool true) rfl rfl) ?_
      exact ⟨rfl, hk⟩
     ·skip
      refine wp_skip ?_
      refine then_n ?_
      refine wp_seq ?_
      refine wp_seq ?_
      refine wp_region_lit ?_
      refine w_mv (ev (pt p 0) s1_5 rfl) ?_
      refine w_mv (ev (.slice (some ⟨g, off, none⟩) n cap) s1_1 rfl) ?_
      refine w_mv (ev (.int .i64 ((i : Nat) : Int)) rfl rfl) ?_
      refine w_val (v := pt g (off + i)) (y_off (y_is1 (i := i) (ev (.slice (some ⟨g, off, none⟩) n cap) rfl rfl) (ev (.int .i64 ((i : Nat) : Int)) rfl rfl) Tryd.underlying45 ShaWPiecesT.sz9 (by omega) (by omega)) (by first | rfl | omega)) ?_
      refine w_val (v := .string (str (l i))) (y_ld (ev (pt g (off + i)) rfl rfl) ShaWPiecesT.sc9 ((hk.cell (p := ⟨g, (off + i), none⟩) hgl).trans (hl i (by omega)))) ?_
      have hw_ := ha
      clear ha
      refine w_call (Tryd.func24) (by kernel_rfl) rfl (m2 (ev (pt p 0) rfl rfl) (ev (.string (str (l i))) rfl rfl)) (write_l kind A (l i) w6 p (by omega) hkd (by omega) hw_ hT) ?_
      rintro _ w10 ⟨rfl, ha, hgw⟩
      refine ⟨_, rfl, ?_⟩
      replace hk := thenG hk hgw (by omega)
      replace hT := Sha.Tabs.grown hT hgw (by omega) (by omega)
      refine w_val (v := .bool false) (y_bin (ev (.int .i64 0) rfl rfl) (evc (.int .i64 0)) b_neq) ?_
      refine wpList_nil ?_
      refine then_n ?_
      refine c_ff (ev (.bool false) rfl rfl) ?_
      refine wp_skip ?_
      refine then_n ?_
      refine wp_seq ?_
      refine wp_region_lit ?_
      refine w_mv (ev (.string (str A)) s1_7 rfl) ?_
      refine w_mv (ev (.slice (some ⟨g, off, none⟩) n cap) s1_1 rfl) ?_
      refine w_mv (ev (.int .i64 ((i : Nat) : Int)) rfl rfl) ?_
      refine w_val (v := pt g (off + i)) (y_off (y_is1 (i := i) (ev (.slice (some ⟨g, off, none⟩) n cap) rfl rfl) (ev (.int .i64 ((i : Nat) : Int)) rfl rfl) Tryd.underlying45 ShaWPiecesT.sz9 (by omega) (by omega)) (by first | rfl | omega)) ?_
      refine w_val (v := .string (str (l i))) (y_ld (ev (pt g (off + i)) rfl rfl) ShaWPiecesT.sc9 ((hk.cell (p := ⟨g, (off + i), none⟩) hgl).trans (hl i (by omega)))) ?_
      refine w_val (v := .string (str (A ++ (l i)))) (y_bin (ev (.string (str A)) rfl rfl) (ev (.string (str (l i))) rfl rfl) (b_cat (by (try simp only [List.length_append]); omega))) ?_
      refine w_as (ev (.string (str (A ++ (l i)))) rfl rfl) ?_
      refine wpList_nil ?_
      refine then_n ?_
      refine wp_region_lit ?_
      refine w_mv (ev (pt p 0) s1_5 rfl) ?_
      refine w_call (Tryd.func23) (by kernel_rfl) rfl (m1 (ev (pt p 0) rfl rfl)) (sum_l kind (A ++ (l i)) w10 p (by omega) hkd (by (try simp only [List.nil_append, List.length_append, List.length_nil]); omega) ha hT) ?_
      rintro _ w11 ⟨rfl, hb12⟩
      refine ⟨_, rfl, ?_⟩
      replace hk := thenB hk hb12
      replace hT := Sha.Tabs.below hT hb12
      replace ha := Sha.At.below ha hb12
      refine wpList_nil ?_
      refine inb_n ?_
      refine then_n ?_
      refine wp_region_lit ?_
      refine w_val (v := .int .i64 (((i : Nat) : Int) + 1)) (y_bin (ev (.int .i64 ((i : Nat) : Int)) s1_36 rfl) (evc (.int .i64 1)) (b_add (by omega))) ?_
      refine w_mv (ev (.int .i64 (((i : Nat) : Int) + 1)) rfl rfl) ?_
      refine wpList_nil ?_
      exact then_n ⟨_, (by omega), i + 1, A ++ l i, rfl, _, rfl, (by first | omega | with_reducible rfl | assumption | trivial | simp), (by rw [List.length_append]; omega), s1_0, s1_1, s1_5, s1_6, (Eq.trans (b := .string (str (A ++ (l i)))) rfl (by rfl)), s1_35, (Eq.trans (b := .int .i64 (((i : Nat) : Int) + 1)) rfl (by first | with_reducible rfl | (with_reducible congr 1 <;> omega) | (with_reducible congr 2 <;> omega) | (with_reducible congr 3 <;> omega) | rfl)), hT, ha, hk⟩
   ·skip
    refine wp_exit ?_
    refine then_x ?_
    refine then_x ?_
    refine inb_x ?_
    refine then_n ?_
    refine wp_seq ?_
    refine wp_region_lit ?_
    refine w_mv (ev (pt p 0) s1_5 rfl) ?_
    refine w_call (Tryd.func23) (by kernel_rfl) rfl (m1 (ev (pt p 0) rfl rfl)) (sum_l kind A w6 p (by omega) hkd (by (try simp only [List.nil_append, List.length_append, List.length_nil]); omega) ha hT) ?_
    rintro _ w13 ⟨rfl, hb14⟩
    refine ⟨_, rfl, ?_⟩
    replace hk := thenB hk hb14
    replace hT := Sha.Tabs.below hT hb14
    replace ha := Sha.At.below ha hb14
    refine w_mv (ev (.tuple #[.string (str (Sha.sum kind A)), .int .i64 0]) rfl rfl) ?_
    refine w_val (v := .string (str (Sha.sum kind A))) (y_ext (v := .string (str (Sha.sum kind A))) (ev (.tuple #[.string (str (Sha.sum kind A)), .int .i64 0]) rfl rfl) rfl) ?_
    refine w_val (v := .int .i64 0) (y_ext (v := .int .i64 0) (ev (.tuple #[.string (str (Sha.sum kind A)), .int .i64 0]) rfl rfl) rfl) ?_
    refine w_as (ev (.string (str (Sha.sum kind A))) rfl rfl) ?_
    refine w_as (ev (.int .i64 0) rfl rfl) ?_
    refine wpList_nil ?_
    refine then_n ?_
    refine wp_seq ?_
    refine wp_region_lit ?_
    refine w_mv (ev (.int .i64 ((kind : Nat) : Int)) s1_0 rfl) ?_
    refine w_mv (ev (.string (str A)) s1_7 rfl) ?_
    refine w_call (Tryd.func18) (by kernel_rfl) rfl (m2 (ev (.int .i64 ((kind : Nat) : Int)) rfl rfl) (ev (.string (str A)) rfl rfl)) (refText_l kind hkd A (by omega) w13 ) ?_
    rintro _ w15 ⟨rfl, hb16⟩
    refine ⟨_, rfl, ?_⟩
    replace hk := thenB hk hb16
    replace hT := Sha.Tabs.below hT hb16
    replace ha := Sha.At.below ha hb16
    refine w_mv (ev (.tuple #[.string (str (Sha.sum kind A)), .int .i64 0]) rfl rfl) ?_
    refine w_val (v := .string (str (Sha.sum kind A))) (y_ext (v := .string (str (Sha.sum kind A))) (ev (.tuple #[.string (str (Sha.sum kind A)), .int .i64 0]) rfl rfl) rfl) ?_
    refine w_val (v := .int .i64 0) (y_ext (v := .int .i64 0) (ev (.tuple #[.string (str (Sha.sum kind A)), .int .i64 0]) rfl rfl) rfl) ?_
    refine w_as (ev (.string (str (Sha.sum kind A))) rfl rfl) ?_
    refine w_as (ev (.int .i64 0) rfl rfl) ?_
    refine wpList_nil ?_
    refine then_n ?_
    refine wp_seq ?_
    refine wp_region_lit ?_
    refine w_mv (ev (.string (str (Sha.sum kind A))) rfl rfl) ?_
    refine w_mv (ev (.string (str (Sha.sum kind A))) rfl rfl) ?_
    refine w_val (v := .bool true) (y_bin (ev (.string (str (Sha.sum kind A))) rfl rfl) (ev (.string (str (Sha.sum kind A))) rfl rfl) b_eqs_same) ?_
    refine w_mv (ev (.bool true) rfl rfl) ?_
    refine w_val_g (v := .int .i64 0) (want_yes (j := 3) rfl rfl (ev (.bool true) rfl rfl) rfl) (y_mv (ev (.int .i64 0) rfl rfl)) ?_
    refine w_val_g (v := .bool true) (want_yes (j := 3) rfl rfl (ev (.bool true) rfl rfl) rfl) (y_bin (ev (.int .i64 0) rfl rfl) (evc (.int .i64 0)) b_eql) ?_
    refine w_val (v := .bool true) (y_pick_t (ev (.bool true) rfl rfl) (ev (.bool true) rfl rfl)) ?_
    refine w_mv (ev (.bool true) rfl rfl) ?_
    refine w_val_g (v := .int .i64 0) (want_yes (j := 7) rfl rfl (ev (.bool true) rfl rfl) rfl) (y_mv (ev (.int .i64 0) rfl rfl)) ?_
    refine w_val_g (v := .bool true) (want_yes (j := 7) rfl rfl (ev (.bool true) rfl rfl) rfl) (y_bin (ev (.int .i64 0) rfl rfl) (evc (.int .i64 0)) b_eql) ?_
    refine w_val (v := .bool true) (y_pick_t (ev (.bool true) rfl rfl) (ev (.bool true) rfl rfl)) ?_
    refine w_as (ev (.bool true) rfl rfl) ?_
    refine wpList_nil ?_
    refine then_n ?_
    refine wp_ret ?_
    refine fin_ret1 rfl (ev (.bool true) rfl rfl) ?_
    exact ⟨rfl, hk⟩

set_option maxRecDepth 100000 in
set_option maxHeartbeats 1000000 in
theorem shaPieces_0 (kind : Nat) (hkd : Sha.Known kind) (w0 : World) (hT : Sha.Tabs w0) : Calls Tryd.prog 5 #[.int .i64 ((kind : Nat) : Int), .slice none 0 0] w0 fun e w' => e = .returned (.bool true) ∧ Below w0.heap.size w0 w' := by
 have hT0 := hT.lt
 refine enter (n := 88) Tryd.func5 rfl rfl rfl ?_
 have hk : Below w0.heap.size w0 w0 := Below.refl _ _
 refine wp_seq ?_
 refine wp_region_lit ?_
 refine w_as (evc (.bool false)) ?_
 refine wpList_nil ?_
 refine then_n ?_
 refine wp_seq ?_
 refine wp_region_lit ?_
 refine w_mv (ev (.int .i64 ((kind : Nat) : Int)) rfl rfl) ?_
 refine w_call (Tryd.func20) (by kernel_rfl) rfl (m1 (ev (.int .i64 ((kind : Nat) : Int)) rfl rfl)) (new_at kind w0 hkd) ?_
 rintro _ w1 ⟨p, rfl, hge_p, ha, hb_p⟩
 refine ⟨_, rfl, ?_⟩
 have ge_p : w0.heap.size ≤ p := by have := hk.size; omega
 replace hk := thenB hk hb_p
 replace hT := Sha.Tabs.below hT hb_p
 refine w_mv (ev (.tuple #[pt p 0, .int .i64 0]) rfl rfl) ?_
 refine w_val (v := pt p 0) (y_ext (v := pt p 0) (ev (.tuple #[pt p 0, .int .i64 0]) rfl rfl) rfl) ?_
 refine w_val (v := .int .i64 0) (y_ext (v := .int .i64 0) (ev (.tuple #[pt p 0, .int .i64 0]) rfl rfl) rfl) ?_
 refine w_as (ev (pt p 0) rfl rfl) ?_
 refine w_as (ev (.int .i64 0) rfl rfl) ?_
 refine wpList_nil ?_
 refine then_n ?_
 refine wp_seq ?_
 refine wp_seq ?_
 refine wp_region_lit ?_
 refine w_call (Tryd.func16) (by kernel_rfl) rfl m0 (shaWakes_c w1 hT) ?_
 rintro _ w2 ⟨rfl, hb3⟩
 refine ⟨_, rfl, ?_⟩
 replace hk := thenB hk hb3
 replace hT := Sha.Tabs.below hT hb3
 replace ha := Sha.At.below ha hb3
 refine w_val (v := .bool false) (y_not (ev (.bool true) rfl rfl)) ?_
 refine wpList_nil ?_
 refine then_n ?_
 refine c_ff (ev (.bool false) rfl rfl) ?_
 refine wp_skip ?_
 refine then_n ?_
 refine wp_seq ?_
 refine wp_seq ?_
 refine wp_region_lit ?_
 refine w_mv (ev (.int .i64 0) rfl rfl) ?_
 refine w_val (v := .bool false) (y_bin (ev (.int .i64 0) rfl rfl) (evc (.int .i64 0)) b_neq) ?_
 refine w_mv (ev (.bool false) rfl rfl) ?_
 refine w_val_g (v := .slice none 0 0) (want_yes (j := 2) rfl rfl (ev (.bool false) rfl rfl) rfl) (y_mv (ev (.slice none 0 0) rfl rfl)) ?_
 refine w_val_g (v := .int .i64 0) (want_yes (j := 2) rfl rfl (ev (.bool false) rfl rfl) rfl) (y_len_sl (ev (.slice none 0 0) rfl rfl) Tryd.underlying45) ?_
 refine w_val_g (v := .bool false) (want_yes (j := 2) rfl rfl (ev (.bool false) rfl rfl) rfl) (y_bin (ev (.int .i64 0) rfl rfl) (evc (.int .i64 1000)) b_gtr) ?_
 refine w_val (v := .bool false) (y_pick_f (ev (.bool false) rfl rfl) (ev (.bool false) rfl rfl)) ?_
 refine wpList_nil ?_
 refine then_n ?_
 refine c_ff (ev (.bool false) rfl rfl) ?_
 refine wp_skip ?_
 refine then_n ?_
 refine wp_seq ?_
 refine wp_region_lit ?_
 refine w_as (evc (.string (str ([] : List (BitVec 8))))) ?_
 refine wpList_nil ?_
 refine then_n ?_
 refine wp_seq ?_
 refine wp_seq ?_
 refine wp_region_lit ?_
 refine w_mv (ev (.slice none 0 0) rfl rfl) ?_
 refine w_val (v := .int .i64 0) (y_len_sl (ev (.slice none 0 0) rfl rfl) Tryd.underlying45) ?_
 refine w_mv (evc (.int .i64 0)) ?_
 refine wpList_nil ?_
 refine then_n ?_
 refine wp_block ?_
 refine c_loop (fun dN aN wl => dN = 0 ∧ ∃ f4, aN = fr 88 f4 ∧ f4 0 = .int .i64 ((kind : Nat) : Int) ∧ f4 1 = .slice none 0 0 ∧ f4 5 = pt p 0 ∧ f4 6 = .int .i64 0 ∧ f4 7 = .string (str ([] : List (BitVec 8))) ∧ f4 35 = .int .i64 0 ∧ f4 36 = .int .i64 0 ∧ Sha.Tabs wl ∧ Sha.At wl p kind ([]) ∧ Below w0.heap.size w0 wl) 0 ?_ ?_
 · exact ⟨rfl, _, rfl, rfl, rfl, rfl, rfl, rfl, rfl, rfl, hT, ha, hk⟩
 ·skip
  clear hT ha hk
  rintro _ _ w5 ⟨rfl, f4, rfl, s1_0, s1_1, s1_5, s1_6, s1_7, s1_35, s1_36, hT, ha, hk⟩
  refine wp_seq ?_
  refine wp_region_lit ?_
  refine w_val (v := .bool false) (y_bin (ev (.int .i64 0) s1_36 rfl) (ev (.int .i64 0) s1_35 rfl) b_lss) ?_
  refine wpList_nil ?_
  refine then_n ?_
  refine wp_seq ?_
  refine c_ff (ev (.bool false) rfl rfl) ?_
  refine wp_exit ?_
  refine then_x ?_
  refine then_x ?_
  refine inb_x ?_
  refine then_n ?_
  refine wp_seq ?_
  refine wp_region_lit ?_
  refine w_mv (ev (pt p 0) s1_5 rfl) ?_
  refine w_call (Tryd.func23) (by kernel_rfl) rfl (m1 (ev (pt p 0) rfl rfl)) (sum_l kind ([]) w5 p (by omega) hkd (by (try simp only [List.nil_append, List.length_append, List.length_nil]); omega) ha hT) ?_
  rintro _ w6 ⟨rfl, hb7⟩
  refine ⟨_, rfl, ?_⟩
  replace hk := thenB hk hb7
  replace hT := Sha.Tabs.below hT hb7
  replace ha := Sha.At.below ha hb7
  refine w_mv (ev (.tuple #[.string (str (Sha.sum kind ([]))), .int .i64 0]) rfl rfl) ?_
  refine w_val (v := .string (str (Sha.sum kind ([])))) (y_ext (v := .string (str (Sha.sum kind ([])))) (ev (.tuple #[.string (str (Sha.sum kind ([]))), .int .i64 0]) rfl rfl) rfl) ?_
  refine w_val (v := .int .i64 0) (y_ext (v := .int .i64 0) (ev (.tuple #[.string (str (Sha.sum kind ([]))), .int .i64 0]) rfl rfl) rfl) ?_
  refine w_as (ev (.string (str (Sha.sum kind ([])))) rfl rfl) ?_
  refine w_as (ev (.int .i64 0) rfl rfl) ?_
  refine wpList_nil ?_
  refine then_n ?_
  refine wp_seq ?_
  refine wp_region_lit ?_
  refine w_mv (ev (.int .i64 ((kind : Nat) : Int)) s1_0 rfl) ?_
  refine w_mv (ev (.string (str ([] : List (BitVec 8)))) s1_7 rfl) ?_
  refine w_call (Tryd.func18) (by kernel_rfl) rfl (m2 (ev (.int .i64 ((kind : Nat) : Int)) rfl rfl) (ev (.string (str ([] : List (BitVec 8)))) rfl rfl)) (refText_l kind hkd ([] : List (BitVec 8)) (by decide) w6 ) ?_
  rintro _ w8 ⟨rfl, hb9⟩
  refine ⟨_, rfl, ?_⟩
  replace hk := thenB hk hb9
  replace hT := Sha.Tabs.below hT hb9
  replace ha := Sha.At.below ha hb9
  refine w_mv (ev (.tuple #[.string (str (Sha.sum kind ([] : List (BitVec 8)))), .int .i64 0]) rfl rfl) ?_
  refine w_val (v := .string (str (Sha.sum kind ([] : List (BitVec 8))))) (y_ext (v := .string (str (Sha.sum kind ([] : List (BitVec 8))))) (ev (.tuple #[.string (str (Sha.sum kind ([] : List (BitVec 8)))), .int .i64 0]) rfl rfl) rfl) ?_
  refine w_val (v := .int .i64 0) (y_ext (v := .int .i64 0) (ev (.tuple #[.string (str (Sha.sum kind ([] : List (BitVec 8)))), .int .i64 0]) rfl rfl) rfl) ?_
  refine w_as (ev (.string (str (Sha.sum kind ([] : List (BitVec 8))))) rfl rfl) ?_
  refine w_as (ev (.int .i64 0) rfl rfl) ?_
  refine wpList_nil ?_
  refine then_n ?_
  refine wp_seq ?_
  refine wp_region_lit ?_
  refine w_mv (ev (.string (str (Sha.sum kind ([])))) rfl rfl) ?_
  refine w_mv (ev (.string (str (Sha.sum kind ([] : List (BitVec 8))))) rfl rfl) ?_
  refine w_val (v := .bool (decide ((Sha.sum kind ([])) = (Sha.sum kind ([] : List (BitVec 8)))))) (y_bin (ev (.string (str (Sha.sum kind ([])))) rfl rfl) (ev (.string (str (Sha.sum kind ([] : List (BitVec 8))))) rfl rfl) b_eqs) ?_
  refine w_mv (ev (.bool (decide ((Sha.sum kind ([])) = (Sha.sum kind ([] : List (BitVec 8)))))) rfl rfl) ?_
  have hc10 : (Sha.sum kind ([])) = (Sha.sum kind ([] : List (BitVec 8))) := by rfl
  refine w_val_g (v := .int .i64 0) (want_yes (j := 3) rfl rfl (ev (.bool true) (Eq.trans (b := .bool (decide ((Sha.sum kind ([])) = (Sha.sum kind ([] : List (BitVec 8)))))) rfl (by rw [decide_eq_true hc10])) rfl) rfl) (y_mv (ev (.int .i64 0) rfl rfl)) ?_
  refine w_val_g (v := .bool true) (want_yes (j := 3) rfl rfl (ev (.bool true) (Eq.trans (b := .bool (decide ((Sha.sum kind ([])) = (Sha.sum kind ([] : List (BitVec 8)))))) rfl (by rw [decide_eq_true hc10])) rfl) rfl) (y_bin (ev (.int .i64 0) rfl rfl) (evc (.int .i64 0)) b_eql) ?_
  refine w_val (v := .bool true) (y_pick_t (ev (.bool true) (Eq.trans (b := .bool (decide ((Sha.sum kind ([])) = (Sha.sum kind ([] : List (BitVec 8)))))) rfl (by rw [decide_eq_true hc10])) rfl) (ev (.bool true) rfl rfl)) ?_
  refine w_mv (ev (.bool true) rfl rfl) ?_
  refine w_val_g (v := .int .i64 0) (want_yes (j := 7) rfl rfl (ev (.bool true) rfl rfl) rfl) (y_mv (ev (.int .i64 0) rfl rfl)) ?_
  refine w_val_g (v := .bool true) (want_yes (j := 7) rfl rfl (ev (.bool true) rfl rfl) rfl) (y_bin (ev (.int .i64 0) rfl rfl) (evc (.int .i64 0)) b_eql) ?_
  refine w_val (v := .bool true) (y_pick_t (ev (.bool true) rfl rfl) (ev (.bool true) rfl rfl)) ?_
  refine w_as (ev (.bool true) rfl rfl) ?_
  refine wpList_nil ?_
  refine then_n ?_
  refine wp_ret ?_
  refine fin_ret1 rfl (ev (.bool true) rfl rfl) ?_
  exact ⟨rfl, hk⟩

theorem walk_ShaPieces (k : Int) (hw : (Lit.int .i64 k).wf = true) (g off n cap : Nat) (hn : n ≤ 140737488351232) (l : Nat → List (BitVec 8)) (w : World) (hT : Sha.Tabs w) (hgl : g < w.heap.size) (hl : ∀ i, i < n → w.cell? ⟨g, off + i, none⟩ = some (.string (str (l i)))) : Calls Tryd.prog 5 #[.int .i64 k, .slice (some ⟨g, off, none⟩) n cap] w fun e w' => e = .returned (.bool true) ∧ Below w.heap.size w w' := by
  by_cases k1 : k = 256
  · subst k1; exact shaPieces_y 256 (.inl rfl) g off n cap hn l w hgl hl hT
  by_cases k2 : k = 384
  · subst k2; exact shaPieces_y 384 (.inr (.inl rfl)) g off n cap hn l w hgl hl hT
  by_cases k3 : k = 512
  · subst k3; exact shaPieces_y 512 (.inr (.inr rfl)) g off n cap hn l w hgl hl hT
  exact shaPieces_n k k1 k2 k3 (.slice (some ⟨g, off, none⟩) n cap) w hT

theorem walk_ShaPieces_nil (k : Int) (hw : (Lit.int .i64 k).wf = true) (w : World) (hT : Sha.Tabs w) : Calls Tryd.prog 5 #[.int .i64 k, .slice none 0 0] w fun e w' => e = .returned (.bool true) ∧ Below w.heap.size w w' := by
  by_cases k1 : k = 256
  · subst k1; exact shaPieces_0 256 (.inl rfl) w hT
  by_cases k2 : k = 384
  · subst k2; exact shaPieces_0 384 (.inr (.inl rfl)) w hT
  by_cases k3 : k = 512
  · subst k3; exact shaPieces_0 512 (.inr (.inr rfl)) w hT
  exact shaPieces_n k k1 k2 k3 (.slice none 0 0) w hT
end Go.Proofs.YtieepglpejlkoaaDoor
