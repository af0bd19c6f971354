/-
  Digests with a key: writing, again, telling. Conditions as each says.
-/
import Derived.Test.YtieepglpejlkoaaDoorRows
import Derived.Test.YtieepglpejlkoaaDoorHmacA
import Derived.ProofKit
namespace Go.Proofs.YtieepglpejlkoaaDoor
open Go.RowKit
set_option linter.unusedSimpArgs false
set_option linter.unusedVariables false
namespace HmacBT
theorem mixed : Tryd.prog.follows .mixedOrders = true := by kernel_rfl
theorem fa65_0 (g off : Nat) : ∀ w, (Instr.fieldAt 65 (.pointer (some ⟨g, off, none⟩)) 0).run Tryd.prog w = .ok (.pointer (some ⟨g, off + 0, none⟩)) w := fun w => by kernel_rfl
theorem fa65_1 (g off : Nat) : ∀ w, (Instr.fieldAt 65 (.pointer (some ⟨g, off, none⟩)) 1).run Tryd.prog w = .ok (.pointer (some ⟨g, off + 1, none⟩)) w := fun w => by kernel_rfl
theorem fa65_2 (g off : Nat) : ∀ w, (Instr.fieldAt 65 (.pointer (some ⟨g, off, none⟩)) 2).run Tryd.prog w = .ok (.pointer (some ⟨g, off + 2, none⟩)) w := fun w => by kernel_rfl
theorem sc31 : (Tryd.prog.underlying 31).map scal = some true := by rw [Tryd.underlying31]; rfl
theorem sc5 : (Tryd.prog.underlying 5).map scal = some true := by rw [Tryd.underlying5]; rfl
theorem sz31 : (Tryd.prog.info? 31).map (·.size) = some 1 := by kernel_rfl
theorem sz5 : (Tryd.prog.info? 5).map (·.size) = some 1 := by kernel_rfl
end HmacBT
set_option maxRecDepth 100000 in
set_option maxHeartbeats 1000000 in
theorem macWrite_l (kind : Nat) (hkd : Sha.Known kind) (m pi po pn : Nat) (t s : List (BitVec 8)) (h1 : 0 < pn ∧ 1 < pn) (hs : s.length ≤ 140737488351232) (nm : m ≠ pn) (w0 : World) (r_m : Row w0 m 65 3 (fun j => if j < 1 then pt pi 0 else if j < 2 then pt po 0 else pt pn 0)) (hT : Sha.Tabs w0) (hn : Sha.At w0 pn kind t) : Calls Tryd.prog 31 #[pt m 0, .string (str s)] w0 fun e w' => e = .returned (.int .i64 0) ∧ Sha.At w' pn kind (t ++ s) ∧ w0.grownBy w' (some pn) := by
 have hT0 := hT.lt
 refine enter (n := 20) Tryd.func31 rfl rfl rfl ?_
 have hk : w0.grownBy w0 (some pn) := grown_refl _ _
 have lt_m := r_m.lt
 refine sr ?_
 refine w_as (evc (.int .i64 0)) ?_
 refine nt ?_
 refine wp_seq ?_
 refine sr ?_
 refine w_mv (ev (pt m 0) rfl rfl) ?_
 refine w_val (y_bin (ev (pt m 0) rfl rfl) (evc (.pointer none)) (b_eqp Tryd.underlying59)) ?_
 refine w_mv (ev (.bool false) rfl rfl) ?_
 refine w_val_g (v := pt m 0) (want_yes (j := 2) rfl rfl (ev (.bool false) rfl rfl) rfl) (y_mv (ev (pt m 0) rfl rfl)) ?_
 refine w_val_g (want_yes (j := 2) rfl rfl (ev (.bool false) rfl rfl) rfl) (y_nc (ev (pt m 0) rfl rfl)) ?_
 refine w_val_g (v := pt m 2) (want_yes (j := 2) rfl rfl (ev (.bool false) rfl rfl) rfl) (y_off (y_fa (ev (pt m 0) rfl rfl) (HmacBT.fa65_2 _ _)) (by first | rfl | omega)) ?_
 refine w_val_g (v := pt pn 0) (want_yes (j := 2) rfl rfl (ev (.bool false) rfl rfl) rfl) (y_ld (ev (pt m 2) rfl rfl) HmacBT.sc31 (r_m.val (by omega) ((if_neg (by omega)).trans ((if_neg (by omega)).trans (by first | with_reducible rfl | (with_reducible congr 1 <;> omega) | (with_reducible congr 2 <;> omega) | (with_reducible congr 3 <;> omega) | rfl))))) ?_
 refine w_val_g (want_yes (j := 2) rfl rfl (ev (.bool false) rfl rfl) rfl) (y_bin (ev (pt pn 0) rfl rfl) (evc (.pointer none)) (b_eqp Tryd.underlying31)) ?_
 refine w_val (y_pick_f (ev (.bool false) rfl rfl) (ev (.bool false) rfl rfl)) ?_
 refine nt ?_
 refine c_ff (ev (.bool false) rfl rfl) ?_
 refine wp_skip ?_
 refine then_n ?_
 refine sr ?_
 refine w_mv (ev (pt m 0) rfl rfl) ?_
 refine w_val (y_nc (ev (pt m 0) rfl rfl)) ?_
 refine w_val (v := pt m 2) (y_off (y_fa (ev (pt m 0) rfl rfl) (HmacBT.fa65_2 _ _)) (by first | rfl | omega)) ?_
 refine w_val (v := pt pn 0) (y_ld (ev (pt m 2) rfl rfl) HmacBT.sc31 (r_m.val (by omega) ((if_neg (by omega)).trans ((if_neg (by omega)).trans (by first | with_reducible rfl | (with_reducible congr 1 <;> omega) | (with_reducible congr 2 <;> omega) | (with_reducible congr 3 <;> omega) | rfl))))) ?_
 refine w_mv (ev (.string (str s)) rfl rfl) ?_
 have hw_ := hn
 clear hn
 refine w_call (Tryd.func24) (by kernel_rfl) rfl (m2 (ev (pt pn 0) rfl rfl) (ev (.string (str s)) rfl rfl)) (write_l kind t s w0 pn (by omega) hkd (by omega) hw_ hT) ?_
 rintro _ w1 ⟨rfl, hn, hgw⟩
 refine ⟨_, rfl, ?_⟩
 replace r_m := r_m.stepG hgw (by omega)
 replace hk := grown_thenG hk hgw (by omega)
 replace hT := Sha.Tabs.grown hT hgw (by omega) (by omega)
 refine w_as (ev (.int .i64 0) rfl rfl) ?_
 refine nt ?_
 refine wp_ret ?_
 refine fin_ret1 rfl (ev (.int .i64 0) rfl rfl) ?_
 exact ⟨rfl, hn, hk⟩

set_option maxRecDepth 100000 in
set_option maxHeartbeats 1000000 in
theorem macAgain_l (kind : Nat) (hkd : Sha.Known kind) (m pi po pn : Nat) (t : List (BitVec 8)) (h1 : 0 < pi ∧ 1 < pi) (h2 : 0 < m ∧ 1 < m) (nm : m ≠ pi) (w0 : World) (r_m : Row w0 m 65 3 (fun j => if j < 1 then pt pi 0 else if j < 2 then pt po 0 else pt pn 0)) (hT : Sha.Tabs w0) (hi : Sha.At w0 pi kind t) : Calls Tryd.prog 32 #[pt m 0] w0 fun e w' => ∃ pn', e = .returned (.int .i64 0) ∧ w0.heap.size ≤ pn' ∧ Row w' m 65 3 (fun j => if j < 1 then pt pi 0 else if j < 2 then pt po 0 else pt pn' 0) ∧ Sha.At w' pn' kind t ∧ w0.grownBy w' (some m) := by
 have hT0 := hT.lt
 refine enter (n := 20) Tryd.func32 rfl rfl rfl ?_
 have hk : w0.grownBy w0 (some m) := grown_refl _ _
 have lt_m := r_m.lt
 refine sr ?_
 refine w_as (evc (.int .i64 0)) ?_
 refine nt ?_
 refine wp_seq ?_
 refine sr ?_
 refine w_mv (ev (pt m 0) rfl rfl) ?_
 refine w_val (y_bin (ev (pt m 0) rfl rfl) (evc (.pointer none)) (b_eqp Tryd.underlying59)) ?_
 refine w_mv (ev (.bool false) rfl rfl) ?_
 refine w_val_g (v := pt m 0) (want_yes (j := 2) rfl rfl (ev (.bool false) rfl rfl) rfl) (y_mv (ev (pt m 0) rfl rfl)) ?_
 refine w_val_g (want_yes (j := 2) rfl rfl (ev (.bool false) rfl rfl) rfl) (y_nc (ev (pt m 0) rfl rfl)) ?_
 refine w_val_g (v := pt m 2) (want_yes (j := 2) rfl rfl (ev (.bool false) rfl rfl) rfl) (y_off (y_fa (ev (pt m 0) rfl rfl) (HmacBT.fa65_2 _ _)) (by first | rfl | omega)) ?_
 refine w_val_g (v := pt pn 0) (want_yes (j := 2) rfl rfl (ev (.bool false) rfl rfl) rfl) (y_ld (ev (pt m 2) rfl rfl) HmacBT.sc31 (r_m.val (by omega) ((if_neg (by omega)).trans ((if_neg (by omega)).trans (by first | with_reducible rfl | (with_reducible congr 1 <;> omega) | (with_reducible congr 2 <;> omega) | (with_reducible congr 3 <;> omega) | rfl))))) ?_
 refine w_val_g (want_yes (j := 2) rfl rfl (ev (.bool false) rfl rfl) rfl) (y_bin (ev (pt pn 0) rfl rfl) (evc (.pointer none)) (b_eqp Tryd.underlying31)) ?_
 refine w_val (y_pick_f (ev (.bool false) rfl rfl) (ev (.bool false) rfl rfl)) ?_
 refine nt ?_
 refine c_ff (ev (.bool false) rfl rfl) ?_
 refine wp_skip ?_
 refine then_n ?_
 refine sr ?_
 refine w_mv (ev (pt m 0) rfl rfl) ?_
 refine w_mv (ev (pt m 0) rfl rfl) ?_
 refine w_val (y_nc (ev (pt m 0) rfl rfl)) ?_
 refine w_val (v := pt m 0) (y_off (y_fa (ev (pt m 0) rfl rfl) (HmacBT.fa65_0 _ _)) (by first | rfl | omega)) ?_
 refine w_val (v := pt pi 0) (y_ld (ev (pt m 0) rfl rfl) HmacBT.sc31 (r_m.val (by omega) (etv (if_pos (by omega))))) ?_
 refine w_call (Tryd.func25) (by kernel_rfl) rfl (m1 (ev (pt pi 0) rfl rfl)) (copy_l kind t w0 pi (by omega) hkd hi) ?_
 rintro _ w1 ⟨pn', rfl, hge_pn', hn, hb_pn'⟩
 refine ⟨_, rfl, ?_⟩
 have ne_m_pn' : m ≠ pn' := by have := r_m.lt; omega
 have ne_pi_pn' : pi ≠ pn' := by have := hi.lt; omega
 have ge_pn' : w0.heap.size ≤ pn' := by have := hk.size; omega
 replace r_m := r_m.step hb_pn'
 replace hk := grown_thenB hk hb_pn'
 replace hT := Sha.Tabs.below hT hb_pn'
 replace hi := Sha.At.below hi hb_pn'
 refine w_val (y_nc (ev (pt m 0) rfl rfl)) ?_
 refine w_val (v := pt m 2) (y_off (y_fa (ev (pt m 0) rfl rfl) (HmacBT.fa65_2 _ _)) (by first | rfl | omega)) ?_
 refine w_st (v := pt pn' 0) (ev (pt m 2) rfl rfl) (ev (pt pn' 0) rfl rfl) rfl rfl HmacBT.sz31 r_m (by omega) ?_
 clear r_m; intro w2 r_m hg3 _
 replace hk := grown_thenG hk hg3 (by omega)
 replace hT := Sha.Tabs.grown hT hg3 (by omega) (by omega)
 replace hi := Sha.At.grown hi hg3 (by omega)
 replace hn := Sha.At.grown hn hg3 (by omega)
 refine nt ?_
 refine sr ?_
 refine w_as (evc (.int .i64 0)) ?_
 refine nt ?_
 refine wp_ret ?_
 refine fin_ret1 rfl (ev (.int .i64 0) rfl rfl) ?_
 exact ⟨pn', rfl, by omega, r_m.congr (fun j hj => by rcases (by omega : j = 0 ∨ j = 1 ∨ j = 2) with h | h | h <;> subst h <;> rfl), hn, hk⟩

set_option maxRecDepth 100000 in
set_option maxHeartbeats 1000000 in
theorem macSum_l (kind : Nat) (hkd : Sha.Known kind) (m pi po pn : Nat) (t u : List (BitVec 8)) (h1 : 0 < pn ∧ 1 < pn) (h2 : 0 < po ∧ 1 < po) (ht : t.length ≤ 1152921504606846976) (hu : u.length ≤ 128) (hne : po ≠ pn) (w0 : World) (r_m : Row w0 m 65 3 (fun j => if j < 1 then pt pi 0 else if j < 2 then pt po 0 else pt pn 0)) (hT : Sha.Tabs w0) (ho : Sha.At w0 po kind u) (hn : Sha.At w0 pn kind t) : Calls Tryd.prog 33 #[pt m 0] w0 fun e w' => e = .returned (.tuple #[.string (str (Sha.sum kind (u ++ (Sha.sum kind t)))), .int .i64 0]) ∧ Below w0.heap.size w0 w' := by
 have hT0 := hT.lt
 have hol := Sha.ol_lt kind
 have hls := fun x => Sha.length_sum kind x
 refine enter (n := 36) Tryd.func33 rfl rfl rfl ?_
 have hk : Below w0.heap.size w0 w0 := Below.refl _ _
 have lt_m := r_m.lt
 refine sr ?_
 refine w_as (evc (.string (str ([] : List (BitVec 8))))) ?_
 refine w_as (evc (.int .i64 0)) ?_
 refine nt ?_
 refine wp_seq ?_
 refine sr ?_
 refine w_mv (ev (pt m 0) rfl rfl) ?_
 refine w_val (y_bin (ev (pt m 0) rfl rfl) (evc (.pointer none)) (b_eqp Tryd.underlying59)) ?_
 refine w_mv (ev (.bool false) rfl rfl) ?_
 refine w_val_g (v := pt m 0) (want_yes (j := 2) rfl rfl (ev (.bool false) rfl rfl) rfl) (y_mv (ev (pt m 0) rfl rfl)) ?_
 refine w_val_g (want_yes (j := 2) rfl rfl (ev (.bool false) rfl rfl) rfl) (y_nc (ev (pt m 0) rfl rfl)) ?_
 refine w_val_g (v := pt m 2) (want_yes (j := 2) rfl rfl (ev (.bool false) rfl rfl) rfl) (y_off (y_fa (ev (pt m 0) rfl rfl) (HmacBT.fa65_2 _ _)) (by first | rfl | omega)) ?_
 refine w_val_g (v := pt pn 0) (want_yes (j := 2) rfl rfl (ev (.bool false) rfl rfl) rfl) (y_ld (ev (pt m 2) rfl rfl) HmacBT.sc31 (r_m.val (by omega) ((if_neg (by omega)).trans ((if_neg (by omega)).trans (by first | with_reducible rfl | (with_reducible congr 1 <;> omega) | (with_reducible congr 2 <;> omega) | (with_reducible congr 3 <;> omega) | rfl))))) ?_
 refine w_val_g (want_yes (j := 2) rfl rfl (ev (.bool false) rfl rfl) rfl) (y_bin (ev (pt pn 0) rfl rfl) (evc (.pointer none)) (b_eqp Tryd.underlying31)) ?_
 refine w_val (y_pick_f (ev (.bool false) rfl rfl) (ev (.bool false) rfl rfl)) ?_
 refine nt ?_
 refine c_ff (ev (.bool false) rfl rfl) ?_
 refine wp_skip ?_
 refine then_n ?_
 refine sr ?_
 refine w_mv (ev (pt m 0) rfl rfl) ?_
 refine w_val (y_nc (ev (pt m 0) rfl rfl)) ?_
 refine w_val (v := pt m 2) (y_off (y_fa (ev (pt m 0) rfl rfl) (HmacBT.fa65_2 _ _)) (by first | rfl | omega)) ?_
 refine w_val (v := pt pn 0) (y_ld (ev (pt m 2) rfl rfl) HmacBT.sc31 (r_m.val (by omega) ((if_neg (by omega)).trans ((if_neg (by omega)).trans (by first | with_reducible rfl | (with_reducible congr 1 <;> omega) | (with_reducible congr 2 <;> omega) | (with_reducible congr 3 <;> omega) | rfl))))) ?_
 refine w_call (Tryd.func23) (by kernel_rfl) rfl (m1 (ev (pt pn 0) rfl rfl)) (sum_l kind t w0 pn (by omega) hkd (by (try simp only [List.nil_append, List.length_append, List.length_nil, Sha.length_sum]); omega) hn hT) ?_
 rintro _ w1 ⟨rfl, hb2⟩
 refine ⟨_, rfl, ?_⟩
 replace r_m := r_m.step hb2
 replace hk := thenB hk hb2
 replace hT := Sha.Tabs.below hT hb2
 replace ho := Sha.At.below ho hb2
 replace hn := Sha.At.below hn hb2
 refine w_mv (ev (.tuple #[.string (str (Sha.sum kind t)), .int .i64 0]) rfl rfl) ?_
 refine w_val (y_ext (v := .string (str (Sha.sum kind t))) (ev (.tuple #[.string (str (Sha.sum kind t)), .int .i64 0]) rfl rfl) rfl) ?_
 refine w_val (y_ext (v := .int .i64 0) (ev (.tuple #[.string (str (Sha.sum kind t)), .int .i64 0]) rfl rfl) rfl) ?_
 refine w_as (ev (.string (str (Sha.sum kind t))) rfl rfl) ?_
 refine w_as (ev (.int .i64 0) rfl rfl) ?_
 refine nt ?_
 refine sr ?_
 refine w_mv (ev (pt m 0) rfl rfl) ?_
 refine w_val (y_nc (ev (pt m 0) rfl rfl)) ?_
 refine w_val (v := pt m 1) (y_off (y_fa (ev (pt m 0) rfl rfl) (HmacBT.fa65_1 _ _)) (by first | rfl | omega)) ?_
 refine w_val (v := pt po 0) (y_ld (ev (pt m 1) rfl rfl) HmacBT.sc31 (r_m.val (by omega) ((if_neg (by omega)).trans (etv (if_pos (by omega)))))) ?_
 refine w_call (Tryd.func25) (by kernel_rfl) rfl (m1 (ev (pt po 0) rfl rfl)) (copy_l kind u w1 po (by omega) hkd ho) ?_
 rintro _ w3 ⟨ph, rfl, hge_ph, hh, hb_ph⟩
 refine ⟨_, rfl, ?_⟩
 have ne_m_ph : m ≠ ph := by have := r_m.lt; omega
 have ne_po_ph : po ≠ ph := by have := ho.lt; omega
 have ne_pn_ph : pn ≠ ph := by have := hn.lt; omega
 have ge_ph : w0.heap.size ≤ ph := by have := hk.size; omega
 replace r_m := r_m.step hb_ph
 replace hk := thenB hk hb_ph
 replace hT := Sha.Tabs.below hT hb_ph
 replace ho := Sha.At.below ho hb_ph
 replace hn := Sha.At.below hn hb_ph
 refine w_as (ev (pt ph 0) rfl rfl) ?_
 refine nt ?_
 refine sr ?_
 refine w_mv (ev (pt ph 0) rfl rfl) ?_
 refine w_mv (ev (.string (str (Sha.sum kind t))) rfl rfl) ?_
 have hw_ := hh
 clear hh
 refine w_call (Tryd.func24) (by kernel_rfl) rfl (m2 (ev (pt ph 0) rfl rfl) (ev (.string (str (Sha.sum kind t))) rfl rfl)) (write_l kind u (Sha.sum kind t) w3 ph (by omega) hkd (by rw [Sha.length_sum]; omega) hw_ hT) ?_
 rintro _ w4 ⟨rfl, hh, hgw⟩
 refine ⟨_, rfl, ?_⟩
 replace r_m := r_m.stepG hgw (by omega)
 replace hk := thenG hk hgw (by omega)
 replace hT := Sha.Tabs.grown hT hgw (by omega) (by omega)
 replace ho := Sha.At.grown ho hgw (by omega)
 replace hn := Sha.At.grown hn hgw (by omega)
 refine nt ?_
 refine sr ?_
 refine w_mv (ev (pt ph 0) rfl rfl) ?_
 refine w_call (Tryd.func23) (by kernel_rfl) rfl (m1 (ev (pt ph 0) rfl rfl)) (sum_l kind (u ++ (Sha.sum kind t)) w4 ph (by omega) hkd (by (try simp only [List.nil_append, List.length_append, List.length_nil, Sha.length_sum]); omega) hh hT) ?_
 rintro _ w5 ⟨rfl, hb6⟩
 refine ⟨_, rfl, ?_⟩
 replace r_m := r_m.step hb6
 replace hk := thenB hk hb6
 replace hT := Sha.Tabs.below hT hb6
 replace ho := Sha.At.below ho hb6
 replace hn := Sha.At.below hn hb6
 replace hh := Sha.At.below hh hb6
 refine w_val (y_ext (v := .string (str (Sha.sum kind (u ++ (Sha.sum kind t))))) (ev (.tuple #[.string (str (Sha.sum kind (u ++ (Sha.sum kind t)))), .int .i64 0]) rfl rfl) rfl) ?_
 refine w_val (y_ext (v := .int .i64 0) (ev (.tuple #[.string (str (Sha.sum kind (u ++ (Sha.sum kind t)))), .int .i64 0]) rfl rfl) rfl) ?_
 refine w_as (ev (.string (str (Sha.sum kind (u ++ (Sha.sum kind t))))) rfl rfl) ?_
 refine w_as (ev (.int .i64 0) rfl rfl) ?_
 refine nt ?_
 refine wp_ret ?_
 refine fin_ret2 rfl (ev (.string (str (Sha.sum kind (u ++ (Sha.sum kind t))))) rfl rfl) (ev (.int .i64 0) rfl rfl) ?_
 exact ⟨rfl, hk⟩
end Go.Proofs.YtieepglpejlkoaaDoor
