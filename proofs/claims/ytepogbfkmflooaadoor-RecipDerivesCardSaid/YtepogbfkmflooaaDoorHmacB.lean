/-
  Digests with a key: writing, again, telling. Conditions as each says.
-/
import Derived.Test.YtepogbfkmflooaaDoorRows
import Derived.Test.YtepogbfkmflooaaDoorHmacA
import Derived.Test.YtepogbfkmflooaaDoorGenSh
import Derived.ProofKit
namespace Go.Proofs.YtepogbfkmflooaaDoor
open Go.RowKit
set_option linter.unusedSimpArgs false
set_option linter.unusedVariables false
set_option maxRecDepth 100000
set_option maxHeartbeats 1000000
namespace HmacBT
theorem mixed : Tryd.prog.follows .mixedOrders = true := by kernel_rfl
theorem fa79_0 (g off : Nat) : ∀ w, (Instr.fieldAt 79 (.pointer (some ⟨g, off, none⟩)) 0).run Tryd.prog w = .ok (.pointer (some ⟨g, off + 0, none⟩)) w := fun w => by kernel_rfl
theorem fa79_1 (g off : Nat) : ∀ w, (Instr.fieldAt 79 (.pointer (some ⟨g, off, none⟩)) 1).run Tryd.prog w = .ok (.pointer (some ⟨g, off + 1, none⟩)) w := fun w => by kernel_rfl
theorem fa79_2 (g off : Nat) : ∀ w, (Instr.fieldAt 79 (.pointer (some ⟨g, off, none⟩)) 2).run Tryd.prog w = .ok (.pointer (some ⟨g, off + 2, none⟩)) w := fun w => by kernel_rfl
theorem sc5 : (Tryd.prog.underlying 5).map scal = some true := by rw [Tryd.underlying5]; rfl
theorem sc77 : (Tryd.prog.underlying 77).map scal = some true := by rw [Tryd.underlying77]; rfl
theorem sz5 : (Tryd.prog.info? 5).map (·.size) = some 1 := by kernel_rfl
theorem sz77 : (Tryd.prog.info? 77).map (·.size) = some 1 := by kernel_rfl
end HmacBT
theorem macWrite_l (kind : Nat) (hkd : Sha.Known kind) (m pi po pn : Nat) (t s : List (BitVec 8)) (h1 : 0 < pn ∧ 1 < pn) (hs : s.length ≤ 140737488351232) (nm : m ≠ pn) (w0 : World) (r_m : Row w0 m 79 3 (fun j => if j < 1 then pt pi 0 else if j < 2 then pt po 0 else pt pn 0)) (hT : Sha.Tabs w0) (hn : Sha.At w0 pn kind t) : Calls Tryd.prog 29 #[pt m 0, .string (str s)] w0 fun e w' => e = .returned (.int .i64 0) ∧ Sha.At w' pn kind (t ++ s) ∧ w0.grownBy w' (some pn) := by
 have hT0 := hT.lt
 refine enter (n := 20) Tryd.func29 rfl rfl rfl ?_
 have hk : w0.grownBy w0 (some pn) := grown_refl _ _
 have lt_m := r_m.lt
 refine sr (w_as Ev.c (nt (wp_seq (sr (w_mv (ex (pt m 0)) (w_val (y_bin (ex (pt m 0)) Ev.c (b_eqp Tryd.underlying54)) (w_mv eb (w_val_g (v := pt m 0) (wy rfl rfl eb) (y_mv (ex (pt m 0))) (w_val_g (wy rfl rfl eb) (y_nc (ex (pt m 0))) (w_val_g (v := pt m 2) (wy rfl rfl eb) (y_off (y_fa (ex (pt m 0)) (HmacBT.fa79_2 _ _)) ro) (w_val_g (v := pt pn 0) (wy rfl rfl eb) (y_ld (ex (pt m 2)) HmacBT.sc77 (r_m.val om (ng (ng dv)))) (w_val_g (wy rfl rfl eb) (y_bin (ex (pt pn 0)) Ev.c (b_eqp Tryd.underlying77)) (w_val (y_pick_f eb eb) (nt (c_ff eb (wp_skip (then_n (sr (w_mv (ex (pt m 0)) (w_val (y_nc (ex (pt m 0))) (w_val (v := pt m 2) (y_off (y_fa (ex (pt m 0)) (HmacBT.fa79_2 _ _)) ro) (w_val (v := pt pn 0) (y_ld (ex (pt m 2)) HmacBT.sc77 (r_m.val om (ng (ng dv)))) (w_mv es ?_)))))))))))))))))))))))
 have hw_ := hn
 clear hn
 refine w_call (Tryd.func49) kr rfl (m2 (ex (pt pn 0)) es) (write_l kind t s w0 pn om hkd om hw_ hT) ?_
 rintro _ w1 ⟨rfl, hn, hgw⟩
 refine ⟨_, rfl, ?_⟩
 replace r_m := r_m.stepG hgw om
 replace hk := grown_thenG hk hgw om
 replace hT := Sha.Tabs.grown hT hgw om om
 refine w_as ei (nt (wp_ret (fin_ret1 rfl ei ?_)))
 exact ⟨rfl, hn, hk⟩

theorem macAgain_l (kind : Nat) (hkd : Sha.Known kind) (m pi po pn : Nat) (t : List (BitVec 8)) (h1 : 0 < pi ∧ 1 < pi) (h2 : 0 < m ∧ 1 < m) (nm : m ≠ pi) (w0 : World) (r_m : Row w0 m 79 3 (fun j => if j < 1 then pt pi 0 else if j < 2 then pt po 0 else pt pn 0)) (hT : Sha.Tabs w0) (hi : Sha.At w0 pi kind t) : Calls Tryd.prog 53 #[pt m 0] w0 fun e w' => ∃ pn', e = .returned (.int .i64 0) ∧ w0.heap.size ≤ pn' ∧ Row w' m 79 3 (fun j => if j < 1 then pt pi 0 else if j < 2 then pt po 0 else pt pn' 0) ∧ Sha.At w' pn' kind t ∧ w0.grownBy w' (some m) := by
 have hT0 := hT.lt
 refine enter (n := 20) Tryd.func53 rfl rfl rfl ?_
 have hk : w0.grownBy w0 (some m) := grown_refl _ _
 have lt_m := r_m.lt
 refine sr (w_as Ev.c (nt (wp_seq (sr (w_mv (ex (pt m 0)) (w_val (y_bin (ex (pt m 0)) Ev.c (b_eqp Tryd.underlying54)) (w_mv eb (w_val_g (v := pt m 0) (wy rfl rfl eb) (y_mv (ex (pt m 0))) (w_val_g (wy rfl rfl eb) (y_nc (ex (pt m 0))) (w_val_g (v := pt m 2) (wy rfl rfl eb) (y_off (y_fa (ex (pt m 0)) (HmacBT.fa79_2 _ _)) ro) (w_val_g (v := pt pn 0) (wy rfl rfl eb) (y_ld (ex (pt m 2)) HmacBT.sc77 (r_m.val om (ng (ng dv)))) (w_val_g (wy rfl rfl eb) (y_bin (ex (pt pn 0)) Ev.c (b_eqp Tryd.underlying77)) (w_val (y_pick_f eb eb) (nt (c_ff eb (wp_skip (then_n (sr (w_mv (ex (pt m 0)) (w_mv (ex (pt m 0)) (w_val (y_nc (ex (pt m 0))) (w_val (v := pt m 0) (y_off (y_fa (ex (pt m 0)) (HmacBT.fa79_0 _ _)) ro) (w_val (v := pt pi 0) (y_ld (ex (pt m 0)) HmacBT.sc77 (r_m.val om pz)) (w_call (Tryd.func50) kr rfl (m1 (ex (pt pi 0))) (copy_l kind t w0 pi om hkd hi) ?_))))))))))))))))))))))))
 rintro _ w1 ⟨pn', rfl, hge_pn', hn, hb_pn'⟩
 refine ⟨_, rfl, ?_⟩
 have ne_m_pn' : m ≠ pn' := by have := r_m.lt; omega
 have ne_pi_pn' : pi ≠ pn' := by have := hi.lt; omega
 have ge_pn' : w0.heap.size ≤ pn' := by have := hk.size; omega
 replace r_m := r_m.step hb_pn'
 replace hk := grown_thenB hk hb_pn'
 replace hT := Sha.Tabs.below hT hb_pn'
 replace hi := Sha.At.below hi hb_pn'
 refine w_val (y_nc (ex (pt m 0))) (w_val (v := pt m 2) (y_off (y_fa (ex (pt m 0)) (HmacBT.fa79_2 _ _)) ro) (w_st (v := pt pn' 0) (ex (pt m 2)) (ex (pt pn' 0)) rfl rfl HmacBT.sz77 r_m om ?_))
 clear r_m; intro w2 r_m hg3 _
 replace hk := grown_thenG hk hg3 om
 replace hT := Sha.Tabs.grown hT hg3 om om
 replace hi := Sha.At.grown hi hg3 om
 replace hn := Sha.At.grown hn hg3 om
 refine nt (sr (w_as Ev.c (nt (wp_ret (fin_ret1 rfl ei ?_)))))
 exact ⟨pn', rfl, by omega, r_m.congr (fun j hj => by rcases (by omega : j = 0 ∨ j = 1 ∨ j = 2) with h | h | h <;> subst h <;> rfl), hn, hk⟩

theorem macSum_l (kind : Nat) (hkd : Sha.Known kind) (m pi po pn : Nat) (t u : List (BitVec 8)) (h1 : 0 < pn ∧ 1 < pn) (h2 : 0 < po ∧ 1 < po) (ht : t.length ≤ 1152921504606846976) (hu : u.length ≤ 128) (hne : po ≠ pn) (w0 : World) (r_m : Row w0 m 79 3 (fun j => if j < 1 then pt pi 0 else if j < 2 then pt po 0 else pt pn 0)) (hT : Sha.Tabs w0) (ho : Sha.At w0 po kind u) (hn : Sha.At w0 pn kind t) : Calls Tryd.prog 30 #[pt m 0] w0 fun e w' => e = .returned (.tuple #[.string (str (Sha.sum kind (u ++ (Sha.sum kind t)))), .int .i64 0]) ∧ Below w0.heap.size w0 w' := by
 have hT0 := hT.lt
 have hol := Sha.ol_lt kind
 have hls := fun x => Sha.length_sum kind x
 refine enter (n := 36) Tryd.func30 rfl rfl rfl ?_
 have hk : Below w0.heap.size w0 w0 := Below.refl _ _
 have lt_m := r_m.lt
 refine sr (w_as (evc (.string (str ([] : List (BitVec 8))))) (w_as Ev.c (nt (wp_seq (sr (w_mv (ex (pt m 0)) (w_val (y_bin (ex (pt m 0)) Ev.c (b_eqp Tryd.underlying54)) (w_mv eb (w_val_g (v := pt m 0) (wy rfl rfl eb) (y_mv (ex (pt m 0))) (w_val_g (wy rfl rfl eb) (y_nc (ex (pt m 0))) (w_val_g (v := pt m 2) (wy rfl rfl eb) (y_off (y_fa (ex (pt m 0)) (HmacBT.fa79_2 _ _)) ro) (w_val_g (v := pt pn 0) (wy rfl rfl eb) (y_ld (ex (pt m 2)) HmacBT.sc77 (r_m.val om (ng (ng dv)))) (w_val_g (wy rfl rfl eb) (y_bin (ex (pt pn 0)) Ev.c (b_eqp Tryd.underlying77)) (w_val (y_pick_f eb eb) (nt (c_ff eb (wp_skip (then_n (sr (w_mv (ex (pt m 0)) (w_val (y_nc (ex (pt m 0))) (w_val (v := pt m 2) (y_off (y_fa (ex (pt m 0)) (HmacBT.fa79_2 _ _)) ro) (w_val (v := pt pn 0) (y_ld (ex (pt m 2)) HmacBT.sc77 (r_m.val om (ng (ng dv)))) (w_call (Tryd.func51) kr rfl (m1 (ex (pt pn 0))) (sum_l kind t w0 pn om hkd (by (try simp only [List.nil_append, List.length_append, List.length_nil, Sha.length_sum]); omega) hn hT) ?_))))))))))))))))))))))))
 rintro _ w1 ⟨rfl, hb2⟩
 refine ⟨_, rfl, ?_⟩
 replace r_m := r_m.step hb2
 replace hk := thenB hk hb2
 replace hT := Sha.Tabs.below hT hb2
 replace ho := Sha.At.below ho hb2
 replace hn := Sha.At.below hn hb2
 refine w_mv (ex (.tuple #[.string (str (Sha.sum kind t)), .int .i64 0])) (w_val ye (w_val ye (w_as es (w_as ei (nt (sr (w_mv (ex (pt m 0)) (w_val (y_nc (ex (pt m 0))) (w_val (v := pt m 1) (y_off (y_fa (ex (pt m 0)) (HmacBT.fa79_1 _ _)) ro) (w_val (v := pt po 0) (y_ld (ex (pt m 1)) HmacBT.sc77 (r_m.val om (ng pz))) (w_call (Tryd.func50) kr rfl (m1 (ex (pt po 0))) (copy_l kind u w1 po om hkd ho) ?_)))))))))))
 rintro _ w3 ⟨ph, rfl, hge_ph, hh, hb_ph⟩
 refine ⟨_, rfl, ?_⟩
 have ne_m_ph : m ≠ ph := by have := r_m.lt; omega
 have ne_po_ph : po ≠ ph := by have := ho.lt; omega
 have ne_pn_ph : pn ≠ ph := by have := hn.lt; omega
 have ge_ph : w0.heap.size ≤ ph := by have := hk.size; omega
 replace r_m := r_m.step hb_ph
 replace hk := thenB hk hb_ph
 replace hT := Sha.Tabs.below hT hb_ph
 replace ho := Sha.At.below ho hb_ph
 replace hn := Sha.At.below hn hb_ph
 refine w_as (ex (pt ph 0)) (nt (sr (w_mv (ex (pt ph 0)) (w_mv es ?_))))
 have hw_ := hh
 clear hh
 refine w_call (Tryd.func49) kr rfl (m2 (ex (pt ph 0)) es) (write_l kind u (Sha.sum kind t) w3 ph om hkd (by rw [Sha.length_sum]; omega) hw_ hT) ?_
 rintro _ w4 ⟨rfl, hh, hgw⟩
 refine ⟨_, rfl, ?_⟩
 replace r_m := r_m.stepG hgw om
 replace hk := thenG hk hgw om
 replace hT := Sha.Tabs.grown hT hgw om om
 replace ho := Sha.At.grown ho hgw om
 replace hn := Sha.At.grown hn hgw om
 refine nt (sr (w_mv (ex (pt ph 0)) (w_call (Tryd.func51) kr rfl (m1 (ex (pt ph 0))) (sum_l kind (u ++ (Sha.sum kind t)) w4 ph om hkd (by (try simp only [List.nil_append, List.length_append, List.length_nil, Sha.length_sum]); omega) hh hT) ?_)))
 rintro _ w5 ⟨rfl, hb6⟩
 refine ⟨_, rfl, ?_⟩
 replace r_m := r_m.step hb6
 replace hk := thenB hk hb6
 replace hT := Sha.Tabs.below hT hb6
 replace ho := Sha.At.below ho hb6
 replace hn := Sha.At.below hn hb6
 replace hh := Sha.At.below hh hb6
 refine w_val ye (w_val ye (w_as es (w_as ei (nt (wp_ret (fin_ret2 rfl es ei ?_))))))
 exact ⟨rfl, hk⟩
end Go.Proofs.YtepogbfkmflooaaDoor
