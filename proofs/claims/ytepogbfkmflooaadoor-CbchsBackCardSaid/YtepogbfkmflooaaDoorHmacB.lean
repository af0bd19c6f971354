/-
  Digests with a key: writing, again, telling. Conditions as each says.
-/
import Derived.Test.YtepogbfkmflooaaDoorRows
import Derived.Test.YtepogbfkmflooaaDoorHmacA
import Derived.Test.YtepogbfkmflooaaDoorGenSh
import Derived.ProofKit
namespace Go.Proofs.YtepogbfkmflooaaDoor
open Go.RowKit
set_option linter.unusedSimpArgs false
set_option linter.unusedVariables false
set_option maxRecDepth 100000
set_option maxHeartbeats 1000000
namespace HmacBT
theorem mixed : Tryd.prog.follows .mixedOrders = true := by kernel_rfl
theorem fa79_0 (g off : Nat) : ∀ w, (Instr.fieldAt 79 (.pointer (some ⟨g, off, none⟩)) 0).run Tryd.prog w = .ok (.pointer (some ⟨g, off + 0, none⟩)) w := fun w => by kernel_rfl
theorem fa79_1 (g off : Nat) : ∀ w, (Instr.fieldAt 79 (.pointer (some ⟨g, off, none⟩)) 1).run Tryd.prog w = .ok (.pointer (some ⟨g, off + 1, none⟩)) w := fun w => by kernel_rfl
theorem fa79_2 (g off : Nat) : ∀ w, (Instr.fieldAt 79 (.pointer (some ⟨g, off, none⟩)) 2).run Tryd.prog w = .ok (.pointer (some ⟨g, off + 2, none⟩)) w := fun w => by kernel_rfl
theorem sc5 : (Tryd.prog.underlying 5).map scal = some true := by rw [Tryd.underlying5]; rfl
theorem sc77 : (Tryd.prog.underlying 77).map scal = some true := by rw [Tryd.underlying77]; rfl
theorem sz5 : (Tryd.prog.info? 5).map (·.size) = some 1 := by kernel_rfl
theorem sz77 : (Tryd.prog.info? 77).map (·.size) = some 1 := by kernel_rfl
end HmacBT
theorem macWrite_l (kind : Nat) (hkd : Sha.Known kind) (m pi po pn : Nat) (t s : List (BitVec 8)) (h1 : 0 < pn ∧ 1 < pn) (hs : s.length ≤ 140737488351232) (nm : m ≠ pn) (w0 : World) (r_m : Row w0 m 79 3 (fun j => if j < 1 then pt pi 0 else if j < 2 then pt po 0 else pt pn 0)) (hT : Sha.Tabs w0) (hn : Sha.At w0 pn kind t) : Calls Tryd.prog 29 #[pt m 0, .string (str s)] w0 fun e w' => e = .returned (.int .i64 0) ∧ Sha.At w' pn kind (t ++ s) ∧ w0.grownBy w' (some pn) := by
 have ad := hT.lt
 refine enter (n := 20) Tryd.func29 rfl rfl rfl ?_
 have hk : w0.grownBy w0 (some pn) := grown_refl _ _
 have ac := r_m.lt
 refine sr (w_as Ev.c (nt (wp_seq (sr (w_mv (ex (pt m 0)) (w_val (y_bin (ex (pt m 0)) Ev.c (b_eqp Tryd.underlying54)) (w_mv eb (w_val_g (v := pt m 0) (wy rfl rfl eb) (y_mv (ex (pt m 0))) (w_val_g (wy rfl rfl eb) (y_nc (ex (pt m 0))) (w_val_g (v := pt m 2) (wy rfl rfl eb) (y_off (y_fa (ex (pt m 0)) (HmacBT.fa79_2 _ _)) ro) (w_val_g (v := pt pn 0) (wy rfl rfl eb) (y_ld (ex (pt m 2)) HmacBT.sc77 (r_m.val om (ng (ng dv)))) (w_val_g (wy rfl rfl eb) (y_bin (ex (pt pn 0)) Ev.c (b_eqp Tryd.underlying77)) (w_val (y_pick_f eb eb) (nt (c_ff eb (wp_skip (then_n (sr (w_mv (ex (pt m 0)) (w_val (y_nc (ex (pt m 0))) (w_val (v := pt m 2) (y_off (y_fa (ex (pt m 0)) (HmacBT.fa79_2 _ _)) ro) (w_val (v := pt pn 0) (y_ld (ex (pt m 2)) HmacBT.sc77 (r_m.val om (ng (ng dv)))) (w_mv es ?_)))))))))))))))))))))))
 have ab := hn
 clear hn
 refine w_call (Tryd.func49) kr rfl (m2 (ex (pt pn 0)) es) (write_l kind t s w0 pn om hkd om ab hT) ?_
 rintro _ w1 ⟨rfl, hn, aa⟩
 refine ⟨_, rfl, ?_⟩
 replace r_m := r_m.stepG aa om
 replace hk := grown_thenG hk aa om
 replace hT := Sha.Tabs.grown hT aa om om
 refine w_as ei (nt (wp_ret (fin_ret1 rfl ei ?_)))
 exact ⟨rfl, hn, hk⟩

theorem macSum_l (kind : Nat) (hkd : Sha.Known kind) (m pi po pn : Nat) (t u : List (BitVec 8)) (h1 : 0 < pn ∧ 1 < pn) (h2 : 0 < po ∧ 1 < po) (ht : t.length ≤ 1152921504606846976) (hu : u.length ≤ 128) (hne : po ≠ pn) (w0 : World) (r_m : Row w0 m 79 3 (fun j => if j < 1 then pt pi 0 else if j < 2 then pt po 0 else pt pn 0)) (hT : Sha.Tabs w0) (ho : Sha.At w0 po kind u) (hn : Sha.At w0 pn kind t) : Calls Tryd.prog 30 #[pt m 0] w0 fun e w' => e = .returned (.tuple #[.string (str (Sha.sum kind (u ++ (Sha.sum kind t)))), .int .i64 0]) ∧ Below w0.heap.size w0 w' := by
 have an := hT.lt
 have al := Sha.ol_lt kind
 have am := fun x => Sha.length_sum kind x
 refine enter (n := 36) Tryd.func30 rfl rfl rfl ?_
 have hk : Below w0.heap.size w0 w0 := Below.refl _ _
 have ak := r_m.lt
 refine sr (w_as (evc (.string (str ([] : List (BitVec 8))))) (w_as Ev.c (nt (wp_seq (sr (w_mv (ex (pt m 0)) (w_val (y_bin (ex (pt m 0)) Ev.c (b_eqp Tryd.underlying54)) (w_mv eb (w_val_g (v := pt m 0) (wy rfl rfl eb) (y_mv (ex (pt m 0))) (w_val_g (wy rfl rfl eb) (y_nc (ex (pt m 0))) (w_val_g (v := pt m 2) (wy rfl rfl eb) (y_off (y_fa (ex (pt m 0)) (HmacBT.fa79_2 _ _)) ro) (w_val_g (v := pt pn 0) (wy rfl rfl eb) (y_ld (ex (pt m 2)) HmacBT.sc77 (r_m.val om (ng (ng dv)))) (w_val_g (wy rfl rfl eb) (y_bin (ex (pt pn 0)) Ev.c (b_eqp Tryd.underlying77)) (w_val (y_pick_f eb eb) (nt (c_ff eb (wp_skip (then_n (sr (w_mv (ex (pt m 0)) (w_val (y_nc (ex (pt m 0))) (w_val (v := pt m 2) (y_off (y_fa (ex (pt m 0)) (HmacBT.fa79_2 _ _)) ro) (w_val (v := pt pn 0) (y_ld (ex (pt m 2)) HmacBT.sc77 (r_m.val om (ng (ng dv)))) (w_call (Tryd.func51) kr rfl (m1 (ex (pt pn 0))) (sum_l kind t w0 pn om hkd (by (try simp only [List.nil_append, List.length_append, List.length_nil, Sha.length_sum]); omega) hn hT) ?_))))))))))))))))))))))))
 rintro _ w1 ⟨rfl, ad⟩
 refine ⟨_, rfl, ?_⟩
 replace r_m := r_m.step ad
 replace hk := thenB hk ad
 replace hT := Sha.Tabs.below hT ad
 replace ho := Sha.At.below ho ad
 replace hn := Sha.At.below hn ad
 refine w_mv (ex (.tuple #[.string (str (Sha.sum kind t)), .int .i64 0])) (w_val ye (w_val ye (w_as es (w_as ei (nt (sr (w_mv (ex (pt m 0)) (w_val (y_nc (ex (pt m 0))) (w_val (v := pt m 1) (y_off (y_fa (ex (pt m 0)) (HmacBT.fa79_1 _ _)) ro) (w_val (v := pt po 0) (y_ld (ex (pt m 1)) HmacBT.sc77 (r_m.val om (ng pz))) (w_call (Tryd.func50) kr rfl (m1 (ex (pt po 0))) (copy_l kind u w1 po om hkd ho) ?_)))))))))))
 rintro _ w3 ⟨ph, rfl, ah, hh, aa⟩
 refine ⟨_, rfl, ?_⟩
 have ag : m ≠ ph := by have := r_m.lt; omega
 have ae : po ≠ ph := by have := ho.lt; omega
 have ac : pn ≠ ph := by have := hn.lt; omega
 have ai : w0.heap.size ≤ ph := by have := hk.size; omega
 replace r_m := r_m.step aa
 replace hk := thenB hk aa
 replace hT := Sha.Tabs.below hT aa
 replace ho := Sha.At.below ho aa
 replace hn := Sha.At.below hn aa
 refine w_as (ex (pt ph 0)) (nt (sr (w_mv (ex (pt ph 0)) (w_mv es ?_))))
 have aj := hh
 clear hh
 refine w_call (Tryd.func49) kr rfl (m2 (ex (pt ph 0)) es) (write_l kind u (Sha.sum kind t) w3 ph om hkd (by rw [Sha.length_sum]; omega) aj hT) ?_
 rintro _ w4 ⟨rfl, hh, af⟩
 refine ⟨_, rfl, ?_⟩
 replace r_m := r_m.stepG af om
 replace hk := thenG hk af om
 replace hT := Sha.Tabs.grown hT af om om
 replace ho := Sha.At.grown ho af om
 replace hn := Sha.At.grown hn af om
 refine nt (sr (w_mv (ex (pt ph 0)) (w_call (Tryd.func51) kr rfl (m1 (ex (pt ph 0))) (sum_l kind (u ++ (Sha.sum kind t)) w4 ph om hkd (by (try simp only [List.nil_append, List.length_append, List.length_nil, Sha.length_sum]); omega) hh hT) ?_)))
 rintro _ w5 ⟨rfl, ab⟩
 refine ⟨_, rfl, ?_⟩
 replace r_m := r_m.step ab
 replace hk := thenB hk ab
 replace hT := Sha.Tabs.below hT ab
 replace ho := Sha.At.below ho ab
 replace hn := Sha.At.below hn ab
 replace hh := Sha.At.below hh ab
 refine w_val ye (w_val ye (w_as es (w_as ei (nt (wp_ret (fin_ret2 rfl es ei ?_))))))
 exact ⟨rfl, hk⟩
end Go.Proofs.YtepogbfkmflooaaDoor
