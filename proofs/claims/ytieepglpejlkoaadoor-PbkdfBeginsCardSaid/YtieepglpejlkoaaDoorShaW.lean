/-
  Digests: of texts; the example. Conditions as each says.
-/
import Derived.Test.YtieepglpejlkoaaDoorRows
import Derived.Test.YtieepglpejlkoaaDoorShaUse
import Derived.ProofKit
namespace Go.Proofs.YtieepglpejlkoaaDoor
open Go.RowKit
set_option linter.unusedSimpArgs false
set_option linter.unusedVariables false
namespace ShaWT
theorem mixed : Tryd.prog.follows .mixedOrders = true := by kernel_rfl
end ShaWT
set_option maxRecDepth 100000 in
set_option maxHeartbeats 1000000 in
theorem shaText_l (kind : Nat) (hkd : Sha.Known kind) (s : List (BitVec 8)) (hs : s.length ≤ 140737488351232) (w0 : World) (hT : Sha.Tabs w0) : Calls Tryd.prog 17 #[.int .i64 ((kind : Nat) : Int), .string (str s)] w0 fun e w' => e = .returned (.tuple #[.string (str (Sha.sum kind s)), .int .i64 0]) ∧ Below w0.heap.size w0 w' := by
 have hT0 := hT.lt
 refine enter (n := 23) Tryd.func17 rfl rfl rfl ?_
 have hk : Below w0.heap.size w0 w0 := Below.refl _ _
 refine sr ?_
 refine w_as (evc (.string (str ([] : List (BitVec 8))))) ?_
 refine w_as (evc (.int .i64 0)) ?_
 refine nt ?_
 refine sr ?_
 refine w_mv (ev (.int .i64 ((kind : Nat) : Int)) rfl rfl) ?_
 refine w_call (Tryd.func20) (by kernel_rfl) rfl (m1 (ev (.int .i64 ((kind : Nat) : Int)) rfl rfl)) (new_at kind w0 hkd) ?_
 rintro _ w1 ⟨p, rfl, hge_p, ha, hb_p⟩
 refine ⟨_, rfl, ?_⟩
 have ge_p : w0.heap.size ≤ p := by have := hk.size; omega
 replace hk := thenB hk hb_p
 replace hT := Sha.Tabs.below hT hb_p
 refine w_mv (ev (.tuple #[pt p 0, .int .i64 0]) rfl rfl) ?_
 refine w_val (y_ext (v := pt p 0) (ev (.tuple #[pt p 0, .int .i64 0]) rfl rfl) rfl) ?_
 refine w_val (y_ext (v := .int .i64 0) (ev (.tuple #[pt p 0, .int .i64 0]) rfl rfl) rfl) ?_
 refine w_as (ev (pt p 0) rfl rfl) ?_
 refine w_as (ev (.int .i64 0) rfl rfl) ?_
 refine nt ?_
 refine wp_seq ?_
 refine sr ?_
 refine w_mv (ev (.int .i64 0) rfl rfl) ?_
 refine w_val (y_bin (ev (.int .i64 0) rfl rfl) (evc (.int .i64 0)) b_neq) ?_
 refine nt ?_
 refine c_ff (ev (.bool false) rfl rfl) ?_
 refine wp_skip ?_
 refine then_n ?_
 refine sr ?_
 refine w_mv (ev (pt p 0) rfl rfl) ?_
 refine w_mv (ev (.string (str s)) rfl rfl) ?_
 have hw_ := ha
 clear ha
 refine w_call (Tryd.func24) (by kernel_rfl) rfl (m2 (ev (pt p 0) rfl rfl) (ev (.string (str s)) rfl rfl)) (write_l kind ([]) s w1 p (by omega) hkd (by omega) hw_ hT) ?_
 rintro _ w2 ⟨rfl, ha, hgw⟩
 refine ⟨_, rfl, ?_⟩
 replace hk := thenG hk hgw (by omega)
 replace hT := Sha.Tabs.grown hT hgw (by omega) (by omega)
 refine nt ?_
 refine sr ?_
 refine w_mv (ev (pt p 0) rfl rfl) ?_
 refine w_call (Tryd.func23) (by kernel_rfl) rfl (m1 (ev (pt p 0) rfl rfl)) (sum_l kind (([]) ++ s) w2 p (by omega) hkd (by (try simp only [List.nil_append, List.length_append, List.length_nil, Sha.length_sum]); omega) ha hT) ?_
 rintro _ w3 ⟨rfl, hb4⟩
 refine ⟨_, rfl, ?_⟩
 replace hk := thenB hk hb4
 replace hT := Sha.Tabs.below hT hb4
 replace ha := Sha.At.below ha hb4
 refine w_val (y_ext (v := .string (str (Sha.sum kind (([]) ++ s)))) (ev (.tuple #[.string (str (Sha.sum kind (([]) ++ s))), .int .i64 0]) rfl rfl) rfl) ?_
 refine w_val (y_ext (v := .int .i64 0) (ev (.tuple #[.string (str (Sha.sum kind (([]) ++ s))), .int .i64 0]) rfl rfl) rfl) ?_
 refine w_as (ev (.string (str (Sha.sum kind (([]) ++ s)))) rfl rfl) ?_
 refine w_as (ev (.int .i64 0) rfl rfl) ?_
 refine nt ?_
 refine wp_ret ?_
 refine fin_ret2 rfl (ev (.string (str (Sha.sum kind (([]) ++ s)))) rfl rfl) (ev (.int .i64 0) rfl rfl) ?_
 refine ⟨congrArg Ending.returned ?_, hk⟩
 show (.tuple #[.string (str (Sha.sum kind (([]) ++ s))), .int .i64 0] : Value) = .tuple #[.string (str (Sha.sum kind s)), .int .i64 0]
 simp only [List.nil_append]

set_option maxRecDepth 100000 in
set_option maxHeartbeats 1000000 in
theorem shaText_no (k : Int) (k1 : k ≠ 256) (k2 : k ≠ 384) (k3 : k ≠ 512) (s : List (BitVec 8)) (w0 : World) : Calls Tryd.prog 17 #[.int .i64 k, .string (str s)] w0 fun e w' => e = .returned (.tuple #[.string (str ([] : List (BitVec 8))), .int .i64 11]) ∧ Below w0.heap.size w0 w' := by
 refine enter (n := 23) Tryd.func17 rfl rfl rfl ?_
 have hk : Below w0.heap.size w0 w0 := Below.refl _ _
 refine sr ?_
 refine w_as (evc (.string (str ([] : List (BitVec 8))))) ?_
 refine w_as (evc (.int .i64 0)) ?_
 refine nt ?_
 refine sr ?_
 refine w_mv (ev (.int .i64 k) rfl rfl) ?_
 refine w_call (Tryd.func20) (by kernel_rfl) rfl (m1 (ev (.int .i64 k) rfl rfl)) (shaNew_no k k1 k2 k3 w0 ) ?_
 rintro _ w1 ⟨rfl, hb2⟩
 refine ⟨_, rfl, ?_⟩
 replace hk := thenB hk hb2
 refine w_mv (ev (.tuple #[.pointer none, .int .i64 11]) rfl rfl) ?_
 refine w_val (y_ext (v := .pointer none) (ev (.tuple #[.pointer none, .int .i64 11]) rfl rfl) rfl) ?_
 refine w_val (y_ext (v := .int .i64 11) (ev (.tuple #[.pointer none, .int .i64 11]) rfl rfl) rfl) ?_
 refine w_as (ev (.pointer none) rfl rfl) ?_
 refine w_as (ev (.int .i64 11) rfl rfl) ?_
 refine nt ?_
 refine wp_seq ?_
 refine sr ?_
 refine w_mv (ev (.int .i64 11) rfl rfl) ?_
 refine w_val (y_bin (ev (.int .i64 11) rfl rfl) (evc (.int .i64 0)) b_neq) ?_
 refine nt ?_
 refine c_tt (ev (.bool true) rfl rfl) ?_
 refine sr ?_
 refine w_mv (ev (.int .i64 11) rfl rfl) ?_
 refine w_as (evc (.string (str ([] : List (BitVec 8))))) ?_
 refine w_as (ev (.int .i64 11) rfl rfl) ?_
 refine nt ?_
 refine wp_ret ?_
 refine then_r ?_
 refine fin_ret2 rfl (ev (.string (str ([] : List (BitVec 8)))) rfl rfl) (ev (.int .i64 11) rfl rfl) ?_
 exact ⟨rfl, hk⟩

set_option maxRecDepth 100000 in
set_option maxHeartbeats 1000000 in
theorem refText_l (kind : Nat) (hkd : Sha.Known kind) (s : List (BitVec 8)) (hs : s.length ≤ 1099511627776) (w0 : World) : Calls Tryd.prog 18 #[.int .i64 ((kind : Nat) : Int), .string (str s)] w0 fun e w' => e = .returned (.tuple #[.string (str (Sha.sum kind s)), .int .i64 0]) ∧ Below w0.heap.size w0 w' := by
 refine enter (n := 13) Tryd.func18 rfl rfl rfl ?_
 have hk : Below w0.heap.size w0 w0 := Below.refl _ _
 refine sr ?_
 refine w_as (evc (.string (str ([] : List (BitVec 8))))) ?_
 refine w_as (evc (.int .i64 0)) ?_
 refine nt ?_
 refine wp_seq ?_
 refine sr ?_
 refine w_mv (ev (.int .i64 ((kind : Nat) : Int)) rfl rfl) ?_
 refine w_call (Tryd.func21) (by kernel_rfl) rfl (m1 (ev (.int .i64 ((kind : Nat) : Int)) rfl rfl)) (known_l kind  w0 hkd) ?_
 rintro _ w1 ⟨rfl, hb2⟩
 refine ⟨_, rfl, ?_⟩
 replace hk := thenB hk hb2
 refine w_val (y_not (ev (.bool true) rfl rfl)) ?_
 refine nt ?_
 refine c_ff (ev (.bool false) rfl rfl) ?_
 refine wp_skip ?_
 refine then_n ?_
 refine sr ?_
 refine w_mv (ev (.int .i64 ((kind : Nat) : Int)) rfl rfl) ?_
 refine w_call (Tryd.func22) (by kernel_rfl) rfl (m1 (ev (.int .i64 ((kind : Nat) : Int)) rfl rfl)) (make_l kind w1 hkd) ?_
 rintro _ w3 ⟨rp, rfl, hge_rp, hR, hb_rp⟩
 refine ⟨_, rfl, ?_⟩
 have ge_rp : w0.heap.size ≤ rp := by have := hk.size; omega
 replace hk := thenB hk hb_rp
 refine w_mv (ev (.string (str s)) rfl rfl) ?_
 refine w_call (Tryd.func29) (by kernel_rfl) rfl (m2 (ev (pt rp 0) rfl rfl) (ev (.string (str s)) rfl rfl)) (ruleSum_l kind s w3 rp hkd (by omega) hR) ?_
 rintro _ w4 ⟨rfl, hb5⟩
 refine ⟨_, rfl, ?_⟩
 replace hk := thenB hk hb5
 replace hR := Sha.RuleAt.below hR hb5
 refine w_as (ev (.string (str (Sha.sum kind s))) rfl rfl) ?_
 refine w_as (evc (.int .i64 0)) ?_
 refine nt ?_
 refine wp_ret ?_
 refine fin_ret2 rfl (ev (.string (str (Sha.sum kind s))) rfl rfl) (ev (.int .i64 0) rfl rfl) ?_
 exact ⟨rfl, hk⟩

set_option maxRecDepth 100000 in
set_option maxHeartbeats 1000000 in
theorem refText_no (k : Int) (k1 : k ≠ 256) (k2 : k ≠ 384) (k3 : k ≠ 512) (s : List (BitVec 8)) (w0 : World) : Calls Tryd.prog 18 #[.int .i64 k, .string (str s)] w0 fun e w' => e = .returned (.tuple #[.string (str ([] : List (BitVec 8))), .int .i64 11]) ∧ Below w0.heap.size w0 w' := by
 refine enter (n := 13) Tryd.func18 rfl rfl rfl ?_
 have hk : Below w0.heap.size w0 w0 := Below.refl _ _
 refine sr ?_
 refine w_as (evc (.string (str ([] : List (BitVec 8))))) ?_
 refine w_as (evc (.int .i64 0)) ?_
 refine nt ?_
 refine wp_seq ?_
 refine sr ?_
 refine w_mv (ev (.int .i64 k) rfl rfl) ?_
 refine w_call (Tryd.func21) (by kernel_rfl) rfl (m1 (ev (.int .i64 k) rfl rfl)) (known_no k k1 k2 k3 w0 ) ?_
 rintro _ w1 ⟨rfl, hb2⟩
 refine ⟨_, rfl, ?_⟩
 replace hk := thenB hk hb2
 refine w_val (y_not (ev (.bool false) rfl rfl)) ?_
 refine nt ?_
 refine c_tt (ev (.bool true) rfl rfl) ?_
 refine sr ?_
 refine w_as (evc (.string (str ([] : List (BitVec 8))))) ?_
 refine w_as (evc (.int .i64 11)) ?_
 refine nt ?_
 refine wp_ret ?_
 refine then_r ?_
 refine fin_ret2 rfl (ev (.string (str ([] : List (BitVec 8)))) rfl rfl) (ev (.int .i64 11) rfl rfl) ?_
 exact ⟨rfl, hk⟩

set_option maxRecDepth 100000 in
set_option maxHeartbeats 1000000 in
theorem shaWakes_c  (w0 : World) (hT : Sha.Tabs w0) : Calls Tryd.prog 16 #[] w0 fun e w' => e = .returned (.bool true) ∧ Below w0.heap.size w0 w' := by
 have hls : (Sha.sum 256 Sha.abc).length = 32 := Sha.length_sum 256 Sha.abc
 refine enter (n := 19) Tryd.func16 rfl rfl rfl ?_
 have hk : Below w0.heap.size w0 w0 := Below.refl _ _
 refine sr ?_
 refine w_as (evc (.bool false)) ?_
 refine nt ?_
 refine sr ?_
 refine w_call (Tryd.func17) (by kernel_rfl) rfl (m2 (evc (.int .i64 256)) (evc (.string (str Sha.abc)))) (shaText_l 256 (.inl rfl) Sha.abc (by decide) w0 hT) ?_
 rintro _ w1 ⟨rfl, hb2⟩
 refine ⟨_, rfl, ?_⟩
 replace hk := thenB hk hb2
 replace hT := Sha.Tabs.below hT hb2
 refine w_mv (ev (.tuple #[.string (str (Sha.sum 256 Sha.abc)), .int .i64 0]) rfl rfl) ?_
 refine w_val (y_ext (v := .string (str (Sha.sum 256 Sha.abc))) (ev (.tuple #[.string (str (Sha.sum 256 Sha.abc)), .int .i64 0]) rfl rfl) rfl) ?_
 refine w_val (y_ext (v := .int .i64 0) (ev (.tuple #[.string (str (Sha.sum 256 Sha.abc)), .int .i64 0]) rfl rfl) rfl) ?_
 refine w_as (ev (.string (str (Sha.sum 256 Sha.abc))) rfl rfl) ?_
 refine w_as (ev (.int .i64 0) rfl rfl) ?_
 refine nt ?_
 refine sr ?_
 refine w_mv (ev (.int .i64 0) rfl rfl) ?_
 refine w_val (y_bin (ev (.int .i64 0) rfl rfl) (evc (.int .i64 0)) b_eql) ?_
 refine w_mv (ev (.bool true) rfl rfl) ?_
 refine w_val_g (v := .string (str (Sha.sum 256 Sha.abc))) (want_yes (j := 2) rfl rfl (ev (.bool true) rfl rfl) rfl) (y_mv (ev (.string (str (Sha.sum 256 Sha.abc))) rfl rfl)) ?_
 refine w_val_g (want_yes (j := 2) rfl rfl (ev (.bool true) rfl rfl) rfl) (y_len (ev (.string (str (Sha.sum 256 Sha.abc))) rfl rfl) Tryd.underlying9) ?_
 refine w_val_g (want_yes (j := 2) rfl rfl (ev (.bool true) rfl rfl) rfl) (y_bin (ev (.int .i64 (((Sha.sum 256 Sha.abc).length : Nat) : Int)) rfl rfl) (evc (.int .i64 32)) b_eql) ?_
 refine w_val (y_pick_t (ev (.bool true) rfl rfl) (ev (.bool (decide ((((Sha.sum 256 Sha.abc).length : Nat) : Int) = 32))) rfl rfl)) ?_
 refine w_mv (ev (.bool (decide ((((Sha.sum 256 Sha.abc).length : Nat) : Int) = 32))) rfl rfl) ?_
 have hc3 : (((Sha.sum 256 Sha.abc).length : Nat) : Int) = 32 := by rw [hls]; rfl
 refine w_val_g (v := .string (str (Sha.sum 256 Sha.abc))) (want_yes (j := 7) rfl rfl (ev (.bool true) (Eq.trans (b := .bool (decide ((((Sha.sum 256 Sha.abc).length : Nat) : Int) = 32))) rfl (by rw [decide_eq_true hc3])) rfl) rfl) (y_mv (ev (.string (str (Sha.sum 256 Sha.abc))) rfl rfl)) ?_
 refine w_val_g (v := .string (str ((Sha.sum 256 Sha.abc).take 4))) (want_yes (j := 7) rfl rfl (ev (.bool true) (Eq.trans (b := .bool (decide ((((Sha.sum 256 Sha.abc).length : Nat) : Int) = 32))) rfl (by rw [decide_eq_true hc3])) rfl) rfl) (y_sls (ev (.string (str (Sha.sum 256 Sha.abc))) rfl rfl) evo.no (evo.s (evc (.int .i64 4))) Tryd.underlying9 (bnd_h (h := 4) (by omega) (by rw [hls]; omega))) ?_
 refine w_val_g (want_yes (j := 7) rfl rfl (ev (.bool true) (Eq.trans (b := .bool (decide ((((Sha.sum 256 Sha.abc).length : Nat) : Int) = 32))) rfl (by rw [decide_eq_true hc3])) rfl) rfl) (y_bin (ev (.string (str ((Sha.sum 256 Sha.abc).take 4))) rfl rfl) (evc (.string (str ([186#8, 120#8, 22#8, 191#8])))) b_eqs) ?_
 refine w_val (y_pick_t (ev (.bool true) (Eq.trans (b := .bool (decide ((((Sha.sum 256 Sha.abc).length : Nat) : Int) = 32))) rfl (by rw [decide_eq_true hc3])) rfl) (ev (.bool (decide (((Sha.sum 256 Sha.abc).take 4) = ([186#8, 120#8, 22#8, 191#8])))) rfl rfl)) ?_
 refine w_as (ev (.bool (decide (((Sha.sum 256 Sha.abc).take 4) = ([186#8, 120#8, 22#8, 191#8])))) rfl rfl) ?_
 refine nt ?_
 refine wp_ret ?_
 have hc4 : ((Sha.sum 256 Sha.abc).take 4) = ([186#8, 120#8, 22#8, 191#8]) := by decide +kernel
 refine fin_ret1 rfl (ev (.bool true) (Eq.trans (b := .bool (decide (((Sha.sum 256 Sha.abc).take 4) = ([186#8, 120#8, 22#8, 191#8])))) rfl (by rw [decide_eq_true hc4])) rfl) ?_
 exact ⟨rfl, hk⟩
end Go.Proofs.YtieepglpejlkoaaDoor
