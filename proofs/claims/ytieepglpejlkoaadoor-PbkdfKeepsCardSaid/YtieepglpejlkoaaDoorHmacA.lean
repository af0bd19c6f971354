/-
  Digests with a key: a new one. Conditions as each says.
-/
import Derived.Test.YtieepglpejlkoaaDoorRows
import Derived.Test.YtieepglpejlkoaaDoorShaW
import Derived.Test.YtieepglpejlkoaaDoorHmacPlain
import Derived.ProofKit
namespace Go.Proofs.YtieepglpejlkoaaDoor
open Go.RowKit
set_option linter.unusedSimpArgs false
set_option linter.unusedVariables false
namespace HmacAT
theorem mixed : Tryd.prog.follows .mixedOrders = true := by kernel_rfl
theorem fa65_0 (g off : Nat) : ∀ w, (Instr.fieldAt 65 (.pointer (some ⟨g, off, none⟩)) 0).run Tryd.prog w = .ok (.pointer (some ⟨g, off + 0, none⟩)) w := fun w => by kernel_rfl
theorem fa65_1 (g off : Nat) : ∀ w, (Instr.fieldAt 65 (.pointer (some ⟨g, off, none⟩)) 1).run Tryd.prog w = .ok (.pointer (some ⟨g, off + 1, none⟩)) w := fun w => by kernel_rfl
theorem fa65_2 (g off : Nat) : ∀ w, (Instr.fieldAt 65 (.pointer (some ⟨g, off, none⟩)) 2).run Tryd.prog w = .ok (.pointer (some ⟨g, off + 2, none⟩)) w := fun w => by kernel_rfl
theorem sc31 : (Tryd.prog.underlying 31).map scal = some true := by rw [Tryd.underlying31]; rfl
theorem sc5 : (Tryd.prog.underlying 5).map scal = some true := by rw [Tryd.underlying5]; rfl
theorem sz31 : (Tryd.prog.info? 31).map (·.size) = some 1 := by kernel_rfl
theorem sz5 : (Tryd.prog.info? 5).map (·.size) = some 1 := by kernel_rfl
end HmacAT
set_option maxRecDepth 100000 in
set_option maxHeartbeats 1000000 in
theorem macNew_l (kind : Nat) (hkd : Sha.Known kind) (key : List (BitVec 8)) (hs : key.length ≤ 140737488351232) (w0 : World) (hT : Sha.Tabs w0) : Calls Tryd.prog 30 #[.int .i64 ((kind : Nat) : Int), .string (str key)] w0 fun e w' => ∃ m pi po pn, e = .returned (.tuple #[.pointer (some ⟨m, 0, none⟩), .int .i64 0]) ∧ w0.heap.size ≤ m ∧ w0.heap.size ≤ pi ∧ w0.heap.size ≤ po ∧ w0.heap.size ≤ pn ∧ pi ≠ po ∧ pi ≠ pn ∧ po ≠ pn ∧ m ≠ pi ∧ m ≠ po ∧ m ≠ pn ∧ Row w' m 65 3 (fun j => if j < 1 then pt pi 0 else if j < 2 then pt po 0 else pt pn 0) ∧ Sha.At w' pi kind (Hm.pd kind key 54#8) ∧ Sha.At w' po kind (Hm.pd kind key 92#8) ∧ Sha.At w' pn kind (Hm.pd kind key 54#8) ∧ Below w0.heap.size w0 w' := by
 have hT0 := hT.lt
 have hbs := Sha.bs_le kind
 have hkl := Hm.kk_len kind key
 have hp54 := Hm.pd_len kind key 54#8
 have hp92 := Hm.pd_len kind key 92#8
 refine enter (n := 100) Tryd.func30 rfl rfl rfl ?_
 have hk : Below w0.heap.size w0 w0 := Below.refl _ _
 refine sr ?_
 refine w_as (evc (.pointer none)) ?_
 refine w_as (evc (.int .i64 0)) ?_
 refine nt ?_
 refine sr ?_
 refine w_mv (ev (.int .i64 ((kind : Nat) : Int)) rfl rfl) ?_
 refine w_call (Tryd.func19) (by kernel_rfl) rfl (m1 (ev (.int .i64 ((kind : Nat) : Int)) rfl rfl)) (size_l kind  w0 hkd) ?_
 rintro _ w1 ⟨rfl, hb2⟩
 refine ⟨_, rfl, ?_⟩
 replace hk := thenB hk hb2
 replace hT := Sha.Tabs.below hT hb2
 refine w_mv (ev (.tuple #[.int .i64 ((Sha.ol kind : Nat) : Int), .int .i64 ((Sha.bs kind : Nat) : Int), .int .i64 0]) rfl rfl) ?_
 refine w_val (y_ext (v := .int .i64 ((Sha.ol kind : Nat) : Int)) (ev (.tuple #[.int .i64 ((Sha.ol kind : Nat) : Int), .int .i64 ((Sha.bs kind : Nat) : Int), .int .i64 0]) rfl rfl) rfl) ?_
 refine w_val (y_ext (v := .int .i64 ((Sha.bs kind : Nat) : Int)) (ev (.tuple #[.int .i64 ((Sha.ol kind : Nat) : Int), .int .i64 ((Sha.bs kind : Nat) : Int), .int .i64 0]) rfl rfl) rfl) ?_
 refine w_val (y_ext (v := .int .i64 0) (ev (.tuple #[.int .i64 ((Sha.ol kind : Nat) : Int), .int .i64 ((Sha.bs kind : Nat) : Int), .int .i64 0]) rfl rfl) rfl) ?_
 refine w_as (ev (.int .i64 ((Sha.ol kind : Nat) : Int)) rfl rfl) ?_
 refine w_as (ev (.int .i64 ((Sha.bs kind : Nat) : Int)) rfl rfl) ?_
 refine w_as (ev (.int .i64 0) rfl rfl) ?_
 refine nt ?_
 refine wp_seq ?_
 refine sr ?_
 refine w_mv (ev (.int .i64 0) rfl rfl) ?_
 refine w_val (y_bin (ev (.int .i64 0) rfl rfl) (evc (.int .i64 0)) b_neq) ?_
 refine nt ?_
 refine c_ff (ev (.bool false) rfl rfl) ?_
 refine wp_skip ?_
 refine then_n ?_
 refine c_cut (fun aN wl => ∃ f3, aN = fr 100 f3 ∧ f3 0 = .int .i64 ((kind : Nat) : Int) ∧ f3 1 = .string (str (Hm.kk kind key)) ∧ f3 4 = .pointer none ∧ f3 5 = .int .i64 0 ∧ f3 7 = .int .i64 ((Sha.bs kind : Nat) : Int) ∧ f3 8 = .int .i64 0 ∧ Sha.Tabs wl ∧ Below w0.heap.size w0 wl) ?_ ?_
 ·skip
  refine sr ?_
  refine w_mv (ev (.string (str key)) rfl rfl) ?_
  refine w_val (y_len (ev (.string (str key)) rfl rfl) Tryd.underlying9) ?_
  refine w_mv (ev (.int .i64 ((Sha.bs kind : Nat) : Int)) rfl rfl) ?_
  refine w_val (y_bin (ev (.int .i64 ((key.length : Nat) : Int)) rfl rfl) (ev (.int .i64 ((Sha.bs kind : Nat) : Int)) rfl rfl) b_gtr) ?_
  refine nt ?_
  refine c_if (p := ((Sha.bs kind : Nat) : Int) < ((key.length : Nat) : Int)) (ev (.bool (decide (((Sha.bs kind : Nat) : Int) < ((key.length : Nat) : Int)))) rfl rfl) (fun hc5 => ?_) (fun hc5 => ?_)
  ·skip
   refine wp_region_lit ?_
   refine w_mv (ev (.int .i64 ((kind : Nat) : Int)) rfl rfl) ?_
   refine w_mv (ev (.string (str key)) rfl rfl) ?_
   refine w_call (Tryd.func17) (by kernel_rfl) rfl (m2 (ev (.int .i64 ((kind : Nat) : Int)) rfl rfl) (ev (.string (str key)) rfl rfl)) (shaText_l kind hkd key (by omega) w1 hT) ?_
   rintro _ w6 ⟨rfl, hb7⟩
   refine ⟨_, rfl, ?_⟩
   replace hk := thenB hk hb7
   replace hT := Sha.Tabs.below hT hb7
   refine w_mv (ev (.tuple #[.string (str (Sha.sum kind key)), .int .i64 0]) rfl rfl) ?_
   refine w_val (y_ext (v := .string (str (Sha.sum kind key))) (ev (.tuple #[.string (str (Sha.sum kind key)), .int .i64 0]) rfl rfl) rfl) ?_
   refine w_val (y_ext (v := .int .i64 0) (ev (.tuple #[.string (str (Sha.sum kind key)), .int .i64 0]) rfl rfl) rfl) ?_
   refine w_as (ev (.string (str (Sha.sum kind key))) rfl rfl) ?_
   refine wpList_nil ?_
   exact then_n ⟨_, rfl, rfl, (Eq.trans (b := .string (str (Sha.sum kind key))) rfl (by first | exact congrArg (fun l => Value.string (str l)) (if_pos (by omega)).symm | exact congrArg (fun l => Value.string (str l)) (if_neg (by omega)).symm)), rfl, rfl, rfl, rfl, hT, hk⟩
  ·skip
   refine wp_skip ?_
   exact then_n ⟨_, rfl, rfl, (Eq.trans (b := .string (str key)) rfl (by first | exact congrArg (fun l => Value.string (str l)) (if_pos (by omega)).symm | exact congrArg (fun l => Value.string (str l)) (if_neg (by omega)).symm)), rfl, rfl, rfl, rfl, hT, hk⟩
 ·skip
  clear hT hk
  rintro _ w8 ⟨f3, rfl, t4_s0, t4_s1, t4_s4, t4_s5, t4_s7, t4_s8, hT, hk⟩
  refine c_cut (fun aN wl => ∃ (b_33 : Nat) (b_35 : Nat), ∃ f9, aN = fr 100 f9 ∧ (w0.heap.size ≤ b_33) ∧ (w0.heap.size ≤ b_35) ∧ (b_33 ≠ b_35) ∧ f9 0 = .int .i64 ((kind : Nat) : Int) ∧ f9 1 = .string (str (Hm.kk kind key)) ∧ f9 4 = .pointer none ∧ f9 5 = .int .i64 0 ∧ f9 7 = .int .i64 ((Sha.bs kind : Nat) : Int) ∧ f9 8 = .int .i64 0 ∧ f9 9 = .slice (some ⟨b_33, 0, none⟩) (Sha.bs kind) (Sha.bs kind) ∧ f9 10 = .slice (some ⟨b_35, 0, none⟩) (Sha.bs kind) (Sha.bs kind) ∧ Row wl b_33 5 (Sha.bs kind) (fun j => U8 (0#8)) ∧ Row wl b_35 5 (Sha.bs kind) (fun j => U8 (0#8)) ∧ Sha.Tabs wl ∧ Below w0.heap.size w0 wl) ?_ ?_
  ·skip
   refine region_dc (Nat.testBit 0) 6 HmacAT.mixed rfl ?_
   intro w11 hb12
   replace hk := thenB hk hb12
   replace hT := Sha.Tabs.below hT hb12
   have hS : Cls w11 w11 := Below.refl _ _
   refine d_pure (v := .int .i64 ((Sha.bs kind : Nat) : Int)) 0 rfl (by kernel_rfl) (by kernel_rfl) (by kernel_rfl) (by kernel_rfl) (fun _ _ _ h => h) (fun w' => y_mv (ev (.int .i64 ((Sha.bs kind : Nat) : Int)) t4_s7 rfl)) ?_
   refine d_pure (v := .int .i64 ((Sha.bs kind : Nat) : Int)) 2 rfl (by kernel_rfl) (by kernel_rfl) (by kernel_rfl) (by kernel_rfl) (fun _ _ _ h => h) (fun w' => y_mv (ev (.int .i64 ((Sha.bs kind : Nat) : Int)) t4_s7 rfl)) ?_
   refine d_two 1 3 (by kernel_rfl) rfl rfl ?_ ?_
   ·skip
    refine w_mks (m := (Sha.bs kind)) (bytes := 1) (zv := U8 (0#8)) (ev (.int .i64 ((Sha.bs kind : Nat) : Int)) rfl rfl) (ev (.int .i64 ((Sha.bs kind : Nat) : Int)) rfl rfl) (by omega) (by omega) Tryd.underlying76 (by kernel_rfl) rfl (by omega) (by omega) ?_
    intro b_33 w13 hbe_b_33 r_b_33 hb14
    have ge_b_33 : w0.heap.size ≤ b_33 := by have := hk.size; omega
    clear hbe_b_33
    replace hk := thenB hk hb14
    replace hT := Sha.Tabs.below hT hb14
    replace hS := thenB hS hb14
    refine wpList_nil ?_
    refine then_n ⟨fun _ h => thenB h (by assumption), ?_⟩
    refine d_pure (v := .slice (some ⟨b_33, 0, none⟩) (Sha.bs kind) (Sha.bs kind)) 4 rfl (by kernel_rfl) (by kernel_rfl) (by kernel_rfl) (by kernel_rfl) (fun _ _ _ h => h) (fun w' => y_as (ev (.slice (some ⟨b_33, 0, none⟩) (Sha.bs kind) (Sha.bs kind)) rfl rfl)) ?_
    refine d_one 3 (by kernel_rfl) rfl ?_
    refine w_mks (m := (Sha.bs kind)) (bytes := 1) (zv := U8 (0#8)) (ev (.int .i64 ((Sha.bs kind : Nat) : Int)) rfl rfl) (ev (.int .i64 ((Sha.bs kind : Nat) : Int)) rfl rfl) (by omega) (by omega) Tryd.underlying76 (by kernel_rfl) rfl (by omega) (by omega) ?_
    intro b_35 w15 hbe_b_35 r_b_35 hb16
    have ne_b_33_b_35 : b_33 ≠ b_35 := by have := r_b_33.lt; omega
    have ge_b_35 : w0.heap.size ≤ b_35 := by have := hk.size; omega
    clear hbe_b_35
    replace r_b_33 := r_b_33.step hb16
    replace hk := thenB hk hb16
    replace hT := Sha.Tabs.below hT hb16
    replace hS := thenB hS hb16
    refine wpList_nil ?_
    refine then_n ⟨fun _ h => thenB h (by assumption), ?_⟩
    refine d_pure (v := .slice (some ⟨b_35, 0, none⟩) (Sha.bs kind) (Sha.bs kind)) 5 rfl (by kernel_rfl) (by kernel_rfl) (by kernel_rfl) (by kernel_rfl) (fun _ _ _ h => h) (fun w' => y_as (ev (.slice (some ⟨b_35, 0, none⟩) (Sha.bs kind) (Sha.bs kind)) rfl rfl)) ?_
    refine d_done (by kernel_rfl) ?_
    clear hS
    exact then_n ⟨b_33, b_35, _, rfl, iv, iv, iv, t4_s0, t4_s1, t4_s4, t4_s5, t4_s7, t4_s8, rfl, rfl, r_b_33, r_b_35, hT, hk⟩
   ·skip
    refine w_mks (m := (Sha.bs kind)) (bytes := 1) (zv := U8 (0#8)) (ev (.int .i64 ((Sha.bs kind : Nat) : Int)) rfl rfl) (ev (.int .i64 ((Sha.bs kind : Nat) : Int)) rfl rfl) (by omega) (by omega) Tryd.underlying76 (by kernel_rfl) rfl (by omega) (by omega) ?_
    intro b_35 w17 hbe_b_35 r_b_35 hb18
    have ge_b_35 : w0.heap.size ≤ b_35 := by have := hk.size; omega
    clear hbe_b_35
    replace hk := thenB hk hb18
    replace hT := Sha.Tabs.below hT hb18
    replace hS := thenB hS hb18
    refine wpList_nil ?_
    refine then_n ⟨fun _ h => thenB h (by assumption), ?_⟩
    refine d_one 1 (by kernel_rfl) rfl ?_
    refine w_mks (m := (Sha.bs kind)) (bytes := 1) (zv := U8 (0#8)) (ev (.int .i64 ((Sha.bs kind : Nat) : Int)) rfl rfl) (ev (.int .i64 ((Sha.bs kind : Nat) : Int)) rfl rfl) (by omega) (by omega) Tryd.underlying76 (by kernel_rfl) rfl (by omega) (by omega) ?_
    intro b_33 w19 hbe_b_33 r_b_33 hb20
    have ne_b_35_b_33 : b_35 ≠ b_33 := by have := r_b_35.lt; omega
    have ge_b_33 : w0.heap.size ≤ b_33 := by have := hk.size; omega
    clear hbe_b_33
    replace r_b_35 := r_b_35.step hb20
    replace hk := thenB hk hb20
    replace hT := Sha.Tabs.below hT hb20
    replace hS := thenB hS hb20
    refine wpList_nil ?_
    refine then_n ⟨fun _ h => thenB h (by assumption), ?_⟩
    refine d_pure (v := .slice (some ⟨b_33, 0, none⟩) (Sha.bs kind) (Sha.bs kind)) 4 rfl (by kernel_rfl) (by kernel_rfl) (by kernel_rfl) (by kernel_rfl) (fun _ _ _ h => h) (fun w' => y_as (ev (.slice (some ⟨b_33, 0, none⟩) (Sha.bs kind) (Sha.bs kind)) rfl rfl)) ?_
    refine d_pure (v := .slice (some ⟨b_35, 0, none⟩) (Sha.bs kind) (Sha.bs kind)) 5 rfl (by kernel_rfl) (by kernel_rfl) (by kernel_rfl) (by kernel_rfl) (fun _ _ _ h => h) (fun w' => y_as (ev (.slice (some ⟨b_35, 0, none⟩) (Sha.bs kind) (Sha.bs kind)) rfl rfl)) ?_
    refine d_done (by kernel_rfl) ?_
    clear hS
    exact then_n ⟨b_33, b_35, _, rfl, iv, iv, iv, t4_s0, t4_s1, t4_s4, t4_s5, t4_s7, t4_s8, rfl, rfl, r_b_33, r_b_35, hT, hk⟩
  ·skip
   clear hT hk
   rintro _ w21 ⟨b_33, b_35, f9, rfl, t10_0, t10_1, t10_2, t10_s0, t10_s1, t10_s4, t10_s5, t10_s7, t10_s8, t10_s9, t10_s10, r_b_33, r_b_35, hT, hk⟩
   refine sr ?_
   refine w_mv (ev (.slice (some ⟨b_33, 0, none⟩) (Sha.bs kind) (Sha.bs kind)) t10_s9 rfl) ?_
   refine w_mv (ev (.string (str (Hm.kk kind key))) t10_s1 rfl) ?_
   refine w_copys (l := Hm.kk kind key) (ev (.slice (some ⟨b_33, 0, none⟩) (Sha.bs kind) (Sha.bs kind)) rfl rfl) (ev (.string (str (Hm.kk kind key))) rfl rfl) Tryd.underlying76 HmacAT.sz5 r_b_33 (by omega) ?_
   clear r_b_33; intro w22 r_b_33 hg23 _
   replace r_b_35 := r_b_35.stepG hg23 (by omega)
   replace hk := thenG hk hg23 (by omega)
   replace hT := Sha.Tabs.grown hT hg23 (by omega) (by omega)
   refine nt ?_
   refine sr ?_
   refine w_mv (ev (.slice (some ⟨b_35, 0, none⟩) (Sha.bs kind) (Sha.bs kind)) t10_s10 rfl) ?_
   refine w_mv (ev (.string (str (Hm.kk kind key))) t10_s1 rfl) ?_
   refine w_copys (l := Hm.kk kind key) (ev (.slice (some ⟨b_35, 0, none⟩) (Sha.bs kind) (Sha.bs kind)) rfl rfl) (ev (.string (str (Hm.kk kind key))) rfl rfl) Tryd.underlying76 HmacAT.sz5 r_b_35 (by omega) ?_
   clear r_b_35; intro w24 r_b_35 hg25 _
   replace r_b_33 := r_b_33.stepG hg25 (by omega)
   replace hk := thenG hk hg25 (by omega)
   replace hT := Sha.Tabs.grown hT hg25 (by omega) (by omega)
   refine nt ?_
   refine ss ?_
   replace r_b_33 := r_b_33.congr (g := fun j => U8 (gb (Hm.kk kind key) j)) (fun j hj => by (try dsimp only); by_cases e : j < (Hm.kk kind key).length; (rw [if_pos ⟨Nat.zero_le _, by omega⟩, Nat.sub_zero]); (rw [if_neg (by omega), gb_out _ _ (by omega)]))
   replace r_b_35 := r_b_35.congr (g := fun j => U8 (gb (Hm.kk kind key) j)) (fun j hj => by (try dsimp only); by_cases e : j < (Hm.kk kind key).length; (rw [if_pos ⟨Nat.zero_le _, by omega⟩, Nat.sub_zero]); (rw [if_neg (by omega), gb_out _ _ (by omega)]))
   refine wp_region_lit ?_
   refine w_mv (ev (.int .i64 ((Sha.bs kind : Nat) : Int)) t10_s7 rfl) ?_
   refine w_mv (evc (.int .i64 0)) ?_
   refine nt ?_
   refine wp_block ?_
   refine c_loop (fun dN aN wl => ∃ (q : Nat), dN = (Sha.bs kind - q) ∧ ∃ f26, aN = fr 100 f26 ∧ (q ≤ Sha.bs kind) ∧ f26 0 = .int .i64 ((kind : Nat) : Int) ∧ f26 1 = .string (str (Hm.kk kind key)) ∧ f26 4 = .pointer none ∧ f26 5 = .int .i64 0 ∧ f26 7 = .int .i64 ((Sha.bs kind : Nat) : Int) ∧ f26 8 = .int .i64 0 ∧ f26 9 = .slice (some ⟨b_33, 0, none⟩) (Sha.bs kind) (Sha.bs kind) ∧ f26 10 = .slice (some ⟨b_35, 0, none⟩) (Sha.bs kind) (Sha.bs kind) ∧ f26 42 = .int .i64 ((Sha.bs kind : Nat) : Int) ∧ f26 43 = .int .i64 ((q : Nat) : Int) ∧ Row wl b_33 5 (Sha.bs kind) (fun j => if j < q then (fun j => U8 (gb (Hm.pd kind key 54#8) j)) j else (fun j => U8 (gb (Hm.kk kind key) j)) j) ∧ Row wl b_35 5 (Sha.bs kind) (fun j => if j < q then (fun j => U8 (gb (Hm.pd kind key 92#8) j)) j else (fun j => U8 (gb (Hm.kk kind key) j)) j) ∧ Sha.Tabs wl ∧ Below w0.heap.size w0 wl) (Sha.bs kind - 0) ?_ ?_
   · exact ⟨0, rfl, _, rfl, iv, t10_s0, t10_s1, t10_s4, t10_s5, t10_s7, t10_s8, t10_s9, t10_s10, rfl, (etv (b := .int .i64 0) rfl), (r_b_33.cg), (r_b_35.cg), hT, hk⟩
   ·skip
    clear r_b_33 r_b_35 hT hk
    rintro _ _ w27 ⟨q, rfl, f26, rfl, i1_0, s1_0, s1_1, s1_4, s1_5, s1_7, s1_8, s1_9, s1_10, s1_42, s1_43, r_b_33, r_b_35, hT, hk⟩
    refine sr ?_
    refine w_val (y_bin (ev (.int .i64 ((q : Nat) : Int)) s1_43 rfl) (ev (.int .i64 ((Sha.bs kind : Nat) : Int)) s1_42 rfl) b_lss) ?_
    refine nt ?_
    refine wp_seq ?_
    refine c_if (p := ((q : Nat) : Int) < ((Sha.bs kind : Nat) : Int)) (ev (.bool (decide (((q : Nat) : Int) < ((Sha.bs kind : Nat) : Int)))) rfl rfl) (fun hc28 => ?_) (fun hc28 => ?_)
    ·skip
     refine wp_skip ?_
     refine then_n ?_
     refine wp_seq ?_
     refine wp_block ?_
     refine sr ?_
     refine w_mv (ev (.int .i64 ((q : Nat) : Int)) s1_43 rfl) ?_
     refine w_as (ev (.int .i64 ((q : Nat) : Int)) rfl rfl) ?_
     refine nt ?_
     refine sr ?_
     refine w_mv (ev (.slice (some ⟨b_33, 0, none⟩) (Sha.bs kind) (Sha.bs kind)) s1_9 rfl) ?_
     refine w_mv (ev (.int .i64 ((q : Nat) : Int)) rfl rfl) ?_
     refine w_val (y_is1z (i := q) (ev (.slice (some ⟨b_33, 0, none⟩) (Sha.bs kind) (Sha.bs kind)) rfl rfl) (ev (.int .i64 ((q : Nat) : Int)) rfl rfl) Tryd.underlying76 HmacAT.sz5 (by omega) (by omega)) ?_
     refine w_val (v := U8 (gb (Hm.kk kind key) q)) (y_ld (ev (pt b_33 q) rfl rfl) HmacAT.sc5 (r_b_33.val (by omega) ((if_neg (by omega)).trans rfl))) ?_
     refine w_val (y_bin (ev (U8 (gb (Hm.kk kind key) q)) rfl rfl) (evc (U8 (54#8))) xor8) ?_
     refine w_val (y_is1z (i := q) (ev (.slice (some ⟨b_33, 0, none⟩) (Sha.bs kind) (Sha.bs kind)) rfl rfl) (ev (.int .i64 ((q : Nat) : Int)) rfl rfl) Tryd.underlying76 HmacAT.sz5 (by omega) (by omega)) ?_
     refine w_st (v := U8 ((gb (Hm.kk kind key) q) ^^^ (54#8))) (ev (pt b_33 q) rfl rfl) (ev (U8 ((gb (Hm.kk kind key) q) ^^^ (54#8))) rfl rfl) rfl rfl HmacAT.sz5 r_b_33 (by omega) ?_
     clear r_b_33; intro w29 r_b_33 hg30 _
     replace r_b_35 := r_b_35.stepG hg30 (by omega)
     replace hk := thenG hk hg30 (by omega)
     replace hT := Sha.Tabs.grown hT hg30 (by omega) (by omega)
     refine nt ?_
     refine wp_region_lit ?_
     refine w_mv (ev (.slice (some ⟨b_35, 0, none⟩) (Sha.bs kind) (Sha.bs kind)) s1_10 rfl) ?_
     refine w_mv (ev (.int .i64 ((q : Nat) : Int)) rfl rfl) ?_
     refine w_val (y_is1z (i := q) (ev (.slice (some ⟨b_35, 0, none⟩) (Sha.bs kind) (Sha.bs kind)) rfl rfl) (ev (.int .i64 ((q : Nat) : Int)) rfl rfl) Tryd.underlying76 HmacAT.sz5 (by omega) (by omega)) ?_
     refine w_val (v := U8 (gb (Hm.kk kind key) q)) (y_ld (ev (pt b_35 q) rfl rfl) HmacAT.sc5 (r_b_35.val (by omega) ((if_neg (by omega)).trans rfl))) ?_
     refine w_val (y_bin (ev (U8 (gb (Hm.kk kind key) q)) rfl rfl) (evc (U8 (92#8))) xor8) ?_
     refine w_val (y_is1z (i := q) (ev (.slice (some ⟨b_35, 0, none⟩) (Sha.bs kind) (Sha.bs kind)) rfl rfl) (ev (.int .i64 ((q : Nat) : Int)) rfl rfl) Tryd.underlying76 HmacAT.sz5 (by omega) (by omega)) ?_
     refine w_st (v := U8 ((gb (Hm.kk kind key) q) ^^^ (92#8))) (ev (pt b_35 q) rfl rfl) (ev (U8 ((gb (Hm.kk kind key) q) ^^^ (92#8))) rfl rfl) rfl rfl HmacAT.sz5 r_b_35 (by omega) ?_
     clear r_b_35; intro w31 r_b_35 hg32 _
     replace r_b_33 := r_b_33.stepG hg32 (by omega)
     replace hk := thenG hk hg32 (by omega)
     replace hT := Sha.Tabs.grown hT hg32 (by omega) (by omega)
     refine wpList_nil ?_
     refine inb_n ?_
     refine then_n ?_
     refine wp_region_lit ?_
     refine w_val (y_bin (ev (.int .i64 ((q : Nat) : Int)) s1_43 rfl) (evc (.int .i64 1)) (b_add (by omega))) ?_
     refine w_mv (ev (.int .i64 (((q : Nat) : Int) + 1)) rfl rfl) ?_
     refine wpList_nil ?_
     exact then_n ⟨_, (by omega), q + 1, rfl, _, rfl, iv, s1_0, s1_1, s1_4, s1_5, s1_7, s1_8, s1_9, s1_10, s1_42, (etv (b := .int .i64 (((q : Nat) : Int) + 1)) rfl), (r_b_33.congr (fun j hj => by (try dsimp only); by_cases e : j = q; (rw [if_pos e, if_pos (by omega), e, Hm.gb_pd _ _ _ _ (by omega)]); (rw [if_neg e]; by_cases e2 : j < q; (rw [if_pos e2]; exact (if_pos (by omega)).symm); (rw [if_neg e2]; exact (if_neg (by omega)).symm)))), (r_b_35.congr (fun j hj => by (try dsimp only); by_cases e : j = q; (rw [if_pos e, if_pos (by omega), e, Hm.gb_pd _ _ _ _ (by omega)]); (rw [if_neg e]; by_cases e2 : j < q; (rw [if_pos e2]; exact (if_pos (by omega)).symm); (rw [if_neg e2]; exact (if_neg (by omega)).symm)))), hT, hk⟩
    ·skip
     refine wp_exit ?_
     refine then_x ?_
     replace r_b_33 := r_b_33.congr (g := fun j => U8 (gb (Hm.pd kind key 54#8) j)) (fun j hj => by (try dsimp only); rw [if_pos (by omega)])
     replace r_b_35 := r_b_35.congr (g := fun j => U8 (gb (Hm.pd kind key 92#8) j)) (fun j hj => by (try dsimp only); rw [if_pos (by omega)])
     refine then_x ?_
     refine inb_x ?_
     refine then_n ?_
     refine sr ?_
     refine w_val (v := .agg (arr 3 (fun j => if j < 1 then .pointer none else if j < 2 then .pointer none else .pointer none))) (y_build (vs := #[]) mp0 (fun w => by kernel_rfl)) ?_
     refine w_box (m := 3) (F := fun j => if j < 1 then .pointer none else if j < 2 then .pointer none else .pointer none) (ev (.agg (arr 3 (fun j => if j < 1 then .pointer none else if j < 2 then .pointer none else .pointer none))) rfl rfl) rfl ?_
     intro b_60 w33 hbe_b_60 r_b_60 hb34
     have ne_b_33_b_60 : b_33 ≠ b_60 := by have := r_b_33.lt; omega
     have ne_b_35_b_60 : b_35 ≠ b_60 := by have := r_b_35.lt; omega
     have ge_b_60 : w0.heap.size ≤ b_60 := by have := hk.size; omega
     clear hbe_b_60
     replace r_b_33 := r_b_33.step hb34
     replace r_b_35 := r_b_35.step hb34
     replace hk := thenB hk hb34
     replace hT := Sha.Tabs.below hT hb34
     refine w_as (ev (pt b_60 0) rfl rfl) ?_
     refine nt ?_
     refine sr ?_
     refine w_mv (ev (pt b_60 0) rfl rfl) ?_
     refine w_mv (ev (.int .i64 ((kind : Nat) : Int)) s1_0 rfl) ?_
     refine w_call (Tryd.func20) (by kernel_rfl) rfl (m1 (ev (.int .i64 ((kind : Nat) : Int)) rfl rfl)) (new_at kind w33 hkd) ?_
     rintro _ w35 ⟨pi, rfl, hge_pi, hi, hb_pi⟩
     refine ⟨_, rfl, ?_⟩
     have ne_b_33_pi : b_33 ≠ pi := by have := r_b_33.lt; omega
     have ne_b_35_pi : b_35 ≠ pi := by have := r_b_35.lt; omega
     have ne_b_60_pi : b_60 ≠ pi := by have := r_b_60.lt; omega
     have ge_pi : w0.heap.size ≤ pi := by have := hk.size; omega
     replace r_b_33 := r_b_33.step hb_pi
     replace r_b_35 := r_b_35.step hb_pi
     replace r_b_60 := r_b_60.step hb_pi
     replace hk := thenB hk hb_pi
     replace hT := Sha.Tabs.below hT hb_pi
     refine w_mv (ev (.tuple #[pt pi 0, .int .i64 0]) rfl rfl) ?_
     refine w_val (y_ext (v := pt pi 0) (ev (.tuple #[pt pi 0, .int .i64 0]) rfl rfl) rfl) ?_
     refine w_val (y_ext (v := .int .i64 0) (ev (.tuple #[pt pi 0, .int .i64 0]) rfl rfl) rfl) ?_
     refine w_val (y_nc (ev (pt b_60 0) rfl rfl)) ?_
     refine w_val (v := pt b_60 0) (y_off (y_fa (ev (pt b_60 0) rfl rfl) (HmacAT.fa65_0 _ _)) (by first | rfl | omega)) ?_
     refine w_st (v := pt pi 0) (ev (pt b_60 0) rfl rfl) (ev (pt pi 0) rfl rfl) rfl rfl HmacAT.sz31 r_b_60 (by omega) ?_
     clear r_b_60; intro w36 r_b_60 hg37 _
     replace r_b_33 := r_b_33.stepG hg37 (by omega)
     replace r_b_35 := r_b_35.stepG hg37 (by omega)
     replace hk := thenG hk hg37 (by omega)
     replace hT := Sha.Tabs.grown hT hg37 (by omega) (by omega)
     replace hi := Sha.At.grown hi hg37 (by omega)
     refine nt ?_
     refine sr ?_
     refine w_mv (ev (pt b_60 0) rfl rfl) ?_
     refine w_mv (ev (.int .i64 ((kind : Nat) : Int)) s1_0 rfl) ?_
     refine w_call (Tryd.func20) (by kernel_rfl) rfl (m1 (ev (.int .i64 ((kind : Nat) : Int)) rfl rfl)) (new_at kind w36 hkd) ?_
     rintro _ w38 ⟨po, rfl, hge_po, ho, hb_po⟩
     refine ⟨_, rfl, ?_⟩
     have ne_b_33_po : b_33 ≠ po := by have := r_b_33.lt; omega
     have ne_b_35_po : b_35 ≠ po := by have := r_b_35.lt; omega
     have ne_b_60_po : b_60 ≠ po := by have := r_b_60.lt; omega
     have ne_pi_po : pi ≠ po := by have := hi.lt; omega
     have ge_po : w0.heap.size ≤ po := by have := hk.size; omega
     replace r_b_33 := r_b_33.step hb_po
     replace r_b_35 := r_b_35.step hb_po
     replace r_b_60 := r_b_60.step hb_po
     replace hk := thenB hk hb_po
     replace hT := Sha.Tabs.below hT hb_po
     replace hi := Sha.At.below hi hb_po
     refine w_mv (ev (.tuple #[pt po 0, .int .i64 0]) rfl rfl) ?_
     refine w_val (y_ext (v := pt po 0) (ev (.tuple #[pt po 0, .int .i64 0]) rfl rfl) rfl) ?_
     refine w_val (y_ext (v := .int .i64 0) (ev (.tuple #[pt po 0, .int .i64 0]) rfl rfl) rfl) ?_
     refine w_val (y_nc (ev (pt b_60 0) rfl rfl)) ?_
     refine w_val (v := pt b_60 1) (y_off (y_fa (ev (pt b_60 0) rfl rfl) (HmacAT.fa65_1 _ _)) (by first | rfl | omega)) ?_
     refine w_st (v := pt po 0) (ev (pt b_60 1) rfl rfl) (ev (pt po 0) rfl rfl) rfl rfl HmacAT.sz31 r_b_60 (by omega) ?_
     clear r_b_60; intro w39 r_b_60 hg40 _
     replace r_b_33 := r_b_33.stepG hg40 (by omega)
     replace r_b_35 := r_b_35.stepG hg40 (by omega)
     replace hk := thenG hk hg40 (by omega)
     replace hT := Sha.Tabs.grown hT hg40 (by omega) (by omega)
     replace hi := Sha.At.grown hi hg40 (by omega)
     replace ho := Sha.At.grown ho hg40 (by omega)
     refine nt ?_
     refine wp_seq ?_
     refine region_t 6 HmacAT.mixed (by kernel_rfl) ?_
     simp only [List.take_succ_cons, List.take_zero, List.drop_succ_cons, List.drop_zero]
     refine q_mv (ev (pt b_60 0) rfl rfl) ?_
     refine q_val (fun w' hw' => y_nc (ev (pt b_60 0) rfl rfl)) ?_
     refine q_val (v := pt b_60 0) (fun w' hw' => y_off (y_fa (ev (pt b_60 0) rfl rfl) (HmacAT.fa65_0 _ _)) (by first | rfl | omega)) ?_
     refine q_val (v := pt pi 0) (fun w' hw' => y_ld (ev (pt b_60 0) rfl rfl) HmacAT.sc31 (cls_cell (r_b_60.val (by omega) ((if_neg (by omega)).trans (if_pos rfl))) r_b_60.lt w' hw')) ?_
     refine q_mv (ev (.slice (some ⟨b_33, 0, none⟩) (Sha.bs kind) (Sha.bs kind)) s1_9 rfl) ?_
     refine q_val (fun w' hw' => y_str (l := Hm.pd kind key 54#8) (ev (.slice (some ⟨b_33, 0, none⟩) (Sha.bs kind) (Sha.bs kind)) rfl rfl) (by first | rfl | assumption | (simp; omega) | omega) Tryd.underlying76 Tryd.underlying5 Tryd.underlying9 (fun j hj => by rw [Nat.zero_add]; exact (cls_cell (r_b_33.cell (by omega)) r_b_33.lt w' hw'))) ?_
     refine q_nil ?_
     intro w41 hb42
     replace r_b_33 := r_b_33.step hb42
     replace r_b_35 := r_b_35.step hb42
     replace r_b_60 := r_b_60.step hb42
     replace hk := thenB hk hb42
     replace hT := Sha.Tabs.below hT hb42
     replace hi := Sha.At.below hi hb42
     replace ho := Sha.At.below ho hb42
     have hw_ := hi
     clear hi
     refine w_call (Tryd.func24) (by kernel_rfl) rfl (m2 (ev (pt pi 0) rfl rfl) (ev (.string (str (Hm.pd kind key 54#8))) rfl rfl)) (write_l kind ([]) (Hm.pd kind key 54#8) w41 pi (by omega) hkd (by omega) hw_ hT) ?_
     rintro _ w43 ⟨rfl, hi, hgw⟩
     refine ⟨_, rfl, ?_⟩
     replace r_b_33 := r_b_33.stepG hgw (by omega)
     replace r_b_35 := r_b_35.stepG hgw (by omega)
     replace r_b_60 := r_b_60.stepG hgw (by omega)
     replace hk := thenG hk hgw (by omega)
     replace hT := Sha.Tabs.grown hT hgw (by omega) (by omega)
     replace ho := Sha.At.grown ho hgw (by omega)
     refine nt ?_
     refine wp_seq ?_
     refine region_t 6 HmacAT.mixed (by kernel_rfl) ?_
     simp only [List.take_succ_cons, List.take_zero, List.drop_succ_cons, List.drop_zero]
     refine q_mv (ev (pt b_60 0) rfl rfl) ?_
     refine q_val (fun w' hw' => y_nc (ev (pt b_60 0) rfl rfl)) ?_
     refine q_val (v := pt b_60 1) (fun w' hw' => y_off (y_fa (ev (pt b_60 0) rfl rfl) (HmacAT.fa65_1 _ _)) (by first | rfl | omega)) ?_
     refine q_val (v := pt po 0) (fun w' hw' => y_ld (ev (pt b_60 1) rfl rfl) HmacAT.sc31 (cls_cell (r_b_60.val (by omega) (if_pos rfl)) r_b_60.lt w' hw')) ?_
     refine q_mv (ev (.slice (some ⟨b_35, 0, none⟩) (Sha.bs kind) (Sha.bs kind)) s1_10 rfl) ?_
     refine q_val (fun w' hw' => y_str (l := Hm.pd kind key 92#8) (ev (.slice (some ⟨b_35, 0, none⟩) (Sha.bs kind) (Sha.bs kind)) rfl rfl) (by first | rfl | assumption | (simp; omega) | omega) Tryd.underlying76 Tryd.underlying5 Tryd.underlying9 (fun j hj => by rw [Nat.zero_add]; exact (cls_cell (r_b_35.cell (by omega)) r_b_35.lt w' hw'))) ?_
     refine q_nil ?_
     intro w44 hb45
     replace r_b_33 := r_b_33.step hb45
     replace r_b_35 := r_b_35.step hb45
     replace r_b_60 := r_b_60.step hb45
     replace hk := thenB hk hb45
     replace hT := Sha.Tabs.below hT hb45
     replace ho := Sha.At.below ho hb45
     replace hi := Sha.At.below hi hb45
     have hw_ := ho
     clear ho
     refine w_call (Tryd.func24) (by kernel_rfl) rfl (m2 (ev (pt po 0) rfl rfl) (ev (.string (str (Hm.pd kind key 92#8))) rfl rfl)) (write_l kind ([]) (Hm.pd kind key 92#8) w44 po (by omega) hkd (by omega) hw_ hT) ?_
     rintro _ w46 ⟨rfl, ho, hgw⟩
     refine ⟨_, rfl, ?_⟩
     replace r_b_33 := r_b_33.stepG hgw (by omega)
     replace r_b_35 := r_b_35.stepG hgw (by omega)
     replace r_b_60 := r_b_60.stepG hgw (by omega)
     replace hk := thenG hk hgw (by omega)
     replace hT := Sha.Tabs.grown hT hgw (by omega) (by omega)
     replace hi := Sha.At.grown hi hgw (by omega)
     refine nt ?_
     refine sr ?_
     refine w_mv (ev (pt b_60 0) rfl rfl) ?_
     refine w_mv (ev (pt b_60 0) rfl rfl) ?_
     refine w_val (y_nc (ev (pt b_60 0) rfl rfl)) ?_
     refine w_val (v := pt b_60 0) (y_off (y_fa (ev (pt b_60 0) rfl rfl) (HmacAT.fa65_0 _ _)) (by first | rfl | omega)) ?_
     refine w_val (v := pt pi 0) (y_ld (ev (pt b_60 0) rfl rfl) HmacAT.sc31 (r_b_60.val (by omega) ((if_neg (by omega)).trans (if_pos rfl)))) ?_
     refine w_call (Tryd.func25) (by kernel_rfl) rfl (m1 (ev (pt pi 0) rfl rfl)) (copy_l kind (([]) ++ (Hm.pd kind key 54#8)) w46 pi (by omega) hkd hi) ?_
     rintro _ w47 ⟨pn, rfl, hge_pn, hn, hb_pn⟩
     refine ⟨_, rfl, ?_⟩
     have ne_b_33_pn : b_33 ≠ pn := by have := r_b_33.lt; omega
     have ne_b_35_pn : b_35 ≠ pn := by have := r_b_35.lt; omega
     have ne_b_60_pn : b_60 ≠ pn := by have := r_b_60.lt; omega
     have ne_pi_pn : pi ≠ pn := by have := hi.lt; omega
     have ne_po_pn : po ≠ pn := by have := ho.lt; omega
     have ge_pn : w0.heap.size ≤ pn := by have := hk.size; omega
     replace r_b_33 := r_b_33.step hb_pn
     replace r_b_35 := r_b_35.step hb_pn
     replace r_b_60 := r_b_60.step hb_pn
     replace hk := thenB hk hb_pn
     replace hT := Sha.Tabs.below hT hb_pn
     replace hi := Sha.At.below hi hb_pn
     replace ho := Sha.At.below ho hb_pn
     refine w_val (y_nc (ev (pt b_60 0) rfl rfl)) ?_
     refine w_val (v := pt b_60 2) (y_off (y_fa (ev (pt b_60 0) rfl rfl) (HmacAT.fa65_2 _ _)) (by first | rfl | omega)) ?_
     refine w_st (v := pt pn 0) (ev (pt b_60 2) rfl rfl) (ev (pt pn 0) rfl rfl) rfl rfl HmacAT.sz31 r_b_60 (by omega) ?_
     clear r_b_60; intro w48 r_b_60 hg49 _
     replace r_b_33 := r_b_33.stepG hg49 (by omega)
     replace r_b_35 := r_b_35.stepG hg49 (by omega)
     replace hk := thenG hk hg49 (by omega)
     replace hT := Sha.Tabs.grown hT hg49 (by omega) (by omega)
     replace hi := Sha.At.grown hi hg49 (by omega)
     replace ho := Sha.At.grown ho hg49 (by omega)
     replace hn := Sha.At.grown hn hg49 (by omega)
     refine nt ?_
     refine sr ?_
     refine w_mv (ev (pt b_60 0) rfl rfl) ?_
     refine w_as (ev (pt b_60 0) rfl rfl) ?_
     refine w_as (evc (.int .i64 0)) ?_
     refine nt ?_
     refine wp_ret ?_
     refine fin_ret2 rfl (ev (pt b_60 0) rfl rfl) (ev (.int .i64 0) rfl rfl) ?_
     simp only [List.nil_append] at hi ho hn
     exact ⟨b_60, pi, po, pn, rfl, ge_b_60, ge_pi, ge_po, ge_pn, ne_pi_po, ne_pi_pn, ne_po_pn, ne_b_60_pi, ne_b_60_po, ne_b_60_pn, r_b_60.congr (fun j hj => by rcases (by omega : j = 0 ∨ j = 1 ∨ j = 2) with h | h | h <;> subst h <;> rfl), hi, ho, hn, hk⟩

set_option maxRecDepth 100000 in
set_option maxHeartbeats 1000000 in
theorem macNew_no (k : Int) (k1 : k ≠ 256) (k2 : k ≠ 384) (k3 : k ≠ 512) (key : List (BitVec 8)) (w0 : World) : Calls Tryd.prog 30 #[.int .i64 k, .string (str key)] w0 fun e w' => e = .returned (.tuple #[.pointer none, .int .i64 11]) ∧ Below w0.heap.size w0 w' := by
 refine enter (n := 100) Tryd.func30 rfl rfl rfl ?_
 have hk : Below w0.heap.size w0 w0 := Below.refl _ _
 refine sr ?_
 refine w_as (evc (.pointer none)) ?_
 refine w_as (evc (.int .i64 0)) ?_
 refine nt ?_
 refine sr ?_
 refine w_mv (ev (.int .i64 k) rfl rfl) ?_
 refine w_call (Tryd.func19) (by kernel_rfl) rfl (m1 (ev (.int .i64 k) rfl rfl)) (shaSize_no k k1 k2 k3  w0 ) ?_
 rintro _ w1 ⟨rfl, hb2⟩
 refine ⟨_, rfl, ?_⟩
 replace hk := thenB hk hb2
 refine w_mv (ev (.tuple #[.int .i64 0, .int .i64 0, .int .i64 11]) rfl rfl) ?_
 refine w_val (y_ext (v := .int .i64 0) (ev (.tuple #[.int .i64 0, .int .i64 0, .int .i64 11]) rfl rfl) rfl) ?_
 refine w_val (y_ext (v := .int .i64 0) (ev (.tuple #[.int .i64 0, .int .i64 0, .int .i64 11]) rfl rfl) rfl) ?_
 refine w_val (y_ext (v := .int .i64 11) (ev (.tuple #[.int .i64 0, .int .i64 0, .int .i64 11]) rfl rfl) rfl) ?_
 refine w_as (ev (.int .i64 0) rfl rfl) ?_
 refine w_as (ev (.int .i64 0) rfl rfl) ?_
 refine w_as (ev (.int .i64 11) rfl rfl) ?_
 refine nt ?_
 refine wp_seq ?_
 refine sr ?_
 refine w_mv (ev (.int .i64 11) rfl rfl) ?_
 refine w_val (y_bin (ev (.int .i64 11) rfl rfl) (evc (.int .i64 0)) b_neq) ?_
 refine nt ?_
 refine c_tt (ev (.bool true) rfl rfl) ?_
 refine sr ?_
 refine w_mv (ev (.int .i64 11) rfl rfl) ?_
 refine w_as (evc (.pointer none)) ?_
 refine w_as (ev (.int .i64 11) rfl rfl) ?_
 refine nt ?_
 refine wp_ret ?_
 refine then_r ?_
 refine fin_ret2 rfl (ev (.pointer none) rfl rfl) (ev (.int .i64 11) rfl rfl) ?_
 exact ⟨rfl, hk⟩
end Go.Proofs.YtieepglpejlkoaaDoor
