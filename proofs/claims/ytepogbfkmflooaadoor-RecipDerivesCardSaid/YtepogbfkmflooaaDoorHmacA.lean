/-
  Digests with a key: a new one. Conditions as each says.
-/
import Derived.Test.YtepogbfkmflooaaDoorRows
import Derived.Test.YtepogbfkmflooaaDoorAesBase
import Derived.Test.YtepogbfkmflooaaDoorGenSh
import Derived.ProofKit
namespace Go.Proofs.YtepogbfkmflooaaDoor
open Go.RowKit
set_option linter.unusedSimpArgs false
set_option linter.unusedVariables false
set_option maxRecDepth 100000
set_option maxHeartbeats 1000000
namespace HmacAT
theorem mixed : Tryd.prog.follows .mixedOrders = true := by kernel_rfl
theorem fa79_0 (g off : Nat) : ∀ w, (Instr.fieldAt 79 (.pointer (some ⟨g, off, none⟩)) 0).run Tryd.prog w = .ok (.pointer (some ⟨g, off + 0, none⟩)) w := fun w => by kernel_rfl
theorem fa79_1 (g off : Nat) : ∀ w, (Instr.fieldAt 79 (.pointer (some ⟨g, off, none⟩)) 1).run Tryd.prog w = .ok (.pointer (some ⟨g, off + 1, none⟩)) w := fun w => by kernel_rfl
theorem fa79_2 (g off : Nat) : ∀ w, (Instr.fieldAt 79 (.pointer (some ⟨g, off, none⟩)) 2).run Tryd.prog w = .ok (.pointer (some ⟨g, off + 2, none⟩)) w := fun w => by kernel_rfl
theorem sc5 : (Tryd.prog.underlying 5).map scal = some true := by rw [Tryd.underlying5]; rfl
theorem sc77 : (Tryd.prog.underlying 77).map scal = some true := by rw [Tryd.underlying77]; rfl
theorem sz5 : (Tryd.prog.info? 5).map (·.size) = some 1 := by kernel_rfl
theorem sz77 : (Tryd.prog.info? 77).map (·.size) = some 1 := by kernel_rfl
end HmacAT
theorem macNew_l (kind : Nat) (hkd : Sha.Known kind) (key : List (BitVec 8)) (hs : key.length ≤ 140737488351232) (w0 : World) (hT : Sha.Tabs w0) : Calls Tryd.prog 27 #[.int .i64 ((kind : Nat) : Int), .string (str key)] w0 fun e w' => ∃ m pi po pn, e = .returned (.tuple #[.pointer (some ⟨m, 0, none⟩), .int .i64 0]) ∧ w0.heap.size ≤ m ∧ w0.heap.size ≤ pi ∧ w0.heap.size ≤ po ∧ w0.heap.size ≤ pn ∧ pi ≠ po ∧ pi ≠ pn ∧ po ≠ pn ∧ m ≠ pi ∧ m ≠ po ∧ m ≠ pn ∧ Row w' m 79 3 (fun j => if j < 1 then pt pi 0 else if j < 2 then pt po 0 else pt pn 0) ∧ Sha.At w' pi kind (Hm.pd kind key 54#8) ∧ Sha.At w' po kind (Hm.pd kind key 92#8) ∧ Sha.At w' pn kind (Hm.pd kind key 54#8) ∧ Below w0.heap.size w0 w' := by
 have hT0 := hT.lt
 have hbs := Sha.bs_le kind
 have hkl := Hm.kk_len kind key
 have hp54 := Hm.pd_len kind key 54#8
 have hp92 := Hm.pd_len kind key 92#8
 refine enter (n := 100) Tryd.func27 rfl rfl rfl ?_
 have hk : Below w0.heap.size w0 w0 := Below.refl _ _
 refine sr (w_as Ev.c (w_as Ev.c (nt (sr (w_mv ei (w_call (Tryd.func37) kr rfl (m1 ei) (size_l kind  w0 hkd) ?_))))))
 rintro _ w1 ⟨rfl, hb2⟩
 refine ⟨_, rfl, ?_⟩
 replace hk := thenB hk hb2
 replace hT := Sha.Tabs.below hT hb2
 refine w_mv (ex (.tuple #[.int .i64 ((Sha.ol kind : Nat) : Int), .int .i64 ((Sha.bs kind : Nat) : Int), .int .i64 0])) (w_val ye (w_val ye (w_val ye (w_as ei (w_as ei (w_as ei (nt (wp_seq (sr (w_mv ei (w_val (y_bin ei Ev.c b_neq) (nt (c_ff eb (wp_skip (then_n ?_)))))))))))))))
 refine c_cut (fun aN wl => ∃ f3, aN = fr 100 f3 ∧ f3 0 = .int .i64 ((kind : Nat) : Int) ∧ f3 1 = .string (str (Hm.kk kind key)) ∧ f3 4 = .pointer none ∧ f3 5 = .int .i64 0 ∧ f3 7 = .int .i64 ((Sha.bs kind : Nat) : Int) ∧ Sha.Tabs wl ∧ Below w0.heap.size w0 wl) ?_ ?_
 ·skip
  refine sr (w_mv es (w_val (y_len es Tryd.underlying9) (w_mv ei (w_val (y_bin ei ei b_gtr) (nt ?_)))))
  refine c_if (p := ((Sha.bs kind : Nat) : Int) < ((key.length : Nat) : Int)) eb (fun hc5 => ?_) (fun hc5 => ?_)
  ·skip
   refine wp_region_lit (w_mv ei (w_mv es (w_call (Tryd.func47) kr rfl (m2 ei es) (shaText_l kind hkd key om w1 hT) ?_)))
   rintro _ w6 ⟨rfl, hb7⟩
   refine ⟨_, rfl, ?_⟩
   replace hk := thenB hk hb7
   replace hT := Sha.Tabs.below hT hb7
   refine w_mv (ex (.tuple #[.string (str (Sha.sum kind key)), .int .i64 0])) (w_val ye (w_val ye (w_as es (wpList_nil ?_))))
   exact then_n ⟨_, rfl, rfl, (Eq.trans (b := .string (str (Sha.sum kind key))) rfl (by first | exact congrArg (fun l => Value.string (str l)) (if_pos om).symm | exact congrArg (fun l => Value.string (str l)) (if_neg om).symm)), rfl, rfl, rfl, hT, hk⟩
  ·skip
   refine wp_skip ?_
   exact then_n ⟨_, rfl, rfl, (Eq.trans (b := .string (str key)) rfl (by first | exact congrArg (fun l => Value.string (str l)) (if_pos om).symm | exact congrArg (fun l => Value.string (str l)) (if_neg om).symm)), rfl, rfl, rfl, hT, hk⟩
 ·skip
  clear hT hk
  rintro _ w8 ⟨f3, rfl, t4_s0, t4_s1, t4_s4, t4_s5, t4_s7, hT, hk⟩
  refine c_cut (fun aN wl => ∃ (b_33 : Nat) (b_35 : Nat), ∃ f9, aN = fr 100 f9 ∧ (w0.heap.size ≤ b_33) ∧ (w0.heap.size ≤ b_35) ∧ (b_33 ≠ b_35) ∧ f9 0 = .int .i64 ((kind : Nat) : Int) ∧ f9 1 = .string (str (Hm.kk kind key)) ∧ f9 4 = .pointer none ∧ f9 5 = .int .i64 0 ∧ f9 7 = .int .i64 ((Sha.bs kind : Nat) : Int) ∧ f9 9 = .slice (some ⟨b_33, 0, none⟩) (Sha.bs kind) (Sha.bs kind) ∧ f9 10 = .slice (some ⟨b_35, 0, none⟩) (Sha.bs kind) (Sha.bs kind) ∧ Row wl b_33 5 (Sha.bs kind) (fun j => U8 (0#8)) ∧ Row wl b_35 5 (Sha.bs kind) (fun j => U8 (0#8)) ∧ Sha.Tabs wl ∧ Below w0.heap.size w0 wl) ?_ ?_
  ·skip
   refine region_dc (Nat.testBit 0) 6 HmacAT.mixed rfl ?_
   intro w11 hb12
   replace hk := thenB hk hb12
   replace hT := Sha.Tabs.below hT hb12
   have hS : Cls w11 w11 := Below.refl _ _
   refine dp 0 rfl (fun w' => y_mv (ei t4_s7)) (dp 2 rfl (fun w' => y_mv (ei t4_s7)) ?_)
   refine d_two 1 3 kr rfl rfl ?_ ?_
   ·skip
    refine w_mks (m := (Sha.bs kind)) (bytes := 1) (zv := U8 (0#8)) ei ei om om Tryd.underlying63 kr rfl om om ?_
    intro b_33 w13 hbe_b_33 r_b_33 hb14
    have ge_b_33 := gb_ hk.size hbe_b_33
    clear hbe_b_33
    replace hk := thenB hk hb14
    replace hT := Sha.Tabs.below hT hb14
    replace hS := thenB hS hb14
    refine wpList_nil ?_
    refine then_n ⟨fun _ h => thenB h (by assumption), ?_⟩
    refine dp 4 rfl (fun w' => y_as el) (d_one 3 kr rfl (w_mks (m := (Sha.bs kind)) (bytes := 1) (zv := U8 (0#8)) ei ei om om Tryd.underlying63 kr rfl om om ?_))
    intro b_35 w15 hbe_b_35 r_b_35 hb16
    have ne_b_33_b_35 := r_b_33.nb hbe_b_35
    have ge_b_35 := gb_ hk.size hbe_b_35
    clear hbe_b_35
    replace r_b_33 := r_b_33.step hb16
    replace hk := thenB hk hb16
    replace hT := Sha.Tabs.below hT hb16
    replace hS := thenB hS hb16
    refine wpList_nil ?_
    refine then_n ⟨fun _ h => thenB h (by assumption), ?_⟩
    refine dp 5 rfl (fun w' => y_as el) (d_done kr ?_)
    clear hS
    exact then_n ⟨b_33, b_35, _, rfl, iv, iv, iv, t4_s0, t4_s1, t4_s4, t4_s5, t4_s7, rfl, rfl, r_b_33, r_b_35, hT, hk⟩
   ·skip
    refine w_mks (m := (Sha.bs kind)) (bytes := 1) (zv := U8 (0#8)) ei ei om om Tryd.underlying63 kr rfl om om ?_
    intro b_35 w17 hbe_b_35 r_b_35 hb18
    have ge_b_35 := gb_ hk.size hbe_b_35
    clear hbe_b_35
    replace hk := thenB hk hb18
    replace hT := Sha.Tabs.below hT hb18
    replace hS := thenB hS hb18
    refine wpList_nil ?_
    refine then_n ⟨fun _ h => thenB h (by assumption), ?_⟩
    refine d_one 1 kr rfl (w_mks (m := (Sha.bs kind)) (bytes := 1) (zv := U8 (0#8)) ei ei om om Tryd.underlying63 kr rfl om om ?_)
    intro b_33 w19 hbe_b_33 r_b_33 hb20
    have ne_b_35_b_33 := r_b_35.nb hbe_b_33
    have ge_b_33 := gb_ hk.size hbe_b_33
    clear hbe_b_33
    replace r_b_35 := r_b_35.step hb20
    replace hk := thenB hk hb20
    replace hT := Sha.Tabs.below hT hb20
    replace hS := thenB hS hb20
    refine wpList_nil ?_
    refine then_n ⟨fun _ h => thenB h (by assumption), ?_⟩
    refine dp 4 rfl (fun w' => y_as el) (dp 5 rfl (fun w' => y_as el) (d_done kr ?_))
    clear hS
    exact then_n ⟨b_33, b_35, _, rfl, iv, iv, iv, t4_s0, t4_s1, t4_s4, t4_s5, t4_s7, rfl, rfl, r_b_33, r_b_35, hT, hk⟩
  ·skip
   clear hT hk
   rintro _ w21 ⟨b_33, b_35, f9, rfl, t10_0, t10_1, t10_2, t10_s0, t10_s1, t10_s4, t10_s5, t10_s7, t10_s9, t10_s10, r_b_33, r_b_35, hT, hk⟩
   refine sr (w_mv (el t10_s9) (w_mv (es t10_s1) (w_copys (l := Hm.kk kind key) el es Tryd.underlying63 HmacAT.sz5 r_b_33 om ?_)))
   clear r_b_33; intro w22 r_b_33 hg23 _
   replace r_b_35 := r_b_35.stepG hg23 om
   replace hk := thenG hk hg23 om
   replace hT := Sha.Tabs.grown hT hg23 om om
   refine nt (sr (w_mv (el t10_s10) (w_mv (es t10_s1) (w_copys (l := Hm.kk kind key) el es Tryd.underlying63 HmacAT.sz5 r_b_35 om ?_))))
   clear r_b_35; intro w24 r_b_35 hg25 _
   replace r_b_33 := r_b_33.stepG hg25 om
   replace hk := thenG hk hg25 om
   replace hT := Sha.Tabs.grown hT hg25 om om
   refine nt (ss ?_)
   replace r_b_33 := r_b_33.congr (g := fun j => U8 (gb (Hm.kk kind key) j)) (fun j hj => by (try dsimp only); by_cases e : j < (Hm.kk kind key).length; (rw [if_pos ⟨Nat.zero_le _, by omega⟩, Nat.sub_zero]); (rw [if_neg om, gb_out _ _ om]))
   replace r_b_35 := r_b_35.congr (g := fun j => U8 (gb (Hm.kk kind key) j)) (fun j hj => by (try dsimp only); by_cases e : j < (Hm.kk kind key).length; (rw [if_pos ⟨Nat.zero_le _, by omega⟩, Nat.sub_zero]); (rw [if_neg om, gb_out _ _ om]))
   refine wp_region_lit (w_mv (ei t10_s7) (w_mv Ev.c (nt (wp_block ?_))))
   refine c_loop (fun dN aN wl => ∃ (q : Nat), dN = (Sha.bs kind - q) ∧ ∃ f26, aN = fr 100 f26 ∧ (q ≤ Sha.bs kind) ∧ f26 0 = .int .i64 ((kind : Nat) : Int) ∧ f26 4 = .pointer none ∧ f26 5 = .int .i64 0 ∧ f26 9 = .slice (some ⟨b_33, 0, none⟩) (Sha.bs kind) (Sha.bs kind) ∧ f26 10 = .slice (some ⟨b_35, 0, none⟩) (Sha.bs kind) (Sha.bs kind) ∧ f26 42 = .int .i64 ((Sha.bs kind : Nat) : Int) ∧ f26 43 = .int .i64 ((q : Nat) : Int) ∧ Row wl b_33 5 (Sha.bs kind) (fun j => if j < q then (fun j => U8 (gb (Hm.pd kind key 54#8) j)) j else (fun j => U8 (gb (Hm.kk kind key) j)) j) ∧ Row wl b_35 5 (Sha.bs kind) (fun j => if j < q then (fun j => U8 (gb (Hm.pd kind key 92#8) j)) j else (fun j => U8 (gb (Hm.kk kind key) j)) j) ∧ Sha.Tabs wl ∧ Below w0.heap.size w0 wl) (Sha.bs kind - 0) ?_ ?_
   · exact ⟨0, rfl, _, rfl, iv, t10_s0, t10_s4, t10_s5, t10_s9, t10_s10, rfl, ti, (r_b_33.cg), (r_b_35.cg), hT, hk⟩
   ·skip
    clear r_b_33 r_b_35 hT hk
    rintro _ _ w27 ⟨q, rfl, f26, rfl, i1_0, s1_0, s1_4, s1_5, s1_9, s1_10, s1_42, s1_43, r_b_33, r_b_35, hT, hk⟩
    refine sr (w_val (y_bin (ei s1_43) (ei s1_42) b_lss) (nt (wp_seq ?_)))
    refine c_if (p := ((q : Nat) : Int) < ((Sha.bs kind : Nat) : Int)) eb (fun hc28 => ?_) (fun hc28 => ?_)
    ·skip
     refine wp_skip (then_n (wp_seq (wp_block (sr (w_mv (ei s1_43) (w_as ei (nt (sr (w_mv (el s1_9) (w_mv ei (w_val (y_is1z (i := q) el ei Tryd.underlying63 HmacAT.sz5 om om) (w_val (v := U8 (gb (Hm.kk kind key) q)) (y_ld (ex (pt b_33 q)) HmacAT.sc5 (r_b_33.val om (ng rfl))) (w_val (y_bin e8 (evc (U8 (54#8))) xor8) (w_val (y_is1z (i := q) el ei Tryd.underlying63 HmacAT.sz5 om om) (w_st (v := U8 ((gb (Hm.kk kind key) q) ^^^ (54#8))) (ex (pt b_33 q)) e8 rfl rfl HmacAT.sz5 r_b_33 om ?_)))))))))))))))
     clear r_b_33; intro w29 r_b_33 hg30 _
     replace r_b_35 := r_b_35.stepG hg30 om
     replace hk := thenG hk hg30 om
     replace hT := Sha.Tabs.grown hT hg30 om om
     refine nt (wp_region_lit (w_mv (el s1_10) (w_mv ei (w_val (y_is1z (i := q) el ei Tryd.underlying63 HmacAT.sz5 om om) (w_val (v := U8 (gb (Hm.kk kind key) q)) (y_ld (ex (pt b_35 q)) HmacAT.sc5 (r_b_35.val om (ng rfl))) (w_val (y_bin e8 (evc (U8 (92#8))) xor8) (w_val (y_is1z (i := q) el ei Tryd.underlying63 HmacAT.sz5 om om) (w_st (v := U8 ((gb (Hm.kk kind key) q) ^^^ (92#8))) (ex (pt b_35 q)) e8 rfl rfl HmacAT.sz5 r_b_35 om ?_))))))))
     clear r_b_35; intro w31 r_b_35 hg32 _
     replace r_b_33 := r_b_33.stepG hg32 om
     replace hk := thenG hk hg32 om
     replace hT := Sha.Tabs.grown hT hg32 om om
     refine wpList_nil (inb_n (then_n (wp_region_lit (w_val (y_bin (ei s1_43) Ev.c (b_add om)) (w_mv ei (wpList_nil ?_))))))
     exact then_n ⟨_, om, q + 1, rfl, _, rfl, iv, s1_0, s1_4, s1_5, s1_9, s1_10, s1_42, ti, (r_b_33.congr (fun j hj => by (try dsimp only); by_cases e : j = q; (rw [if_pos e, if_pos om, e, Hm.gb_pd _ _ _ _ om]); (rw [if_neg e]; by_cases e2 : j < q; (rw [if_pos e2]; exact (if_pos om).symm); (rw [if_neg e2]; exact (if_neg om).symm)))), (r_b_35.congr (fun j hj => by (try dsimp only); by_cases e : j = q; (rw [if_pos e, if_pos om, e, Hm.gb_pd _ _ _ _ om]); (rw [if_neg e]; by_cases e2 : j < q; (rw [if_pos e2]; exact (if_pos om).symm); (rw [if_neg e2]; exact (if_neg om).symm)))), hT, hk⟩
    ·skip
     refine wp_exit (then_x ?_)
     replace r_b_33 := r_b_33.congr (g := fun j => U8 (gb (Hm.pd kind key 54#8) j)) (fun j hj => by (try dsimp only); rw [if_pos om])
     replace r_b_35 := r_b_35.congr (g := fun j => U8 (gb (Hm.pd kind key 92#8) j)) (fun j hj => by (try dsimp only); rw [if_pos om])
     refine then_x (inb_x (then_n (sr (w_val (v := .agg (arr 3 (fun j => if j < 1 then .pointer none else if j < 2 then .pointer none else .pointer none))) (y_build (vs := #[]) mp0 (fun w => by kernel_rfl)) (w_box (m := 3) (F := fun j => if j < 1 then .pointer none else if j < 2 then .pointer none else .pointer none) ea rfl ?_)))))
     intro b_60 w33 hbe_b_60 r_b_60 hb34
     have ne_b_33_b_60 := r_b_33.nb hbe_b_60
     have ne_b_35_b_60 := r_b_35.nb hbe_b_60
     have ge_b_60 := gb_ hk.size hbe_b_60
     clear hbe_b_60
     replace r_b_33 := r_b_33.step hb34
     replace r_b_35 := r_b_35.step hb34
     replace hk := thenB hk hb34
     replace hT := Sha.Tabs.below hT hb34
     refine w_as (ex (pt b_60 0)) (nt (sr (w_mv (ex (pt b_60 0)) (w_mv (ei s1_0) (w_call (Tryd.func48) kr rfl (m1 ei) (new_at kind w33 hkd) ?_)))))
     rintro _ w35 ⟨pi, rfl, hge_pi, hi, hb_pi⟩
     refine ⟨_, rfl, ?_⟩
     have ne_b_33_pi : b_33 ≠ pi := by have := r_b_33.lt; omega
     have ne_b_35_pi : b_35 ≠ pi := by have := r_b_35.lt; omega
     have ne_b_60_pi : b_60 ≠ pi := by have := r_b_60.lt; omega
     have ge_pi : w0.heap.size ≤ pi := by have := hk.size; omega
     replace r_b_33 := r_b_33.step hb_pi
     replace r_b_35 := r_b_35.step hb_pi
     replace r_b_60 := r_b_60.step hb_pi
     replace hk := thenB hk hb_pi
     replace hT := Sha.Tabs.below hT hb_pi
     refine w_mv (ex (.tuple #[pt pi 0, .int .i64 0])) (w_val ye (w_val ye (w_val (y_nc (ex (pt b_60 0))) (w_val (v := pt b_60 0) (y_off (y_fa (ex (pt b_60 0)) (HmacAT.fa79_0 _ _)) ro) (w_st (v := pt pi 0) (ex (pt b_60 0)) (ex (pt pi 0)) rfl rfl HmacAT.sz77 r_b_60 om ?_)))))
     clear r_b_60; intro w36 r_b_60 hg37 _
     replace r_b_33 := r_b_33.stepG hg37 om
     replace r_b_35 := r_b_35.stepG hg37 om
     replace hk := thenG hk hg37 om
     replace hT := Sha.Tabs.grown hT hg37 om om
     replace hi := Sha.At.grown hi hg37 om
     refine nt (sr (w_mv (ex (pt b_60 0)) (w_mv (ei s1_0) (w_call (Tryd.func48) kr rfl (m1 ei) (new_at kind w36 hkd) ?_))))
     rintro _ w38 ⟨po, rfl, hge_po, ho, hb_po⟩
     refine ⟨_, rfl, ?_⟩
     have ne_b_33_po : b_33 ≠ po := by have := r_b_33.lt; omega
     have ne_b_35_po : b_35 ≠ po := by have := r_b_35.lt; omega
     have ne_b_60_po : b_60 ≠ po := by have := r_b_60.lt; omega
     have ne_pi_po : pi ≠ po := by have := hi.lt; omega
     have ge_po : w0.heap.size ≤ po := by have := hk.size; omega
     replace r_b_33 := r_b_33.step hb_po
     replace r_b_35 := r_b_35.step hb_po
     replace r_b_60 := r_b_60.step hb_po
     replace hk := thenB hk hb_po
     replace hT := Sha.Tabs.below hT hb_po
     replace hi := Sha.At.below hi hb_po
     refine w_mv (ex (.tuple #[pt po 0, .int .i64 0])) (w_val ye (w_val ye (w_val (y_nc (ex (pt b_60 0))) (w_val (v := pt b_60 1) (y_off (y_fa (ex (pt b_60 0)) (HmacAT.fa79_1 _ _)) ro) (w_st (v := pt po 0) (ex (pt b_60 1)) (ex (pt po 0)) rfl rfl HmacAT.sz77 r_b_60 om ?_)))))
     clear r_b_60; intro w39 r_b_60 hg40 _
     replace r_b_33 := r_b_33.stepG hg40 om
     replace r_b_35 := r_b_35.stepG hg40 om
     replace hk := thenG hk hg40 om
     replace hT := Sha.Tabs.grown hT hg40 om om
     replace hi := Sha.At.grown hi hg40 om
     replace ho := Sha.At.grown ho hg40 om
     refine nt (wp_seq (region_t 6 HmacAT.mixed kr ?_))
     simp only [List.take_succ_cons, List.take_zero, List.drop_succ_cons, List.drop_zero]
     refine q_mv (ex (pt b_60 0)) (q_val (fun w' hw' => y_nc (ex (pt b_60 0))) (q_val (v := pt b_60 0) (fun w' hw' => y_off (y_fa (ex (pt b_60 0)) (HmacAT.fa79_0 _ _)) ro) (q_val (v := pt pi 0) (fun w' hw' => y_ld (ex (pt b_60 0)) HmacAT.sc77 (cls_cell (r_b_60.val om (ng (if_pos rfl))) r_b_60.lt w' hw')) (q_mv (el s1_9) (q_val (fun w' hw' => y_str (l := Hm.pd kind key 54#8) el (by first | rfl | assumption | (simp; omega) | omega) Tryd.underlying63 Tryd.underlying5 Tryd.underlying9 (fun j hj => by rw [Nat.zero_add]; exact (cls_cell (r_b_33.cell om) r_b_33.lt w' hw'))) (q_nil ?_))))))
     intro w41 hb42
     replace r_b_33 := r_b_33.step hb42
     replace r_b_35 := r_b_35.step hb42
     replace r_b_60 := r_b_60.step hb42
     replace hk := thenB hk hb42
     replace hT := Sha.Tabs.below hT hb42
     replace hi := Sha.At.below hi hb42
     replace ho := Sha.At.below ho hb42
     have hw_ := hi
     clear hi
     refine w_call (Tryd.func49) kr rfl (m2 (ex (pt pi 0)) es) (write_l kind ([]) (Hm.pd kind key 54#8) w41 pi om hkd om hw_ hT) ?_
     rintro _ w43 ⟨rfl, hi, hgw⟩
     refine ⟨_, rfl, ?_⟩
     replace r_b_33 := r_b_33.stepG hgw om
     replace r_b_35 := r_b_35.stepG hgw om
     replace r_b_60 := r_b_60.stepG hgw om
     replace hk := thenG hk hgw om
     replace hT := Sha.Tabs.grown hT hgw om om
     replace ho := Sha.At.grown ho hgw om
     refine nt (wp_seq (region_t 6 HmacAT.mixed kr ?_))
     simp only [List.take_succ_cons, List.take_zero, List.drop_succ_cons, List.drop_zero]
     refine q_mv (ex (pt b_60 0)) (q_val (fun w' hw' => y_nc (ex (pt b_60 0))) (q_val (v := pt b_60 1) (fun w' hw' => y_off (y_fa (ex (pt b_60 0)) (HmacAT.fa79_1 _ _)) ro) (q_val (v := pt po 0) (fun w' hw' => y_ld (ex (pt b_60 1)) HmacAT.sc77 (cls_cell (r_b_60.val om (if_pos rfl)) r_b_60.lt w' hw')) (q_mv (el s1_10) (q_val (fun w' hw' => y_str (l := Hm.pd kind key 92#8) el (by first | rfl | assumption | (simp; omega) | omega) Tryd.underlying63 Tryd.underlying5 Tryd.underlying9 (fun j hj => by rw [Nat.zero_add]; exact (cls_cell (r_b_35.cell om) r_b_35.lt w' hw'))) (q_nil ?_))))))
     intro w44 hb45
     replace r_b_33 := r_b_33.step hb45
     replace r_b_35 := r_b_35.step hb45
     replace r_b_60 := r_b_60.step hb45
     replace hk := thenB hk hb45
     replace hT := Sha.Tabs.below hT hb45
     replace ho := Sha.At.below ho hb45
     replace hi := Sha.At.below hi hb45
     have hw_ := ho
     clear ho
     refine w_call (Tryd.func49) kr rfl (m2 (ex (pt po 0)) es) (write_l kind ([]) (Hm.pd kind key 92#8) w44 po om hkd om hw_ hT) ?_
     rintro _ w46 ⟨rfl, ho, hgw⟩
     refine ⟨_, rfl, ?_⟩
     replace r_b_33 := r_b_33.stepG hgw om
     replace r_b_35 := r_b_35.stepG hgw om
     replace r_b_60 := r_b_60.stepG hgw om
     replace hk := thenG hk hgw om
     replace hT := Sha.Tabs.grown hT hgw om om
     replace hi := Sha.At.grown hi hgw om
     refine nt (sr (w_mv (ex (pt b_60 0)) (w_mv (ex (pt b_60 0)) (w_val (y_nc (ex (pt b_60 0))) (w_val (v := pt b_60 0) (y_off (y_fa (ex (pt b_60 0)) (HmacAT.fa79_0 _ _)) ro) (w_val (v := pt pi 0) (y_ld (ex (pt b_60 0)) HmacAT.sc77 (r_b_60.val om (ng (if_pos rfl)))) (w_call (Tryd.func50) kr rfl (m1 (ex (pt pi 0))) (copy_l kind (([]) ++ (Hm.pd kind key 54#8)) w46 pi om hkd hi) ?_)))))))
     rintro _ w47 ⟨pn, rfl, hge_pn, hn, hb_pn⟩
     refine ⟨_, rfl, ?_⟩
     have ne_b_33_pn : b_33 ≠ pn := by have := r_b_33.lt; omega
     have ne_b_35_pn : b_35 ≠ pn := by have := r_b_35.lt; omega
     have ne_b_60_pn : b_60 ≠ pn := by have := r_b_60.lt; omega
     have ne_pi_pn : pi ≠ pn := by have := hi.lt; omega
     have ne_po_pn : po ≠ pn := by have := ho.lt; omega
     have ge_pn : w0.heap.size ≤ pn := by have := hk.size; omega
     replace r_b_33 := r_b_33.step hb_pn
     replace r_b_35 := r_b_35.step hb_pn
     replace r_b_60 := r_b_60.step hb_pn
     replace hk := thenB hk hb_pn
     replace hT := Sha.Tabs.below hT hb_pn
     replace hi := Sha.At.below hi hb_pn
     replace ho := Sha.At.below ho hb_pn
     refine w_val (y_nc (ex (pt b_60 0))) (w_val (v := pt b_60 2) (y_off (y_fa (ex (pt b_60 0)) (HmacAT.fa79_2 _ _)) ro) (w_st (v := pt pn 0) (ex (pt b_60 2)) (ex (pt pn 0)) rfl rfl HmacAT.sz77 r_b_60 om ?_))
     clear r_b_60; intro w48 r_b_60 hg49 _
     replace r_b_33 := r_b_33.stepG hg49 om
     replace r_b_35 := r_b_35.stepG hg49 om
     replace hk := thenG hk hg49 om
     replace hT := Sha.Tabs.grown hT hg49 om om
     replace hi := Sha.At.grown hi hg49 om
     replace ho := Sha.At.grown ho hg49 om
     replace hn := Sha.At.grown hn hg49 om
     refine nt (sr (w_mv (ex (pt b_60 0)) (w_as (ex (pt b_60 0)) (w_as Ev.c (nt (wp_ret (fin_ret2 rfl (ex (pt b_60 0)) ei ?_)))))))
     simp only [List.nil_append] at hi ho hn
     exact ⟨b_60, pi, po, pn, rfl, ge_b_60, ge_pi, ge_po, ge_pn, ne_pi_po, ne_pi_pn, ne_po_pn, ne_b_60_pi, ne_b_60_po, ne_b_60_pn, r_b_60.congr (fun j hj => by rcases (by omega : j = 0 ∨ j = 1 ∨ j = 2) with h | h | h <;> subst h <;> rfl), hi, ho, hn, hk⟩

end Go.Proofs.YtepogbfkmflooaaDoor
