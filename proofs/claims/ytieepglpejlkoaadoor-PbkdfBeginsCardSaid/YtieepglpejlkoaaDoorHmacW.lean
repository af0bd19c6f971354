/-
  Digests with a key: of texts; the reference; the example. Conditions as each says.
-/
import Derived.Test.YtieepglpejlkoaaDoorRows
import Derived.Test.YtieepglpejlkoaaDoorHmacB
import Derived.ProofKit
namespace Go.Proofs.YtieepglpejlkoaaDoor
open Go.RowKit
set_option linter.unusedSimpArgs false
set_option linter.unusedVariables false
namespace HmacWT
theorem mixed : Tryd.prog.follows .mixedOrders = true := by kernel_rfl
theorem fa44_2 (g off : Nat) : ∀ w, (Instr.fieldAt 44 (.pointer (some ⟨g, off, none⟩)) 2).run Tryd.prog w = .ok (.pointer (some ⟨g, off + 2, none⟩)) w := fun w => by kernel_rfl
theorem fa65_0 (g off : Nat) : ∀ w, (Instr.fieldAt 65 (.pointer (some ⟨g, off, none⟩)) 0).run Tryd.prog w = .ok (.pointer (some ⟨g, off + 0, none⟩)) w := fun w => by kernel_rfl
theorem fa65_1 (g off : Nat) : ∀ w, (Instr.fieldAt 65 (.pointer (some ⟨g, off, none⟩)) 1).run Tryd.prog w = .ok (.pointer (some ⟨g, off + 1, none⟩)) w := fun w => by kernel_rfl
theorem fa65_2 (g off : Nat) : ∀ w, (Instr.fieldAt 65 (.pointer (some ⟨g, off, none⟩)) 2).run Tryd.prog w = .ok (.pointer (some ⟨g, off + 2, none⟩)) w := fun w => by kernel_rfl
theorem sc3 : (Tryd.prog.underlying 3).map scal = some true := by rw [Tryd.underlying3]; rfl
theorem sc31 : (Tryd.prog.underlying 31).map scal = some true := by rw [Tryd.underlying31]; rfl
theorem sc5 : (Tryd.prog.underlying 5).map scal = some true := by rw [Tryd.underlying5]; rfl
theorem sz31 : (Tryd.prog.info? 31).map (·.size) = some 1 := by kernel_rfl
theorem sz5 : (Tryd.prog.info? 5).map (·.size) = some 1 := by kernel_rfl
end HmacWT
set_option maxRecDepth 100000 in
set_option maxHeartbeats 1000000 in
theorem macWith_l (kind : Nat) (hkd : Sha.Known kind) (rp g cap : Nat) (key text : List (BitVec 8)) (hs : text.length ≤ 1099511627000) (hk2 : key.length ≤ 1099511627000) (w0 : World) (r_rp : Row w0 rp 44 25 (Sha.rrow (.int .i64 ((kind : Nat) : Int)) (.int .i64 (((kind / 8) : Nat) : Int)) (.int .i64 ((Sha.bs kind : Nat) : Int)) (.int .i64 ((Sha.rounds (Sha.sm kind) : Nat) : Int)) (.slice (some ⟨g, 0, none⟩) (Sha.rounds (Sha.sm kind)) cap) (Sha.H0 kind) (fun i => U64 (BitVec.ofNat 64 (Sha.trn (Sha.sm kind) i))))) (r_g : Row w0 g 39 (Sha.rounds (Sha.sm kind)) (fun j => U64 (Sha.K (Sha.sm kind) j))) : Calls Tryd.prog 42 #[pt rp 0, .string (str key), .string (str text)] w0 fun e w' => e = .returned (.string (str (Hm.mac kind key text))) ∧ Below w0.heap.size w0 w' := by
 have hbs := Sha.bs_le kind
 have hkl := Hm.kk_len kind key
 have hol := Sha.ol_lt kind
 refine enter (n := 57) Tryd.func42 rfl rfl rfl ?_
 have hk : Below w0.heap.size w0 w0 := Below.refl _ _
 have lt_rp := r_rp.lt
 have lt_g := r_g.lt
 refine sr ?_
 refine w_as (evc (.string (str ([] : List (BitVec 8))))) ?_
 refine nt ?_
 refine c_cut (fun aN wl => ∃ f1, aN = fr 57 f1 ∧ f1 0 = pt rp 0 ∧ f1 1 = .string (str (Hm.kk kind key)) ∧ f1 2 = .string (str text) ∧ f1 6 = .string (str ([] : List (BitVec 8))) ∧ Row wl rp 44 25 (Sha.rrow (.int .i64 ((kind : Nat) : Int)) (.int .i64 (((kind / 8) : Nat) : Int)) (.int .i64 ((Sha.bs kind : Nat) : Int)) (.int .i64 ((Sha.rounds (Sha.sm kind) : Nat) : Int)) (.slice (some ⟨g, 0, none⟩) (Sha.rounds (Sha.sm kind)) cap) (Sha.H0 kind) (fun i => U64 (BitVec.ofNat 64 (Sha.trn (Sha.sm kind) i)))) ∧ Row wl g 39 (Sha.rounds (Sha.sm kind)) (fun j => U64 (Sha.K (Sha.sm kind) j)) ∧ Below w0.heap.size w0 wl) ?_ ?_
 ·skip
  refine sr ?_
  refine w_mv (ev (.string (str key)) rfl rfl) ?_
  refine w_val (y_len (ev (.string (str key)) rfl rfl) Tryd.underlying9) ?_
  refine w_mv (ev (pt rp 0) rfl rfl) ?_
  refine w_val (y_nc (ev (pt rp 0) rfl rfl)) ?_
  refine w_val (v := pt rp 2) (y_off (y_fa (ev (pt rp 0) rfl rfl) (HmacWT.fa44_2 _ _)) (by first | rfl | omega)) ?_
  refine w_val (v := .int .i64 (((Sha.bs kind) : Nat) : Int)) (y_ld (ev (pt rp 2) rfl rfl) HmacWT.sc3 (r_rp.val (by omega) ((if_neg (by omega)).trans ((if_neg (by omega)).trans (etv (if_pos (by omega))))))) ?_
  refine w_val (y_bin (ev (.int .i64 ((key.length : Nat) : Int)) rfl rfl) (ev (.int .i64 (((Sha.bs kind) : Nat) : Int)) rfl rfl) b_gtr) ?_
  refine nt ?_
  refine c_if (p := (((Sha.bs kind) : Nat) : Int) < ((key.length : Nat) : Int)) (ev (.bool (decide ((((Sha.bs kind) : Nat) : Int) < ((key.length : Nat) : Int)))) rfl rfl) (fun hc3 => ?_) (fun hc3 => ?_)
  ·skip
   refine wp_region_lit ?_
   refine w_mv (ev (pt rp 0) rfl rfl) ?_
   refine w_mv (ev (.string (str key)) rfl rfl) ?_
   refine w_call (Tryd.func29) (by kernel_rfl) rfl (m2 (ev (pt rp 0) rfl rfl) (ev (.string (str key)) rfl rfl)) (ruleSum_l kind key w0 rp hkd (by (try simp only [List.length_append, Hm.pd_len, Sha.length_sum]); omega) ⟨g, cap, r_rp, r_g⟩) ?_
   rintro _ w4 ⟨rfl, hb5⟩
   refine ⟨_, rfl, ?_⟩
   replace r_rp := r_rp.step hb5
   replace r_g := r_g.step hb5
   replace hk := thenB hk hb5
   refine w_as (ev (.string (str (Sha.sum kind key))) rfl rfl) ?_
   refine wpList_nil ?_
   exact then_n ⟨_, rfl, rfl, (Eq.trans (b := .string (str (Sha.sum kind key))) rfl (by first | exact congrArg (fun l => Value.string (str l)) (if_pos (by omega)).symm | exact congrArg (fun l => Value.string (str l)) (if_neg (by omega)).symm)), rfl, rfl, r_rp, r_g, hk⟩
  ·skip
   refine wp_skip ?_
   exact then_n ⟨_, rfl, rfl, (Eq.trans (b := .string (str key)) rfl (by first | exact congrArg (fun l => Value.string (str l)) (if_pos (by omega)).symm | exact congrArg (fun l => Value.string (str l)) (if_neg (by omega)).symm)), rfl, rfl, r_rp, r_g, hk⟩
 ·skip
  clear r_rp r_g hk
  rintro _ w6 ⟨f1, rfl, t2_s0, t2_s1, t2_s2, t2_s6, r_rp, r_g, hk⟩
  refine sr ?_
  refine w_as (evc (.slice none 0 0)) ?_
  refine w_as (evc (.slice none 0 0)) ?_
  refine nt ?_
  refine wp_seq ?_
  refine sr ?_
  refine w_as (evc (.int .i64 0)) ?_
  refine nt ?_
  refine wp_block ?_
  refine c_loop (fun dN aN wl => ∃ (i : Nat) (va : Value) (vb : Value), dN = (Sha.bs kind - i) ∧ ∃ f7, aN = fr 57 f7 ∧ (i ≤ Sha.bs kind) ∧ f7 0 = pt rp 0 ∧ f7 1 = .string (str (Hm.kk kind key)) ∧ f7 2 = .string (str text) ∧ f7 6 = .string (str ([] : List (BitVec 8))) ∧ f7 7 = va ∧ f7 8 = vb ∧ f7 9 = .int .i64 ((i : Nat) : Int) ∧ Row wl rp 44 25 (Sha.rrow (.int .i64 ((kind : Nat) : Int)) (.int .i64 (((kind / 8) : Nat) : Int)) (.int .i64 ((Sha.bs kind : Nat) : Int)) (.int .i64 ((Sha.rounds (Sha.sm kind) : Nat) : Int)) (.slice (some ⟨g, 0, none⟩) (Sha.rounds (Sha.sm kind)) cap) (Sha.H0 kind) (fun i => U64 (BitVec.ofNat 64 (Sha.trn (Sha.sm kind) i)))) ∧ Row wl g 39 (Sha.rounds (Sha.sm kind)) (fun j => U64 (Sha.K (Sha.sm kind) j)) ∧ Own wl w0.heap.size 5 1 va i (fun j => U8 (gb (Hm.pd kind key 54#8) j)) ∧ va.ownBlock ≠ some rp ∧ va.ownBlock ≠ some g ∧ (∀ g, va.ownBlock = some g → vb.ownBlock ≠ some g) ∧ Own wl w0.heap.size 5 1 vb i (fun j => U8 (gb (Hm.pd kind key 92#8) j)) ∧ vb.ownBlock ≠ some rp ∧ vb.ownBlock ≠ some g ∧ (∀ g, vb.ownBlock = some g → va.ownBlock ≠ some g) ∧ Below w0.heap.size w0 wl) (Sha.bs kind - 0) ?_ ?_
  · exact ⟨0, (.slice none 0 0), (.slice none 0 0), rfl, _, rfl, iv, t2_s0, t2_s1, t2_s2, t2_s6, (etv (b := .slice none 0 0) rfl), (etv (b := .slice none 0 0) rfl), (etv (b := .int .i64 0) rfl), r_rp, r_g, Own.nil, (fun e => by cases e), (fun e => by cases e), (fun g e => by cases e), Own.nil, (fun e => by cases e), (fun e => by cases e), (fun g e => by cases e), hk⟩
  ·skip
   clear r_rp r_g hk
   rintro _ _ w8 ⟨i, va, vb, rfl, f7, rfl, i1_0, s1_0, s1_1, s1_2, s1_6, s1_7, s1_8, s1_9, r_rp, r_g, o_va, no_va_rp, no_va_g, sep_va_vb, o_vb, no_vb_rp, no_vb_g, sep_vb_va, hk⟩
   refine wp_seq ?_
   refine sr ?_
   refine w_mv (ev (.int .i64 ((i : Nat) : Int)) s1_9 rfl) ?_
   refine w_mv (ev (pt rp 0) s1_0 rfl) ?_
   refine w_val (y_nc (ev (pt rp 0) rfl rfl)) ?_
   refine w_val (v := pt rp 2) (y_off (y_fa (ev (pt rp 0) rfl rfl) (HmacWT.fa44_2 _ _)) (by first | rfl | omega)) ?_
   refine w_val (v := .int .i64 (((Sha.bs kind) : Nat) : Int)) (y_ld (ev (pt rp 2) rfl rfl) HmacWT.sc3 (r_rp.val (by omega) ((if_neg (by omega)).trans ((if_neg (by omega)).trans (etv (if_pos (by omega))))))) ?_
   refine w_val (y_bin (ev (.int .i64 ((i : Nat) : Int)) rfl rfl) (ev (.int .i64 (((Sha.bs kind) : Nat) : Int)) rfl rfl) b_lss) ?_
   refine nt ?_
   refine c_if (p := ((i : Nat) : Int) < (((Sha.bs kind) : Nat) : Int)) (ev (.bool (decide (((i : Nat) : Int) < (((Sha.bs kind) : Nat) : Int)))) rfl rfl) (fun hc9 => ?_) (fun hc9 => ?_)
   ·skip
    refine wp_skip ?_
    refine then_n ?_
    refine wp_seq ?_
    refine wp_block ?_
    refine sr ?_
    refine w_as (evc (U8 (0#8))) ?_
    refine nt ?_
    refine wp_seq ?_
    refine sr ?_
    refine w_mv (ev (.int .i64 ((i : Nat) : Int)) s1_9 rfl) ?_
    refine w_mv (ev (.string (str (Hm.kk kind key))) s1_1 rfl) ?_
    refine w_val (y_len (ev (.string (str (Hm.kk kind key))) rfl rfl) Tryd.underlying9) ?_
    refine w_val (y_bin (ev (.int .i64 ((i : Nat) : Int)) rfl rfl) (ev (.int .i64 (((Hm.kk kind key).length : Nat) : Int)) rfl rfl) b_lss) ?_
    refine nt ?_
    refine c_if (p := ((i : Nat) : Int) < (((Hm.kk kind key).length : Nat) : Int)) (ev (.bool (decide (((i : Nat) : Int) < (((Hm.kk kind key).length : Nat) : Int)))) rfl rfl) (fun hc10 => ?_) (fun hc10 => ?_)
    ·skip
     refine wp_region_lit ?_
     refine w_mv (ev (.string (str (Hm.kk kind key))) s1_1 rfl) ?_
     refine w_mv (ev (.int .i64 ((i : Nat) : Int)) s1_9 rfl) ?_
     refine w_val (v := U8 (gb (Hm.kk kind key) i)) (y_idx (ev (.string (str (Hm.kk kind key))) rfl rfl) (ev (.int .i64 ((i : Nat) : Int)) rfl rfl) Tryd.underlying9 (by omega) (by omega)) ?_
     refine w_as (ev (U8 (gb (Hm.kk kind key) i)) rfl rfl) ?_
     refine nt ?_
     refine sr ?_
     refine w_mv (ev va s1_7 rfl) ?_
     refine w_mv (ev (U8 (gb (Hm.kk kind key) i)) rfl rfl) ?_
     refine w_val (y_bin (ev (U8 (gb (Hm.kk kind key) i)) rfl rfl) (evc (U8 (54#8))) xor8) ?_
     refine w_bs1 (m := 1) (e := 5) (F := fun j => U8 ((gb (Hm.kk kind key) i) ^^^ (54#8))) (ev (U8 ((gb (Hm.kk kind key) i) ^^^ (54#8))) rfl rfl) (fun w => by kernel_rfl) ?_
     intro b_39 w11 hbe_b_39 r_b_39 hb12
     have ne_rp_b_39 : rp ≠ b_39 := by have := r_rp.lt; omega
     have ne_g_b_39 : g ≠ b_39 := by have := r_g.lt; omega
     have no_va_b_39 : va.ownBlock ≠ some b_39 := o_va.apart (by omega)
     have no_vb_b_39 : vb.ownBlock ≠ some b_39 := o_vb.apart (by omega)
     have ge_b_39 : w0.heap.size ≤ b_39 := by have := hk.size; omega
     clear hbe_b_39
     replace o_va := o_va.step hb12
     replace o_vb := o_vb.step hb12
     replace r_rp := r_rp.step hb12
     replace r_g := r_g.step hb12
     replace hk := thenB hk hb12
     refine w_app (k := i) (m := 1) (size := 1) (bytes := 1) (ev va rfl rfl) (ev (.slice (some ⟨b_39, 0, none⟩) 1 1) rfl rfl) Tryd.underlying76 (by kernel_rfl) (by decide) o_va hk.size r_b_39 (by omega) oca (by simp only [maxLen]; omega) (by omega) ?_
     intro v13 w14 o_v13 hg15 hv16
     have sep_vb_v13 : ∀ g, vb.ownBlock = some g → v13.ownBlock ≠ some g := sep_new sep_vb_va o_vb hv16
     have sep_v13_vb : ∀ g, v13.ownBlock = some g → vb.ownBlock ≠ some g := sep_sym sep_vb_v13
     replace o_vb := o_vb.stepO hg15 (sep_or sep_vb_va)
     have no_v13_rp := no_new no_va_rp r_rp.lt hv16
     replace r_rp := r_rp.stepO hg15 no_va_rp
     have no_v13_g := no_new no_va_g r_g.lt hv16
     replace r_g := r_g.stepO hg15 no_va_g
     have no_v13_b_39 := no_new no_va_b_39 r_b_39.lt hv16
     replace r_b_39 := r_b_39.stepO hg15 no_va_b_39
     replace hk := thenO hk hg15 (fun g e => (o_va.block_lt g e).2)
     clear o_va
     refine w_as (ev v13 rfl rfl) ?_
     refine nt ?_
     refine wp_region_lit ?_
     refine w_mv (ev vb s1_8 rfl) ?_
     refine w_mv (ev (U8 (gb (Hm.kk kind key) i)) rfl rfl) ?_
     refine w_val (y_bin (ev (U8 (gb (Hm.kk kind key) i)) rfl rfl) (evc (U8 (92#8))) xor8) ?_
     refine w_bs1 (m := 1) (e := 5) (F := fun j => U8 ((gb (Hm.kk kind key) i) ^^^ (92#8))) (ev (U8 ((gb (Hm.kk kind key) i) ^^^ (92#8))) rfl rfl) (fun w => by kernel_rfl) ?_
     intro b_44 w17 hbe_b_44 r_b_44 hb18
     have ne_rp_b_44 : rp ≠ b_44 := by have := r_rp.lt; omega
     have ne_g_b_44 : g ≠ b_44 := by have := r_g.lt; omega
     have ne_b_39_b_44 : b_39 ≠ b_44 := by have := r_b_39.lt; omega
     have no_vb_b_44 : vb.ownBlock ≠ some b_44 := o_vb.apart (by omega)
     have no_v13_b_44 : v13.ownBlock ≠ some b_44 := o_v13.apart (by omega)
     have ge_b_44 : w0.heap.size ≤ b_44 := by have := hk.size; omega
     clear hbe_b_44
     replace o_vb := o_vb.step hb18
     replace o_v13 := o_v13.step hb18
     replace r_rp := r_rp.step hb18
     replace r_g := r_g.step hb18
     replace r_b_39 := r_b_39.step hb18
     replace hk := thenB hk hb18
     refine w_app (k := i) (m := 1) (size := 1) (bytes := 1) (ev vb rfl rfl) (ev (.slice (some ⟨b_44, 0, none⟩) 1 1) rfl rfl) Tryd.underlying76 (by kernel_rfl) (by decide) o_vb hk.size r_b_44 (by omega) oca (by simp only [maxLen]; omega) (by omega) ?_
     intro v19 w20 o_v19 hg21 hv22
     have sep_v13_v19 : ∀ g, v13.ownBlock = some g → v19.ownBlock ≠ some g := sep_new sep_v13_vb o_v13 hv22
     have sep_v19_v13 : ∀ g, v19.ownBlock = some g → v13.ownBlock ≠ some g := sep_sym sep_v13_v19
     replace o_v13 := o_v13.stepO hg21 (sep_or sep_v13_vb)
     have no_v19_rp := no_new no_vb_rp r_rp.lt hv22
     replace r_rp := r_rp.stepO hg21 no_vb_rp
     have no_v19_g := no_new no_vb_g r_g.lt hv22
     replace r_g := r_g.stepO hg21 no_vb_g
     have no_v19_b_39 := no_new no_vb_b_39 r_b_39.lt hv22
     replace r_b_39 := r_b_39.stepO hg21 no_vb_b_39
     have no_v19_b_44 := no_new no_vb_b_44 r_b_44.lt hv22
     replace r_b_44 := r_b_44.stepO hg21 no_vb_b_44
     replace hk := thenO hk hg21 (fun g e => (o_vb.block_lt g e).2)
     clear o_vb
     refine w_as (ev v19 rfl rfl) ?_
     refine wpList_nil ?_
     refine inb_n ?_
     refine then_n ?_
     refine wp_region_lit ?_
     refine w_mv (ev (.int .i64 ((i : Nat) : Int)) s1_9 rfl) ?_
     refine w_val (y_bin (ev (.int .i64 ((i : Nat) : Int)) rfl rfl) (evc (.int .i64 1)) (b_add (by omega))) ?_
     refine w_as (ev (.int .i64 (((i : Nat) : Int) + 1)) rfl rfl) ?_
     refine wpList_nil ?_
     exact then_n ⟨_, (by omega), i + 1, v13, v19, rfl, _, rfl, iv, s1_0, s1_1, s1_2, s1_6, rfl, rfl, (etv (b := .int .i64 (((i : Nat) : Int) + 1)) rfl), (r_rp.cg), r_g, (own_n (o_v13.congr (fun j hj => by (try dsimp only); by_cases e : j < i * 1; (rw [if_pos e]); (rw [if_neg e, show j = i from by omega, Hm.gb_pd _ _ _ _ (by omega)] <;> first | rfl | (rw [gb_out (Hm.kk kind key) i (by omega)] <;> rfl)))) (by omega)), no_v13_rp, no_v13_g, sep_v13_v19, (own_n (o_v19.congr (fun j hj => by (try dsimp only); by_cases e : j < i * 1; (rw [if_pos e]); (rw [if_neg e, show j = i from by omega, Hm.gb_pd _ _ _ _ (by omega)] <;> first | rfl | (rw [gb_out (Hm.kk kind key) i (by omega)] <;> rfl)))) (by omega)), no_v19_rp, no_v19_g, sep_v19_v13, hk⟩
    ·skip
     refine wp_skip ?_
     refine then_n ?_
     refine sr ?_
     refine w_mv (ev va s1_7 rfl) ?_
     refine w_mv (ev (U8 (0#8)) rfl rfl) ?_
     refine w_val (y_bin (ev (U8 (0#8)) rfl rfl) (evc (U8 (54#8))) xor8) ?_
     refine w_bs1 (m := 1) (e := 5) (F := fun j => U8 ((0#8) ^^^ (54#8))) (ev (U8 ((0#8) ^^^ (54#8))) rfl rfl) (fun w => by kernel_rfl) ?_
     intro b_39 w23 hbe_b_39 r_b_39 hb24
     have ne_rp_b_39 : rp ≠ b_39 := by have := r_rp.lt; omega
     have ne_g_b_39 : g ≠ b_39 := by have := r_g.lt; omega
     have no_va_b_39 : va.ownBlock ≠ some b_39 := o_va.apart (by omega)
     have no_vb_b_39 : vb.ownBlock ≠ some b_39 := o_vb.apart (by omega)
     have ge_b_39 : w0.heap.size ≤ b_39 := by have := hk.size; omega
     clear hbe_b_39
     replace o_va := o_va.step hb24
     replace o_vb := o_vb.step hb24
     replace r_rp := r_rp.step hb24
     replace r_g := r_g.step hb24
     replace hk := thenB hk hb24
     refine w_app (k := i) (m := 1) (size := 1) (bytes := 1) (ev va rfl rfl) (ev (.slice (some ⟨b_39, 0, none⟩) 1 1) rfl rfl) Tryd.underlying76 (by kernel_rfl) (by decide) o_va hk.size r_b_39 (by omega) oca (by simp only [maxLen]; omega) (by omega) ?_
     intro v25 w26 o_v25 hg27 hv28
     have sep_vb_v25 : ∀ g, vb.ownBlock = some g → v25.ownBlock ≠ some g := sep_new sep_vb_va o_vb hv28
     have sep_v25_vb : ∀ g, v25.ownBlock = some g → vb.ownBlock ≠ some g := sep_sym sep_vb_v25
     replace o_vb := o_vb.stepO hg27 (sep_or sep_vb_va)
     have no_v25_rp := no_new no_va_rp r_rp.lt hv28
     replace r_rp := r_rp.stepO hg27 no_va_rp
     have no_v25_g := no_new no_va_g r_g.lt hv28
     replace r_g := r_g.stepO hg27 no_va_g
     have no_v25_b_39 := no_new no_va_b_39 r_b_39.lt hv28
     replace r_b_39 := r_b_39.stepO hg27 no_va_b_39
     replace hk := thenO hk hg27 (fun g e => (o_va.block_lt g e).2)
     clear o_va
     refine w_as (ev v25 rfl rfl) ?_
     refine nt ?_
     refine wp_region_lit ?_
     refine w_mv (ev vb s1_8 rfl) ?_
     refine w_mv (ev (U8 (0#8)) rfl rfl) ?_
     refine w_val (y_bin (ev (U8 (0#8)) rfl rfl) (evc (U8 (92#8))) xor8) ?_
     refine w_bs1 (m := 1) (e := 5) (F := fun j => U8 ((0#8) ^^^ (92#8))) (ev (U8 ((0#8) ^^^ (92#8))) rfl rfl) (fun w => by kernel_rfl) ?_
     intro b_44 w29 hbe_b_44 r_b_44 hb30
     have ne_rp_b_44 : rp ≠ b_44 := by have := r_rp.lt; omega
     have ne_g_b_44 : g ≠ b_44 := by have := r_g.lt; omega
     have ne_b_39_b_44 : b_39 ≠ b_44 := by have := r_b_39.lt; omega
     have no_vb_b_44 : vb.ownBlock ≠ some b_44 := o_vb.apart (by omega)
     have no_v25_b_44 : v25.ownBlock ≠ some b_44 := o_v25.apart (by omega)
     have ge_b_44 : w0.heap.size ≤ b_44 := by have := hk.size; omega
     clear hbe_b_44
     replace o_vb := o_vb.step hb30
     replace o_v25 := o_v25.step hb30
     replace r_rp := r_rp.step hb30
     replace r_g := r_g.step hb30
     replace r_b_39 := r_b_39.step hb30
     replace hk := thenB hk hb30
     refine w_app (k := i) (m := 1) (size := 1) (bytes := 1) (ev vb rfl rfl) (ev (.slice (some ⟨b_44, 0, none⟩) 1 1) rfl rfl) Tryd.underlying76 (by kernel_rfl) (by decide) o_vb hk.size r_b_44 (by omega) oca (by simp only [maxLen]; omega) (by omega) ?_
     intro v31 w32 o_v31 hg33 hv34
     have sep_v25_v31 : ∀ g, v25.ownBlock = some g → v31.ownBlock ≠ some g := sep_new sep_v25_vb o_v25 hv34
     have sep_v31_v25 : ∀ g, v31.ownBlock = some g → v25.ownBlock ≠ some g := sep_sym sep_v25_v31
     replace o_v25 := o_v25.stepO hg33 (sep_or sep_v25_vb)
     have no_v31_rp := no_new no_vb_rp r_rp.lt hv34
     replace r_rp := r_rp.stepO hg33 no_vb_rp
     have no_v31_g := no_new no_vb_g r_g.lt hv34
     replace r_g := r_g.stepO hg33 no_vb_g
     have no_v31_b_39 := no_new no_vb_b_39 r_b_39.lt hv34
     replace r_b_39 := r_b_39.stepO hg33 no_vb_b_39
     have no_v31_b_44 := no_new no_vb_b_44 r_b_44.lt hv34
     replace r_b_44 := r_b_44.stepO hg33 no_vb_b_44
     replace hk := thenO hk hg33 (fun g e => (o_vb.block_lt g e).2)
     clear o_vb
     refine w_as (ev v31 rfl rfl) ?_
     refine wpList_nil ?_
     refine inb_n ?_
     refine then_n ?_
     refine wp_region_lit ?_
     refine w_mv (ev (.int .i64 ((i : Nat) : Int)) s1_9 rfl) ?_
     refine w_val (y_bin (ev (.int .i64 ((i : Nat) : Int)) rfl rfl) (evc (.int .i64 1)) (b_add (by omega))) ?_
     refine w_as (ev (.int .i64 (((i : Nat) : Int) + 1)) rfl rfl) ?_
     refine wpList_nil ?_
     exact then_n ⟨_, (by omega), i + 1, v25, v31, rfl, _, rfl, iv, s1_0, s1_1, s1_2, s1_6, rfl, rfl, (etv (b := .int .i64 (((i : Nat) : Int) + 1)) rfl), (r_rp.cg), r_g, (own_n (o_v25.congr (fun j hj => by (try dsimp only); by_cases e : j < i * 1; (rw [if_pos e]); (rw [if_neg e, show j = i from by omega, Hm.gb_pd _ _ _ _ (by omega)] <;> first | rfl | (rw [gb_out (Hm.kk kind key) i (by omega)] <;> rfl)))) (by omega)), no_v25_rp, no_v25_g, sep_v25_v31, (own_n (o_v31.congr (fun j hj => by (try dsimp only); by_cases e : j < i * 1; (rw [if_pos e]); (rw [if_neg e, show j = i from by omega, Hm.gb_pd _ _ _ _ (by omega)] <;> first | rfl | (rw [gb_out (Hm.kk kind key) i (by omega)] <;> rfl)))) (by omega)), no_v31_rp, no_v31_g, sep_v31_v25, hk⟩
   ·skip
    refine wp_exit ?_
    refine then_x ?_
    refine then_x ?_
    refine inb_x ?_
    refine then_n ?_
    refine wp_seq ?_
    refine region_q HmacWT.mixed (by kernel_rfl) ?_
    refine q_mv (ev (pt rp 0) s1_0 rfl) ?_
    refine q_mv (ev vb s1_8 rfl) ?_
    refine q_val (v := .string (str (Hm.pd kind key 92#8))) (fun w' hw' => y_strown (l := Hm.pd kind key 92#8) (ev vb rfl rfl) (o_vb.step hw')  (by exact (by rw [Hm.pd_len]; omega)) (fun j hj => by exact (by rfl)) Tryd.underlying76 Tryd.underlying5 Tryd.underlying9) ?_
    refine q_mv (ev (pt rp 0) s1_0 rfl) ?_
    refine q_mv (ev va s1_7 rfl) ?_
    refine q_val (v := .string (str (Hm.pd kind key 54#8))) (fun w' hw' => y_strown (l := Hm.pd kind key 54#8) (ev va rfl rfl) (o_va.step hw')  (by exact (by rw [Hm.pd_len]; omega)) (fun j hj => by exact (by rfl)) Tryd.underlying76 Tryd.underlying5 Tryd.underlying9) ?_
    refine q_mv (ev (.string (str text)) s1_2 rfl) ?_
    refine q_val (fun w' hw' => y_bin (ev (.string (str (Hm.pd kind key 54#8))) rfl rfl) (ev (.string (str text)) rfl rfl) (b_cat (by (try simp only [List.length_append, Hm.pd_len, Sha.length_sum]); omega))) ?_
    refine q_call (v := .string (str (Sha.sum kind ((Hm.pd kind key 54#8) ++ text)))) (Tryd.func29) (by kernel_rfl) rfl (m2 (ev (pt rp 0) rfl rfl) (ev (.string (str ((Hm.pd kind key 54#8) ++ text))) rfl rfl)) (fun w' hw' => ruleSum_l kind ((Hm.pd kind key 54#8) ++ text) w' rp hkd (by (try simp only [List.length_append, Hm.pd_len, Sha.length_sum]); omega) ⟨g, cap, (r_rp.step hw'), (r_g.step hw')⟩) ?_
    refine q_val (fun w' hw' => y_bin (ev (.string (str (Hm.pd kind key 92#8))) rfl rfl) (ev (.string (str (Sha.sum kind ((Hm.pd kind key 54#8) ++ text)))) rfl rfl) (b_cat (by (try simp only [List.length_append, Hm.pd_len, Sha.length_sum]); omega))) ?_
    refine q_call (v := .string (str (Sha.sum kind ((Hm.pd kind key 92#8) ++ (Sha.sum kind ((Hm.pd kind key 54#8) ++ text)))))) (Tryd.func29) (by kernel_rfl) rfl (m2 (ev (pt rp 0) rfl rfl) (ev (.string (str ((Hm.pd kind key 92#8) ++ (Sha.sum kind ((Hm.pd kind key 54#8) ++ text))))) rfl rfl)) (fun w' hw' => ruleSum_l kind ((Hm.pd kind key 92#8) ++ (Sha.sum kind ((Hm.pd kind key 54#8) ++ text))) w' rp hkd (by (try simp only [List.length_append, Hm.pd_len, Sha.length_sum]); omega) ⟨g, cap, (r_rp.step hw'), (r_g.step hw')⟩) ?_
    refine q_as (ev (.string (str (Sha.sum kind ((Hm.pd kind key 92#8) ++ (Sha.sum kind ((Hm.pd kind key 54#8) ++ text)))))) rfl rfl) ?_
    refine q_nil ?_
    intro w35 hb36
    replace o_va := o_va.step hb36
    replace o_vb := o_vb.step hb36
    replace r_rp := r_rp.step hb36
    replace r_g := r_g.step hb36
    replace hk := thenB hk hb36
    refine then_n ?_
    refine wp_ret ?_
    refine fin_ret1 rfl (ev (.string (str (Sha.sum kind ((Hm.pd kind key 92#8) ++ (Sha.sum kind ((Hm.pd kind key 54#8) ++ text)))))) rfl rfl) ?_
    refine ⟨congrArg Ending.returned ?_, hk⟩
    show (.string (str (Sha.sum kind ((Hm.pd kind key 92#8) ++ (Sha.sum kind ((Hm.pd kind key 54#8) ++ text))))) : Value) = .string (str (Hm.mac kind key text))
    rfl

theorem macWith_r (kind : Nat) (hkd : Sha.Known kind) (rp : Nat) (key text : List (BitVec 8)) (hs : text.length ≤ 1099511627000) (hk2 : key.length ≤ 1099511627000) (w : World) (hR : Sha.RuleAt w rp kind) : Calls Tryd.prog 42 #[.pointer (some ⟨rp, 0, none⟩), .string (str key), .string (str text)] w fun e w' => e = .returned (.string (str (Hm.mac kind key text))) ∧ Below w.heap.size w w' := by
  obtain ⟨g, cap, r1, r2⟩ := hR
  exact macWith_l kind hkd rp g cap key text hs hk2 w r1 r2

set_option maxRecDepth 100000 in
set_option maxHeartbeats 1000000 in
theorem refMac_l (kind : Nat) (hkd : Sha.Known kind) (key text : List (BitVec 8)) (hs : text.length ≤ 1099511627000) (hk2 : key.length ≤ 1099511627000) (w0 : World) : Calls Tryd.prog 28 #[.int .i64 ((kind : Nat) : Int), .string (str key), .string (str text)] w0 fun e w' => e = .returned (.tuple #[.string (str (Hm.mac kind key text)), .int .i64 0]) ∧ Below w0.heap.size w0 w' := by
 refine enter (n := 16) Tryd.func28 rfl rfl rfl ?_
 have hk : Below w0.heap.size w0 w0 := Below.refl _ _
 refine sr ?_
 refine w_as (evc (.string (str ([] : List (BitVec 8))))) ?_
 refine w_as (evc (.int .i64 0)) ?_
 refine nt ?_
 refine wp_seq ?_
 refine sr ?_
 refine w_mv (ev (.int .i64 ((kind : Nat) : Int)) rfl rfl) ?_
 refine w_call (Tryd.func21) (by kernel_rfl) rfl (m1 (ev (.int .i64 ((kind : Nat) : Int)) rfl rfl)) (known_l kind  w0 hkd) ?_
 rintro _ w1 ⟨rfl, hb2⟩
 refine ⟨_, rfl, ?_⟩
 replace hk := thenB hk hb2
 refine w_val (y_not (ev (.bool true) rfl rfl)) ?_
 refine nt ?_
 refine c_ff (ev (.bool false) rfl rfl) ?_
 refine wp_skip ?_
 refine then_n ?_
 refine sr ?_
 refine w_mv (ev (.int .i64 ((kind : Nat) : Int)) rfl rfl) ?_
 refine w_call (Tryd.func22) (by kernel_rfl) rfl (m1 (ev (.int .i64 ((kind : Nat) : Int)) rfl rfl)) (make_l kind w1 hkd) ?_
 rintro _ w3 ⟨rp, rfl, hge_rp, hR, hb_rp⟩
 refine ⟨_, rfl, ?_⟩
 have ge_rp : w0.heap.size ≤ rp := by have := hk.size; omega
 replace hk := thenB hk hb_rp
 refine w_mv (ev (.string (str key)) rfl rfl) ?_
 refine w_mv (ev (.string (str text)) rfl rfl) ?_
 refine w_call (Tryd.func42) (by kernel_rfl) rfl (m3 (ev (pt rp 0) rfl rfl) (ev (.string (str key)) rfl rfl) (ev (.string (str text)) rfl rfl)) (macWith_r kind hkd rp key text (by omega) (by omega) w3 hR) ?_
 rintro _ w4 ⟨rfl, hb5⟩
 refine ⟨_, rfl, ?_⟩
 replace hk := thenB hk hb5
 replace hR := Sha.RuleAt.below hR hb5
 refine w_as (ev (.string (str (Hm.mac kind key text))) rfl rfl) ?_
 refine w_as (evc (.int .i64 0)) ?_
 refine nt ?_
 refine wp_ret ?_
 refine fin_ret2 rfl (ev (.string (str (Hm.mac kind key text))) rfl rfl) (ev (.int .i64 0) rfl rfl) ?_
 exact ⟨rfl, hk⟩

set_option maxRecDepth 100000 in
set_option maxHeartbeats 1000000 in
theorem refMac_no (k : Int) (k1 : k ≠ 256) (k2 : k ≠ 384) (k3 : k ≠ 512) (key text : List (BitVec 8)) (w0 : World) : Calls Tryd.prog 28 #[.int .i64 k, .string (str key), .string (str text)] w0 fun e w' => e = .returned (.tuple #[.string (str ([] : List (BitVec 8))), .int .i64 11]) ∧ Below w0.heap.size w0 w' := by
 refine enter (n := 16) Tryd.func28 rfl rfl rfl ?_
 have hk : Below w0.heap.size w0 w0 := Below.refl _ _
 refine sr ?_
 refine w_as (evc (.string (str ([] : List (BitVec 8))))) ?_
 refine w_as (evc (.int .i64 0)) ?_
 refine nt ?_
 refine wp_seq ?_
 refine sr ?_
 refine w_mv (ev (.int .i64 k) rfl rfl) ?_
 refine w_call (Tryd.func21) (by kernel_rfl) rfl (m1 (ev (.int .i64 k) rfl rfl)) (known_no k k1 k2 k3 w0 ) ?_
 rintro _ w1 ⟨rfl, hb2⟩
 refine ⟨_, rfl, ?_⟩
 replace hk := thenB hk hb2
 refine w_val (y_not (ev (.bool false) rfl rfl)) ?_
 refine nt ?_
 refine c_tt (ev (.bool true) rfl rfl) ?_
 refine sr ?_
 refine w_as (evc (.string (str ([] : List (BitVec 8))))) ?_
 refine w_as (evc (.int .i64 11)) ?_
 refine nt ?_
 refine wp_ret ?_
 refine then_r ?_
 refine fin_ret2 rfl (ev (.string (str ([] : List (BitVec 8)))) rfl rfl) (ev (.int .i64 11) rfl rfl) ?_
 exact ⟨rfl, hk⟩

set_option maxRecDepth 100000 in
set_option maxHeartbeats 1000000 in
theorem mac_l (kind : Nat) (hkd : Sha.Known kind) (key text : List (BitVec 8)) (hs : text.length ≤ 140737488351232) (hk2 : key.length ≤ 140737488351232) (w0 : World) (hT : Sha.Tabs w0) : Calls Tryd.prog 27 #[.int .i64 ((kind : Nat) : Int), .string (str key), .string (str text)] w0 fun e w' => e = .returned (.tuple #[.string (str (Hm.mac kind key text)), .int .i64 0]) ∧ Below w0.heap.size w0 w' := by
 have hT0 := hT.lt
 have hbs := Sha.bs_le kind
 refine enter (n := 26) Tryd.func27 rfl rfl rfl ?_
 have hk : Below w0.heap.size w0 w0 := Below.refl _ _
 refine sr ?_
 refine w_as (evc (.string (str ([] : List (BitVec 8))))) ?_
 refine w_as (evc (.int .i64 0)) ?_
 refine nt ?_
 refine sr ?_
 refine w_mv (ev (.int .i64 ((kind : Nat) : Int)) rfl rfl) ?_
 refine w_mv (ev (.string (str key)) rfl rfl) ?_
 refine w_call (Tryd.func30) (by kernel_rfl) rfl (m2 (ev (.int .i64 ((kind : Nat) : Int)) rfl rfl) (ev (.string (str key)) rfl rfl)) (macNew_l kind hkd key (by omega) w0 hT) ?_
 rintro _ w1 ⟨m, pi, po, pn, rfl, hge_m, hge_pi, hge_po, hge_pn, nb1, nb2, nb3, nb4, nb5, nb6, r_m, hi, ho, hn, hb_m⟩
 refine ⟨_, rfl, ?_⟩
 have ge_m : w0.heap.size ≤ m := by have := hk.size; omega
 have ge_pi : w0.heap.size ≤ pi := by have := hk.size; omega
 have ge_po : w0.heap.size ≤ po := by have := hk.size; omega
 have ge_pn : w0.heap.size ≤ pn := by have := hk.size; omega
 replace hk := thenB hk hb_m
 replace hT := Sha.Tabs.below hT hb_m
 refine w_mv (ev (.tuple #[pt m 0, .int .i64 0]) rfl rfl) ?_
 refine w_val (y_ext (v := pt m 0) (ev (.tuple #[pt m 0, .int .i64 0]) rfl rfl) rfl) ?_
 refine w_val (y_ext (v := .int .i64 0) (ev (.tuple #[pt m 0, .int .i64 0]) rfl rfl) rfl) ?_
 refine w_as (ev (pt m 0) rfl rfl) ?_
 refine w_as (ev (.int .i64 0) rfl rfl) ?_
 refine nt ?_
 refine wp_seq ?_
 refine sr ?_
 refine w_mv (ev (.int .i64 0) rfl rfl) ?_
 refine w_val (y_bin (ev (.int .i64 0) rfl rfl) (evc (.int .i64 0)) b_neq) ?_
 refine nt ?_
 refine c_ff (ev (.bool false) rfl rfl) ?_
 refine wp_skip ?_
 refine then_n ?_
 refine sr ?_
 refine w_mv (ev (pt m 0) rfl rfl) ?_
 refine w_mv (ev (.string (str text)) rfl rfl) ?_
 have hw_ := hn
 clear hn
 refine w_call (Tryd.func31) (by kernel_rfl) rfl (m2 (ev (pt m 0) rfl rfl) (ev (.string (str text)) rfl rfl)) (macWrite_l kind hkd m pi po pn (Hm.pd kind key 54#8) text (by omega) (by omega) (by omega) w1 r_m hT hw_) ?_
 rintro _ w2 ⟨rfl, hn, hgw⟩
 refine ⟨_, rfl, ?_⟩
 replace r_m := r_m.stepG hgw (by omega)
 replace hk := thenG hk hgw (by omega)
 replace hT := Sha.Tabs.grown hT hgw (by omega) (by omega)
 replace hi := Sha.At.grown hi hgw (by omega)
 replace ho := Sha.At.grown ho hgw (by omega)
 refine nt ?_
 refine sr ?_
 refine w_mv (ev (pt m 0) rfl rfl) ?_
 refine w_call (Tryd.func33) (by kernel_rfl) rfl (m1 (ev (pt m 0) rfl rfl)) (macSum_l kind hkd m pi po pn ((Hm.pd kind key 54#8) ++ text) (Hm.pd kind key 92#8) (by omega) (by omega) (by (try simp only [List.length_append, Hm.pd_len, List.length_nil]); omega) (by rw [Hm.pd_len]; omega) (by omega) w2 r_m hT ho hn) ?_
 rintro _ w3 ⟨rfl, hb4⟩
 refine ⟨_, rfl, ?_⟩
 replace r_m := r_m.step hb4
 replace hk := thenB hk hb4
 replace hT := Sha.Tabs.below hT hb4
 replace hi := Sha.At.below hi hb4
 replace ho := Sha.At.below ho hb4
 replace hn := Sha.At.below hn hb4
 refine w_val (y_ext (v := .string (str (Hm.mac kind key text))) (ev (.tuple #[.string (str (Hm.mac kind key text)), .int .i64 0]) rfl rfl) rfl) ?_
 refine w_val (y_ext (v := .int .i64 0) (ev (.tuple #[.string (str (Hm.mac kind key text)), .int .i64 0]) rfl rfl) rfl) ?_
 refine w_as (ev (.string (str (Hm.mac kind key text))) rfl rfl) ?_
 refine w_as (ev (.int .i64 0) rfl rfl) ?_
 refine nt ?_
 refine wp_ret ?_
 refine fin_ret2 rfl (ev (.string (str (Hm.mac kind key text))) rfl rfl) (ev (.int .i64 0) rfl rfl) ?_
 exact ⟨rfl, hk⟩

set_option maxRecDepth 100000 in
set_option maxHeartbeats 1000000 in
theorem mac_no (k : Int) (k1 : k ≠ 256) (k2 : k ≠ 384) (k3 : k ≠ 512) (key text : List (BitVec 8)) (w0 : World) : Calls Tryd.prog 27 #[.int .i64 k, .string (str key), .string (str text)] w0 fun e w' => e = .returned (.tuple #[.string (str ([] : List (BitVec 8))), .int .i64 11]) ∧ Below w0.heap.size w0 w' := by
 refine enter (n := 26) Tryd.func27 rfl rfl rfl ?_
 have hk : Below w0.heap.size w0 w0 := Below.refl _ _
 refine sr ?_
 refine w_as (evc (.string (str ([] : List (BitVec 8))))) ?_
 refine w_as (evc (.int .i64 0)) ?_
 refine nt ?_
 refine sr ?_
 refine w_mv (ev (.int .i64 k) rfl rfl) ?_
 refine w_mv (ev (.string (str key)) rfl rfl) ?_
 refine w_call (Tryd.func30) (by kernel_rfl) rfl (m2 (ev (.int .i64 k) rfl rfl) (ev (.string (str key)) rfl rfl)) (macNew_no k k1 k2 k3 key w0 ) ?_
 rintro _ w1 ⟨rfl, hb2⟩
 refine ⟨_, rfl, ?_⟩
 replace hk := thenB hk hb2
 refine w_mv (ev (.tuple #[.pointer none, .int .i64 11]) rfl rfl) ?_
 refine w_val (y_ext (v := .pointer none) (ev (.tuple #[.pointer none, .int .i64 11]) rfl rfl) rfl) ?_
 refine w_val (y_ext (v := .int .i64 11) (ev (.tuple #[.pointer none, .int .i64 11]) rfl rfl) rfl) ?_
 refine w_as (ev (.pointer none) rfl rfl) ?_
 refine w_as (ev (.int .i64 11) rfl rfl) ?_
 refine nt ?_
 refine wp_seq ?_
 refine sr ?_
 refine w_mv (ev (.int .i64 11) rfl rfl) ?_
 refine w_val (y_bin (ev (.int .i64 11) rfl rfl) (evc (.int .i64 0)) b_neq) ?_
 refine nt ?_
 refine c_tt (ev (.bool true) rfl rfl) ?_
 refine sr ?_
 refine w_mv (ev (.int .i64 11) rfl rfl) ?_
 refine w_as (evc (.string (str ([] : List (BitVec 8))))) ?_
 refine w_as (ev (.int .i64 11) rfl rfl) ?_
 refine nt ?_
 refine wp_ret ?_
 refine then_r ?_
 refine fin_ret2 rfl (ev (.string (str ([] : List (BitVec 8)))) rfl rfl) (ev (.int .i64 11) rfl rfl) ?_
 exact ⟨rfl, hk⟩

set_option maxRecDepth 100000 in
set_option maxHeartbeats 1000000 in
theorem macWakes_c  (w0 : World) (hT : Sha.Tabs w0) : Calls Tryd.prog 26 #[] w0 fun e w' => e = .returned (.bool true) ∧ Below w0.heap.size w0 w' := by
 have hls : (Hm.mac 256 Hm.akey Hm.fox).length = 32 := Hm.mac_len 256 Hm.akey Hm.fox
 refine enter (n := 19) Tryd.func26 rfl rfl rfl ?_
 have hk : Below w0.heap.size w0 w0 := Below.refl _ _
 refine sr ?_
 refine w_as (evc (.bool false)) ?_
 refine nt ?_
 refine sr ?_
 refine w_call (Tryd.func27) (by kernel_rfl) rfl (m3 (evc (.int .i64 256)) (evc (.string (str Hm.akey))) (evc (.string (str Hm.fox)))) (mac_l 256 (.inl rfl) Hm.akey Hm.fox (by decide) (by decide) w0 hT) ?_
 rintro _ w1 ⟨rfl, hb2⟩
 refine ⟨_, rfl, ?_⟩
 replace hk := thenB hk hb2
 replace hT := Sha.Tabs.below hT hb2
 refine w_mv (ev (.tuple #[.string (str (Hm.mac 256 Hm.akey Hm.fox)), .int .i64 0]) rfl rfl) ?_
 refine w_val (y_ext (v := .string (str (Hm.mac 256 Hm.akey Hm.fox))) (ev (.tuple #[.string (str (Hm.mac 256 Hm.akey Hm.fox)), .int .i64 0]) rfl rfl) rfl) ?_
 refine w_val (y_ext (v := .int .i64 0) (ev (.tuple #[.string (str (Hm.mac 256 Hm.akey Hm.fox)), .int .i64 0]) rfl rfl) rfl) ?_
 refine w_as (ev (.string (str (Hm.mac 256 Hm.akey Hm.fox))) rfl rfl) ?_
 refine w_as (ev (.int .i64 0) rfl rfl) ?_
 refine nt ?_
 refine sr ?_
 refine w_mv (ev (.int .i64 0) rfl rfl) ?_
 refine w_val (y_bin (ev (.int .i64 0) rfl rfl) (evc (.int .i64 0)) b_eql) ?_
 refine w_mv (ev (.bool true) rfl rfl) ?_
 refine w_val_g (v := .string (str (Hm.mac 256 Hm.akey Hm.fox))) (want_yes (j := 2) rfl rfl (ev (.bool true) rfl rfl) rfl) (y_mv (ev (.string (str (Hm.mac 256 Hm.akey Hm.fox))) rfl rfl)) ?_
 refine w_val_g (want_yes (j := 2) rfl rfl (ev (.bool true) rfl rfl) rfl) (y_len (ev (.string (str (Hm.mac 256 Hm.akey Hm.fox))) rfl rfl) Tryd.underlying9) ?_
 refine w_val_g (want_yes (j := 2) rfl rfl (ev (.bool true) rfl rfl) rfl) (y_bin (ev (.int .i64 (((Hm.mac 256 Hm.akey Hm.fox).length : Nat) : Int)) rfl rfl) (evc (.int .i64 32)) b_eql) ?_
 refine w_val (y_pick_t (ev (.bool true) rfl rfl) (ev (.bool (decide ((((Hm.mac 256 Hm.akey Hm.fox).length : Nat) : Int) = 32))) rfl rfl)) ?_
 refine w_mv (ev (.bool (decide ((((Hm.mac 256 Hm.akey Hm.fox).length : Nat) : Int) = 32))) rfl rfl) ?_
 have hc3 : (((Hm.mac 256 Hm.akey Hm.fox).length : Nat) : Int) = 32 := by rw [hls]; rfl
 refine w_val_g (v := .string (str (Hm.mac 256 Hm.akey Hm.fox))) (want_yes (j := 7) rfl rfl (ev (.bool true) (Eq.trans (b := .bool (decide ((((Hm.mac 256 Hm.akey Hm.fox).length : Nat) : Int) = 32))) rfl (by rw [decide_eq_true hc3])) rfl) rfl) (y_mv (ev (.string (str (Hm.mac 256 Hm.akey Hm.fox))) rfl rfl)) ?_
 refine w_val_g (v := .string (str ((Hm.mac 256 Hm.akey Hm.fox).take 4))) (want_yes (j := 7) rfl rfl (ev (.bool true) (Eq.trans (b := .bool (decide ((((Hm.mac 256 Hm.akey Hm.fox).length : Nat) : Int) = 32))) rfl (by rw [decide_eq_true hc3])) rfl) rfl) (y_sls (ev (.string (str (Hm.mac 256 Hm.akey Hm.fox))) rfl rfl) evo.no (evo.s (evc (.int .i64 4))) Tryd.underlying9 (bnd_h (h := 4) (by omega) (by rw [hls]; omega))) ?_
 refine w_val_g (want_yes (j := 7) rfl rfl (ev (.bool true) (Eq.trans (b := .bool (decide ((((Hm.mac 256 Hm.akey Hm.fox).length : Nat) : Int) = 32))) rfl (by rw [decide_eq_true hc3])) rfl) rfl) (y_bin (ev (.string (str ((Hm.mac 256 Hm.akey Hm.fox).take 4))) rfl rfl) (evc (.string (str ([247#8, 188#8, 131#8, 244#8])))) b_eqs) ?_
 refine w_val (y_pick_t (ev (.bool true) (Eq.trans (b := .bool (decide ((((Hm.mac 256 Hm.akey Hm.fox).length : Nat) : Int) = 32))) rfl (by rw [decide_eq_true hc3])) rfl) (ev (.bool (decide (((Hm.mac 256 Hm.akey Hm.fox).take 4) = ([247#8, 188#8, 131#8, 244#8])))) rfl rfl)) ?_
 refine w_as (ev (.bool (decide (((Hm.mac 256 Hm.akey Hm.fox).take 4) = ([247#8, 188#8, 131#8, 244#8])))) rfl rfl) ?_
 refine nt ?_
 refine wp_ret ?_
 have hc4 : ((Hm.mac 256 Hm.akey Hm.fox).take 4) = ([247#8, 188#8, 131#8, 244#8]) := by exact Hm.fox_mac
 refine fin_ret1 rfl (ev (.bool true) (Eq.trans (b := .bool (decide (((Hm.mac 256 Hm.akey Hm.fox).take 4) = ([247#8, 188#8, 131#8, 244#8])))) rfl (by rw [decide_eq_true hc4])) rfl) ?_
 exact ⟨rfl, hk⟩
end Go.Proofs.YtieepglpejlkoaaDoor
