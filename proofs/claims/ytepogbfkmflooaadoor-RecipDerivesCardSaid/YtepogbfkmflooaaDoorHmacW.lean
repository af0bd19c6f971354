/-
  Digests with a key: of texts; the reference; the example. Conditions as each says.
-/
import Derived.Test.YtepogbfkmflooaaDoorRows
import Derived.Test.YtepogbfkmflooaaDoorHmacB
import Derived.Test.YtepogbfkmflooaaDoorGenSh
import Derived.ProofKit
namespace Go.Proofs.YtepogbfkmflooaaDoor
open Go.RowKit
set_option linter.unusedSimpArgs false
set_option linter.unusedVariables false
set_option maxRecDepth 100000
set_option maxHeartbeats 1000000
namespace HmacWT
theorem mixed : Tryd.prog.follows .mixedOrders = true := by kernel_rfl
theorem fa79_0 (g off : Nat) : ∀ w, (Instr.fieldAt 79 (.pointer (some ⟨g, off, none⟩)) 0).run Tryd.prog w = .ok (.pointer (some ⟨g, off + 0, none⟩)) w := fun w => by kernel_rfl
theorem fa79_1 (g off : Nat) : ∀ w, (Instr.fieldAt 79 (.pointer (some ⟨g, off, none⟩)) 1).run Tryd.prog w = .ok (.pointer (some ⟨g, off + 1, none⟩)) w := fun w => by kernel_rfl
theorem fa79_2 (g off : Nat) : ∀ w, (Instr.fieldAt 79 (.pointer (some ⟨g, off, none⟩)) 2).run Tryd.prog w = .ok (.pointer (some ⟨g, off + 2, none⟩)) w := fun w => by kernel_rfl
theorem fa90_2 (g off : Nat) : ∀ w, (Instr.fieldAt 90 (.pointer (some ⟨g, off, none⟩)) 2).run Tryd.prog w = .ok (.pointer (some ⟨g, off + 2, none⟩)) w := fun w => by kernel_rfl
theorem sc3 : (Tryd.prog.underlying 3).map scal = some true := by rw [Tryd.underlying3]; rfl
theorem sc5 : (Tryd.prog.underlying 5).map scal = some true := by rw [Tryd.underlying5]; rfl
theorem sc77 : (Tryd.prog.underlying 77).map scal = some true := by rw [Tryd.underlying77]; rfl
theorem sz5 : (Tryd.prog.info? 5).map (·.size) = some 1 := by kernel_rfl
theorem sz77 : (Tryd.prog.info? 77).map (·.size) = some 1 := by kernel_rfl
end HmacWT
theorem macWith_l (kind : Nat) (hkd : Sha.Known kind) (rp g cap : Nat) (key text : List (BitVec 8)) (hs : text.length ≤ 1099511627000) (hk2 : key.length ≤ 1099511627000) (w0 : World) (r_rp : Row w0 rp 90 25 (Sha.rrow (.int .i64 ((kind : Nat) : Int)) (.int .i64 (((kind / 8) : Nat) : Int)) (.int .i64 ((Sha.bs kind : Nat) : Int)) (.int .i64 ((Sha.rounds (Sha.sm kind) : Nat) : Int)) (.slice (some ⟨g, 0, none⟩) (Sha.rounds (Sha.sm kind)) cap) (Sha.H0 kind) (fun i => U64 (BitVec.ofNat 64 (Sha.trn (Sha.sm kind) i))))) (r_g : Row w0 g 58 (Sha.rounds (Sha.sm kind)) (fun j => U64 (Sha.K (Sha.sm kind) j))) : Calls Tryd.prog 42 #[pt rp 0, .string (str key), .string (str text)] w0 fun e w' => e = .returned (.string (str (Hm.mac kind key text))) ∧ Below w0.heap.size w0 w' := by
 have hbs := Sha.bs_le kind
 have hkl := Hm.kk_len kind key
 have hol := Sha.ol_lt kind
 refine enter (n := 57) Tryd.func42 rfl rfl rfl ?_
 have hk : Below w0.heap.size w0 w0 := Below.refl _ _
 have lt_rp := r_rp.lt
 have lt_g := r_g.lt
 refine sr (w_as (evc (.string (str ([] : List (BitVec 8))))) (nt ?_))
 refine c_cut (fun aN wl => ∃ f1, aN = fr 57 f1 ∧ f1 0 = pt rp 0 ∧ f1 1 = .string (str (Hm.kk kind key)) ∧ f1 2 = .string (str text) ∧ f1 6 = .string (str ([] : List (BitVec 8))) ∧ Row wl rp 90 25 (Sha.rrow (.int .i64 ((kind : Nat) : Int)) (.int .i64 (((kind / 8) : Nat) : Int)) (.int .i64 ((Sha.bs kind : Nat) : Int)) (.int .i64 ((Sha.rounds (Sha.sm kind) : Nat) : Int)) (.slice (some ⟨g, 0, none⟩) (Sha.rounds (Sha.sm kind)) cap) (Sha.H0 kind) (fun i => U64 (BitVec.ofNat 64 (Sha.trn (Sha.sm kind) i)))) ∧ Row wl g 58 (Sha.rounds (Sha.sm kind)) (fun j => U64 (Sha.K (Sha.sm kind) j)) ∧ Below w0.heap.size w0 wl) ?_ ?_
 ·skip
  refine sr (w_mv es (w_val (y_len es Tryd.underlying9) (w_mv (ex (pt rp 0)) (w_val (y_nc (ex (pt rp 0))) (w_val (v := pt rp 2) (y_off (y_fa (ex (pt rp 0)) (HmacWT.fa90_2 _ _)) ro) (w_val (v := .int .i64 (((Sha.bs kind) : Nat) : Int)) (y_ld (ex (pt rp 2)) HmacWT.sc3 (r_rp.val om (ng (ng pz)))) (w_val (y_bin ei ei b_gtr) (nt ?_))))))))
  refine c_if (p := (((Sha.bs kind) : Nat) : Int) < ((key.length : Nat) : Int)) eb (fun hc3 => ?_) (fun hc3 => ?_)
  ·skip
   refine wp_region_lit (w_mv (ex (pt rp 0)) (w_mv es (w_call (Tryd.func58) kr rfl (m2 (ex (pt rp 0)) es) (ruleSum_l kind key w0 rp hkd (by (try simp only [List.length_append, Hm.pd_len, Sha.length_sum]); omega) ⟨g, cap, r_rp, r_g⟩) ?_)))
   rintro _ w4 ⟨rfl, hb5⟩
   refine ⟨_, rfl, ?_⟩
   replace r_rp := r_rp.step hb5
   replace r_g := r_g.step hb5
   replace hk := thenB hk hb5
   refine w_as es (wpList_nil ?_)
   exact then_n ⟨_, rfl, rfl, (Eq.trans (b := .string (str (Sha.sum kind key))) rfl (by first | exact congrArg (fun l => Value.string (str l)) (if_pos om).symm | exact congrArg (fun l => Value.string (str l)) (if_neg om).symm)), rfl, rfl, r_rp, r_g, hk⟩
  ·skip
   refine wp_skip ?_
   exact then_n ⟨_, rfl, rfl, (Eq.trans (b := .string (str key)) rfl (by first | exact congrArg (fun l => Value.string (str l)) (if_pos om).symm | exact congrArg (fun l => Value.string (str l)) (if_neg om).symm)), rfl, rfl, r_rp, r_g, hk⟩
 ·skip
  clear r_rp r_g hk
  rintro _ w6 ⟨f1, rfl, t2_s0, t2_s1, t2_s2, t2_s6, r_rp, r_g, hk⟩
  refine sr (w_as Ev.c (w_as Ev.c (nt (wp_seq (sr (w_as Ev.c (nt (wp_block ?_))))))))
  refine c_loop (fun dN aN wl => ∃ (i : Nat) (va : Value) (vb : Value), dN = (Sha.bs kind - i) ∧ ∃ f7, aN = fr 57 f7 ∧ (i ≤ Sha.bs kind) ∧ f7 0 = pt rp 0 ∧ f7 1 = .string (str (Hm.kk kind key)) ∧ f7 2 = .string (str text) ∧ f7 6 = .string (str ([] : List (BitVec 8))) ∧ f7 7 = va ∧ f7 8 = vb ∧ f7 9 = .int .i64 ((i : Nat) : Int) ∧ Row wl rp 90 25 (Sha.rrow (.int .i64 ((kind : Nat) : Int)) (.int .i64 (((kind / 8) : Nat) : Int)) (.int .i64 ((Sha.bs kind : Nat) : Int)) (.int .i64 ((Sha.rounds (Sha.sm kind) : Nat) : Int)) (.slice (some ⟨g, 0, none⟩) (Sha.rounds (Sha.sm kind)) cap) (Sha.H0 kind) (fun i => U64 (BitVec.ofNat 64 (Sha.trn (Sha.sm kind) i)))) ∧ Row wl g 58 (Sha.rounds (Sha.sm kind)) (fun j => U64 (Sha.K (Sha.sm kind) j)) ∧ Own wl w0.heap.size 5 1 va i (fun j => U8 (gb (Hm.pd kind key 54#8) j)) ∧ va.ownBlock ≠ some rp ∧ va.ownBlock ≠ some g ∧ (∀ g, va.ownBlock = some g → vb.ownBlock ≠ some g) ∧ Own wl w0.heap.size 5 1 vb i (fun j => U8 (gb (Hm.pd kind key 92#8) j)) ∧ vb.ownBlock ≠ some rp ∧ vb.ownBlock ≠ some g ∧ (∀ g, vb.ownBlock = some g → va.ownBlock ≠ some g) ∧ Below w0.heap.size w0 wl) (Sha.bs kind - 0) ?_ ?_
  · exact ⟨0, (.slice none 0 0), (.slice none 0 0), rfl, _, rfl, iv, t2_s0, t2_s1, t2_s2, t2_s6, (etv (b := .slice none 0 0) rfl), (etv (b := .slice none 0 0) rfl), ti, r_rp, r_g, Own.nil, (fun e => by cases e), (fun e => by cases e), (fun g e => by cases e), Own.nil, (fun e => by cases e), (fun e => by cases e), (fun g e => by cases e), hk⟩
  ·skip
   clear r_rp r_g hk
   rintro _ _ w8 ⟨i, va, vb, rfl, f7, rfl, i1_0, s1_0, s1_1, s1_2, s1_6, s1_7, s1_8, s1_9, r_rp, r_g, o_va, no_va_rp, no_va_g, sep_va_vb, o_vb, no_vb_rp, no_vb_g, sep_vb_va, hk⟩
   refine wp_seq (sr (w_mv (ei s1_9) (w_mv (ex (pt rp 0) s1_0) (w_val (y_nc (ex (pt rp 0))) (w_val (v := pt rp 2) (y_off (y_fa (ex (pt rp 0)) (HmacWT.fa90_2 _ _)) ro) (w_val (v := .int .i64 (((Sha.bs kind) : Nat) : Int)) (y_ld (ex (pt rp 2)) HmacWT.sc3 (r_rp.val om (ng (ng pz)))) (w_val (y_bin ei ei b_lss) (nt ?_))))))))
   refine c_if (p := ((i : Nat) : Int) < (((Sha.bs kind) : Nat) : Int)) eb (fun hc9 => ?_) (fun hc9 => ?_)
   ·skip
    refine wp_skip (then_n (wp_seq (wp_block (sr (w_as (evc (U8 (0#8))) (nt (wp_seq (sr (w_mv (ei s1_9) (w_mv (es s1_1) (w_val (y_len es Tryd.underlying9) (w_val (y_bin ei ei b_lss) (nt ?_)))))))))))))
    refine c_if (p := ((i : Nat) : Int) < (((Hm.kk kind key).length : Nat) : Int)) eb (fun hc10 => ?_) (fun hc10 => ?_)
    ·skip
     refine wp_region_lit (w_mv (es s1_1) (w_mv (ei s1_9) (w_val (v := U8 (gb (Hm.kk kind key) i)) (y_idx (ex (.string (str (Hm.kk kind key)))) ei Tryd.underlying9 om om) (w_as e8 (nt (sr (w_mv (ex va s1_7) (w_mv e8 (w_val (y_bin e8 (evc (U8 (54#8))) xor8) (w_bs1 (m := 1) (e := 5) (F := fun j => U8 ((gb (Hm.kk kind key) i) ^^^ (54#8))) e8 (fun w => by kernel_rfl) ?_))))))))))
     intro b_39 w11 hbe_b_39 r_b_39 hb12
     have ne_rp_b_39 := r_rp.nb hbe_b_39
     have ne_g_b_39 := r_g.nb hbe_b_39
     have no_va_b_39 : va.ownBlock ≠ some b_39 := o_va.apart om
     have no_vb_b_39 : vb.ownBlock ≠ some b_39 := o_vb.apart om
     have ge_b_39 := gb_ hk.size hbe_b_39
     clear hbe_b_39
     replace o_va := o_va.step hb12
     replace o_vb := o_vb.step hb12
     replace r_rp := r_rp.step hb12
     replace r_g := r_g.step hb12
     replace hk := thenB hk hb12
     refine w_app (k := i) (m := 1) (size := 1) (bytes := 1) (ex va) el Tryd.underlying63 kr (by decide) o_va hk.size r_b_39 om oca (by simp only [maxLen]; omega) om ?_
     intro v13 w14 o_v13 hg15 hv16
     have sep_vb_v13 : ∀ g, vb.ownBlock = some g → v13.ownBlock ≠ some g := sep_new sep_vb_va o_vb hv16
     have sep_v13_vb : ∀ g, v13.ownBlock = some g → vb.ownBlock ≠ some g := sep_sym sep_vb_v13
     replace o_vb := o_vb.stepO hg15 (sep_or sep_vb_va)
     have no_v13_rp := no_new no_va_rp r_rp.lt hv16
     replace r_rp := r_rp.stepO hg15 no_va_rp
     have no_v13_g := no_new no_va_g r_g.lt hv16
     replace r_g := r_g.stepO hg15 no_va_g
     have no_v13_b_39 := no_new no_va_b_39 r_b_39.lt hv16
     replace r_b_39 := r_b_39.stepO hg15 no_va_b_39
     replace hk := thenO hk hg15 (fun g e => (o_va.block_lt g e).2)
     clear o_va
     refine w_as (ex v13) (nt (wp_region_lit (w_mv (ex vb s1_8) (w_mv e8 (w_val (y_bin e8 (evc (U8 (92#8))) xor8) (w_bs1 (m := 1) (e := 5) (F := fun j => U8 ((gb (Hm.kk kind key) i) ^^^ (92#8))) e8 (fun w => by kernel_rfl) ?_))))))
     intro b_44 w17 hbe_b_44 r_b_44 hb18
     have ne_rp_b_44 := r_rp.nb hbe_b_44
     have ne_g_b_44 := r_g.nb hbe_b_44
     have ne_b_39_b_44 := r_b_39.nb hbe_b_44
     have no_vb_b_44 : vb.ownBlock ≠ some b_44 := o_vb.apart om
     have no_v13_b_44 : v13.ownBlock ≠ some b_44 := o_v13.apart om
     have ge_b_44 := gb_ hk.size hbe_b_44
     clear hbe_b_44
     replace o_vb := o_vb.step hb18
     replace o_v13 := o_v13.step hb18
     replace r_rp := r_rp.step hb18
     replace r_g := r_g.step hb18
     replace r_b_39 := r_b_39.step hb18
     replace hk := thenB hk hb18
     refine w_app (k := i) (m := 1) (size := 1) (bytes := 1) (ex vb) el Tryd.underlying63 kr (by decide) o_vb hk.size r_b_44 om oca (by simp only [maxLen]; omega) om ?_
     intro v19 w20 o_v19 hg21 hv22
     have sep_v13_v19 : ∀ g, v13.ownBlock = some g → v19.ownBlock ≠ some g := sep_new sep_v13_vb o_v13 hv22
     have sep_v19_v13 : ∀ g, v19.ownBlock = some g → v13.ownBlock ≠ some g := sep_sym sep_v13_v19
     replace o_v13 := o_v13.stepO hg21 (sep_or sep_v13_vb)
     have no_v19_rp := no_new no_vb_rp r_rp.lt hv22
     replace r_rp := r_rp.stepO hg21 no_vb_rp
     have no_v19_g := no_new no_vb_g r_g.lt hv22
     replace r_g := r_g.stepO hg21 no_vb_g
     have no_v19_b_39 := no_new no_vb_b_39 r_b_39.lt hv22
     replace r_b_39 := r_b_39.stepO hg21 no_vb_b_39
     have no_v19_b_44 := no_new no_vb_b_44 r_b_44.lt hv22
     replace r_b_44 := r_b_44.stepO hg21 no_vb_b_44
     replace hk := thenO hk hg21 (fun g e => (o_vb.block_lt g e).2)
     clear o_vb
     refine w_as (ex v19) (wpList_nil (inb_n (then_n (wp_region_lit (w_mv (ei s1_9) (w_val (y_bin ei Ev.c (b_add om)) (w_as ei (wpList_nil ?_))))))))
     exact then_n ⟨_, om, i + 1, v13, v19, rfl, _, rfl, iv, s1_0, s1_1, s1_2, s1_6, rfl, rfl, ti, (r_rp.cg), r_g, (own_n (o_v13.congr (fun j hj => by (try dsimp only); by_cases e : j < i * 1; (rw [if_pos e]); (rw [if_neg e, show j = i from by omega, Hm.gb_pd _ _ _ _ om] <;> first | rfl | (rw [gb_out (Hm.kk kind key) i om] <;> rfl)))) om), no_v13_rp, no_v13_g, sep_v13_v19, (own_n (o_v19.congr (fun j hj => by (try dsimp only); by_cases e : j < i * 1; (rw [if_pos e]); (rw [if_neg e, show j = i from by omega, Hm.gb_pd _ _ _ _ om] <;> first | rfl | (rw [gb_out (Hm.kk kind key) i om] <;> rfl)))) om), no_v19_rp, no_v19_g, sep_v19_v13, hk⟩
    ·skip
     refine wp_skip (then_n (sr (w_mv (ex va s1_7) (w_mv e8 (w_val (y_bin e8 (evc (U8 (54#8))) xor8) (w_bs1 (m := 1) (e := 5) (F := fun j => U8 ((0#8) ^^^ (54#8))) e8 (fun w => by kernel_rfl) ?_))))))
     intro b_39 w23 hbe_b_39 r_b_39 hb24
     have ne_rp_b_39 := r_rp.nb hbe_b_39
     have ne_g_b_39 := r_g.nb hbe_b_39
     have no_va_b_39 : va.ownBlock ≠ some b_39 := o_va.apart om
     have no_vb_b_39 : vb.ownBlock ≠ some b_39 := o_vb.apart om
     have ge_b_39 := gb_ hk.size hbe_b_39
     clear hbe_b_39
     replace o_va := o_va.step hb24
     replace o_vb := o_vb.step hb24
     replace r_rp := r_rp.step hb24
     replace r_g := r_g.step hb24
     replace hk := thenB hk hb24
     refine w_app (k := i) (m := 1) (size := 1) (bytes := 1) (ex va) el Tryd.underlying63 kr (by decide) o_va hk.size r_b_39 om oca (by simp only [maxLen]; omega) om ?_
     intro v25 w26 o_v25 hg27 hv28
     have sep_vb_v25 : ∀ g, vb.ownBlock = some g → v25.ownBlock ≠ some g := sep_new sep_vb_va o_vb hv28
     have sep_v25_vb : ∀ g, v25.ownBlock = some g → vb.ownBlock ≠ some g := sep_sym sep_vb_v25
     replace o_vb := o_vb.stepO hg27 (sep_or sep_vb_va)
     have no_v25_rp := no_new no_va_rp r_rp.lt hv28
     replace r_rp := r_rp.stepO hg27 no_va_rp
     have no_v25_g := no_new no_va_g r_g.lt hv28
     replace r_g := r_g.stepO hg27 no_va_g
     have no_v25_b_39 := no_new no_va_b_39 r_b_39.lt hv28
     replace r_b_39 := r_b_39.stepO hg27 no_va_b_39
     replace hk := thenO hk hg27 (fun g e => (o_va.block_lt g e).2)
     clear o_va
     refine w_as (ex v25) (nt (wp_region_lit (w_mv (ex vb s1_8) (w_mv e8 (w_val (y_bin e8 (evc (U8 (92#8))) xor8) (w_bs1 (m := 1) (e := 5) (F := fun j => U8 ((0#8) ^^^ (92#8))) e8 (fun w => by kernel_rfl) ?_))))))
     intro b_44 w29 hbe_b_44 r_b_44 hb30
     have ne_rp_b_44 := r_rp.nb hbe_b_44
     have ne_g_b_44 := r_g.nb hbe_b_44
     have ne_b_39_b_44 := r_b_39.nb hbe_b_44
     have no_vb_b_44 : vb.ownBlock ≠ some b_44 := o_vb.apart om
     have no_v25_b_44 : v25.ownBlock ≠ some b_44 := o_v25.apart om
     have ge_b_44 := gb_ hk.size hbe_b_44
     clear hbe_b_44
     replace o_vb := o_vb.step hb30
     replace o_v25 := o_v25.step hb30
     replace r_rp := r_rp.step hb30
     replace r_g := r_g.step hb30
     replace r_b_39 := r_b_39.step hb30
     replace hk := thenB hk hb30
     refine w_app (k := i) (m := 1) (size := 1) (bytes := 1) (ex vb) el Tryd.underlying63 kr (by decide) o_vb hk.size r_b_44 om oca (by simp only [maxLen]; omega) om ?_
     intro v31 w32 o_v31 hg33 hv34
     have sep_v25_v31 : ∀ g, v25.ownBlock = some g → v31.ownBlock ≠ some g := sep_new sep_v25_vb o_v25 hv34
     have sep_v31_v25 : ∀ g, v31.ownBlock = some g → v25.ownBlock ≠ some g := sep_sym sep_v25_v31
     replace o_v25 := o_v25.stepO hg33 (sep_or sep_v25_vb)
     have no_v31_rp := no_new no_vb_rp r_rp.lt hv34
     replace r_rp := r_rp.stepO hg33 no_vb_rp
     have no_v31_g := no_new no_vb_g r_g.lt hv34
     replace r_g := r_g.stepO hg33 no_vb_g
     have no_v31_b_39 := no_new no_vb_b_39 r_b_39.lt hv34
     replace r_b_39 := r_b_39.stepO hg33 no_vb_b_39
     have no_v31_b_44 := no_new no_vb_b_44 r_b_44.lt hv34
     replace r_b_44 := r_b_44.stepO hg33 no_vb_b_44
     replace hk := thenO hk hg33 (fun g e => (o_vb.block_lt g e).2)
     clear o_vb
     refine w_as (ex v31) (wpList_nil (inb_n (then_n (wp_region_lit (w_mv (ei s1_9) (w_val (y_bin ei Ev.c (b_add om)) (w_as ei (wpList_nil ?_))))))))
     exact then_n ⟨_, om, i + 1, v25, v31, rfl, _, rfl, iv, s1_0, s1_1, s1_2, s1_6, rfl, rfl, ti, (r_rp.cg), r_g, (own_n (o_v25.congr (fun j hj => by (try dsimp only); by_cases e : j < i * 1; (rw [if_pos e]); (rw [if_neg e, show j = i from by omega, Hm.gb_pd _ _ _ _ om] <;> first | rfl | (rw [gb_out (Hm.kk kind key) i om] <;> rfl)))) om), no_v25_rp, no_v25_g, sep_v25_v31, (own_n (o_v31.congr (fun j hj => by (try dsimp only); by_cases e : j < i * 1; (rw [if_pos e]); (rw [if_neg e, show j = i from by omega, Hm.gb_pd _ _ _ _ om] <;> first | rfl | (rw [gb_out (Hm.kk kind key) i om] <;> rfl)))) om), no_v31_rp, no_v31_g, sep_v31_v25, hk⟩
   ·skip
    refine wp_exit (then_x (then_x (inb_x (then_n (wp_seq (region_q HmacWT.mixed kr (q_mv (ex (pt rp 0) s1_0) (q_mv (ex vb s1_8) (q_val (v := .string (str (Hm.pd kind key 92#8))) (fun w' hw' => y_strown (l := Hm.pd kind key 92#8) (ex vb) (o_vb.step hw')  (by exact (by rw [Hm.pd_len]; omega)) (fun j hj => by exact (by rfl)) Tryd.underlying63 Tryd.underlying5 Tryd.underlying9) (q_mv (ex (pt rp 0) s1_0) (q_mv (ex va s1_7) (q_val (v := .string (str (Hm.pd kind key 54#8))) (fun w' hw' => y_strown (l := Hm.pd kind key 54#8) (ex va) (o_va.step hw')  (by exact (by rw [Hm.pd_len]; omega)) (fun j hj => by exact (by rfl)) Tryd.underlying63 Tryd.underlying5 Tryd.underlying9) (q_mv (es s1_2) (q_val (fun w' hw' => y_bin es es (b_cat (by (try simp only [List.length_append, Hm.pd_len, Sha.length_sum]); omega))) (q_call (v := .string (str (Sha.sum kind ((Hm.pd kind key 54#8) ++ text)))) (Tryd.func58) kr rfl (m2 (ex (pt rp 0)) es) (fun w' hw' => ruleSum_l kind ((Hm.pd kind key 54#8) ++ text) w' rp hkd (by (try simp only [List.length_append, Hm.pd_len, Sha.length_sum]); omega) ⟨g, cap, (r_rp.step hw'), (r_g.step hw')⟩) (q_val (fun w' hw' => y_bin es es (b_cat (by (try simp only [List.length_append, Hm.pd_len, Sha.length_sum]); omega))) (q_call (v := .string (str (Sha.sum kind ((Hm.pd kind key 92#8) ++ (Sha.sum kind ((Hm.pd kind key 54#8) ++ text)))))) (Tryd.func58) kr rfl (m2 (ex (pt rp 0)) es) (fun w' hw' => ruleSum_l kind ((Hm.pd kind key 92#8) ++ (Sha.sum kind ((Hm.pd kind key 54#8) ++ text))) w' rp hkd (by (try simp only [List.length_append, Hm.pd_len, Sha.length_sum]); omega) ⟨g, cap, (r_rp.step hw'), (r_g.step hw')⟩) (q_as es (q_nil ?_)))))))))))))))))))
    intro w35 hb36
    replace o_va := o_va.step hb36
    replace o_vb := o_vb.step hb36
    replace r_rp := r_rp.step hb36
    replace r_g := r_g.step hb36
    replace hk := thenB hk hb36
    refine then_n (wp_ret (fin_ret1 rfl es ?_))
    refine ⟨congrArg Ending.returned ?_, hk⟩
    show (.string (str (Sha.sum kind ((Hm.pd kind key 92#8) ++ (Sha.sum kind ((Hm.pd kind key 54#8) ++ text))))) : Value) = .string (str (Hm.mac kind key text))
    rfl

theorem macWith_r (kind : Nat) (hkd : Sha.Known kind) (rp : Nat) (key text : List (BitVec 8)) (hs : text.length ≤ 1099511627000) (hk2 : key.length ≤ 1099511627000) (w : World) (hR : Sha.RuleAt w rp kind) : Calls Tryd.prog 42 #[.pointer (some ⟨rp, 0, none⟩), .string (str key), .string (str text)] w fun e w' => e = .returned (.string (str (Hm.mac kind key text))) ∧ Below w.heap.size w w' := by
  obtain ⟨g, cap, r1, r2⟩ := hR
  exact macWith_l kind hkd rp g cap key text hs hk2 w r1 r2
end Go.Proofs.YtepogbfkmflooaaDoor
