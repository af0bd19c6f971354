/-
  Digests: the reference's Sum by a rule. Conditions as each says.
-/
import Derived.Test.YtieepglpejlkoaaDoorRows
import Derived.Test.YtieepglpejlkoaaDoorShaR
import Derived.ProofKit
namespace Go.Proofs.YtieepglpejlkoaaDoor
open Go.RowKit
set_option linter.unusedSimpArgs false
set_option linter.unusedVariables false
namespace ShaST
theorem mixed : Tryd.prog.follows .mixedOrders = true := by kernel_rfl
theorem ag40 : (Tryd.prog.underlying 40).map isAggD = some true := by rw [Tryd.underlying40]; rfl
theorem fa44_0 (g off : Nat) : ∀ w, (Instr.fieldAt 44 (.pointer (some ⟨g, off, none⟩)) 0).run Tryd.prog w = .ok (.pointer (some ⟨g, off + 0, none⟩)) w := fun w => by kernel_rfl
theorem fa44_1 (g off : Nat) : ∀ w, (Instr.fieldAt 44 (.pointer (some ⟨g, off, none⟩)) 1).run Tryd.prog w = .ok (.pointer (some ⟨g, off + 1, none⟩)) w := fun w => by kernel_rfl
theorem fa44_2 (g off : Nat) : ∀ w, (Instr.fieldAt 44 (.pointer (some ⟨g, off, none⟩)) 2).run Tryd.prog w = .ok (.pointer (some ⟨g, off + 2, none⟩)) w := fun w => by kernel_rfl
theorem fa44_3 (g off : Nat) : ∀ w, (Instr.fieldAt 44 (.pointer (some ⟨g, off, none⟩)) 3).run Tryd.prog w = .ok (.pointer (some ⟨g, off + 3, none⟩)) w := fun w => by kernel_rfl
theorem fa44_4 (g off : Nat) : ∀ w, (Instr.fieldAt 44 (.pointer (some ⟨g, off, none⟩)) 4).run Tryd.prog w = .ok (.pointer (some ⟨g, off + 4, none⟩)) w := fun w => by kernel_rfl
theorem fa44_5 (g off : Nat) : ∀ w, (Instr.fieldAt 44 (.pointer (some ⟨g, off, none⟩)) 5).run Tryd.prog w = .ok (.pointer (some ⟨g, off + 5, none⟩)) w := fun w => by kernel_rfl
theorem fa44_6 (g off : Nat) : ∀ w, (Instr.fieldAt 44 (.pointer (some ⟨g, off, none⟩)) 6).run Tryd.prog w = .ok (.pointer (some ⟨g, off + 13, none⟩)) w := fun w => by kernel_rfl
theorem sc3 : (Tryd.prog.underlying 3).map scal = some true := by rw [Tryd.underlying3]; rfl
theorem sc38 : (Tryd.prog.underlying 38).map scal = some true := by rw [Tryd.underlying38]; rfl
theorem sc39 : (Tryd.prog.underlying 39).map scal = some true := by rw [Tryd.underlying39]; rfl
theorem sc41 : (Tryd.prog.underlying 41).map scal = some true := by rw [Tryd.underlying41]; rfl
theorem so3 : (Tryd.prog.underlying 3).isSome = true := by rw [Tryd.underlying3]; rfl
theorem so39 : (Tryd.prog.underlying 39).isSome = true := by rw [Tryd.underlying39]; rfl
theorem so5 : (Tryd.prog.underlying 5).isSome = true := by rw [Tryd.underlying5]; rfl
theorem sz39 : (Tryd.prog.info? 39).map (·.size) = some 1 := by kernel_rfl
theorem sz40 : (Tryd.prog.info? 40).map (·.size) = some 8 := by kernel_rfl
theorem sz41 : (Tryd.prog.info? 41).map (·.size) = some 1 := by kernel_rfl
theorem sz5 : (Tryd.prog.info? 5).map (·.size) = some 1 := by kernel_rfl
end ShaST
set_option maxRecDepth 100000 in
set_option maxHeartbeats 1000000 in
theorem ruleSum_256 (rp g cap : Nat) (s : List (BitVec 8)) (hs : s.length ≤ 1099511627776) (w0 : World) (r_rp : Row w0 rp 44 25 (Sha.rrow (.int .i64 256) (.int .i64 32) (.int .i64 64) (.int .i64 64) (.slice (some ⟨g, 0, none⟩) 64 cap) (Sha.H0 256) (fun i => U64 (BitVec.ofNat 64 (Sha.trn true i))))) (r_g : Row w0 g 39 64 (fun j => U64 (Sha.K true j))) : Calls Tryd.prog 29 #[pt rp 0, .string (str s)] w0 fun e w' => e = .returned (.string (str (Sha.sum 256 s))) ∧ Below w0.heap.size w0 w' := by
 have hpl : Sha.padl 256 s.length = ((119 - s.length % 64) % 64) + 1 + 8 := by rw [Sha.padl_eq 256 64 _ rfl]
 have hnb : 64 * Sha.nb 256 s = s.length + Sha.padl 256 s.length := by have h := Sha.length_full 256 s; unfold Sha.full at h; rw [List.length_append, Sha.length_pad] at h; exact h.symm
 have hfl : (Sha.full 256 s).length = 64 * Sha.nb 256 s := Sha.length_full 256 s
 refine enter (n := 132) Tryd.func29 rfl rfl rfl ?_
 have hk : Below w0.heap.size w0 w0 := Below.refl _ _
 have lt_rp := r_rp.lt
 have lt_g := r_g.lt
 refine sr ?_
 refine w_as (evc (.string (str ([] : List (BitVec 8))))) ?_
 refine nt ?_
 refine sr ?_
 refine w_mv (ev (.string (str s)) rfl rfl) ?_
 refine w_bytes_own (ev (.string (str s)) rfl rfl) Tryd.underlying9 Tryd.underlying76 Tryd.underlying5 (by simp only [maxLen]; omega) hk.size ?_
 intro v1 w2 o_v1 hv4 hb3
 have no_v1_rp : v1.ownBlock ≠ some rp := fun e1 => by rw [hv4] at e1; injection e1 with e1; have := r_rp.lt; omega
 have no_v1_g : v1.ownBlock ≠ some g := fun e1 => by rw [hv4] at e1; injection e1 with e1; have := r_g.lt; omega
 replace r_rp := r_rp.step hb3
 replace r_g := r_g.step hb3
 replace hk := thenB hk hb3
 refine w_as (ev v1 rfl rfl) ?_
 refine nt ?_
 refine sr ?_
 refine w_mv (ev v1 rfl rfl) ?_
 refine w_bs1 (m := 1) (e := 5) (F := fun j => U8 (128#8)) (evc (U8 (128#8))) (fun w => by kernel_rfl) ?_
 intro b_18 w5 hbe_b_18 r_b_18 hb6
 have ne_rp_b_18 : rp ≠ b_18 := by have := r_rp.lt; omega
 have ne_g_b_18 : g ≠ b_18 := by have := r_g.lt; omega
 have no_v1_b_18 : v1.ownBlock ≠ some b_18 := o_v1.apart (by omega)
 have ge_b_18 : w0.heap.size ≤ b_18 := by have := hk.size; omega
 clear hbe_b_18
 replace o_v1 := o_v1.step hb6
 replace r_rp := r_rp.step hb6
 replace r_g := r_g.step hb6
 replace hk := thenB hk hb6
 refine w_app (k := s.length) (m := 1) (size := 1) (bytes := 1) (ev v1 rfl rfl) (ev (.slice (some ⟨b_18, 0, none⟩) 1 1) rfl rfl) Tryd.underlying76 (by kernel_rfl) (by decide) o_v1 hk.size r_b_18 (by omega) oca (by simp only [maxLen]; omega) (by omega) ?_
 intro v7 w8 o_v7 hg9 hv10
 have no_v7_rp := no_new no_v1_rp r_rp.lt hv10
 replace r_rp := r_rp.stepO hg9 no_v1_rp
 have no_v7_g := no_new no_v1_g r_g.lt hv10
 replace r_g := r_g.stepO hg9 no_v1_g
 have no_v7_b_18 := no_new no_v1_b_18 r_b_18.lt hv10
 replace r_b_18 := r_b_18.stepO hg9 no_v1_b_18
 replace hk := thenO hk hg9 (fun g e => (o_v1.block_lt g e).2)
 clear o_v1
 refine w_as (ev v7 rfl rfl) ?_
 refine nt ?_
 refine wp_seq ?_
 refine wp_block ?_
 refine c_loop (fun dN aN wl => ∃ (z : Nat) (va : Value), dN = (((119 - s.length % 64) % 64) - z) ∧ ∃ f11, aN = fr 132 f11 ∧ (z ≤ ((119 - s.length % 64) % 64)) ∧ f11 0 = pt rp 0 ∧ f11 1 = .string (str s) ∧ f11 4 = .string (str ([] : List (BitVec 8))) ∧ f11 5 = va ∧ Row wl rp 44 25 (Sha.rrow (.int .i64 256) (.int .i64 32) (.int .i64 64) (.int .i64 64) (.slice (some ⟨g, 0, none⟩) 64 cap) (Sha.H0 256) (fun i => U64 (BitVec.ofNat 64 (Sha.trn true i)))) ∧ Row wl g 39 64 (fun j => U64 (Sha.K true j)) ∧ Row wl b_18 5 1 (fun j => U8 (128#8)) ∧ Own wl w0.heap.size 5 1 va (s.length + 1 + z) (fun j => U8 (gb (Sha.full 256 s) j)) ∧ va.ownBlock ≠ some rp ∧ va.ownBlock ≠ some g ∧ va.ownBlock ≠ some b_18 ∧ Below w0.heap.size w0 wl) (((119 - s.length % 64) % 64) - 0) ?_ ?_
 · exact ⟨0, v7, rfl, _, rfl, iv, rfl, rfl, rfl, (etv (b := v7) rfl), r_rp, r_g, r_b_18, (own_n (o_v7.congr (fun j hj => by (try dsimp only); by_cases e : j < s.length * 1; (rw [if_pos e, Sha.gb_full_lo _ _ _ (by omega)]); (rw [if_neg e]; exact congrArg U8 (Sha.full_80 256 s j (by omega))))) (by omega)), no_v7_rp, no_v7_g, no_v7_b_18, hk⟩
 ·skip
  clear r_rp r_g r_b_18 o_v7 hk
  rintro _ _ w12 ⟨z, va, rfl, f11, rfl, i1_0, s1_0, s1_1, s1_4, s1_5, r_rp, r_g, r_b_18, o_va, no_va_rp, no_va_g, no_va_b_18, hk⟩
  refine ss ?_
  refine region_q ShaST.mixed (by kernel_rfl) ?_
  refine q_mv (ev va s1_5 rfl) ?_
  refine q_val (v := .int .i64 (((s.length + 1 + z) : Nat) : Int)) (fun w' hw' => y_len_own (ev va rfl rfl) o_va Tryd.underlying76) ?_
  refine q_mv (ev (pt rp 0) s1_0 rfl) ?_
  refine q_val (fun w' hw' => y_nc (ev (pt rp 0) rfl rfl)) ?_
  refine q_val (v := pt rp 2) (fun w' hw' => y_off (y_fa (ev (pt rp 0) rfl rfl) (ShaST.fa44_2 _ _)) (by first | rfl | omega)) ?_
  refine q_val (v := .int .i64 64) (fun w' hw' => y_ld (ev (pt rp 2) rfl rfl) ShaST.sc3 (cls_cell (r_rp.val (by omega) ((if_neg (by omega)).trans ((if_neg (by omega)).trans (etv (if_pos (by omega)))))) r_rp.lt w' hw')) ?_
  refine q_val (fun w' hw' => y_bin (ev (.int .i64 (((s.length + 1 + z) : Nat) : Int)) rfl rfl) (ev (.int .i64 64) rfl rfl) (b_rem (by omega))) ?_
  refine q_mv (ev (pt rp 0) s1_0 rfl) ?_
  refine q_val (fun w' hw' => y_nc (ev (pt rp 0) rfl rfl)) ?_
  refine q_val (v := pt rp 2) (fun w' hw' => y_off (y_fa (ev (pt rp 0) rfl rfl) (ShaST.fa44_2 _ _)) (by first | rfl | omega)) ?_
  refine q_val (v := .int .i64 64) (fun w' hw' => y_ld (ev (pt rp 2) rfl rfl) ShaST.sc3 (cls_cell (r_rp.val (by omega) ((if_neg (by omega)).trans ((if_neg (by omega)).trans (etv (if_pos (by omega)))))) r_rp.lt w' hw')) ?_
  refine q_mv (ev (pt rp 0) s1_0 rfl) ?_
  refine q_val (fun w' hw' => y_nc (ev (pt rp 0) rfl rfl)) ?_
  refine q_val (v := pt rp 2) (fun w' hw' => y_off (y_fa (ev (pt rp 0) rfl rfl) (ShaST.fa44_2 _ _)) (by first | rfl | omega)) ?_
  refine q_val (v := .int .i64 64) (fun w' hw' => y_ld (ev (pt rp 2) rfl rfl) ShaST.sc3 (cls_cell (r_rp.val (by omega) ((if_neg (by omega)).trans ((if_neg (by omega)).trans (etv (if_pos (by omega)))))) r_rp.lt w' hw')) ?_
  refine q_val (fun w' hw' => y_bin (ev (.int .i64 64) rfl rfl) (evc (.int .i64 8)) (b_quo (by omega))) ?_
  refine q_val (fun w' hw' => y_bin (ev (.int .i64 64) rfl rfl) (ev (.int .i64 8) rfl rfl) (b_sub (by omega))) ?_
  refine q_val (fun w' hw' => y_bin (ev (.int .i64 ((((s.length + 1 + z) : Nat) : Int) % 64)) rfl rfl) (ev (.int .i64 56) rfl rfl) b_neq) ?_
  refine q_nil ?_
  intro w13 hb14
  replace o_va := o_va.step hb14
  replace r_rp := r_rp.step hb14
  replace r_g := r_g.step hb14
  replace r_b_18 := r_b_18.step hb14
  replace hk := thenB hk hb14
  refine then_n ?_
  refine c_if (p := ((((s.length + 1 + z) : Nat) : Int) % 64) ≠ 56) (ev (.bool (decide (((((s.length + 1 + z) : Nat) : Int) % 64) ≠ 56))) rfl rfl) (fun hc15 => ?_) (fun hc15 => ?_)
  ·skip
   refine wp_skip ?_
   refine then_n ?_
   refine wp_block ?_
   refine wp_region_lit ?_
   refine w_mv (ev va s1_5 rfl) ?_
   refine w_bs1 (m := 1) (e := 5) (F := fun j => U8 (0#8)) (evc (U8 (0#8))) (fun w => by kernel_rfl) ?_
   intro b_39 w16 hbe_b_39 r_b_39 hb17
   have ne_rp_b_39 : rp ≠ b_39 := by have := r_rp.lt; omega
   have ne_g_b_39 : g ≠ b_39 := by have := r_g.lt; omega
   have ne_b_18_b_39 : b_18 ≠ b_39 := by have := r_b_18.lt; omega
   have no_va_b_39 : va.ownBlock ≠ some b_39 := o_va.apart (by omega)
   have ge_b_39 : w0.heap.size ≤ b_39 := by have := hk.size; omega
   clear hbe_b_39
   replace o_va := o_va.step hb17
   replace r_rp := r_rp.step hb17
   replace r_g := r_g.step hb17
   replace r_b_18 := r_b_18.step hb17
   replace hk := thenB hk hb17
   refine w_app (k := (s.length + 1 + z)) (m := 1) (size := 1) (bytes := 1) (ev va rfl rfl) (ev (.slice (some ⟨b_39, 0, none⟩) 1 1) rfl rfl) Tryd.underlying76 (by kernel_rfl) (by decide) o_va hk.size r_b_39 (by omega) oca (by simp only [maxLen]; omega) (by omega) ?_
   intro v18 w19 o_v18 hg20 hv21
   have no_v18_rp := no_new no_va_rp r_rp.lt hv21
   replace r_rp := r_rp.stepO hg20 no_va_rp
   have no_v18_g := no_new no_va_g r_g.lt hv21
   replace r_g := r_g.stepO hg20 no_va_g
   have no_v18_b_18 := no_new no_va_b_18 r_b_18.lt hv21
   replace r_b_18 := r_b_18.stepO hg20 no_va_b_18
   have no_v18_b_39 := no_new no_va_b_39 r_b_39.lt hv21
   replace r_b_39 := r_b_39.stepO hg20 no_va_b_39
   replace hk := thenO hk hg20 (fun g e => (o_va.block_lt g e).2)
   clear o_va
   refine w_as (ev v18 rfl rfl) ?_
   refine wpList_nil ?_
   refine inb_n ?_
   exact then_n ⟨_, (by omega), z + 1, v18, rfl, _, rfl, iv, s1_0, s1_1, s1_4, rfl, r_rp, r_g, r_b_18, (own_n (o_v18.congr (fun j hj => by (try dsimp only); by_cases e : j < (s.length + 1 + z) * 1; (rw [if_pos e]); (rw [if_neg e]; exact congrArg U8 (Sha.full_0 256 s j (by omega) (by omega))))) (by omega)), no_v18_rp, no_v18_g, no_v18_b_18, hk⟩
  ·skip
   refine wp_exit ?_
   refine then_x ?_
   refine then_x ?_
   refine inb_x ?_
   refine then_n ?_
   refine wp_seq ?_
   refine sr ?_
   refine w_as (evc (.int .i64 0)) ?_
   refine nt ?_
   refine wp_block ?_
   refine c_loop (fun dN aN wl => ∃ (y : Nat) (vb : Value), dN = (0 - y) ∧ ∃ f22, aN = fr 132 f22 ∧ (y ≤ 0) ∧ f22 0 = pt rp 0 ∧ f22 1 = .string (str s) ∧ f22 4 = .string (str ([] : List (BitVec 8))) ∧ f22 5 = vb ∧ f22 6 = .int .i64 ((y : Nat) : Int) ∧ Row wl rp 44 25 (Sha.rrow (.int .i64 256) (.int .i64 32) (.int .i64 64) (.int .i64 64) (.slice (some ⟨g, 0, none⟩) 64 cap) (Sha.H0 256) (fun i => U64 (BitVec.ofNat 64 (Sha.trn true i)))) ∧ Row wl g 39 64 (fun j => U64 (Sha.K true j)) ∧ Row wl b_18 5 1 (fun j => U8 (128#8)) ∧ Own wl w0.heap.size 5 1 vb (s.length + 1 + ((119 - s.length % 64) % 64) + y) (fun j => U8 (gb (Sha.full 256 s) j)) ∧ vb.ownBlock ≠ some rp ∧ vb.ownBlock ≠ some g ∧ vb.ownBlock ≠ some b_18 ∧ Below w0.heap.size w0 wl) (0 - 0) ?_ ?_
   · exact ⟨0, va, rfl, _, rfl, iv, s1_0, s1_1, s1_4, (Eq.trans (b := va) s1_5 (by first | with_reducible rfl | (with_reducible congr 1 <;> omega) | (with_reducible congr 2 <;> omega) | (with_reducible congr 3 <;> omega) | rfl)), (etv (b := .int .i64 0) rfl), r_rp, r_g, r_b_18, (own_n (o_va.cg) (by omega)), no_va_rp, no_va_g, no_va_b_18, hk⟩
   ·skip
    clear r_rp r_g r_b_18 o_va hk
    rintro _ _ w23 ⟨y, vb, rfl, f22, rfl, i2_0, s2_0, s2_1, s2_4, s2_5, s2_6, r_rp, r_g, r_b_18, o_vb, no_vb_rp, no_vb_g, no_vb_b_18, hk⟩
    refine wp_seq ?_
    refine sr ?_
    refine w_mv (ev (.int .i64 ((y : Nat) : Int)) s2_6 rfl) ?_
    refine w_mv (ev (pt rp 0) s2_0 rfl) ?_
    refine w_val (y_nc (ev (pt rp 0) rfl rfl)) ?_
    refine w_val (v := pt rp 2) (y_off (y_fa (ev (pt rp 0) rfl rfl) (ShaST.fa44_2 _ _)) (by first | rfl | omega)) ?_
    refine w_val (v := .int .i64 64) (y_ld (ev (pt rp 2) rfl rfl) ShaST.sc3 (r_rp.val (by omega) ((if_neg (by omega)).trans ((if_neg (by omega)).trans (etv (if_pos (by omega))))))) ?_
    refine w_val (y_bin (ev (.int .i64 64) rfl rfl) (evc (.int .i64 8)) (b_quo (by omega))) ?_
    refine w_val (y_bin (ev (.int .i64 8) rfl rfl) (evc (.int .i64 8)) (b_sub (by omega))) ?_
    refine w_val (y_bin (ev (.int .i64 ((y : Nat) : Int)) rfl rfl) (ev (.int .i64 0) rfl rfl) b_lss) ?_
    refine nt ?_
    refine c_if (p := ((y : Nat) : Int) < 0) (ev (.bool (decide (((y : Nat) : Int) < 0))) rfl rfl) (fun hc24 => ?_) (fun hc24 => ?_)
    ·skip
     refine wp_skip ?_
     refine then_n ?_
     refine wp_seq ?_
     refine wp_block ?_
     refine wp_region_lit ?_
     refine w_mv (ev vb s2_5 rfl) ?_
     refine w_bs1 (m := 1) (e := 5) (F := fun j => U8 (0#8)) (evc (U8 (0#8))) (fun w => by kernel_rfl) ?_
     intro b_52 w25 hbe_b_52 r_b_52 hb26
     have ne_rp_b_52 : rp ≠ b_52 := by have := r_rp.lt; omega
     have ne_g_b_52 : g ≠ b_52 := by have := r_g.lt; omega
     have ne_b_18_b_52 : b_18 ≠ b_52 := by have := r_b_18.lt; omega
     have no_vb_b_52 : vb.ownBlock ≠ some b_52 := o_vb.apart (by omega)
     have ge_b_52 : w0.heap.size ≤ b_52 := by have := hk.size; omega
     clear hbe_b_52
     replace o_vb := o_vb.step hb26
     replace r_rp := r_rp.step hb26
     replace r_g := r_g.step hb26
     replace r_b_18 := r_b_18.step hb26
     replace hk := thenB hk hb26
     refine w_app (k := (s.length + 1 + ((119 - s.length % 64) % 64) + y)) (m := 1) (size := 1) (bytes := 1) (ev vb rfl rfl) (ev (.slice (some ⟨b_52, 0, none⟩) 1 1) rfl rfl) Tryd.underlying76 (by kernel_rfl) (by decide) o_vb hk.size r_b_52 (by omega) oca (by simp only [maxLen]; omega) (by omega) ?_
     intro v27 w28 o_v27 hg29 hv30
     have no_v27_rp := no_new no_vb_rp r_rp.lt hv30
     replace r_rp := r_rp.stepO hg29 no_vb_rp
     have no_v27_g := no_new no_vb_g r_g.lt hv30
     replace r_g := r_g.stepO hg29 no_vb_g
     have no_v27_b_18 := no_new no_vb_b_18 r_b_18.lt hv30
     replace r_b_18 := r_b_18.stepO hg29 no_vb_b_18
     have no_v27_b_52 := no_new no_vb_b_52 r_b_52.lt hv30
     replace r_b_52 := r_b_52.stepO hg29 no_vb_b_52
     replace hk := thenO hk hg29 (fun g e => (o_vb.block_lt g e).2)
     clear o_vb
     refine w_as (ev v27 rfl rfl) ?_
     refine wpList_nil ?_
     refine inb_n ?_
     refine then_n ?_
     refine wp_region_lit ?_
     refine w_mv (ev (.int .i64 ((y : Nat) : Int)) s2_6 rfl) ?_
     refine w_val (y_bin (ev (.int .i64 ((y : Nat) : Int)) rfl rfl) (evc (.int .i64 1)) (b_add (by omega))) ?_
     refine w_as (ev (.int .i64 (((y : Nat) : Int) + 1)) rfl rfl) ?_
     refine wpList_nil ?_
     exact then_n ⟨_, (by omega), y + 1, v27, rfl, _, rfl, iv, s2_0, s2_1, s2_4, rfl, (etv (b := .int .i64 (((y : Nat) : Int) + 1)) rfl), r_rp, r_g, r_b_18, (own_n (o_v27.congr (fun j hj => by first | (exfalso; omega) | ((try dsimp only); by_cases e : j < (s.length + 1 + ((119 - s.length % 64) % 64) + y) * 1; (rw [if_pos e]); (rw [if_neg e]; exact congrArg U8 (Sha.full_0 256 s j (by omega) (by omega)))))) (by omega)), no_v27_rp, no_v27_g, no_v27_b_18, hk⟩
    ·skip
     refine wp_exit ?_
     refine then_x ?_
     refine then_x ?_
     refine inb_x ?_
     refine then_n ?_
     refine sr ?_
     refine w_mv (ev (.string (str s)) s2_1 rfl) ?_
     refine w_val (y_len (ev (.string (str s)) rfl rfl) Tryd.underlying9) ?_
     refine w_val (y_nat_u64 (p := s.length) (ev (.int .i64 ((s.length : Nat) : Int)) rfl rfl) (by omega) ShaST.so3 Tryd.underlying39) ?_
     refine w_val (y_bin (ev (U64 (BitVec.ofNat 64 s.length)) rfl rfl) (evc (U64 (8#64))) mul64) ?_
     refine w_as (ev (U64 ((BitVec.ofNat 64 s.length) * (8#64))) rfl rfl) ?_
     refine nt ?_
     refine wp_seq ?_
     refine sr ?_
     refine w_as (evc (.int .i64 0)) ?_
     refine nt ?_
     refine wp_block ?_
     refine c_loop (fun dN aN wl => ∃ (x : Nat) (vc : Value), dN = (8 - x) ∧ ∃ f31, aN = fr 132 f31 ∧ (x ≤ 8) ∧ f31 0 = pt rp 0 ∧ f31 1 = .string (str s) ∧ f31 4 = .string (str ([] : List (BitVec 8))) ∧ f31 5 = vc ∧ f31 6 = .int .i64 ((y : Nat) : Int) ∧ f31 7 = U64 ((BitVec.ofNat 64 s.length) * (8#64)) ∧ f31 8 = .int .i64 ((x : Nat) : Int) ∧ Row wl rp 44 25 (Sha.rrow (.int .i64 256) (.int .i64 32) (.int .i64 64) (.int .i64 64) (.slice (some ⟨g, 0, none⟩) 64 cap) (Sha.H0 256) (fun i => U64 (BitVec.ofNat 64 (Sha.trn true i)))) ∧ Row wl g 39 64 (fun j => U64 (Sha.K true j)) ∧ Row wl b_18 5 1 (fun j => U8 (128#8)) ∧ Own wl w0.heap.size 5 1 vc (s.length + 1 + ((119 - s.length % 64) % 64) + 0 + x) (fun j => U8 (gb (Sha.full 256 s) j)) ∧ vc.ownBlock ≠ some rp ∧ vc.ownBlock ≠ some g ∧ vc.ownBlock ≠ some b_18 ∧ Below w0.heap.size w0 wl) (8 - 0) ?_ ?_
     · exact ⟨0, vb, rfl, _, rfl, iv, s2_0, s2_1, s2_4, (Eq.trans (b := vb) s2_5 (by first | with_reducible rfl | (with_reducible congr 1 <;> omega) | (with_reducible congr 2 <;> omega) | (with_reducible congr 3 <;> omega) | rfl)), s2_6, rfl, (etv (b := .int .i64 0) rfl), r_rp, r_g, r_b_18, (own_n (o_vb.cg) (by omega)), no_vb_rp, no_vb_g, no_vb_b_18, hk⟩
     ·skip
      clear r_rp r_g r_b_18 o_vb hk
      rintro _ _ w32 ⟨x, vc, rfl, f31, rfl, i3_0, s3_0, s3_1, s3_4, s3_5, s3_6, s3_7, s3_8, r_rp, r_g, r_b_18, o_vc, no_vc_rp, no_vc_g, no_vc_b_18, hk⟩
      refine wp_seq ?_
      refine sr ?_
      refine w_mv (ev (.int .i64 ((x : Nat) : Int)) s3_8 rfl) ?_
      refine w_val (y_bin (ev (.int .i64 ((x : Nat) : Int)) rfl rfl) (evc (.int .i64 8)) b_lss) ?_
      refine nt ?_
      refine c_if (p := ((x : Nat) : Int) < 8) (ev (.bool (decide (((x : Nat) : Int) < 8))) rfl rfl) (fun hc33 => ?_) (fun hc33 => ?_)
      ·skip
       refine wp_skip ?_
       refine then_n ?_
       refine wp_seq ?_
       refine wp_block ?_
       refine wp_region_lit ?_
       refine w_mv (ev vc s3_5 rfl) ?_
       refine w_mv (ev (U64 ((BitVec.ofNat 64 s.length) * (8#64))) s3_7 rfl) ?_
       refine w_mv (ev (.int .i64 ((x : Nat) : Int)) s3_8 rfl) ?_
       refine w_val (y_bin (evc (.int .i64 8)) (ev (.int .i64 ((x : Nat) : Int)) rfl rfl) (b_mul (by omega))) ?_
       refine w_val (y_bin (evc (.int .i64 56)) (ev (.int .i64 (8 * ((x : Nat) : Int))) rfl rfl) (b_sub (by omega))) ?_
       refine w_val (y_nat_u64 (p := (56 - (8 * x))) (ev (.int .i64 (56 - (8 * ((x : Nat) : Int)))) rfl rfl) (by omega) ShaST.so3 Tryd.underlying41) ?_
       refine w_val (y_bin (ev (U64 ((BitVec.ofNat 64 s.length) * (8#64))) rfl rfl) (ev (U64 (BitVec.ofNat 64 (56 - (8 * x)))) rfl rfl) (shr64 (c := (56 - (8 * x))) (by rw [BitVec.toNat_ofNat]; omega))) ?_
       refine w_val (y_u64_u8 (ev (U64 (((BitVec.ofNat 64 s.length) * (8#64)) >>> (56 - (8 * x)))) rfl rfl) ShaST.so39 Tryd.underlying5) ?_
       refine w_bs1 (m := 1) (e := 5) (F := fun j => U8 ((((BitVec.ofNat 64 s.length) * (8#64)) >>> (56 - (8 * x))).setWidth 8)) (ev (U8 ((((BitVec.ofNat 64 s.length) * (8#64)) >>> (56 - (8 * x))).setWidth 8)) rfl rfl) (fun w => by kernel_rfl) ?_
       intro b_70 w34 hbe_b_70 r_b_70 hb35
       have ne_rp_b_70 : rp ≠ b_70 := by have := r_rp.lt; omega
       have ne_g_b_70 : g ≠ b_70 := by have := r_g.lt; omega
       have ne_b_18_b_70 : b_18 ≠ b_70 := by have := r_b_18.lt; omega
       have no_vc_b_70 : vc.ownBlock ≠ some b_70 := o_vc.apart (by omega)
       have ge_b_70 : w0.heap.size ≤ b_70 := by have := hk.size; omega
       clear hbe_b_70
       replace o_vc := o_vc.step hb35
       replace r_rp := r_rp.step hb35
       replace r_g := r_g.step hb35
       replace r_b_18 := r_b_18.step hb35
       replace hk := thenB hk hb35
       refine w_app (k := (s.length + 1 + ((119 - s.length % 64) % 64) + 0 + x)) (m := 1) (size := 1) (bytes := 1) (ev vc rfl rfl) (ev (.slice (some ⟨b_70, 0, none⟩) 1 1) rfl rfl) Tryd.underlying76 (by kernel_rfl) (by decide) o_vc hk.size r_b_70 (by omega) oca (by simp only [maxLen]; omega) (by omega) ?_
       intro v36 w37 o_v36 hg38 hv39
       have no_v36_rp := no_new no_vc_rp r_rp.lt hv39
       replace r_rp := r_rp.stepO hg38 no_vc_rp
       have no_v36_g := no_new no_vc_g r_g.lt hv39
       replace r_g := r_g.stepO hg38 no_vc_g
       have no_v36_b_18 := no_new no_vc_b_18 r_b_18.lt hv39
       replace r_b_18 := r_b_18.stepO hg38 no_vc_b_18
       have no_v36_b_70 := no_new no_vc_b_70 r_b_70.lt hv39
       replace r_b_70 := r_b_70.stepO hg38 no_vc_b_70
       replace hk := thenO hk hg38 (fun g e => (o_vc.block_lt g e).2)
       clear o_vc
       refine w_as (ev v36 rfl rfl) ?_
       refine wpList_nil ?_
       refine inb_n ?_
       refine then_n ?_
       refine wp_region_lit ?_
       refine w_mv (ev (.int .i64 ((x : Nat) : Int)) s3_8 rfl) ?_
       refine w_val (y_bin (ev (.int .i64 ((x : Nat) : Int)) rfl rfl) (evc (.int .i64 1)) (b_add (by omega))) ?_
       refine w_as (ev (.int .i64 (((x : Nat) : Int) + 1)) rfl rfl) ?_
       refine wpList_nil ?_
       exact then_n ⟨_, (by omega), x + 1, v36, rfl, _, rfl, iv, s3_0, s3_1, s3_4, rfl, s3_6, s3_7, (etv (b := .int .i64 (((x : Nat) : Int) + 1)) rfl), r_rp, r_g, r_b_18, (own_n (o_v36.congr (fun j hj => by (try dsimp only); by_cases e : j < (s.length + 1 + ((119 - s.length % 64) % 64) + 0 + x) * 1; (rw [if_pos e]); (rw [if_neg e]; exact congrArg U8 (Sha.full_n 256 s x j (by omega) (by omega))))) (by omega)), no_v36_rp, no_v36_g, no_v36_b_18, hk⟩
      ·skip
       refine wp_exit ?_
       refine then_x ?_
       refine then_x ?_
       refine inb_x ?_
       refine then_n ?_
       refine sr ?_
       refine w_mv (ev (pt rp 0) s3_0 rfl) ?_
       refine w_val (y_nc (ev (pt rp 0) rfl rfl)) ?_
       refine w_val (v := pt rp 5) (y_off (y_fa (ev (pt rp 0) rfl rfl) (ShaST.fa44_5 _ _)) (by first | rfl | omega)) ?_
       refine w_val (v := .agg (arr 8 (fun j => U64 ((Sha.H0 256) j)))) (y_lda (ev (pt rp 5) rfl rfl) ShaST.ag40 ShaST.sz40 (fun j hj => (r_rp.val (by omega) (by first | with_reducible rfl | exact ((if_neg (by omega)).trans ((if_neg (by omega)).trans ((if_neg (by omega)).trans ((if_neg (by omega)).trans ((if_neg (by omega)).trans (etv (if_pos (by omega)))))))))))) ?_
       refine w_alloc (m := 8) (F := fun j => U64 (0#64)) (by kernel_rfl) ?_
       intro b_h w40 hbe_b_h r_b_h hb41
       have ne_rp_b_h : rp ≠ b_h := by have := r_rp.lt; omega
       have ne_g_b_h : g ≠ b_h := by have := r_g.lt; omega
       have ne_b_18_b_h : b_18 ≠ b_h := by have := r_b_18.lt; omega
       have no_vc_b_h : vc.ownBlock ≠ some b_h := o_vc.apart (by omega)
       have ge_b_h : w0.heap.size ≤ b_h := by have := hk.size; omega
       clear hbe_b_h
       replace o_vc := o_vc.step hb41
       replace r_rp := r_rp.step hb41
       replace r_g := r_g.step hb41
       replace r_b_18 := r_b_18.step hb41
       replace hk := thenB hk hb41
       refine w_sta (k := 8) (G := fun j => U64 ((Sha.H0 256) j)) (ev (pt b_h 0) rfl rfl) (ev (.agg (arr 8 (fun j => U64 ((Sha.H0 256) j)))) rfl rfl) oc ShaST.sz40 r_b_h (by omega) ?_
       clear r_b_h; intro w42 r_b_h hg43 _
       replace r_b_h := r_b_h.congr (g := fun j => U64 ((Sha.H0 256) j)) (fun j hj => by rw [if_pos ⟨Nat.zero_le _, by omega⟩]; first | rfl | (simp only [Nat.sub_zero]))
       replace o_vc := o_vc.stepG hg43 no_vc_b_h
       replace r_rp := r_rp.stepG hg43 (by omega)
       replace r_g := r_g.stepG hg43 (by omega)
       replace r_b_18 := r_b_18.stepG hg43 (by omega)
       replace hk := thenG hk hg43 (by omega)
       refine nt ?_
       refine wp_seq ?_
       refine sr ?_
       refine w_as (evc (.int .i64 0)) ?_
       refine nt ?_
       refine wp_block ?_
       refine c_loop (fun dN aN wl => ∃ (t : Nat) (vd : Value), dN = (Sha.nb 256 s - t) ∧ ∃ f44, aN = fr 132 f44 ∧ (t ≤ Sha.nb 256 s) ∧ f44 0 = pt rp 0 ∧ f44 1 = .string (str s) ∧ f44 4 = .string (str ([] : List (BitVec 8))) ∧ f44 5 = vd ∧ f44 6 = .int .i64 ((y : Nat) : Int) ∧ f44 7 = U64 ((BitVec.ofNat 64 s.length) * (8#64)) ∧ f44 8 = .int .i64 ((x : Nat) : Int) ∧ f44 9 = pt b_h 0 ∧ f44 10 = .int .i64 (((64 * t) : Nat) : Int) ∧ Row wl rp 44 25 (Sha.rrow (.int .i64 256) (.int .i64 32) (.int .i64 64) (.int .i64 64) (.slice (some ⟨g, 0, none⟩) 64 cap) (Sha.H0 256) (fun i => U64 (BitVec.ofNat 64 (Sha.trn true i)))) ∧ Row wl g 39 64 (fun j => U64 (Sha.K true j)) ∧ Row wl b_18 5 1 (fun j => U8 (128#8)) ∧ Row wl b_h 40 8 (fun j => U64 (Sha.st 256 (gb (Sha.full 256 s)) t j)) ∧ Own wl w0.heap.size 5 1 vd (s.length + 1 + ((119 - s.length % 64) % 64) + 8) (fun j => U8 (gb (Sha.full 256 s) j)) ∧ vd.ownBlock ≠ some rp ∧ vd.ownBlock ≠ some g ∧ vd.ownBlock ≠ some b_18 ∧ vd.ownBlock ≠ some b_h ∧ Below w0.heap.size w0 wl) (Sha.nb 256 s - 0) ?_ ?_
       · exact ⟨0, vc, rfl, _, rfl, iv, s3_0, s3_1, s3_4, (Eq.trans (b := vc) s3_5 (by first | with_reducible rfl | (with_reducible congr 1 <;> omega) | (with_reducible congr 2 <;> omega) | (with_reducible congr 3 <;> omega) | rfl)), s3_6, s3_7, s3_8, rfl, (Eq.trans (b := .int .i64 0) rfl (by rfl)), r_rp, r_g, r_b_18, (r_b_h.congr (fun j hj => by rfl)), (own_n (o_vc.cg) (by omega)), no_vc_rp, no_vc_g, no_vc_b_18, no_vc_b_h, hk⟩
       ·skip
        clear r_rp r_g r_b_18 r_b_h o_vc hk
        rintro _ _ w45 ⟨t, vd, rfl, f44, rfl, i4_0, s4_0, s4_1, s4_4, s4_5, s4_6, s4_7, s4_8, s4_9, s4_10, r_rp, r_g, r_b_18, r_b_h, o_vd, no_vd_rp, no_vd_g, no_vd_b_18, no_vd_b_h, hk⟩
        have hlt : t < Sha.nb 256 s → (((Sha.full 256 s).drop (64 * t)).take 64).length = 64 := fun h => by rw [List.length_take, List.length_drop, hfl]; omega
        refine wp_seq ?_
        refine sr ?_
        refine w_mv (ev (.int .i64 (((64 * t) : Nat) : Int)) s4_10 rfl) ?_
        refine w_mv (ev vd s4_5 rfl) ?_
        refine w_val (v := .int .i64 (((s.length + 1 + ((119 - s.length % 64) % 64) + 8) : Nat) : Int)) (y_len_own (ev vd rfl rfl) o_vd Tryd.underlying76) ?_
        refine w_val (y_bin (ev (.int .i64 (((64 * t) : Nat) : Int)) rfl rfl) (ev (.int .i64 (((s.length + 1 + ((119 - s.length % 64) % 64) + 8) : Nat) : Int)) rfl rfl) b_lss) ?_
        refine nt ?_
        refine c_if (p := (((64 * t) : Nat) : Int) < (((s.length + 1 + ((119 - s.length % 64) % 64) + 8) : Nat) : Int)) (ev (.bool (decide ((((64 * t) : Nat) : Int) < (((s.length + 1 + ((119 - s.length % 64) % 64) + 8) : Nat) : Int)))) rfl rfl) (fun hc46 => ?_) (fun hc46 => ?_)
        ·skip
         refine wp_skip ?_
         refine then_n ?_
         refine wp_seq ?_
         refine wp_block ?_
         obtain ⟨g47, cap47, hv47, ge_g47, hc_g47, hob_g47, r_g47⟩ := o_vd.opened (by omega)
         have ne_rp_g47 : rp ≠ g47 := fun e => no_vd_rp (by rw [hob_g47, e])
         have ne_g_g47 : g ≠ g47 := fun e => no_vd_g (by rw [hob_g47, e])
         have ne_b_18_g47 : b_18 ≠ g47 := fun e => no_vd_b_18 (by rw [hob_g47, e])
         have ne_b_h_g47 : b_h ≠ g47 := fun e => no_vd_b_h (by rw [hob_g47, e])
         refine region_t 13 ShaST.mixed (by kernel_rfl) ?_
         simp only [List.take_succ_cons, List.take_zero, List.drop_succ_cons, List.drop_zero]
         refine q_mv (ev (pt rp 0) s4_0 rfl) ?_
         refine q_val (v := .agg (arr 8 (fun j => U64 (Sha.st 256 (gb (Sha.full 256 s)) t j)))) (fun w' hw' => y_lda (ev (pt b_h 0) s4_9 rfl) ShaST.ag40 ShaST.sz40 (fun j hj => by rw [Nat.zero_add]; exact (cls_cell (r_b_h.cell (by omega)) r_b_h.lt w' hw'))) ?_
         refine q_mv (ev vd s4_5 rfl) ?_
         refine q_mv (ev (.int .i64 (((64 * t) : Nat) : Int)) s4_10 rfl) ?_
         refine q_mv (ev (.int .i64 (((64 * t) : Nat) : Int)) s4_10 rfl) ?_
         refine q_mv (ev (pt rp 0) s4_0 rfl) ?_
         refine q_val (fun w' hw' => y_nc (ev (pt rp 0) rfl rfl)) ?_
         refine q_val (v := pt rp 2) (fun w' hw' => y_off (y_fa (ev (pt rp 0) rfl rfl) (ShaST.fa44_2 _ _)) (by first | rfl | omega)) ?_
         refine q_val (v := .int .i64 64) (fun w' hw' => y_ld (ev (pt rp 2) rfl rfl) ShaST.sc3 (cls_cell (r_rp.val (by omega) ((if_neg (by omega)).trans ((if_neg (by omega)).trans (etv (if_pos (by omega)))))) r_rp.lt w' hw')) ?_
         refine q_val (fun w' hw' => y_bin (ev (.int .i64 (((64 * t) : Nat) : Int)) rfl rfl) (ev (.int .i64 64) rfl rfl) (b_add (by omega))) ?_
         refine q_val (v := .slice (some ⟨g47, (64 * t), none⟩) (((64 * t) + 64) - (64 * t)) (cap47 - (64 * t))) (fun w' hw' => y_sloff (y_slv (ev (.slice (some ⟨g47, 0, none⟩) (s.length + 1 + ((119 - s.length % 64) % 64) + 8) cap47) (Eq.trans (b := vd) rfl hv47) rfl) (evo.s (ev (.int .i64 (((64 * t) : Nat) : Int)) rfl rfl)) (evo.s (ev (.int .i64 ((((64 * t) : Nat) : Int) + 64)) rfl rfl)) Tryd.underlying76 ShaST.sz5 (bnd_lh (l := (64 * t)) (h := ((64 * t) + 64)) (by omega) (by omega) (by omega) (by omega)) (by omega)) (by first | rfl | omega) rfl) ?_
         refine q_val (fun w' hw' => y_str (l := ((Sha.full 256 s).drop (64 * t)).take 64) (ev (.slice (some ⟨g47, (64 * t), none⟩) (((64 * t) + 64) - (64 * t)) (cap47 - (64 * t))) rfl rfl) (by rw [List.length_take, List.length_drop, hfl]; omega) Tryd.underlying76 Tryd.underlying5 Tryd.underlying9 (fun j hj => (cls_cell (r_g47.val (by omega) (by rw [gb_take _ _ _ (show j < 64 by omega), gb_drop])) r_g47.lt w' hw'))) ?_
         refine q_call (v := .agg (arr 8 (fun j => U64 (Sha.comp true (gb (((Sha.full 256 s).drop (64 * t)).take 64)) (Sha.st 256 (gb (Sha.full 256 s)) t) j)))) (Tryd.func43) (by kernel_rfl) rfl (m3 (ev (pt rp 0) rfl rfl) (ev (.agg (arr 8 (fun j => U64 (Sha.st 256 (gb (Sha.full 256 s)) t j)))) rfl rfl) (ev (.string (str (((Sha.full 256 s).drop (64 * t)).take 64))) rfl rfl)) (fun w' hw' => block_t rp 32 g cap (Sha.H0 256) (Sha.st 256 (gb (Sha.full 256 s)) t) (((Sha.full 256 s).drop (64 * t)).take 64) (hlt (by omega)) w' (r_rp.step hw') (r_g.step hw')) ?_
         refine q_nil ?_
         intro w48 hb49
         replace o_vd := o_vd.step hb49
         replace r_rp := r_rp.step hb49
         replace r_g := r_g.step hb49
         replace r_b_18 := r_b_18.step hb49
         replace r_b_h := r_b_h.step hb49
         replace r_g47 := r_g47.step hb49
         replace hk := thenB hk hb49
         refine w_sta (k := 8) (G := fun j => U64 (Sha.comp true (gb (((Sha.full 256 s).drop (64 * t)).take 64)) (Sha.st 256 (gb (Sha.full 256 s)) t) j)) (ev (pt b_h 0) s4_9 rfl) (ev (.agg (arr 8 (fun j => U64 (Sha.comp true (gb (((Sha.full 256 s).drop (64 * t)).take 64)) (Sha.st 256 (gb (Sha.full 256 s)) t) j)))) rfl rfl) oc ShaST.sz40 r_b_h (by omega) ?_
         clear r_b_h; intro w50 r_b_h hg51 _
         replace r_b_h := r_b_h.congr (g := fun j => U64 (Sha.comp true (gb (((Sha.full 256 s).drop (64 * t)).take 64)) (Sha.st 256 (gb (Sha.full 256 s)) t) j)) (fun j hj => by rw [if_pos ⟨Nat.zero_le _, by omega⟩]; first | rfl | (simp only [Nat.sub_zero]))
         replace o_vd := o_vd.stepG hg51 no_vd_b_h
         replace r_rp := r_rp.stepG hg51 (by omega)
         replace r_g := r_g.stepG hg51 (by omega)
         replace r_b_18 := r_b_18.stepG hg51 (by omega)
         replace r_g47 := r_g47.stepG hg51 (by omega)
         replace hk := thenG hk hg51 (by omega)
         refine wpList_nil ?_
         refine inb_n ?_
         refine then_n ?_
         refine wp_region_lit ?_
         refine w_mv (ev (.int .i64 (((64 * t) : Nat) : Int)) s4_10 rfl) ?_
         refine w_mv (ev (pt rp 0) s4_0 rfl) ?_
         refine w_val (y_nc (ev (pt rp 0) rfl rfl)) ?_
         refine w_val (v := pt rp 2) (y_off (y_fa (ev (pt rp 0) rfl rfl) (ShaST.fa44_2 _ _)) (by first | rfl | omega)) ?_
         refine w_val (v := .int .i64 64) (y_ld (ev (pt rp 2) rfl rfl) ShaST.sc3 (r_rp.val (by omega) ((if_neg (by omega)).trans ((if_neg (by omega)).trans (etv (if_pos (by omega))))))) ?_
         refine w_val (y_bin (ev (.int .i64 (((64 * t) : Nat) : Int)) rfl rfl) (ev (.int .i64 64) rfl rfl) (b_add (by omega))) ?_
         refine w_as (ev (.int .i64 ((((64 * t) : Nat) : Int) + 64)) rfl rfl) ?_
         refine wpList_nil ?_
         exact then_n ⟨_, (by omega), t + 1, vd, rfl, _, rfl, iv, s4_0, s4_1, s4_4, s4_5, s4_6, s4_7, s4_8, s4_9, (Eq.trans (b := .int .i64 ((((64 * t) : Nat) : Int) + 64)) rfl (by congr 1)), r_rp, r_g, r_b_18, (r_b_h.congr (fun j hj => by exact congrArg U64 (congrFun (Sha.st_next 256 (gb (Sha.full 256 s)) (gb (((Sha.full 256 s).drop (64 * t)).take 64)) t (fun i hi => by rw [gb_take _ _ _ (show i < 64 from hi), gb_drop]; rfl)) j))), o_vd, no_vd_rp, no_vd_g, no_vd_b_18, no_vd_b_h, hk⟩
        ·skip
         refine wp_exit ?_
         refine then_x ?_
         replace r_b_h := r_b_h.congr (g := fun j => U64 (Sha.st 256 (gb (Sha.full 256 s)) (Sha.nb 256 s) j)) (fun j hj => by rw [show t = Sha.nb 256 s from by omega])
         refine then_x ?_
         refine inb_x ?_
         refine then_n ?_
         refine sr ?_
         refine w_as (evc (.slice none 0 0)) ?_
         refine nt ?_
         refine sr ?_
         refine w_mv (ev (pt rp 0) s4_0 rfl) ?_
         refine w_val (y_nc (ev (pt rp 0) rfl rfl)) ?_
         refine w_val (v := pt rp 2) (y_off (y_fa (ev (pt rp 0) rfl rfl) (ShaST.fa44_2 _ _)) (by first | rfl | omega)) ?_
         refine w_val (v := .int .i64 64) (y_ld (ev (pt rp 2) rfl rfl) ShaST.sc3 (r_rp.val (by omega) ((if_neg (by omega)).trans ((if_neg (by omega)).trans (etv (if_pos (by omega))))))) ?_
         refine w_val (y_bin (ev (.int .i64 64) rfl rfl) (evc (.int .i64 16)) (b_quo (by omega))) ?_
         refine w_as (ev (.int .i64 4) rfl rfl) ?_
         refine nt ?_
         refine wp_seq ?_
         refine sr ?_
         refine w_as (evc (.int .i64 0)) ?_
         refine nt ?_
         refine wp_block ?_
         refine c_loop (fun dN aN wl => ∃ (a : Nat) (ve : Value) (wd : Value), dN = (8 - a) ∧ ∃ f52, aN = fr 132 f52 ∧ (a ≤ 8) ∧ f52 0 = pt rp 0 ∧ f52 1 = .string (str s) ∧ f52 4 = .string (str ([] : List (BitVec 8))) ∧ f52 5 = wd ∧ f52 6 = .int .i64 ((y : Nat) : Int) ∧ f52 7 = U64 ((BitVec.ofNat 64 s.length) * (8#64)) ∧ f52 8 = .int .i64 ((x : Nat) : Int) ∧ f52 9 = pt b_h 0 ∧ f52 10 = .int .i64 (((64 * t) : Nat) : Int) ∧ f52 11 = ve ∧ f52 12 = .int .i64 4 ∧ f52 13 = .int .i64 ((a : Nat) : Int) ∧ Row wl rp 44 25 (Sha.rrow (.int .i64 256) (.int .i64 32) (.int .i64 64) (.int .i64 64) (.slice (some ⟨g, 0, none⟩) 64 cap) (Sha.H0 256) (fun i => U64 (BitVec.ofNat 64 (Sha.trn true i)))) ∧ Row wl g 39 64 (fun j => U64 (Sha.K true j)) ∧ Row wl b_18 5 1 (fun j => U8 (128#8)) ∧ Row wl b_h 40 8 (fun j => U64 (Sha.st 256 (gb (Sha.full 256 s)) (Sha.nb 256 s) j)) ∧ Own wl w0.heap.size 5 1 ve (4 * a) (fun j => U8 ((Sha.st 256 (gb (Sha.full 256 s)) (Sha.nb 256 s) (j / 4) >>> (8 * (3 - j % 4))).setWidth 8)) ∧ ve.ownBlock ≠ some rp ∧ ve.ownBlock ≠ some g ∧ ve.ownBlock ≠ some b_18 ∧ ve.ownBlock ≠ some b_h ∧ (∀ g, ve.ownBlock = some g → wd.ownBlock ≠ some g) ∧ Own wl w0.heap.size 5 1 wd (s.length + 1 + ((119 - s.length % 64) % 64) + 8) (fun j => U8 (gb (Sha.full 256 s) j)) ∧ wd.ownBlock ≠ some rp ∧ wd.ownBlock ≠ some g ∧ wd.ownBlock ≠ some b_18 ∧ wd.ownBlock ≠ some b_h ∧ (∀ g, wd.ownBlock = some g → ve.ownBlock ≠ some g) ∧ Below w0.heap.size w0 wl) (8 - 0) ?_ ?_
         · exact ⟨0, (.slice none 0 0), vd, rfl, _, rfl, iv, s4_0, s4_1, s4_4, (Eq.trans (b := vd) s4_5 (by first | with_reducible rfl | (with_reducible congr 1 <;> omega) | (with_reducible congr 2 <;> omega) | (with_reducible congr 3 <;> omega) | rfl)), s4_6, s4_7, s4_8, s4_9, s4_10, (etv (b := .slice none 0 0) rfl), rfl, (etv (b := .int .i64 0) rfl), r_rp, r_g, r_b_18, r_b_h, Own.nil, (fun e => by cases e), (fun e => by cases e), (fun e => by cases e), (fun e => by cases e), (fun g e => by cases e), o_vd, no_vd_rp, no_vd_g, no_vd_b_18, no_vd_b_h, (fun g _ e => by cases e), hk⟩
         ·skip
          clear r_rp r_g r_b_18 r_b_h o_vd hk
          rintro _ _ w53 ⟨a, ve, wd, rfl, f52, rfl, i5_0, s5_0, s5_1, s5_4, s5_5, s5_6, s5_7, s5_8, s5_9, s5_10, s5_11, s5_12, s5_13, r_rp, r_g, r_b_18, r_b_h, o_ve, no_ve_rp, no_ve_g, no_ve_b_18, no_ve_b_h, sep_ve_wd, o_wd, no_wd_rp, no_wd_g, no_wd_b_18, no_wd_b_h, sep_wd_ve, hk⟩
          refine wp_seq ?_
          refine sr ?_
          refine w_mv (ev (.int .i64 ((a : Nat) : Int)) s5_13 rfl) ?_
          refine w_val (y_bin (ev (.int .i64 ((a : Nat) : Int)) rfl rfl) (evc (.int .i64 8)) b_lss) ?_
          refine nt ?_
          refine c_if (p := ((a : Nat) : Int) < 8) (ev (.bool (decide (((a : Nat) : Int) < 8))) rfl rfl) (fun hc54 => ?_) (fun hc54 => ?_)
          ·skip
           refine wp_skip ?_
           refine then_n ?_
           refine wp_seq ?_
           refine wp_block ?_
           refine sr ?_
           refine w_mv (ev (.int .i64 4) s5_12 rfl) ?_
           refine w_val (y_bin (ev (.int .i64 4) rfl rfl) (evc (.int .i64 1)) (b_sub (by omega))) ?_
           refine w_as (ev (.int .i64 3) rfl rfl) ?_
           refine nt ?_
           refine wp_block ?_
           refine c_loop (fun dN aN wl => ∃ (b : Nat) (vf : Value) (we : Value), dN = (4 - b) ∧ ∃ f55, aN = fr 132 f55 ∧ (b ≤ 4) ∧ f55 0 = pt rp 0 ∧ f55 1 = .string (str s) ∧ f55 4 = .string (str ([] : List (BitVec 8))) ∧ f55 5 = we ∧ f55 6 = .int .i64 ((y : Nat) : Int) ∧ f55 7 = U64 ((BitVec.ofNat 64 s.length) * (8#64)) ∧ f55 8 = .int .i64 ((x : Nat) : Int) ∧ f55 9 = pt b_h 0 ∧ f55 10 = .int .i64 (((64 * t) : Nat) : Int) ∧ f55 11 = vf ∧ f55 12 = .int .i64 4 ∧ f55 13 = .int .i64 ((a : Nat) : Int) ∧ f55 14 = .int .i64 (3 - ((b : Nat) : Int)) ∧ Row wl rp 44 25 (Sha.rrow (.int .i64 256) (.int .i64 32) (.int .i64 64) (.int .i64 64) (.slice (some ⟨g, 0, none⟩) 64 cap) (Sha.H0 256) (fun i => U64 (BitVec.ofNat 64 (Sha.trn true i)))) ∧ Row wl g 39 64 (fun j => U64 (Sha.K true j)) ∧ Row wl b_18 5 1 (fun j => U8 (128#8)) ∧ Row wl b_h 40 8 (fun j => U64 (Sha.st 256 (gb (Sha.full 256 s)) (Sha.nb 256 s) j)) ∧ Own wl w0.heap.size 5 1 vf (4 * a + b) (fun j => U8 ((Sha.st 256 (gb (Sha.full 256 s)) (Sha.nb 256 s) (j / 4) >>> (8 * (3 - j % 4))).setWidth 8)) ∧ vf.ownBlock ≠ some rp ∧ vf.ownBlock ≠ some g ∧ vf.ownBlock ≠ some b_18 ∧ vf.ownBlock ≠ some b_h ∧ (∀ g, vf.ownBlock = some g → we.ownBlock ≠ some g) ∧ Own wl w0.heap.size 5 1 we (s.length + 1 + ((119 - s.length % 64) % 64) + 8) (fun j => U8 (gb (Sha.full 256 s) j)) ∧ we.ownBlock ≠ some rp ∧ we.ownBlock ≠ some g ∧ we.ownBlock ≠ some b_18 ∧ we.ownBlock ≠ some b_h ∧ (∀ g, we.ownBlock = some g → vf.ownBlock ≠ some g) ∧ Below w0.heap.size w0 wl) (4 - 0) ?_ ?_
           · exact ⟨0, ve, wd, rfl, _, rfl, iv, s5_0, s5_1, s5_4, (Eq.trans (b := wd) s5_5 (by first | with_reducible rfl | (with_reducible congr 1 <;> omega) | (with_reducible congr 2 <;> omega) | (with_reducible congr 3 <;> omega) | rfl)), s5_6, s5_7, s5_8, s5_9, s5_10, (Eq.trans (b := ve) s5_11 (by first | with_reducible rfl | (with_reducible congr 1 <;> omega) | (with_reducible congr 2 <;> omega) | (with_reducible congr 3 <;> omega) | rfl)), s5_12, s5_13, (Eq.trans (b := .int .i64 3) rfl (by rfl)), r_rp, r_g, r_b_18, r_b_h, (own_n (o_ve.cg) (by omega)), no_ve_rp, no_ve_g, no_ve_b_18, no_ve_b_h, sep_ve_wd, o_wd, no_wd_rp, no_wd_g, no_wd_b_18, no_wd_b_h, sep_wd_ve, hk⟩
           ·skip
            clear r_rp r_g r_b_18 r_b_h o_ve o_wd hk
            rintro _ _ w56 ⟨b, vf, we, rfl, f55, rfl, i6_0, s6_0, s6_1, s6_4, s6_5, s6_6, s6_7, s6_8, s6_9, s6_10, s6_11, s6_12, s6_13, s6_14, r_rp, r_g, r_b_18, r_b_h, o_vf, no_vf_rp, no_vf_g, no_vf_b_18, no_vf_b_h, sep_vf_we, o_we, no_we_rp, no_we_g, no_we_b_18, no_we_b_h, sep_we_vf, hk⟩
            refine wp_seq ?_
            refine sr ?_
            refine w_mv (ev (.int .i64 (3 - ((b : Nat) : Int))) s6_14 rfl) ?_
            refine w_val (y_bin (ev (.int .i64 (3 - ((b : Nat) : Int))) rfl rfl) (evc (.int .i64 0)) b_geq) ?_
            refine nt ?_
            refine c_if (p := 0 ≤ (3 - ((b : Nat) : Int))) (ev (.bool (decide (0 ≤ (3 - ((b : Nat) : Int))))) rfl rfl) (fun hc57 => ?_) (fun hc57 => ?_)
            ·skip
             refine wp_skip ?_
             refine then_n ?_
             refine wp_seq ?_
             refine wp_block ?_
             refine wp_region_lit ?_
             refine w_mv (ev vf s6_11 rfl) ?_
             refine w_mv (ev (.int .i64 ((a : Nat) : Int)) s6_13 rfl) ?_
             refine w_val (y_ia1z (i := a) (ev (pt b_h 0) s6_9 rfl) (ev (.int .i64 ((a : Nat) : Int)) rfl rfl) Tryd.underlying40 ShaST.sz39 (by omega) (by omega)) ?_
             refine w_val (v := U64 (Sha.st 256 (gb (Sha.full 256 s)) (Sha.nb 256 s) a)) (y_ld (ev (pt b_h a) rfl rfl) ShaST.sc39 (r_b_h.val (by omega) rfl)) ?_
             refine w_mv (ev (.int .i64 (3 - ((b : Nat) : Int))) s6_14 rfl) ?_
             refine w_val (y_bin (evc (.int .i64 8)) (ev (.int .i64 (3 - ((b : Nat) : Int))) rfl rfl) (b_mul (by omega))) ?_
             refine w_val (y_nat_u64 (p := (8 * (3 - b))) (ev (.int .i64 (8 * (3 - ((b : Nat) : Int)))) rfl rfl) (by omega) ShaST.so3 Tryd.underlying41) ?_
             refine w_val (y_bin (ev (U64 (Sha.st 256 (gb (Sha.full 256 s)) (Sha.nb 256 s) a)) rfl rfl) (ev (U64 (BitVec.ofNat 64 (8 * (3 - b)))) rfl rfl) (shr64 (c := (8 * (3 - b))) (by rw [BitVec.toNat_ofNat]; omega))) ?_
             refine w_val (y_u64_u8 (ev (U64 ((Sha.st 256 (gb (Sha.full 256 s)) (Sha.nb 256 s) a) >>> (8 * (3 - b)))) rfl rfl) ShaST.so39 Tryd.underlying5) ?_
             refine w_bs1 (m := 1) (e := 5) (F := fun j => U8 (((Sha.st 256 (gb (Sha.full 256 s)) (Sha.nb 256 s) a) >>> (8 * (3 - b))).setWidth 8)) (ev (U8 (((Sha.st 256 (gb (Sha.full 256 s)) (Sha.nb 256 s) a) >>> (8 * (3 - b))).setWidth 8)) rfl rfl) (fun w => by kernel_rfl) ?_
             intro b_123 w58 hbe_b_123 r_b_123 hb59
             have ne_rp_b_123 : rp ≠ b_123 := by have := r_rp.lt; omega
             have ne_g_b_123 : g ≠ b_123 := by have := r_g.lt; omega
             have ne_b_18_b_123 : b_18 ≠ b_123 := by have := r_b_18.lt; omega
             have ne_b_h_b_123 : b_h ≠ b_123 := by have := r_b_h.lt; omega
             have no_vf_b_123 : vf.ownBlock ≠ some b_123 := o_vf.apart (by omega)
             have no_we_b_123 : we.ownBlock ≠ some b_123 := o_we.apart (by omega)
             have ge_b_123 : w0.heap.size ≤ b_123 := by have := hk.size; omega
             clear hbe_b_123
             replace o_vf := o_vf.step hb59
             replace o_we := o_we.step hb59
             replace r_rp := r_rp.step hb59
             replace r_g := r_g.step hb59
             replace r_b_18 := r_b_18.step hb59
             replace r_b_h := r_b_h.step hb59
             replace hk := thenB hk hb59
             refine w_app (k := (4 * a + b)) (m := 1) (size := 1) (bytes := 1) (ev vf rfl rfl) (ev (.slice (some ⟨b_123, 0, none⟩) 1 1) rfl rfl) Tryd.underlying76 (by kernel_rfl) (by decide) o_vf hk.size r_b_123 (by omega) oca (by simp only [maxLen]; omega) (by omega) ?_
             intro v60 w61 o_v60 hg62 hv63
             have sep_we_v60 : ∀ g, we.ownBlock = some g → v60.ownBlock ≠ some g := sep_new sep_we_vf o_we hv63
             have sep_v60_we : ∀ g, v60.ownBlock = some g → we.ownBlock ≠ some g := sep_sym sep_we_v60
             replace o_we := o_we.stepO hg62 (sep_or sep_we_vf)
             have no_v60_rp := no_new no_vf_rp r_rp.lt hv63
             replace r_rp := r_rp.stepO hg62 no_vf_rp
             have no_v60_g := no_new no_vf_g r_g.lt hv63
             replace r_g := r_g.stepO hg62 no_vf_g
             have no_v60_b_18 := no_new no_vf_b_18 r_b_18.lt hv63
             replace r_b_18 := r_b_18.stepO hg62 no_vf_b_18
             have no_v60_b_h := no_new no_vf_b_h r_b_h.lt hv63
             replace r_b_h := r_b_h.stepO hg62 no_vf_b_h
             have no_v60_b_123 := no_new no_vf_b_123 r_b_123.lt hv63
             replace r_b_123 := r_b_123.stepO hg62 no_vf_b_123
             replace hk := thenO hk hg62 (fun g e => (o_vf.block_lt g e).2)
             clear o_vf
             refine w_as (ev v60 rfl rfl) ?_
             refine wpList_nil ?_
             refine inb_n ?_
             refine then_n ?_
             refine wp_region_lit ?_
             refine w_mv (ev (.int .i64 (3 - ((b : Nat) : Int))) s6_14 rfl) ?_
             refine w_val (y_bin (ev (.int .i64 (3 - ((b : Nat) : Int))) rfl rfl) (evc (.int .i64 1)) (b_sub (by omega))) ?_
             refine w_as (ev (.int .i64 ((3 - ((b : Nat) : Int)) - 1)) rfl rfl) ?_
             refine wpList_nil ?_
             exact then_n ⟨_, (by omega), b + 1, v60, we, rfl, _, rfl, iv, s6_0, s6_1, s6_4, s6_5, s6_6, s6_7, s6_8, s6_9, s6_10, rfl, s6_12, s6_13, (Eq.trans (b := .int .i64 ((3 - ((b : Nat) : Int)) - 1)) rfl (by congr 1; omega)), r_rp, r_g, r_b_18, r_b_h, (own_n (o_v60.congr (fun j hj => by (try dsimp only); by_cases e : j < (4 * a + b) * 1; (rw [if_pos e]); (rw [if_neg e]; exact congrArg U8 (by rw [show j / 4 = a from by omega, show j % 4 = b from by omega])))) (by omega)), no_v60_rp, no_v60_g, no_v60_b_18, no_v60_b_h, sep_v60_we, o_we, no_we_rp, no_we_g, no_we_b_18, no_we_b_h, sep_we_v60, hk⟩
            ·skip
             refine wp_exit ?_
             refine then_x ?_
             refine then_x ?_
             refine inb_x ?_
             refine inb_n ?_
             refine then_n ?_
             refine wp_region_lit ?_
             refine w_mv (ev (.int .i64 ((a : Nat) : Int)) s6_13 rfl) ?_
             refine w_val (y_bin (ev (.int .i64 ((a : Nat) : Int)) rfl rfl) (evc (.int .i64 1)) (b_add (by omega))) ?_
             refine w_as (ev (.int .i64 (((a : Nat) : Int) + 1)) rfl rfl) ?_
             refine wpList_nil ?_
             exact then_n ⟨_, (by omega), a + 1, vf, we, rfl, _, rfl, iv, s6_0, s6_1, s6_4, s6_5, s6_6, s6_7, s6_8, s6_9, s6_10, s6_11, s6_12, (etv (b := .int .i64 (((a : Nat) : Int) + 1)) rfl), r_rp, r_g, r_b_18, r_b_h, (own_n (o_vf.cg) (by omega)), no_vf_rp, no_vf_g, no_vf_b_18, no_vf_b_h, sep_vf_we, o_we, no_we_rp, no_we_g, no_we_b_18, no_we_b_h, sep_we_vf, hk⟩
          ·skip
           refine wp_exit ?_
           refine then_x ?_
           refine then_x ?_
           refine inb_x ?_
           refine then_n ?_
           refine wp_seq ?_
           obtain ⟨g64, cap64, hv64, ge_g64, hc_g64, hob_g64, r_g64⟩ := o_ve.opened (by omega)
           have ne_rp_g64 : rp ≠ g64 := fun e => no_ve_rp (by rw [hob_g64, e])
           have ne_g_g64 : g ≠ g64 := fun e => no_ve_g (by rw [hob_g64, e])
           have ne_b_18_g64 : b_18 ≠ g64 := fun e => no_ve_b_18 (by rw [hob_g64, e])
           have ne_b_h_g64 : b_h ≠ g64 := fun e => no_ve_b_h (by rw [hob_g64, e])
           have no_wd_g64 : wd.ownBlock ≠ some g64 := fun e => sep_wd_ve _ e hob_g64
           refine wp_region_lit ?_
           refine w_mv (ev ve s5_11 rfl) ?_
           refine w_mv (ev (pt rp 0) s5_0 rfl) ?_
           refine w_val (y_nc (ev (pt rp 0) rfl rfl)) ?_
           refine w_val (v := pt rp 1) (y_off (y_fa (ev (pt rp 0) rfl rfl) (ShaST.fa44_1 _ _)) (by first | rfl | omega)) ?_
           refine w_val (v := .int .i64 32) (y_ld (ev (pt rp 1) rfl rfl) ShaST.sc3 (r_rp.val (by omega) ((if_neg (by omega)).trans (etv (if_pos (by omega)))))) ?_
           refine w_val (v := .slice (some ⟨g64, 0, none⟩) 32 cap64) (y_slh (ev (.slice (some ⟨g64, 0, none⟩) (4 * a) cap64) (Eq.trans (b := ve) rfl hv64) rfl) (evo.s (ev (.int .i64 32) rfl rfl)) Tryd.underlying76 (bnd_h (h := 32) (by omega) (by omega)) ShaST.sz5) ?_
           refine w_val (y_str (l := Sha.sum 256 s) (ev (.slice (some ⟨g64, 0, none⟩) 32 cap64) rfl rfl) (by rw [Sha.length_sum]; rfl) Tryd.underlying76 Tryd.underlying5 Tryd.underlying9 (fun j hj => (r_g64.val (by omega) (by rw [Sha.gb_sum _ _ _ (show j < Sha.ol 256 from hj), Nat.zero_add]; rfl)))) ?_
           refine w_as (ev (.string (str (Sha.sum 256 s))) rfl rfl) ?_
           refine nt ?_
           refine wp_ret ?_
           refine fin_ret1 rfl (ev (.string (str (Sha.sum 256 s))) rfl rfl) ?_
           exact ⟨rfl, hk⟩

set_option maxRecDepth 100000 in
set_option maxHeartbeats 1000000 in
theorem ruleSum_384 (rp g cap : Nat) (s : List (BitVec 8)) (hs : s.length ≤ 1099511627776) (w0 : World) (r_rp : Row w0 rp 44 25 (Sha.rrow (.int .i64 384) (.int .i64 48) (.int .i64 128) (.int .i64 80) (.slice (some ⟨g, 0, none⟩) 80 cap) (Sha.H0 384) (fun i => U64 (BitVec.ofNat 64 (Sha.trn false i))))) (r_g : Row w0 g 39 80 (fun j => U64 (Sha.K false j))) : Calls Tryd.prog 29 #[pt rp 0, .string (str s)] w0 fun e w' => e = .returned (.string (str (Sha.sum 384 s))) ∧ Below w0.heap.size w0 w' := by
 have hpl : Sha.padl 384 s.length = ((239 - s.length % 128) % 128) + 1 + 16 := by rw [Sha.padl_eq 384 128 _ rfl]
 have hnb : 128 * Sha.nb 384 s = s.length + Sha.padl 384 s.length := by have h := Sha.length_full 384 s; unfold Sha.full at h; rw [List.length_append, Sha.length_pad] at h; exact h.symm
 have hfl : (Sha.full 384 s).length = 128 * Sha.nb 384 s := Sha.length_full 384 s
 refine enter (n := 132) Tryd.func29 rfl rfl rfl ?_
 have hk : Below w0.heap.size w0 w0 := Below.refl _ _
 have lt_rp := r_rp.lt
 have lt_g := r_g.lt
 refine sr ?_
 refine w_as (evc (.string (str ([] : List (BitVec 8))))) ?_
 refine nt ?_
 refine sr ?_
 refine w_mv (ev (.string (str s)) rfl rfl) ?_
 refine w_bytes_own (ev (.string (str s)) rfl rfl) Tryd.underlying9 Tryd.underlying76 Tryd.underlying5 (by simp only [maxLen]; omega) hk.size ?_
 intro v1 w2 o_v1 hv4 hb3
 have no_v1_rp : v1.ownBlock ≠ some rp := fun e1 => by rw [hv4] at e1; injection e1 with e1; have := r_rp.lt; omega
 have no_v1_g : v1.ownBlock ≠ some g := fun e1 => by rw [hv4] at e1; injection e1 with e1; have := r_g.lt; omega
 replace r_rp := r_rp.step hb3
 replace r_g := r_g.step hb3
 replace hk := thenB hk hb3
 refine w_as (ev v1 rfl rfl) ?_
 refine nt ?_
 refine sr ?_
 refine w_mv (ev v1 rfl rfl) ?_
 refine w_bs1 (m := 1) (e := 5) (F := fun j => U8 (128#8)) (evc (U8 (128#8))) (fun w => by kernel_rfl) ?_
 intro b_18 w5 hbe_b_18 r_b_18 hb6
 have ne_rp_b_18 : rp ≠ b_18 := by have := r_rp.lt; omega
 have ne_g_b_18 : g ≠ b_18 := by have := r_g.lt; omega
 have no_v1_b_18 : v1.ownBlock ≠ some b_18 := o_v1.apart (by omega)
 have ge_b_18 : w0.heap.size ≤ b_18 := by have := hk.size; omega
 clear hbe_b_18
 replace o_v1 := o_v1.step hb6
 replace r_rp := r_rp.step hb6
 replace r_g := r_g.step hb6
 replace hk := thenB hk hb6
 refine w_app (k := s.length) (m := 1) (size := 1) (bytes := 1) (ev v1 rfl rfl) (ev (.slice (some ⟨b_18, 0, none⟩) 1 1) rfl rfl) Tryd.underlying76 (by kernel_rfl) (by decide) o_v1 hk.size r_b_18 (by omega) oca (by simp only [maxLen]; omega) (by omega) ?_
 intro v7 w8 o_v7 hg9 hv10
 have no_v7_rp := no_new no_v1_rp r_rp.lt hv10
 replace r_rp := r_rp.stepO hg9 no_v1_rp
 have no_v7_g := no_new no_v1_g r_g.lt hv10
 replace r_g := r_g.stepO hg9 no_v1_g
 have no_v7_b_18 := no_new no_v1_b_18 r_b_18.lt hv10
 replace r_b_18 := r_b_18.stepO hg9 no_v1_b_18
 replace hk := thenO hk hg9 (fun g e => (o_v1.block_lt g e).2)
 clear o_v1
 refine w_as (ev v7 rfl rfl) ?_
 refine nt ?_
 refine wp_seq ?_
 refine wp_block ?_
 refine c_loop (fun dN aN wl => ∃ (z : Nat) (va : Value), dN = (((239 - s.length % 128) % 128) - z) ∧ ∃ f11, aN = fr 132 f11 ∧ (z ≤ ((239 - s.length % 128) % 128)) ∧ f11 0 = pt rp 0 ∧ f11 1 = .string (str s) ∧ f11 4 = .string (str ([] : List (BitVec 8))) ∧ f11 5 = va ∧ Row wl rp 44 25 (Sha.rrow (.int .i64 384) (.int .i64 48) (.int .i64 128) (.int .i64 80) (.slice (some ⟨g, 0, none⟩) 80 cap) (Sha.H0 384) (fun i => U64 (BitVec.ofNat 64 (Sha.trn false i)))) ∧ Row wl g 39 80 (fun j => U64 (Sha.K false j)) ∧ Row wl b_18 5 1 (fun j => U8 (128#8)) ∧ Own wl w0.heap.size 5 1 va (s.length + 1 + z) (fun j => U8 (gb (Sha.full 384 s) j)) ∧ va.ownBlock ≠ some rp ∧ va.ownBlock ≠ some g ∧ va.ownBlock ≠ some b_18 ∧ Below w0.heap.size w0 wl) (((239 - s.length % 128) % 128) - 0) ?_ ?_
 · exact ⟨0, v7, rfl, _, rfl, iv, rfl, rfl, rfl, (etv (b := v7) rfl), r_rp, r_g, r_b_18, (own_n (o_v7.congr (fun j hj => by (try dsimp only); by_cases e : j < s.length * 1; (rw [if_pos e, Sha.gb_full_lo _ _ _ (by omega)]); (rw [if_neg e]; exact congrArg U8 (Sha.full_80 384 s j (by omega))))) (by omega)), no_v7_rp, no_v7_g, no_v7_b_18, hk⟩
 ·skip
  clear r_rp r_g r_b_18 o_v7 hk
  rintro _ _ w12 ⟨z, va, rfl, f11, rfl, i1_0, s1_0, s1_1, s1_4, s1_5, r_rp, r_g, r_b_18, o_va, no_va_rp, no_va_g, no_va_b_18, hk⟩
  refine ss ?_
  refine region_q ShaST.mixed (by kernel_rfl) ?_
  refine q_mv (ev va s1_5 rfl) ?_
  refine q_val (v := .int .i64 (((s.length + 1 + z) : Nat) : Int)) (fun w' hw' => y_len_own (ev va rfl rfl) o_va Tryd.underlying76) ?_
  refine q_mv (ev (pt rp 0) s1_0 rfl) ?_
  refine q_val (fun w' hw' => y_nc (ev (pt rp 0) rfl rfl)) ?_
  refine q_val (v := pt rp 2) (fun w' hw' => y_off (y_fa (ev (pt rp 0) rfl rfl) (ShaST.fa44_2 _ _)) (by first | rfl | omega)) ?_
  refine q_val (v := .int .i64 128) (fun w' hw' => y_ld (ev (pt rp 2) rfl rfl) ShaST.sc3 (cls_cell (r_rp.val (by omega) ((if_neg (by omega)).trans ((if_neg (by omega)).trans (etv (if_pos (by omega)))))) r_rp.lt w' hw')) ?_
  refine q_val (fun w' hw' => y_bin (ev (.int .i64 (((s.length + 1 + z) : Nat) : Int)) rfl rfl) (ev (.int .i64 128) rfl rfl) (b_rem (by omega))) ?_
  refine q_mv (ev (pt rp 0) s1_0 rfl) ?_
  refine q_val (fun w' hw' => y_nc (ev (pt rp 0) rfl rfl)) ?_
  refine q_val (v := pt rp 2) (fun w' hw' => y_off (y_fa (ev (pt rp 0) rfl rfl) (ShaST.fa44_2 _ _)) (by first | rfl | omega)) ?_
  refine q_val (v := .int .i64 128) (fun w' hw' => y_ld (ev (pt rp 2) rfl rfl) ShaST.sc3 (cls_cell (r_rp.val (by omega) ((if_neg (by omega)).trans ((if_neg (by omega)).trans (etv (if_pos (by omega)))))) r_rp.lt w' hw')) ?_
  refine q_mv (ev (pt rp 0) s1_0 rfl) ?_
  refine q_val (fun w' hw' => y_nc (ev (pt rp 0) rfl rfl)) ?_
  refine q_val (v := pt rp 2) (fun w' hw' => y_off (y_fa (ev (pt rp 0) rfl rfl) (ShaST.fa44_2 _ _)) (by first | rfl | omega)) ?_
  refine q_val (v := .int .i64 128) (fun w' hw' => y_ld (ev (pt rp 2) rfl rfl) ShaST.sc3 (cls_cell (r_rp.val (by omega) ((if_neg (by omega)).trans ((if_neg (by omega)).trans (etv (if_pos (by omega)))))) r_rp.lt w' hw')) ?_
  refine q_val (fun w' hw' => y_bin (ev (.int .i64 128) rfl rfl) (evc (.int .i64 8)) (b_quo (by omega))) ?_
  refine q_val (fun w' hw' => y_bin (ev (.int .i64 128) rfl rfl) (ev (.int .i64 16) rfl rfl) (b_sub (by omega))) ?_
  refine q_val (fun w' hw' => y_bin (ev (.int .i64 ((((s.length + 1 + z) : Nat) : Int) % 128)) rfl rfl) (ev (.int .i64 112) rfl rfl) b_neq) ?_
  refine q_nil ?_
  intro w13 hb14
  replace o_va := o_va.step hb14
  replace r_rp := r_rp.step hb14
  replace r_g := r_g.step hb14
  replace r_b_18 := r_b_18.step hb14
  replace hk := thenB hk hb14
  refine then_n ?_
  refine c_if (p := ((((s.length + 1 + z) : Nat) : Int) % 128) ≠ 112) (ev (.bool (decide (((((s.length + 1 + z) : Nat) : Int) % 128) ≠ 112))) rfl rfl) (fun hc15 => ?_) (fun hc15 => ?_)
  ·skip
   refine wp_skip ?_
   refine then_n ?_
   refine wp_block ?_
   refine wp_region_lit ?_
   refine w_mv (ev va s1_5 rfl) ?_
   refine w_bs1 (m := 1) (e := 5) (F := fun j => U8 (0#8)) (evc (U8 (0#8))) (fun w => by kernel_rfl) ?_
   intro b_39 w16 hbe_b_39 r_b_39 hb17
   have ne_rp_b_39 : rp ≠ b_39 := by have := r_rp.lt; omega
   have ne_g_b_39 : g ≠ b_39 := by have := r_g.lt; omega
   have ne_b_18_b_39 : b_18 ≠ b_39 := by have := r_b_18.lt; omega
   have no_va_b_39 : va.ownBlock ≠ some b_39 := o_va.apart (by omega)
   have ge_b_39 : w0.heap.size ≤ b_39 := by have := hk.size; omega
   clear hbe_b_39
   replace o_va := o_va.step hb17
   replace r_rp := r_rp.step hb17
   replace r_g := r_g.step hb17
   replace r_b_18 := r_b_18.step hb17
   replace hk := thenB hk hb17
   refine w_app (k := (s.length + 1 + z)) (m := 1) (size := 1) (bytes := 1) (ev va rfl rfl) (ev (.slice (some ⟨b_39, 0, none⟩) 1 1) rfl rfl) Tryd.underlying76 (by kernel_rfl) (by decide) o_va hk.size r_b_39 (by omega) oca (by simp only [maxLen]; omega) (by omega) ?_
   intro v18 w19 o_v18 hg20 hv21
   have no_v18_rp := no_new no_va_rp r_rp.lt hv21
   replace r_rp := r_rp.stepO hg20 no_va_rp
   have no_v18_g := no_new no_va_g r_g.lt hv21
   replace r_g := r_g.stepO hg20 no_va_g
   have no_v18_b_18 := no_new no_va_b_18 r_b_18.lt hv21
   replace r_b_18 := r_b_18.stepO hg20 no_va_b_18
   have no_v18_b_39 := no_new no_va_b_39 r_b_39.lt hv21
   replace r_b_39 := r_b_39.stepO hg20 no_va_b_39
   replace hk := thenO hk hg20 (fun g e => (o_va.block_lt g e).2)
   clear o_va
   refine w_as (ev v18 rfl rfl) ?_
   refine wpList_nil ?_
   refine inb_n ?_
   exact then_n ⟨_, (by omega), z + 1, v18, rfl, _, rfl, iv, s1_0, s1_1, s1_4, rfl, r_rp, r_g, r_b_18, (own_n (o_v18.congr (fun j hj => by (try dsimp only); by_cases e : j < (s.length + 1 + z) * 1; (rw [if_pos e]); (rw [if_neg e]; exact congrArg U8 (Sha.full_0 384 s j (by omega) (by omega))))) (by omega)), no_v18_rp, no_v18_g, no_v18_b_18, hk⟩
  ·skip
   refine wp_exit ?_
   refine then_x ?_
   refine then_x ?_
   refine inb_x ?_
   refine then_n ?_
   refine wp_seq ?_
   refine sr ?_
   refine w_as (evc (.int .i64 0)) ?_
   refine nt ?_
   refine wp_block ?_
   refine c_loop (fun dN aN wl => ∃ (y : Nat) (vb : Value), dN = (8 - y) ∧ ∃ f22, aN = fr 132 f22 ∧ (y ≤ 8) ∧ f22 0 = pt rp 0 ∧ f22 1 = .string (str s) ∧ f22 4 = .string (str ([] : List (BitVec 8))) ∧ f22 5 = vb ∧ f22 6 = .int .i64 ((y : Nat) : Int) ∧ Row wl rp 44 25 (Sha.rrow (.int .i64 384) (.int .i64 48) (.int .i64 128) (.int .i64 80) (.slice (some ⟨g, 0, none⟩) 80 cap) (Sha.H0 384) (fun i => U64 (BitVec.ofNat 64 (Sha.trn false i)))) ∧ Row wl g 39 80 (fun j => U64 (Sha.K false j)) ∧ Row wl b_18 5 1 (fun j => U8 (128#8)) ∧ Own wl w0.heap.size 5 1 vb (s.length + 1 + ((239 - s.length % 128) % 128) + y) (fun j => U8 (gb (Sha.full 384 s) j)) ∧ vb.ownBlock ≠ some rp ∧ vb.ownBlock ≠ some g ∧ vb.ownBlock ≠ some b_18 ∧ Below w0.heap.size w0 wl) (8 - 0) ?_ ?_
   · exact ⟨0, va, rfl, _, rfl, iv, s1_0, s1_1, s1_4, (Eq.trans (b := va) s1_5 (by first | with_reducible rfl | (with_reducible congr 1 <;> omega) | (with_reducible congr 2 <;> omega) | (with_reducible congr 3 <;> omega) | rfl)), (etv (b := .int .i64 0) rfl), r_rp, r_g, r_b_18, (own_n (o_va.cg) (by omega)), no_va_rp, no_va_g, no_va_b_18, hk⟩
   ·skip
    clear r_rp r_g r_b_18 o_va hk
    rintro _ _ w23 ⟨y, vb, rfl, f22, rfl, i2_0, s2_0, s2_1, s2_4, s2_5, s2_6, r_rp, r_g, r_b_18, o_vb, no_vb_rp, no_vb_g, no_vb_b_18, hk⟩
    refine wp_seq ?_
    refine sr ?_
    refine w_mv (ev (.int .i64 ((y : Nat) : Int)) s2_6 rfl) ?_
    refine w_mv (ev (pt rp 0) s2_0 rfl) ?_
    refine w_val (y_nc (ev (pt rp 0) rfl rfl)) ?_
    refine w_val (v := pt rp 2) (y_off (y_fa (ev (pt rp 0) rfl rfl) (ShaST.fa44_2 _ _)) (by first | rfl | omega)) ?_
    refine w_val (v := .int .i64 128) (y_ld (ev (pt rp 2) rfl rfl) ShaST.sc3 (r_rp.val (by omega) ((if_neg (by omega)).trans ((if_neg (by omega)).trans (etv (if_pos (by omega))))))) ?_
    refine w_val (y_bin (ev (.int .i64 128) rfl rfl) (evc (.int .i64 8)) (b_quo (by omega))) ?_
    refine w_val (y_bin (ev (.int .i64 16) rfl rfl) (evc (.int .i64 8)) (b_sub (by omega))) ?_
    refine w_val (y_bin (ev (.int .i64 ((y : Nat) : Int)) rfl rfl) (ev (.int .i64 8) rfl rfl) b_lss) ?_
    refine nt ?_
    refine c_if (p := ((y : Nat) : Int) < 8) (ev (.bool (decide (((y : Nat) : Int) < 8))) rfl rfl) (fun hc24 => ?_) (fun hc24 => ?_)
    ·skip
     refine wp_skip ?_
     refine then_n ?_
     refine wp_seq ?_
     refine wp_block ?_
     refine wp_region_lit ?_
     refine w_mv (ev vb s2_5 rfl) ?_
     refine w_bs1 (m := 1) (e := 5) (F := fun j => U8 (0#8)) (evc (U8 (0#8))) (fun w => by kernel_rfl) ?_
     intro b_52 w25 hbe_b_52 r_b_52 hb26
     have ne_rp_b_52 : rp ≠ b_52 := by have := r_rp.lt; omega
     have ne_g_b_52 : g ≠ b_52 := by have := r_g.lt; omega
     have ne_b_18_b_52 : b_18 ≠ b_52 := by have := r_b_18.lt; omega
     have no_vb_b_52 : vb.ownBlock ≠ some b_52 := o_vb.apart (by omega)
     have ge_b_52 : w0.heap.size ≤ b_52 := by have := hk.size; omega
     clear hbe_b_52
     replace o_vb := o_vb.step hb26
     replace r_rp := r_rp.step hb26
     replace r_g := r_g.step hb26
     replace r_b_18 := r_b_18.step hb26
     replace hk := thenB hk hb26
     refine w_app (k := (s.length + 1 + ((239 - s.length % 128) % 128) + y)) (m := 1) (size := 1) (bytes := 1) (ev vb rfl rfl) (ev (.slice (some ⟨b_52, 0, none⟩) 1 1) rfl rfl) Tryd.underlying76 (by kernel_rfl) (by decide) o_vb hk.size r_b_52 (by omega) oca (by simp only [maxLen]; omega) (by omega) ?_
     intro v27 w28 o_v27 hg29 hv30
     have no_v27_rp := no_new no_vb_rp r_rp.lt hv30
     replace r_rp := r_rp.stepO hg29 no_vb_rp
     have no_v27_g := no_new no_vb_g r_g.lt hv30
     replace r_g := r_g.stepO hg29 no_vb_g
     have no_v27_b_18 := no_new no_vb_b_18 r_b_18.lt hv30
     replace r_b_18 := r_b_18.stepO hg29 no_vb_b_18
     have no_v27_b_52 := no_new no_vb_b_52 r_b_52.lt hv30
     replace r_b_52 := r_b_52.stepO hg29 no_vb_b_52
     replace hk := thenO hk hg29 (fun g e => (o_vb.block_lt g e).2)
     clear o_vb
     refine w_as (ev v27 rfl rfl) ?_
     refine wpList_nil ?_
     refine inb_n ?_
     refine then_n ?_
     refine wp_region_lit ?_
     refine w_mv (ev (.int .i64 ((y : Nat) : Int)) s2_6 rfl) ?_
     refine w_val (y_bin (ev (.int .i64 ((y : Nat) : Int)) rfl rfl) (evc (.int .i64 1)) (b_add (by omega))) ?_
     refine w_as (ev (.int .i64 (((y : Nat) : Int) + 1)) rfl rfl) ?_
     refine wpList_nil ?_
     exact then_n ⟨_, (by omega), y + 1, v27, rfl, _, rfl, iv, s2_0, s2_1, s2_4, rfl, (etv (b := .int .i64 (((y : Nat) : Int) + 1)) rfl), r_rp, r_g, r_b_18, (own_n (o_v27.congr (fun j hj => by first | (exfalso; omega) | ((try dsimp only); by_cases e : j < (s.length + 1 + ((239 - s.length % 128) % 128) + y) * 1; (rw [if_pos e]); (rw [if_neg e]; exact congrArg U8 (Sha.full_0 384 s j (by omega) (by omega)))))) (by omega)), no_v27_rp, no_v27_g, no_v27_b_18, hk⟩
    ·skip
     refine wp_exit ?_
     refine then_x ?_
     refine then_x ?_
     refine inb_x ?_
     refine then_n ?_
     refine sr ?_
     refine w_mv (ev (.string (str s)) s2_1 rfl) ?_
     refine w_val (y_len (ev (.string (str s)) rfl rfl) Tryd.underlying9) ?_
     refine w_val (y_nat_u64 (p := s.length) (ev (.int .i64 ((s.length : Nat) : Int)) rfl rfl) (by omega) ShaST.so3 Tryd.underlying39) ?_
     refine w_val (y_bin (ev (U64 (BitVec.ofNat 64 s.length)) rfl rfl) (evc (U64 (8#64))) mul64) ?_
     refine w_as (ev (U64 ((BitVec.ofNat 64 s.length) * (8#64))) rfl rfl) ?_
     refine nt ?_
     refine wp_seq ?_
     refine sr ?_
     refine w_as (evc (.int .i64 0)) ?_
     refine nt ?_
     refine wp_block ?_
     refine c_loop (fun dN aN wl => ∃ (x : Nat) (vc : Value), dN = (8 - x) ∧ ∃ f31, aN = fr 132 f31 ∧ (x ≤ 8) ∧ f31 0 = pt rp 0 ∧ f31 1 = .string (str s) ∧ f31 4 = .string (str ([] : List (BitVec 8))) ∧ f31 5 = vc ∧ f31 6 = .int .i64 ((y : Nat) : Int) ∧ f31 7 = U64 ((BitVec.ofNat 64 s.length) * (8#64)) ∧ f31 8 = .int .i64 ((x : Nat) : Int) ∧ Row wl rp 44 25 (Sha.rrow (.int .i64 384) (.int .i64 48) (.int .i64 128) (.int .i64 80) (.slice (some ⟨g, 0, none⟩) 80 cap) (Sha.H0 384) (fun i => U64 (BitVec.ofNat 64 (Sha.trn false i)))) ∧ Row wl g 39 80 (fun j => U64 (Sha.K false j)) ∧ Row wl b_18 5 1 (fun j => U8 (128#8)) ∧ Own wl w0.heap.size 5 1 vc (s.length + 1 + ((239 - s.length % 128) % 128) + 8 + x) (fun j => U8 (gb (Sha.full 384 s) j)) ∧ vc.ownBlock ≠ some rp ∧ vc.ownBlock ≠ some g ∧ vc.ownBlock ≠ some b_18 ∧ Below w0.heap.size w0 wl) (8 - 0) ?_ ?_
     · exact ⟨0, vb, rfl, _, rfl, iv, s2_0, s2_1, s2_4, (Eq.trans (b := vb) s2_5 (by first | with_reducible rfl | (with_reducible congr 1 <;> omega) | (with_reducible congr 2 <;> omega) | (with_reducible congr 3 <;> omega) | rfl)), s2_6, rfl, (etv (b := .int .i64 0) rfl), r_rp, r_g, r_b_18, (own_n (o_vb.cg) (by omega)), no_vb_rp, no_vb_g, no_vb_b_18, hk⟩
     ·skip
      clear r_rp r_g r_b_18 o_vb hk
      rintro _ _ w32 ⟨x, vc, rfl, f31, rfl, i3_0, s3_0, s3_1, s3_4, s3_5, s3_6, s3_7, s3_8, r_rp, r_g, r_b_18, o_vc, no_vc_rp, no_vc_g, no_vc_b_18, hk⟩
      refine wp_seq ?_
      refine sr ?_
      refine w_mv (ev (.int .i64 ((x : Nat) : Int)) s3_8 rfl) ?_
      refine w_val (y_bin (ev (.int .i64 ((x : Nat) : Int)) rfl rfl) (evc (.int .i64 8)) b_lss) ?_
      refine nt ?_
      refine c_if (p := ((x : Nat) : Int) < 8) (ev (.bool (decide (((x : Nat) : Int) < 8))) rfl rfl) (fun hc33 => ?_) (fun hc33 => ?_)
      ·skip
       refine wp_skip ?_
       refine then_n ?_
       refine wp_seq ?_
       refine wp_block ?_
       refine wp_region_lit ?_
       refine w_mv (ev vc s3_5 rfl) ?_
       refine w_mv (ev (U64 ((BitVec.ofNat 64 s.length) * (8#64))) s3_7 rfl) ?_
       refine w_mv (ev (.int .i64 ((x : Nat) : Int)) s3_8 rfl) ?_
       refine w_val (y_bin (evc (.int .i64 8)) (ev (.int .i64 ((x : Nat) : Int)) rfl rfl) (b_mul (by omega))) ?_
       refine w_val (y_bin (evc (.int .i64 56)) (ev (.int .i64 (8 * ((x : Nat) : Int))) rfl rfl) (b_sub (by omega))) ?_
       refine w_val (y_nat_u64 (p := (56 - (8 * x))) (ev (.int .i64 (56 - (8 * ((x : Nat) : Int)))) rfl rfl) (by omega) ShaST.so3 Tryd.underlying41) ?_
       refine w_val (y_bin (ev (U64 ((BitVec.ofNat 64 s.length) * (8#64))) rfl rfl) (ev (U64 (BitVec.ofNat 64 (56 - (8 * x)))) rfl rfl) (shr64 (c := (56 - (8 * x))) (by rw [BitVec.toNat_ofNat]; omega))) ?_
       refine w_val (y_u64_u8 (ev (U64 (((BitVec.ofNat 64 s.length) * (8#64)) >>> (56 - (8 * x)))) rfl rfl) ShaST.so39 Tryd.underlying5) ?_
       refine w_bs1 (m := 1) (e := 5) (F := fun j => U8 ((((BitVec.ofNat 64 s.length) * (8#64)) >>> (56 - (8 * x))).setWidth 8)) (ev (U8 ((((BitVec.ofNat 64 s.length) * (8#64)) >>> (56 - (8 * x))).setWidth 8)) rfl rfl) (fun w => by kernel_rfl) ?_
       intro b_70 w34 hbe_b_70 r_b_70 hb35
       have ne_rp_b_70 : rp ≠ b_70 := by have := r_rp.lt; omega
       have ne_g_b_70 : g ≠ b_70 := by have := r_g.lt; omega
       have ne_b_18_b_70 : b_18 ≠ b_70 := by have := r_b_18.lt; omega
       have no_vc_b_70 : vc.ownBlock ≠ some b_70 := o_vc.apart (by omega)
       have ge_b_70 : w0.heap.size ≤ b_70 := by have := hk.size; omega
       clear hbe_b_70
       replace o_vc := o_vc.step hb35
       replace r_rp := r_rp.step hb35
       replace r_g := r_g.step hb35
       replace r_b_18 := r_b_18.step hb35
       replace hk := thenB hk hb35
       refine w_app (k := (s.length + 1 + ((239 - s.length % 128) % 128) + 8 + x)) (m := 1) (size := 1) (bytes := 1) (ev vc rfl rfl) (ev (.slice (some ⟨b_70, 0, none⟩) 1 1) rfl rfl) Tryd.underlying76 (by kernel_rfl) (by decide) o_vc hk.size r_b_70 (by omega) oca (by simp only [maxLen]; omega) (by omega) ?_
       intro v36 w37 o_v36 hg38 hv39
       have no_v36_rp := no_new no_vc_rp r_rp.lt hv39
       replace r_rp := r_rp.stepO hg38 no_vc_rp
       have no_v36_g := no_new no_vc_g r_g.lt hv39
       replace r_g := r_g.stepO hg38 no_vc_g
       have no_v36_b_18 := no_new no_vc_b_18 r_b_18.lt hv39
       replace r_b_18 := r_b_18.stepO hg38 no_vc_b_18
       have no_v36_b_70 := no_new no_vc_b_70 r_b_70.lt hv39
       replace r_b_70 := r_b_70.stepO hg38 no_vc_b_70
       replace hk := thenO hk hg38 (fun g e => (o_vc.block_lt g e).2)
       clear o_vc
       refine w_as (ev v36 rfl rfl) ?_
       refine wpList_nil ?_
       refine inb_n ?_
       refine then_n ?_
       refine wp_region_lit ?_
       refine w_mv (ev (.int .i64 ((x : Nat) : Int)) s3_8 rfl) ?_
       refine w_val (y_bin (ev (.int .i64 ((x : Nat) : Int)) rfl rfl) (evc (.int .i64 1)) (b_add (by omega))) ?_
       refine w_as (ev (.int .i64 (((x : Nat) : Int) + 1)) rfl rfl) ?_
       refine wpList_nil ?_
       exact then_n ⟨_, (by omega), x + 1, v36, rfl, _, rfl, iv, s3_0, s3_1, s3_4, rfl, s3_6, s3_7, (etv (b := .int .i64 (((x : Nat) : Int) + 1)) rfl), r_rp, r_g, r_b_18, (own_n (o_v36.congr (fun j hj => by (try dsimp only); by_cases e : j < (s.length + 1 + ((239 - s.length % 128) % 128) + 8 + x) * 1; (rw [if_pos e]); (rw [if_neg e]; exact congrArg U8 (Sha.full_n 384 s x j (by omega) (by omega))))) (by omega)), no_v36_rp, no_v36_g, no_v36_b_18, hk⟩
      ·skip
       refine wp_exit ?_
       refine then_x ?_
       refine then_x ?_
       refine inb_x ?_
       refine then_n ?_
       refine sr ?_
       refine w_mv (ev (pt rp 0) s3_0 rfl) ?_
       refine w_val (y_nc (ev (pt rp 0) rfl rfl)) ?_
       refine w_val (v := pt rp 5) (y_off (y_fa (ev (pt rp 0) rfl rfl) (ShaST.fa44_5 _ _)) (by first | rfl | omega)) ?_
       refine w_val (v := .agg (arr 8 (fun j => U64 ((Sha.H0 384) j)))) (y_lda (ev (pt rp 5) rfl rfl) ShaST.ag40 ShaST.sz40 (fun j hj => (r_rp.val (by omega) (by first | with_reducible rfl | exact ((if_neg (by omega)).trans ((if_neg (by omega)).trans ((if_neg (by omega)).trans ((if_neg (by omega)).trans ((if_neg (by omega)).trans (etv (if_pos (by omega)))))))))))) ?_
       refine w_alloc (m := 8) (F := fun j => U64 (0#64)) (by kernel_rfl) ?_
       intro b_h w40 hbe_b_h r_b_h hb41
       have ne_rp_b_h : rp ≠ b_h := by have := r_rp.lt; omega
       have ne_g_b_h : g ≠ b_h := by have := r_g.lt; omega
       have ne_b_18_b_h : b_18 ≠ b_h := by have := r_b_18.lt; omega
       have no_vc_b_h : vc.ownBlock ≠ some b_h := o_vc.apart (by omega)
       have ge_b_h : w0.heap.size ≤ b_h := by have := hk.size; omega
       clear hbe_b_h
       replace o_vc := o_vc.step hb41
       replace r_rp := r_rp.step hb41
       replace r_g := r_g.step hb41
       replace r_b_18 := r_b_18.step hb41
       replace hk := thenB hk hb41
       refine w_sta (k := 8) (G := fun j => U64 ((Sha.H0 384) j)) (ev (pt b_h 0) rfl rfl) (ev (.agg (arr 8 (fun j => U64 ((Sha.H0 384) j)))) rfl rfl) oc ShaST.sz40 r_b_h (by omega) ?_
       clear r_b_h; intro w42 r_b_h hg43 _
       replace r_b_h := r_b_h.congr (g := fun j => U64 ((Sha.H0 384) j)) (fun j hj => by rw [if_pos ⟨Nat.zero_le _, by omega⟩]; first | rfl | (simp only [Nat.sub_zero]))
       replace o_vc := o_vc.stepG hg43 no_vc_b_h
       replace r_rp := r_rp.stepG hg43 (by omega)
       replace r_g := r_g.stepG hg43 (by omega)
       replace r_b_18 := r_b_18.stepG hg43 (by omega)
       replace hk := thenG hk hg43 (by omega)
       refine nt ?_
       refine wp_seq ?_
       refine sr ?_
       refine w_as (evc (.int .i64 0)) ?_
       refine nt ?_
       refine wp_block ?_
       refine c_loop (fun dN aN wl => ∃ (t : Nat) (vd : Value), dN = (Sha.nb 384 s - t) ∧ ∃ f44, aN = fr 132 f44 ∧ (t ≤ Sha.nb 384 s) ∧ f44 0 = pt rp 0 ∧ f44 1 = .string (str s) ∧ f44 4 = .string (str ([] : List (BitVec 8))) ∧ f44 5 = vd ∧ f44 6 = .int .i64 ((y : Nat) : Int) ∧ f44 7 = U64 ((BitVec.ofNat 64 s.length) * (8#64)) ∧ f44 8 = .int .i64 ((x : Nat) : Int) ∧ f44 9 = pt b_h 0 ∧ f44 10 = .int .i64 (((128 * t) : Nat) : Int) ∧ Row wl rp 44 25 (Sha.rrow (.int .i64 384) (.int .i64 48) (.int .i64 128) (.int .i64 80) (.slice (some ⟨g, 0, none⟩) 80 cap) (Sha.H0 384) (fun i => U64 (BitVec.ofNat 64 (Sha.trn false i)))) ∧ Row wl g 39 80 (fun j => U64 (Sha.K false j)) ∧ Row wl b_18 5 1 (fun j => U8 (128#8)) ∧ Row wl b_h 40 8 (fun j => U64 (Sha.st 384 (gb (Sha.full 384 s)) t j)) ∧ Own wl w0.heap.size 5 1 vd (s.length + 1 + ((239 - s.length % 128) % 128) + 16) (fun j => U8 (gb (Sha.full 384 s) j)) ∧ vd.ownBlock ≠ some rp ∧ vd.ownBlock ≠ some g ∧ vd.ownBlock ≠ some b_18 ∧ vd.ownBlock ≠ some b_h ∧ Below w0.heap.size w0 wl) (Sha.nb 384 s - 0) ?_ ?_
       · exact ⟨0, vc, rfl, _, rfl, iv, s3_0, s3_1, s3_4, (Eq.trans (b := vc) s3_5 (by first | with_reducible rfl | (with_reducible congr 1 <;> omega) | (with_reducible congr 2 <;> omega) | (with_reducible congr 3 <;> omega) | rfl)), s3_6, s3_7, s3_8, rfl, (Eq.trans (b := .int .i64 0) rfl (by rfl)), r_rp, r_g, r_b_18, (r_b_h.congr (fun j hj => by rfl)), (own_n (o_vc.cg) (by omega)), no_vc_rp, no_vc_g, no_vc_b_18, no_vc_b_h, hk⟩
       ·skip
        clear r_rp r_g r_b_18 r_b_h o_vc hk
        rintro _ _ w45 ⟨t, vd, rfl, f44, rfl, i4_0, s4_0, s4_1, s4_4, s4_5, s4_6, s4_7, s4_8, s4_9, s4_10, r_rp, r_g, r_b_18, r_b_h, o_vd, no_vd_rp, no_vd_g, no_vd_b_18, no_vd_b_h, hk⟩
        have hlt : t < Sha.nb 384 s → (((Sha.full 384 s).drop (128 * t)).take 128).length = 128 := fun h => by rw [List.length_take, List.length_drop, hfl]; omega
        refine wp_seq ?_
        refine sr ?_
        refine w_mv (ev (.int .i64 (((128 * t) : Nat) : Int)) s4_10 rfl) ?_
        refine w_mv (ev vd s4_5 rfl) ?_
        refine w_val (v := .int .i64 (((s.length + 1 + ((239 - s.length % 128) % 128) + 16) : Nat) : Int)) (y_len_own (ev vd rfl rfl) o_vd Tryd.underlying76) ?_
        refine w_val (y_bin (ev (.int .i64 (((128 * t) : Nat) : Int)) rfl rfl) (ev (.int .i64 (((s.length + 1 + ((239 - s.length % 128) % 128) + 16) : Nat) : Int)) rfl rfl) b_lss) ?_
        refine nt ?_
        refine c_if (p := (((128 * t) : Nat) : Int) < (((s.length + 1 + ((239 - s.length % 128) % 128) + 16) : Nat) : Int)) (ev (.bool (decide ((((128 * t) : Nat) : Int) < (((s.length + 1 + ((239 - s.length % 128) % 128) + 16) : Nat) : Int)))) rfl rfl) (fun hc46 => ?_) (fun hc46 => ?_)
        ·skip
         refine wp_skip ?_
         refine then_n ?_
         refine wp_seq ?_
         refine wp_block ?_
         obtain ⟨g47, cap47, hv47, ge_g47, hc_g47, hob_g47, r_g47⟩ := o_vd.opened (by omega)
         have ne_rp_g47 : rp ≠ g47 := fun e => no_vd_rp (by rw [hob_g47, e])
         have ne_g_g47 : g ≠ g47 := fun e => no_vd_g (by rw [hob_g47, e])
         have ne_b_18_g47 : b_18 ≠ g47 := fun e => no_vd_b_18 (by rw [hob_g47, e])
         have ne_b_h_g47 : b_h ≠ g47 := fun e => no_vd_b_h (by rw [hob_g47, e])
         refine region_t 13 ShaST.mixed (by kernel_rfl) ?_
         simp only [List.take_succ_cons, List.take_zero, List.drop_succ_cons, List.drop_zero]
         refine q_mv (ev (pt rp 0) s4_0 rfl) ?_
         refine q_val (v := .agg (arr 8 (fun j => U64 (Sha.st 384 (gb (Sha.full 384 s)) t j)))) (fun w' hw' => y_lda (ev (pt b_h 0) s4_9 rfl) ShaST.ag40 ShaST.sz40 (fun j hj => by rw [Nat.zero_add]; exact (cls_cell (r_b_h.cell (by omega)) r_b_h.lt w' hw'))) ?_
         refine q_mv (ev vd s4_5 rfl) ?_
         refine q_mv (ev (.int .i64 (((128 * t) : Nat) : Int)) s4_10 rfl) ?_
         refine q_mv (ev (.int .i64 (((128 * t) : Nat) : Int)) s4_10 rfl) ?_
         refine q_mv (ev (pt rp 0) s4_0 rfl) ?_
         refine q_val (fun w' hw' => y_nc (ev (pt rp 0) rfl rfl)) ?_
         refine q_val (v := pt rp 2) (fun w' hw' => y_off (y_fa (ev (pt rp 0) rfl rfl) (ShaST.fa44_2 _ _)) (by first | rfl | omega)) ?_
         refine q_val (v := .int .i64 128) (fun w' hw' => y_ld (ev (pt rp 2) rfl rfl) ShaST.sc3 (cls_cell (r_rp.val (by omega) ((if_neg (by omega)).trans ((if_neg (by omega)).trans (etv (if_pos (by omega)))))) r_rp.lt w' hw')) ?_
         refine q_val (fun w' hw' => y_bin (ev (.int .i64 (((128 * t) : Nat) : Int)) rfl rfl) (ev (.int .i64 128) rfl rfl) (b_add (by omega))) ?_
         refine q_val (v := .slice (some ⟨g47, (128 * t), none⟩) (((128 * t) + 128) - (128 * t)) (cap47 - (128 * t))) (fun w' hw' => y_sloff (y_slv (ev (.slice (some ⟨g47, 0, none⟩) (s.length + 1 + ((239 - s.length % 128) % 128) + 16) cap47) (Eq.trans (b := vd) rfl hv47) rfl) (evo.s (ev (.int .i64 (((128 * t) : Nat) : Int)) rfl rfl)) (evo.s (ev (.int .i64 ((((128 * t) : Nat) : Int) + 128)) rfl rfl)) Tryd.underlying76 ShaST.sz5 (bnd_lh (l := (128 * t)) (h := ((128 * t) + 128)) (by omega) (by omega) (by omega) (by omega)) (by omega)) (by first | rfl | omega) rfl) ?_
         refine q_val (fun w' hw' => y_str (l := ((Sha.full 384 s).drop (128 * t)).take 128) (ev (.slice (some ⟨g47, (128 * t), none⟩) (((128 * t) + 128) - (128 * t)) (cap47 - (128 * t))) rfl rfl) (by rw [List.length_take, List.length_drop, hfl]; omega) Tryd.underlying76 Tryd.underlying5 Tryd.underlying9 (fun j hj => (cls_cell (r_g47.val (by omega) (by rw [gb_take _ _ _ (show j < 128 by omega), gb_drop])) r_g47.lt w' hw'))) ?_
         refine q_call (v := .agg (arr 8 (fun j => U64 (Sha.comp false (gb (((Sha.full 384 s).drop (128 * t)).take 128)) (Sha.st 384 (gb (Sha.full 384 s)) t) j)))) (Tryd.func43) (by kernel_rfl) rfl (m3 (ev (pt rp 0) rfl rfl) (ev (.agg (arr 8 (fun j => U64 (Sha.st 384 (gb (Sha.full 384 s)) t j)))) rfl rfl) (ev (.string (str (((Sha.full 384 s).drop (128 * t)).take 128))) rfl rfl)) (fun w' hw' => block_f rp 48 g cap (Sha.H0 384) 384 (by decide) (Sha.st 384 (gb (Sha.full 384 s)) t) (((Sha.full 384 s).drop (128 * t)).take 128) (hlt (by omega)) w' (r_rp.step hw') (r_g.step hw')) ?_
         refine q_nil ?_
         intro w48 hb49
         replace o_vd := o_vd.step hb49
         replace r_rp := r_rp.step hb49
         replace r_g := r_g.step hb49
         replace r_b_18 := r_b_18.step hb49
         replace r_b_h := r_b_h.step hb49
         replace r_g47 := r_g47.step hb49
         replace hk := thenB hk hb49
         refine w_sta (k := 8) (G := fun j => U64 (Sha.comp false (gb (((Sha.full 384 s).drop (128 * t)).take 128)) (Sha.st 384 (gb (Sha.full 384 s)) t) j)) (ev (pt b_h 0) s4_9 rfl) (ev (.agg (arr 8 (fun j => U64 (Sha.comp false (gb (((Sha.full 384 s).drop (128 * t)).take 128)) (Sha.st 384 (gb (Sha.full 384 s)) t) j)))) rfl rfl) oc ShaST.sz40 r_b_h (by omega) ?_
         clear r_b_h; intro w50 r_b_h hg51 _
         replace r_b_h := r_b_h.congr (g := fun j => U64 (Sha.comp false (gb (((Sha.full 384 s).drop (128 * t)).take 128)) (Sha.st 384 (gb (Sha.full 384 s)) t) j)) (fun j hj => by rw [if_pos ⟨Nat.zero_le _, by omega⟩]; first | rfl | (simp only [Nat.sub_zero]))
         replace o_vd := o_vd.stepG hg51 no_vd_b_h
         replace r_rp := r_rp.stepG hg51 (by omega)
         replace r_g := r_g.stepG hg51 (by omega)
         replace r_b_18 := r_b_18.stepG hg51 (by omega)
         replace r_g47 := r_g47.stepG hg51 (by omega)
         replace hk := thenG hk hg51 (by omega)
         refine wpList_nil ?_
         refine inb_n ?_
         refine then_n ?_
         refine wp_region_lit ?_
         refine w_mv (ev (.int .i64 (((128 * t) : Nat) : Int)) s4_10 rfl) ?_
         refine w_mv (ev (pt rp 0) s4_0 rfl) ?_
         refine w_val (y_nc (ev (pt rp 0) rfl rfl)) ?_
         refine w_val (v := pt rp 2) (y_off (y_fa (ev (pt rp 0) rfl rfl) (ShaST.fa44_2 _ _)) (by first | rfl | omega)) ?_
         refine w_val (v := .int .i64 128) (y_ld (ev (pt rp 2) rfl rfl) ShaST.sc3 (r_rp.val (by omega) ((if_neg (by omega)).trans ((if_neg (by omega)).trans (etv (if_pos (by omega))))))) ?_
         refine w_val (y_bin (ev (.int .i64 (((128 * t) : Nat) : Int)) rfl rfl) (ev (.int .i64 128) rfl rfl) (b_add (by omega))) ?_
         refine w_as (ev (.int .i64 ((((128 * t) : Nat) : Int) + 128)) rfl rfl) ?_
         refine wpList_nil ?_
         exact then_n ⟨_, (by omega), t + 1, vd, rfl, _, rfl, iv, s4_0, s4_1, s4_4, s4_5, s4_6, s4_7, s4_8, s4_9, (Eq.trans (b := .int .i64 ((((128 * t) : Nat) : Int) + 128)) rfl (by congr 1)), r_rp, r_g, r_b_18, (r_b_h.congr (fun j hj => by exact congrArg U64 (congrFun (Sha.st_next 384 (gb (Sha.full 384 s)) (gb (((Sha.full 384 s).drop (128 * t)).take 128)) t (fun i hi => by rw [gb_take _ _ _ (show i < 128 from hi), gb_drop]; rfl)) j))), o_vd, no_vd_rp, no_vd_g, no_vd_b_18, no_vd_b_h, hk⟩
        ·skip
         refine wp_exit ?_
         refine then_x ?_
         replace r_b_h := r_b_h.congr (g := fun j => U64 (Sha.st 384 (gb (Sha.full 384 s)) (Sha.nb 384 s) j)) (fun j hj => by rw [show t = Sha.nb 384 s from by omega])
         refine then_x ?_
         refine inb_x ?_
         refine then_n ?_
         refine sr ?_
         refine w_as (evc (.slice none 0 0)) ?_
         refine nt ?_
         refine sr ?_
         refine w_mv (ev (pt rp 0) s4_0 rfl) ?_
         refine w_val (y_nc (ev (pt rp 0) rfl rfl)) ?_
         refine w_val (v := pt rp 2) (y_off (y_fa (ev (pt rp 0) rfl rfl) (ShaST.fa44_2 _ _)) (by first | rfl | omega)) ?_
         refine w_val (v := .int .i64 128) (y_ld (ev (pt rp 2) rfl rfl) ShaST.sc3 (r_rp.val (by omega) ((if_neg (by omega)).trans ((if_neg (by omega)).trans (etv (if_pos (by omega))))))) ?_
         refine w_val (y_bin (ev (.int .i64 128) rfl rfl) (evc (.int .i64 16)) (b_quo (by omega))) ?_
         refine w_as (ev (.int .i64 8) rfl rfl) ?_
         refine nt ?_
         refine wp_seq ?_
         refine sr ?_
         refine w_as (evc (.int .i64 0)) ?_
         refine nt ?_
         refine wp_block ?_
         refine c_loop (fun dN aN wl => ∃ (a : Nat) (ve : Value) (wd : Value), dN = (8 - a) ∧ ∃ f52, aN = fr 132 f52 ∧ (a ≤ 8) ∧ f52 0 = pt rp 0 ∧ f52 1 = .string (str s) ∧ f52 4 = .string (str ([] : List (BitVec 8))) ∧ f52 5 = wd ∧ f52 6 = .int .i64 ((y : Nat) : Int) ∧ f52 7 = U64 ((BitVec.ofNat 64 s.length) * (8#64)) ∧ f52 8 = .int .i64 ((x : Nat) : Int) ∧ f52 9 = pt b_h 0 ∧ f52 10 = .int .i64 (((128 * t) : Nat) : Int) ∧ f52 11 = ve ∧ f52 12 = .int .i64 8 ∧ f52 13 = .int .i64 ((a : Nat) : Int) ∧ Row wl rp 44 25 (Sha.rrow (.int .i64 384) (.int .i64 48) (.int .i64 128) (.int .i64 80) (.slice (some ⟨g, 0, none⟩) 80 cap) (Sha.H0 384) (fun i => U64 (BitVec.ofNat 64 (Sha.trn false i)))) ∧ Row wl g 39 80 (fun j => U64 (Sha.K false j)) ∧ Row wl b_18 5 1 (fun j => U8 (128#8)) ∧ Row wl b_h 40 8 (fun j => U64 (Sha.st 384 (gb (Sha.full 384 s)) (Sha.nb 384 s) j)) ∧ Own wl w0.heap.size 5 1 ve (8 * a) (fun j => U8 ((Sha.st 384 (gb (Sha.full 384 s)) (Sha.nb 384 s) (j / 8) >>> (8 * (7 - j % 8))).setWidth 8)) ∧ ve.ownBlock ≠ some rp ∧ ve.ownBlock ≠ some g ∧ ve.ownBlock ≠ some b_18 ∧ ve.ownBlock ≠ some b_h ∧ (∀ g, ve.ownBlock = some g → wd.ownBlock ≠ some g) ∧ Own wl w0.heap.size 5 1 wd (s.length + 1 + ((239 - s.length % 128) % 128) + 16) (fun j => U8 (gb (Sha.full 384 s) j)) ∧ wd.ownBlock ≠ some rp ∧ wd.ownBlock ≠ some g ∧ wd.ownBlock ≠ some b_18 ∧ wd.ownBlock ≠ some b_h ∧ (∀ g, wd.ownBlock = some g → ve.ownBlock ≠ some g) ∧ Below w0.heap.size w0 wl) (8 - 0) ?_ ?_
         · exact ⟨0, (.slice none 0 0), vd, rfl, _, rfl, iv, s4_0, s4_1, s4_4, (Eq.trans (b := vd) s4_5 (by first | with_reducible rfl | (with_reducible congr 1 <;> omega) | (with_reducible congr 2 <;> omega) | (with_reducible congr 3 <;> omega) | rfl)), s4_6, s4_7, s4_8, s4_9, s4_10, (etv (b := .slice none 0 0) rfl), rfl, (etv (b := .int .i64 0) rfl), r_rp, r_g, r_b_18, r_b_h, Own.nil, (fun e => by cases e), (fun e => by cases e), (fun e => by cases e), (fun e => by cases e), (fun g e => by cases e), o_vd, no_vd_rp, no_vd_g, no_vd_b_18, no_vd_b_h, (fun g _ e => by cases e), hk⟩
         ·skip
          clear r_rp r_g r_b_18 r_b_h o_vd hk
          rintro _ _ w53 ⟨a, ve, wd, rfl, f52, rfl, i5_0, s5_0, s5_1, s5_4, s5_5, s5_6, s5_7, s5_8, s5_9, s5_10, s5_11, s5_12, s5_13, r_rp, r_g, r_b_18, r_b_h, o_ve, no_ve_rp, no_ve_g, no_ve_b_18, no_ve_b_h, sep_ve_wd, o_wd, no_wd_rp, no_wd_g, no_wd_b_18, no_wd_b_h, sep_wd_ve, hk⟩
          refine wp_seq ?_
          refine sr ?_
          refine w_mv (ev (.int .i64 ((a : Nat) : Int)) s5_13 rfl) ?_
          refine w_val (y_bin (ev (.int .i64 ((a : Nat) : Int)) rfl rfl) (evc (.int .i64 8)) b_lss) ?_
          refine nt ?_
          refine c_if (p := ((a : Nat) : Int) < 8) (ev (.bool (decide (((a : Nat) : Int) < 8))) rfl rfl) (fun hc54 => ?_) (fun hc54 => ?_)
          ·skip
           refine wp_skip ?_
           refine then_n ?_
           refine wp_seq ?_
           refine wp_block ?_
           refine sr ?_
           refine w_mv (ev (.int .i64 8) s5_12 rfl) ?_
           refine w_val (y_bin (ev (.int .i64 8) rfl rfl) (evc (.int .i64 1)) (b_sub (by omega))) ?_
           refine w_as (ev (.int .i64 7) rfl rfl) ?_
           refine nt ?_
           refine wp_block ?_
           refine c_loop (fun dN aN wl => ∃ (b : Nat) (vf : Value) (we : Value), dN = (8 - b) ∧ ∃ f55, aN = fr 132 f55 ∧ (b ≤ 8) ∧ f55 0 = pt rp 0 ∧ f55 1 = .string (str s) ∧ f55 4 = .string (str ([] : List (BitVec 8))) ∧ f55 5 = we ∧ f55 6 = .int .i64 ((y : Nat) : Int) ∧ f55 7 = U64 ((BitVec.ofNat 64 s.length) * (8#64)) ∧ f55 8 = .int .i64 ((x : Nat) : Int) ∧ f55 9 = pt b_h 0 ∧ f55 10 = .int .i64 (((128 * t) : Nat) : Int) ∧ f55 11 = vf ∧ f55 12 = .int .i64 8 ∧ f55 13 = .int .i64 ((a : Nat) : Int) ∧ f55 14 = .int .i64 (7 - ((b : Nat) : Int)) ∧ Row wl rp 44 25 (Sha.rrow (.int .i64 384) (.int .i64 48) (.int .i64 128) (.int .i64 80) (.slice (some ⟨g, 0, none⟩) 80 cap) (Sha.H0 384) (fun i => U64 (BitVec.ofNat 64 (Sha.trn false i)))) ∧ Row wl g 39 80 (fun j => U64 (Sha.K false j)) ∧ Row wl b_18 5 1 (fun j => U8 (128#8)) ∧ Row wl b_h 40 8 (fun j => U64 (Sha.st 384 (gb (Sha.full 384 s)) (Sha.nb 384 s) j)) ∧ Own wl w0.heap.size 5 1 vf (8 * a + b) (fun j => U8 ((Sha.st 384 (gb (Sha.full 384 s)) (Sha.nb 384 s) (j / 8) >>> (8 * (7 - j % 8))).setWidth 8)) ∧ vf.ownBlock ≠ some rp ∧ vf.ownBlock ≠ some g ∧ vf.ownBlock ≠ some b_18 ∧ vf.ownBlock ≠ some b_h ∧ (∀ g, vf.ownBlock = some g → we.ownBlock ≠ some g) ∧ Own wl w0.heap.size 5 1 we (s.length + 1 + ((239 - s.length % 128) % 128) + 16) (fun j => U8 (gb (Sha.full 384 s) j)) ∧ we.ownBlock ≠ some rp ∧ we.ownBlock ≠ some g ∧ we.ownBlock ≠ some b_18 ∧ we.ownBlock ≠ some b_h ∧ (∀ g, we.ownBlock = some g → vf.ownBlock ≠ some g) ∧ Below w0.heap.size w0 wl) (8 - 0) ?_ ?_
           · exact ⟨0, ve, wd, rfl, _, rfl, iv, s5_0, s5_1, s5_4, (Eq.trans (b := wd) s5_5 (by first | with_reducible rfl | (with_reducible congr 1 <;> omega) | (with_reducible congr 2 <;> omega) | (with_reducible congr 3 <;> omega) | rfl)), s5_6, s5_7, s5_8, s5_9, s5_10, (Eq.trans (b := ve) s5_11 (by first | with_reducible rfl | (with_reducible congr 1 <;> omega) | (with_reducible congr 2 <;> omega) | (with_reducible congr 3 <;> omega) | rfl)), s5_12, s5_13, (Eq.trans (b := .int .i64 7) rfl (by rfl)), r_rp, r_g, r_b_18, r_b_h, (own_n (o_ve.cg) (by omega)), no_ve_rp, no_ve_g, no_ve_b_18, no_ve_b_h, sep_ve_wd, o_wd, no_wd_rp, no_wd_g, no_wd_b_18, no_wd_b_h, sep_wd_ve, hk⟩
           ·skip
            clear r_rp r_g r_b_18 r_b_h o_ve o_wd hk
            rintro _ _ w56 ⟨b, vf, we, rfl, f55, rfl, i6_0, s6_0, s6_1, s6_4, s6_5, s6_6, s6_7, s6_8, s6_9, s6_10, s6_11, s6_12, s6_13, s6_14, r_rp, r_g, r_b_18, r_b_h, o_vf, no_vf_rp, no_vf_g, no_vf_b_18, no_vf_b_h, sep_vf_we, o_we, no_we_rp, no_we_g, no_we_b_18, no_we_b_h, sep_we_vf, hk⟩
            refine wp_seq ?_
            refine sr ?_
            refine w_mv (ev (.int .i64 (7 - ((b : Nat) : Int))) s6_14 rfl) ?_
            refine w_val (y_bin (ev (.int .i64 (7 - ((b : Nat) : Int))) rfl rfl) (evc (.int .i64 0)) b_geq) ?_
            refine nt ?_
            refine c_if (p := 0 ≤ (7 - ((b : Nat) : Int))) (ev (.bool (decide (0 ≤ (7 - ((b : Nat) : Int))))) rfl rfl) (fun hc57 => ?_) (fun hc57 => ?_)
            ·skip
             refine wp_skip ?_
             refine then_n ?_
             refine wp_seq ?_
             refine wp_block ?_
             refine wp_region_lit ?_
             refine w_mv (ev vf s6_11 rfl) ?_
             refine w_mv (ev (.int .i64 ((a : Nat) : Int)) s6_13 rfl) ?_
             refine w_val (y_ia1z (i := a) (ev (pt b_h 0) s6_9 rfl) (ev (.int .i64 ((a : Nat) : Int)) rfl rfl) Tryd.underlying40 ShaST.sz39 (by omega) (by omega)) ?_
             refine w_val (v := U64 (Sha.st 384 (gb (Sha.full 384 s)) (Sha.nb 384 s) a)) (y_ld (ev (pt b_h a) rfl rfl) ShaST.sc39 (r_b_h.val (by omega) rfl)) ?_
             refine w_mv (ev (.int .i64 (7 - ((b : Nat) : Int))) s6_14 rfl) ?_
             refine w_val (y_bin (evc (.int .i64 8)) (ev (.int .i64 (7 - ((b : Nat) : Int))) rfl rfl) (b_mul (by omega))) ?_
             refine w_val (y_nat_u64 (p := (8 * (7 - b))) (ev (.int .i64 (8 * (7 - ((b : Nat) : Int)))) rfl rfl) (by omega) ShaST.so3 Tryd.underlying41) ?_
             refine w_val (y_bin (ev (U64 (Sha.st 384 (gb (Sha.full 384 s)) (Sha.nb 384 s) a)) rfl rfl) (ev (U64 (BitVec.ofNat 64 (8 * (7 - b)))) rfl rfl) (shr64 (c := (8 * (7 - b))) (by rw [BitVec.toNat_ofNat]; omega))) ?_
             refine w_val (y_u64_u8 (ev (U64 ((Sha.st 384 (gb (Sha.full 384 s)) (Sha.nb 384 s) a) >>> (8 * (7 - b)))) rfl rfl) ShaST.so39 Tryd.underlying5) ?_
             refine w_bs1 (m := 1) (e := 5) (F := fun j => U8 (((Sha.st 384 (gb (Sha.full 384 s)) (Sha.nb 384 s) a) >>> (8 * (7 - b))).setWidth 8)) (ev (U8 (((Sha.st 384 (gb (Sha.full 384 s)) (Sha.nb 384 s) a) >>> (8 * (7 - b))).setWidth 8)) rfl rfl) (fun w => by kernel_rfl) ?_
             intro b_123 w58 hbe_b_123 r_b_123 hb59
             have ne_rp_b_123 : rp ≠ b_123 := by have := r_rp.lt; omega
             have ne_g_b_123 : g ≠ b_123 := by have := r_g.lt; omega
             have ne_b_18_b_123 : b_18 ≠ b_123 := by have := r_b_18.lt; omega
             have ne_b_h_b_123 : b_h ≠ b_123 := by have := r_b_h.lt; omega
             have no_vf_b_123 : vf.ownBlock ≠ some b_123 := o_vf.apart (by omega)
             have no_we_b_123 : we.ownBlock ≠ some b_123 := o_we.apart (by omega)
             have ge_b_123 : w0.heap.size ≤ b_123 := by have := hk.size; omega
             clear hbe_b_123
             replace o_vf := o_vf.step hb59
             replace o_we := o_we.step hb59
             replace r_rp := r_rp.step hb59
             replace r_g := r_g.step hb59
             replace r_b_18 := r_b_18.step hb59
             replace r_b_h := r_b_h.step hb59
             replace hk := thenB hk hb59
             refine w_app (k := (8 * a + b)) (m := 1) (size := 1) (bytes := 1) (ev vf rfl rfl) (ev (.slice (some ⟨b_123, 0, none⟩) 1 1) rfl rfl) Tryd.underlying76 (by kernel_rfl) (by decide) o_vf hk.size r_b_123 (by omega) oca (by simp only [maxLen]; omega) (by omega) ?_
             intro v60 w61 o_v60 hg62 hv63
             have sep_we_v60 : ∀ g, we.ownBlock = some g → v60.ownBlock ≠ some g := sep_new sep_we_vf o_we hv63
             have sep_v60_we : ∀ g, v60.ownBlock = some g → we.ownBlock ≠ some g := sep_sym sep_we_v60
             replace o_we := o_we.stepO hg62 (sep_or sep_we_vf)
             have no_v60_rp := no_new no_vf_rp r_rp.lt hv63
             replace r_rp := r_rp.stepO hg62 no_vf_rp
             have no_v60_g := no_new no_vf_g r_g.lt hv63
             replace r_g := r_g.stepO hg62 no_vf_g
             have no_v60_b_18 := no_new no_vf_b_18 r_b_18.lt hv63
             replace r_b_18 := r_b_18.stepO hg62 no_vf_b_18
             have no_v60_b_h := no_new no_vf_b_h r_b_h.lt hv63
             replace r_b_h := r_b_h.stepO hg62 no_vf_b_h
             have no_v60_b_123 := no_new no_vf_b_123 r_b_123.lt hv63
             replace r_b_123 := r_b_123.stepO hg62 no_vf_b_123
             replace hk := thenO hk hg62 (fun g e => (o_vf.block_lt g e).2)
             clear o_vf
             refine w_as (ev v60 rfl rfl) ?_
             refine wpList_nil ?_
             refine inb_n ?_
             refine then_n ?_
             refine wp_region_lit ?_
             refine w_mv (ev (.int .i64 (7 - ((b : Nat) : Int))) s6_14 rfl) ?_
             refine w_val (y_bin (ev (.int .i64 (7 - ((b : Nat) : Int))) rfl rfl) (evc (.int .i64 1)) (b_sub (by omega))) ?_
             refine w_as (ev (.int .i64 ((7 - ((b : Nat) : Int)) - 1)) rfl rfl) ?_
             refine wpList_nil ?_
             exact then_n ⟨_, (by omega), b + 1, v60, we, rfl, _, rfl, iv, s6_0, s6_1, s6_4, s6_5, s6_6, s6_7, s6_8, s6_9, s6_10, rfl, s6_12, s6_13, (Eq.trans (b := .int .i64 ((7 - ((b : Nat) : Int)) - 1)) rfl (by congr 1; omega)), r_rp, r_g, r_b_18, r_b_h, (own_n (o_v60.congr (fun j hj => by (try dsimp only); by_cases e : j < (8 * a + b) * 1; (rw [if_pos e]); (rw [if_neg e]; exact congrArg U8 (by rw [show j / 8 = a from by omega, show j % 8 = b from by omega])))) (by omega)), no_v60_rp, no_v60_g, no_v60_b_18, no_v60_b_h, sep_v60_we, o_we, no_we_rp, no_we_g, no_we_b_18, no_we_b_h, sep_we_v60, hk⟩
            ·skip
             refine wp_exit ?_
             refine then_x ?_
             refine then_x ?_
             refine inb_x ?_
             refine inb_n ?_
             refine then_n ?_
             refine wp_region_lit ?_
             refine w_mv (ev (.int .i64 ((a : Nat) : Int)) s6_13 rfl) ?_
             refine w_val (y_bin (ev (.int .i64 ((a : Nat) : Int)) rfl rfl) (evc (.int .i64 1)) (b_add (by omega))) ?_
             refine w_as (ev (.int .i64 (((a : Nat) : Int) + 1)) rfl rfl) ?_
             refine wpList_nil ?_
             exact then_n ⟨_, (by omega), a + 1, vf, we, rfl, _, rfl, iv, s6_0, s6_1, s6_4, s6_5, s6_6, s6_7, s6_8, s6_9, s6_10, s6_11, s6_12, (etv (b := .int .i64 (((a : Nat) : Int) + 1)) rfl), r_rp, r_g, r_b_18, r_b_h, (own_n (o_vf.cg) (by omega)), no_vf_rp, no_vf_g, no_vf_b_18, no_vf_b_h, sep_vf_we, o_we, no_we_rp, no_we_g, no_we_b_18, no_we_b_h, sep_we_vf, hk⟩
          ·skip
           refine wp_exit ?_
           refine then_x ?_
           refine then_x ?_
           refine inb_x ?_
           refine then_n ?_
           refine wp_seq ?_
           obtain ⟨g64, cap64, hv64, ge_g64, hc_g64, hob_g64, r_g64⟩ := o_ve.opened (by omega)
           have ne_rp_g64 : rp ≠ g64 := fun e => no_ve_rp (by rw [hob_g64, e])
           have ne_g_g64 : g ≠ g64 := fun e => no_ve_g (by rw [hob_g64, e])
           have ne_b_18_g64 : b_18 ≠ g64 := fun e => no_ve_b_18 (by rw [hob_g64, e])
           have ne_b_h_g64 : b_h ≠ g64 := fun e => no_ve_b_h (by rw [hob_g64, e])
           have no_wd_g64 : wd.ownBlock ≠ some g64 := fun e => sep_wd_ve _ e hob_g64
           refine wp_region_lit ?_
           refine w_mv (ev ve s5_11 rfl) ?_
           refine w_mv (ev (pt rp 0) s5_0 rfl) ?_
           refine w_val (y_nc (ev (pt rp 0) rfl rfl)) ?_
           refine w_val (v := pt rp 1) (y_off (y_fa (ev (pt rp 0) rfl rfl) (ShaST.fa44_1 _ _)) (by first | rfl | omega)) ?_
           refine w_val (v := .int .i64 48) (y_ld (ev (pt rp 1) rfl rfl) ShaST.sc3 (r_rp.val (by omega) ((if_neg (by omega)).trans (etv (if_pos (by omega)))))) ?_
           refine w_val (v := .slice (some ⟨g64, 0, none⟩) 48 cap64) (y_slh (ev (.slice (some ⟨g64, 0, none⟩) (8 * a) cap64) (Eq.trans (b := ve) rfl hv64) rfl) (evo.s (ev (.int .i64 48) rfl rfl)) Tryd.underlying76 (bnd_h (h := 48) (by omega) (by omega)) ShaST.sz5) ?_
           refine w_val (y_str (l := Sha.sum 384 s) (ev (.slice (some ⟨g64, 0, none⟩) 48 cap64) rfl rfl) (by rw [Sha.length_sum]; rfl) Tryd.underlying76 Tryd.underlying5 Tryd.underlying9 (fun j hj => (r_g64.val (by omega) (by rw [Sha.gb_sum _ _ _ (show j < Sha.ol 384 from hj), Nat.zero_add]; rfl)))) ?_
           refine w_as (ev (.string (str (Sha.sum 384 s))) rfl rfl) ?_
           refine nt ?_
           refine wp_ret ?_
           refine fin_ret1 rfl (ev (.string (str (Sha.sum 384 s))) rfl rfl) ?_
           exact ⟨rfl, hk⟩

set_option maxRecDepth 100000 in
set_option maxHeartbeats 1000000 in
theorem ruleSum_512 (rp g cap : Nat) (s : List (BitVec 8)) (hs : s.length ≤ 1099511627776) (w0 : World) (r_rp : Row w0 rp 44 25 (Sha.rrow (.int .i64 512) (.int .i64 64) (.int .i64 128) (.int .i64 80) (.slice (some ⟨g, 0, none⟩) 80 cap) (Sha.H0 512) (fun i => U64 (BitVec.ofNat 64 (Sha.trn false i))))) (r_g : Row w0 g 39 80 (fun j => U64 (Sha.K false j))) : Calls Tryd.prog 29 #[pt rp 0, .string (str s)] w0 fun e w' => e = .returned (.string (str (Sha.sum 512 s))) ∧ Below w0.heap.size w0 w' := by
 have hpl : Sha.padl 512 s.length = ((239 - s.length % 128) % 128) + 1 + 16 := by rw [Sha.padl_eq 512 128 _ rfl]
 have hnb : 128 * Sha.nb 512 s = s.length + Sha.padl 512 s.length := by have h := Sha.length_full 512 s; unfold Sha.full at h; rw [List.length_append, Sha.length_pad] at h; exact h.symm
 have hfl : (Sha.full 512 s).length = 128 * Sha.nb 512 s := Sha.length_full 512 s
 refine enter (n := 132) Tryd.func29 rfl rfl rfl ?_
 have hk : Below w0.heap.size w0 w0 := Below.refl _ _
 have lt_rp := r_rp.lt
 have lt_g := r_g.lt
 refine sr ?_
 refine w_as (evc (.string (str ([] : List (BitVec 8))))) ?_
 refine nt ?_
 refine sr ?_
 refine w_mv (ev (.string (str s)) rfl rfl) ?_
 refine w_bytes_own (ev (.string (str s)) rfl rfl) Tryd.underlying9 Tryd.underlying76 Tryd.underlying5 (by simp only [maxLen]; omega) hk.size ?_
 intro v1 w2 o_v1 hv4 hb3
 have no_v1_rp : v1.ownBlock ≠ some rp := fun e1 => by rw [hv4] at e1; injection e1 with e1; have := r_rp.lt; omega
 have no_v1_g : v1.ownBlock ≠ some g := fun e1 => by rw [hv4] at e1; injection e1 with e1; have := r_g.lt; omega
 replace r_rp := r_rp.step hb3
 replace r_g := r_g.step hb3
 replace hk := thenB hk hb3
 refine w_as (ev v1 rfl rfl) ?_
 refine nt ?_
 refine sr ?_
 refine w_mv (ev v1 rfl rfl) ?_
 refine w_bs1 (m := 1) (e := 5) (F := fun j => U8 (128#8)) (evc (U8 (128#8))) (fun w => by kernel_rfl) ?_
 intro b_18 w5 hbe_b_18 r_b_18 hb6
 have ne_rp_b_18 : rp ≠ b_18 := by have := r_rp.lt; omega
 have ne_g_b_18 : g ≠ b_18 := by have := r_g.lt; omega
 have no_v1_b_18 : v1.ownBlock ≠ some b_18 := o_v1.apart (by omega)
 have ge_b_18 : w0.heap.size ≤ b_18 := by have := hk.size; omega
 clear hbe_b_18
 replace o_v1 := o_v1.step hb6
 replace r_rp := r_rp.step hb6
 replace r_g := r_g.step hb6
 replace hk := thenB hk hb6
 refine w_app (k := s.length) (m := 1) (size := 1) (bytes := 1) (ev v1 rfl rfl) (ev (.slice (some ⟨b_18, 0, none⟩) 1 1) rfl rfl) Tryd.underlying76 (by kernel_rfl) (by decide) o_v1 hk.size r_b_18 (by omega) oca (by simp only [maxLen]; omega) (by omega) ?_
 intro v7 w8 o_v7 hg9 hv10
 have no_v7_rp := no_new no_v1_rp r_rp.lt hv10
 replace r_rp := r_rp.stepO hg9 no_v1_rp
 have no_v7_g := no_new no_v1_g r_g.lt hv10
 replace r_g := r_g.stepO hg9 no_v1_g
 have no_v7_b_18 := no_new no_v1_b_18 r_b_18.lt hv10
 replace r_b_18 := r_b_18.stepO hg9 no_v1_b_18
 replace hk := thenO hk hg9 (fun g e => (o_v1.block_lt g e).2)
 clear o_v1
 refine w_as (ev v7 rfl rfl) ?_
 refine nt ?_
 refine wp_seq ?_
 refine wp_block ?_
 refine c_loop (fun dN aN wl => ∃ (z : Nat) (va : Value), dN = (((239 - s.length % 128) % 128) - z) ∧ ∃ f11, aN = fr 132 f11 ∧ (z ≤ ((239 - s.length % 128) % 128)) ∧ f11 0 = pt rp 0 ∧ f11 1 = .string (str s) ∧ f11 4 = .string (str ([] : List (BitVec 8))) ∧ f11 5 = va ∧ Row wl rp 44 25 (Sha.rrow (.int .i64 512) (.int .i64 64) (.int .i64 128) (.int .i64 80) (.slice (some ⟨g, 0, none⟩) 80 cap) (Sha.H0 512) (fun i => U64 (BitVec.ofNat 64 (Sha.trn false i)))) ∧ Row wl g 39 80 (fun j => U64 (Sha.K false j)) ∧ Row wl b_18 5 1 (fun j => U8 (128#8)) ∧ Own wl w0.heap.size 5 1 va (s.length + 1 + z) (fun j => U8 (gb (Sha.full 512 s) j)) ∧ va.ownBlock ≠ some rp ∧ va.ownBlock ≠ some g ∧ va.ownBlock ≠ some b_18 ∧ Below w0.heap.size w0 wl) (((239 - s.length % 128) % 128) - 0) ?_ ?_
 · exact ⟨0, v7, rfl, _, rfl, iv, rfl, rfl, rfl, (etv (b := v7) rfl), r_rp, r_g, r_b_18, (own_n (o_v7.congr (fun j hj => by (try dsimp only); by_cases e : j < s.length * 1; (rw [if_pos e, Sha.gb_full_lo _ _ _ (by omega)]); (rw [if_neg e]; exact congrArg U8 (Sha.full_80 512 s j (by omega))))) (by omega)), no_v7_rp, no_v7_g, no_v7_b_18, hk⟩
 ·skip
  clear r_rp r_g r_b_18 o_v7 hk
  rintro _ _ w12 ⟨z, va, rfl, f11, rfl, i1_0, s1_0, s1_1, s1_4, s1_5, r_rp, r_g, r_b_18, o_va, no_va_rp, no_va_g, no_va_b_18, hk⟩
  refine ss ?_
  refine region_q ShaST.mixed (by kernel_rfl) ?_
  refine q_mv (ev va s1_5 rfl) ?_
  refine q_val (v := .int .i64 (((s.length + 1 + z) : Nat) : Int)) (fun w' hw' => y_len_own (ev va rfl rfl) o_va Tryd.underlying76) ?_
  refine q_mv (ev (pt rp 0) s1_0 rfl) ?_
  refine q_val (fun w' hw' => y_nc (ev (pt rp 0) rfl rfl)) ?_
  refine q_val (v := pt rp 2) (fun w' hw' => y_off (y_fa (ev (pt rp 0) rfl rfl) (ShaST.fa44_2 _ _)) (by first | rfl | omega)) ?_
  refine q_val (v := .int .i64 128) (fun w' hw' => y_ld (ev (pt rp 2) rfl rfl) ShaST.sc3 (cls_cell (r_rp.val (by omega) ((if_neg (by omega)).trans ((if_neg (by omega)).trans (etv (if_pos (by omega)))))) r_rp.lt w' hw')) ?_
  refine q_val (fun w' hw' => y_bin (ev (.int .i64 (((s.length + 1 + z) : Nat) : Int)) rfl rfl) (ev (.int .i64 128) rfl rfl) (b_rem (by omega))) ?_
  refine q_mv (ev (pt rp 0) s1_0 rfl) ?_
  refine q_val (fun w' hw' => y_nc (ev (pt rp 0) rfl rfl)) ?_
  refine q_val (v := pt rp 2) (fun w' hw' => y_off (y_fa (ev (pt rp 0) rfl rfl) (ShaST.fa44_2 _ _)) (by first | rfl | omega)) ?_
  refine q_val (v := .int .i64 128) (fun w' hw' => y_ld (ev (pt rp 2) rfl rfl) ShaST.sc3 (cls_cell (r_rp.val (by omega) ((if_neg (by omega)).trans ((if_neg (by omega)).trans (etv (if_pos (by omega)))))) r_rp.lt w' hw')) ?_
  refine q_mv (ev (pt rp 0) s1_0 rfl) ?_
  refine q_val (fun w' hw' => y_nc (ev (pt rp 0) rfl rfl)) ?_
  refine q_val (v := pt rp 2) (fun w' hw' => y_off (y_fa (ev (pt rp 0) rfl rfl) (ShaST.fa44_2 _ _)) (by first | rfl | omega)) ?_
  refine q_val (v := .int .i64 128) (fun w' hw' => y_ld (ev (pt rp 2) rfl rfl) ShaST.sc3 (cls_cell (r_rp.val (by omega) ((if_neg (by omega)).trans ((if_neg (by omega)).trans (etv (if_pos (by omega)))))) r_rp.lt w' hw')) ?_
  refine q_val (fun w' hw' => y_bin (ev (.int .i64 128) rfl rfl) (evc (.int .i64 8)) (b_quo (by omega))) ?_
  refine q_val (fun w' hw' => y_bin (ev (.int .i64 128) rfl rfl) (ev (.int .i64 16) rfl rfl) (b_sub (by omega))) ?_
  refine q_val (fun w' hw' => y_bin (ev (.int .i64 ((((s.length + 1 + z) : Nat) : Int) % 128)) rfl rfl) (ev (.int .i64 112) rfl rfl) b_neq) ?_
  refine q_nil ?_
  intro w13 hb14
  replace o_va := o_va.step hb14
  replace r_rp := r_rp.step hb14
  replace r_g := r_g.step hb14
  replace r_b_18 := r_b_18.step hb14
  replace hk := thenB hk hb14
  refine then_n ?_
  refine c_if (p := ((((s.length + 1 + z) : Nat) : Int) % 128) ≠ 112) (ev (.bool (decide (((((s.length + 1 + z) : Nat) : Int) % 128) ≠ 112))) rfl rfl) (fun hc15 => ?_) (fun hc15 => ?_)
  ·skip
   refine wp_skip ?_
   refine then_n ?_
   refine wp_block ?_
   refine wp_region_lit ?_
   refine w_mv (ev va s1_5 rfl) ?_
   refine w_bs1 (m := 1) (e := 5) (F := fun j => U8 (0#8)) (evc (U8 (0#8))) (fun w => by kernel_rfl) ?_
   intro b_39 w16 hbe_b_39 r_b_39 hb17
   have ne_rp_b_39 : rp ≠ b_39 := by have := r_rp.lt; omega
   have ne_g_b_39 : g ≠ b_39 := by have := r_g.lt; omega
   have ne_b_18_b_39 : b_18 ≠ b_39 := by have := r_b_18.lt; omega
   have no_va_b_39 : va.ownBlock ≠ some b_39 := o_va.apart (by omega)
   have ge_b_39 : w0.heap.size ≤ b_39 := by have := hk.size; omega
   clear hbe_b_39
   replace o_va := o_va.step hb17
   replace r_rp := r_rp.step hb17
   replace r_g := r_g.step hb17
   replace r_b_18 := r_b_18.step hb17
   replace hk := thenB hk hb17
   refine w_app (k := (s.length + 1 + z)) (m := 1) (size := 1) (bytes := 1) (ev va rfl rfl) (ev (.slice (some ⟨b_39, 0, none⟩) 1 1) rfl rfl) Tryd.underlying76 (by kernel_rfl) (by decide) o_va hk.size r_b_39 (by omega) oca (by simp only [maxLen]; omega) (by omega) ?_
   intro v18 w19 o_v18 hg20 hv21
   have no_v18_rp := no_new no_va_rp r_rp.lt hv21
   replace r_rp := r_rp.stepO hg20 no_va_rp
   have no_v18_g := no_new no_va_g r_g.lt hv21
   replace r_g := r_g.stepO hg20 no_va_g
   have no_v18_b_18 := no_new no_va_b_18 r_b_18.lt hv21
   replace r_b_18 := r_b_18.stepO hg20 no_va_b_18
   have no_v18_b_39 := no_new no_va_b_39 r_b_39.lt hv21
   replace r_b_39 := r_b_39.stepO hg20 no_va_b_39
   replace hk := thenO hk hg20 (fun g e => (o_va.block_lt g e).2)
   clear o_va
   refine w_as (ev v18 rfl rfl) ?_
   refine wpList_nil ?_
   refine inb_n ?_
   exact then_n ⟨_, (by omega), z + 1, v18, rfl, _, rfl, iv, s1_0, s1_1, s1_4, rfl, r_rp, r_g, r_b_18, (own_n (o_v18.congr (fun j hj => by (try dsimp only); by_cases e : j < (s.length + 1 + z) * 1; (rw [if_pos e]); (rw [if_neg e]; exact congrArg U8 (Sha.full_0 512 s j (by omega) (by omega))))) (by omega)), no_v18_rp, no_v18_g, no_v18_b_18, hk⟩
  ·skip
   refine wp_exit ?_
   refine then_x ?_
   refine then_x ?_
   refine inb_x ?_
   refine then_n ?_
   refine wp_seq ?_
   refine sr ?_
   refine w_as (evc (.int .i64 0)) ?_
   refine nt ?_
   refine wp_block ?_
   refine c_loop (fun dN aN wl => ∃ (y : Nat) (vb : Value), dN = (8 - y) ∧ ∃ f22, aN = fr 132 f22 ∧ (y ≤ 8) ∧ f22 0 = pt rp 0 ∧ f22 1 = .string (str s) ∧ f22 4 = .string (str ([] : List (BitVec 8))) ∧ f22 5 = vb ∧ f22 6 = .int .i64 ((y : Nat) : Int) ∧ Row wl rp 44 25 (Sha.rrow (.int .i64 512) (.int .i64 64) (.int .i64 128) (.int .i64 80) (.slice (some ⟨g, 0, none⟩) 80 cap) (Sha.H0 512) (fun i => U64 (BitVec.ofNat 64 (Sha.trn false i)))) ∧ Row wl g 39 80 (fun j => U64 (Sha.K false j)) ∧ Row wl b_18 5 1 (fun j => U8 (128#8)) ∧ Own wl w0.heap.size 5 1 vb (s.length + 1 + ((239 - s.length % 128) % 128) + y) (fun j => U8 (gb (Sha.full 512 s) j)) ∧ vb.ownBlock ≠ some rp ∧ vb.ownBlock ≠ some g ∧ vb.ownBlock ≠ some b_18 ∧ Below w0.heap.size w0 wl) (8 - 0) ?_ ?_
   · exact ⟨0, va, rfl, _, rfl, iv, s1_0, s1_1, s1_4, (Eq.trans (b := va) s1_5 (by first | with_reducible rfl | (with_reducible congr 1 <;> omega) | (with_reducible congr 2 <;> omega) | (with_reducible congr 3 <;> omega) | rfl)), (etv (b := .int .i64 0) rfl), r_rp, r_g, r_b_18, (own_n (o_va.cg) (by omega)), no_va_rp, no_va_g, no_va_b_18, hk⟩
   ·skip
    clear r_rp r_g r_b_18 o_va hk
    rintro _ _ w23 ⟨y, vb, rfl, f22, rfl, i2_0, s2_0, s2_1, s2_4, s2_5, s2_6, r_rp, r_g, r_b_18, o_vb, no_vb_rp, no_vb_g, no_vb_b_18, hk⟩
    refine wp_seq ?_
    refine sr ?_
    refine w_mv (ev (.int .i64 ((y : Nat) : Int)) s2_6 rfl) ?_
    refine w_mv (ev (pt rp 0) s2_0 rfl) ?_
    refine w_val (y_nc (ev (pt rp 0) rfl rfl)) ?_
    refine w_val (v := pt rp 2) (y_off (y_fa (ev (pt rp 0) rfl rfl) (ShaST.fa44_2 _ _)) (by first | rfl | omega)) ?_
    refine w_val (v := .int .i64 128) (y_ld (ev (pt rp 2) rfl rfl) ShaST.sc3 (r_rp.val (by omega) ((if_neg (by omega)).trans ((if_neg (by omega)).trans (etv (if_pos (by omega))))))) ?_
    refine w_val (y_bin (ev (.int .i64 128) rfl rfl) (evc (.int .i64 8)) (b_quo (by omega))) ?_
    refine w_val (y_bin (ev (.int .i64 16) rfl rfl) (evc (.int .i64 8)) (b_sub (by omega))) ?_
    refine w_val (y_bin (ev (.int .i64 ((y : Nat) : Int)) rfl rfl) (ev (.int .i64 8) rfl rfl) b_lss) ?_
    refine nt ?_
    refine c_if (p := ((y : Nat) : Int) < 8) (ev (.bool (decide (((y : Nat) : Int) < 8))) rfl rfl) (fun hc24 => ?_) (fun hc24 => ?_)
    ·skip
     refine wp_skip ?_
     refine then_n ?_
     refine wp_seq ?_
     refine wp_block ?_
     refine wp_region_lit ?_
     refine w_mv (ev vb s2_5 rfl) ?_
     refine w_bs1 (m := 1) (e := 5) (F := fun j => U8 (0#8)) (evc (U8 (0#8))) (fun w => by kernel_rfl) ?_
     intro b_52 w25 hbe_b_52 r_b_52 hb26
     have ne_rp_b_52 : rp ≠ b_52 := by have := r_rp.lt; omega
     have ne_g_b_52 : g ≠ b_52 := by have := r_g.lt; omega
     have ne_b_18_b_52 : b_18 ≠ b_52 := by have := r_b_18.lt; omega
     have no_vb_b_52 : vb.ownBlock ≠ some b_52 := o_vb.apart (by omega)
     have ge_b_52 : w0.heap.size ≤ b_52 := by have := hk.size; omega
     clear hbe_b_52
     replace o_vb := o_vb.step hb26
     replace r_rp := r_rp.step hb26
     replace r_g := r_g.step hb26
     replace r_b_18 := r_b_18.step hb26
     replace hk := thenB hk hb26
     refine w_app (k := (s.length + 1 + ((239 - s.length % 128) % 128) + y)) (m := 1) (size := 1) (bytes := 1) (ev vb rfl rfl) (ev (.slice (some ⟨b_52, 0, none⟩) 1 1) rfl rfl) Tryd.underlying76 (by kernel_rfl) (by decide) o_vb hk.size r_b_52 (by omega) oca (by simp only [maxLen]; omega) (by omega) ?_
     intro v27 w28 o_v27 hg29 hv30
     have no_v27_rp := no_new no_vb_rp r_rp.lt hv30
     replace r_rp := r_rp.stepO hg29 no_vb_rp
     have no_v27_g := no_new no_vb_g r_g.lt hv30
     replace r_g := r_g.stepO hg29 no_vb_g
     have no_v27_b_18 := no_new no_vb_b_18 r_b_18.lt hv30
     replace r_b_18 := r_b_18.stepO hg29 no_vb_b_18
     have no_v27_b_52 := no_new no_vb_b_52 r_b_52.lt hv30
     replace r_b_52 := r_b_52.stepO hg29 no_vb_b_52
     replace hk := thenO hk hg29 (fun g e => (o_vb.block_lt g e).2)
     clear o_vb
     refine w_as (ev v27 rfl rfl) ?_
     refine wpList_nil ?_
     refine inb_n ?_
     refine then_n ?_
     refine wp_region_lit ?_
     refine w_mv (ev (.int .i64 ((y : Nat) : Int)) s2_6 rfl) ?_
     refine w_val (y_bin (ev (.int .i64 ((y : Nat) : Int)) rfl rfl) (evc (.int .i64 1)) (b_add (by omega))) ?_
     refine w_as (ev (.int .i64 (((y : Nat) : Int) + 1)) rfl rfl) ?_
     refine wpList_nil ?_
     exact then_n ⟨_, (by omega), y + 1, v27, rfl, _, rfl, iv, s2_0, s2_1, s2_4, rfl, (etv (b := .int .i64 (((y : Nat) : Int) + 1)) rfl), r_rp, r_g, r_b_18, (own_n (o_v27.congr (fun j hj => by first | (exfalso; omega) | ((try dsimp only); by_cases e : j < (s.length + 1 + ((239 - s.length % 128) % 128) + y) * 1; (rw [if_pos e]); (rw [if_neg e]; exact congrArg U8 (Sha.full_0 512 s j (by omega) (by omega)))))) (by omega)), no_v27_rp, no_v27_g, no_v27_b_18, hk⟩
    ·skip
     refine wp_exit ?_
     refine then_x ?_
     refine then_x ?_
     refine inb_x ?_
     refine then_n ?_
     refine sr ?_
     refine w_mv (ev (.string (str s)) s2_1 rfl) ?_
     refine w_val (y_len (ev (.string (str s)) rfl rfl) Tryd.underlying9) ?_
     refine w_val (y_nat_u64 (p := s.length) (ev (.int .i64 ((s.length : Nat) : Int)) rfl rfl) (by omega) ShaST.so3 Tryd.underlying39) ?_
     refine w_val (y_bin (ev (U64 (BitVec.ofNat 64 s.length)) rfl rfl) (evc (U64 (8#64))) mul64) ?_
     refine w_as (ev (U64 ((BitVec.ofNat 64 s.length) * (8#64))) rfl rfl) ?_
     refine nt ?_
     refine wp_seq ?_
     refine sr ?_
     refine w_as (evc (.int .i64 0)) ?_
     refine nt ?_
     refine wp_block ?_
     refine c_loop (fun dN aN wl => ∃ (x : Nat) (vc : Value), dN = (8 - x) ∧ ∃ f31, aN = fr 132 f31 ∧ (x ≤ 8) ∧ f31 0 = pt rp 0 ∧ f31 1 = .string (str s) ∧ f31 4 = .string (str ([] : List (BitVec 8))) ∧ f31 5 = vc ∧ f31 6 = .int .i64 ((y : Nat) : Int) ∧ f31 7 = U64 ((BitVec.ofNat 64 s.length) * (8#64)) ∧ f31 8 = .int .i64 ((x : Nat) : Int) ∧ Row wl rp 44 25 (Sha.rrow (.int .i64 512) (.int .i64 64) (.int .i64 128) (.int .i64 80) (.slice (some ⟨g, 0, none⟩) 80 cap) (Sha.H0 512) (fun i => U64 (BitVec.ofNat 64 (Sha.trn false i)))) ∧ Row wl g 39 80 (fun j => U64 (Sha.K false j)) ∧ Row wl b_18 5 1 (fun j => U8 (128#8)) ∧ Own wl w0.heap.size 5 1 vc (s.length + 1 + ((239 - s.length % 128) % 128) + 8 + x) (fun j => U8 (gb (Sha.full 512 s) j)) ∧ vc.ownBlock ≠ some rp ∧ vc.ownBlock ≠ some g ∧ vc.ownBlock ≠ some b_18 ∧ Below w0.heap.size w0 wl) (8 - 0) ?_ ?_
     · exact ⟨0, vb, rfl, _, rfl, iv, s2_0, s2_1, s2_4, (Eq.trans (b := vb) s2_5 (by first | with_reducible rfl | (with_reducible congr 1 <;> omega) | (with_reducible congr 2 <;> omega) | (with_reducible congr 3 <;> omega) | rfl)), s2_6, rfl, (etv (b := .int .i64 0) rfl), r_rp, r_g, r_b_18, (own_n (o_vb.cg) (by omega)), no_vb_rp, no_vb_g, no_vb_b_18, hk⟩
     ·skip
      clear r_rp r_g r_b_18 o_vb hk
      rintro _ _ w32 ⟨x, vc, rfl, f31, rfl, i3_0, s3_0, s3_1, s3_4, s3_5, s3_6, s3_7, s3_8, r_rp, r_g, r_b_18, o_vc, no_vc_rp, no_vc_g, no_vc_b_18, hk⟩
      refine wp_seq ?_
      refine sr ?_
      refine w_mv (ev (.int .i64 ((x : Nat) : Int)) s3_8 rfl) ?_
      refine w_val (y_bin (ev (.int .i64 ((x : Nat) : Int)) rfl rfl) (evc (.int .i64 8)) b_lss) ?_
      refine nt ?_
      refine c_if (p := ((x : Nat) : Int) < 8) (ev (.bool (decide (((x : Nat) : Int) < 8))) rfl rfl) (fun hc33 => ?_) (fun hc33 => ?_)
      ·skip
       refine wp_skip ?_
       refine then_n ?_
       refine wp_seq ?_
       refine wp_block ?_
       refine wp_region_lit ?_
       refine w_mv (ev vc s3_5 rfl) ?_
       refine w_mv (ev (U64 ((BitVec.ofNat 64 s.length) * (8#64))) s3_7 rfl) ?_
       refine w_mv (ev (.int .i64 ((x : Nat) : Int)) s3_8 rfl) ?_
       refine w_val (y_bin (evc (.int .i64 8)) (ev (.int .i64 ((x : Nat) : Int)) rfl rfl) (b_mul (by omega))) ?_
       refine w_val (y_bin (evc (.int .i64 56)) (ev (.int .i64 (8 * ((x : Nat) : Int))) rfl rfl) (b_sub (by omega))) ?_
       refine w_val (y_nat_u64 (p := (56 - (8 * x))) (ev (.int .i64 (56 - (8 * ((x : Nat) : Int)))) rfl rfl) (by omega) ShaST.so3 Tryd.underlying41) ?_
       refine w_val (y_bin (ev (U64 ((BitVec.ofNat 64 s.length) * (8#64))) rfl rfl) (ev (U64 (BitVec.ofNat 64 (56 - (8 * x)))) rfl rfl) (shr64 (c := (56 - (8 * x))) (by rw [BitVec.toNat_ofNat]; omega))) ?_
       refine w_val (y_u64_u8 (ev (U64 (((BitVec.ofNat 64 s.length) * (8#64)) >>> (56 - (8 * x)))) rfl rfl) ShaST.so39 Tryd.underlying5) ?_
       refine w_bs1 (m := 1) (e := 5) (F := fun j => U8 ((((BitVec.ofNat 64 s.length) * (8#64)) >>> (56 - (8 * x))).setWidth 8)) (ev (U8 ((((BitVec.ofNat 64 s.length) * (8#64)) >>> (56 - (8 * x))).setWidth 8)) rfl rfl) (fun w => by kernel_rfl) ?_
       intro b_70 w34 hbe_b_70 r_b_70 hb35
       have ne_rp_b_70 : rp ≠ b_70 := by have := r_rp.lt; omega
       have ne_g_b_70 : g ≠ b_70 := by have := r_g.lt; omega
       have ne_b_18_b_70 : b_18 ≠ b_70 := by have := r_b_18.lt; omega
       have no_vc_b_70 : vc.ownBlock ≠ some b_70 := o_vc.apart (by omega)
       have ge_b_70 : w0.heap.size ≤ b_70 := by have := hk.size; omega
       clear hbe_b_70
       replace o_vc := o_vc.step hb35
       replace r_rp := r_rp.step hb35
       replace r_g := r_g.step hb35
       replace r_b_18 := r_b_18.step hb35
       replace hk := thenB hk hb35
       refine w_app (k := (s.length + 1 + ((239 - s.length % 128) % 128) + 8 + x)) (m := 1) (size := 1) (bytes := 1) (ev vc rfl rfl) (ev (.slice (some ⟨b_70, 0, none⟩) 1 1) rfl rfl) Tryd.underlying76 (by kernel_rfl) (by decide) o_vc hk.size r_b_70 (by omega) oca (by simp only [maxLen]; omega) (by omega) ?_
       intro v36 w37 o_v36 hg38 hv39
       have no_v36_rp := no_new no_vc_rp r_rp.lt hv39
       replace r_rp := r_rp.stepO hg38 no_vc_rp
       have no_v36_g := no_new no_vc_g r_g.lt hv39
       replace r_g := r_g.stepO hg38 no_vc_g
       have no_v36_b_18 := no_new no_vc_b_18 r_b_18.lt hv39
       replace r_b_18 := r_b_18.stepO hg38 no_vc_b_18
       have no_v36_b_70 := no_new no_vc_b_70 r_b_70.lt hv39
       replace r_b_70 := r_b_70.stepO hg38 no_vc_b_70
       replace hk := thenO hk hg38 (fun g e => (o_vc.block_lt g e).2)
       clear o_vc
       refine w_as (ev v36 rfl rfl) ?_
       refine wpList_nil ?_
       refine inb_n ?_
       refine then_n ?_
       refine wp_region_lit ?_
       refine w_mv (ev (.int .i64 ((x : Nat) : Int)) s3_8 rfl) ?_
       refine w_val (y_bin (ev (.int .i64 ((x : Nat) : Int)) rfl rfl) (evc (.int .i64 1)) (b_add (by omega))) ?_
       refine w_as (ev (.int .i64 (((x : Nat) : Int) + 1)) rfl rfl) ?_
       refine wpList_nil ?_
       exact then_n ⟨_, (by omega), x + 1, v36, rfl, _, rfl, iv, s3_0, s3_1, s3_4, rfl, s3_6, s3_7, (etv (b := .int .i64 (((x : Nat) : Int) + 1)) rfl), r_rp, r_g, r_b_18, (own_n (o_v36.congr (fun j hj => by (try dsimp only); by_cases e : j < (s.length + 1 + ((239 - s.length % 128) % 128) + 8 + x) * 1; (rw [if_pos e]); (rw [if_neg e]; exact congrArg U8 (Sha.full_n 512 s x j (by omega) (by omega))))) (by omega)), no_v36_rp, no_v36_g, no_v36_b_18, hk⟩
      ·skip
       refine wp_exit ?_
       refine then_x ?_
       refine then_x ?_
       refine inb_x ?_
       refine then_n ?_
       refine sr ?_
       refine w_mv (ev (pt rp 0) s3_0 rfl) ?_
       refine w_val (y_nc (ev (pt rp 0) rfl rfl)) ?_
       refine w_val (v := pt rp 5) (y_off (y_fa (ev (pt rp 0) rfl rfl) (ShaST.fa44_5 _ _)) (by first | rfl | omega)) ?_
       refine w_val (v := .agg (arr 8 (fun j => U64 ((Sha.H0 512) j)))) (y_lda (ev (pt rp 5) rfl rfl) ShaST.ag40 ShaST.sz40 (fun j hj => (r_rp.val (by omega) (by first | with_reducible rfl | exact ((if_neg (by omega)).trans ((if_neg (by omega)).trans ((if_neg (by omega)).trans ((if_neg (by omega)).trans ((if_neg (by omega)).trans (etv (if_pos (by omega)))))))))))) ?_
       refine w_alloc (m := 8) (F := fun j => U64 (0#64)) (by kernel_rfl) ?_
       intro b_h w40 hbe_b_h r_b_h hb41
       have ne_rp_b_h : rp ≠ b_h := by have := r_rp.lt; omega
       have ne_g_b_h : g ≠ b_h := by have := r_g.lt; omega
       have ne_b_18_b_h : b_18 ≠ b_h := by have := r_b_18.lt; omega
       have no_vc_b_h : vc.ownBlock ≠ some b_h := o_vc.apart (by omega)
       have ge_b_h : w0.heap.size ≤ b_h := by have := hk.size; omega
       clear hbe_b_h
       replace o_vc := o_vc.step hb41
       replace r_rp := r_rp.step hb41
       replace r_g := r_g.step hb41
       replace r_b_18 := r_b_18.step hb41
       replace hk := thenB hk hb41
       refine w_sta (k := 8) (G := fun j => U64 ((Sha.H0 512) j)) (ev (pt b_h 0) rfl rfl) (ev (.agg (arr 8 (fun j => U64 ((Sha.H0 512) j)))) rfl rfl) oc ShaST.sz40 r_b_h (by omega) ?_
       clear r_b_h; intro w42 r_b_h hg43 _
       replace r_b_h := r_b_h.congr (g := fun j => U64 ((Sha.H0 512) j)) (fun j hj => by rw [if_pos ⟨Nat.zero_le _, by omega⟩]; first | rfl | (simp only [Nat.sub_zero]))
       replace o_vc := o_vc.stepG hg43 no_vc_b_h
       replace r_rp := r_rp.stepG hg43 (by omega)
       replace r_g := r_g.stepG hg43 (by omega)
       replace r_b_18 := r_b_18.stepG hg43 (by omega)
       replace hk := thenG hk hg43 (by omega)
       refine nt ?_
       refine wp_seq ?_
       refine sr ?_
       refine w_as (evc (.int .i64 0)) ?_
       refine nt ?_
       refine wp_block ?_
       refine c_loop (fun dN aN wl => ∃ (t : Nat) (vd : Value), dN = (Sha.nb 512 s - t) ∧ ∃ f44, aN = fr 132 f44 ∧ (t ≤ Sha.nb 512 s) ∧ f44 0 = pt rp 0 ∧ f44 1 = .string (str s) ∧ f44 4 = .string (str ([] : List (BitVec 8))) ∧ f44 5 = vd ∧ f44 6 = .int .i64 ((y : Nat) : Int) ∧ f44 7 = U64 ((BitVec.ofNat 64 s.length) * (8#64)) ∧ f44 8 = .int .i64 ((x : Nat) : Int) ∧ f44 9 = pt b_h 0 ∧ f44 10 = .int .i64 (((128 * t) : Nat) : Int) ∧ Row wl rp 44 25 (Sha.rrow (.int .i64 512) (.int .i64 64) (.int .i64 128) (.int .i64 80) (.slice (some ⟨g, 0, none⟩) 80 cap) (Sha.H0 512) (fun i => U64 (BitVec.ofNat 64 (Sha.trn false i)))) ∧ Row wl g 39 80 (fun j => U64 (Sha.K false j)) ∧ Row wl b_18 5 1 (fun j => U8 (128#8)) ∧ Row wl b_h 40 8 (fun j => U64 (Sha.st 512 (gb (Sha.full 512 s)) t j)) ∧ Own wl w0.heap.size 5 1 vd (s.length + 1 + ((239 - s.length % 128) % 128) + 16) (fun j => U8 (gb (Sha.full 512 s) j)) ∧ vd.ownBlock ≠ some rp ∧ vd.ownBlock ≠ some g ∧ vd.ownBlock ≠ some b_18 ∧ vd.ownBlock ≠ some b_h ∧ Below w0.heap.size w0 wl) (Sha.nb 512 s - 0) ?_ ?_
       · exact ⟨0, vc, rfl, _, rfl, iv, s3_0, s3_1, s3_4, (Eq.trans (b := vc) s3_5 (by first | with_reducible rfl | (with_reducible congr 1 <;> omega) | (with_reducible congr 2 <;> omega) | (with_reducible congr 3 <;> omega) | rfl)), s3_6, s3_7, s3_8, rfl, (Eq.trans (b := .int .i64 0) rfl (by rfl)), r_rp, r_g, r_b_18, (r_b_h.congr (fun j hj => by rfl)), (own_n (o_vc.cg) (by omega)), no_vc_rp, no_vc_g, no_vc_b_18, no_vc_b_h, hk⟩
       ·skip
        clear r_rp r_g r_b_18 r_b_h o_vc hk
        rintro _ _ w45 ⟨t, vd, rfl, f44, rfl, i4_0, s4_0, s4_1, s4_4, s4_5, s4_6, s4_7, s4_8, s4_9, s4_10, r_rp, r_g, r_b_18, r_b_h, o_vd, no_vd_rp, no_vd_g, no_vd_b_18, no_vd_b_h, hk⟩
        have hlt : t < Sha.nb 512 s → (((Sha.full 512 s).drop (128 * t)).take 128).length = 128 := fun h => by rw [List.length_take, List.length_drop, hfl]; omega
        refine wp_seq ?_
        refine sr ?_
        refine w_mv (ev (.int .i64 (((128 * t) : Nat) : Int)) s4_10 rfl) ?_
        refine w_mv (ev vd s4_5 rfl) ?_
        refine w_val (v := .int .i64 (((s.length + 1 + ((239 - s.length % 128) % 128) + 16) : Nat) : Int)) (y_len_own (ev vd rfl rfl) o_vd Tryd.underlying76) ?_
        refine w_val (y_bin (ev (.int .i64 (((128 * t) : Nat) : Int)) rfl rfl) (ev (.int .i64 (((s.length + 1 + ((239 - s.length % 128) % 128) + 16) : Nat) : Int)) rfl rfl) b_lss) ?_
        refine nt ?_
        refine c_if (p := (((128 * t) : Nat) : Int) < (((s.length + 1 + ((239 - s.length % 128) % 128) + 16) : Nat) : Int)) (ev (.bool (decide ((((128 * t) : Nat) : Int) < (((s.length + 1 + ((239 - s.length % 128) % 128) + 16) : Nat) : Int)))) rfl rfl) (fun hc46 => ?_) (fun hc46 => ?_)
        ·skip
         refine wp_skip ?_
         refine then_n ?_
         refine wp_seq ?_
         refine wp_block ?_
         obtain ⟨g47, cap47, hv47, ge_g47, hc_g47, hob_g47, r_g47⟩ := o_vd.opened (by omega)
         have ne_rp_g47 : rp ≠ g47 := fun e => no_vd_rp (by rw [hob_g47, e])
         have ne_g_g47 : g ≠ g47 := fun e => no_vd_g (by rw [hob_g47, e])
         have ne_b_18_g47 : b_18 ≠ g47 := fun e => no_vd_b_18 (by rw [hob_g47, e])
         have ne_b_h_g47 : b_h ≠ g47 := fun e => no_vd_b_h (by rw [hob_g47, e])
         refine region_t 13 ShaST.mixed (by kernel_rfl) ?_
         simp only [List.take_succ_cons, List.take_zero, List.drop_succ_cons, List.drop_zero]
         refine q_mv (ev (pt rp 0) s4_0 rfl) ?_
         refine q_val (v := .agg (arr 8 (fun j => U64 (Sha.st 512 (gb (Sha.full 512 s)) t j)))) (fun w' hw' => y_lda (ev (pt b_h 0) s4_9 rfl) ShaST.ag40 ShaST.sz40 (fun j hj => by rw [Nat.zero_add]; exact (cls_cell (r_b_h.cell (by omega)) r_b_h.lt w' hw'))) ?_
         refine q_mv (ev vd s4_5 rfl) ?_
         refine q_mv (ev (.int .i64 (((128 * t) : Nat) : Int)) s4_10 rfl) ?_
         refine q_mv (ev (.int .i64 (((128 * t) : Nat) : Int)) s4_10 rfl) ?_
         refine q_mv (ev (pt rp 0) s4_0 rfl) ?_
         refine q_val (fun w' hw' => y_nc (ev (pt rp 0) rfl rfl)) ?_
         refine q_val (v := pt rp 2) (fun w' hw' => y_off (y_fa (ev (pt rp 0) rfl rfl) (ShaST.fa44_2 _ _)) (by first | rfl | omega)) ?_
         refine q_val (v := .int .i64 128) (fun w' hw' => y_ld (ev (pt rp 2) rfl rfl) ShaST.sc3 (cls_cell (r_rp.val (by omega) ((if_neg (by omega)).trans ((if_neg (by omega)).trans (etv (if_pos (by omega)))))) r_rp.lt w' hw')) ?_
         refine q_val (fun w' hw' => y_bin (ev (.int .i64 (((128 * t) : Nat) : Int)) rfl rfl) (ev (.int .i64 128) rfl rfl) (b_add (by omega))) ?_
         refine q_val (v := .slice (some ⟨g47, (128 * t), none⟩) (((128 * t) + 128) - (128 * t)) (cap47 - (128 * t))) (fun w' hw' => y_sloff (y_slv (ev (.slice (some ⟨g47, 0, none⟩) (s.length + 1 + ((239 - s.length % 128) % 128) + 16) cap47) (Eq.trans (b := vd) rfl hv47) rfl) (evo.s (ev (.int .i64 (((128 * t) : Nat) : Int)) rfl rfl)) (evo.s (ev (.int .i64 ((((128 * t) : Nat) : Int) + 128)) rfl rfl)) Tryd.underlying76 ShaST.sz5 (bnd_lh (l := (128 * t)) (h := ((128 * t) + 128)) (by omega) (by omega) (by omega) (by omega)) (by omega)) (by first | rfl | omega) rfl) ?_
         refine q_val (fun w' hw' => y_str (l := ((Sha.full 512 s).drop (128 * t)).take 128) (ev (.slice (some ⟨g47, (128 * t), none⟩) (((128 * t) + 128) - (128 * t)) (cap47 - (128 * t))) rfl rfl) (by rw [List.length_take, List.length_drop, hfl]; omega) Tryd.underlying76 Tryd.underlying5 Tryd.underlying9 (fun j hj => (cls_cell (r_g47.val (by omega) (by rw [gb_take _ _ _ (show j < 128 by omega), gb_drop])) r_g47.lt w' hw'))) ?_
         refine q_call (v := .agg (arr 8 (fun j => U64 (Sha.comp false (gb (((Sha.full 512 s).drop (128 * t)).take 128)) (Sha.st 512 (gb (Sha.full 512 s)) t) j)))) (Tryd.func43) (by kernel_rfl) rfl (m3 (ev (pt rp 0) rfl rfl) (ev (.agg (arr 8 (fun j => U64 (Sha.st 512 (gb (Sha.full 512 s)) t j)))) rfl rfl) (ev (.string (str (((Sha.full 512 s).drop (128 * t)).take 128))) rfl rfl)) (fun w' hw' => block_f rp 64 g cap (Sha.H0 512) 512 (by decide) (Sha.st 512 (gb (Sha.full 512 s)) t) (((Sha.full 512 s).drop (128 * t)).take 128) (hlt (by omega)) w' (r_rp.step hw') (r_g.step hw')) ?_
         refine q_nil ?_
         intro w48 hb49
         replace o_vd := o_vd.step hb49
         replace r_rp := r_rp.step hb49
         replace r_g := r_g.step hb49
         replace r_b_18 := r_b_18.step hb49
         replace r_b_h := r_b_h.step hb49
         replace r_g47 := r_g47.step hb49
         replace hk := thenB hk hb49
         refine w_sta (k := 8) (G := fun j => U64 (Sha.comp false (gb (((Sha.full 512 s).drop (128 * t)).take 128)) (Sha.st 512 (gb (Sha.full 512 s)) t) j)) (ev (pt b_h 0) s4_9 rfl) (ev (.agg (arr 8 (fun j => U64 (Sha.comp false (gb (((Sha.full 512 s).drop (128 * t)).take 128)) (Sha.st 512 (gb (Sha.full 512 s)) t) j)))) rfl rfl) oc ShaST.sz40 r_b_h (by omega) ?_
         clear r_b_h; intro w50 r_b_h hg51 _
         replace r_b_h := r_b_h.congr (g := fun j => U64 (Sha.comp false (gb (((Sha.full 512 s).drop (128 * t)).take 128)) (Sha.st 512 (gb (Sha.full 512 s)) t) j)) (fun j hj => by rw [if_pos ⟨Nat.zero_le _, by omega⟩]; first | rfl | (simp only [Nat.sub_zero]))
         replace o_vd := o_vd.stepG hg51 no_vd_b_h
         replace r_rp := r_rp.stepG hg51 (by omega)
         replace r_g := r_g.stepG hg51 (by omega)
         replace r_b_18 := r_b_18.stepG hg51 (by omega)
         replace r_g47 := r_g47.stepG hg51 (by omega)
         replace hk := thenG hk hg51 (by omega)
         refine wpList_nil ?_
         refine inb_n ?_
         refine then_n ?_
         refine wp_region_lit ?_
         refine w_mv (ev (.int .i64 (((128 * t) : Nat) : Int)) s4_10 rfl) ?_
         refine w_mv (ev (pt rp 0) s4_0 rfl) ?_
         refine w_val (y_nc (ev (pt rp 0) rfl rfl)) ?_
         refine w_val (v := pt rp 2) (y_off (y_fa (ev (pt rp 0) rfl rfl) (ShaST.fa44_2 _ _)) (by first | rfl | omega)) ?_
         refine w_val (v := .int .i64 128) (y_ld (ev (pt rp 2) rfl rfl) ShaST.sc3 (r_rp.val (by omega) ((if_neg (by omega)).trans ((if_neg (by omega)).trans (etv (if_pos (by omega))))))) ?_
         refine w_val (y_bin (ev (.int .i64 (((128 * t) : Nat) : Int)) rfl rfl) (ev (.int .i64 128) rfl rfl) (b_add (by omega))) ?_
         refine w_as (ev (.int .i64 ((((128 * t) : Nat) : Int) + 128)) rfl rfl) ?_
         refine wpList_nil ?_
         exact then_n ⟨_, (by omega), t + 1, vd, rfl, _, rfl, iv, s4_0, s4_1, s4_4, s4_5, s4_6, s4_7, s4_8, s4_9, (Eq.trans (b := .int .i64 ((((128 * t) : Nat) : Int) + 128)) rfl (by congr 1)), r_rp, r_g, r_b_18, (r_b_h.congr (fun j hj => by exact congrArg U64 (congrFun (Sha.st_next 512 (gb (Sha.full 512 s)) (gb (((Sha.full 512 s).drop (128 * t)).take 128)) t (fun i hi => by rw [gb_take _ _ _ (show i < 128 from hi), gb_drop]; rfl)) j))), o_vd, no_vd_rp, no_vd_g, no_vd_b_18, no_vd_b_h, hk⟩
        ·skip
         refine wp_exit ?_
         refine then_x ?_
         replace r_b_h := r_b_h.congr (g := fun j => U64 (Sha.st 512 (gb (Sha.full 512 s)) (Sha.nb 512 s) j)) (fun j hj => by rw [show t = Sha.nb 512 s from by omega])
         refine then_x ?_
         refine inb_x ?_
         refine then_n ?_
         refine sr ?_
         refine w_as (evc (.slice none 0 0)) ?_
         refine nt ?_
         refine sr ?_
         refine w_mv (ev (pt rp 0) s4_0 rfl) ?_
         refine w_val (y_nc (ev (pt rp 0) rfl rfl)) ?_
         refine w_val (v := pt rp 2) (y_off (y_fa (ev (pt rp 0) rfl rfl) (ShaST.fa44_2 _ _)) (by first | rfl | omega)) ?_
         refine w_val (v := .int .i64 128) (y_ld (ev (pt rp 2) rfl rfl) ShaST.sc3 (r_rp.val (by omega) ((if_neg (by omega)).trans ((if_neg (by omega)).trans (etv (if_pos (by omega))))))) ?_
         refine w_val (y_bin (ev (.int .i64 128) rfl rfl) (evc (.int .i64 16)) (b_quo (by omega))) ?_
         refine w_as (ev (.int .i64 8) rfl rfl) ?_
         refine nt ?_
         refine wp_seq ?_
         refine sr ?_
         refine w_as (evc (.int .i64 0)) ?_
         refine nt ?_
         refine wp_block ?_
         refine c_loop (fun dN aN wl => ∃ (a : Nat) (ve : Value) (wd : Value), dN = (8 - a) ∧ ∃ f52, aN = fr 132 f52 ∧ (a ≤ 8) ∧ f52 0 = pt rp 0 ∧ f52 1 = .string (str s) ∧ f52 4 = .string (str ([] : List (BitVec 8))) ∧ f52 5 = wd ∧ f52 6 = .int .i64 ((y : Nat) : Int) ∧ f52 7 = U64 ((BitVec.ofNat 64 s.length) * (8#64)) ∧ f52 8 = .int .i64 ((x : Nat) : Int) ∧ f52 9 = pt b_h 0 ∧ f52 10 = .int .i64 (((128 * t) : Nat) : Int) ∧ f52 11 = ve ∧ f52 12 = .int .i64 8 ∧ f52 13 = .int .i64 ((a : Nat) : Int) ∧ Row wl rp 44 25 (Sha.rrow (.int .i64 512) (.int .i64 64) (.int .i64 128) (.int .i64 80) (.slice (some ⟨g, 0, none⟩) 80 cap) (Sha.H0 512) (fun i => U64 (BitVec.ofNat 64 (Sha.trn false i)))) ∧ Row wl g 39 80 (fun j => U64 (Sha.K false j)) ∧ Row wl b_18 5 1 (fun j => U8 (128#8)) ∧ Row wl b_h 40 8 (fun j => U64 (Sha.st 512 (gb (Sha.full 512 s)) (Sha.nb 512 s) j)) ∧ Own wl w0.heap.size 5 1 ve (8 * a) (fun j => U8 ((Sha.st 512 (gb (Sha.full 512 s)) (Sha.nb 512 s) (j / 8) >>> (8 * (7 - j % 8))).setWidth 8)) ∧ ve.ownBlock ≠ some rp ∧ ve.ownBlock ≠ some g ∧ ve.ownBlock ≠ some b_18 ∧ ve.ownBlock ≠ some b_h ∧ (∀ g, ve.ownBlock = some g → wd.ownBlock ≠ some g) ∧ Own wl w0.heap.size 5 1 wd (s.length + 1 + ((239 - s.length % 128) % 128) + 16) (fun j => U8 (gb (Sha.full 512 s) j)) ∧ wd.ownBlock ≠ some rp ∧ wd.ownBlock ≠ some g ∧ wd.ownBlock ≠ some b_18 ∧ wd.ownBlock ≠ some b_h ∧ (∀ g, wd.ownBlock = some g → ve.ownBlock ≠ some g) ∧ Below w0.heap.size w0 wl) (8 - 0) ?_ ?_
         · exact ⟨0, (.slice none 0 0), vd, rfl, _, rfl, iv, s4_0, s4_1, s4_4, (Eq.trans (b := vd) s4_5 (by first | with_reducible rfl | (with_reducible congr 1 <;> omega) | (with_reducible congr 2 <;> omega) | (with_reducible congr 3 <;> omega) | rfl)), s4_6, s4_7, s4_8, s4_9, s4_10, (etv (b := .slice none 0 0) rfl), rfl, (etv (b := .int .i64 0) rfl), r_rp, r_g, r_b_18, r_b_h, Own.nil, (fun e => by cases e), (fun e => by cases e), (fun e => by cases e), (fun e => by cases e), (fun g e => by cases e), o_vd, no_vd_rp, no_vd_g, no_vd_b_18, no_vd_b_h, (fun g _ e => by cases e), hk⟩
         ·skip
          clear r_rp r_g r_b_18 r_b_h o_vd hk
          rintro _ _ w53 ⟨a, ve, wd, rfl, f52, rfl, i5_0, s5_0, s5_1, s5_4, s5_5, s5_6, s5_7, s5_8, s5_9, s5_10, s5_11, s5_12, s5_13, r_rp, r_g, r_b_18, r_b_h, o_ve, no_ve_rp, no_ve_g, no_ve_b_18, no_ve_b_h, sep_ve_wd, o_wd, no_wd_rp, no_wd_g, no_wd_b_18, no_wd_b_h, sep_wd_ve, hk⟩
          refine wp_seq ?_
          refine sr ?_
          refine w_mv (ev (.int .i64 ((a : Nat) : Int)) s5_13 rfl) ?_
          refine w_val (y_bin (ev (.int .i64 ((a : Nat) : Int)) rfl rfl) (evc (.int .i64 8)) b_lss) ?_
          refine nt ?_
          refine c_if (p := ((a : Nat) : Int) < 8) (ev (.bool (decide (((a : Nat) : Int) < 8))) rfl rfl) (fun hc54 => ?_) (fun hc54 => ?_)
          ·skip
           refine wp_skip ?_
           refine then_n ?_
           refine wp_seq ?_
           refine wp_block ?_
           refine sr ?_
           refine w_mv (ev (.int .i64 8) s5_12 rfl) ?_
           refine w_val (y_bin (ev (.int .i64 8) rfl rfl) (evc (.int .i64 1)) (b_sub (by omega))) ?_
           refine w_as (ev (.int .i64 7) rfl rfl) ?_
           refine nt ?_
           refine wp_block ?_
           refine c_loop (fun dN aN wl => ∃ (b : Nat) (vf : Value) (we : Value), dN = (8 - b) ∧ ∃ f55, aN = fr 132 f55 ∧ (b ≤ 8) ∧ f55 0 = pt rp 0 ∧ f55 1 = .string (str s) ∧ f55 4 = .string (str ([] : List (BitVec 8))) ∧ f55 5 = we ∧ f55 6 = .int .i64 ((y : Nat) : Int) ∧ f55 7 = U64 ((BitVec.ofNat 64 s.length) * (8#64)) ∧ f55 8 = .int .i64 ((x : Nat) : Int) ∧ f55 9 = pt b_h 0 ∧ f55 10 = .int .i64 (((128 * t) : Nat) : Int) ∧ f55 11 = vf ∧ f55 12 = .int .i64 8 ∧ f55 13 = .int .i64 ((a : Nat) : Int) ∧ f55 14 = .int .i64 (7 - ((b : Nat) : Int)) ∧ Row wl rp 44 25 (Sha.rrow (.int .i64 512) (.int .i64 64) (.int .i64 128) (.int .i64 80) (.slice (some ⟨g, 0, none⟩) 80 cap) (Sha.H0 512) (fun i => U64 (BitVec.ofNat 64 (Sha.trn false i)))) ∧ Row wl g 39 80 (fun j => U64 (Sha.K false j)) ∧ Row wl b_18 5 1 (fun j => U8 (128#8)) ∧ Row wl b_h 40 8 (fun j => U64 (Sha.st 512 (gb (Sha.full 512 s)) (Sha.nb 512 s) j)) ∧ Own wl w0.heap.size 5 1 vf (8 * a + b) (fun j => U8 ((Sha.st 512 (gb (Sha.full 512 s)) (Sha.nb 512 s) (j / 8) >>> (8 * (7 - j % 8))).setWidth 8)) ∧ vf.ownBlock ≠ some rp ∧ vf.ownBlock ≠ some g ∧ vf.ownBlock ≠ some b_18 ∧ vf.ownBlock ≠ some b_h ∧ (∀ g, vf.ownBlock = some g → we.ownBlock ≠ some g) ∧ Own wl w0.heap.size 5 1 we (s.length + 1 + ((239 - s.length % 128) % 128) + 16) (fun j => U8 (gb (Sha.full 512 s) j)) ∧ we.ownBlock ≠ some rp ∧ we.ownBlock ≠ some g ∧ we.ownBlock ≠ some b_18 ∧ we.ownBlock ≠ some b_h ∧ (∀ g, we.ownBlock = some g → vf.ownBlock ≠ some g) ∧ Below w0.heap.size w0 wl) (8 - 0) ?_ ?_
           · exact ⟨0, ve, wd, rfl, _, rfl, iv, s5_0, s5_1, s5_4, (Eq.trans (b := wd) s5_5 (by first | with_reducible rfl | (with_reducible congr 1 <;> omega) | (with_reducible congr 2 <;> omega) | (with_reducible congr 3 <;> omega) | rfl)), s5_6, s5_7, s5_8, s5_9, s5_10, (Eq.trans (b := ve) s5_11 (by first | with_reducible rfl | (with_reducible congr 1 <;> omega) | (with_reducible congr 2 <;> omega) | (with_reducible congr 3 <;> omega) | rfl)), s5_12, s5_13, (Eq.trans (b := .int .i64 7) rfl (by rfl)), r_rp, r_g, r_b_18, r_b_h, (own_n (o_ve.cg) (by omega)), no_ve_rp, no_ve_g, no_ve_b_18, no_ve_b_h, sep_ve_wd, o_wd, no_wd_rp, no_wd_g, no_wd_b_18, no_wd_b_h, sep_wd_ve, hk⟩
           ·skip
            clear r_rp r_g r_b_18 r_b_h o_ve o_wd hk
            rintro _ _ w56 ⟨b, vf, we, rfl, f55, rfl, i6_0, s6_0, s6_1, s6_4, s6_5, s6_6, s6_7, s6_8, s6_9, s6_10, s6_11, s6_12, s6_13, s6_14, r_rp, r_g, r_b_18, r_b_h, o_vf, no_vf_rp, no_vf_g, no_vf_b_18, no_vf_b_h, sep_vf_we, o_we, no_we_rp, no_we_g, no_we_b_18, no_we_b_h, sep_we_vf, hk⟩
            refine wp_seq ?_
            refine sr ?_
            refine w_mv (ev (.int .i64 (7 - ((b : Nat) : Int))) s6_14 rfl) ?_
            refine w_val (y_bin (ev (.int .i64 (7 - ((b : Nat) : Int))) rfl rfl) (evc (.int .i64 0)) b_geq) ?_
            refine nt ?_
            refine c_if (p := 0 ≤ (7 - ((b : Nat) : Int))) (ev (.bool (decide (0 ≤ (7 - ((b : Nat) : Int))))) rfl rfl) (fun hc57 => ?_) (fun hc57 => ?_)
            ·skip
             refine wp_skip ?_
             refine then_n ?_
             refine wp_seq ?_
             refine wp_block ?_
             refine wp_region_lit ?_
             refine w_mv (ev vf s6_11 rfl) ?_
             refine w_mv (ev (.int .i64 ((a : Nat) : Int)) s6_13 rfl) ?_
             refine w_val (y_ia1z (i := a) (ev (pt b_h 0) s6_9 rfl) (ev (.int .i64 ((a : Nat) : Int)) rfl rfl) Tryd.underlying40 ShaST.sz39 (by omega) (by omega)) ?_
             refine w_val (v := U64 (Sha.st 512 (gb (Sha.full 512 s)) (Sha.nb 512 s) a)) (y_ld (ev (pt b_h a) rfl rfl) ShaST.sc39 (r_b_h.val (by omega) rfl)) ?_
             refine w_mv (ev (.int .i64 (7 - ((b : Nat) : Int))) s6_14 rfl) ?_
             refine w_val (y_bin (evc (.int .i64 8)) (ev (.int .i64 (7 - ((b : Nat) : Int))) rfl rfl) (b_mul (by omega))) ?_
             refine w_val (y_nat_u64 (p := (8 * (7 - b))) (ev (.int .i64 (8 * (7 - ((b : Nat) : Int)))) rfl rfl) (by omega) ShaST.so3 Tryd.underlying41) ?_
             refine w_val (y_bin (ev (U64 (Sha.st 512 (gb (Sha.full 512 s)) (Sha.nb 512 s) a)) rfl rfl) (ev (U64 (BitVec.ofNat 64 (8 * (7 - b)))) rfl rfl) (shr64 (c := (8 * (7 - b))) (by rw [BitVec.toNat_ofNat]; omega))) ?_
             refine w_val (y_u64_u8 (ev (U64 ((Sha.st 512 (gb (Sha.full 512 s)) (Sha.nb 512 s) a) >>> (8 * (7 - b)))) rfl rfl) ShaST.so39 Tryd.underlying5) ?_
             refine w_bs1 (m := 1) (e := 5) (F := fun j => U8 (((Sha.st 512 (gb (Sha.full 512 s)) (Sha.nb 512 s) a) >>> (8 * (7 - b))).setWidth 8)) (ev (U8 (((Sha.st 512 (gb (Sha.full 512 s)) (Sha.nb 512 s) a) >>> (8 * (7 - b))).setWidth 8)) rfl rfl) (fun w => by kernel_rfl) ?_
             intro b_123 w58 hbe_b_123 r_b_123 hb59
             have ne_rp_b_123 : rp ≠ b_123 := by have := r_rp.lt; omega
             have ne_g_b_123 : g ≠ b_123 := by have := r_g.lt; omega
             have ne_b_18_b_123 : b_18 ≠ b_123 := by have := r_b_18.lt; omega
             have ne_b_h_b_123 : b_h ≠ b_123 := by have := r_b_h.lt; omega
             have no_vf_b_123 : vf.ownBlock ≠ some b_123 := o_vf.apart (by omega)
             have no_we_b_123 : we.ownBlock ≠ some b_123 := o_we.apart (by omega)
             have ge_b_123 : w0.heap.size ≤ b_123 := by have := hk.size; omega
             clear hbe_b_123
             replace o_vf := o_vf.step hb59
             replace o_we := o_we.step hb59
             replace r_rp := r_rp.step hb59
             replace r_g := r_g.step hb59
             replace r_b_18 := r_b_18.step hb59
             replace r_b_h := r_b_h.step hb59
             replace hk := thenB hk hb59
             refine w_app (k := (8 * a + b)) (m := 1) (size := 1) (bytes := 1) (ev vf rfl rfl) (ev (.slice (some ⟨b_123, 0, none⟩) 1 1) rfl rfl) Tryd.underlying76 (by kernel_rfl) (by decide) o_vf hk.size r_b_123 (by omega) oca (by simp only [maxLen]; omega) (by omega) ?_
             intro v60 w61 o_v60 hg62 hv63
             have sep_we_v60 : ∀ g, we.ownBlock = some g → v60.ownBlock ≠ some g := sep_new sep_we_vf o_we hv63
             have sep_v60_we : ∀ g, v60.ownBlock = some g → we.ownBlock ≠ some g := sep_sym sep_we_v60
             replace o_we := o_we.stepO hg62 (sep_or sep_we_vf)
             have no_v60_rp := no_new no_vf_rp r_rp.lt hv63
             replace r_rp := r_rp.stepO hg62 no_vf_rp
             have no_v60_g := no_new no_vf_g r_g.lt hv63
             replace r_g := r_g.stepO hg62 no_vf_g
             have no_v60_b_18 := no_new no_vf_b_18 r_b_18.lt hv63
             replace r_b_18 := r_b_18.stepO hg62 no_vf_b_18
             have no_v60_b_h := no_new no_vf_b_h r_b_h.lt hv63
             replace r_b_h := r_b_h.stepO hg62 no_vf_b_h
             have no_v60_b_123 := no_new no_vf_b_123 r_b_123.lt hv63
             replace r_b_123 := r_b_123.stepO hg62 no_vf_b_123
             replace hk := thenO hk hg62 (fun g e => (o_vf.block_lt g e).2)
             clear o_vf
             refine w_as (ev v60 rfl rfl) ?_
             refine wpList_nil ?_
             refine inb_n ?_
             refine then_n ?_
             refine wp_region_lit ?_
             refine w_mv (ev (.int .i64 (7 - ((b : Nat) : Int))) s6_14 rfl) ?_
             refine w_val (y_bin (ev (.int .i64 (7 - ((b : Nat) : Int))) rfl rfl) (evc (.int .i64 1)) (b_sub (by omega))) ?_
             refine w_as (ev (.int .i64 ((7 - ((b : Nat) : Int)) - 1)) rfl rfl) ?_
             refine wpList_nil ?_
             exact then_n ⟨_, (by omega), b + 1, v60, we, rfl, _, rfl, iv, s6_0, s6_1, s6_4, s6_5, s6_6, s6_7, s6_8, s6_9, s6_10, rfl, s6_12, s6_13, (Eq.trans (b := .int .i64 ((7 - ((b : Nat) : Int)) - 1)) rfl (by congr 1; omega)), r_rp, r_g, r_b_18, r_b_h, (own_n (o_v60.congr (fun j hj => by (try dsimp only); by_cases e : j < (8 * a + b) * 1; (rw [if_pos e]); (rw [if_neg e]; exact congrArg U8 (by rw [show j / 8 = a from by omega, show j % 8 = b from by omega])))) (by omega)), no_v60_rp, no_v60_g, no_v60_b_18, no_v60_b_h, sep_v60_we, o_we, no_we_rp, no_we_g, no_we_b_18, no_we_b_h, sep_we_v60, hk⟩
            ·skip
             refine wp_exit ?_
             refine then_x ?_
             refine then_x ?_
             refine inb_x ?_
             refine inb_n ?_
             refine then_n ?_
             refine wp_region_lit ?_
             refine w_mv (ev (.int .i64 ((a : Nat) : Int)) s6_13 rfl) ?_
             refine w_val (y_bin (ev (.int .i64 ((a : Nat) : Int)) rfl rfl) (evc (.int .i64 1)) (b_add (by omega))) ?_
             refine w_as (ev (.int .i64 (((a : Nat) : Int) + 1)) rfl rfl) ?_
             refine wpList_nil ?_
             exact then_n ⟨_, (by omega), a + 1, vf, we, rfl, _, rfl, iv, s6_0, s6_1, s6_4, s6_5, s6_6, s6_7, s6_8, s6_9, s6_10, s6_11, s6_12, (etv (b := .int .i64 (((a : Nat) : Int) + 1)) rfl), r_rp, r_g, r_b_18, r_b_h, (own_n (o_vf.cg) (by omega)), no_vf_rp, no_vf_g, no_vf_b_18, no_vf_b_h, sep_vf_we, o_we, no_we_rp, no_we_g, no_we_b_18, no_we_b_h, sep_we_vf, hk⟩
          ·skip
           refine wp_exit ?_
           refine then_x ?_
           refine then_x ?_
           refine inb_x ?_
           refine then_n ?_
           refine wp_seq ?_
           obtain ⟨g64, cap64, hv64, ge_g64, hc_g64, hob_g64, r_g64⟩ := o_ve.opened (by omega)
           have ne_rp_g64 : rp ≠ g64 := fun e => no_ve_rp (by rw [hob_g64, e])
           have ne_g_g64 : g ≠ g64 := fun e => no_ve_g (by rw [hob_g64, e])
           have ne_b_18_g64 : b_18 ≠ g64 := fun e => no_ve_b_18 (by rw [hob_g64, e])
           have ne_b_h_g64 : b_h ≠ g64 := fun e => no_ve_b_h (by rw [hob_g64, e])
           have no_wd_g64 : wd.ownBlock ≠ some g64 := fun e => sep_wd_ve _ e hob_g64
           refine wp_region_lit ?_
           refine w_mv (ev ve s5_11 rfl) ?_
           refine w_mv (ev (pt rp 0) s5_0 rfl) ?_
           refine w_val (y_nc (ev (pt rp 0) rfl rfl)) ?_
           refine w_val (v := pt rp 1) (y_off (y_fa (ev (pt rp 0) rfl rfl) (ShaST.fa44_1 _ _)) (by first | rfl | omega)) ?_
           refine w_val (v := .int .i64 64) (y_ld (ev (pt rp 1) rfl rfl) ShaST.sc3 (r_rp.val (by omega) ((if_neg (by omega)).trans (etv (if_pos (by omega)))))) ?_
           refine w_val (v := .slice (some ⟨g64, 0, none⟩) 64 cap64) (y_slh (ev (.slice (some ⟨g64, 0, none⟩) (8 * a) cap64) (Eq.trans (b := ve) rfl hv64) rfl) (evo.s (ev (.int .i64 64) rfl rfl)) Tryd.underlying76 (bnd_h (h := 64) (by omega) (by omega)) ShaST.sz5) ?_
           refine w_val (y_str (l := Sha.sum 512 s) (ev (.slice (some ⟨g64, 0, none⟩) 64 cap64) rfl rfl) (by rw [Sha.length_sum]; rfl) Tryd.underlying76 Tryd.underlying5 Tryd.underlying9 (fun j hj => (r_g64.val (by omega) (by rw [Sha.gb_sum _ _ _ (show j < Sha.ol 512 from hj), Nat.zero_add]; rfl)))) ?_
           refine w_as (ev (.string (str (Sha.sum 512 s))) rfl rfl) ?_
           refine nt ?_
           refine wp_ret ?_
           refine fin_ret1 rfl (ev (.string (str (Sha.sum 512 s))) rfl rfl) ?_
           exact ⟨rfl, hk⟩
end Go.Proofs.YtieepglpejlkoaaDoor
