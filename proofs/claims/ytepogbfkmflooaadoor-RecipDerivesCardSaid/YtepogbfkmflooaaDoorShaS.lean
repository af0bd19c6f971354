/-
  Digests: the reference's Sum by a rule. Conditions as each says.
-/
import Derived.Test.YtepogbfkmflooaaDoorRows
import Derived.Test.YtepogbfkmflooaaDoorShaR
import Derived.Test.YtepogbfkmflooaaDoorGenSh
import Derived.ProofKit
namespace Go.Proofs.YtepogbfkmflooaaDoor
open Go.RowKit
set_option linter.unusedSimpArgs false
set_option linter.unusedVariables false
set_option maxRecDepth 100000
set_option maxHeartbeats 1000000
namespace ShaST
theorem mixed : Tryd.prog.follows .mixedOrders = true := by kernel_rfl
theorem ag88 : (Tryd.prog.underlying 88).map isAggD = some true := by rw [Tryd.underlying88]; rfl
theorem fa90_0 (g off : Nat) : ∀ w, (Instr.fieldAt 90 (.pointer (some ⟨g, off, none⟩)) 0).run Tryd.prog w = .ok (.pointer (some ⟨g, off + 0, none⟩)) w := fun w => by kernel_rfl
theorem fa90_1 (g off : Nat) : ∀ w, (Instr.fieldAt 90 (.pointer (some ⟨g, off, none⟩)) 1).run Tryd.prog w = .ok (.pointer (some ⟨g, off + 1, none⟩)) w := fun w => by kernel_rfl
theorem fa90_2 (g off : Nat) : ∀ w, (Instr.fieldAt 90 (.pointer (some ⟨g, off, none⟩)) 2).run Tryd.prog w = .ok (.pointer (some ⟨g, off + 2, none⟩)) w := fun w => by kernel_rfl
theorem fa90_3 (g off : Nat) : ∀ w, (Instr.fieldAt 90 (.pointer (some ⟨g, off, none⟩)) 3).run Tryd.prog w = .ok (.pointer (some ⟨g, off + 3, none⟩)) w := fun w => by kernel_rfl
theorem fa90_4 (g off : Nat) : ∀ w, (Instr.fieldAt 90 (.pointer (some ⟨g, off, none⟩)) 4).run Tryd.prog w = .ok (.pointer (some ⟨g, off + 4, none⟩)) w := fun w => by kernel_rfl
theorem fa90_5 (g off : Nat) : ∀ w, (Instr.fieldAt 90 (.pointer (some ⟨g, off, none⟩)) 5).run Tryd.prog w = .ok (.pointer (some ⟨g, off + 5, none⟩)) w := fun w => by kernel_rfl
theorem fa90_6 (g off : Nat) : ∀ w, (Instr.fieldAt 90 (.pointer (some ⟨g, off, none⟩)) 6).run Tryd.prog w = .ok (.pointer (some ⟨g, off + 13, none⟩)) w := fun w => by kernel_rfl
theorem sc3 : (Tryd.prog.underlying 3).map scal = some true := by rw [Tryd.underlying3]; rfl
theorem sc58 : (Tryd.prog.underlying 58).map scal = some true := by rw [Tryd.underlying58]; rfl
theorem sc85 : (Tryd.prog.underlying 85).map scal = some true := by rw [Tryd.underlying85]; rfl
theorem sc87 : (Tryd.prog.underlying 87).map scal = some true := by rw [Tryd.underlying87]; rfl
theorem so3 : (Tryd.prog.underlying 3).isSome = true := by rw [Tryd.underlying3]; rfl
theorem so5 : (Tryd.prog.underlying 5).isSome = true := by rw [Tryd.underlying5]; rfl
theorem so58 : (Tryd.prog.underlying 58).isSome = true := by rw [Tryd.underlying58]; rfl
theorem sz5 : (Tryd.prog.info? 5).map (·.size) = some 1 := by kernel_rfl
theorem sz58 : (Tryd.prog.info? 58).map (·.size) = some 1 := by kernel_rfl
theorem sz85 : (Tryd.prog.info? 85).map (·.size) = some 1 := by kernel_rfl
theorem sz88 : (Tryd.prog.info? 88).map (·.size) = some 8 := by kernel_rfl
end ShaST
theorem ruleSum_256 (rp g cap : Nat) (s : List (BitVec 8)) (hs : s.length ≤ 1099511627776) (w0 : World) (r_rp : Row w0 rp 90 25 (Sha.rrow (.int .i64 256) (.int .i64 32) (.int .i64 64) (.int .i64 64) (.slice (some ⟨g, 0, none⟩) 64 cap) (Sha.H0 256) (fun i => U64 (BitVec.ofNat 64 (Sha.trn true i))))) (r_g : Row w0 g 58 64 (fun j => U64 (Sha.K true j))) : Calls Tryd.prog 58 #[pt rp 0, .string (str s)] w0 fun e w' => e = .returned (.string (str (Sha.sum 256 s))) ∧ Below w0.heap.size w0 w' := by
 have hpl : Sha.padl 256 s.length = ((119 - s.length % 64) % 64) + 1 + 8 := by rw [Sha.padl_eq 256 64 _ rfl]
 have hnb : 64 * Sha.nb 256 s = s.length + Sha.padl 256 s.length := by have h := Sha.length_full 256 s; unfold Sha.full at h; rw [List.length_append, Sha.length_pad] at h; exact h.symm
 have hfl : (Sha.full 256 s).length = 64 * Sha.nb 256 s := Sha.length_full 256 s
 refine enter (n := 132) Tryd.func58 rfl rfl rfl ?_
 have hk : Below w0.heap.size w0 w0 := Below.refl _ _
 have lt_rp := r_rp.lt
 have lt_g := r_g.lt
 refine sr (w_as (evc (.string (str ([] : List (BitVec 8))))) (nt (sr (w_mv es (w_bytes_own es Tryd.underlying9 Tryd.underlying63 Tryd.underlying5 (by simp only [maxLen]; omega) hk.size ?_)))))
 intro v1 w2 o_v1 hv4 hb3
 have no_v1_rp : v1.ownBlock ≠ some rp := fun e1 => by rw [hv4] at e1; injection e1 with e1; have := r_rp.lt; omega
 have no_v1_g : v1.ownBlock ≠ some g := fun e1 => by rw [hv4] at e1; injection e1 with e1; have := r_g.lt; omega
 replace r_rp := r_rp.step hb3
 replace r_g := r_g.step hb3
 replace hk := thenB hk hb3
 refine w_as (ex v1) (nt (sr (w_mv (ex v1) (w_bs1 (m := 1) (e := 5) (F := fun j => U8 (128#8)) (evc (U8 (128#8))) (fun w => by kernel_rfl) ?_))))
 intro b_18 w5 hbe_b_18 r_b_18 hb6
 have ne_rp_b_18 := r_rp.nb hbe_b_18
 have ne_g_b_18 := r_g.nb hbe_b_18
 have no_v1_b_18 : v1.ownBlock ≠ some b_18 := o_v1.apart om
 have ge_b_18 := gb_ hk.size hbe_b_18
 clear hbe_b_18
 replace o_v1 := o_v1.step hb6
 replace r_rp := r_rp.step hb6
 replace r_g := r_g.step hb6
 replace hk := thenB hk hb6
 refine w_app (k := s.length) (m := 1) (size := 1) (bytes := 1) (ex v1) el Tryd.underlying63 kr (by decide) o_v1 hk.size r_b_18 om oca (by simp only [maxLen]; omega) om ?_
 intro v7 w8 o_v7 hg9 hv10
 have no_v7_rp := no_new no_v1_rp r_rp.lt hv10
 replace r_rp := r_rp.stepO hg9 no_v1_rp
 have no_v7_g := no_new no_v1_g r_g.lt hv10
 replace r_g := r_g.stepO hg9 no_v1_g
 have no_v7_b_18 := no_new no_v1_b_18 r_b_18.lt hv10
 replace r_b_18 := r_b_18.stepO hg9 no_v1_b_18
 replace hk := thenO hk hg9 (fun g e => (o_v1.block_lt g e).2)
 clear o_v1
 refine w_as (ex v7) (nt (wp_seq (wp_block ?_)))
 refine c_loop (fun dN aN wl => ∃ (z : Nat) (va : Value), dN = (((119 - s.length % 64) % 64) - z) ∧ ∃ f11, aN = fr 132 f11 ∧ (z ≤ ((119 - s.length % 64) % 64)) ∧ f11 0 = pt rp 0 ∧ f11 1 = .string (str s) ∧ f11 4 = .string (str ([] : List (BitVec 8))) ∧ f11 5 = va ∧ Row wl rp 90 25 (Sha.rrow (.int .i64 256) (.int .i64 32) (.int .i64 64) (.int .i64 64) (.slice (some ⟨g, 0, none⟩) 64 cap) (Sha.H0 256) (fun i => U64 (BitVec.ofNat 64 (Sha.trn true i)))) ∧ Row wl g 58 64 (fun j => U64 (Sha.K true j)) ∧ Row wl b_18 5 1 (fun j => U8 (128#8)) ∧ Own wl w0.heap.size 5 1 va (s.length + 1 + z) (fun j => U8 (gb (Sha.full 256 s) j)) ∧ va.ownBlock ≠ some rp ∧ va.ownBlock ≠ some g ∧ va.ownBlock ≠ some b_18 ∧ Below w0.heap.size w0 wl) (((119 - s.length % 64) % 64) - 0) ?_ ?_
 · exact ⟨0, v7, rfl, _, rfl, iv, rfl, rfl, rfl, (etv (b := v7) rfl), r_rp, r_g, r_b_18, (own_n (o_v7.congr (fun j hj => by (try dsimp only); by_cases e : j < s.length * 1; (rw [if_pos e, Sha.gb_full_lo _ _ _ om]); (rw [if_neg e]; exact congrArg U8 (Sha.full_80 256 s j om)))) om), no_v7_rp, no_v7_g, no_v7_b_18, hk⟩
 ·skip
  clear r_rp r_g r_b_18 o_v7 hk
  rintro _ _ w12 ⟨z, va, rfl, f11, rfl, i1_0, s1_0, s1_1, s1_4, s1_5, r_rp, r_g, r_b_18, o_va, no_va_rp, no_va_g, no_va_b_18, hk⟩
  refine ss (region_q ShaST.mixed kr (q_mv (ex va s1_5) (q_val (v := .int .i64 (((s.length + 1 + z) : Nat) : Int)) (fun w' hw' => y_len_own (ex va) o_va Tryd.underlying63) (q_mv (ex (pt rp 0) s1_0) (q_val (fun w' hw' => y_nc (ex (pt rp 0))) (q_val (v := pt rp 2) (fun w' hw' => y_off (y_fa (ex (pt rp 0)) (ShaST.fa90_2 _ _)) ro) (q_val (v := .int .i64 64) (fun w' hw' => y_ld (ex (pt rp 2)) ShaST.sc3 (cls_cell (r_rp.val om (ng (ng pz))) r_rp.lt w' hw')) (q_val (fun w' hw' => y_bin ei ei (b_rem om)) (q_mv (ex (pt rp 0) s1_0) (q_val (fun w' hw' => y_nc (ex (pt rp 0))) (q_val (v := pt rp 2) (fun w' hw' => y_off (y_fa (ex (pt rp 0)) (ShaST.fa90_2 _ _)) ro) (q_val (v := .int .i64 64) (fun w' hw' => y_ld (ex (pt rp 2)) ShaST.sc3 (cls_cell (r_rp.val om (ng (ng pz))) r_rp.lt w' hw')) (q_mv (ex (pt rp 0) s1_0) (q_val (fun w' hw' => y_nc (ex (pt rp 0))) (q_val (v := pt rp 2) (fun w' hw' => y_off (y_fa (ex (pt rp 0)) (ShaST.fa90_2 _ _)) ro) (q_val (v := .int .i64 64) (fun w' hw' => y_ld (ex (pt rp 2)) ShaST.sc3 (cls_cell (r_rp.val om (ng (ng pz))) r_rp.lt w' hw')) (q_val (fun w' hw' => y_bin ei Ev.c (b_quo om)) (q_val (fun w' hw' => y_bin ei ei (b_sub om)) (q_val (fun w' hw' => y_bin ei ei b_neq) (q_nil ?_))))))))))))))))))))
  intro w13 hb14
  replace o_va := o_va.step hb14
  replace r_rp := r_rp.step hb14
  replace r_g := r_g.step hb14
  replace r_b_18 := r_b_18.step hb14
  replace hk := thenB hk hb14
  refine then_n ?_
  refine c_if (p := ((((s.length + 1 + z) : Nat) : Int) % 64) ≠ 56) eb (fun hc15 => ?_) (fun hc15 => ?_)
  ·skip
   refine wp_skip (then_n (wp_block (wp_region_lit (w_mv (ex va s1_5) (w_bs1 (m := 1) (e := 5) (F := fun j => U8 (0#8)) (evc (U8 (0#8))) (fun w => by kernel_rfl) ?_)))))
   intro b_39 w16 hbe_b_39 r_b_39 hb17
   have ne_rp_b_39 := r_rp.nb hbe_b_39
   have ne_g_b_39 := r_g.nb hbe_b_39
   have ne_b_18_b_39 := r_b_18.nb hbe_b_39
   have no_va_b_39 : va.ownBlock ≠ some b_39 := o_va.apart om
   have ge_b_39 := gb_ hk.size hbe_b_39
   clear hbe_b_39
   replace o_va := o_va.step hb17
   replace r_rp := r_rp.step hb17
   replace r_g := r_g.step hb17
   replace r_b_18 := r_b_18.step hb17
   replace hk := thenB hk hb17
   refine w_app (k := (s.length + 1 + z)) (m := 1) (size := 1) (bytes := 1) (ex va) el Tryd.underlying63 kr (by decide) o_va hk.size r_b_39 om oca (by simp only [maxLen]; omega) om ?_
   intro v18 w19 o_v18 hg20 hv21
   have no_v18_rp := no_new no_va_rp r_rp.lt hv21
   replace r_rp := r_rp.stepO hg20 no_va_rp
   have no_v18_g := no_new no_va_g r_g.lt hv21
   replace r_g := r_g.stepO hg20 no_va_g
   have no_v18_b_18 := no_new no_va_b_18 r_b_18.lt hv21
   replace r_b_18 := r_b_18.stepO hg20 no_va_b_18
   have no_v18_b_39 := no_new no_va_b_39 r_b_39.lt hv21
   replace r_b_39 := r_b_39.stepO hg20 no_va_b_39
   replace hk := thenO hk hg20 (fun g e => (o_va.block_lt g e).2)
   clear o_va
   refine w_as (ex v18) (wpList_nil (inb_n ?_))
   exact then_n ⟨_, om, z + 1, v18, rfl, _, rfl, iv, s1_0, s1_1, s1_4, rfl, r_rp, r_g, r_b_18, (own_n (o_v18.congr (fun j hj => by (try dsimp only); by_cases e : j < (s.length + 1 + z) * 1; (rw [if_pos e]); (rw [if_neg e]; exact congrArg U8 (Sha.full_0 256 s j om om)))) om), no_v18_rp, no_v18_g, no_v18_b_18, hk⟩
  ·skip
   refine wp_exit (then_x (then_x (inb_x (then_n (wp_seq (sr (w_as Ev.c (nt (wp_block ?_)))))))))
   refine c_loop (fun dN aN wl => ∃ (y : Nat) (vb : Value), dN = (0 - y) ∧ ∃ f22, aN = fr 132 f22 ∧ (y ≤ 0) ∧ f22 0 = pt rp 0 ∧ f22 1 = .string (str s) ∧ f22 4 = .string (str ([] : List (BitVec 8))) ∧ f22 5 = vb ∧ f22 6 = .int .i64 ((y : Nat) : Int) ∧ Row wl rp 90 25 (Sha.rrow (.int .i64 256) (.int .i64 32) (.int .i64 64) (.int .i64 64) (.slice (some ⟨g, 0, none⟩) 64 cap) (Sha.H0 256) (fun i => U64 (BitVec.ofNat 64 (Sha.trn true i)))) ∧ Row wl g 58 64 (fun j => U64 (Sha.K true j)) ∧ Row wl b_18 5 1 (fun j => U8 (128#8)) ∧ Own wl w0.heap.size 5 1 vb (s.length + 1 + ((119 - s.length % 64) % 64) + y) (fun j => U8 (gb (Sha.full 256 s) j)) ∧ vb.ownBlock ≠ some rp ∧ vb.ownBlock ≠ some g ∧ vb.ownBlock ≠ some b_18 ∧ Below w0.heap.size w0 wl) (0 - 0) ?_ ?_
   · exact ⟨0, va, rfl, _, rfl, iv, s1_0, s1_1, s1_4, (Eq.trans (b := va) s1_5 dv), ti, r_rp, r_g, r_b_18, (own_n (o_va.cg) om), no_va_rp, no_va_g, no_va_b_18, hk⟩
   ·skip
    clear r_rp r_g r_b_18 o_va hk
    rintro _ _ w23 ⟨y, vb, rfl, f22, rfl, i2_0, s2_0, s2_1, s2_4, s2_5, s2_6, r_rp, r_g, r_b_18, o_vb, no_vb_rp, no_vb_g, no_vb_b_18, hk⟩
    refine wp_seq (sr (w_mv (ei s2_6) (w_mv (ex (pt rp 0) s2_0) (w_val (y_nc (ex (pt rp 0))) (w_val (v := pt rp 2) (y_off (y_fa (ex (pt rp 0)) (ShaST.fa90_2 _ _)) ro) (w_val (v := .int .i64 64) (y_ld (ex (pt rp 2)) ShaST.sc3 (r_rp.val om (ng (ng pz)))) (w_val (y_bin ei Ev.c (b_quo om)) (w_val (y_bin ei Ev.c (b_sub om)) (w_val (y_bin ei ei b_lss) (nt ?_))))))))))
    refine c_if (p := ((y : Nat) : Int) < 0) eb (fun hc24 => ?_) (fun hc24 => ?_)
    ·skip
     refine wp_skip (then_n (wp_seq (wp_block (wp_region_lit (w_mv (ex vb s2_5) (w_bs1 (m := 1) (e := 5) (F := fun j => U8 (0#8)) (evc (U8 (0#8))) (fun w => by kernel_rfl) ?_))))))
     intro b_52 w25 hbe_b_52 r_b_52 hb26
     have ne_rp_b_52 := r_rp.nb hbe_b_52
     have ne_g_b_52 := r_g.nb hbe_b_52
     have ne_b_18_b_52 := r_b_18.nb hbe_b_52
     have no_vb_b_52 : vb.ownBlock ≠ some b_52 := o_vb.apart om
     have ge_b_52 := gb_ hk.size hbe_b_52
     clear hbe_b_52
     replace o_vb := o_vb.step hb26
     replace r_rp := r_rp.step hb26
     replace r_g := r_g.step hb26
     replace r_b_18 := r_b_18.step hb26
     replace hk := thenB hk hb26
     refine w_app (k := (s.length + 1 + ((119 - s.length % 64) % 64) + y)) (m := 1) (size := 1) (bytes := 1) (ex vb) el Tryd.underlying63 kr (by decide) o_vb hk.size r_b_52 om oca (by simp only [maxLen]; omega) om ?_
     intro v27 w28 o_v27 hg29 hv30
     have no_v27_rp := no_new no_vb_rp r_rp.lt hv30
     replace r_rp := r_rp.stepO hg29 no_vb_rp
     have no_v27_g := no_new no_vb_g r_g.lt hv30
     replace r_g := r_g.stepO hg29 no_vb_g
     have no_v27_b_18 := no_new no_vb_b_18 r_b_18.lt hv30
     replace r_b_18 := r_b_18.stepO hg29 no_vb_b_18
     have no_v27_b_52 := no_new no_vb_b_52 r_b_52.lt hv30
     replace r_b_52 := r_b_52.stepO hg29 no_vb_b_52
     replace hk := thenO hk hg29 (fun g e => (o_vb.block_lt g e).2)
     clear o_vb
     refine w_as (ex v27) (wpList_nil (inb_n (then_n (wp_region_lit (w_mv (ei s2_6) (w_val (y_bin ei Ev.c (b_add om)) (w_as ei (wpList_nil ?_))))))))
     exact then_n ⟨_, om, y + 1, v27, rfl, _, rfl, iv, s2_0, s2_1, s2_4, rfl, ti, r_rp, r_g, r_b_18, (own_n (o_v27.congr (fun j hj => by first | (exfalso; omega) | ((try dsimp only); by_cases e : j < (s.length + 1 + ((119 - s.length % 64) % 64) + y) * 1; (rw [if_pos e]); (rw [if_neg e]; exact congrArg U8 (Sha.full_0 256 s j om om))))) om), no_v27_rp, no_v27_g, no_v27_b_18, hk⟩
    ·skip
     refine wp_exit (then_x (then_x (inb_x (then_n (sr (w_mv (es s2_1) (w_val (y_len es Tryd.underlying9) (w_val (y_nat_u64 (p := s.length) ei om ShaST.so3 Tryd.underlying58) (w_val (y_bin e6 (evc (U64 (8#64))) mul64) (w_as e6 (nt (wp_seq (sr (w_as Ev.c (nt (wp_block ?_))))))))))))))))
     refine c_loop (fun dN aN wl => ∃ (x : Nat) (vc : Value), dN = (8 - x) ∧ ∃ f31, aN = fr 132 f31 ∧ (x ≤ 8) ∧ f31 0 = pt rp 0 ∧ f31 4 = .string (str ([] : List (BitVec 8))) ∧ f31 5 = vc ∧ f31 7 = U64 ((BitVec.ofNat 64 s.length) * (8#64)) ∧ f31 8 = .int .i64 ((x : Nat) : Int) ∧ Row wl rp 90 25 (Sha.rrow (.int .i64 256) (.int .i64 32) (.int .i64 64) (.int .i64 64) (.slice (some ⟨g, 0, none⟩) 64 cap) (Sha.H0 256) (fun i => U64 (BitVec.ofNat 64 (Sha.trn true i)))) ∧ Row wl g 58 64 (fun j => U64 (Sha.K true j)) ∧ Row wl b_18 5 1 (fun j => U8 (128#8)) ∧ Own wl w0.heap.size 5 1 vc (s.length + 1 + ((119 - s.length % 64) % 64) + 0 + x) (fun j => U8 (gb (Sha.full 256 s) j)) ∧ vc.ownBlock ≠ some rp ∧ vc.ownBlock ≠ some g ∧ vc.ownBlock ≠ some b_18 ∧ Below w0.heap.size w0 wl) (8 - 0) ?_ ?_
     · exact ⟨0, vb, rfl, _, rfl, iv, s2_0, s2_4, (Eq.trans (b := vb) s2_5 dv), rfl, ti, r_rp, r_g, r_b_18, (own_n (o_vb.cg) om), no_vb_rp, no_vb_g, no_vb_b_18, hk⟩
     ·skip
      clear r_rp r_g r_b_18 o_vb hk
      rintro _ _ w32 ⟨x, vc, rfl, f31, rfl, i3_0, s3_0, s3_4, s3_5, s3_7, s3_8, r_rp, r_g, r_b_18, o_vc, no_vc_rp, no_vc_g, no_vc_b_18, hk⟩
      refine wp_seq (sr (w_mv (ei s3_8) (w_val (y_bin ei Ev.c b_lss) (nt ?_))))
      refine c_if (p := ((x : Nat) : Int) < 8) eb (fun hc33 => ?_) (fun hc33 => ?_)
      ·skip
       refine wp_skip (then_n (wp_seq (wp_block (wp_region_lit (w_mv (ex vc s3_5) (w_mv (e6 s3_7) (w_mv (ei s3_8) (w_val (y_bin Ev.c ei (b_mul om)) (w_val (y_bin Ev.c ei (b_sub om)) (w_val (y_nat_u64 (p := (56 - (8 * x))) ei om ShaST.so3 Tryd.underlying85) (w_val (y_bin e6 e6 (shr64 (c := (56 - (8 * x))) (by rw [BitVec.toNat_ofNat]; omega))) (w_val (y_u64_u8 e6 ShaST.so58 Tryd.underlying5) (w_bs1 (m := 1) (e := 5) (F := fun j => U8 ((((BitVec.ofNat 64 s.length) * (8#64)) >>> (56 - (8 * x))).setWidth 8)) e8 (fun w => by kernel_rfl) ?_)))))))))))))
       intro b_70 w34 hbe_b_70 r_b_70 hb35
       have ne_rp_b_70 := r_rp.nb hbe_b_70
       have ne_g_b_70 := r_g.nb hbe_b_70
       have ne_b_18_b_70 := r_b_18.nb hbe_b_70
       have no_vc_b_70 : vc.ownBlock ≠ some b_70 := o_vc.apart om
       have ge_b_70 := gb_ hk.size hbe_b_70
       clear hbe_b_70
       replace o_vc := o_vc.step hb35
       replace r_rp := r_rp.step hb35
       replace r_g := r_g.step hb35
       replace r_b_18 := r_b_18.step hb35
       replace hk := thenB hk hb35
       refine w_app (k := (s.length + 1 + ((119 - s.length % 64) % 64) + 0 + x)) (m := 1) (size := 1) (bytes := 1) (ex vc) el Tryd.underlying63 kr (by decide) o_vc hk.size r_b_70 om oca (by simp only [maxLen]; omega) om ?_
       intro v36 w37 o_v36 hg38 hv39
       have no_v36_rp := no_new no_vc_rp r_rp.lt hv39
       replace r_rp := r_rp.stepO hg38 no_vc_rp
       have no_v36_g := no_new no_vc_g r_g.lt hv39
       replace r_g := r_g.stepO hg38 no_vc_g
       have no_v36_b_18 := no_new no_vc_b_18 r_b_18.lt hv39
       replace r_b_18 := r_b_18.stepO hg38 no_vc_b_18
       have no_v36_b_70 := no_new no_vc_b_70 r_b_70.lt hv39
       replace r_b_70 := r_b_70.stepO hg38 no_vc_b_70
       replace hk := thenO hk hg38 (fun g e => (o_vc.block_lt g e).2)
       clear o_vc
       refine w_as (ex v36) (wpList_nil (inb_n (then_n (wp_region_lit (w_mv (ei s3_8) (w_val (y_bin ei Ev.c (b_add om)) (w_as ei (wpList_nil ?_))))))))
       exact then_n ⟨_, om, x + 1, v36, rfl, _, rfl, iv, s3_0, s3_4, rfl, s3_7, ti, r_rp, r_g, r_b_18, (own_n (o_v36.congr (fun j hj => by (try dsimp only); by_cases e : j < (s.length + 1 + ((119 - s.length % 64) % 64) + 0 + x) * 1; (rw [if_pos e]); (rw [if_neg e]; exact congrArg U8 (Sha.full_n 256 s x j om om)))) om), no_v36_rp, no_v36_g, no_v36_b_18, hk⟩
      ·skip
       refine wp_exit (then_x (then_x (inb_x (then_n (sr (w_mv (ex (pt rp 0) s3_0) (w_val (y_nc (ex (pt rp 0))) (w_val (v := pt rp 5) (y_off (y_fa (ex (pt rp 0)) (ShaST.fa90_5 _ _)) ro) (w_val (v := .agg (arr 8 (fun j => U64 ((Sha.H0 256) j)))) (y_lda (ex (pt rp 5)) ShaST.ag88 ShaST.sz88 (fun j hj => (r_rp.val om (by first | with_reducible rfl | exact (ng (ng (ng (ng (ng pz))))))))) (w_alloc (m := 8) (F := fun j => U64 (0#64)) kr ?_))))))))))
       intro b_h w40 hbe_b_h r_b_h hb41
       have ne_rp_b_h := r_rp.nb hbe_b_h
       have ne_g_b_h := r_g.nb hbe_b_h
       have ne_b_18_b_h := r_b_18.nb hbe_b_h
       have no_vc_b_h : vc.ownBlock ≠ some b_h := o_vc.apart om
       have ge_b_h := gb_ hk.size hbe_b_h
       clear hbe_b_h
       replace o_vc := o_vc.step hb41
       replace r_rp := r_rp.step hb41
       replace r_g := r_g.step hb41
       replace r_b_18 := r_b_18.step hb41
       replace hk := thenB hk hb41
       refine w_sta (k := 8) (G := fun j => U64 ((Sha.H0 256) j)) (ex (pt b_h 0)) ea oc ShaST.sz88 r_b_h om ?_
       clear r_b_h; intro w42 r_b_h hg43 _
       replace r_b_h := r_b_h.congr (g := fun j => U64 ((Sha.H0 256) j)) (fun j hj => by rw [if_pos ⟨Nat.zero_le _, by omega⟩]; first | rfl | (simp only [Nat.sub_zero]))
       replace o_vc := o_vc.stepG hg43 no_vc_b_h
       replace r_rp := r_rp.stepG hg43 om
       replace r_g := r_g.stepG hg43 om
       replace r_b_18 := r_b_18.stepG hg43 om
       replace hk := thenG hk hg43 om
       refine nt (wp_seq (sr (w_as Ev.c (nt (wp_block ?_)))))
       refine c_loop (fun dN aN wl => ∃ (t : Nat) (vd : Value), dN = (Sha.nb 256 s - t) ∧ ∃ f44, aN = fr 132 f44 ∧ (t ≤ Sha.nb 256 s) ∧ f44 0 = pt rp 0 ∧ f44 4 = .string (str ([] : List (BitVec 8))) ∧ f44 5 = vd ∧ f44 9 = pt b_h 0 ∧ f44 10 = .int .i64 (((64 * t) : Nat) : Int) ∧ Row wl rp 90 25 (Sha.rrow (.int .i64 256) (.int .i64 32) (.int .i64 64) (.int .i64 64) (.slice (some ⟨g, 0, none⟩) 64 cap) (Sha.H0 256) (fun i => U64 (BitVec.ofNat 64 (Sha.trn true i)))) ∧ Row wl g 58 64 (fun j => U64 (Sha.K true j)) ∧ Row wl b_18 5 1 (fun j => U8 (128#8)) ∧ Row wl b_h 88 8 (fun j => U64 (Sha.st 256 (gb (Sha.full 256 s)) t j)) ∧ Own wl w0.heap.size 5 1 vd (s.length + 1 + ((119 - s.length % 64) % 64) + 8) (fun j => U8 (gb (Sha.full 256 s) j)) ∧ vd.ownBlock ≠ some rp ∧ vd.ownBlock ≠ some g ∧ vd.ownBlock ≠ some b_18 ∧ vd.ownBlock ≠ some b_h ∧ Below w0.heap.size w0 wl) (Sha.nb 256 s - 0) ?_ ?_
       · exact ⟨0, vc, rfl, _, rfl, iv, s3_0, s3_4, (Eq.trans (b := vc) s3_5 dv), rfl, (Eq.trans (b := .int .i64 0) rfl (by rfl)), r_rp, r_g, r_b_18, (r_b_h.congr (fun j hj => by rfl)), (own_n (o_vc.cg) om), no_vc_rp, no_vc_g, no_vc_b_18, no_vc_b_h, hk⟩
       ·skip
        clear r_rp r_g r_b_18 r_b_h o_vc hk
        rintro _ _ w45 ⟨t, vd, rfl, f44, rfl, i4_0, s4_0, s4_4, s4_5, s4_9, s4_10, r_rp, r_g, r_b_18, r_b_h, o_vd, no_vd_rp, no_vd_g, no_vd_b_18, no_vd_b_h, hk⟩
        have hlt : t < Sha.nb 256 s → (((Sha.full 256 s).drop (64 * t)).take 64).length = 64 := fun h => by rw [List.length_take, List.length_drop, hfl]; omega
        refine wp_seq (sr (w_mv (ei s4_10) (w_mv (ex vd s4_5) (w_val (v := .int .i64 (((s.length + 1 + ((119 - s.length % 64) % 64) + 8) : Nat) : Int)) (y_len_own (ex vd) o_vd Tryd.underlying63) (w_val (y_bin ei ei b_lss) (nt ?_))))))
        refine c_if (p := (((64 * t) : Nat) : Int) < (((s.length + 1 + ((119 - s.length % 64) % 64) + 8) : Nat) : Int)) eb (fun hc46 => ?_) (fun hc46 => ?_)
        ·skip
         refine wp_skip (then_n (wp_seq (wp_block ?_)))
         obtain ⟨g47, cap47, hv47, ge_g47, hc_g47, hob_g47, r_g47⟩ := o_vd.opened om
         have ne_rp_g47 : rp ≠ g47 := fun e => no_vd_rp (by rw [hob_g47, e])
         have ne_g_g47 : g ≠ g47 := fun e => no_vd_g (by rw [hob_g47, e])
         have ne_b_18_g47 : b_18 ≠ g47 := fun e => no_vd_b_18 (by rw [hob_g47, e])
         have ne_b_h_g47 : b_h ≠ g47 := fun e => no_vd_b_h (by rw [hob_g47, e])
         refine region_t 13 ShaST.mixed kr ?_
         simp only [List.take_succ_cons, List.take_zero, List.drop_succ_cons, List.drop_zero]
         refine q_mv (ex (pt rp 0) s4_0) (q_val (v := .agg (arr 8 (fun j => U64 (Sha.st 256 (gb (Sha.full 256 s)) t j)))) (fun w' hw' => y_lda (ex (pt b_h 0) s4_9) ShaST.ag88 ShaST.sz88 (fun j hj => by rw [Nat.zero_add]; exact (cls_cell (r_b_h.cell om) r_b_h.lt w' hw'))) (q_mv (ex vd s4_5) (q_mv (ei s4_10) (q_mv (ei s4_10) (q_mv (ex (pt rp 0) s4_0) (q_val (fun w' hw' => y_nc (ex (pt rp 0))) (q_val (v := pt rp 2) (fun w' hw' => y_off (y_fa (ex (pt rp 0)) (ShaST.fa90_2 _ _)) ro) (q_val (v := .int .i64 64) (fun w' hw' => y_ld (ex (pt rp 2)) ShaST.sc3 (cls_cell (r_rp.val om (ng (ng pz))) r_rp.lt w' hw')) (q_val (fun w' hw' => y_bin ei ei (b_add om)) (q_val (v := .slice (some ⟨g47, (64 * t), none⟩) (((64 * t) + 64) - (64 * t)) (cap47 - (64 * t))) (fun w' hw' => y_sloff (y_slv (ex (.slice (some ⟨g47, 0, none⟩) (s.length + 1 + ((119 - s.length % 64) % 64) + 8) cap47) (Eq.trans (b := vd) rfl hv47)) (evo.s ei) (evo.s ei) Tryd.underlying63 ShaST.sz5 (bnd_lh (l := (64 * t)) (h := ((64 * t) + 64)) om om om om) om) ro rfl) (q_val (fun w' hw' => y_str (l := ((Sha.full 256 s).drop (64 * t)).take 64) el (by rw [List.length_take, List.length_drop, hfl]; omega) Tryd.underlying63 Tryd.underlying5 Tryd.underlying9 (fun j hj => (cls_cell (r_g47.val om (by rw [gb_take _ _ _ (show j < 64 by omega), gb_drop])) r_g47.lt w' hw'))) (q_call (v := .agg (arr 8 (fun j => U64 (Sha.comp true (gb (((Sha.full 256 s).drop (64 * t)).take 64)) (Sha.st 256 (gb (Sha.full 256 s)) t) j)))) (Tryd.func78) kr rfl (m3 (ex (pt rp 0)) ea es) (fun w' hw' => block_t rp 32 g cap (Sha.H0 256) (Sha.st 256 (gb (Sha.full 256 s)) t) (((Sha.full 256 s).drop (64 * t)).take 64) (hlt om) w' (r_rp.step hw') (r_g.step hw')) (q_nil ?_)))))))))))))
         intro w48 hb49
         replace o_vd := o_vd.step hb49
         replace r_rp := r_rp.step hb49
         replace r_g := r_g.step hb49
         replace r_b_18 := r_b_18.step hb49
         replace r_b_h := r_b_h.step hb49
         replace r_g47 := r_g47.step hb49
         replace hk := thenB hk hb49
         refine w_sta (k := 8) (G := fun j => U64 (Sha.comp true (gb (((Sha.full 256 s).drop (64 * t)).take 64)) (Sha.st 256 (gb (Sha.full 256 s)) t) j)) (ex (pt b_h 0) s4_9) ea oc ShaST.sz88 r_b_h om ?_
         clear r_b_h; intro w50 r_b_h hg51 _
         replace r_b_h := r_b_h.congr (g := fun j => U64 (Sha.comp true (gb (((Sha.full 256 s).drop (64 * t)).take 64)) (Sha.st 256 (gb (Sha.full 256 s)) t) j)) (fun j hj => by rw [if_pos ⟨Nat.zero_le _, by omega⟩]; first | rfl | (simp only [Nat.sub_zero]))
         replace o_vd := o_vd.stepG hg51 no_vd_b_h
         replace r_rp := r_rp.stepG hg51 om
         replace r_g := r_g.stepG hg51 om
         replace r_b_18 := r_b_18.stepG hg51 om
         replace r_g47 := r_g47.stepG hg51 om
         replace hk := thenG hk hg51 om
         refine wpList_nil (inb_n (then_n (wp_region_lit (w_mv (ei s4_10) (w_mv (ex (pt rp 0) s4_0) (w_val (y_nc (ex (pt rp 0))) (w_val (v := pt rp 2) (y_off (y_fa (ex (pt rp 0)) (ShaST.fa90_2 _ _)) ro) (w_val (v := .int .i64 64) (y_ld (ex (pt rp 2)) ShaST.sc3 (r_rp.val om (ng (ng pz)))) (w_val (y_bin ei ei (b_add om)) (w_as ei (wpList_nil ?_)))))))))))
         exact then_n ⟨_, om, t + 1, vd, rfl, _, rfl, iv, s4_0, s4_4, s4_5, s4_9, (Eq.trans (b := .int .i64 ((((64 * t) : Nat) : Int) + 64)) rfl (by congr 1)), r_rp, r_g, r_b_18, (r_b_h.congr (fun j hj => by exact congrArg U64 (congrFun (Sha.st_next 256 (gb (Sha.full 256 s)) (gb (((Sha.full 256 s).drop (64 * t)).take 64)) t (fun i hi => by rw [gb_take _ _ _ (show i < 64 from hi), gb_drop]; rfl)) j))), o_vd, no_vd_rp, no_vd_g, no_vd_b_18, no_vd_b_h, hk⟩
        ·skip
         refine wp_exit (then_x ?_)
         replace r_b_h := r_b_h.congr (g := fun j => U64 (Sha.st 256 (gb (Sha.full 256 s)) (Sha.nb 256 s) j)) (fun j hj => by rw [show t = Sha.nb 256 s from by omega])
         refine then_x (inb_x (then_n (sr (w_as Ev.c (nt (sr (w_mv (ex (pt rp 0) s4_0) (w_val (y_nc (ex (pt rp 0))) (w_val (v := pt rp 2) (y_off (y_fa (ex (pt rp 0)) (ShaST.fa90_2 _ _)) ro) (w_val (v := .int .i64 64) (y_ld (ex (pt rp 2)) ShaST.sc3 (r_rp.val om (ng (ng pz)))) (w_val (y_bin ei Ev.c (b_quo om)) (w_as ei (nt (wp_seq (sr (w_as Ev.c (nt (wp_block ?_))))))))))))))))))
         refine c_loop (fun dN aN wl => ∃ (a : Nat) (ve : Value) (wd : Value), dN = (8 - a) ∧ ∃ f52, aN = fr 132 f52 ∧ (a ≤ 8) ∧ f52 0 = pt rp 0 ∧ f52 4 = .string (str ([] : List (BitVec 8))) ∧ f52 5 = wd ∧ f52 9 = pt b_h 0 ∧ f52 11 = ve ∧ f52 12 = .int .i64 4 ∧ f52 13 = .int .i64 ((a : Nat) : Int) ∧ Row wl rp 90 25 (Sha.rrow (.int .i64 256) (.int .i64 32) (.int .i64 64) (.int .i64 64) (.slice (some ⟨g, 0, none⟩) 64 cap) (Sha.H0 256) (fun i => U64 (BitVec.ofNat 64 (Sha.trn true i)))) ∧ Row wl g 58 64 (fun j => U64 (Sha.K true j)) ∧ Row wl b_18 5 1 (fun j => U8 (128#8)) ∧ Row wl b_h 88 8 (fun j => U64 (Sha.st 256 (gb (Sha.full 256 s)) (Sha.nb 256 s) j)) ∧ Own wl w0.heap.size 5 1 ve (4 * a) (fun j => U8 ((Sha.st 256 (gb (Sha.full 256 s)) (Sha.nb 256 s) (j / 4) >>> (8 * (3 - j % 4))).setWidth 8)) ∧ ve.ownBlock ≠ some rp ∧ ve.ownBlock ≠ some g ∧ ve.ownBlock ≠ some b_18 ∧ ve.ownBlock ≠ some b_h ∧ (∀ g, ve.ownBlock = some g → wd.ownBlock ≠ some g) ∧ Own wl w0.heap.size 5 1 wd (s.length + 1 + ((119 - s.length % 64) % 64) + 8) (fun j => U8 (gb (Sha.full 256 s) j)) ∧ wd.ownBlock ≠ some rp ∧ wd.ownBlock ≠ some g ∧ wd.ownBlock ≠ some b_18 ∧ wd.ownBlock ≠ some b_h ∧ (∀ g, wd.ownBlock = some g → ve.ownBlock ≠ some g) ∧ Below w0.heap.size w0 wl) (8 - 0) ?_ ?_
         · exact ⟨0, (.slice none 0 0), vd, rfl, _, rfl, iv, s4_0, s4_4, (Eq.trans (b := vd) s4_5 dv), s4_9, (etv (b := .slice none 0 0) rfl), rfl, ti, r_rp, r_g, r_b_18, r_b_h, Own.nil, (fun e => by cases e), (fun e => by cases e), (fun e => by cases e), (fun e => by cases e), (fun g e => by cases e), o_vd, no_vd_rp, no_vd_g, no_vd_b_18, no_vd_b_h, (fun g _ e => by cases e), hk⟩
         ·skip
          clear r_rp r_g r_b_18 r_b_h o_vd hk
          rintro _ _ w53 ⟨a, ve, wd, rfl, f52, rfl, i5_0, s5_0, s5_4, s5_5, s5_9, s5_11, s5_12, s5_13, r_rp, r_g, r_b_18, r_b_h, o_ve, no_ve_rp, no_ve_g, no_ve_b_18, no_ve_b_h, sep_ve_wd, o_wd, no_wd_rp, no_wd_g, no_wd_b_18, no_wd_b_h, sep_wd_ve, hk⟩
          refine wp_seq (sr (w_mv (ei s5_13) (w_val (y_bin ei Ev.c b_lss) (nt ?_))))
          refine c_if (p := ((a : Nat) : Int) < 8) eb (fun hc54 => ?_) (fun hc54 => ?_)
          ·skip
           refine wp_skip (then_n (wp_seq (wp_block (sr (w_mv (ei s5_12) (w_val (y_bin ei Ev.c (b_sub om)) (w_as ei (nt (wp_block ?_)))))))))
           refine c_loop (fun dN aN wl => ∃ (b : Nat) (vf : Value) (we : Value), dN = (4 - b) ∧ ∃ f55, aN = fr 132 f55 ∧ (b ≤ 4) ∧ f55 0 = pt rp 0 ∧ f55 4 = .string (str ([] : List (BitVec 8))) ∧ f55 5 = we ∧ f55 9 = pt b_h 0 ∧ f55 11 = vf ∧ f55 12 = .int .i64 4 ∧ f55 13 = .int .i64 ((a : Nat) : Int) ∧ f55 14 = .int .i64 (3 - ((b : Nat) : Int)) ∧ Row wl rp 90 25 (Sha.rrow (.int .i64 256) (.int .i64 32) (.int .i64 64) (.int .i64 64) (.slice (some ⟨g, 0, none⟩) 64 cap) (Sha.H0 256) (fun i => U64 (BitVec.ofNat 64 (Sha.trn true i)))) ∧ Row wl g 58 64 (fun j => U64 (Sha.K true j)) ∧ Row wl b_18 5 1 (fun j => U8 (128#8)) ∧ Row wl b_h 88 8 (fun j => U64 (Sha.st 256 (gb (Sha.full 256 s)) (Sha.nb 256 s) j)) ∧ Own wl w0.heap.size 5 1 vf (4 * a + b) (fun j => U8 ((Sha.st 256 (gb (Sha.full 256 s)) (Sha.nb 256 s) (j / 4) >>> (8 * (3 - j % 4))).setWidth 8)) ∧ vf.ownBlock ≠ some rp ∧ vf.ownBlock ≠ some g ∧ vf.ownBlock ≠ some b_18 ∧ vf.ownBlock ≠ some b_h ∧ (∀ g, vf.ownBlock = some g → we.ownBlock ≠ some g) ∧ Own wl w0.heap.size 5 1 we (s.length + 1 + ((119 - s.length % 64) % 64) + 8) (fun j => U8 (gb (Sha.full 256 s) j)) ∧ we.ownBlock ≠ some rp ∧ we.ownBlock ≠ some g ∧ we.ownBlock ≠ some b_18 ∧ we.ownBlock ≠ some b_h ∧ (∀ g, we.ownBlock = some g → vf.ownBlock ≠ some g) ∧ Below w0.heap.size w0 wl) (4 - 0) ?_ ?_
           · exact ⟨0, ve, wd, rfl, _, rfl, iv, s5_0, s5_4, (Eq.trans (b := wd) s5_5 dv), s5_9, (Eq.trans (b := ve) s5_11 dv), s5_12, s5_13, (Eq.trans (b := .int .i64 3) rfl (by rfl)), r_rp, r_g, r_b_18, r_b_h, (own_n (o_ve.cg) om), no_ve_rp, no_ve_g, no_ve_b_18, no_ve_b_h, sep_ve_wd, o_wd, no_wd_rp, no_wd_g, no_wd_b_18, no_wd_b_h, sep_wd_ve, hk⟩
           ·skip
            clear r_rp r_g r_b_18 r_b_h o_ve o_wd hk
            rintro _ _ w56 ⟨b, vf, we, rfl, f55, rfl, i6_0, s6_0, s6_4, s6_5, s6_9, s6_11, s6_12, s6_13, s6_14, r_rp, r_g, r_b_18, r_b_h, o_vf, no_vf_rp, no_vf_g, no_vf_b_18, no_vf_b_h, sep_vf_we, o_we, no_we_rp, no_we_g, no_we_b_18, no_we_b_h, sep_we_vf, hk⟩
            refine wp_seq (sr (w_mv (ei s6_14) (w_val (y_bin ei Ev.c b_geq) (nt ?_))))
            refine c_if (p := 0 ≤ (3 - ((b : Nat) : Int))) eb (fun hc57 => ?_) (fun hc57 => ?_)
            ·skip
             refine wp_skip (then_n (wp_seq (wp_block (wp_region_lit (w_mv (ex vf s6_11) (w_mv (ei s6_13) (w_val (y_ia1z (i := a) (ex (pt b_h 0) s6_9) ei Tryd.underlying88 ShaST.sz58 om om) (w_val (v := U64 (Sha.st 256 (gb (Sha.full 256 s)) (Sha.nb 256 s) a)) (y_ld (ex (pt b_h a)) ShaST.sc58 (r_b_h.val om rfl)) (w_mv (ei s6_14) (w_val (y_bin Ev.c ei (b_mul om)) (w_val (y_nat_u64 (p := (8 * (3 - b))) ei om ShaST.so3 Tryd.underlying85) (w_val (y_bin e6 e6 (shr64 (c := (8 * (3 - b))) (by rw [BitVec.toNat_ofNat]; omega))) (w_val (y_u64_u8 e6 ShaST.so58 Tryd.underlying5) (w_bs1 (m := 1) (e := 5) (F := fun j => U8 (((Sha.st 256 (gb (Sha.full 256 s)) (Sha.nb 256 s) a) >>> (8 * (3 - b))).setWidth 8)) e8 (fun w => by kernel_rfl) ?_))))))))))))))
             intro b_123 w58 hbe_b_123 r_b_123 hb59
             have ne_rp_b_123 := r_rp.nb hbe_b_123
             have ne_g_b_123 := r_g.nb hbe_b_123
             have ne_b_18_b_123 := r_b_18.nb hbe_b_123
             have ne_b_h_b_123 := r_b_h.nb hbe_b_123
             have no_vf_b_123 : vf.ownBlock ≠ some b_123 := o_vf.apart om
             have no_we_b_123 : we.ownBlock ≠ some b_123 := o_we.apart om
             have ge_b_123 := gb_ hk.size hbe_b_123
             clear hbe_b_123
             replace o_vf := o_vf.step hb59
             replace o_we := o_we.step hb59
             replace r_rp := r_rp.step hb59
             replace r_g := r_g.step hb59
             replace r_b_18 := r_b_18.step hb59
             replace r_b_h := r_b_h.step hb59
             replace hk := thenB hk hb59
             refine w_app (k := (4 * a + b)) (m := 1) (size := 1) (bytes := 1) (ex vf) el Tryd.underlying63 kr (by decide) o_vf hk.size r_b_123 om oca (by simp only [maxLen]; omega) om ?_
             intro v60 w61 o_v60 hg62 hv63
             have sep_we_v60 : ∀ g, we.ownBlock = some g → v60.ownBlock ≠ some g := sep_new sep_we_vf o_we hv63
             have sep_v60_we : ∀ g, v60.ownBlock = some g → we.ownBlock ≠ some g := sep_sym sep_we_v60
             replace o_we := o_we.stepO hg62 (sep_or sep_we_vf)
             have no_v60_rp := no_new no_vf_rp r_rp.lt hv63
             replace r_rp := r_rp.stepO hg62 no_vf_rp
             have no_v60_g := no_new no_vf_g r_g.lt hv63
             replace r_g := r_g.stepO hg62 no_vf_g
             have no_v60_b_18 := no_new no_vf_b_18 r_b_18.lt hv63
             replace r_b_18 := r_b_18.stepO hg62 no_vf_b_18
             have no_v60_b_h := no_new no_vf_b_h r_b_h.lt hv63
             replace r_b_h := r_b_h.stepO hg62 no_vf_b_h
             have no_v60_b_123 := no_new no_vf_b_123 r_b_123.lt hv63
             replace r_b_123 := r_b_123.stepO hg62 no_vf_b_123
             replace hk := thenO hk hg62 (fun g e => (o_vf.block_lt g e).2)
             clear o_vf
             refine w_as (ex v60) (wpList_nil (inb_n (then_n (wp_region_lit (w_mv (ei s6_14) (w_val (y_bin ei Ev.c (b_sub om)) (w_as ei (wpList_nil ?_))))))))
             exact then_n ⟨_, om, b + 1, v60, we, rfl, _, rfl, iv, s6_0, s6_4, s6_5, s6_9, rfl, s6_12, s6_13, (Eq.trans (b := .int .i64 ((3 - ((b : Nat) : Int)) - 1)) rfl (by congr 1; omega)), r_rp, r_g, r_b_18, r_b_h, (own_n (o_v60.congr (fun j hj => by (try dsimp only); by_cases e : j < (4 * a + b) * 1; (rw [if_pos e]); (rw [if_neg e]; exact congrArg U8 (by rw [show j / 4 = a from by omega, show j % 4 = b from by omega])))) om), no_v60_rp, no_v60_g, no_v60_b_18, no_v60_b_h, sep_v60_we, o_we, no_we_rp, no_we_g, no_we_b_18, no_we_b_h, sep_we_v60, hk⟩
            ·skip
             refine wp_exit (then_x (then_x (inb_x (inb_n (then_n (wp_region_lit (w_mv (ei s6_13) (w_val (y_bin ei Ev.c (b_add om)) (w_as ei (wpList_nil ?_))))))))))
             exact then_n ⟨_, om, a + 1, vf, we, rfl, _, rfl, iv, s6_0, s6_4, s6_5, s6_9, s6_11, s6_12, ti, r_rp, r_g, r_b_18, r_b_h, (own_n (o_vf.cg) om), no_vf_rp, no_vf_g, no_vf_b_18, no_vf_b_h, sep_vf_we, o_we, no_we_rp, no_we_g, no_we_b_18, no_we_b_h, sep_we_vf, hk⟩
          ·skip
           refine wp_exit (then_x (then_x (inb_x (then_n (wp_seq ?_)))))
           obtain ⟨g64, cap64, hv64, ge_g64, hc_g64, hob_g64, r_g64⟩ := o_ve.opened om
           have ne_rp_g64 : rp ≠ g64 := fun e => no_ve_rp (by rw [hob_g64, e])
           have ne_g_g64 : g ≠ g64 := fun e => no_ve_g (by rw [hob_g64, e])
           have ne_b_18_g64 : b_18 ≠ g64 := fun e => no_ve_b_18 (by rw [hob_g64, e])
           have ne_b_h_g64 : b_h ≠ g64 := fun e => no_ve_b_h (by rw [hob_g64, e])
           have no_wd_g64 : wd.ownBlock ≠ some g64 := fun e => sep_wd_ve _ e hob_g64
           refine wp_region_lit (w_mv (ex ve s5_11) (w_mv (ex (pt rp 0) s5_0) (w_val (y_nc (ex (pt rp 0))) (w_val (v := pt rp 1) (y_off (y_fa (ex (pt rp 0)) (ShaST.fa90_1 _ _)) ro) (w_val (v := .int .i64 32) (y_ld (ex (pt rp 1)) ShaST.sc3 (r_rp.val om (ng pz))) (w_val (v := .slice (some ⟨g64, 0, none⟩) 32 cap64) (y_slh (ex (.slice (some ⟨g64, 0, none⟩) (4 * a) cap64) (Eq.trans (b := ve) rfl hv64)) (evo.s ei) Tryd.underlying63 (bnd_h (h := 32) om om) ShaST.sz5) (w_val (y_str (l := Sha.sum 256 s) el (by rw [Sha.length_sum]; rfl) Tryd.underlying63 Tryd.underlying5 Tryd.underlying9 (fun j hj => (r_g64.val om (by rw [Sha.gb_sum _ _ _ (show j < Sha.ol 256 from hj), Nat.zero_add]; rfl)))) (w_as es (nt (wp_ret (fin_ret1 rfl es ?_)))))))))))
           exact ⟨rfl, hk⟩

theorem ruleSum_384 (rp g cap : Nat) (s : List (BitVec 8)) (hs : s.length ≤ 1099511627776) (w0 : World) (r_rp : Row w0 rp 90 25 (Sha.rrow (.int .i64 384) (.int .i64 48) (.int .i64 128) (.int .i64 80) (.slice (some ⟨g, 0, none⟩) 80 cap) (Sha.H0 384) (fun i => U64 (BitVec.ofNat 64 (Sha.trn false i))))) (r_g : Row w0 g 58 80 (fun j => U64 (Sha.K false j))) : Calls Tryd.prog 58 #[pt rp 0, .string (str s)] w0 fun e w' => e = .returned (.string (str (Sha.sum 384 s))) ∧ Below w0.heap.size w0 w' := by
 have hpl : Sha.padl 384 s.length = ((239 - s.length % 128) % 128) + 1 + 16 := by rw [Sha.padl_eq 384 128 _ rfl]
 have hnb : 128 * Sha.nb 384 s = s.length + Sha.padl 384 s.length := by have h := Sha.length_full 384 s; unfold Sha.full at h; rw [List.length_append, Sha.length_pad] at h; exact h.symm
 have hfl : (Sha.full 384 s).length = 128 * Sha.nb 384 s := Sha.length_full 384 s
 refine enter (n := 132) Tryd.func58 rfl rfl rfl ?_
 have hk : Below w0.heap.size w0 w0 := Below.refl _ _
 have lt_rp := r_rp.lt
 have lt_g := r_g.lt
 refine sr (w_as (evc (.string (str ([] : List (BitVec 8))))) (nt (sr (w_mv es (w_bytes_own es Tryd.underlying9 Tryd.underlying63 Tryd.underlying5 (by simp only [maxLen]; omega) hk.size ?_)))))
 intro v1 w2 o_v1 hv4 hb3
 have no_v1_rp : v1.ownBlock ≠ some rp := fun e1 => by rw [hv4] at e1; injection e1 with e1; have := r_rp.lt; omega
 have no_v1_g : v1.ownBlock ≠ some g := fun e1 => by rw [hv4] at e1; injection e1 with e1; have := r_g.lt; omega
 replace r_rp := r_rp.step hb3
 replace r_g := r_g.step hb3
 replace hk := thenB hk hb3
 refine w_as (ex v1) (nt (sr (w_mv (ex v1) (w_bs1 (m := 1) (e := 5) (F := fun j => U8 (128#8)) (evc (U8 (128#8))) (fun w => by kernel_rfl) ?_))))
 intro b_18 w5 hbe_b_18 r_b_18 hb6
 have ne_rp_b_18 := r_rp.nb hbe_b_18
 have ne_g_b_18 := r_g.nb hbe_b_18
 have no_v1_b_18 : v1.ownBlock ≠ some b_18 := o_v1.apart om
 have ge_b_18 := gb_ hk.size hbe_b_18
 clear hbe_b_18
 replace o_v1 := o_v1.step hb6
 replace r_rp := r_rp.step hb6
 replace r_g := r_g.step hb6
 replace hk := thenB hk hb6
 refine w_app (k := s.length) (m := 1) (size := 1) (bytes := 1) (ex v1) el Tryd.underlying63 kr (by decide) o_v1 hk.size r_b_18 om oca (by simp only [maxLen]; omega) om ?_
 intro v7 w8 o_v7 hg9 hv10
 have no_v7_rp := no_new no_v1_rp r_rp.lt hv10
 replace r_rp := r_rp.stepO hg9 no_v1_rp
 have no_v7_g := no_new no_v1_g r_g.lt hv10
 replace r_g := r_g.stepO hg9 no_v1_g
 have no_v7_b_18 := no_new no_v1_b_18 r_b_18.lt hv10
 replace r_b_18 := r_b_18.stepO hg9 no_v1_b_18
 replace hk := thenO hk hg9 (fun g e => (o_v1.block_lt g e).2)
 clear o_v1
 refine w_as (ex v7) (nt (wp_seq (wp_block ?_)))
 refine c_loop (fun dN aN wl => ∃ (z : Nat) (va : Value), dN = (((239 - s.length % 128) % 128) - z) ∧ ∃ f11, aN = fr 132 f11 ∧ (z ≤ ((239 - s.length % 128) % 128)) ∧ f11 0 = pt rp 0 ∧ f11 1 = .string (str s) ∧ f11 4 = .string (str ([] : List (BitVec 8))) ∧ f11 5 = va ∧ Row wl rp 90 25 (Sha.rrow (.int .i64 384) (.int .i64 48) (.int .i64 128) (.int .i64 80) (.slice (some ⟨g, 0, none⟩) 80 cap) (Sha.H0 384) (fun i => U64 (BitVec.ofNat 64 (Sha.trn false i)))) ∧ Row wl g 58 80 (fun j => U64 (Sha.K false j)) ∧ Row wl b_18 5 1 (fun j => U8 (128#8)) ∧ Own wl w0.heap.size 5 1 va (s.length + 1 + z) (fun j => U8 (gb (Sha.full 384 s) j)) ∧ va.ownBlock ≠ some rp ∧ va.ownBlock ≠ some g ∧ va.ownBlock ≠ some b_18 ∧ Below w0.heap.size w0 wl) (((239 - s.length % 128) % 128) - 0) ?_ ?_
 · exact ⟨0, v7, rfl, _, rfl, iv, rfl, rfl, rfl, (etv (b := v7) rfl), r_rp, r_g, r_b_18, (own_n (o_v7.congr (fun j hj => by (try dsimp only); by_cases e : j < s.length * 1; (rw [if_pos e, Sha.gb_full_lo _ _ _ om]); (rw [if_neg e]; exact congrArg U8 (Sha.full_80 384 s j om)))) om), no_v7_rp, no_v7_g, no_v7_b_18, hk⟩
 ·skip
  clear r_rp r_g r_b_18 o_v7 hk
  rintro _ _ w12 ⟨z, va, rfl, f11, rfl, i1_0, s1_0, s1_1, s1_4, s1_5, r_rp, r_g, r_b_18, o_va, no_va_rp, no_va_g, no_va_b_18, hk⟩
  refine ss (region_q ShaST.mixed kr (q_mv (ex va s1_5) (q_val (v := .int .i64 (((s.length + 1 + z) : Nat) : Int)) (fun w' hw' => y_len_own (ex va) o_va Tryd.underlying63) (q_mv (ex (pt rp 0) s1_0) (q_val (fun w' hw' => y_nc (ex (pt rp 0))) (q_val (v := pt rp 2) (fun w' hw' => y_off (y_fa (ex (pt rp 0)) (ShaST.fa90_2 _ _)) ro) (q_val (v := .int .i64 128) (fun w' hw' => y_ld (ex (pt rp 2)) ShaST.sc3 (cls_cell (r_rp.val om (ng (ng pz))) r_rp.lt w' hw')) (q_val (fun w' hw' => y_bin ei ei (b_rem om)) (q_mv (ex (pt rp 0) s1_0) (q_val (fun w' hw' => y_nc (ex (pt rp 0))) (q_val (v := pt rp 2) (fun w' hw' => y_off (y_fa (ex (pt rp 0)) (ShaST.fa90_2 _ _)) ro) (q_val (v := .int .i64 128) (fun w' hw' => y_ld (ex (pt rp 2)) ShaST.sc3 (cls_cell (r_rp.val om (ng (ng pz))) r_rp.lt w' hw')) (q_mv (ex (pt rp 0) s1_0) (q_val (fun w' hw' => y_nc (ex (pt rp 0))) (q_val (v := pt rp 2) (fun w' hw' => y_off (y_fa (ex (pt rp 0)) (ShaST.fa90_2 _ _)) ro) (q_val (v := .int .i64 128) (fun w' hw' => y_ld (ex (pt rp 2)) ShaST.sc3 (cls_cell (r_rp.val om (ng (ng pz))) r_rp.lt w' hw')) (q_val (fun w' hw' => y_bin ei Ev.c (b_quo om)) (q_val (fun w' hw' => y_bin ei ei (b_sub om)) (q_val (fun w' hw' => y_bin ei ei b_neq) (q_nil ?_))))))))))))))))))))
  intro w13 hb14
  replace o_va := o_va.step hb14
  replace r_rp := r_rp.step hb14
  replace r_g := r_g.step hb14
  replace r_b_18 := r_b_18.step hb14
  replace hk := thenB hk hb14
  refine then_n ?_
  refine c_if (p := ((((s.length + 1 + z) : Nat) : Int) % 128) ≠ 112) eb (fun hc15 => ?_) (fun hc15 => ?_)
  ·skip
   refine wp_skip (then_n (wp_block (wp_region_lit (w_mv (ex va s1_5) (w_bs1 (m := 1) (e := 5) (F := fun j => U8 (0#8)) (evc (U8 (0#8))) (fun w => by kernel_rfl) ?_)))))
   intro b_39 w16 hbe_b_39 r_b_39 hb17
   have ne_rp_b_39 := r_rp.nb hbe_b_39
   have ne_g_b_39 := r_g.nb hbe_b_39
   have ne_b_18_b_39 := r_b_18.nb hbe_b_39
   have no_va_b_39 : va.ownBlock ≠ some b_39 := o_va.apart om
   have ge_b_39 := gb_ hk.size hbe_b_39
   clear hbe_b_39
   replace o_va := o_va.step hb17
   replace r_rp := r_rp.step hb17
   replace r_g := r_g.step hb17
   replace r_b_18 := r_b_18.step hb17
   replace hk := thenB hk hb17
   refine w_app (k := (s.length + 1 + z)) (m := 1) (size := 1) (bytes := 1) (ex va) el Tryd.underlying63 kr (by decide) o_va hk.size r_b_39 om oca (by simp only [maxLen]; omega) om ?_
   intro v18 w19 o_v18 hg20 hv21
   have no_v18_rp := no_new no_va_rp r_rp.lt hv21
   replace r_rp := r_rp.stepO hg20 no_va_rp
   have no_v18_g := no_new no_va_g r_g.lt hv21
   replace r_g := r_g.stepO hg20 no_va_g
   have no_v18_b_18 := no_new no_va_b_18 r_b_18.lt hv21
   replace r_b_18 := r_b_18.stepO hg20 no_va_b_18
   have no_v18_b_39 := no_new no_va_b_39 r_b_39.lt hv21
   replace r_b_39 := r_b_39.stepO hg20 no_va_b_39
   replace hk := thenO hk hg20 (fun g e => (o_va.block_lt g e).2)
   clear o_va
   refine w_as (ex v18) (wpList_nil (inb_n ?_))
   exact then_n ⟨_, om, z + 1, v18, rfl, _, rfl, iv, s1_0, s1_1, s1_4, rfl, r_rp, r_g, r_b_18, (own_n (o_v18.congr (fun j hj => by (try dsimp only); by_cases e : j < (s.length + 1 + z) * 1; (rw [if_pos e]); (rw [if_neg e]; exact congrArg U8 (Sha.full_0 384 s j om om)))) om), no_v18_rp, no_v18_g, no_v18_b_18, hk⟩
  ·skip
   refine wp_exit (then_x (then_x (inb_x (then_n (wp_seq (sr (w_as Ev.c (nt (wp_block ?_)))))))))
   refine c_loop (fun dN aN wl => ∃ (y : Nat) (vb : Value), dN = (8 - y) ∧ ∃ f22, aN = fr 132 f22 ∧ (y ≤ 8) ∧ f22 0 = pt rp 0 ∧ f22 1 = .string (str s) ∧ f22 4 = .string (str ([] : List (BitVec 8))) ∧ f22 5 = vb ∧ f22 6 = .int .i64 ((y : Nat) : Int) ∧ Row wl rp 90 25 (Sha.rrow (.int .i64 384) (.int .i64 48) (.int .i64 128) (.int .i64 80) (.slice (some ⟨g, 0, none⟩) 80 cap) (Sha.H0 384) (fun i => U64 (BitVec.ofNat 64 (Sha.trn false i)))) ∧ Row wl g 58 80 (fun j => U64 (Sha.K false j)) ∧ Row wl b_18 5 1 (fun j => U8 (128#8)) ∧ Own wl w0.heap.size 5 1 vb (s.length + 1 + ((239 - s.length % 128) % 128) + y) (fun j => U8 (gb (Sha.full 384 s) j)) ∧ vb.ownBlock ≠ some rp ∧ vb.ownBlock ≠ some g ∧ vb.ownBlock ≠ some b_18 ∧ Below w0.heap.size w0 wl) (8 - 0) ?_ ?_
   · exact ⟨0, va, rfl, _, rfl, iv, s1_0, s1_1, s1_4, (Eq.trans (b := va) s1_5 dv), ti, r_rp, r_g, r_b_18, (own_n (o_va.cg) om), no_va_rp, no_va_g, no_va_b_18, hk⟩
   ·skip
    clear r_rp r_g r_b_18 o_va hk
    rintro _ _ w23 ⟨y, vb, rfl, f22, rfl, i2_0, s2_0, s2_1, s2_4, s2_5, s2_6, r_rp, r_g, r_b_18, o_vb, no_vb_rp, no_vb_g, no_vb_b_18, hk⟩
    refine wp_seq (sr (w_mv (ei s2_6) (w_mv (ex (pt rp 0) s2_0) (w_val (y_nc (ex (pt rp 0))) (w_val (v := pt rp 2) (y_off (y_fa (ex (pt rp 0)) (ShaST.fa90_2 _ _)) ro) (w_val (v := .int .i64 128) (y_ld (ex (pt rp 2)) ShaST.sc3 (r_rp.val om (ng (ng pz)))) (w_val (y_bin ei Ev.c (b_quo om)) (w_val (y_bin ei Ev.c (b_sub om)) (w_val (y_bin ei ei b_lss) (nt ?_))))))))))
    refine c_if (p := ((y : Nat) : Int) < 8) eb (fun hc24 => ?_) (fun hc24 => ?_)
    ·skip
     refine wp_skip (then_n (wp_seq (wp_block (wp_region_lit (w_mv (ex vb s2_5) (w_bs1 (m := 1) (e := 5) (F := fun j => U8 (0#8)) (evc (U8 (0#8))) (fun w => by kernel_rfl) ?_))))))
     intro b_52 w25 hbe_b_52 r_b_52 hb26
     have ne_rp_b_52 := r_rp.nb hbe_b_52
     have ne_g_b_52 := r_g.nb hbe_b_52
     have ne_b_18_b_52 := r_b_18.nb hbe_b_52
     have no_vb_b_52 : vb.ownBlock ≠ some b_52 := o_vb.apart om
     have ge_b_52 := gb_ hk.size hbe_b_52
     clear hbe_b_52
     replace o_vb := o_vb.step hb26
     replace r_rp := r_rp.step hb26
     replace r_g := r_g.step hb26
     replace r_b_18 := r_b_18.step hb26
     replace hk := thenB hk hb26
     refine w_app (k := (s.length + 1 + ((239 - s.length % 128) % 128) + y)) (m := 1) (size := 1) (bytes := 1) (ex vb) el Tryd.underlying63 kr (by decide) o_vb hk.size r_b_52 om oca (by simp only [maxLen]; omega) om ?_
     intro v27 w28 o_v27 hg29 hv30
     have no_v27_rp := no_new no_vb_rp r_rp.lt hv30
     replace r_rp := r_rp.stepO hg29 no_vb_rp
     have no_v27_g := no_new no_vb_g r_g.lt hv30
     replace r_g := r_g.stepO hg29 no_vb_g
     have no_v27_b_18 := no_new no_vb_b_18 r_b_18.lt hv30
     replace r_b_18 := r_b_18.stepO hg29 no_vb_b_18
     have no_v27_b_52 := no_new no_vb_b_52 r_b_52.lt hv30
     replace r_b_52 := r_b_52.stepO hg29 no_vb_b_52
     replace hk := thenO hk hg29 (fun g e => (o_vb.block_lt g e).2)
     clear o_vb
     refine w_as (ex v27) (wpList_nil (inb_n (then_n (wp_region_lit (w_mv (ei s2_6) (w_val (y_bin ei Ev.c (b_add om)) (w_as ei (wpList_nil ?_))))))))
     exact then_n ⟨_, om, y + 1, v27, rfl, _, rfl, iv, s2_0, s2_1, s2_4, rfl, ti, r_rp, r_g, r_b_18, (own_n (o_v27.congr (fun j hj => by first | (exfalso; omega) | ((try dsimp only); by_cases e : j < (s.length + 1 + ((239 - s.length % 128) % 128) + y) * 1; (rw [if_pos e]); (rw [if_neg e]; exact congrArg U8 (Sha.full_0 384 s j om om))))) om), no_v27_rp, no_v27_g, no_v27_b_18, hk⟩
    ·skip
     refine wp_exit (then_x (then_x (inb_x (then_n (sr (w_mv (es s2_1) (w_val (y_len es Tryd.underlying9) (w_val (y_nat_u64 (p := s.length) ei om ShaST.so3 Tryd.underlying58) (w_val (y_bin e6 (evc (U64 (8#64))) mul64) (w_as e6 (nt (wp_seq (sr (w_as Ev.c (nt (wp_block ?_))))))))))))))))
     refine c_loop (fun dN aN wl => ∃ (x : Nat) (vc : Value), dN = (8 - x) ∧ ∃ f31, aN = fr 132 f31 ∧ (x ≤ 8) ∧ f31 0 = pt rp 0 ∧ f31 4 = .string (str ([] : List (BitVec 8))) ∧ f31 5 = vc ∧ f31 7 = U64 ((BitVec.ofNat 64 s.length) * (8#64)) ∧ f31 8 = .int .i64 ((x : Nat) : Int) ∧ Row wl rp 90 25 (Sha.rrow (.int .i64 384) (.int .i64 48) (.int .i64 128) (.int .i64 80) (.slice (some ⟨g, 0, none⟩) 80 cap) (Sha.H0 384) (fun i => U64 (BitVec.ofNat 64 (Sha.trn false i)))) ∧ Row wl g 58 80 (fun j => U64 (Sha.K false j)) ∧ Row wl b_18 5 1 (fun j => U8 (128#8)) ∧ Own wl w0.heap.size 5 1 vc (s.length + 1 + ((239 - s.length % 128) % 128) + 8 + x) (fun j => U8 (gb (Sha.full 384 s) j)) ∧ vc.ownBlock ≠ some rp ∧ vc.ownBlock ≠ some g ∧ vc.ownBlock ≠ some b_18 ∧ Below w0.heap.size w0 wl) (8 - 0) ?_ ?_
     · exact ⟨0, vb, rfl, _, rfl, iv, s2_0, s2_4, (Eq.trans (b := vb) s2_5 dv), rfl, ti, r_rp, r_g, r_b_18, (own_n (o_vb.cg) om), no_vb_rp, no_vb_g, no_vb_b_18, hk⟩
     ·skip
      clear r_rp r_g r_b_18 o_vb hk
      rintro _ _ w32 ⟨x, vc, rfl, f31, rfl, i3_0, s3_0, s3_4, s3_5, s3_7, s3_8, r_rp, r_g, r_b_18, o_vc, no_vc_rp, no_vc_g, no_vc_b_18, hk⟩
      refine wp_seq (sr (w_mv (ei s3_8) (w_val (y_bin ei Ev.c b_lss) (nt ?_))))
      refine c_if (p := ((x : Nat) : Int) < 8) eb (fun hc33 => ?_) (fun hc33 => ?_)
      ·skip
       refine wp_skip (then_n (wp_seq (wp_block (wp_region_lit (w_mv (ex vc s3_5) (w_mv (e6 s3_7) (w_mv (ei s3_8) (w_val (y_bin Ev.c ei (b_mul om)) (w_val (y_bin Ev.c ei (b_sub om)) (w_val (y_nat_u64 (p := (56 - (8 * x))) ei om ShaST.so3 Tryd.underlying85) (w_val (y_bin e6 e6 (shr64 (c := (56 - (8 * x))) (by rw [BitVec.toNat_ofNat]; omega))) (w_val (y_u64_u8 e6 ShaST.so58 Tryd.underlying5) (w_bs1 (m := 1) (e := 5) (F := fun j => U8 ((((BitVec.ofNat 64 s.length) * (8#64)) >>> (56 - (8 * x))).setWidth 8)) e8 (fun w => by kernel_rfl) ?_)))))))))))))
       intro b_70 w34 hbe_b_70 r_b_70 hb35
       have ne_rp_b_70 := r_rp.nb hbe_b_70
       have ne_g_b_70 := r_g.nb hbe_b_70
       have ne_b_18_b_70 := r_b_18.nb hbe_b_70
       have no_vc_b_70 : vc.ownBlock ≠ some b_70 := o_vc.apart om
       have ge_b_70 := gb_ hk.size hbe_b_70
       clear hbe_b_70
       replace o_vc := o_vc.step hb35
       replace r_rp := r_rp.step hb35
       replace r_g := r_g.step hb35
       replace r_b_18 := r_b_18.step hb35
       replace hk := thenB hk hb35
       refine w_app (k := (s.length + 1 + ((239 - s.length % 128) % 128) + 8 + x)) (m := 1) (size := 1) (bytes := 1) (ex vc) el Tryd.underlying63 kr (by decide) o_vc hk.size r_b_70 om oca (by simp only [maxLen]; omega) om ?_
       intro v36 w37 o_v36 hg38 hv39
       have no_v36_rp := no_new no_vc_rp r_rp.lt hv39
       replace r_rp := r_rp.stepO hg38 no_vc_rp
       have no_v36_g := no_new no_vc_g r_g.lt hv39
       replace r_g := r_g.stepO hg38 no_vc_g
       have no_v36_b_18 := no_new no_vc_b_18 r_b_18.lt hv39
       replace r_b_18 := r_b_18.stepO hg38 no_vc_b_18
       have no_v36_b_70 := no_new no_vc_b_70 r_b_70.lt hv39
       replace r_b_70 := r_b_70.stepO hg38 no_vc_b_70
       replace hk := thenO hk hg38 (fun g e => (o_vc.block_lt g e).2)
       clear o_vc
       refine w_as (ex v36) (wpList_nil (inb_n (then_n (wp_region_lit (w_mv (ei s3_8) (w_val (y_bin ei Ev.c (b_add om)) (w_as ei (wpList_nil ?_))))))))
       exact then_n ⟨_, om, x + 1, v36, rfl, _, rfl, iv, s3_0, s3_4, rfl, s3_7, ti, r_rp, r_g, r_b_18, (own_n (o_v36.congr (fun j hj => by (try dsimp only); by_cases e : j < (s.length + 1 + ((239 - s.length % 128) % 128) + 8 + x) * 1; (rw [if_pos e]); (rw [if_neg e]; exact congrArg U8 (Sha.full_n 384 s x j om om)))) om), no_v36_rp, no_v36_g, no_v36_b_18, hk⟩
      ·skip
       refine wp_exit (then_x (then_x (inb_x (then_n (sr (w_mv (ex (pt rp 0) s3_0) (w_val (y_nc (ex (pt rp 0))) (w_val (v := pt rp 5) (y_off (y_fa (ex (pt rp 0)) (ShaST.fa90_5 _ _)) ro) (w_val (v := .agg (arr 8 (fun j => U64 ((Sha.H0 384) j)))) (y_lda (ex (pt rp 5)) ShaST.ag88 ShaST.sz88 (fun j hj => (r_rp.val om (by first | with_reducible rfl | exact (ng (ng (ng (ng (ng pz))))))))) (w_alloc (m := 8) (F := fun j => U64 (0#64)) kr ?_))))))))))
       intro b_h w40 hbe_b_h r_b_h hb41
       have ne_rp_b_h := r_rp.nb hbe_b_h
       have ne_g_b_h := r_g.nb hbe_b_h
       have ne_b_18_b_h := r_b_18.nb hbe_b_h
       have no_vc_b_h : vc.ownBlock ≠ some b_h := o_vc.apart om
       have ge_b_h := gb_ hk.size hbe_b_h
       clear hbe_b_h
       replace o_vc := o_vc.step hb41
       replace r_rp := r_rp.step hb41
       replace r_g := r_g.step hb41
       replace r_b_18 := r_b_18.step hb41
       replace hk := thenB hk hb41
       refine w_sta (k := 8) (G := fun j => U64 ((Sha.H0 384) j)) (ex (pt b_h 0)) ea oc ShaST.sz88 r_b_h om ?_
       clear r_b_h; intro w42 r_b_h hg43 _
       replace r_b_h := r_b_h.congr (g := fun j => U64 ((Sha.H0 384) j)) (fun j hj => by rw [if_pos ⟨Nat.zero_le _, by omega⟩]; first | rfl | (simp only [Nat.sub_zero]))
       replace o_vc := o_vc.stepG hg43 no_vc_b_h
       replace r_rp := r_rp.stepG hg43 om
       replace r_g := r_g.stepG hg43 om
       replace r_b_18 := r_b_18.stepG hg43 om
       replace hk := thenG hk hg43 om
       refine nt (wp_seq (sr (w_as Ev.c (nt (wp_block ?_)))))
       refine c_loop (fun dN aN wl => ∃ (t : Nat) (vd : Value), dN = (Sha.nb 384 s - t) ∧ ∃ f44, aN = fr 132 f44 ∧ (t ≤ Sha.nb 384 s) ∧ f44 0 = pt rp 0 ∧ f44 4 = .string (str ([] : List (BitVec 8))) ∧ f44 5 = vd ∧ f44 9 = pt b_h 0 ∧ f44 10 = .int .i64 (((128 * t) : Nat) : Int) ∧ Row wl rp 90 25 (Sha.rrow (.int .i64 384) (.int .i64 48) (.int .i64 128) (.int .i64 80) (.slice (some ⟨g, 0, none⟩) 80 cap) (Sha.H0 384) (fun i => U64 (BitVec.ofNat 64 (Sha.trn false i)))) ∧ Row wl g 58 80 (fun j => U64 (Sha.K false j)) ∧ Row wl b_18 5 1 (fun j => U8 (128#8)) ∧ Row wl b_h 88 8 (fun j => U64 (Sha.st 384 (gb (Sha.full 384 s)) t j)) ∧ Own wl w0.heap.size 5 1 vd (s.length + 1 + ((239 - s.length % 128) % 128) + 16) (fun j => U8 (gb (Sha.full 384 s) j)) ∧ vd.ownBlock ≠ some rp ∧ vd.ownBlock ≠ some g ∧ vd.ownBlock ≠ some b_18 ∧ vd.ownBlock ≠ some b_h ∧ Below w0.heap.size w0 wl) (Sha.nb 384 s - 0) ?_ ?_
       · exact ⟨0, vc, rfl, _, rfl, iv, s3_0, s3_4, (Eq.trans (b := vc) s3_5 dv), rfl, (Eq.trans (b := .int .i64 0) rfl (by rfl)), r_rp, r_g, r_b_18, (r_b_h.congr (fun j hj => by rfl)), (own_n (o_vc.cg) om), no_vc_rp, no_vc_g, no_vc_b_18, no_vc_b_h, hk⟩
       ·skip
        clear r_rp r_g r_b_18 r_b_h o_vc hk
        rintro _ _ w45 ⟨t, vd, rfl, f44, rfl, i4_0, s4_0, s4_4, s4_5, s4_9, s4_10, r_rp, r_g, r_b_18, r_b_h, o_vd, no_vd_rp, no_vd_g, no_vd_b_18, no_vd_b_h, hk⟩
        have hlt : t < Sha.nb 384 s → (((Sha.full 384 s).drop (128 * t)).take 128).length = 128 := fun h => by rw [List.length_take, List.length_drop, hfl]; omega
        refine wp_seq (sr (w_mv (ei s4_10) (w_mv (ex vd s4_5) (w_val (v := .int .i64 (((s.length + 1 + ((239 - s.length % 128) % 128) + 16) : Nat) : Int)) (y_len_own (ex vd) o_vd Tryd.underlying63) (w_val (y_bin ei ei b_lss) (nt ?_))))))
        refine c_if (p := (((128 * t) : Nat) : Int) < (((s.length + 1 + ((239 - s.length % 128) % 128) + 16) : Nat) : Int)) eb (fun hc46 => ?_) (fun hc46 => ?_)
        ·skip
         refine wp_skip (then_n (wp_seq (wp_block ?_)))
         obtain ⟨g47, cap47, hv47, ge_g47, hc_g47, hob_g47, r_g47⟩ := o_vd.opened om
         have ne_rp_g47 : rp ≠ g47 := fun e => no_vd_rp (by rw [hob_g47, e])
         have ne_g_g47 : g ≠ g47 := fun e => no_vd_g (by rw [hob_g47, e])
         have ne_b_18_g47 : b_18 ≠ g47 := fun e => no_vd_b_18 (by rw [hob_g47, e])
         have ne_b_h_g47 : b_h ≠ g47 := fun e => no_vd_b_h (by rw [hob_g47, e])
         refine region_t 13 ShaST.mixed kr ?_
         simp only [List.take_succ_cons, List.take_zero, List.drop_succ_cons, List.drop_zero]
         refine q_mv (ex (pt rp 0) s4_0) (q_val (v := .agg (arr 8 (fun j => U64 (Sha.st 384 (gb (Sha.full 384 s)) t j)))) (fun w' hw' => y_lda (ex (pt b_h 0) s4_9) ShaST.ag88 ShaST.sz88 (fun j hj => by rw [Nat.zero_add]; exact (cls_cell (r_b_h.cell om) r_b_h.lt w' hw'))) (q_mv (ex vd s4_5) (q_mv (ei s4_10) (q_mv (ei s4_10) (q_mv (ex (pt rp 0) s4_0) (q_val (fun w' hw' => y_nc (ex (pt rp 0))) (q_val (v := pt rp 2) (fun w' hw' => y_off (y_fa (ex (pt rp 0)) (ShaST.fa90_2 _ _)) ro) (q_val (v := .int .i64 128) (fun w' hw' => y_ld (ex (pt rp 2)) ShaST.sc3 (cls_cell (r_rp.val om (ng (ng pz))) r_rp.lt w' hw')) (q_val (fun w' hw' => y_bin ei ei (b_add om)) (q_val (v := .slice (some ⟨g47, (128 * t), none⟩) (((128 * t) + 128) - (128 * t)) (cap47 - (128 * t))) (fun w' hw' => y_sloff (y_slv (ex (.slice (some ⟨g47, 0, none⟩) (s.length + 1 + ((239 - s.length % 128) % 128) + 16) cap47) (Eq.trans (b := vd) rfl hv47)) (evo.s ei) (evo.s ei) Tryd.underlying63 ShaST.sz5 (bnd_lh (l := (128 * t)) (h := ((128 * t) + 128)) om om om om) om) ro rfl) (q_val (fun w' hw' => y_str (l := ((Sha.full 384 s).drop (128 * t)).take 128) el (by rw [List.length_take, List.length_drop, hfl]; omega) Tryd.underlying63 Tryd.underlying5 Tryd.underlying9 (fun j hj => (cls_cell (r_g47.val om (by rw [gb_take _ _ _ (show j < 128 by omega), gb_drop])) r_g47.lt w' hw'))) (q_call (v := .agg (arr 8 (fun j => U64 (Sha.comp false (gb (((Sha.full 384 s).drop (128 * t)).take 128)) (Sha.st 384 (gb (Sha.full 384 s)) t) j)))) (Tryd.func78) kr rfl (m3 (ex (pt rp 0)) ea es) (fun w' hw' => block_f rp 48 g cap (Sha.H0 384) 384 (by decide) (Sha.st 384 (gb (Sha.full 384 s)) t) (((Sha.full 384 s).drop (128 * t)).take 128) (hlt om) w' (r_rp.step hw') (r_g.step hw')) (q_nil ?_)))))))))))))
         intro w48 hb49
         replace o_vd := o_vd.step hb49
         replace r_rp := r_rp.step hb49
         replace r_g := r_g.step hb49
         replace r_b_18 := r_b_18.step hb49
         replace r_b_h := r_b_h.step hb49
         replace r_g47 := r_g47.step hb49
         replace hk := thenB hk hb49
         refine w_sta (k := 8) (G := fun j => U64 (Sha.comp false (gb (((Sha.full 384 s).drop (128 * t)).take 128)) (Sha.st 384 (gb (Sha.full 384 s)) t) j)) (ex (pt b_h 0) s4_9) ea oc ShaST.sz88 r_b_h om ?_
         clear r_b_h; intro w50 r_b_h hg51 _
         replace r_b_h := r_b_h.congr (g := fun j => U64 (Sha.comp false (gb (((Sha.full 384 s).drop (128 * t)).take 128)) (Sha.st 384 (gb (Sha.full 384 s)) t) j)) (fun j hj => by rw [if_pos ⟨Nat.zero_le _, by omega⟩]; first | rfl | (simp only [Nat.sub_zero]))
         replace o_vd := o_vd.stepG hg51 no_vd_b_h
         replace r_rp := r_rp.stepG hg51 om
         replace r_g := r_g.stepG hg51 om
         replace r_b_18 := r_b_18.stepG hg51 om
         replace r_g47 := r_g47.stepG hg51 om
         replace hk := thenG hk hg51 om
         refine wpList_nil (inb_n (then_n (wp_region_lit (w_mv (ei s4_10) (w_mv (ex (pt rp 0) s4_0) (w_val (y_nc (ex (pt rp 0))) (w_val (v := pt rp 2) (y_off (y_fa (ex (pt rp 0)) (ShaST.fa90_2 _ _)) ro) (w_val (v := .int .i64 128) (y_ld (ex (pt rp 2)) ShaST.sc3 (r_rp.val om (ng (ng pz)))) (w_val (y_bin ei ei (b_add om)) (w_as ei (wpList_nil ?_)))))))))))
         exact then_n ⟨_, om, t + 1, vd, rfl, _, rfl, iv, s4_0, s4_4, s4_5, s4_9, (Eq.trans (b := .int .i64 ((((128 * t) : Nat) : Int) + 128)) rfl (by congr 1)), r_rp, r_g, r_b_18, (r_b_h.congr (fun j hj => by exact congrArg U64 (congrFun (Sha.st_next 384 (gb (Sha.full 384 s)) (gb (((Sha.full 384 s).drop (128 * t)).take 128)) t (fun i hi => by rw [gb_take _ _ _ (show i < 128 from hi), gb_drop]; rfl)) j))), o_vd, no_vd_rp, no_vd_g, no_vd_b_18, no_vd_b_h, hk⟩
        ·skip
         refine wp_exit (then_x ?_)
         replace r_b_h := r_b_h.congr (g := fun j => U64 (Sha.st 384 (gb (Sha.full 384 s)) (Sha.nb 384 s) j)) (fun j hj => by rw [show t = Sha.nb 384 s from by omega])
         refine then_x (inb_x (then_n (sr (w_as Ev.c (nt (sr (w_mv (ex (pt rp 0) s4_0) (w_val (y_nc (ex (pt rp 0))) (w_val (v := pt rp 2) (y_off (y_fa (ex (pt rp 0)) (ShaST.fa90_2 _ _)) ro) (w_val (v := .int .i64 128) (y_ld (ex (pt rp 2)) ShaST.sc3 (r_rp.val om (ng (ng pz)))) (w_val (y_bin ei Ev.c (b_quo om)) (w_as ei (nt (wp_seq (sr (w_as Ev.c (nt (wp_block ?_))))))))))))))))))
         refine c_loop (fun dN aN wl => ∃ (a : Nat) (ve : Value) (wd : Value), dN = (8 - a) ∧ ∃ f52, aN = fr 132 f52 ∧ (a ≤ 8) ∧ f52 0 = pt rp 0 ∧ f52 4 = .string (str ([] : List (BitVec 8))) ∧ f52 5 = wd ∧ f52 9 = pt b_h 0 ∧ f52 11 = ve ∧ f52 12 = .int .i64 8 ∧ f52 13 = .int .i64 ((a : Nat) : Int) ∧ Row wl rp 90 25 (Sha.rrow (.int .i64 384) (.int .i64 48) (.int .i64 128) (.int .i64 80) (.slice (some ⟨g, 0, none⟩) 80 cap) (Sha.H0 384) (fun i => U64 (BitVec.ofNat 64 (Sha.trn false i)))) ∧ Row wl g 58 80 (fun j => U64 (Sha.K false j)) ∧ Row wl b_18 5 1 (fun j => U8 (128#8)) ∧ Row wl b_h 88 8 (fun j => U64 (Sha.st 384 (gb (Sha.full 384 s)) (Sha.nb 384 s) j)) ∧ Own wl w0.heap.size 5 1 ve (8 * a) (fun j => U8 ((Sha.st 384 (gb (Sha.full 384 s)) (Sha.nb 384 s) (j / 8) >>> (8 * (7 - j % 8))).setWidth 8)) ∧ ve.ownBlock ≠ some rp ∧ ve.ownBlock ≠ some g ∧ ve.ownBlock ≠ some b_18 ∧ ve.ownBlock ≠ some b_h ∧ (∀ g, ve.ownBlock = some g → wd.ownBlock ≠ some g) ∧ Own wl w0.heap.size 5 1 wd (s.length + 1 + ((239 - s.length % 128) % 128) + 16) (fun j => U8 (gb (Sha.full 384 s) j)) ∧ wd.ownBlock ≠ some rp ∧ wd.ownBlock ≠ some g ∧ wd.ownBlock ≠ some b_18 ∧ wd.ownBlock ≠ some b_h ∧ (∀ g, wd.ownBlock = some g → ve.ownBlock ≠ some g) ∧ Below w0.heap.size w0 wl) (8 - 0) ?_ ?_
         · exact ⟨0, (.slice none 0 0), vd, rfl, _, rfl, iv, s4_0, s4_4, (Eq.trans (b := vd) s4_5 dv), s4_9, (etv (b := .slice none 0 0) rfl), rfl, ti, r_rp, r_g, r_b_18, r_b_h, Own.nil, (fun e => by cases e), (fun e => by cases e), (fun e => by cases e), (fun e => by cases e), (fun g e => by cases e), o_vd, no_vd_rp, no_vd_g, no_vd_b_18, no_vd_b_h, (fun g _ e => by cases e), hk⟩
         ·skip
          clear r_rp r_g r_b_18 r_b_h o_vd hk
          rintro _ _ w53 ⟨a, ve, wd, rfl, f52, rfl, i5_0, s5_0, s5_4, s5_5, s5_9, s5_11, s5_12, s5_13, r_rp, r_g, r_b_18, r_b_h, o_ve, no_ve_rp, no_ve_g, no_ve_b_18, no_ve_b_h, sep_ve_wd, o_wd, no_wd_rp, no_wd_g, no_wd_b_18, no_wd_b_h, sep_wd_ve, hk⟩
          refine wp_seq (sr (w_mv (ei s5_13) (w_val (y_bin ei Ev.c b_lss) (nt ?_))))
          refine c_if (p := ((a : Nat) : Int) < 8) eb (fun hc54 => ?_) (fun hc54 => ?_)
          ·skip
           refine wp_skip (then_n (wp_seq (wp_block (sr (w_mv (ei s5_12) (w_val (y_bin ei Ev.c (b_sub om)) (w_as ei (nt (wp_block ?_)))))))))
           refine c_loop (fun dN aN wl => ∃ (b : Nat) (vf : Value) (we : Value), dN = (8 - b) ∧ ∃ f55, aN = fr 132 f55 ∧ (b ≤ 8) ∧ f55 0 = pt rp 0 ∧ f55 4 = .string (str ([] : List (BitVec 8))) ∧ f55 5 = we ∧ f55 9 = pt b_h 0 ∧ f55 11 = vf ∧ f55 12 = .int .i64 8 ∧ f55 13 = .int .i64 ((a : Nat) : Int) ∧ f55 14 = .int .i64 (7 - ((b : Nat) : Int)) ∧ Row wl rp 90 25 (Sha.rrow (.int .i64 384) (.int .i64 48) (.int .i64 128) (.int .i64 80) (.slice (some ⟨g, 0, none⟩) 80 cap) (Sha.H0 384) (fun i => U64 (BitVec.ofNat 64 (Sha.trn false i)))) ∧ Row wl g 58 80 (fun j => U64 (Sha.K false j)) ∧ Row wl b_18 5 1 (fun j => U8 (128#8)) ∧ Row wl b_h 88 8 (fun j => U64 (Sha.st 384 (gb (Sha.full 384 s)) (Sha.nb 384 s) j)) ∧ Own wl w0.heap.size 5 1 vf (8 * a + b) (fun j => U8 ((Sha.st 384 (gb (Sha.full 384 s)) (Sha.nb 384 s) (j / 8) >>> (8 * (7 - j % 8))).setWidth 8)) ∧ vf.ownBlock ≠ some rp ∧ vf.ownBlock ≠ some g ∧ vf.ownBlock ≠ some b_18 ∧ vf.ownBlock ≠ some b_h ∧ (∀ g, vf.ownBlock = some g → we.ownBlock ≠ some g) ∧ Own wl w0.heap.size 5 1 we (s.length + 1 + ((239 - s.length % 128) % 128) + 16) (fun j => U8 (gb (Sha.full 384 s) j)) ∧ we.ownBlock ≠ some rp ∧ we.ownBlock ≠ some g ∧ we.ownBlock ≠ some b_18 ∧ we.ownBlock ≠ some b_h ∧ (∀ g, we.ownBlock = some g → vf.ownBlock ≠ some g) ∧ Below w0.heap.size w0 wl) (8 - 0) ?_ ?_
           · exact ⟨0, ve, wd, rfl, _, rfl, iv, s5_0, s5_4, (Eq.trans (b := wd) s5_5 dv), s5_9, (Eq.trans (b := ve) s5_11 dv), s5_12, s5_13, (Eq.trans (b := .int .i64 7) rfl (by rfl)), r_rp, r_g, r_b_18, r_b_h, (own_n (o_ve.cg) om), no_ve_rp, no_ve_g, no_ve_b_18, no_ve_b_h, sep_ve_wd, o_wd, no_wd_rp, no_wd_g, no_wd_b_18, no_wd_b_h, sep_wd_ve, hk⟩
           ·skip
            clear r_rp r_g r_b_18 r_b_h o_ve o_wd hk
            rintro _ _ w56 ⟨b, vf, we, rfl, f55, rfl, i6_0, s6_0, s6_4, s6_5, s6_9, s6_11, s6_12, s6_13, s6_14, r_rp, r_g, r_b_18, r_b_h, o_vf, no_vf_rp, no_vf_g, no_vf_b_18, no_vf_b_h, sep_vf_we, o_we, no_we_rp, no_we_g, no_we_b_18, no_we_b_h, sep_we_vf, hk⟩
            refine wp_seq (sr (w_mv (ei s6_14) (w_val (y_bin ei Ev.c b_geq) (nt ?_))))
            refine c_if (p := 0 ≤ (7 - ((b : Nat) : Int))) eb (fun hc57 => ?_) (fun hc57 => ?_)
            ·skip
             refine wp_skip (then_n (wp_seq (wp_block (wp_region_lit (w_mv (ex vf s6_11) (w_mv (ei s6_13) (w_val (y_ia1z (i := a) (ex (pt b_h 0) s6_9) ei Tryd.underlying88 ShaST.sz58 om om) (w_val (v := U64 (Sha.st 384 (gb (Sha.full 384 s)) (Sha.nb 384 s) a)) (y_ld (ex (pt b_h a)) ShaST.sc58 (r_b_h.val om rfl)) (w_mv (ei s6_14) (w_val (y_bin Ev.c ei (b_mul om)) (w_val (y_nat_u64 (p := (8 * (7 - b))) ei om ShaST.so3 Tryd.underlying85) (w_val (y_bin e6 e6 (shr64 (c := (8 * (7 - b))) (by rw [BitVec.toNat_ofNat]; omega))) (w_val (y_u64_u8 e6 ShaST.so58 Tryd.underlying5) (w_bs1 (m := 1) (e := 5) (F := fun j => U8 (((Sha.st 384 (gb (Sha.full 384 s)) (Sha.nb 384 s) a) >>> (8 * (7 - b))).setWidth 8)) e8 (fun w => by kernel_rfl) ?_))))))))))))))
             intro b_123 w58 hbe_b_123 r_b_123 hb59
             have ne_rp_b_123 := r_rp.nb hbe_b_123
             have ne_g_b_123 := r_g.nb hbe_b_123
             have ne_b_18_b_123 := r_b_18.nb hbe_b_123
             have ne_b_h_b_123 := r_b_h.nb hbe_b_123
             have no_vf_b_123 : vf.ownBlock ≠ some b_123 := o_vf.apart om
             have no_we_b_123 : we.ownBlock ≠ some b_123 := o_we.apart om
             have ge_b_123 := gb_ hk.size hbe_b_123
             clear hbe_b_123
             replace o_vf := o_vf.step hb59
             replace o_we := o_we.step hb59
             replace r_rp := r_rp.step hb59
             replace r_g := r_g.step hb59
             replace r_b_18 := r_b_18.step hb59
             replace r_b_h := r_b_h.step hb59
             replace hk := thenB hk hb59
             refine w_app (k := (8 * a + b)) (m := 1) (size := 1) (bytes := 1) (ex vf) el Tryd.underlying63 kr (by decide) o_vf hk.size r_b_123 om oca (by simp only [maxLen]; omega) om ?_
             intro v60 w61 o_v60 hg62 hv63
             have sep_we_v60 : ∀ g, we.ownBlock = some g → v60.ownBlock ≠ some g := sep_new sep_we_vf o_we hv63
             have sep_v60_we : ∀ g, v60.ownBlock = some g → we.ownBlock ≠ some g := sep_sym sep_we_v60
             replace o_we := o_we.stepO hg62 (sep_or sep_we_vf)
             have no_v60_rp := no_new no_vf_rp r_rp.lt hv63
             replace r_rp := r_rp.stepO hg62 no_vf_rp
             have no_v60_g := no_new no_vf_g r_g.lt hv63
             replace r_g := r_g.stepO hg62 no_vf_g
             have no_v60_b_18 := no_new no_vf_b_18 r_b_18.lt hv63
             replace r_b_18 := r_b_18.stepO hg62 no_vf_b_18
             have no_v60_b_h := no_new no_vf_b_h r_b_h.lt hv63
             replace r_b_h := r_b_h.stepO hg62 no_vf_b_h
             have no_v60_b_123 := no_new no_vf_b_123 r_b_123.lt hv63
             replace r_b_123 := r_b_123.stepO hg62 no_vf_b_123
             replace hk := thenO hk hg62 (fun g e => (o_vf.block_lt g e).2)
             clear o_vf
             refine w_as (ex v60) (wpList_nil (inb_n (then_n (wp_region_lit (w_mv (ei s6_14) (w_val (y_bin ei Ev.c (b_sub om)) (w_as ei (wpList_nil ?_))))))))
             exact then_n ⟨_, om, b + 1, v60, we, rfl, _, rfl, iv, s6_0, s6_4, s6_5, s6_9, rfl, s6_12, s6_13, (Eq.trans (b := .int .i64 ((7 - ((b : Nat) : Int)) - 1)) rfl (by congr 1; omega)), r_rp, r_g, r_b_18, r_b_h, (own_n (o_v60.congr (fun j hj => by (try dsimp only); by_cases e : j < (8 * a + b) * 1; (rw [if_pos e]); (rw [if_neg e]; exact congrArg U8 (by rw [show j / 8 = a from by omega, show j % 8 = b from by omega])))) om), no_v60_rp, no_v60_g, no_v60_b_18, no_v60_b_h, sep_v60_we, o_we, no_we_rp, no_we_g, no_we_b_18, no_we_b_h, sep_we_v60, hk⟩
            ·skip
             refine wp_exit (then_x (then_x (inb_x (inb_n (then_n (wp_region_lit (w_mv (ei s6_13) (w_val (y_bin ei Ev.c (b_add om)) (w_as ei (wpList_nil ?_))))))))))
             exact then_n ⟨_, om, a + 1, vf, we, rfl, _, rfl, iv, s6_0, s6_4, s6_5, s6_9, s6_11, s6_12, ti, r_rp, r_g, r_b_18, r_b_h, (own_n (o_vf.cg) om), no_vf_rp, no_vf_g, no_vf_b_18, no_vf_b_h, sep_vf_we, o_we, no_we_rp, no_we_g, no_we_b_18, no_we_b_h, sep_we_vf, hk⟩
          ·skip
           refine wp_exit (then_x (then_x (inb_x (then_n (wp_seq ?_)))))
           obtain ⟨g64, cap64, hv64, ge_g64, hc_g64, hob_g64, r_g64⟩ := o_ve.opened om
           have ne_rp_g64 : rp ≠ g64 := fun e => no_ve_rp (by rw [hob_g64, e])
           have ne_g_g64 : g ≠ g64 := fun e => no_ve_g (by rw [hob_g64, e])
           have ne_b_18_g64 : b_18 ≠ g64 := fun e => no_ve_b_18 (by rw [hob_g64, e])
           have ne_b_h_g64 : b_h ≠ g64 := fun e => no_ve_b_h (by rw [hob_g64, e])
           have no_wd_g64 : wd.ownBlock ≠ some g64 := fun e => sep_wd_ve _ e hob_g64
           refine wp_region_lit (w_mv (ex ve s5_11) (w_mv (ex (pt rp 0) s5_0) (w_val (y_nc (ex (pt rp 0))) (w_val (v := pt rp 1) (y_off (y_fa (ex (pt rp 0)) (ShaST.fa90_1 _ _)) ro) (w_val (v := .int .i64 48) (y_ld (ex (pt rp 1)) ShaST.sc3 (r_rp.val om (ng pz))) (w_val (v := .slice (some ⟨g64, 0, none⟩) 48 cap64) (y_slh (ex (.slice (some ⟨g64, 0, none⟩) (8 * a) cap64) (Eq.trans (b := ve) rfl hv64)) (evo.s ei) Tryd.underlying63 (bnd_h (h := 48) om om) ShaST.sz5) (w_val (y_str (l := Sha.sum 384 s) el (by rw [Sha.length_sum]; rfl) Tryd.underlying63 Tryd.underlying5 Tryd.underlying9 (fun j hj => (r_g64.val om (by rw [Sha.gb_sum _ _ _ (show j < Sha.ol 384 from hj), Nat.zero_add]; rfl)))) (w_as es (nt (wp_ret (fin_ret1 rfl es ?_)))))))))))
           exact ⟨rfl, hk⟩

theorem ruleSum_512 (rp g cap : Nat) (s : List (BitVec 8)) (hs : s.length ≤ 1099511627776) (w0 : World) (r_rp : Row w0 rp 90 25 (Sha.rrow (.int .i64 512) (.int .i64 64) (.int .i64 128) (.int .i64 80) (.slice (some ⟨g, 0, none⟩) 80 cap) (Sha.H0 512) (fun i => U64 (BitVec.ofNat 64 (Sha.trn false i))))) (r_g : Row w0 g 58 80 (fun j => U64 (Sha.K false j))) : Calls Tryd.prog 58 #[pt rp 0, .string (str s)] w0 fun e w' => e = .returned (.string (str (Sha.sum 512 s))) ∧ Below w0.heap.size w0 w' := by
 have hpl : Sha.padl 512 s.length = ((239 - s.length % 128) % 128) + 1 + 16 := by rw [Sha.padl_eq 512 128 _ rfl]
 have hnb : 128 * Sha.nb 512 s = s.length + Sha.padl 512 s.length := by have h := Sha.length_full 512 s; unfold Sha.full at h; rw [List.length_append, Sha.length_pad] at h; exact h.symm
 have hfl : (Sha.full 512 s).length = 128 * Sha.nb 512 s := Sha.length_full 512 s
 refine enter (n := 132) Tryd.func58 rfl rfl rfl ?_
 have hk : Below w0.heap.size w0 w0 := Below.refl _ _
 have lt_rp := r_rp.lt
 have lt_g := r_g.lt
 refine sr (w_as (evc (.string (str ([] : List (BitVec 8))))) (nt (sr (w_mv es (w_bytes_own es Tryd.underlying9 Tryd.underlying63 Tryd.underlying5 (by simp only [maxLen]; omega) hk.size ?_)))))
 intro v1 w2 o_v1 hv4 hb3
 have no_v1_rp : v1.ownBlock ≠ some rp := fun e1 => by rw [hv4] at e1; injection e1 with e1; have := r_rp.lt; omega
 have no_v1_g : v1.ownBlock ≠ some g := fun e1 => by rw [hv4] at e1; injection e1 with e1; have := r_g.lt; omega
 replace r_rp := r_rp.step hb3
 replace r_g := r_g.step hb3
 replace hk := thenB hk hb3
 refine w_as (ex v1) (nt (sr (w_mv (ex v1) (w_bs1 (m := 1) (e := 5) (F := fun j => U8 (128#8)) (evc (U8 (128#8))) (fun w => by kernel_rfl) ?_))))
 intro b_18 w5 hbe_b_18 r_b_18 hb6
 have ne_rp_b_18 := r_rp.nb hbe_b_18
 have ne_g_b_18 := r_g.nb hbe_b_18
 have no_v1_b_18 : v1.ownBlock ≠ some b_18 := o_v1.apart om
 have ge_b_18 := gb_ hk.size hbe_b_18
 clear hbe_b_18
 replace o_v1 := o_v1.step hb6
 replace r_rp := r_rp.step hb6
 replace r_g := r_g.step hb6
 replace hk := thenB hk hb6
 refine w_app (k := s.length) (m := 1) (size := 1) (bytes := 1) (ex v1) el Tryd.underlying63 kr (by decide) o_v1 hk.size r_b_18 om oca (by simp only [maxLen]; omega) om ?_
 intro v7 w8 o_v7 hg9 hv10
 have no_v7_rp := no_new no_v1_rp r_rp.lt hv10
 replace r_rp := r_rp.stepO hg9 no_v1_rp
 have no_v7_g := no_new no_v1_g r_g.lt hv10
 replace r_g := r_g.stepO hg9 no_v1_g
 have no_v7_b_18 := no_new no_v1_b_18 r_b_18.lt hv10
 replace r_b_18 := r_b_18.stepO hg9 no_v1_b_18
 replace hk := thenO hk hg9 (fun g e => (o_v1.block_lt g e).2)
 clear o_v1
 refine w_as (ex v7) (nt (wp_seq (wp_block ?_)))
 refine c_loop (fun dN aN wl => ∃ (z : Nat) (va : Value), dN = (((239 - s.length % 128) % 128) - z) ∧ ∃ f11, aN = fr 132 f11 ∧ (z ≤ ((239 - s.length % 128) % 128)) ∧ f11 0 = pt rp 0 ∧ f11 1 = .string (str s) ∧ f11 4 = .string (str ([] : List (BitVec 8))) ∧ f11 5 = va ∧ Row wl rp 90 25 (Sha.rrow (.int .i64 512) (.int .i64 64) (.int .i64 128) (.int .i64 80) (.slice (some ⟨g, 0, none⟩) 80 cap) (Sha.H0 512) (fun i => U64 (BitVec.ofNat 64 (Sha.trn false i)))) ∧ Row wl g 58 80 (fun j => U64 (Sha.K false j)) ∧ Row wl b_18 5 1 (fun j => U8 (128#8)) ∧ Own wl w0.heap.size 5 1 va (s.length + 1 + z) (fun j => U8 (gb (Sha.full 512 s) j)) ∧ va.ownBlock ≠ some rp ∧ va.ownBlock ≠ some g ∧ va.ownBlock ≠ some b_18 ∧ Below w0.heap.size w0 wl) (((239 - s.length % 128) % 128) - 0) ?_ ?_
 · exact ⟨0, v7, rfl, _, rfl, iv, rfl, rfl, rfl, (etv (b := v7) rfl), r_rp, r_g, r_b_18, (own_n (o_v7.congr (fun j hj => by (try dsimp only); by_cases e : j < s.length * 1; (rw [if_pos e, Sha.gb_full_lo _ _ _ om]); (rw [if_neg e]; exact congrArg U8 (Sha.full_80 512 s j om)))) om), no_v7_rp, no_v7_g, no_v7_b_18, hk⟩
 ·skip
  clear r_rp r_g r_b_18 o_v7 hk
  rintro _ _ w12 ⟨z, va, rfl, f11, rfl, i1_0, s1_0, s1_1, s1_4, s1_5, r_rp, r_g, r_b_18, o_va, no_va_rp, no_va_g, no_va_b_18, hk⟩
  refine ss (region_q ShaST.mixed kr (q_mv (ex va s1_5) (q_val (v := .int .i64 (((s.length + 1 + z) : Nat) : Int)) (fun w' hw' => y_len_own (ex va) o_va Tryd.underlying63) (q_mv (ex (pt rp 0) s1_0) (q_val (fun w' hw' => y_nc (ex (pt rp 0))) (q_val (v := pt rp 2) (fun w' hw' => y_off (y_fa (ex (pt rp 0)) (ShaST.fa90_2 _ _)) ro) (q_val (v := .int .i64 128) (fun w' hw' => y_ld (ex (pt rp 2)) ShaST.sc3 (cls_cell (r_rp.val om (ng (ng pz))) r_rp.lt w' hw')) (q_val (fun w' hw' => y_bin ei ei (b_rem om)) (q_mv (ex (pt rp 0) s1_0) (q_val (fun w' hw' => y_nc (ex (pt rp 0))) (q_val (v := pt rp 2) (fun w' hw' => y_off (y_fa (ex (pt rp 0)) (ShaST.fa90_2 _ _)) ro) (q_val (v := .int .i64 128) (fun w' hw' => y_ld (ex (pt rp 2)) ShaST.sc3 (cls_cell (r_rp.val om (ng (ng pz))) r_rp.lt w' hw')) (q_mv (ex (pt rp 0) s1_0) (q_val (fun w' hw' => y_nc (ex (pt rp 0))) (q_val (v := pt rp 2) (fun w' hw' => y_off (y_fa (ex (pt rp 0)) (ShaST.fa90_2 _ _)) ro) (q_val (v := .int .i64 128) (fun w' hw' => y_ld (ex (pt rp 2)) ShaST.sc3 (cls_cell (r_rp.val om (ng (ng pz))) r_rp.lt w' hw')) (q_val (fun w' hw' => y_bin ei Ev.c (b_quo om)) (q_val (fun w' hw' => y_bin ei ei (b_sub om)) (q_val (fun w' hw' => y_bin ei ei b_neq) (q_nil ?_))))))))))))))))))))
  intro w13 hb14
  replace o_va := o_va.step hb14
  replace r_rp := r_rp.step hb14
  replace r_g := r_g.step hb14
  replace r_b_18 := r_b_18.step hb14
  replace hk := thenB hk hb14
  refine then_n ?_
  refine c_if (p := ((((s.length + 1 + z) : Nat) : Int) % 128) ≠ 112) eb (fun hc15 => ?_) (fun hc15 => ?_)
  ·skip
   refine wp_skip (then_n (wp_block (wp_region_lit (w_mv (ex va s1_5) (w_bs1 (m := 1) (e := 5) (F := fun j => U8 (0#8)) (evc (U8 (0#8))) (fun w => by kernel_rfl) ?_)))))
   intro b_39 w16 hbe_b_39 r_b_39 hb17
   have ne_rp_b_39 := r_rp.nb hbe_b_39
   have ne_g_b_39 := r_g.nb hbe_b_39
   have ne_b_18_b_39 := r_b_18.nb hbe_b_39
   have no_va_b_39 : va.ownBlock ≠ some b_39 := o_va.apart om
   have ge_b_39 := gb_ hk.size hbe_b_39
   clear hbe_b_39
   replace o_va := o_va.step hb17
   replace r_rp := r_rp.step hb17
   replace r_g := r_g.step hb17
   replace r_b_18 := r_b_18.step hb17
   replace hk := thenB hk hb17
   refine w_app (k := (s.length + 1 + z)) (m := 1) (size := 1) (bytes := 1) (ex va) el Tryd.underlying63 kr (by decide) o_va hk.size r_b_39 om oca (by simp only [maxLen]; omega) om ?_
   intro v18 w19 o_v18 hg20 hv21
   have no_v18_rp := no_new no_va_rp r_rp.lt hv21
   replace r_rp := r_rp.stepO hg20 no_va_rp
   have no_v18_g := no_new no_va_g r_g.lt hv21
   replace r_g := r_g.stepO hg20 no_va_g
   have no_v18_b_18 := no_new no_va_b_18 r_b_18.lt hv21
   replace r_b_18 := r_b_18.stepO hg20 no_va_b_18
   have no_v18_b_39 := no_new no_va_b_39 r_b_39.lt hv21
   replace r_b_39 := r_b_39.stepO hg20 no_va_b_39
   replace hk := thenO hk hg20 (fun g e => (o_va.block_lt g e).2)
   clear o_va
   refine w_as (ex v18) (wpList_nil (inb_n ?_))
   exact then_n ⟨_, om, z + 1, v18, rfl, _, rfl, iv, s1_0, s1_1, s1_4, rfl, r_rp, r_g, r_b_18, (own_n (o_v18.congr (fun j hj => by (try dsimp only); by_cases e : j < (s.length + 1 + z) * 1; (rw [if_pos e]); (rw [if_neg e]; exact congrArg U8 (Sha.full_0 512 s j om om)))) om), no_v18_rp, no_v18_g, no_v18_b_18, hk⟩
  ·skip
   refine wp_exit (then_x (then_x (inb_x (then_n (wp_seq (sr (w_as Ev.c (nt (wp_block ?_)))))))))
   refine c_loop (fun dN aN wl => ∃ (y : Nat) (vb : Value), dN = (8 - y) ∧ ∃ f22, aN = fr 132 f22 ∧ (y ≤ 8) ∧ f22 0 = pt rp 0 ∧ f22 1 = .string (str s) ∧ f22 4 = .string (str ([] : List (BitVec 8))) ∧ f22 5 = vb ∧ f22 6 = .int .i64 ((y : Nat) : Int) ∧ Row wl rp 90 25 (Sha.rrow (.int .i64 512) (.int .i64 64) (.int .i64 128) (.int .i64 80) (.slice (some ⟨g, 0, none⟩) 80 cap) (Sha.H0 512) (fun i => U64 (BitVec.ofNat 64 (Sha.trn false i)))) ∧ Row wl g 58 80 (fun j => U64 (Sha.K false j)) ∧ Row wl b_18 5 1 (fun j => U8 (128#8)) ∧ Own wl w0.heap.size 5 1 vb (s.length + 1 + ((239 - s.length % 128) % 128) + y) (fun j => U8 (gb (Sha.full 512 s) j)) ∧ vb.ownBlock ≠ some rp ∧ vb.ownBlock ≠ some g ∧ vb.ownBlock ≠ some b_18 ∧ Below w0.heap.size w0 wl) (8 - 0) ?_ ?_
   · exact ⟨0, va, rfl, _, rfl, iv, s1_0, s1_1, s1_4, (Eq.trans (b := va) s1_5 dv), ti, r_rp, r_g, r_b_18, (own_n (o_va.cg) om), no_va_rp, no_va_g, no_va_b_18, hk⟩
   ·skip
    clear r_rp r_g r_b_18 o_va hk
    rintro _ _ w23 ⟨y, vb, rfl, f22, rfl, i2_0, s2_0, s2_1, s2_4, s2_5, s2_6, r_rp, r_g, r_b_18, o_vb, no_vb_rp, no_vb_g, no_vb_b_18, hk⟩
    refine wp_seq (sr (w_mv (ei s2_6) (w_mv (ex (pt rp 0) s2_0) (w_val (y_nc (ex (pt rp 0))) (w_val (v := pt rp 2) (y_off (y_fa (ex (pt rp 0)) (ShaST.fa90_2 _ _)) ro) (w_val (v := .int .i64 128) (y_ld (ex (pt rp 2)) ShaST.sc3 (r_rp.val om (ng (ng pz)))) (w_val (y_bin ei Ev.c (b_quo om)) (w_val (y_bin ei Ev.c (b_sub om)) (w_val (y_bin ei ei b_lss) (nt ?_))))))))))
    refine c_if (p := ((y : Nat) : Int) < 8) eb (fun hc24 => ?_) (fun hc24 => ?_)
    ·skip
     refine wp_skip (then_n (wp_seq (wp_block (wp_region_lit (w_mv (ex vb s2_5) (w_bs1 (m := 1) (e := 5) (F := fun j => U8 (0#8)) (evc (U8 (0#8))) (fun w => by kernel_rfl) ?_))))))
     intro b_52 w25 hbe_b_52 r_b_52 hb26
     have ne_rp_b_52 := r_rp.nb hbe_b_52
     have ne_g_b_52 := r_g.nb hbe_b_52
     have ne_b_18_b_52 := r_b_18.nb hbe_b_52
     have no_vb_b_52 : vb.ownBlock ≠ some b_52 := o_vb.apart om
     have ge_b_52 := gb_ hk.size hbe_b_52
     clear hbe_b_52
     replace o_vb := o_vb.step hb26
     replace r_rp := r_rp.step hb26
     replace r_g := r_g.step hb26
     replace r_b_18 := r_b_18.step hb26
     replace hk := thenB hk hb26
     refine w_app (k := (s.length + 1 + ((239 - s.length % 128) % 128) + y)) (m := 1) (size := 1) (bytes := 1) (ex vb) el Tryd.underlying63 kr (by decide) o_vb hk.size r_b_52 om oca (by simp only [maxLen]; omega) om ?_
     intro v27 w28 o_v27 hg29 hv30
     have no_v27_rp := no_new no_vb_rp r_rp.lt hv30
     replace r_rp := r_rp.stepO hg29 no_vb_rp
     have no_v27_g := no_new no_vb_g r_g.lt hv30
     replace r_g := r_g.stepO hg29 no_vb_g
     have no_v27_b_18 := no_new no_vb_b_18 r_b_18.lt hv30
     replace r_b_18 := r_b_18.stepO hg29 no_vb_b_18
     have no_v27_b_52 := no_new no_vb_b_52 r_b_52.lt hv30
     replace r_b_52 := r_b_52.stepO hg29 no_vb_b_52
     replace hk := thenO hk hg29 (fun g e => (o_vb.block_lt g e).2)
     clear o_vb
     refine w_as (ex v27) (wpList_nil (inb_n (then_n (wp_region_lit (w_mv (ei s2_6) (w_val (y_bin ei Ev.c (b_add om)) (w_as ei (wpList_nil ?_))))))))
     exact then_n ⟨_, om, y + 1, v27, rfl, _, rfl, iv, s2_0, s2_1, s2_4, rfl, ti, r_rp, r_g, r_b_18, (own_n (o_v27.congr (fun j hj => by first | (exfalso; omega) | ((try dsimp only); by_cases e : j < (s.length + 1 + ((239 - s.length % 128) % 128) + y) * 1; (rw [if_pos e]); (rw [if_neg e]; exact congrArg U8 (Sha.full_0 512 s j om om))))) om), no_v27_rp, no_v27_g, no_v27_b_18, hk⟩
    ·skip
     refine wp_exit (then_x (then_x (inb_x (then_n (sr (w_mv (es s2_1) (w_val (y_len es Tryd.underlying9) (w_val (y_nat_u64 (p := s.length) ei om ShaST.so3 Tryd.underlying58) (w_val (y_bin e6 (evc (U64 (8#64))) mul64) (w_as e6 (nt (wp_seq (sr (w_as Ev.c (nt (wp_block ?_))))))))))))))))
     refine c_loop (fun dN aN wl => ∃ (x : Nat) (vc : Value), dN = (8 - x) ∧ ∃ f31, aN = fr 132 f31 ∧ (x ≤ 8) ∧ f31 0 = pt rp 0 ∧ f31 4 = .string (str ([] : List (BitVec 8))) ∧ f31 5 = vc ∧ f31 7 = U64 ((BitVec.ofNat 64 s.length) * (8#64)) ∧ f31 8 = .int .i64 ((x : Nat) : Int) ∧ Row wl rp 90 25 (Sha.rrow (.int .i64 512) (.int .i64 64) (.int .i64 128) (.int .i64 80) (.slice (some ⟨g, 0, none⟩) 80 cap) (Sha.H0 512) (fun i => U64 (BitVec.ofNat 64 (Sha.trn false i)))) ∧ Row wl g 58 80 (fun j => U64 (Sha.K false j)) ∧ Row wl b_18 5 1 (fun j => U8 (128#8)) ∧ Own wl w0.heap.size 5 1 vc (s.length + 1 + ((239 - s.length % 128) % 128) + 8 + x) (fun j => U8 (gb (Sha.full 512 s) j)) ∧ vc.ownBlock ≠ some rp ∧ vc.ownBlock ≠ some g ∧ vc.ownBlock ≠ some b_18 ∧ Below w0.heap.size w0 wl) (8 - 0) ?_ ?_
     · exact ⟨0, vb, rfl, _, rfl, iv, s2_0, s2_4, (Eq.trans (b := vb) s2_5 dv), rfl, ti, r_rp, r_g, r_b_18, (own_n (o_vb.cg) om), no_vb_rp, no_vb_g, no_vb_b_18, hk⟩
     ·skip
      clear r_rp r_g r_b_18 o_vb hk
      rintro _ _ w32 ⟨x, vc, rfl, f31, rfl, i3_0, s3_0, s3_4, s3_5, s3_7, s3_8, r_rp, r_g, r_b_18, o_vc, no_vc_rp, no_vc_g, no_vc_b_18, hk⟩
      refine wp_seq (sr (w_mv (ei s3_8) (w_val (y_bin ei Ev.c b_lss) (nt ?_))))
      refine c_if (p := ((x : Nat) : Int) < 8) eb (fun hc33 => ?_) (fun hc33 => ?_)
      ·skip
       refine wp_skip (then_n (wp_seq (wp_block (wp_region_lit (w_mv (ex vc s3_5) (w_mv (e6 s3_7) (w_mv (ei s3_8) (w_val (y_bin Ev.c ei (b_mul om)) (w_val (y_bin Ev.c ei (b_sub om)) (w_val (y_nat_u64 (p := (56 - (8 * x))) ei om ShaST.so3 Tryd.underlying85) (w_val (y_bin e6 e6 (shr64 (c := (56 - (8 * x))) (by rw [BitVec.toNat_ofNat]; omega))) (w_val (y_u64_u8 e6 ShaST.so58 Tryd.underlying5) (w_bs1 (m := 1) (e := 5) (F := fun j => U8 ((((BitVec.ofNat 64 s.length) * (8#64)) >>> (56 - (8 * x))).setWidth 8)) e8 (fun w => by kernel_rfl) ?_)))))))))))))
       intro b_70 w34 hbe_b_70 r_b_70 hb35
       have ne_rp_b_70 := r_rp.nb hbe_b_70
       have ne_g_b_70 := r_g.nb hbe_b_70
       have ne_b_18_b_70 := r_b_18.nb hbe_b_70
       have no_vc_b_70 : vc.ownBlock ≠ some b_70 := o_vc.apart om
       have ge_b_70 := gb_ hk.size hbe_b_70
       clear hbe_b_70
       replace o_vc := o_vc.step hb35
       replace r_rp := r_rp.step hb35
       replace r_g := r_g.step hb35
       replace r_b_18 := r_b_18.step hb35
       replace hk := thenB hk hb35
       refine w_app (k := (s.length + 1 + ((239 - s.length % 128) % 128) + 8 + x)) (m := 1) (size := 1) (bytes := 1) (ex vc) el Tryd.underlying63 kr (by decide) o_vc hk.size r_b_70 om oca (by simp only [maxLen]; omega) om ?_
       intro v36 w37 o_v36 hg38 hv39
       have no_v36_rp := no_new no_vc_rp r_rp.lt hv39
       replace r_rp := r_rp.stepO hg38 no_vc_rp
       have no_v36_g := no_new no_vc_g r_g.lt hv39
       replace r_g := r_g.stepO hg38 no_vc_g
       have no_v36_b_18 := no_new no_vc_b_18 r_b_18.lt hv39
       replace r_b_18 := r_b_18.stepO hg38 no_vc_b_18
       have no_v36_b_70 := no_new no_vc_b_70 r_b_70.lt hv39
       replace r_b_70 := r_b_70.stepO hg38 no_vc_b_70
       replace hk := thenO hk hg38 (fun g e => (o_vc.block_lt g e).2)
       clear o_vc
       refine w_as (ex v36) (wpList_nil (inb_n (then_n (wp_region_lit (w_mv (ei s3_8) (w_val (y_bin ei Ev.c (b_add om)) (w_as ei (wpList_nil ?_))))))))
       exact then_n ⟨_, om, x + 1, v36, rfl, _, rfl, iv, s3_0, s3_4, rfl, s3_7, ti, r_rp, r_g, r_b_18, (own_n (o_v36.congr (fun j hj => by (try dsimp only); by_cases e : j < (s.length + 1 + ((239 - s.length % 128) % 128) + 8 + x) * 1; (rw [if_pos e]); (rw [if_neg e]; exact congrArg U8 (Sha.full_n 512 s x j om om)))) om), no_v36_rp, no_v36_g, no_v36_b_18, hk⟩
      ·skip
       refine wp_exit (then_x (then_x (inb_x (then_n (sr (w_mv (ex (pt rp 0) s3_0) (w_val (y_nc (ex (pt rp 0))) (w_val (v := pt rp 5) (y_off (y_fa (ex (pt rp 0)) (ShaST.fa90_5 _ _)) ro) (w_val (v := .agg (arr 8 (fun j => U64 ((Sha.H0 512) j)))) (y_lda (ex (pt rp 5)) ShaST.ag88 ShaST.sz88 (fun j hj => (r_rp.val om (by first | with_reducible rfl | exact (ng (ng (ng (ng (ng pz))))))))) (w_alloc (m := 8) (F := fun j => U64 (0#64)) kr ?_))))))))))
       intro b_h w40 hbe_b_h r_b_h hb41
       have ne_rp_b_h := r_rp.nb hbe_b_h
       have ne_g_b_h := r_g.nb hbe_b_h
       have ne_b_18_b_h := r_b_18.nb hbe_b_h
       have no_vc_b_h : vc.ownBlock ≠ some b_h := o_vc.apart om
       have ge_b_h := gb_ hk.size hbe_b_h
       clear hbe_b_h
       replace o_vc := o_vc.step hb41
       replace r_rp := r_rp.step hb41
       replace r_g := r_g.step hb41
       replace r_b_18 := r_b_18.step hb41
       replace hk := thenB hk hb41
       refine w_sta (k := 8) (G := fun j => U64 ((Sha.H0 512) j)) (ex (pt b_h 0)) ea oc ShaST.sz88 r_b_h om ?_
       clear r_b_h; intro w42 r_b_h hg43 _
       replace r_b_h := r_b_h.congr (g := fun j => U64 ((Sha.H0 512) j)) (fun j hj => by rw [if_pos ⟨Nat.zero_le _, by omega⟩]; first | rfl | (simp only [Nat.sub_zero]))
       replace o_vc := o_vc.stepG hg43 no_vc_b_h
       replace r_rp := r_rp.stepG hg43 om
       replace r_g := r_g.stepG hg43 om
       replace r_b_18 := r_b_18.stepG hg43 om
       replace hk := thenG hk hg43 om
       refine nt (wp_seq (sr (w_as Ev.c (nt (wp_block ?_)))))
       refine c_loop (fun dN aN wl => ∃ (t : Nat) (vd : Value), dN = (Sha.nb 512 s - t) ∧ ∃ f44, aN = fr 132 f44 ∧ (t ≤ Sha.nb 512 s) ∧ f44 0 = pt rp 0 ∧ f44 4 = .string (str ([] : List (BitVec 8))) ∧ f44 5 = vd ∧ f44 9 = pt b_h 0 ∧ f44 10 = .int .i64 (((128 * t) : Nat) : Int) ∧ Row wl rp 90 25 (Sha.rrow (.int .i64 512) (.int .i64 64) (.int .i64 128) (.int .i64 80) (.slice (some ⟨g, 0, none⟩) 80 cap) (Sha.H0 512) (fun i => U64 (BitVec.ofNat 64 (Sha.trn false i)))) ∧ Row wl g 58 80 (fun j => U64 (Sha.K false j)) ∧ Row wl b_18 5 1 (fun j => U8 (128#8)) ∧ Row wl b_h 88 8 (fun j => U64 (Sha.st 512 (gb (Sha.full 512 s)) t j)) ∧ Own wl w0.heap.size 5 1 vd (s.length + 1 + ((239 - s.length % 128) % 128) + 16) (fun j => U8 (gb (Sha.full 512 s) j)) ∧ vd.ownBlock ≠ some rp ∧ vd.ownBlock ≠ some g ∧ vd.ownBlock ≠ some b_18 ∧ vd.ownBlock ≠ some b_h ∧ Below w0.heap.size w0 wl) (Sha.nb 512 s - 0) ?_ ?_
       · exact ⟨0, vc, rfl, _, rfl, iv, s3_0, s3_4, (Eq.trans (b := vc) s3_5 dv), rfl, (Eq.trans (b := .int .i64 0) rfl (by rfl)), r_rp, r_g, r_b_18, (r_b_h.congr (fun j hj => by rfl)), (own_n (o_vc.cg) om), no_vc_rp, no_vc_g, no_vc_b_18, no_vc_b_h, hk⟩
       ·skip
        clear r_rp r_g r_b_18 r_b_h o_vc hk
        rintro _ _ w45 ⟨t, vd, rfl, f44, rfl, i4_0, s4_0, s4_4, s4_5, s4_9, s4_10, r_rp, r_g, r_b_18, r_b_h, o_vd, no_vd_rp, no_vd_g, no_vd_b_18, no_vd_b_h, hk⟩
        have hlt : t < Sha.nb 512 s → (((Sha.full 512 s).drop (128 * t)).take 128).length = 128 := fun h => by rw [List.length_take, List.length_drop, hfl]; omega
        refine wp_seq (sr (w_mv (ei s4_10) (w_mv (ex vd s4_5) (w_val (v := .int .i64 (((s.length + 1 + ((239 - s.length % 128) % 128) + 16) : Nat) : Int)) (y_len_own (ex vd) o_vd Tryd.underlying63) (w_val (y_bin ei ei b_lss) (nt ?_))))))
        refine c_if (p := (((128 * t) : Nat) : Int) < (((s.length + 1 + ((239 - s.length % 128) % 128) + 16) : Nat) : Int)) eb (fun hc46 => ?_) (fun hc46 => ?_)
        ·skip
         refine wp_skip (then_n (wp_seq (wp_block ?_)))
         obtain ⟨g47, cap47, hv47, ge_g47, hc_g47, hob_g47, r_g47⟩ := o_vd.opened om
         have ne_rp_g47 : rp ≠ g47 := fun e => no_vd_rp (by rw [hob_g47, e])
         have ne_g_g47 : g ≠ g47 := fun e => no_vd_g (by rw [hob_g47, e])
         have ne_b_18_g47 : b_18 ≠ g47 := fun e => no_vd_b_18 (by rw [hob_g47, e])
         have ne_b_h_g47 : b_h ≠ g47 := fun e => no_vd_b_h (by rw [hob_g47, e])
         refine region_t 13 ShaST.mixed kr ?_
         simp only [List.take_succ_cons, List.take_zero, List.drop_succ_cons, List.drop_zero]
         refine q_mv (ex (pt rp 0) s4_0) (q_val (v := .agg (arr 8 (fun j => U64 (Sha.st 512 (gb (Sha.full 512 s)) t j)))) (fun w' hw' => y_lda (ex (pt b_h 0) s4_9) ShaST.ag88 ShaST.sz88 (fun j hj => by rw [Nat.zero_add]; exact (cls_cell (r_b_h.cell om) r_b_h.lt w' hw'))) (q_mv (ex vd s4_5) (q_mv (ei s4_10) (q_mv (ei s4_10) (q_mv (ex (pt rp 0) s4_0) (q_val (fun w' hw' => y_nc (ex (pt rp 0))) (q_val (v := pt rp 2) (fun w' hw' => y_off (y_fa (ex (pt rp 0)) (ShaST.fa90_2 _ _)) ro) (q_val (v := .int .i64 128) (fun w' hw' => y_ld (ex (pt rp 2)) ShaST.sc3 (cls_cell (r_rp.val om (ng (ng pz))) r_rp.lt w' hw')) (q_val (fun w' hw' => y_bin ei ei (b_add om)) (q_val (v := .slice (some ⟨g47, (128 * t), none⟩) (((128 * t) + 128) - (128 * t)) (cap47 - (128 * t))) (fun w' hw' => y_sloff (y_slv (ex (.slice (some ⟨g47, 0, none⟩) (s.length + 1 + ((239 - s.length % 128) % 128) + 16) cap47) (Eq.trans (b := vd) rfl hv47)) (evo.s ei) (evo.s ei) Tryd.underlying63 ShaST.sz5 (bnd_lh (l := (128 * t)) (h := ((128 * t) + 128)) om om om om) om) ro rfl) (q_val (fun w' hw' => y_str (l := ((Sha.full 512 s).drop (128 * t)).take 128) el (by rw [List.length_take, List.length_drop, hfl]; omega) Tryd.underlying63 Tryd.underlying5 Tryd.underlying9 (fun j hj => (cls_cell (r_g47.val om (by rw [gb_take _ _ _ (show j < 128 by omega), gb_drop])) r_g47.lt w' hw'))) (q_call (v := .agg (arr 8 (fun j => U64 (Sha.comp false (gb (((Sha.full 512 s).drop (128 * t)).take 128)) (Sha.st 512 (gb (Sha.full 512 s)) t) j)))) (Tryd.func78) kr rfl (m3 (ex (pt rp 0)) ea es) (fun w' hw' => block_f rp 64 g cap (Sha.H0 512) 512 (by decide) (Sha.st 512 (gb (Sha.full 512 s)) t) (((Sha.full 512 s).drop (128 * t)).take 128) (hlt om) w' (r_rp.step hw') (r_g.step hw')) (q_nil ?_)))))))))))))
         intro w48 hb49
         replace o_vd := o_vd.step hb49
         replace r_rp := r_rp.step hb49
         replace r_g := r_g.step hb49
         replace r_b_18 := r_b_18.step hb49
         replace r_b_h := r_b_h.step hb49
         replace r_g47 := r_g47.step hb49
         replace hk := thenB hk hb49
         refine w_sta (k := 8) (G := fun j => U64 (Sha.comp false (gb (((Sha.full 512 s).drop (128 * t)).take 128)) (Sha.st 512 (gb (Sha.full 512 s)) t) j)) (ex (pt b_h 0) s4_9) ea oc ShaST.sz88 r_b_h om ?_
         clear r_b_h; intro w50 r_b_h hg51 _
         replace r_b_h := r_b_h.congr (g := fun j => U64 (Sha.comp false (gb (((Sha.full 512 s).drop (128 * t)).take 128)) (Sha.st 512 (gb (Sha.full 512 s)) t) j)) (fun j hj => by rw [if_pos ⟨Nat.zero_le _, by omega⟩]; first | rfl | (simp only [Nat.sub_zero]))
         replace o_vd := o_vd.stepG hg51 no_vd_b_h
         replace r_rp := r_rp.stepG hg51 om
         replace r_g := r_g.stepG hg51 om
         replace r_b_18 := r_b_18.stepG hg51 om
         replace r_g47 := r_g47.stepG hg51 om
         replace hk := thenG hk hg51 om
         refine wpList_nil (inb_n (then_n (wp_region_lit (w_mv (ei s4_10) (w_mv (ex (pt rp 0) s4_0) (w_val (y_nc (ex (pt rp 0))) (w_val (v := pt rp 2) (y_off (y_fa (ex (pt rp 0)) (ShaST.fa90_2 _ _)) ro) (w_val (v := .int .i64 128) (y_ld (ex (pt rp 2)) ShaST.sc3 (r_rp.val om (ng (ng pz)))) (w_val (y_bin ei ei (b_add om)) (w_as ei (wpList_nil ?_)))))))))))
         exact then_n ⟨_, om, t + 1, vd, rfl, _, rfl, iv, s4_0, s4_4, s4_5, s4_9, (Eq.trans (b := .int .i64 ((((128 * t) : Nat) : Int) + 128)) rfl (by congr 1)), r_rp, r_g, r_b_18, (r_b_h.congr (fun j hj => by exact congrArg U64 (congrFun (Sha.st_next 512 (gb (Sha.full 512 s)) (gb (((Sha.full 512 s).drop (128 * t)).take 128)) t (fun i hi => by rw [gb_take _ _ _ (show i < 128 from hi), gb_drop]; rfl)) j))), o_vd, no_vd_rp, no_vd_g, no_vd_b_18, no_vd_b_h, hk⟩
        ·skip
         refine wp_exit (then_x ?_)
         replace r_b_h := r_b_h.congr (g := fun j => U64 (Sha.st 512 (gb (Sha.full 512 s)) (Sha.nb 512 s) j)) (fun j hj => by rw [show t = Sha.nb 512 s from by omega])
         refine then_x (inb_x (then_n (sr (w_as Ev.c (nt (sr (w_mv (ex (pt rp 0) s4_0) (w_val (y_nc (ex (pt rp 0))) (w_val (v := pt rp 2) (y_off (y_fa (ex (pt rp 0)) (ShaST.fa90_2 _ _)) ro) (w_val (v := .int .i64 128) (y_ld (ex (pt rp 2)) ShaST.sc3 (r_rp.val om (ng (ng pz)))) (w_val (y_bin ei Ev.c (b_quo om)) (w_as ei (nt (wp_seq (sr (w_as Ev.c (nt (wp_block ?_))))))))))))))))))
         refine c_loop (fun dN aN wl => ∃ (a : Nat) (ve : Value) (wd : Value), dN = (8 - a) ∧ ∃ f52, aN = fr 132 f52 ∧ (a ≤ 8) ∧ f52 0 = pt rp 0 ∧ f52 4 = .string (str ([] : List (BitVec 8))) ∧ f52 5 = wd ∧ f52 9 = pt b_h 0 ∧ f52 11 = ve ∧ f52 12 = .int .i64 8 ∧ f52 13 = .int .i64 ((a : Nat) : Int) ∧ Row wl rp 90 25 (Sha.rrow (.int .i64 512) (.int .i64 64) (.int .i64 128) (.int .i64 80) (.slice (some ⟨g, 0, none⟩) 80 cap) (Sha.H0 512) (fun i => U64 (BitVec.ofNat 64 (Sha.trn false i)))) ∧ Row wl g 58 80 (fun j => U64 (Sha.K false j)) ∧ Row wl b_18 5 1 (fun j => U8 (128#8)) ∧ Row wl b_h 88 8 (fun j => U64 (Sha.st 512 (gb (Sha.full 512 s)) (Sha.nb 512 s) j)) ∧ Own wl w0.heap.size 5 1 ve (8 * a) (fun j => U8 ((Sha.st 512 (gb (Sha.full 512 s)) (Sha.nb 512 s) (j / 8) >>> (8 * (7 - j % 8))).setWidth 8)) ∧ ve.ownBlock ≠ some rp ∧ ve.ownBlock ≠ some g ∧ ve.ownBlock ≠ some b_18 ∧ ve.ownBlock ≠ some b_h ∧ (∀ g, ve.ownBlock = some g → wd.ownBlock ≠ some g) ∧ Own wl w0.heap.size 5 1 wd (s.length + 1 + ((239 - s.length % 128) % 128) + 16) (fun j => U8 (gb (Sha.full 512 s) j)) ∧ wd.ownBlock ≠ some rp ∧ wd.ownBlock ≠ some g ∧ wd.ownBlock ≠ some b_18 ∧ wd.ownBlock ≠ some b_h ∧ (∀ g, wd.ownBlock = some g → ve.ownBlock ≠ some g) ∧ Below w0.heap.size w0 wl) (8 - 0) ?_ ?_
         · exact ⟨0, (.slice none 0 0), vd, rfl, _, rfl, iv, s4_0, s4_4, (Eq.trans (b := vd) s4_5 dv), s4_9, (etv (b := .slice none 0 0) rfl), rfl, ti, r_rp, r_g, r_b_18, r_b_h, Own.nil, (fun e => by cases e), (fun e => by cases e), (fun e => by cases e), (fun e => by cases e), (fun g e => by cases e), o_vd, no_vd_rp, no_vd_g, no_vd_b_18, no_vd_b_h, (fun g _ e => by cases e), hk⟩
         ·skip
          clear r_rp r_g r_b_18 r_b_h o_vd hk
          rintro _ _ w53 ⟨a, ve, wd, rfl, f52, rfl, i5_0, s5_0, s5_4, s5_5, s5_9, s5_11, s5_12, s5_13, r_rp, r_g, r_b_18, r_b_h, o_ve, no_ve_rp, no_ve_g, no_ve_b_18, no_ve_b_h, sep_ve_wd, o_wd, no_wd_rp, no_wd_g, no_wd_b_18, no_wd_b_h, sep_wd_ve, hk⟩
          refine wp_seq (sr (w_mv (ei s5_13) (w_val (y_bin ei Ev.c b_lss) (nt ?_))))
          refine c_if (p := ((a : Nat) : Int) < 8) eb (fun hc54 => ?_) (fun hc54 => ?_)
          ·skip
           refine wp_skip (then_n (wp_seq (wp_block (sr (w_mv (ei s5_12) (w_val (y_bin ei Ev.c (b_sub om)) (w_as ei (nt (wp_block ?_)))))))))
           refine c_loop (fun dN aN wl => ∃ (b : Nat) (vf : Value) (we : Value), dN = (8 - b) ∧ ∃ f55, aN = fr 132 f55 ∧ (b ≤ 8) ∧ f55 0 = pt rp 0 ∧ f55 4 = .string (str ([] : List (BitVec 8))) ∧ f55 5 = we ∧ f55 9 = pt b_h 0 ∧ f55 11 = vf ∧ f55 12 = .int .i64 8 ∧ f55 13 = .int .i64 ((a : Nat) : Int) ∧ f55 14 = .int .i64 (7 - ((b : Nat) : Int)) ∧ Row wl rp 90 25 (Sha.rrow (.int .i64 512) (.int .i64 64) (.int .i64 128) (.int .i64 80) (.slice (some ⟨g, 0, none⟩) 80 cap) (Sha.H0 512) (fun i => U64 (BitVec.ofNat 64 (Sha.trn false i)))) ∧ Row wl g 58 80 (fun j => U64 (Sha.K false j)) ∧ Row wl b_18 5 1 (fun j => U8 (128#8)) ∧ Row wl b_h 88 8 (fun j => U64 (Sha.st 512 (gb (Sha.full 512 s)) (Sha.nb 512 s) j)) ∧ Own wl w0.heap.size 5 1 vf (8 * a + b) (fun j => U8 ((Sha.st 512 (gb (Sha.full 512 s)) (Sha.nb 512 s) (j / 8) >>> (8 * (7 - j % 8))).setWidth 8)) ∧ vf.ownBlock ≠ some rp ∧ vf.ownBlock ≠ some g ∧ vf.ownBlock ≠ some b_18 ∧ vf.ownBlock ≠ some b_h ∧ (∀ g, vf.ownBlock = some g → we.ownBlock ≠ some g) ∧ Own wl w0.heap.size 5 1 we (s.length + 1 + ((239 - s.length % 128) % 128) + 16) (fun j => U8 (gb (Sha.full 512 s) j)) ∧ we.ownBlock ≠ some rp ∧ we.ownBlock ≠ some g ∧ we.ownBlock ≠ some b_18 ∧ we.ownBlock ≠ some b_h ∧ (∀ g, we.ownBlock = some g → vf.ownBlock ≠ some g) ∧ Below w0.heap.size w0 wl) (8 - 0) ?_ ?_
           · exact ⟨0, ve, wd, rfl, _, rfl, iv, s5_0, s5_4, (Eq.trans (b := wd) s5_5 dv), s5_9, (Eq.trans (b := ve) s5_11 dv), s5_12, s5_13, (Eq.trans (b := .int .i64 7) rfl (by rfl)), r_rp, r_g, r_b_18, r_b_h, (own_n (o_ve.cg) om), no_ve_rp, no_ve_g, no_ve_b_18, no_ve_b_h, sep_ve_wd, o_wd, no_wd_rp, no_wd_g, no_wd_b_18, no_wd_b_h, sep_wd_ve, hk⟩
           ·skip
            clear r_rp r_g r_b_18 r_b_h o_ve o_wd hk
            rintro _ _ w56 ⟨b, vf, we, rfl, f55, rfl, i6_0, s6_0, s6_4, s6_5, s6_9, s6_11, s6_12, s6_13, s6_14, r_rp, r_g, r_b_18, r_b_h, o_vf, no_vf_rp, no_vf_g, no_vf_b_18, no_vf_b_h, sep_vf_we, o_we, no_we_rp, no_we_g, no_we_b_18, no_we_b_h, sep_we_vf, hk⟩
            refine wp_seq (sr (w_mv (ei s6_14) (w_val (y_bin ei Ev.c b_geq) (nt ?_))))
            refine c_if (p := 0 ≤ (7 - ((b : Nat) : Int))) eb (fun hc57 => ?_) (fun hc57 => ?_)
            ·skip
             refine wp_skip (then_n (wp_seq (wp_block (wp_region_lit (w_mv (ex vf s6_11) (w_mv (ei s6_13) (w_val (y_ia1z (i := a) (ex (pt b_h 0) s6_9) ei Tryd.underlying88 ShaST.sz58 om om) (w_val (v := U64 (Sha.st 512 (gb (Sha.full 512 s)) (Sha.nb 512 s) a)) (y_ld (ex (pt b_h a)) ShaST.sc58 (r_b_h.val om rfl)) (w_mv (ei s6_14) (w_val (y_bin Ev.c ei (b_mul om)) (w_val (y_nat_u64 (p := (8 * (7 - b))) ei om ShaST.so3 Tryd.underlying85) (w_val (y_bin e6 e6 (shr64 (c := (8 * (7 - b))) (by rw [BitVec.toNat_ofNat]; omega))) (w_val (y_u64_u8 e6 ShaST.so58 Tryd.underlying5) (w_bs1 (m := 1) (e := 5) (F := fun j => U8 (((Sha.st 512 (gb (Sha.full 512 s)) (Sha.nb 512 s) a) >>> (8 * (7 - b))).setWidth 8)) e8 (fun w => by kernel_rfl) ?_))))))))))))))
             intro b_123 w58 hbe_b_123 r_b_123 hb59
             have ne_rp_b_123 := r_rp.nb hbe_b_123
             have ne_g_b_123 := r_g.nb hbe_b_123
             have ne_b_18_b_123 := r_b_18.nb hbe_b_123
             have ne_b_h_b_123 := r_b_h.nb hbe_b_123
             have no_vf_b_123 : vf.ownBlock ≠ some b_123 := o_vf.apart om
             have no_we_b_123 : we.ownBlock ≠ some b_123 := o_we.apart om
             have ge_b_123 := gb_ hk.size hbe_b_123
             clear hbe_b_123
             replace o_vf := o_vf.step hb59
             replace o_we := o_we.step hb59
             replace r_rp := r_rp.step hb59
             replace r_g := r_g.step hb59
             replace r_b_18 := r_b_18.step hb59
             replace r_b_h := r_b_h.step hb59
             replace hk := thenB hk hb59
             refine w_app (k := (8 * a + b)) (m := 1) (size := 1) (bytes := 1) (ex vf) el Tryd.underlying63 kr (by decide) o_vf hk.size r_b_123 om oca (by simp only [maxLen]; omega) om ?_
             intro v60 w61 o_v60 hg62 hv63
             have sep_we_v60 : ∀ g, we.ownBlock = some g → v60.ownBlock ≠ some g := sep_new sep_we_vf o_we hv63
             have sep_v60_we : ∀ g, v60.ownBlock = some g → we.ownBlock ≠ some g := sep_sym sep_we_v60
             replace o_we := o_we.stepO hg62 (sep_or sep_we_vf)
             have no_v60_rp := no_new no_vf_rp r_rp.lt hv63
             replace r_rp := r_rp.stepO hg62 no_vf_rp
             have no_v60_g := no_new no_vf_g r_g.lt hv63
             replace r_g := r_g.stepO hg62 no_vf_g
             have no_v60_b_18 := no_new no_vf_b_18 r_b_18.lt hv63
             replace r_b_18 := r_b_18.stepO hg62 no_vf_b_18
             have no_v60_b_h := no_new no_vf_b_h r_b_h.lt hv63
             replace r_b_h := r_b_h.stepO hg62 no_vf_b_h
             have no_v60_b_123 := no_new no_vf_b_123 r_b_123.lt hv63
             replace r_b_123 := r_b_123.stepO hg62 no_vf_b_123
             replace hk := thenO hk hg62 (fun g e => (o_vf.block_lt g e).2)
             clear o_vf
             refine w_as (ex v60) (wpList_nil (inb_n (then_n (wp_region_lit (w_mv (ei s6_14) (w_val (y_bin ei Ev.c (b_sub om)) (w_as ei (wpList_nil ?_))))))))
             exact then_n ⟨_, om, b + 1, v60, we, rfl, _, rfl, iv, s6_0, s6_4, s6_5, s6_9, rfl, s6_12, s6_13, (Eq.trans (b := .int .i64 ((7 - ((b : Nat) : Int)) - 1)) rfl (by congr 1; omega)), r_rp, r_g, r_b_18, r_b_h, (own_n (o_v60.congr (fun j hj => by (try dsimp only); by_cases e : j < (8 * a + b) * 1; (rw [if_pos e]); (rw [if_neg e]; exact congrArg U8 (by rw [show j / 8 = a from by omega, show j % 8 = b from by omega])))) om), no_v60_rp, no_v60_g, no_v60_b_18, no_v60_b_h, sep_v60_we, o_we, no_we_rp, no_we_g, no_we_b_18, no_we_b_h, sep_we_v60, hk⟩
            ·skip
             refine wp_exit (then_x (then_x (inb_x (inb_n (then_n (wp_region_lit (w_mv (ei s6_13) (w_val (y_bin ei Ev.c (b_add om)) (w_as ei (wpList_nil ?_))))))))))
             exact then_n ⟨_, om, a + 1, vf, we, rfl, _, rfl, iv, s6_0, s6_4, s6_5, s6_9, s6_11, s6_12, ti, r_rp, r_g, r_b_18, r_b_h, (own_n (o_vf.cg) om), no_vf_rp, no_vf_g, no_vf_b_18, no_vf_b_h, sep_vf_we, o_we, no_we_rp, no_we_g, no_we_b_18, no_we_b_h, sep_we_vf, hk⟩
          ·skip
           refine wp_exit (then_x (then_x (inb_x (then_n (wp_seq ?_)))))
           obtain ⟨g64, cap64, hv64, ge_g64, hc_g64, hob_g64, r_g64⟩ := o_ve.opened om
           have ne_rp_g64 : rp ≠ g64 := fun e => no_ve_rp (by rw [hob_g64, e])
           have ne_g_g64 : g ≠ g64 := fun e => no_ve_g (by rw [hob_g64, e])
           have ne_b_18_g64 : b_18 ≠ g64 := fun e => no_ve_b_18 (by rw [hob_g64, e])
           have ne_b_h_g64 : b_h ≠ g64 := fun e => no_ve_b_h (by rw [hob_g64, e])
           have no_wd_g64 : wd.ownBlock ≠ some g64 := fun e => sep_wd_ve _ e hob_g64
           refine wp_region_lit (w_mv (ex ve s5_11) (w_mv (ex (pt rp 0) s5_0) (w_val (y_nc (ex (pt rp 0))) (w_val (v := pt rp 1) (y_off (y_fa (ex (pt rp 0)) (ShaST.fa90_1 _ _)) ro) (w_val (v := .int .i64 64) (y_ld (ex (pt rp 1)) ShaST.sc3 (r_rp.val om (ng pz))) (w_val (v := .slice (some ⟨g64, 0, none⟩) 64 cap64) (y_slh (ex (.slice (some ⟨g64, 0, none⟩) (8 * a) cap64) (Eq.trans (b := ve) rfl hv64)) (evo.s ei) Tryd.underlying63 (bnd_h (h := 64) om om) ShaST.sz5) (w_val (y_str (l := Sha.sum 512 s) el (by rw [Sha.length_sum]; rfl) Tryd.underlying63 Tryd.underlying5 Tryd.underlying9 (fun j hj => (r_g64.val om (by rw [Sha.gb_sum _ _ _ (show j < Sha.ol 512 from hj), Nat.zero_add]; rfl)))) (w_as es (nt (wp_ret (fin_ret1 rfl es ?_)))))))))))
           exact ⟨rfl, hk⟩
end Go.Proofs.YtepogbfkmflooaaDoor
