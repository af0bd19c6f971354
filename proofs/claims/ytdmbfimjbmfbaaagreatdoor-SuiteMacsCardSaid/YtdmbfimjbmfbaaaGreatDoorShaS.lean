/-
  Digests: the reference's Sum by a rule. Conditions as each says.
-/
import Derived.Test.YtdmbfimjbmfbaaaGreatDoorRows
import Derived.Test.YtdmbfimjbmfbaaaGreatDoorShaR
import Derived.Test.YtdmbfimjbmfbaaaGreatDoorGenSh
import Derived.ProofKit
namespace Go.Proofs.YtdmbfimjbmfbaaaGreatDoor
open Go.RowKit
set_option linter.unusedSimpArgs false
set_option linter.unusedVariables false
set_option maxRecDepth 100000
set_option maxHeartbeats 1000000
namespace ShaST
theorem mixed : Tryz.prog.follows .mixedOrders = true := by kernel_rfl
theorem ag93 : (Tryz.prog.underlying 93).map isAggD = some true := by rw [Tryz.underlying93]; rfl
theorem fa96_0 (g off : Nat) : ∀ w, (Instr.fieldAt 96 (.pointer (some ⟨g, off, none⟩)) 0).run Tryz.prog w = .ok (.pointer (some ⟨g, off + 0, none⟩)) w := fun w => by kernel_rfl
theorem fa96_1 (g off : Nat) : ∀ w, (Instr.fieldAt 96 (.pointer (some ⟨g, off, none⟩)) 1).run Tryz.prog w = .ok (.pointer (some ⟨g, off + 1, none⟩)) w := fun w => by kernel_rfl
theorem fa96_2 (g off : Nat) : ∀ w, (Instr.fieldAt 96 (.pointer (some ⟨g, off, none⟩)) 2).run Tryz.prog w = .ok (.pointer (some ⟨g, off + 2, none⟩)) w := fun w => by kernel_rfl
theorem fa96_3 (g off : Nat) : ∀ w, (Instr.fieldAt 96 (.pointer (some ⟨g, off, none⟩)) 3).run Tryz.prog w = .ok (.pointer (some ⟨g, off + 3, none⟩)) w := fun w => by kernel_rfl
theorem fa96_4 (g off : Nat) : ∀ w, (Instr.fieldAt 96 (.pointer (some ⟨g, off, none⟩)) 4).run Tryz.prog w = .ok (.pointer (some ⟨g, off + 4, none⟩)) w := fun w => by kernel_rfl
theorem fa96_5 (g off : Nat) : ∀ w, (Instr.fieldAt 96 (.pointer (some ⟨g, off, none⟩)) 5).run Tryz.prog w = .ok (.pointer (some ⟨g, off + 5, none⟩)) w := fun w => by kernel_rfl
theorem fa96_6 (g off : Nat) : ∀ w, (Instr.fieldAt 96 (.pointer (some ⟨g, off, none⟩)) 6).run Tryz.prog w = .ok (.pointer (some ⟨g, off + 13, none⟩)) w := fun w => by kernel_rfl
theorem sc3 : (Tryz.prog.underlying 3).map scal = some true := by rw [Tryz.underlying3]; rfl
theorem sc87 : (Tryz.prog.underlying 87).map scal = some true := by rw [Tryz.underlying87]; rfl
theorem sc91 : (Tryz.prog.underlying 91).map scal = some true := by rw [Tryz.underlying91]; rfl
theorem sc92 : (Tryz.prog.underlying 92).map scal = some true := by rw [Tryz.underlying92]; rfl
theorem so3 : (Tryz.prog.underlying 3).isSome = true := by rw [Tryz.underlying3]; rfl
theorem so5 : (Tryz.prog.underlying 5).isSome = true := by rw [Tryz.underlying5]; rfl
theorem so92 : (Tryz.prog.underlying 92).isSome = true := by rw [Tryz.underlying92]; rfl
theorem sz5 : (Tryz.prog.info? 5).map (·.size) = some 1 := by kernel_rfl
theorem sz87 : (Tryz.prog.info? 87).map (·.size) = some 1 := by kernel_rfl
theorem sz92 : (Tryz.prog.info? 92).map (·.size) = some 1 := by kernel_rfl
theorem sz93 : (Tryz.prog.info? 93).map (·.size) = some 8 := by kernel_rfl
end ShaST
theorem ruleSum_256 (rp g cap : Nat) (s : List (BitVec 8)) (hs : s.length ≤ 1099511627776) (w0 : World) (r_rp : Row w0 rp 96 25 (Sha.rrow (.int .i64 256) (.int .i64 32) (.int .i64 64) (.int .i64 64) (.slice (some ⟨g, 0, none⟩) 64 cap) (Sha.H0 256) (fun i => U64 (BitVec.ofNat 64 (Sha.trn true i))))) (r_g : Row w0 g 92 64 (fun j => U64 (Sha.K true j))) : Calls Tryz.prog 38 #[pt rp 0, .string (str s)] w0 fun e w' => e = .returned (.string (str (Sha.sum 256 s))) ∧ Below w0.heap.size w0 w' := by
 have g4 : Sha.padl 256 s.length = ((119 - s.length % 64) % 64) + 1 + 8 := by rw [Sha.padl_eq 256 64 _ rfl]
 have he : 64 * Sha.nb 256 s = s.length + Sha.padl 256 s.length := by have h := Sha.length_full 256 s; unfold Sha.full at h; rw [List.length_append, Sha.length_pad] at h; exact h.symm
 have gl : (Sha.full 256 s).length = 64 * Sha.nb 256 s := Sha.length_full 256 s
 refine enter (n := 132) Tryz.func38 rfl rfl rfl ?_
 have hk : Below w0.heap.size w0 w0 := Below.refl _ _
 have gi := r_rp.lt
 have gn := r_g.lt
 refine sr (w_as (evc (.string (str ([] : List (BitVec 8))))) (nt (sr (w_mv es (w_bytes_own es Tryz.underlying9 Tryz.underlying55 Tryz.underlying5 (by simp only [maxLen]; omega) hk.size ?_)))))
 intro v1 w2 cn gg gf
 have bx : v1.ownBlock ≠ some rp := fun e1 => by rw [gg] at e1; injection e1 with e1; have := r_rp.lt; omega
 have b9 : v1.ownBlock ≠ some g := fun e1 => by rw [gg] at e1; injection e1 with e1; have := r_g.lt; omega
 replace r_rp := r_rp.step gf
 replace r_g := r_g.step gf
 replace hk := thenB hk gf
 refine w_as (ex v1) (nt (sr (w_mv (ex v1) (w_bs1 (m := 1) (e := 5) (F := fun j => U8 (128#8)) (evc (U8 (128#8))) (fun w => by kernel_rfl) ?_))))
 intro ag w5 ap aa fv
 have d7 := r_rp.nb ap
 have ez := r_g.nb ap
 have a0 : v1.ownBlock ≠ some ag := cn.apart om
 have fw := gb_ hk.size ap
 clear ap
 replace cn := cn.step fv
 replace r_rp := r_rp.step fv
 replace r_g := r_g.step fv
 replace hk := thenB hk fv
 refine w_app (k := s.length) (m := 1) (size := 1) (bytes := 1) (ex v1) el Tryz.underlying55 kr (by decide) cn hk.size aa om oca (by simp only [maxLen]; omega) om ?_
 intro v7 w8 fd fz eh
 have cq := no_new bx r_rp.lt eh
 replace r_rp := r_rp.stepO fz bx
 have dg := no_new b9 r_g.lt eh
 replace r_g := r_g.stepO fz b9
 have b7 := no_new a0 aa.lt eh
 replace aa := aa.stepO fz a0
 replace hk := thenO hk fz (fun g e => (cn.block_lt g e).2)
 clear cn
 refine w_as (ex v7) (nt (wp_seq (wp_block ?_)))
 refine c_loop (fun dN aN wl => ∃ (z : Nat) (va : Value), dN = (((119 - s.length % 64) % 64) - z) ∧ ∃ e0, aN = fr 132 e0 ∧ (z ≤ ((119 - s.length % 64) % 64)) ∧ e0 0 = pt rp 0 ∧ e0 1 = .string (str s) ∧ e0 4 = .string (str ([] : List (BitVec 8))) ∧ e0 5 = va ∧ Row wl rp 96 25 (Sha.rrow (.int .i64 256) (.int .i64 32) (.int .i64 64) (.int .i64 64) (.slice (some ⟨g, 0, none⟩) 64 cap) (Sha.H0 256) (fun i => U64 (BitVec.ofNat 64 (Sha.trn true i)))) ∧ Row wl g 92 64 (fun j => U64 (Sha.K true j)) ∧ Row wl ag 5 1 (fun j => U8 (128#8)) ∧ Own wl w0.heap.size 5 1 va (s.length + 1 + z) (fun j => U8 (gb (Sha.full 256 s) j)) ∧ va.ownBlock ≠ some rp ∧ va.ownBlock ≠ some g ∧ va.ownBlock ≠ some ag ∧ Below w0.heap.size w0 wl) (((119 - s.length % 64) % 64) - 0) ?_ ?_
 · exact ⟨0, v7, rfl, _, rfl, iv, rfl, rfl, rfl, (etv (b := v7) rfl), r_rp, r_g, aa, (own_n (fd.congr (fun j hj => by (try dsimp only); by_cases e : j < s.length * 1; (rw [if_pos e, Sha.gb_full_lo _ _ _ om]); (rw [if_neg e]; exact congrArg U8 (Sha.full_80 256 s j om)))) om), cq, dg, b7, hk⟩
 ·skip
  clear r_rp r_g aa fd hk
  rintro _ _ ha ⟨z, va, rfl, e0, rfl, gm, c3, fg, fk, ef, r_rp, r_g, aa, a4, a3, bg, aj, hk⟩
  refine ss (region_q ShaST.mixed kr (q_mv (ex va ef) (q_val (v := .int .i64 (((s.length + 1 + z) : Nat) : Int)) (fun w' hw' => y_len_own (ex va) a4 Tryz.underlying55) (q_mv (ex (pt rp 0) c3) (q_val (fun w' hw' => y_nc (ex (pt rp 0))) (q_val (v := pt rp 2) (fun w' hw' => y_off (y_fa (ex (pt rp 0)) (ShaST.fa96_2 _ _)) ro) (q_val (v := .int .i64 64) (fun w' hw' => y_ld (ex (pt rp 2)) ShaST.sc3 (cls_cell (r_rp.val om (ng (ng pz))) r_rp.lt w' hw')) (q_val (fun w' hw' => y_bin ei ei (b_rem om)) (q_mv (ex (pt rp 0) c3) (q_val (fun w' hw' => y_nc (ex (pt rp 0))) (q_val (v := pt rp 2) (fun w' hw' => y_off (y_fa (ex (pt rp 0)) (ShaST.fa96_2 _ _)) ro) (q_val (v := .int .i64 64) (fun w' hw' => y_ld (ex (pt rp 2)) ShaST.sc3 (cls_cell (r_rp.val om (ng (ng pz))) r_rp.lt w' hw')) (q_mv (ex (pt rp 0) c3) (q_val (fun w' hw' => y_nc (ex (pt rp 0))) (q_val (v := pt rp 2) (fun w' hw' => y_off (y_fa (ex (pt rp 0)) (ShaST.fa96_2 _ _)) ro) (q_val (v := .int .i64 64) (fun w' hw' => y_ld (ex (pt rp 2)) ShaST.sc3 (cls_cell (r_rp.val om (ng (ng pz))) r_rp.lt w' hw')) (q_val (fun w' hw' => y_bin ei Ev.c (b_quo om)) (q_val (fun w' hw' => y_bin ei ei (b_sub om)) (q_val (fun w' hw' => y_bin ei ei b_neq) (q_nil ?_))))))))))))))))))))
  intro g2 c1
  replace a4 := a4.step c1
  replace r_rp := r_rp.step c1
  replace r_g := r_g.step c1
  replace aa := aa.step c1
  replace hk := thenB hk c1
  refine then_n ?_
  refine c_if (p := ((((s.length + 1 + z) : Nat) : Int) % 64) ≠ 56) eb (fun hc15 => ?_) (fun hc15 => ?_)
  ·skip
   refine wp_skip (then_n (wp_block (wp_region_lit (w_mv (ex va ef) (w_bs1 (m := 1) (e := 5) (F := fun j => U8 (0#8)) (evc (U8 (0#8))) (fun w => by kernel_rfl) ?_)))))
   intro ga g7 af bo c5
   have d5 := r_rp.nb af
   have ey := r_g.nb af
   have da := aa.nb af
   have a8 : va.ownBlock ≠ some ga := a4.apart om
   have fy := gb_ hk.size af
   clear af
   replace a4 := a4.step c5
   replace r_rp := r_rp.step c5
   replace r_g := r_g.step c5
   replace aa := aa.step c5
   replace hk := thenB hk c5
   refine w_app (k := (s.length + 1 + z)) (m := 1) (size := 1) (bytes := 1) (ex va) el Tryz.underlying55 kr (by decide) a4 hk.size bo om oca (by simp only [maxLen]; omega) om ?_
   intro gk hc fj cy dd
   have cc := no_new a3 r_rp.lt dd
   replace r_rp := r_rp.stepO cy a3
   have cv := no_new bg r_g.lt dd
   replace r_g := r_g.stepO cy bg
   have bw := no_new aj aa.lt dd
   replace aa := aa.stepO cy aj
   have dl := no_new a8 bo.lt dd
   replace bo := bo.stepO cy a8
   replace hk := thenO hk cy (fun g e => (a4.block_lt g e).2)
   clear a4
   refine w_as (ex gk) (wpList_nil (inb_n ?_))
   exact then_n ⟨_, om, z + 1, gk, rfl, _, rfl, iv, c3, fg, fk, rfl, r_rp, r_g, aa, (own_n (fj.congr (fun j hj => by (try dsimp only); by_cases e : j < (s.length + 1 + z) * 1; (rw [if_pos e]); (rw [if_neg e]; exact congrArg U8 (Sha.full_0 256 s j om om)))) om), cc, cv, bw, hk⟩
  ·skip
   refine wp_exit (then_x (then_x (inb_x (then_n (wp_seq (sr (w_as Ev.c (nt (wp_block ?_)))))))))
   refine c_loop (fun dN aN wl => ∃ (y : Nat) (vb : Value), dN = (0 - y) ∧ ∃ d4, aN = fr 132 d4 ∧ (y ≤ 0) ∧ d4 0 = pt rp 0 ∧ d4 1 = .string (str s) ∧ d4 4 = .string (str ([] : List (BitVec 8))) ∧ d4 5 = vb ∧ d4 6 = .int .i64 ((y : Nat) : Int) ∧ Row wl rp 96 25 (Sha.rrow (.int .i64 256) (.int .i64 32) (.int .i64 64) (.int .i64 64) (.slice (some ⟨g, 0, none⟩) 64 cap) (Sha.H0 256) (fun i => U64 (BitVec.ofNat 64 (Sha.trn true i)))) ∧ Row wl g 92 64 (fun j => U64 (Sha.K true j)) ∧ Row wl ag 5 1 (fun j => U8 (128#8)) ∧ Own wl w0.heap.size 5 1 vb (s.length + 1 + ((119 - s.length % 64) % 64) + y) (fun j => U8 (gb (Sha.full 256 s) j)) ∧ vb.ownBlock ≠ some rp ∧ vb.ownBlock ≠ some g ∧ vb.ownBlock ≠ some ag ∧ Below w0.heap.size w0 wl) (0 - 0) ?_ ?_
   · exact ⟨0, va, rfl, _, rfl, iv, c3, fg, fk, (Eq.trans (b := va) ef dv), ti, r_rp, r_g, aa, (own_n (a4.cg) om), a3, bg, aj, hk⟩
   ·skip
    clear r_rp r_g aa a4 hk
    rintro _ _ g3 ⟨y, vb, rfl, d4, rfl, gt, d8, ff, fb, fm, e4, r_rp, r_g, aa, bt, a1, bi, al, hk⟩
    refine wp_seq (sr (w_mv (ei e4) (w_mv (ex (pt rp 0) d8) (w_val (y_nc (ex (pt rp 0))) (w_val (v := pt rp 2) (y_off (y_fa (ex (pt rp 0)) (ShaST.fa96_2 _ _)) ro) (w_val (v := .int .i64 64) (y_ld (ex (pt rp 2)) ShaST.sc3 (r_rp.val om (ng (ng pz)))) (w_val (y_bin ei Ev.c (b_quo om)) (w_val (y_bin ei Ev.c (b_sub om)) (w_val (y_bin ei ei b_lss) (nt ?_))))))))))
    refine c_if (p := ((y : Nat) : Int) < 0) eb (fun hc24 => ?_) (fun hc24 => ?_)
    ·skip
     refine wp_skip (then_n (wp_seq (wp_block (wp_region_lit (w_mv (ex vb fm) (w_bs1 (m := 1) (e := 5) (F := fun j => U8 (0#8)) (evc (U8 (0#8))) (fun w => by kernel_rfl) ?_))))))
     intro gd gz ae bn c0
     have ec := r_rp.nb ae
     have eu := r_g.nb ae
     have de := aa.nb ae
     have az : vb.ownBlock ≠ some gd := bt.apart om
     have fu := gb_ hk.size ae
     clear ae
     replace bt := bt.step c0
     replace r_rp := r_rp.step c0
     replace r_g := r_g.step c0
     replace aa := aa.step c0
     replace hk := thenB hk c0
     refine w_app (k := (s.length + 1 + ((119 - s.length % 64) % 64) + y)) (m := 1) (size := 1) (bytes := 1) (ex vb) el Tryz.underlying55 kr (by decide) bt hk.size bn om oca (by simp only [maxLen]; omega) om ?_
     intro gh g5 fa ct df
     have cj := no_new a1 r_rp.lt df
     replace r_rp := r_rp.stepO ct a1
     have cs := no_new bi r_g.lt df
     replace r_g := r_g.stepO ct bi
     have br := no_new al aa.lt df
     replace aa := aa.stepO ct al
     have d1 := no_new az bn.lt df
     replace bn := bn.stepO ct az
     replace hk := thenO hk ct (fun g e => (bt.block_lt g e).2)
     clear bt
     refine w_as (ex gh) (wpList_nil (inb_n (then_n (wp_region_lit (w_mv (ei e4) (w_val (y_bin ei Ev.c (b_add om)) (w_as ei (wpList_nil ?_))))))))
     exact then_n ⟨_, om, y + 1, gh, rfl, _, rfl, iv, d8, ff, fb, rfl, ti, r_rp, r_g, aa, (own_n (fa.congr (fun j hj => by first | (exfalso; omega) | ((try dsimp only); by_cases e : j < (s.length + 1 + ((119 - s.length % 64) % 64) + y) * 1; (rw [if_pos e]); (rw [if_neg e]; exact congrArg U8 (Sha.full_0 256 s j om om))))) om), cj, cs, br, hk⟩
    ·skip
     refine wp_exit (then_x (then_x (inb_x (then_n (sr (w_mv (es ff) (w_val (y_len es Tryz.underlying9) (w_val (y_nat_u64 (p := s.length) ei om ShaST.so3 Tryz.underlying92) (w_val (y_bin e6 (evc (U64 (8#64))) mul64) (w_as e6 (nt (wp_seq (sr (w_as Ev.c (nt (wp_block ?_))))))))))))))))
     refine c_loop (fun dN aN wl => ∃ (x : Nat) (vc : Value), dN = (8 - x) ∧ ∃ d3, aN = fr 132 d3 ∧ (x ≤ 8) ∧ d3 0 = pt rp 0 ∧ d3 4 = .string (str ([] : List (BitVec 8))) ∧ d3 5 = vc ∧ d3 7 = U64 ((BitVec.ofNat 64 s.length) * (8#64)) ∧ d3 8 = .int .i64 ((x : Nat) : Int) ∧ Row wl rp 96 25 (Sha.rrow (.int .i64 256) (.int .i64 32) (.int .i64 64) (.int .i64 64) (.slice (some ⟨g, 0, none⟩) 64 cap) (Sha.H0 256) (fun i => U64 (BitVec.ofNat 64 (Sha.trn true i)))) ∧ Row wl g 92 64 (fun j => U64 (Sha.K true j)) ∧ Row wl ag 5 1 (fun j => U8 (128#8)) ∧ Own wl w0.heap.size 5 1 vc (s.length + 1 + ((119 - s.length % 64) % 64) + 0 + x) (fun j => U8 (gb (Sha.full 256 s) j)) ∧ vc.ownBlock ≠ some rp ∧ vc.ownBlock ≠ some g ∧ vc.ownBlock ≠ some ag ∧ Below w0.heap.size w0 wl) (8 - 0) ?_ ?_
     · exact ⟨0, vb, rfl, _, rfl, iv, d8, fb, (Eq.trans (b := vb) fm dv), rfl, ti, r_rp, r_g, aa, (own_n (bt.cg) om), a1, bi, al, hk⟩
     ·skip
      clear r_rp r_g aa bt hk
      rintro _ _ hd ⟨x, vc, rfl, d3, rfl, go, ej, fn, fc, fs, eo, r_rp, r_g, aa, ar, a5, bk, am, hk⟩
      refine wp_seq (sr (w_mv (ei eo) (w_val (y_bin ei Ev.c b_lss) (nt ?_))))
      refine c_if (p := ((x : Nat) : Int) < 8) eb (fun hc33 => ?_) (fun hc33 => ?_)
      ·skip
       refine wp_skip (then_n (wp_seq (wp_block (wp_region_lit (w_mv (ex vc fc) (w_mv (e6 fs) (w_mv (ei eo) (w_val (y_bin Ev.c ei (b_mul om)) (w_val (y_bin Ev.c ei (b_sub om)) (w_val (y_nat_u64 (p := (56 - (8 * x))) ei om ShaST.so3 Tryz.underlying87) (w_val (y_bin e6 e6 (shr64 (c := (56 - (8 * x))) (by rw [BitVec.toNat_ofNat]; omega))) (w_val (y_u64_u8 e6 ShaST.so92 Tryz.underlying5) (w_bs1 (m := 1) (e := 5) (F := fun j => U8 ((((BitVec.ofNat 64 s.length) * (8#64)) >>> (56 - (8 * x))).setWidth 8)) e8 (fun w => by kernel_rfl) ?_)))))))))))))
       intro f6 gv ad bl cw
       have ek := r_rp.nb ad
       have et := r_g.nb ad
       have db := aa.nb ad
       have a7 : vc.ownBlock ≠ some f6 := ar.apart om
       have fx := gb_ hk.size ad
       clear ad
       replace ar := ar.step cw
       replace r_rp := r_rp.step cw
       replace r_g := r_g.step cw
       replace aa := aa.step cw
       replace hk := thenB hk cw
       refine w_app (k := (s.length + 1 + ((119 - s.length % 64) % 64) + 0 + x)) (m := 1) (size := 1) (bytes := 1) (ex vc) el Tryz.underlying55 kr (by decide) ar hk.size bl om oca (by simp only [maxLen]; omega) om ?_
       intro gj gu ft cu c8
       have cd := no_new a5 r_rp.lt c8
       replace r_rp := r_rp.stepO cu a5
       have c4 := no_new bk r_g.lt c8
       replace r_g := r_g.stepO cu bk
       have bv := no_new am aa.lt c8
       replace aa := aa.stepO cu am
       have dm := no_new a7 bl.lt c8
       replace bl := bl.stepO cu a7
       replace hk := thenO hk cu (fun g e => (ar.block_lt g e).2)
       clear ar
       refine w_as (ex gj) (wpList_nil (inb_n (then_n (wp_region_lit (w_mv (ei eo) (w_val (y_bin ei Ev.c (b_add om)) (w_as ei (wpList_nil ?_))))))))
       exact then_n ⟨_, om, x + 1, gj, rfl, _, rfl, iv, ej, fn, rfl, fs, ti, r_rp, r_g, aa, (own_n (ft.congr (fun j hj => by (try dsimp only); by_cases e : j < (s.length + 1 + ((119 - s.length % 64) % 64) + 0 + x) * 1; (rw [if_pos e]); (rw [if_neg e]; exact congrArg U8 (Sha.full_n 256 s x j om om)))) om), cd, c4, bv, hk⟩
      ·skip
       refine wp_exit (then_x (then_x (inb_x (then_n (sr (w_mv (ex (pt rp 0) ej) (w_val (y_nc (ex (pt rp 0))) (w_val (v := pt rp 5) (y_off (y_fa (ex (pt rp 0)) (ShaST.fa96_5 _ _)) ro) (w_val (v := .agg (arr 8 (fun j => U64 ((Sha.H0 256) j)))) (y_lda (ex (pt rp 5)) ShaST.ag93 ShaST.sz93 (fun j hj => (r_rp.val om (by first | with_reducible rfl | exact (ng (ng (ng (ng (ng pz))))))))) (w_alloc (m := 8) (F := fun j => U64 (0#64)) kr ?_))))))))))
       intro bm g9 an ab cx
       have ev := r_rp.nb an
       have e7 := r_g.nb an
       have dp := aa.nb an
       have bb : vc.ownBlock ≠ some bm := ar.apart om
       have f8 := gb_ hk.size an
       clear an
       replace ar := ar.step cx
       replace r_rp := r_rp.step cx
       replace r_g := r_g.step cx
       replace aa := aa.step cx
       replace hk := thenB hk cx
       refine w_sta (k := 8) (G := fun j => U64 ((Sha.H0 256) j)) (ex (pt bm 0)) ea oc ShaST.sz93 ab om ?_
       clear ab; intro g6 ab cz _
       replace ab := ab.congr (g := fun j => U64 ((Sha.H0 256) j)) (fun j hj => by rw [if_pos ⟨Nat.zero_le _, by omega⟩]; first | rfl | (simp only [Nat.sub_zero]))
       replace ar := ar.stepG cz bb
       replace r_rp := r_rp.stepG cz om
       replace r_g := r_g.stepG cz om
       replace aa := aa.stepG cz om
       replace hk := thenG hk cz om
       refine nt (wp_seq (sr (w_as Ev.c (nt (wp_block ?_)))))
       refine c_loop (fun dN aN wl => ∃ (t : Nat) (vd : Value), dN = (Sha.nb 256 s - t) ∧ ∃ en, aN = fr 132 en ∧ (t ≤ Sha.nb 256 s) ∧ en 0 = pt rp 0 ∧ en 4 = .string (str ([] : List (BitVec 8))) ∧ en 5 = vd ∧ en 9 = pt bm 0 ∧ en 10 = .int .i64 (((64 * t) : Nat) : Int) ∧ Row wl rp 96 25 (Sha.rrow (.int .i64 256) (.int .i64 32) (.int .i64 64) (.int .i64 64) (.slice (some ⟨g, 0, none⟩) 64 cap) (Sha.H0 256) (fun i => U64 (BitVec.ofNat 64 (Sha.trn true i)))) ∧ Row wl g 92 64 (fun j => U64 (Sha.K true j)) ∧ Row wl ag 5 1 (fun j => U8 (128#8)) ∧ Row wl bm 93 8 (fun j => U64 (Sha.st 256 (gb (Sha.full 256 s)) t j)) ∧ Own wl w0.heap.size 5 1 vd (s.length + 1 + ((119 - s.length % 64) % 64) + 8) (fun j => U8 (gb (Sha.full 256 s) j)) ∧ vd.ownBlock ≠ some rp ∧ vd.ownBlock ≠ some g ∧ vd.ownBlock ≠ some ag ∧ vd.ownBlock ≠ some bm ∧ Below w0.heap.size w0 wl) (Sha.nb 256 s - 0) ?_ ?_
       · exact ⟨0, vc, rfl, _, rfl, iv, ej, fn, (Eq.trans (b := vc) fc dv), rfl, (Eq.trans (b := .int .i64 0) rfl (by rfl)), r_rp, r_g, aa, (ab.congr (fun j hj => by rfl)), (own_n (ar.cg) om), a5, bk, am, bb, hk⟩
       ·skip
        clear r_rp r_g aa ab ar hk
        rintro _ _ g8 ⟨t, vd, rfl, en, rfl, gr, cl, fe, dj, dk, ca, r_rp, r_g, aa, ab, bh, a2, bp, ak, ah, hk⟩
        have gq : t < Sha.nb 256 s → (((Sha.full 256 s).drop (64 * t)).take 64).length = 64 := fun h => by rw [List.length_take, List.length_drop, gl]; omega
        refine wp_seq (sr (w_mv (ei ca) (w_mv (ex vd dj) (w_val (v := .int .i64 (((s.length + 1 + ((119 - s.length % 64) % 64) + 8) : Nat) : Int)) (y_len_own (ex vd) bh Tryz.underlying55) (w_val (y_bin ei ei b_lss) (nt ?_))))))
        refine c_if (p := (((64 * t) : Nat) : Int) < (((s.length + 1 + ((119 - s.length % 64) % 64) + 8) : Nat) : Int)) eb (fun hc46 => ?_) (fun hc46 => ?_)
        ·skip
         refine wp_skip (then_n (wp_seq (wp_block ?_)))
         obtain ⟨ew, dx, f9, f2, f4, aw, bf⟩ := bh.opened om
         have ep : rp ≠ ew := fun e => a2 (by rw [aw, e])
         have fo : g ≠ ew := fun e => bp (by rw [aw, e])
         have dz : ag ≠ ew := fun e => ak (by rw [aw, e])
         have d6 : bm ≠ ew := fun e => ah (by rw [aw, e])
         refine region_t 13 ShaST.mixed kr ?_
         simp only [List.take_succ_cons, List.take_zero, List.drop_succ_cons, List.drop_zero]
         refine q_mv (ex (pt rp 0) cl) (q_val (v := .agg (arr 8 (fun j => U64 (Sha.st 256 (gb (Sha.full 256 s)) t j)))) (fun w' hw' => y_lda (ex (pt bm 0) dk) ShaST.ag93 ShaST.sz93 (fun j hj => by rw [Nat.zero_add]; exact (cls_cell (ab.cell om) ab.lt w' hw'))) (q_mv (ex vd dj) (q_mv (ei ca) (q_mv (ei ca) (q_mv (ex (pt rp 0) cl) (q_val (fun w' hw' => y_nc (ex (pt rp 0))) (q_val (v := pt rp 2) (fun w' hw' => y_off (y_fa (ex (pt rp 0)) (ShaST.fa96_2 _ _)) ro) (q_val (v := .int .i64 64) (fun w' hw' => y_ld (ex (pt rp 2)) ShaST.sc3 (cls_cell (r_rp.val om (ng (ng pz))) r_rp.lt w' hw')) (q_val (fun w' hw' => y_bin ei ei (b_add om)) (q_val (v := .slice (some ⟨ew, (64 * t), none⟩) (((64 * t) + 64) - (64 * t)) (dx - (64 * t))) (fun w' hw' => y_sloff (y_slv (ex (.slice (some ⟨ew, 0, none⟩) (s.length + 1 + ((119 - s.length % 64) % 64) + 8) dx) (Eq.trans (b := vd) rfl f9)) (evo.s ei) (evo.s ei) Tryz.underlying55 ShaST.sz5 (bnd_lh (l := (64 * t)) (h := ((64 * t) + 64)) om om om om) om) ro rfl) (q_val (fun w' hw' => y_str (l := ((Sha.full 256 s).drop (64 * t)).take 64) el (by rw [List.length_take, List.length_drop, gl]; omega) Tryz.underlying55 Tryz.underlying5 Tryz.underlying9 (fun j hj => (cls_cell (bf.val om (by rw [gb_take _ _ _ (show j < 64 by omega), gb_drop])) bf.lt w' hw'))) (q_call (v := .agg (arr 8 (fun j => U64 (Sha.comp true (gb (((Sha.full 256 s).drop (64 * t)).take 64)) (Sha.st 256 (gb (Sha.full 256 s)) t) j)))) (Tryz.func54) kr rfl (m3 (ex (pt rp 0)) ea es) (fun w' hw' => block_t rp 32 g cap (Sha.H0 256) (Sha.st 256 (gb (Sha.full 256 s)) t) (((Sha.full 256 s).drop (64 * t)).take 64) (gq om) w' (r_rp.step hw') (r_g.step hw')) (q_nil ?_)))))))))))))
         intro g0 b2
         replace bh := bh.step b2
         replace r_rp := r_rp.step b2
         replace r_g := r_g.step b2
         replace aa := aa.step b2
         replace ab := ab.step b2
         replace bf := bf.step b2
         replace hk := thenB hk b2
         refine w_sta (k := 8) (G := fun j => U64 (Sha.comp true (gb (((Sha.full 256 s).drop (64 * t)).take 64)) (Sha.st 256 (gb (Sha.full 256 s)) t) j)) (ex (pt bm 0) dk) ea oc ShaST.sz93 ab om ?_
         clear ab; intro gx ab cf _
         replace ab := ab.congr (g := fun j => U64 (Sha.comp true (gb (((Sha.full 256 s).drop (64 * t)).take 64)) (Sha.st 256 (gb (Sha.full 256 s)) t) j)) (fun j hj => by rw [if_pos ⟨Nat.zero_le _, by omega⟩]; first | rfl | (simp only [Nat.sub_zero]))
         replace bh := bh.stepG cf ah
         replace r_rp := r_rp.stepG cf om
         replace r_g := r_g.stepG cf om
         replace aa := aa.stepG cf om
         replace bf := bf.stepG cf om
         replace hk := thenG hk cf om
         refine wpList_nil (inb_n (then_n (wp_region_lit (w_mv (ei ca) (w_mv (ex (pt rp 0) cl) (w_val (y_nc (ex (pt rp 0))) (w_val (v := pt rp 2) (y_off (y_fa (ex (pt rp 0)) (ShaST.fa96_2 _ _)) ro) (w_val (v := .int .i64 64) (y_ld (ex (pt rp 2)) ShaST.sc3 (r_rp.val om (ng (ng pz)))) (w_val (y_bin ei ei (b_add om)) (w_as ei (wpList_nil ?_)))))))))))
         exact then_n ⟨_, om, t + 1, vd, rfl, _, rfl, iv, cl, fe, dj, dk, (Eq.trans (b := .int .i64 ((((64 * t) : Nat) : Int) + 64)) rfl (by congr 1)), r_rp, r_g, aa, (ab.congr (fun j hj => by exact congrArg U64 (congrFun (Sha.st_next 256 (gb (Sha.full 256 s)) (gb (((Sha.full 256 s).drop (64 * t)).take 64)) t (fun i hi => by rw [gb_take _ _ _ (show i < 64 from hi), gb_drop]; rfl)) j))), bh, a2, bp, ak, ah, hk⟩
        ·skip
         refine wp_exit (then_x ?_)
         replace ab := ab.congr (g := fun j => U64 (Sha.st 256 (gb (Sha.full 256 s)) (Sha.nb 256 s) j)) (fun j hj => by rw [show t = Sha.nb 256 s from by omega])
         refine then_x (inb_x (then_n (sr (w_as Ev.c (nt (sr (w_mv (ex (pt rp 0) cl) (w_val (y_nc (ex (pt rp 0))) (w_val (v := pt rp 2) (y_off (y_fa (ex (pt rp 0)) (ShaST.fa96_2 _ _)) ro) (w_val (v := .int .i64 64) (y_ld (ex (pt rp 2)) ShaST.sc3 (r_rp.val om (ng (ng pz)))) (w_val (y_bin ei Ev.c (b_quo om)) (w_as ei (nt (wp_seq (sr (w_as Ev.c (nt (wp_block ?_))))))))))))))))))
         refine c_loop (fun dN aN wl => ∃ (a : Nat) (ve : Value) (wd : Value), dN = (8 - a) ∧ ∃ dc, aN = fr 132 dc ∧ (a ≤ 8) ∧ dc 0 = pt rp 0 ∧ dc 4 = .string (str ([] : List (BitVec 8))) ∧ dc 5 = wd ∧ dc 9 = pt bm 0 ∧ dc 11 = ve ∧ dc 12 = .int .i64 4 ∧ dc 13 = .int .i64 ((a : Nat) : Int) ∧ Row wl rp 96 25 (Sha.rrow (.int .i64 256) (.int .i64 32) (.int .i64 64) (.int .i64 64) (.slice (some ⟨g, 0, none⟩) 64 cap) (Sha.H0 256) (fun i => U64 (BitVec.ofNat 64 (Sha.trn true i)))) ∧ Row wl g 92 64 (fun j => U64 (Sha.K true j)) ∧ Row wl ag 5 1 (fun j => U8 (128#8)) ∧ Row wl bm 93 8 (fun j => U64 (Sha.st 256 (gb (Sha.full 256 s)) (Sha.nb 256 s) j)) ∧ Own wl w0.heap.size 5 1 ve (4 * a) (fun j => U8 ((Sha.st 256 (gb (Sha.full 256 s)) (Sha.nb 256 s) (j / 4) >>> (8 * (3 - j % 4))).setWidth 8)) ∧ ve.ownBlock ≠ some rp ∧ ve.ownBlock ≠ some g ∧ ve.ownBlock ≠ some ag ∧ ve.ownBlock ≠ some bm ∧ (∀ g, ve.ownBlock = some g → wd.ownBlock ≠ some g) ∧ Own wl w0.heap.size 5 1 wd (s.length + 1 + ((119 - s.length % 64) % 64) + 8) (fun j => U8 (gb (Sha.full 256 s) j)) ∧ wd.ownBlock ≠ some rp ∧ wd.ownBlock ≠ some g ∧ wd.ownBlock ≠ some ag ∧ wd.ownBlock ≠ some bm ∧ (∀ g, wd.ownBlock = some g → ve.ownBlock ≠ some g) ∧ Below w0.heap.size w0 wl) (8 - 0) ?_ ?_
         · exact ⟨0, (.slice none 0 0), vd, rfl, _, rfl, iv, cl, fe, (Eq.trans (b := vd) dj dv), dk, (etv (b := .slice none 0 0) rfl), rfl, ti, r_rp, r_g, aa, ab, Own.nil, (fun e => by cases e), (fun e => by cases e), (fun e => by cases e), (fun e => by cases e), (fun g e => by cases e), bh, a2, bp, ak, ah, (fun g _ e => by cases e), hk⟩
         ·skip
          clear r_rp r_g aa ab bh hk
          rintro _ _ gy ⟨a, ve, wd, rfl, dc, rfl, gp, fh, f5, ge, f7, d0, dn, du, r_rp, r_g, aa, ab, em, bq, b8, a6, be, ci, fq, cp, dh, b5, ch, bc, hk⟩
          refine wp_seq (sr (w_mv (ei du) (w_val (y_bin ei Ev.c b_lss) (nt ?_))))
          refine c_if (p := ((a : Nat) : Int) < 8) eb (fun hc54 => ?_) (fun hc54 => ?_)
          ·skip
           refine wp_skip (then_n (wp_seq (wp_block (sr (w_mv (ei dn) (w_val (y_bin ei Ev.c (b_sub om)) (w_as ei (nt (wp_block ?_)))))))))
           refine c_loop (fun dN aN wl => ∃ (b : Nat) (vf : Value) (we : Value), dN = (4 - b) ∧ ∃ c7, aN = fr 132 c7 ∧ (b ≤ 4) ∧ c7 0 = pt rp 0 ∧ c7 4 = .string (str ([] : List (BitVec 8))) ∧ c7 5 = we ∧ c7 9 = pt bm 0 ∧ c7 11 = vf ∧ c7 12 = .int .i64 4 ∧ c7 13 = .int .i64 ((a : Nat) : Int) ∧ c7 14 = .int .i64 (3 - ((b : Nat) : Int)) ∧ Row wl rp 96 25 (Sha.rrow (.int .i64 256) (.int .i64 32) (.int .i64 64) (.int .i64 64) (.slice (some ⟨g, 0, none⟩) 64 cap) (Sha.H0 256) (fun i => U64 (BitVec.ofNat 64 (Sha.trn true i)))) ∧ Row wl g 92 64 (fun j => U64 (Sha.K true j)) ∧ Row wl ag 5 1 (fun j => U8 (128#8)) ∧ Row wl bm 93 8 (fun j => U64 (Sha.st 256 (gb (Sha.full 256 s)) (Sha.nb 256 s) j)) ∧ Own wl w0.heap.size 5 1 vf (4 * a + b) (fun j => U8 ((Sha.st 256 (gb (Sha.full 256 s)) (Sha.nb 256 s) (j / 4) >>> (8 * (3 - j % 4))).setWidth 8)) ∧ vf.ownBlock ≠ some rp ∧ vf.ownBlock ≠ some g ∧ vf.ownBlock ≠ some ag ∧ vf.ownBlock ≠ some bm ∧ (∀ g, vf.ownBlock = some g → we.ownBlock ≠ some g) ∧ Own wl w0.heap.size 5 1 we (s.length + 1 + ((119 - s.length % 64) % 64) + 8) (fun j => U8 (gb (Sha.full 256 s) j)) ∧ we.ownBlock ≠ some rp ∧ we.ownBlock ≠ some g ∧ we.ownBlock ≠ some ag ∧ we.ownBlock ≠ some bm ∧ (∀ g, we.ownBlock = some g → vf.ownBlock ≠ some g) ∧ Below w0.heap.size w0 wl) (4 - 0) ?_ ?_
           · exact ⟨0, ve, wd, rfl, _, rfl, iv, fh, f5, (Eq.trans (b := wd) ge dv), f7, (Eq.trans (b := ve) d0 dv), dn, du, (Eq.trans (b := .int .i64 3) rfl (by rfl)), r_rp, r_g, aa, ab, (own_n (em.cg) om), bq, b8, a6, be, ci, fq, cp, dh, b5, ch, bc, hk⟩
           ·skip
            clear r_rp r_g aa ab em fq hk
            rintro _ _ hb ⟨b, vf, we, rfl, c7, rfl, gs, fp, fl, e2, eg, dt, ds, cr, co, r_rp, r_g, aa, ab, b6, ay, bj, ai, au, ce, bu, bs, cb, a9, bd, aq, hk⟩
            refine wp_seq (sr (w_mv (ei co) (w_val (y_bin ei Ev.c b_geq) (nt ?_))))
            refine c_if (p := 0 ≤ (3 - ((b : Nat) : Int))) eb (fun hc57 => ?_) (fun hc57 => ?_)
            ·skip
             refine wp_skip (then_n (wp_seq (wp_block (wp_region_lit (w_mv (ex vf dt) (w_mv (ei cr) (w_val (y_ia1z (i := a) (ex (pt bm 0) eg) ei Tryz.underlying93 ShaST.sz92 om om) (w_val (v := U64 (Sha.st 256 (gb (Sha.full 256 s)) (Sha.nb 256 s) a)) (y_ld (ex (pt bm a)) ShaST.sc92 (ab.val om rfl)) (w_mv (ei co) (w_val (y_bin Ev.c ei (b_mul om)) (w_val (y_nat_u64 (p := (8 * (3 - b))) ei om ShaST.so3 Tryz.underlying87) (w_val (y_bin e6 e6 (shr64 (c := (8 * (3 - b))) (by rw [BitVec.toNat_ofNat]; omega))) (w_val (y_u64_u8 e6 ShaST.so92 Tryz.underlying5) (w_bs1 (m := 1) (e := 5) (F := fun j => U8 (((Sha.st 256 (gb (Sha.full 256 s)) (Sha.nb 256 s) a) >>> (8 * (3 - b))).setWidth 8)) e8 (fun w => by kernel_rfl) ?_))))))))))))))
             intro dq gw ac ax b0
             have dy := r_rp.nb ac
             have ed := r_g.nb ac
             have c6 := aa.nb ac
             have c9 := ab.nb ac
             have av : vf.ownBlock ≠ some dq := b6.apart om
             have dw : we.ownBlock ≠ some dq := bu.apart om
             have fi := gb_ hk.size ac
             clear ac
             replace b6 := b6.step b0
             replace bu := bu.step b0
             replace r_rp := r_rp.step b0
             replace r_g := r_g.step b0
             replace aa := aa.step b0
             replace ab := ab.step b0
             replace hk := thenB hk b0
             refine w_app (k := (4 * a + b)) (m := 1) (size := 1) (bytes := 1) (ex vf) el Tryz.underlying55 kr (by decide) b6 hk.size ax om oca (by simp only [maxLen]; omega) om ?_
             intro f0 g1 e5 b4 cm
             have ba : ∀ g, we.ownBlock = some g → f0.ownBlock ≠ some g := sep_new aq bu cm
             have b3 : ∀ g, f0.ownBlock = some g → we.ownBlock ≠ some g := sep_sym ba
             replace bu := bu.stepO b4 (sep_or aq)
             have ck := no_new ay r_rp.lt cm
             replace r_rp := r_rp.stepO b4 ay
             have c2 := no_new bj r_g.lt cm
             replace r_g := r_g.stepO b4 bj
             have bz := no_new ai aa.lt cm
             replace aa := aa.stepO b4 ai
             have b1 := no_new au ab.lt cm
             replace ab := ab.stepO b4 au
             have di := no_new av ax.lt cm
             replace ax := ax.stepO b4 av
             replace hk := thenO hk b4 (fun g e => (b6.block_lt g e).2)
             clear b6
             refine w_as (ex f0) (wpList_nil (inb_n (then_n (wp_region_lit (w_mv (ei co) (w_val (y_bin ei Ev.c (b_sub om)) (w_as ei (wpList_nil ?_))))))))
             exact then_n ⟨_, om, b + 1, f0, we, rfl, _, rfl, iv, fp, fl, e2, eg, rfl, ds, cr, (Eq.trans (b := .int .i64 ((3 - ((b : Nat) : Int)) - 1)) rfl (by congr 1; omega)), r_rp, r_g, aa, ab, (own_n (e5.congr (fun j hj => by (try dsimp only); by_cases e : j < (4 * a + b) * 1; (rw [if_pos e]); (rw [if_neg e]; exact congrArg U8 (by rw [show j / 4 = a from by omega, show j % 4 = b from by omega])))) om), ck, c2, bz, b1, b3, bu, bs, cb, a9, bd, ba, hk⟩
            ·skip
             refine wp_exit (then_x (then_x (inb_x (inb_n (then_n (wp_region_lit (w_mv (ei cr) (w_val (y_bin ei Ev.c (b_add om)) (w_as ei (wpList_nil ?_))))))))))
             exact then_n ⟨_, om, a + 1, vf, we, rfl, _, rfl, iv, fp, fl, e2, eg, dt, ds, ti, r_rp, r_g, aa, ab, (own_n (b6.cg) om), ay, bj, ai, au, ce, bu, bs, cb, a9, bd, aq, hk⟩
          ·skip
           refine wp_exit (then_x (then_x (inb_x (then_n (wp_seq ?_)))))
           obtain ⟨ee, d2, f3, f1, gc, ao, e9⟩ := em.opened om
           have er : rp ≠ ee := fun e => bq (by rw [ao, e])
           have e3 : g ≠ ee := fun e => b8 (by rw [ao, e])
           have dr : ag ≠ ee := fun e => a6 (by rw [ao, e])
           have d9 : bm ≠ ee := fun e => be (by rw [ao, e])
           have eq : wd.ownBlock ≠ some ee := fun e => bc _ e ao
           refine wp_region_lit (w_mv (ex ve d0) (w_mv (ex (pt rp 0) fh) (w_val (y_nc (ex (pt rp 0))) (w_val (v := pt rp 1) (y_off (y_fa (ex (pt rp 0)) (ShaST.fa96_1 _ _)) ro) (w_val (v := .int .i64 32) (y_ld (ex (pt rp 1)) ShaST.sc3 (r_rp.val om (ng pz))) (w_val (v := .slice (some ⟨ee, 0, none⟩) 32 d2) (y_slh (ex (.slice (some ⟨ee, 0, none⟩) (4 * a) d2) (Eq.trans (b := ve) rfl f3)) (evo.s ei) Tryz.underlying55 (bnd_h (h := 32) om om) ShaST.sz5) (w_val (y_str (l := Sha.sum 256 s) el (by rw [Sha.length_sum]; rfl) Tryz.underlying55 Tryz.underlying5 Tryz.underlying9 (fun j hj => (e9.val om (by rw [Sha.gb_sum _ _ _ (show j < Sha.ol 256 from hj), Nat.zero_add]; rfl)))) (w_as es (nt (wp_ret (fin_ret1 rfl es ?_)))))))))))
           exact ⟨rfl, hk⟩

theorem ruleSum_384 (rp g cap : Nat) (s : List (BitVec 8)) (hs : s.length ≤ 1099511627776) (w0 : World) (r_rp : Row w0 rp 96 25 (Sha.rrow (.int .i64 384) (.int .i64 48) (.int .i64 128) (.int .i64 80) (.slice (some ⟨g, 0, none⟩) 80 cap) (Sha.H0 384) (fun i => U64 (BitVec.ofNat 64 (Sha.trn false i))))) (r_g : Row w0 g 92 80 (fun j => U64 (Sha.K false j))) : Calls Tryz.prog 38 #[pt rp 0, .string (str s)] w0 fun e w' => e = .returned (.string (str (Sha.sum 384 s))) ∧ Below w0.heap.size w0 w' := by
 have g4 : Sha.padl 384 s.length = ((239 - s.length % 128) % 128) + 1 + 16 := by rw [Sha.padl_eq 384 128 _ rfl]
 have he : 128 * Sha.nb 384 s = s.length + Sha.padl 384 s.length := by have h := Sha.length_full 384 s; unfold Sha.full at h; rw [List.length_append, Sha.length_pad] at h; exact h.symm
 have gl : (Sha.full 384 s).length = 128 * Sha.nb 384 s := Sha.length_full 384 s
 refine enter (n := 132) Tryz.func38 rfl rfl rfl ?_
 have hk : Below w0.heap.size w0 w0 := Below.refl _ _
 have gi := r_rp.lt
 have gn := r_g.lt
 refine sr (w_as (evc (.string (str ([] : List (BitVec 8))))) (nt (sr (w_mv es (w_bytes_own es Tryz.underlying9 Tryz.underlying55 Tryz.underlying5 (by simp only [maxLen]; omega) hk.size ?_)))))
 intro v1 w2 cn gg gf
 have bx : v1.ownBlock ≠ some rp := fun e1 => by rw [gg] at e1; injection e1 with e1; have := r_rp.lt; omega
 have b9 : v1.ownBlock ≠ some g := fun e1 => by rw [gg] at e1; injection e1 with e1; have := r_g.lt; omega
 replace r_rp := r_rp.step gf
 replace r_g := r_g.step gf
 replace hk := thenB hk gf
 refine w_as (ex v1) (nt (sr (w_mv (ex v1) (w_bs1 (m := 1) (e := 5) (F := fun j => U8 (128#8)) (evc (U8 (128#8))) (fun w => by kernel_rfl) ?_))))
 intro ag w5 ap aa fv
 have d7 := r_rp.nb ap
 have ez := r_g.nb ap
 have a0 : v1.ownBlock ≠ some ag := cn.apart om
 have fw := gb_ hk.size ap
 clear ap
 replace cn := cn.step fv
 replace r_rp := r_rp.step fv
 replace r_g := r_g.step fv
 replace hk := thenB hk fv
 refine w_app (k := s.length) (m := 1) (size := 1) (bytes := 1) (ex v1) el Tryz.underlying55 kr (by decide) cn hk.size aa om oca (by simp only [maxLen]; omega) om ?_
 intro v7 w8 fd fz eh
 have cq := no_new bx r_rp.lt eh
 replace r_rp := r_rp.stepO fz bx
 have dg := no_new b9 r_g.lt eh
 replace r_g := r_g.stepO fz b9
 have b7 := no_new a0 aa.lt eh
 replace aa := aa.stepO fz a0
 replace hk := thenO hk fz (fun g e => (cn.block_lt g e).2)
 clear cn
 refine w_as (ex v7) (nt (wp_seq (wp_block ?_)))
 refine c_loop (fun dN aN wl => ∃ (z : Nat) (va : Value), dN = (((239 - s.length % 128) % 128) - z) ∧ ∃ e0, aN = fr 132 e0 ∧ (z ≤ ((239 - s.length % 128) % 128)) ∧ e0 0 = pt rp 0 ∧ e0 1 = .string (str s) ∧ e0 4 = .string (str ([] : List (BitVec 8))) ∧ e0 5 = va ∧ Row wl rp 96 25 (Sha.rrow (.int .i64 384) (.int .i64 48) (.int .i64 128) (.int .i64 80) (.slice (some ⟨g, 0, none⟩) 80 cap) (Sha.H0 384) (fun i => U64 (BitVec.ofNat 64 (Sha.trn false i)))) ∧ Row wl g 92 80 (fun j => U64 (Sha.K false j)) ∧ Row wl ag 5 1 (fun j => U8 (128#8)) ∧ Own wl w0.heap.size 5 1 va (s.length + 1 + z) (fun j => U8 (gb (Sha.full 384 s) j)) ∧ va.ownBlock ≠ some rp ∧ va.ownBlock ≠ some g ∧ va.ownBlock ≠ some ag ∧ Below w0.heap.size w0 wl) (((239 - s.length % 128) % 128) - 0) ?_ ?_
 · exact ⟨0, v7, rfl, _, rfl, iv, rfl, rfl, rfl, (etv (b := v7) rfl), r_rp, r_g, aa, (own_n (fd.congr (fun j hj => by (try dsimp only); by_cases e : j < s.length * 1; (rw [if_pos e, Sha.gb_full_lo _ _ _ om]); (rw [if_neg e]; exact congrArg U8 (Sha.full_80 384 s j om)))) om), cq, dg, b7, hk⟩
 ·skip
  clear r_rp r_g aa fd hk
  rintro _ _ ha ⟨z, va, rfl, e0, rfl, gm, c3, fg, fk, ef, r_rp, r_g, aa, a4, a3, bg, aj, hk⟩
  refine ss (region_q ShaST.mixed kr (q_mv (ex va ef) (q_val (v := .int .i64 (((s.length + 1 + z) : Nat) : Int)) (fun w' hw' => y_len_own (ex va) a4 Tryz.underlying55) (q_mv (ex (pt rp 0) c3) (q_val (fun w' hw' => y_nc (ex (pt rp 0))) (q_val (v := pt rp 2) (fun w' hw' => y_off (y_fa (ex (pt rp 0)) (ShaST.fa96_2 _ _)) ro) (q_val (v := .int .i64 128) (fun w' hw' => y_ld (ex (pt rp 2)) ShaST.sc3 (cls_cell (r_rp.val om (ng (ng pz))) r_rp.lt w' hw')) (q_val (fun w' hw' => y_bin ei ei (b_rem om)) (q_mv (ex (pt rp 0) c3) (q_val (fun w' hw' => y_nc (ex (pt rp 0))) (q_val (v := pt rp 2) (fun w' hw' => y_off (y_fa (ex (pt rp 0)) (ShaST.fa96_2 _ _)) ro) (q_val (v := .int .i64 128) (fun w' hw' => y_ld (ex (pt rp 2)) ShaST.sc3 (cls_cell (r_rp.val om (ng (ng pz))) r_rp.lt w' hw')) (q_mv (ex (pt rp 0) c3) (q_val (fun w' hw' => y_nc (ex (pt rp 0))) (q_val (v := pt rp 2) (fun w' hw' => y_off (y_fa (ex (pt rp 0)) (ShaST.fa96_2 _ _)) ro) (q_val (v := .int .i64 128) (fun w' hw' => y_ld (ex (pt rp 2)) ShaST.sc3 (cls_cell (r_rp.val om (ng (ng pz))) r_rp.lt w' hw')) (q_val (fun w' hw' => y_bin ei Ev.c (b_quo om)) (q_val (fun w' hw' => y_bin ei ei (b_sub om)) (q_val (fun w' hw' => y_bin ei ei b_neq) (q_nil ?_))))))))))))))))))))
  intro g2 c1
  replace a4 := a4.step c1
  replace r_rp := r_rp.step c1
  replace r_g := r_g.step c1
  replace aa := aa.step c1
  replace hk := thenB hk c1
  refine then_n ?_
  refine c_if (p := ((((s.length + 1 + z) : Nat) : Int) % 128) ≠ 112) eb (fun hc15 => ?_) (fun hc15 => ?_)
  ·skip
   refine wp_skip (then_n (wp_block (wp_region_lit (w_mv (ex va ef) (w_bs1 (m := 1) (e := 5) (F := fun j => U8 (0#8)) (evc (U8 (0#8))) (fun w => by kernel_rfl) ?_)))))
   intro ga g7 af bo c5
   have d5 := r_rp.nb af
   have ey := r_g.nb af
   have da := aa.nb af
   have a8 : va.ownBlock ≠ some ga := a4.apart om
   have fy := gb_ hk.size af
   clear af
   replace a4 := a4.step c5
   replace r_rp := r_rp.step c5
   replace r_g := r_g.step c5
   replace aa := aa.step c5
   replace hk := thenB hk c5
   refine w_app (k := (s.length + 1 + z)) (m := 1) (size := 1) (bytes := 1) (ex va) el Tryz.underlying55 kr (by decide) a4 hk.size bo om oca (by simp only [maxLen]; omega) om ?_
   intro gk hc fj cy dd
   have cc := no_new a3 r_rp.lt dd
   replace r_rp := r_rp.stepO cy a3
   have cv := no_new bg r_g.lt dd
   replace r_g := r_g.stepO cy bg
   have bw := no_new aj aa.lt dd
   replace aa := aa.stepO cy aj
   have dl := no_new a8 bo.lt dd
   replace bo := bo.stepO cy a8
   replace hk := thenO hk cy (fun g e => (a4.block_lt g e).2)
   clear a4
   refine w_as (ex gk) (wpList_nil (inb_n ?_))
   exact then_n ⟨_, om, z + 1, gk, rfl, _, rfl, iv, c3, fg, fk, rfl, r_rp, r_g, aa, (own_n (fj.congr (fun j hj => by (try dsimp only); by_cases e : j < (s.length + 1 + z) * 1; (rw [if_pos e]); (rw [if_neg e]; exact congrArg U8 (Sha.full_0 384 s j om om)))) om), cc, cv, bw, hk⟩
  ·skip
   refine wp_exit (then_x (then_x (inb_x (then_n (wp_seq (sr (w_as Ev.c (nt (wp_block ?_)))))))))
   refine c_loop (fun dN aN wl => ∃ (y : Nat) (vb : Value), dN = (8 - y) ∧ ∃ d4, aN = fr 132 d4 ∧ (y ≤ 8) ∧ d4 0 = pt rp 0 ∧ d4 1 = .string (str s) ∧ d4 4 = .string (str ([] : List (BitVec 8))) ∧ d4 5 = vb ∧ d4 6 = .int .i64 ((y : Nat) : Int) ∧ Row wl rp 96 25 (Sha.rrow (.int .i64 384) (.int .i64 48) (.int .i64 128) (.int .i64 80) (.slice (some ⟨g, 0, none⟩) 80 cap) (Sha.H0 384) (fun i => U64 (BitVec.ofNat 64 (Sha.trn false i)))) ∧ Row wl g 92 80 (fun j => U64 (Sha.K false j)) ∧ Row wl ag 5 1 (fun j => U8 (128#8)) ∧ Own wl w0.heap.size 5 1 vb (s.length + 1 + ((239 - s.length % 128) % 128) + y) (fun j => U8 (gb (Sha.full 384 s) j)) ∧ vb.ownBlock ≠ some rp ∧ vb.ownBlock ≠ some g ∧ vb.ownBlock ≠ some ag ∧ Below w0.heap.size w0 wl) (8 - 0) ?_ ?_
   · exact ⟨0, va, rfl, _, rfl, iv, c3, fg, fk, (Eq.trans (b := va) ef dv), ti, r_rp, r_g, aa, (own_n (a4.cg) om), a3, bg, aj, hk⟩
   ·skip
    clear r_rp r_g aa a4 hk
    rintro _ _ g3 ⟨y, vb, rfl, d4, rfl, gt, d8, ff, fb, fm, e4, r_rp, r_g, aa, bt, a1, bi, al, hk⟩
    refine wp_seq (sr (w_mv (ei e4) (w_mv (ex (pt rp 0) d8) (w_val (y_nc (ex (pt rp 0))) (w_val (v := pt rp 2) (y_off (y_fa (ex (pt rp 0)) (ShaST.fa96_2 _ _)) ro) (w_val (v := .int .i64 128) (y_ld (ex (pt rp 2)) ShaST.sc3 (r_rp.val om (ng (ng pz)))) (w_val (y_bin ei Ev.c (b_quo om)) (w_val (y_bin ei Ev.c (b_sub om)) (w_val (y_bin ei ei b_lss) (nt ?_))))))))))
    refine c_if (p := ((y : Nat) : Int) < 8) eb (fun hc24 => ?_) (fun hc24 => ?_)
    ·skip
     refine wp_skip (then_n (wp_seq (wp_block (wp_region_lit (w_mv (ex vb fm) (w_bs1 (m := 1) (e := 5) (F := fun j => U8 (0#8)) (evc (U8 (0#8))) (fun w => by kernel_rfl) ?_))))))
     intro gd gz ae bn c0
     have ec := r_rp.nb ae
     have eu := r_g.nb ae
     have de := aa.nb ae
     have az : vb.ownBlock ≠ some gd := bt.apart om
     have fu := gb_ hk.size ae
     clear ae
     replace bt := bt.step c0
     replace r_rp := r_rp.step c0
     replace r_g := r_g.step c0
     replace aa := aa.step c0
     replace hk := thenB hk c0
     refine w_app (k := (s.length + 1 + ((239 - s.length % 128) % 128) + y)) (m := 1) (size := 1) (bytes := 1) (ex vb) el Tryz.underlying55 kr (by decide) bt hk.size bn om oca (by simp only [maxLen]; omega) om ?_
     intro gh g5 fa ct df
     have cj := no_new a1 r_rp.lt df
     replace r_rp := r_rp.stepO ct a1
     have cs := no_new bi r_g.lt df
     replace r_g := r_g.stepO ct bi
     have br := no_new al aa.lt df
     replace aa := aa.stepO ct al
     have d1 := no_new az bn.lt df
     replace bn := bn.stepO ct az
     replace hk := thenO hk ct (fun g e => (bt.block_lt g e).2)
     clear bt
     refine w_as (ex gh) (wpList_nil (inb_n (then_n (wp_region_lit (w_mv (ei e4) (w_val (y_bin ei Ev.c (b_add om)) (w_as ei (wpList_nil ?_))))))))
     exact then_n ⟨_, om, y + 1, gh, rfl, _, rfl, iv, d8, ff, fb, rfl, ti, r_rp, r_g, aa, (own_n (fa.congr (fun j hj => by first | (exfalso; omega) | ((try dsimp only); by_cases e : j < (s.length + 1 + ((239 - s.length % 128) % 128) + y) * 1; (rw [if_pos e]); (rw [if_neg e]; exact congrArg U8 (Sha.full_0 384 s j om om))))) om), cj, cs, br, hk⟩
    ·skip
     refine wp_exit (then_x (then_x (inb_x (then_n (sr (w_mv (es ff) (w_val (y_len es Tryz.underlying9) (w_val (y_nat_u64 (p := s.length) ei om ShaST.so3 Tryz.underlying92) (w_val (y_bin e6 (evc (U64 (8#64))) mul64) (w_as e6 (nt (wp_seq (sr (w_as Ev.c (nt (wp_block ?_))))))))))))))))
     refine c_loop (fun dN aN wl => ∃ (x : Nat) (vc : Value), dN = (8 - x) ∧ ∃ d3, aN = fr 132 d3 ∧ (x ≤ 8) ∧ d3 0 = pt rp 0 ∧ d3 4 = .string (str ([] : List (BitVec 8))) ∧ d3 5 = vc ∧ d3 7 = U64 ((BitVec.ofNat 64 s.length) * (8#64)) ∧ d3 8 = .int .i64 ((x : Nat) : Int) ∧ Row wl rp 96 25 (Sha.rrow (.int .i64 384) (.int .i64 48) (.int .i64 128) (.int .i64 80) (.slice (some ⟨g, 0, none⟩) 80 cap) (Sha.H0 384) (fun i => U64 (BitVec.ofNat 64 (Sha.trn false i)))) ∧ Row wl g 92 80 (fun j => U64 (Sha.K false j)) ∧ Row wl ag 5 1 (fun j => U8 (128#8)) ∧ Own wl w0.heap.size 5 1 vc (s.length + 1 + ((239 - s.length % 128) % 128) + 8 + x) (fun j => U8 (gb (Sha.full 384 s) j)) ∧ vc.ownBlock ≠ some rp ∧ vc.ownBlock ≠ some g ∧ vc.ownBlock ≠ some ag ∧ Below w0.heap.size w0 wl) (8 - 0) ?_ ?_
     · exact ⟨0, vb, rfl, _, rfl, iv, d8, fb, (Eq.trans (b := vb) fm dv), rfl, ti, r_rp, r_g, aa, (own_n (bt.cg) om), a1, bi, al, hk⟩
     ·skip
      clear r_rp r_g aa bt hk
      rintro _ _ hd ⟨x, vc, rfl, d3, rfl, go, ej, fn, fc, fs, eo, r_rp, r_g, aa, ar, a5, bk, am, hk⟩
      refine wp_seq (sr (w_mv (ei eo) (w_val (y_bin ei Ev.c b_lss) (nt ?_))))
      refine c_if (p := ((x : Nat) : Int) < 8) eb (fun hc33 => ?_) (fun hc33 => ?_)
      ·skip
       refine wp_skip (then_n (wp_seq (wp_block (wp_region_lit (w_mv (ex vc fc) (w_mv (e6 fs) (w_mv (ei eo) (w_val (y_bin Ev.c ei (b_mul om)) (w_val (y_bin Ev.c ei (b_sub om)) (w_val (y_nat_u64 (p := (56 - (8 * x))) ei om ShaST.so3 Tryz.underlying87) (w_val (y_bin e6 e6 (shr64 (c := (56 - (8 * x))) (by rw [BitVec.toNat_ofNat]; omega))) (w_val (y_u64_u8 e6 ShaST.so92 Tryz.underlying5) (w_bs1 (m := 1) (e := 5) (F := fun j => U8 ((((BitVec.ofNat 64 s.length) * (8#64)) >>> (56 - (8 * x))).setWidth 8)) e8 (fun w => by kernel_rfl) ?_)))))))))))))
       intro f6 gv ad bl cw
       have ek := r_rp.nb ad
       have et := r_g.nb ad
       have db := aa.nb ad
       have a7 : vc.ownBlock ≠ some f6 := ar.apart om
       have fx := gb_ hk.size ad
       clear ad
       replace ar := ar.step cw
       replace r_rp := r_rp.step cw
       replace r_g := r_g.step cw
       replace aa := aa.step cw
       replace hk := thenB hk cw
       refine w_app (k := (s.length + 1 + ((239 - s.length % 128) % 128) + 8 + x)) (m := 1) (size := 1) (bytes := 1) (ex vc) el Tryz.underlying55 kr (by decide) ar hk.size bl om oca (by simp only [maxLen]; omega) om ?_
       intro gj gu ft cu c8
       have cd := no_new a5 r_rp.lt c8
       replace r_rp := r_rp.stepO cu a5
       have c4 := no_new bk r_g.lt c8
       replace r_g := r_g.stepO cu bk
       have bv := no_new am aa.lt c8
       replace aa := aa.stepO cu am
       have dm := no_new a7 bl.lt c8
       replace bl := bl.stepO cu a7
       replace hk := thenO hk cu (fun g e => (ar.block_lt g e).2)
       clear ar
       refine w_as (ex gj) (wpList_nil (inb_n (then_n (wp_region_lit (w_mv (ei eo) (w_val (y_bin ei Ev.c (b_add om)) (w_as ei (wpList_nil ?_))))))))
       exact then_n ⟨_, om, x + 1, gj, rfl, _, rfl, iv, ej, fn, rfl, fs, ti, r_rp, r_g, aa, (own_n (ft.congr (fun j hj => by (try dsimp only); by_cases e : j < (s.length + 1 + ((239 - s.length % 128) % 128) + 8 + x) * 1; (rw [if_pos e]); (rw [if_neg e]; exact congrArg U8 (Sha.full_n 384 s x j om om)))) om), cd, c4, bv, hk⟩
      ·skip
       refine wp_exit (then_x (then_x (inb_x (then_n (sr (w_mv (ex (pt rp 0) ej) (w_val (y_nc (ex (pt rp 0))) (w_val (v := pt rp 5) (y_off (y_fa (ex (pt rp 0)) (ShaST.fa96_5 _ _)) ro) (w_val (v := .agg (arr 8 (fun j => U64 ((Sha.H0 384) j)))) (y_lda (ex (pt rp 5)) ShaST.ag93 ShaST.sz93 (fun j hj => (r_rp.val om (by first | with_reducible rfl | exact (ng (ng (ng (ng (ng pz))))))))) (w_alloc (m := 8) (F := fun j => U64 (0#64)) kr ?_))))))))))
       intro bm g9 an ab cx
       have ev := r_rp.nb an
       have e7 := r_g.nb an
       have dp := aa.nb an
       have bb : vc.ownBlock ≠ some bm := ar.apart om
       have f8 := gb_ hk.size an
       clear an
       replace ar := ar.step cx
       replace r_rp := r_rp.step cx
       replace r_g := r_g.step cx
       replace aa := aa.step cx
       replace hk := thenB hk cx
       refine w_sta (k := 8) (G := fun j => U64 ((Sha.H0 384) j)) (ex (pt bm 0)) ea oc ShaST.sz93 ab om ?_
       clear ab; intro g6 ab cz _
       replace ab := ab.congr (g := fun j => U64 ((Sha.H0 384) j)) (fun j hj => by rw [if_pos ⟨Nat.zero_le _, by omega⟩]; first | rfl | (simp only [Nat.sub_zero]))
       replace ar := ar.stepG cz bb
       replace r_rp := r_rp.stepG cz om
       replace r_g := r_g.stepG cz om
       replace aa := aa.stepG cz om
       replace hk := thenG hk cz om
       refine nt (wp_seq (sr (w_as Ev.c (nt (wp_block ?_)))))
       refine c_loop (fun dN aN wl => ∃ (t : Nat) (vd : Value), dN = (Sha.nb 384 s - t) ∧ ∃ en, aN = fr 132 en ∧ (t ≤ Sha.nb 384 s) ∧ en 0 = pt rp 0 ∧ en 4 = .string (str ([] : List (BitVec 8))) ∧ en 5 = vd ∧ en 9 = pt bm 0 ∧ en 10 = .int .i64 (((128 * t) : Nat) : Int) ∧ Row wl rp 96 25 (Sha.rrow (.int .i64 384) (.int .i64 48) (.int .i64 128) (.int .i64 80) (.slice (some ⟨g, 0, none⟩) 80 cap) (Sha.H0 384) (fun i => U64 (BitVec.ofNat 64 (Sha.trn false i)))) ∧ Row wl g 92 80 (fun j => U64 (Sha.K false j)) ∧ Row wl ag 5 1 (fun j => U8 (128#8)) ∧ Row wl bm 93 8 (fun j => U64 (Sha.st 384 (gb (Sha.full 384 s)) t j)) ∧ Own wl w0.heap.size 5 1 vd (s.length + 1 + ((239 - s.length % 128) % 128) + 16) (fun j => U8 (gb (Sha.full 384 s) j)) ∧ vd.ownBlock ≠ some rp ∧ vd.ownBlock ≠ some g ∧ vd.ownBlock ≠ some ag ∧ vd.ownBlock ≠ some bm ∧ Below w0.heap.size w0 wl) (Sha.nb 384 s - 0) ?_ ?_
       · exact ⟨0, vc, rfl, _, rfl, iv, ej, fn, (Eq.trans (b := vc) fc dv), rfl, (Eq.trans (b := .int .i64 0) rfl (by rfl)), r_rp, r_g, aa, (ab.congr (fun j hj => by rfl)), (own_n (ar.cg) om), a5, bk, am, bb, hk⟩
       ·skip
        clear r_rp r_g aa ab ar hk
        rintro _ _ g8 ⟨t, vd, rfl, en, rfl, gr, cl, fe, dj, dk, ca, r_rp, r_g, aa, ab, bh, a2, bp, ak, ah, hk⟩
        have gq : t < Sha.nb 384 s → (((Sha.full 384 s).drop (128 * t)).take 128).length = 128 := fun h => by rw [List.length_take, List.length_drop, gl]; omega
        refine wp_seq (sr (w_mv (ei ca) (w_mv (ex vd dj) (w_val (v := .int .i64 (((s.length + 1 + ((239 - s.length % 128) % 128) + 16) : Nat) : Int)) (y_len_own (ex vd) bh Tryz.underlying55) (w_val (y_bin ei ei b_lss) (nt ?_))))))
        refine c_if (p := (((128 * t) : Nat) : Int) < (((s.length + 1 + ((239 - s.length % 128) % 128) + 16) : Nat) : Int)) eb (fun hc46 => ?_) (fun hc46 => ?_)
        ·skip
         refine wp_skip (then_n (wp_seq (wp_block ?_)))
         obtain ⟨ew, dx, f9, f2, f4, aw, bf⟩ := bh.opened om
         have ep : rp ≠ ew := fun e => a2 (by rw [aw, e])
         have fo : g ≠ ew := fun e => bp (by rw [aw, e])
         have dz : ag ≠ ew := fun e => ak (by rw [aw, e])
         have d6 : bm ≠ ew := fun e => ah (by rw [aw, e])
         refine region_t 13 ShaST.mixed kr ?_
         simp only [List.take_succ_cons, List.take_zero, List.drop_succ_cons, List.drop_zero]
         refine q_mv (ex (pt rp 0) cl) (q_val (v := .agg (arr 8 (fun j => U64 (Sha.st 384 (gb (Sha.full 384 s)) t j)))) (fun w' hw' => y_lda (ex (pt bm 0) dk) ShaST.ag93 ShaST.sz93 (fun j hj => by rw [Nat.zero_add]; exact (cls_cell (ab.cell om) ab.lt w' hw'))) (q_mv (ex vd dj) (q_mv (ei ca) (q_mv (ei ca) (q_mv (ex (pt rp 0) cl) (q_val (fun w' hw' => y_nc (ex (pt rp 0))) (q_val (v := pt rp 2) (fun w' hw' => y_off (y_fa (ex (pt rp 0)) (ShaST.fa96_2 _ _)) ro) (q_val (v := .int .i64 128) (fun w' hw' => y_ld (ex (pt rp 2)) ShaST.sc3 (cls_cell (r_rp.val om (ng (ng pz))) r_rp.lt w' hw')) (q_val (fun w' hw' => y_bin ei ei (b_add om)) (q_val (v := .slice (some ⟨ew, (128 * t), none⟩) (((128 * t) + 128) - (128 * t)) (dx - (128 * t))) (fun w' hw' => y_sloff (y_slv (ex (.slice (some ⟨ew, 0, none⟩) (s.length + 1 + ((239 - s.length % 128) % 128) + 16) dx) (Eq.trans (b := vd) rfl f9)) (evo.s ei) (evo.s ei) Tryz.underlying55 ShaST.sz5 (bnd_lh (l := (128 * t)) (h := ((128 * t) + 128)) om om om om) om) ro rfl) (q_val (fun w' hw' => y_str (l := ((Sha.full 384 s).drop (128 * t)).take 128) el (by rw [List.length_take, List.length_drop, gl]; omega) Tryz.underlying55 Tryz.underlying5 Tryz.underlying9 (fun j hj => (cls_cell (bf.val om (by rw [gb_take _ _ _ (show j < 128 by omega), gb_drop])) bf.lt w' hw'))) (q_call (v := .agg (arr 8 (fun j => U64 (Sha.comp false (gb (((Sha.full 384 s).drop (128 * t)).take 128)) (Sha.st 384 (gb (Sha.full 384 s)) t) j)))) (Tryz.func54) kr rfl (m3 (ex (pt rp 0)) ea es) (fun w' hw' => block_f rp 48 g cap (Sha.H0 384) 384 (by decide) (Sha.st 384 (gb (Sha.full 384 s)) t) (((Sha.full 384 s).drop (128 * t)).take 128) (gq om) w' (r_rp.step hw') (r_g.step hw')) (q_nil ?_)))))))))))))
         intro g0 b2
         replace bh := bh.step b2
         replace r_rp := r_rp.step b2
         replace r_g := r_g.step b2
         replace aa := aa.step b2
         replace ab := ab.step b2
         replace bf := bf.step b2
         replace hk := thenB hk b2
         refine w_sta (k := 8) (G := fun j => U64 (Sha.comp false (gb (((Sha.full 384 s).drop (128 * t)).take 128)) (Sha.st 384 (gb (Sha.full 384 s)) t) j)) (ex (pt bm 0) dk) ea oc ShaST.sz93 ab om ?_
         clear ab; intro gx ab cf _
         replace ab := ab.congr (g := fun j => U64 (Sha.comp false (gb (((Sha.full 384 s).drop (128 * t)).take 128)) (Sha.st 384 (gb (Sha.full 384 s)) t) j)) (fun j hj => by rw [if_pos ⟨Nat.zero_le _, by omega⟩]; first | rfl | (simp only [Nat.sub_zero]))
         replace bh := bh.stepG cf ah
         replace r_rp := r_rp.stepG cf om
         replace r_g := r_g.stepG cf om
         replace aa := aa.stepG cf om
         replace bf := bf.stepG cf om
         replace hk := thenG hk cf om
         refine wpList_nil (inb_n (then_n (wp_region_lit (w_mv (ei ca) (w_mv (ex (pt rp 0) cl) (w_val (y_nc (ex (pt rp 0))) (w_val (v := pt rp 2) (y_off (y_fa (ex (pt rp 0)) (ShaST.fa96_2 _ _)) ro) (w_val (v := .int .i64 128) (y_ld (ex (pt rp 2)) ShaST.sc3 (r_rp.val om (ng (ng pz)))) (w_val (y_bin ei ei (b_add om)) (w_as ei (wpList_nil ?_)))))))))))
         exact then_n ⟨_, om, t + 1, vd, rfl, _, rfl, iv, cl, fe, dj, dk, (Eq.trans (b := .int .i64 ((((128 * t) : Nat) : Int) + 128)) rfl (by congr 1)), r_rp, r_g, aa, (ab.congr (fun j hj => by exact congrArg U64 (congrFun (Sha.st_next 384 (gb (Sha.full 384 s)) (gb (((Sha.full 384 s).drop (128 * t)).take 128)) t (fun i hi => by rw [gb_take _ _ _ (show i < 128 from hi), gb_drop]; rfl)) j))), bh, a2, bp, ak, ah, hk⟩
        ·skip
         refine wp_exit (then_x ?_)
         replace ab := ab.congr (g := fun j => U64 (Sha.st 384 (gb (Sha.full 384 s)) (Sha.nb 384 s) j)) (fun j hj => by rw [show t = Sha.nb 384 s from by omega])
         refine then_x (inb_x (then_n (sr (w_as Ev.c (nt (sr (w_mv (ex (pt rp 0) cl) (w_val (y_nc (ex (pt rp 0))) (w_val (v := pt rp 2) (y_off (y_fa (ex (pt rp 0)) (ShaST.fa96_2 _ _)) ro) (w_val (v := .int .i64 128) (y_ld (ex (pt rp 2)) ShaST.sc3 (r_rp.val om (ng (ng pz)))) (w_val (y_bin ei Ev.c (b_quo om)) (w_as ei (nt (wp_seq (sr (w_as Ev.c (nt (wp_block ?_))))))))))))))))))
         refine c_loop (fun dN aN wl => ∃ (a : Nat) (ve : Value) (wd : Value), dN = (8 - a) ∧ ∃ dc, aN = fr 132 dc ∧ (a ≤ 8) ∧ dc 0 = pt rp 0 ∧ dc 4 = .string (str ([] : List (BitVec 8))) ∧ dc 5 = wd ∧ dc 9 = pt bm 0 ∧ dc 11 = ve ∧ dc 12 = .int .i64 8 ∧ dc 13 = .int .i64 ((a : Nat) : Int) ∧ Row wl rp 96 25 (Sha.rrow (.int .i64 384) (.int .i64 48) (.int .i64 128) (.int .i64 80) (.slice (some ⟨g, 0, none⟩) 80 cap) (Sha.H0 384) (fun i => U64 (BitVec.ofNat 64 (Sha.trn false i)))) ∧ Row wl g 92 80 (fun j => U64 (Sha.K false j)) ∧ Row wl ag 5 1 (fun j => U8 (128#8)) ∧ Row wl bm 93 8 (fun j => U64 (Sha.st 384 (gb (Sha.full 384 s)) (Sha.nb 384 s) j)) ∧ Own wl w0.heap.size 5 1 ve (8 * a) (fun j => U8 ((Sha.st 384 (gb (Sha.full 384 s)) (Sha.nb 384 s) (j / 8) >>> (8 * (7 - j % 8))).setWidth 8)) ∧ ve.ownBlock ≠ some rp ∧ ve.ownBlock ≠ some g ∧ ve.ownBlock ≠ some ag ∧ ve.ownBlock ≠ some bm ∧ (∀ g, ve.ownBlock = some g → wd.ownBlock ≠ some g) ∧ Own wl w0.heap.size 5 1 wd (s.length + 1 + ((239 - s.length % 128) % 128) + 16) (fun j => U8 (gb (Sha.full 384 s) j)) ∧ wd.ownBlock ≠ some rp ∧ wd.ownBlock ≠ some g ∧ wd.ownBlock ≠ some ag ∧ wd.ownBlock ≠ some bm ∧ (∀ g, wd.ownBlock = some g → ve.ownBlock ≠ some g) ∧ Below w0.heap.size w0 wl) (8 - 0) ?_ ?_
         · exact ⟨0, (.slice none 0 0), vd, rfl, _, rfl, iv, cl, fe, (Eq.trans (b := vd) dj dv), dk, (etv (b := .slice none 0 0) rfl), rfl, ti, r_rp, r_g, aa, ab, Own.nil, (fun e => by cases e), (fun e => by cases e), (fun e => by cases e), (fun e => by cases e), (fun g e => by cases e), bh, a2, bp, ak, ah, (fun g _ e => by cases e), hk⟩
         ·skip
          clear r_rp r_g aa ab bh hk
          rintro _ _ gy ⟨a, ve, wd, rfl, dc, rfl, gp, fh, f5, ge, f7, d0, dn, du, r_rp, r_g, aa, ab, em, bq, b8, a6, be, ci, fq, cp, dh, b5, ch, bc, hk⟩
          refine wp_seq (sr (w_mv (ei du) (w_val (y_bin ei Ev.c b_lss) (nt ?_))))
          refine c_if (p := ((a : Nat) : Int) < 8) eb (fun hc54 => ?_) (fun hc54 => ?_)
          ·skip
           refine wp_skip (then_n (wp_seq (wp_block (sr (w_mv (ei dn) (w_val (y_bin ei Ev.c (b_sub om)) (w_as ei (nt (wp_block ?_)))))))))
           refine c_loop (fun dN aN wl => ∃ (b : Nat) (vf : Value) (we : Value), dN = (8 - b) ∧ ∃ c7, aN = fr 132 c7 ∧ (b ≤ 8) ∧ c7 0 = pt rp 0 ∧ c7 4 = .string (str ([] : List (BitVec 8))) ∧ c7 5 = we ∧ c7 9 = pt bm 0 ∧ c7 11 = vf ∧ c7 12 = .int .i64 8 ∧ c7 13 = .int .i64 ((a : Nat) : Int) ∧ c7 14 = .int .i64 (7 - ((b : Nat) : Int)) ∧ Row wl rp 96 25 (Sha.rrow (.int .i64 384) (.int .i64 48) (.int .i64 128) (.int .i64 80) (.slice (some ⟨g, 0, none⟩) 80 cap) (Sha.H0 384) (fun i => U64 (BitVec.ofNat 64 (Sha.trn false i)))) ∧ Row wl g 92 80 (fun j => U64 (Sha.K false j)) ∧ Row wl ag 5 1 (fun j => U8 (128#8)) ∧ Row wl bm 93 8 (fun j => U64 (Sha.st 384 (gb (Sha.full 384 s)) (Sha.nb 384 s) j)) ∧ Own wl w0.heap.size 5 1 vf (8 * a + b) (fun j => U8 ((Sha.st 384 (gb (Sha.full 384 s)) (Sha.nb 384 s) (j / 8) >>> (8 * (7 - j % 8))).setWidth 8)) ∧ vf.ownBlock ≠ some rp ∧ vf.ownBlock ≠ some g ∧ vf.ownBlock ≠ some ag ∧ vf.ownBlock ≠ some bm ∧ (∀ g, vf.ownBlock = some g → we.ownBlock ≠ some g) ∧ Own wl w0.heap.size 5 1 we (s.length + 1 + ((239 - s.length % 128) % 128) + 16) (fun j => U8 (gb (Sha.full 384 s) j)) ∧ we.ownBlock ≠ some rp ∧ we.ownBlock ≠ some g ∧ we.ownBlock ≠ some ag ∧ we.ownBlock ≠ some bm ∧ (∀ g, we.ownBlock = some g → vf.ownBlock ≠ some g) ∧ Below w0.heap.size w0 wl) (8 - 0) ?_ ?_
           · exact ⟨0, ve, wd, rfl, _, rfl, iv, fh, f5, (Eq.trans (b := wd) ge dv), f7, (Eq.trans (b := ve) d0 dv), dn, du, (Eq.trans (b := .int .i64 7) rfl (by rfl)), r_rp, r_g, aa, ab, (own_n (em.cg) om), bq, b8, a6, be, ci, fq, cp, dh, b5, ch, bc, hk⟩
           ·skip
            clear r_rp r_g aa ab em fq hk
            rintro _ _ hb ⟨b, vf, we, rfl, c7, rfl, gs, fp, fl, e2, eg, dt, ds, cr, co, r_rp, r_g, aa, ab, b6, ay, bj, ai, au, ce, bu, bs, cb, a9, bd, aq, hk⟩
            refine wp_seq (sr (w_mv (ei co) (w_val (y_bin ei Ev.c b_geq) (nt ?_))))
            refine c_if (p := 0 ≤ (7 - ((b : Nat) : Int))) eb (fun hc57 => ?_) (fun hc57 => ?_)
            ·skip
             refine wp_skip (then_n (wp_seq (wp_block (wp_region_lit (w_mv (ex vf dt) (w_mv (ei cr) (w_val (y_ia1z (i := a) (ex (pt bm 0) eg) ei Tryz.underlying93 ShaST.sz92 om om) (w_val (v := U64 (Sha.st 384 (gb (Sha.full 384 s)) (Sha.nb 384 s) a)) (y_ld (ex (pt bm a)) ShaST.sc92 (ab.val om rfl)) (w_mv (ei co) (w_val (y_bin Ev.c ei (b_mul om)) (w_val (y_nat_u64 (p := (8 * (7 - b))) ei om ShaST.so3 Tryz.underlying87) (w_val (y_bin e6 e6 (shr64 (c := (8 * (7 - b))) (by rw [BitVec.toNat_ofNat]; omega))) (w_val (y_u64_u8 e6 ShaST.so92 Tryz.underlying5) (w_bs1 (m := 1) (e := 5) (F := fun j => U8 (((Sha.st 384 (gb (Sha.full 384 s)) (Sha.nb 384 s) a) >>> (8 * (7 - b))).setWidth 8)) e8 (fun w => by kernel_rfl) ?_))))))))))))))
             intro dq gw ac ax b0
             have dy := r_rp.nb ac
             have ed := r_g.nb ac
             have c6 := aa.nb ac
             have c9 := ab.nb ac
             have av : vf.ownBlock ≠ some dq := b6.apart om
             have dw : we.ownBlock ≠ some dq := bu.apart om
             have fi := gb_ hk.size ac
             clear ac
             replace b6 := b6.step b0
             replace bu := bu.step b0
             replace r_rp := r_rp.step b0
             replace r_g := r_g.step b0
             replace aa := aa.step b0
             replace ab := ab.step b0
             replace hk := thenB hk b0
             refine w_app (k := (8 * a + b)) (m := 1) (size := 1) (bytes := 1) (ex vf) el Tryz.underlying55 kr (by decide) b6 hk.size ax om oca (by simp only [maxLen]; omega) om ?_
             intro f0 g1 e5 b4 cm
             have ba : ∀ g, we.ownBlock = some g → f0.ownBlock ≠ some g := sep_new aq bu cm
             have b3 : ∀ g, f0.ownBlock = some g → we.ownBlock ≠ some g := sep_sym ba
             replace bu := bu.stepO b4 (sep_or aq)
             have ck := no_new ay r_rp.lt cm
             replace r_rp := r_rp.stepO b4 ay
             have c2 := no_new bj r_g.lt cm
             replace r_g := r_g.stepO b4 bj
             have bz := no_new ai aa.lt cm
             replace aa := aa.stepO b4 ai
             have b1 := no_new au ab.lt cm
             replace ab := ab.stepO b4 au
             have di := no_new av ax.lt cm
             replace ax := ax.stepO b4 av
             replace hk := thenO hk b4 (fun g e => (b6.block_lt g e).2)
             clear b6
             refine w_as (ex f0) (wpList_nil (inb_n (then_n (wp_region_lit (w_mv (ei co) (w_val (y_bin ei Ev.c (b_sub om)) (w_as ei (wpList_nil ?_))))))))
             exact then_n ⟨_, om, b + 1, f0, we, rfl, _, rfl, iv, fp, fl, e2, eg, rfl, ds, cr, (Eq.trans (b := .int .i64 ((7 - ((b : Nat) : Int)) - 1)) rfl (by congr 1; omega)), r_rp, r_g, aa, ab, (own_n (e5.congr (fun j hj => by (try dsimp only); by_cases e : j < (8 * a + b) * 1; (rw [if_pos e]); (rw [if_neg e]; exact congrArg U8 (by rw [show j / 8 = a from by omega, show j % 8 = b from by omega])))) om), ck, c2, bz, b1, b3, bu, bs, cb, a9, bd, ba, hk⟩
            ·skip
             refine wp_exit (then_x (then_x (inb_x (inb_n (then_n (wp_region_lit (w_mv (ei cr) (w_val (y_bin ei Ev.c (b_add om)) (w_as ei (wpList_nil ?_))))))))))
             exact then_n ⟨_, om, a + 1, vf, we, rfl, _, rfl, iv, fp, fl, e2, eg, dt, ds, ti, r_rp, r_g, aa, ab, (own_n (b6.cg) om), ay, bj, ai, au, ce, bu, bs, cb, a9, bd, aq, hk⟩
          ·skip
           refine wp_exit (then_x (then_x (inb_x (then_n (wp_seq ?_)))))
           obtain ⟨ee, d2, f3, f1, gc, ao, e9⟩ := em.opened om
           have er : rp ≠ ee := fun e => bq (by rw [ao, e])
           have e3 : g ≠ ee := fun e => b8 (by rw [ao, e])
           have dr : ag ≠ ee := fun e => a6 (by rw [ao, e])
           have d9 : bm ≠ ee := fun e => be (by rw [ao, e])
           have eq : wd.ownBlock ≠ some ee := fun e => bc _ e ao
           refine wp_region_lit (w_mv (ex ve d0) (w_mv (ex (pt rp 0) fh) (w_val (y_nc (ex (pt rp 0))) (w_val (v := pt rp 1) (y_off (y_fa (ex (pt rp 0)) (ShaST.fa96_1 _ _)) ro) (w_val (v := .int .i64 48) (y_ld (ex (pt rp 1)) ShaST.sc3 (r_rp.val om (ng pz))) (w_val (v := .slice (some ⟨ee, 0, none⟩) 48 d2) (y_slh (ex (.slice (some ⟨ee, 0, none⟩) (8 * a) d2) (Eq.trans (b := ve) rfl f3)) (evo.s ei) Tryz.underlying55 (bnd_h (h := 48) om om) ShaST.sz5) (w_val (y_str (l := Sha.sum 384 s) el (by rw [Sha.length_sum]; rfl) Tryz.underlying55 Tryz.underlying5 Tryz.underlying9 (fun j hj => (e9.val om (by rw [Sha.gb_sum _ _ _ (show j < Sha.ol 384 from hj), Nat.zero_add]; rfl)))) (w_as es (nt (wp_ret (fin_ret1 rfl es ?_)))))))))))
           exact ⟨rfl, hk⟩

theorem ruleSum_512 (rp g cap : Nat) (s : List (BitVec 8)) (hs : s.length ≤ 1099511627776) (w0 : World) (r_rp : Row w0 rp 96 25 (Sha.rrow (.int .i64 512) (.int .i64 64) (.int .i64 128) (.int .i64 80) (.slice (some ⟨g, 0, none⟩) 80 cap) (Sha.H0 512) (fun i => U64 (BitVec.ofNat 64 (Sha.trn false i))))) (r_g : Row w0 g 92 80 (fun j => U64 (Sha.K false j))) : Calls Tryz.prog 38 #[pt rp 0, .string (str s)] w0 fun e w' => e = .returned (.string (str (Sha.sum 512 s))) ∧ Below w0.heap.size w0 w' := by
 have g4 : Sha.padl 512 s.length = ((239 - s.length % 128) % 128) + 1 + 16 := by rw [Sha.padl_eq 512 128 _ rfl]
 have he : 128 * Sha.nb 512 s = s.length + Sha.padl 512 s.length := by have h := Sha.length_full 512 s; unfold Sha.full at h; rw [List.length_append, Sha.length_pad] at h; exact h.symm
 have gl : (Sha.full 512 s).length = 128 * Sha.nb 512 s := Sha.length_full 512 s
 refine enter (n := 132) Tryz.func38 rfl rfl rfl ?_
 have hk : Below w0.heap.size w0 w0 := Below.refl _ _
 have gi := r_rp.lt
 have gn := r_g.lt
 refine sr (w_as (evc (.string (str ([] : List (BitVec 8))))) (nt (sr (w_mv es (w_bytes_own es Tryz.underlying9 Tryz.underlying55 Tryz.underlying5 (by simp only [maxLen]; omega) hk.size ?_)))))
 intro v1 w2 cn gg gf
 have bx : v1.ownBlock ≠ some rp := fun e1 => by rw [gg] at e1; injection e1 with e1; have := r_rp.lt; omega
 have b9 : v1.ownBlock ≠ some g := fun e1 => by rw [gg] at e1; injection e1 with e1; have := r_g.lt; omega
 replace r_rp := r_rp.step gf
 replace r_g := r_g.step gf
 replace hk := thenB hk gf
 refine w_as (ex v1) (nt (sr (w_mv (ex v1) (w_bs1 (m := 1) (e := 5) (F := fun j => U8 (128#8)) (evc (U8 (128#8))) (fun w => by kernel_rfl) ?_))))
 intro ag w5 ap aa fv
 have d7 := r_rp.nb ap
 have ez := r_g.nb ap
 have a0 : v1.ownBlock ≠ some ag := cn.apart om
 have fw := gb_ hk.size ap
 clear ap
 replace cn := cn.step fv
 replace r_rp := r_rp.step fv
 replace r_g := r_g.step fv
 replace hk := thenB hk fv
 refine w_app (k := s.length) (m := 1) (size := 1) (bytes := 1) (ex v1) el Tryz.underlying55 kr (by decide) cn hk.size aa om oca (by simp only [maxLen]; omega) om ?_
 intro v7 w8 fd fz eh
 have cq := no_new bx r_rp.lt eh
 replace r_rp := r_rp.stepO fz bx
 have dg := no_new b9 r_g.lt eh
 replace r_g := r_g.stepO fz b9
 have b7 := no_new a0 aa.lt eh
 replace aa := aa.stepO fz a0
 replace hk := thenO hk fz (fun g e => (cn.block_lt g e).2)
 clear cn
 refine w_as (ex v7) (nt (wp_seq (wp_block ?_)))
 refine c_loop (fun dN aN wl => ∃ (z : Nat) (va : Value), dN = (((239 - s.length % 128) % 128) - z) ∧ ∃ e0, aN = fr 132 e0 ∧ (z ≤ ((239 - s.length % 128) % 128)) ∧ e0 0 = pt rp 0 ∧ e0 1 = .string (str s) ∧ e0 4 = .string (str ([] : List (BitVec 8))) ∧ e0 5 = va ∧ Row wl rp 96 25 (Sha.rrow (.int .i64 512) (.int .i64 64) (.int .i64 128) (.int .i64 80) (.slice (some ⟨g, 0, none⟩) 80 cap) (Sha.H0 512) (fun i => U64 (BitVec.ofNat 64 (Sha.trn false i)))) ∧ Row wl g 92 80 (fun j => U64 (Sha.K false j)) ∧ Row wl ag 5 1 (fun j => U8 (128#8)) ∧ Own wl w0.heap.size 5 1 va (s.length + 1 + z) (fun j => U8 (gb (Sha.full 512 s) j)) ∧ va.ownBlock ≠ some rp ∧ va.ownBlock ≠ some g ∧ va.ownBlock ≠ some ag ∧ Below w0.heap.size w0 wl) (((239 - s.length % 128) % 128) - 0) ?_ ?_
 · exact ⟨0, v7, rfl, _, rfl, iv, rfl, rfl, rfl, (etv (b := v7) rfl), r_rp, r_g, aa, (own_n (fd.congr (fun j hj => by (try dsimp only); by_cases e : j < s.length * 1; (rw [if_pos e, Sha.gb_full_lo _ _ _ om]); (rw [if_neg e]; exact congrArg U8 (Sha.full_80 512 s j om)))) om), cq, dg, b7, hk⟩
 ·skip
  clear r_rp r_g aa fd hk
  rintro _ _ ha ⟨z, va, rfl, e0, rfl, gm, c3, fg, fk, ef, r_rp, r_g, aa, a4, a3, bg, aj, hk⟩
  refine ss (region_q ShaST.mixed kr (q_mv (ex va ef) (q_val (v := .int .i64 (((s.length + 1 + z) : Nat) : Int)) (fun w' hw' => y_len_own (ex va) a4 Tryz.underlying55) (q_mv (ex (pt rp 0) c3) (q_val (fun w' hw' => y_nc (ex (pt rp 0))) (q_val (v := pt rp 2) (fun w' hw' => y_off (y_fa (ex (pt rp 0)) (ShaST.fa96_2 _ _)) ro) (q_val (v := .int .i64 128) (fun w' hw' => y_ld (ex (pt rp 2)) ShaST.sc3 (cls_cell (r_rp.val om (ng (ng pz))) r_rp.lt w' hw')) (q_val (fun w' hw' => y_bin ei ei (b_rem om)) (q_mv (ex (pt rp 0) c3) (q_val (fun w' hw' => y_nc (ex (pt rp 0))) (q_val (v := pt rp 2) (fun w' hw' => y_off (y_fa (ex (pt rp 0)) (ShaST.fa96_2 _ _)) ro) (q_val (v := .int .i64 128) (fun w' hw' => y_ld (ex (pt rp 2)) ShaST.sc3 (cls_cell (r_rp.val om (ng (ng pz))) r_rp.lt w' hw')) (q_mv (ex (pt rp 0) c3) (q_val (fun w' hw' => y_nc (ex (pt rp 0))) (q_val (v := pt rp 2) (fun w' hw' => y_off (y_fa (ex (pt rp 0)) (ShaST.fa96_2 _ _)) ro) (q_val (v := .int .i64 128) (fun w' hw' => y_ld (ex (pt rp 2)) ShaST.sc3 (cls_cell (r_rp.val om (ng (ng pz))) r_rp.lt w' hw')) (q_val (fun w' hw' => y_bin ei Ev.c (b_quo om)) (q_val (fun w' hw' => y_bin ei ei (b_sub om)) (q_val (fun w' hw' => y_bin ei ei b_neq) (q_nil ?_))))))))))))))))))))
  intro g2 c1
  replace a4 := a4.step c1
  replace r_rp := r_rp.step c1
  replace r_g := r_g.step c1
  replace aa := aa.step c1
  replace hk := thenB hk c1
  refine then_n ?_
  refine c_if (p := ((((s.length + 1 + z) : Nat) : Int) % 128) ≠ 112) eb (fun hc15 => ?_) (fun hc15 => ?_)
  ·skip
   refine wp_skip (then_n (wp_block (wp_region_lit (w_mv (ex va ef) (w_bs1 (m := 1) (e := 5) (F := fun j => U8 (0#8)) (evc (U8 (0#8))) (fun w => by kernel_rfl) ?_)))))
   intro ga g7 af bo c5
   have d5 := r_rp.nb af
   have ey := r_g.nb af
   have da := aa.nb af
   have a8 : va.ownBlock ≠ some ga := a4.apart om
   have fy := gb_ hk.size af
   clear af
   replace a4 := a4.step c5
   replace r_rp := r_rp.step c5
   replace r_g := r_g.step c5
   replace aa := aa.step c5
   replace hk := thenB hk c5
   refine w_app (k := (s.length + 1 + z)) (m := 1) (size := 1) (bytes := 1) (ex va) el Tryz.underlying55 kr (by decide) a4 hk.size bo om oca (by simp only [maxLen]; omega) om ?_
   intro gk hc fj cy dd
   have cc := no_new a3 r_rp.lt dd
   replace r_rp := r_rp.stepO cy a3
   have cv := no_new bg r_g.lt dd
   replace r_g := r_g.stepO cy bg
   have bw := no_new aj aa.lt dd
   replace aa := aa.stepO cy aj
   have dl := no_new a8 bo.lt dd
   replace bo := bo.stepO cy a8
   replace hk := thenO hk cy (fun g e => (a4.block_lt g e).2)
   clear a4
   refine w_as (ex gk) (wpList_nil (inb_n ?_))
   exact then_n ⟨_, om, z + 1, gk, rfl, _, rfl, iv, c3, fg, fk, rfl, r_rp, r_g, aa, (own_n (fj.congr (fun j hj => by (try dsimp only); by_cases e : j < (s.length + 1 + z) * 1; (rw [if_pos e]); (rw [if_neg e]; exact congrArg U8 (Sha.full_0 512 s j om om)))) om), cc, cv, bw, hk⟩
  ·skip
   refine wp_exit (then_x (then_x (inb_x (then_n (wp_seq (sr (w_as Ev.c (nt (wp_block ?_)))))))))
   refine c_loop (fun dN aN wl => ∃ (y : Nat) (vb : Value), dN = (8 - y) ∧ ∃ d4, aN = fr 132 d4 ∧ (y ≤ 8) ∧ d4 0 = pt rp 0 ∧ d4 1 = .string (str s) ∧ d4 4 = .string (str ([] : List (BitVec 8))) ∧ d4 5 = vb ∧ d4 6 = .int .i64 ((y : Nat) : Int) ∧ Row wl rp 96 25 (Sha.rrow (.int .i64 512) (.int .i64 64) (.int .i64 128) (.int .i64 80) (.slice (some ⟨g, 0, none⟩) 80 cap) (Sha.H0 512) (fun i => U64 (BitVec.ofNat 64 (Sha.trn false i)))) ∧ Row wl g 92 80 (fun j => U64 (Sha.K false j)) ∧ Row wl ag 5 1 (fun j => U8 (128#8)) ∧ Own wl w0.heap.size 5 1 vb (s.length + 1 + ((239 - s.length % 128) % 128) + y) (fun j => U8 (gb (Sha.full 512 s) j)) ∧ vb.ownBlock ≠ some rp ∧ vb.ownBlock ≠ some g ∧ vb.ownBlock ≠ some ag ∧ Below w0.heap.size w0 wl) (8 - 0) ?_ ?_
   · exact ⟨0, va, rfl, _, rfl, iv, c3, fg, fk, (Eq.trans (b := va) ef dv), ti, r_rp, r_g, aa, (own_n (a4.cg) om), a3, bg, aj, hk⟩
   ·skip
    clear r_rp r_g aa a4 hk
    rintro _ _ g3 ⟨y, vb, rfl, d4, rfl, gt, d8, ff, fb, fm, e4, r_rp, r_g, aa, bt, a1, bi, al, hk⟩
    refine wp_seq (sr (w_mv (ei e4) (w_mv (ex (pt rp 0) d8) (w_val (y_nc (ex (pt rp 0))) (w_val (v := pt rp 2) (y_off (y_fa (ex (pt rp 0)) (ShaST.fa96_2 _ _)) ro) (w_val (v := .int .i64 128) (y_ld (ex (pt rp 2)) ShaST.sc3 (r_rp.val om (ng (ng pz)))) (w_val (y_bin ei Ev.c (b_quo om)) (w_val (y_bin ei Ev.c (b_sub om)) (w_val (y_bin ei ei b_lss) (nt ?_))))))))))
    refine c_if (p := ((y : Nat) : Int) < 8) eb (fun hc24 => ?_) (fun hc24 => ?_)
    ·skip
     refine wp_skip (then_n (wp_seq (wp_block (wp_region_lit (w_mv (ex vb fm) (w_bs1 (m := 1) (e := 5) (F := fun j => U8 (0#8)) (evc (U8 (0#8))) (fun w => by kernel_rfl) ?_))))))
     intro gd gz ae bn c0
     have ec := r_rp.nb ae
     have eu := r_g.nb ae
     have de := aa.nb ae
     have az : vb.ownBlock ≠ some gd := bt.apart om
     have fu := gb_ hk.size ae
     clear ae
     replace bt := bt.step c0
     replace r_rp := r_rp.step c0
     replace r_g := r_g.step c0
     replace aa := aa.step c0
     replace hk := thenB hk c0
     refine w_app (k := (s.length + 1 + ((239 - s.length % 128) % 128) + y)) (m := 1) (size := 1) (bytes := 1) (ex vb) el Tryz.underlying55 kr (by decide) bt hk.size bn om oca (by simp only [maxLen]; omega) om ?_
     intro gh g5 fa ct df
     have cj := no_new a1 r_rp.lt df
     replace r_rp := r_rp.stepO ct a1
     have cs := no_new bi r_g.lt df
     replace r_g := r_g.stepO ct bi
     have br := no_new al aa.lt df
     replace aa := aa.stepO ct al
     have d1 := no_new az bn.lt df
     replace bn := bn.stepO ct az
     replace hk := thenO hk ct (fun g e => (bt.block_lt g e).2)
     clear bt
     refine w_as (ex gh) (wpList_nil (inb_n (then_n (wp_region_lit (w_mv (ei e4) (w_val (y_bin ei Ev.c (b_add om)) (w_as ei (wpList_nil ?_))))))))
     exact then_n ⟨_, om, y + 1, gh, rfl, _, rfl, iv, d8, ff, fb, rfl, ti, r_rp, r_g, aa, (own_n (fa.congr (fun j hj => by first | (exfalso; omega) | ((try dsimp only); by_cases e : j < (s.length + 1 + ((239 - s.length % 128) % 128) + y) * 1; (rw [if_pos e]); (rw [if_neg e]; exact congrArg U8 (Sha.full_0 512 s j om om))))) om), cj, cs, br, hk⟩
    ·skip
     refine wp_exit (then_x (then_x (inb_x (then_n (sr (w_mv (es ff) (w_val (y_len es Tryz.underlying9) (w_val (y_nat_u64 (p := s.length) ei om ShaST.so3 Tryz.underlying92) (w_val (y_bin e6 (evc (U64 (8#64))) mul64) (w_as e6 (nt (wp_seq (sr (w_as Ev.c (nt (wp_block ?_))))))))))))))))
     refine c_loop (fun dN aN wl => ∃ (x : Nat) (vc : Value), dN = (8 - x) ∧ ∃ d3, aN = fr 132 d3 ∧ (x ≤ 8) ∧ d3 0 = pt rp 0 ∧ d3 4 = .string (str ([] : List (BitVec 8))) ∧ d3 5 = vc ∧ d3 7 = U64 ((BitVec.ofNat 64 s.length) * (8#64)) ∧ d3 8 = .int .i64 ((x : Nat) : Int) ∧ Row wl rp 96 25 (Sha.rrow (.int .i64 512) (.int .i64 64) (.int .i64 128) (.int .i64 80) (.slice (some ⟨g, 0, none⟩) 80 cap) (Sha.H0 512) (fun i => U64 (BitVec.ofNat 64 (Sha.trn false i)))) ∧ Row wl g 92 80 (fun j => U64 (Sha.K false j)) ∧ Row wl ag 5 1 (fun j => U8 (128#8)) ∧ Own wl w0.heap.size 5 1 vc (s.length + 1 + ((239 - s.length % 128) % 128) + 8 + x) (fun j => U8 (gb (Sha.full 512 s) j)) ∧ vc.ownBlock ≠ some rp ∧ vc.ownBlock ≠ some g ∧ vc.ownBlock ≠ some ag ∧ Below w0.heap.size w0 wl) (8 - 0) ?_ ?_
     · exact ⟨0, vb, rfl, _, rfl, iv, d8, fb, (Eq.trans (b := vb) fm dv), rfl, ti, r_rp, r_g, aa, (own_n (bt.cg) om), a1, bi, al, hk⟩
     ·skip
      clear r_rp r_g aa bt hk
      rintro _ _ hd ⟨x, vc, rfl, d3, rfl, go, ej, fn, fc, fs, eo, r_rp, r_g, aa, ar, a5, bk, am, hk⟩
      refine wp_seq (sr (w_mv (ei eo) (w_val (y_bin ei Ev.c b_lss) (nt ?_))))
      refine c_if (p := ((x : Nat) : Int) < 8) eb (fun hc33 => ?_) (fun hc33 => ?_)
      ·skip
       refine wp_skip (then_n (wp_seq (wp_block (wp_region_lit (w_mv (ex vc fc) (w_mv (e6 fs) (w_mv (ei eo) (w_val (y_bin Ev.c ei (b_mul om)) (w_val (y_bin Ev.c ei (b_sub om)) (w_val (y_nat_u64 (p := (56 - (8 * x))) ei om ShaST.so3 Tryz.underlying87) (w_val (y_bin e6 e6 (shr64 (c := (56 - (8 * x))) (by rw [BitVec.toNat_ofNat]; omega))) (w_val (y_u64_u8 e6 ShaST.so92 Tryz.underlying5) (w_bs1 (m := 1) (e := 5) (F := fun j => U8 ((((BitVec.ofNat 64 s.length) * (8#64)) >>> (56 - (8 * x))).setWidth 8)) e8 (fun w => by kernel_rfl) ?_)))))))))))))
       intro f6 gv ad bl cw
       have ek := r_rp.nb ad
       have et := r_g.nb ad
       have db := aa.nb ad
       have a7 : vc.ownBlock ≠ some f6 := ar.apart om
       have fx := gb_ hk.size ad
       clear ad
       replace ar := ar.step cw
       replace r_rp := r_rp.step cw
       replace r_g := r_g.step cw
       replace aa := aa.step cw
       replace hk := thenB hk cw
       refine w_app (k := (s.length + 1 + ((239 - s.length % 128) % 128) + 8 + x)) (m := 1) (size := 1) (bytes := 1) (ex vc) el Tryz.underlying55 kr (by decide) ar hk.size bl om oca (by simp only [maxLen]; omega) om ?_
       intro gj gu ft cu c8
       have cd := no_new a5 r_rp.lt c8
       replace r_rp := r_rp.stepO cu a5
       have c4 := no_new bk r_g.lt c8
       replace r_g := r_g.stepO cu bk
       have bv := no_new am aa.lt c8
       replace aa := aa.stepO cu am
       have dm := no_new a7 bl.lt c8
       replace bl := bl.stepO cu a7
       replace hk := thenO hk cu (fun g e => (ar.block_lt g e).2)
       clear ar
       refine w_as (ex gj) (wpList_nil (inb_n (then_n (wp_region_lit (w_mv (ei eo) (w_val (y_bin ei Ev.c (b_add om)) (w_as ei (wpList_nil ?_))))))))
       exact then_n ⟨_, om, x + 1, gj, rfl, _, rfl, iv, ej, fn, rfl, fs, ti, r_rp, r_g, aa, (own_n (ft.congr (fun j hj => by (try dsimp only); by_cases e : j < (s.length + 1 + ((239 - s.length % 128) % 128) + 8 + x) * 1; (rw [if_pos e]); (rw [if_neg e]; exact congrArg U8 (Sha.full_n 512 s x j om om)))) om), cd, c4, bv, hk⟩
      ·skip
       refine wp_exit (then_x (then_x (inb_x (then_n (sr (w_mv (ex (pt rp 0) ej) (w_val (y_nc (ex (pt rp 0))) (w_val (v := pt rp 5) (y_off (y_fa (ex (pt rp 0)) (ShaST.fa96_5 _ _)) ro) (w_val (v := .agg (arr 8 (fun j => U64 ((Sha.H0 512) j)))) (y_lda (ex (pt rp 5)) ShaST.ag93 ShaST.sz93 (fun j hj => (r_rp.val om (by first | with_reducible rfl | exact (ng (ng (ng (ng (ng pz))))))))) (w_alloc (m := 8) (F := fun j => U64 (0#64)) kr ?_))))))))))
       intro bm g9 an ab cx
       have ev := r_rp.nb an
       have e7 := r_g.nb an
       have dp := aa.nb an
       have bb : vc.ownBlock ≠ some bm := ar.apart om
       have f8 := gb_ hk.size an
       clear an
       replace ar := ar.step cx
       replace r_rp := r_rp.step cx
       replace r_g := r_g.step cx
       replace aa := aa.step cx
       replace hk := thenB hk cx
       refine w_sta (k := 8) (G := fun j => U64 ((Sha.H0 512) j)) (ex (pt bm 0)) ea oc ShaST.sz93 ab om ?_
       clear ab; intro g6 ab cz _
       replace ab := ab.congr (g := fun j => U64 ((Sha.H0 512) j)) (fun j hj => by rw [if_pos ⟨Nat.zero_le _, by omega⟩]; first | rfl | (simp only [Nat.sub_zero]))
       replace ar := ar.stepG cz bb
       replace r_rp := r_rp.stepG cz om
       replace r_g := r_g.stepG cz om
       replace aa := aa.stepG cz om
       replace hk := thenG hk cz om
       refine nt (wp_seq (sr (w_as Ev.c (nt (wp_block ?_)))))
       refine c_loop (fun dN aN wl => ∃ (t : Nat) (vd : Value), dN = (Sha.nb 512 s - t) ∧ ∃ en, aN = fr 132 en ∧ (t ≤ Sha.nb 512 s) ∧ en 0 = pt rp 0 ∧ en 4 = .string (str ([] : List (BitVec 8))) ∧ en 5 = vd ∧ en 9 = pt bm 0 ∧ en 10 = .int .i64 (((128 * t) : Nat) : Int) ∧ Row wl rp 96 25 (Sha.rrow (.int .i64 512) (.int .i64 64) (.int .i64 128) (.int .i64 80) (.slice (some ⟨g, 0, none⟩) 80 cap) (Sha.H0 512) (fun i => U64 (BitVec.ofNat 64 (Sha.trn false i)))) ∧ Row wl g 92 80 (fun j => U64 (Sha.K false j)) ∧ Row wl ag 5 1 (fun j => U8 (128#8)) ∧ Row wl bm 93 8 (fun j => U64 (Sha.st 512 (gb (Sha.full 512 s)) t j)) ∧ Own wl w0.heap.size 5 1 vd (s.length + 1 + ((239 - s.length % 128) % 128) + 16) (fun j => U8 (gb (Sha.full 512 s) j)) ∧ vd.ownBlock ≠ some rp ∧ vd.ownBlock ≠ some g ∧ vd.ownBlock ≠ some ag ∧ vd.ownBlock ≠ some bm ∧ Below w0.heap.size w0 wl) (Sha.nb 512 s - 0) ?_ ?_
       · exact ⟨0, vc, rfl, _, rfl, iv, ej, fn, (Eq.trans (b := vc) fc dv), rfl, (Eq.trans (b := .int .i64 0) rfl (by rfl)), r_rp, r_g, aa, (ab.congr (fun j hj => by rfl)), (own_n (ar.cg) om), a5, bk, am, bb, hk⟩
       ·skip
        clear r_rp r_g aa ab ar hk
        rintro _ _ g8 ⟨t, vd, rfl, en, rfl, gr, cl, fe, dj, dk, ca, r_rp, r_g, aa, ab, bh, a2, bp, ak, ah, hk⟩
        have gq : t < Sha.nb 512 s → (((Sha.full 512 s).drop (128 * t)).take 128).length = 128 := fun h => by rw [List.length_take, List.length_drop, gl]; omega
        refine wp_seq (sr (w_mv (ei ca) (w_mv (ex vd dj) (w_val (v := .int .i64 (((s.length + 1 + ((239 - s.length % 128) % 128) + 16) : Nat) : Int)) (y_len_own (ex vd) bh Tryz.underlying55) (w_val (y_bin ei ei b_lss) (nt ?_))))))
        refine c_if (p := (((128 * t) : Nat) : Int) < (((s.length + 1 + ((239 - s.length % 128) % 128) + 16) : Nat) : Int)) eb (fun hc46 => ?_) (fun hc46 => ?_)
        ·skip
         refine wp_skip (then_n (wp_seq (wp_block ?_)))
         obtain ⟨ew, dx, f9, f2, f4, aw, bf⟩ := bh.opened om
         have ep : rp ≠ ew := fun e => a2 (by rw [aw, e])
         have fo : g ≠ ew := fun e => bp (by rw [aw, e])
         have dz : ag ≠ ew := fun e => ak (by rw [aw, e])
         have d6 : bm ≠ ew := fun e => ah (by rw [aw, e])
         refine region_t 13 ShaST.mixed kr ?_
         simp only [List.take_succ_cons, List.take_zero, List.drop_succ_cons, List.drop_zero]
         refine q_mv (ex (pt rp 0) cl) (q_val (v := .agg (arr 8 (fun j => U64 (Sha.st 512 (gb (Sha.full 512 s)) t j)))) (fun w' hw' => y_lda (ex (pt bm 0) dk) ShaST.ag93 ShaST.sz93 (fun j hj => by rw [Nat.zero_add]; exact (cls_cell (ab.cell om) ab.lt w' hw'))) (q_mv (ex vd dj) (q_mv (ei ca) (q_mv (ei ca) (q_mv (ex (pt rp 0) cl) (q_val (fun w' hw' => y_nc (ex (pt rp 0))) (q_val (v := pt rp 2) (fun w' hw' => y_off (y_fa (ex (pt rp 0)) (ShaST.fa96_2 _ _)) ro) (q_val (v := .int .i64 128) (fun w' hw' => y_ld (ex (pt rp 2)) ShaST.sc3 (cls_cell (r_rp.val om (ng (ng pz))) r_rp.lt w' hw')) (q_val (fun w' hw' => y_bin ei ei (b_add om)) (q_val (v := .slice (some ⟨ew, (128 * t), none⟩) (((128 * t) + 128) - (128 * t)) (dx - (128 * t))) (fun w' hw' => y_sloff (y_slv (ex (.slice (some ⟨ew, 0, none⟩) (s.length + 1 + ((239 - s.length % 128) % 128) + 16) dx) (Eq.trans (b := vd) rfl f9)) (evo.s ei) (evo.s ei) Tryz.underlying55 ShaST.sz5 (bnd_lh (l := (128 * t)) (h := ((128 * t) + 128)) om om om om) om) ro rfl) (q_val (fun w' hw' => y_str (l := ((Sha.full 512 s).drop (128 * t)).take 128) el (by rw [List.length_take, List.length_drop, gl]; omega) Tryz.underlying55 Tryz.underlying5 Tryz.underlying9 (fun j hj => (cls_cell (bf.val om (by rw [gb_take _ _ _ (show j < 128 by omega), gb_drop])) bf.lt w' hw'))) (q_call (v := .agg (arr 8 (fun j => U64 (Sha.comp false (gb (((Sha.full 512 s).drop (128 * t)).take 128)) (Sha.st 512 (gb (Sha.full 512 s)) t) j)))) (Tryz.func54) kr rfl (m3 (ex (pt rp 0)) ea es) (fun w' hw' => block_f rp 64 g cap (Sha.H0 512) 512 (by decide) (Sha.st 512 (gb (Sha.full 512 s)) t) (((Sha.full 512 s).drop (128 * t)).take 128) (gq om) w' (r_rp.step hw') (r_g.step hw')) (q_nil ?_)))))))))))))
         intro g0 b2
         replace bh := bh.step b2
         replace r_rp := r_rp.step b2
         replace r_g := r_g.step b2
         replace aa := aa.step b2
         replace ab := ab.step b2
         replace bf := bf.step b2
         replace hk := thenB hk b2
         refine w_sta (k := 8) (G := fun j => U64 (Sha.comp false (gb (((Sha.full 512 s).drop (128 * t)).take 128)) (Sha.st 512 (gb (Sha.full 512 s)) t) j)) (ex (pt bm 0) dk) ea oc ShaST.sz93 ab om ?_
         clear ab; intro gx ab cf _
         replace ab := ab.congr (g := fun j => U64 (Sha.comp false (gb (((Sha.full 512 s).drop (128 * t)).take 128)) (Sha.st 512 (gb (Sha.full 512 s)) t) j)) (fun j hj => by rw [if_pos ⟨Nat.zero_le _, by omega⟩]; first | rfl | (simp only [Nat.sub_zero]))
         replace bh := bh.stepG cf ah
         replace r_rp := r_rp.stepG cf om
         replace r_g := r_g.stepG cf om
         replace aa := aa.stepG cf om
         replace bf := bf.stepG cf om
         replace hk := thenG hk cf om
         refine wpList_nil (inb_n (then_n (wp_region_lit (w_mv (ei ca) (w_mv (ex (pt rp 0) cl) (w_val (y_nc (ex (pt rp 0))) (w_val (v := pt rp 2) (y_off (y_fa (ex (pt rp 0)) (ShaST.fa96_2 _ _)) ro) (w_val (v := .int .i64 128) (y_ld (ex (pt rp 2)) ShaST.sc3 (r_rp.val om (ng (ng pz)))) (w_val (y_bin ei ei (b_add om)) (w_as ei (wpList_nil ?_)))))))))))
         exact then_n ⟨_, om, t + 1, vd, rfl, _, rfl, iv, cl, fe, dj, dk, (Eq.trans (b := .int .i64 ((((128 * t) : Nat) : Int) + 128)) rfl (by congr 1)), r_rp, r_g, aa, (ab.congr (fun j hj => by exact congrArg U64 (congrFun (Sha.st_next 512 (gb (Sha.full 512 s)) (gb (((Sha.full 512 s).drop (128 * t)).take 128)) t (fun i hi => by rw [gb_take _ _ _ (show i < 128 from hi), gb_drop]; rfl)) j))), bh, a2, bp, ak, ah, hk⟩
        ·skip
         refine wp_exit (then_x ?_)
         replace ab := ab.congr (g := fun j => U64 (Sha.st 512 (gb (Sha.full 512 s)) (Sha.nb 512 s) j)) (fun j hj => by rw [show t = Sha.nb 512 s from by omega])
         refine then_x (inb_x (then_n (sr (w_as Ev.c (nt (sr (w_mv (ex (pt rp 0) cl) (w_val (y_nc (ex (pt rp 0))) (w_val (v := pt rp 2) (y_off (y_fa (ex (pt rp 0)) (ShaST.fa96_2 _ _)) ro) (w_val (v := .int .i64 128) (y_ld (ex (pt rp 2)) ShaST.sc3 (r_rp.val om (ng (ng pz)))) (w_val (y_bin ei Ev.c (b_quo om)) (w_as ei (nt (wp_seq (sr (w_as Ev.c (nt (wp_block ?_))))))))))))))))))
         refine c_loop (fun dN aN wl => ∃ (a : Nat) (ve : Value) (wd : Value), dN = (8 - a) ∧ ∃ dc, aN = fr 132 dc ∧ (a ≤ 8) ∧ dc 0 = pt rp 0 ∧ dc 4 = .string (str ([] : List (BitVec 8))) ∧ dc 5 = wd ∧ dc 9 = pt bm 0 ∧ dc 11 = ve ∧ dc 12 = .int .i64 8 ∧ dc 13 = .int .i64 ((a : Nat) : Int) ∧ Row wl rp 96 25 (Sha.rrow (.int .i64 512) (.int .i64 64) (.int .i64 128) (.int .i64 80) (.slice (some ⟨g, 0, none⟩) 80 cap) (Sha.H0 512) (fun i => U64 (BitVec.ofNat 64 (Sha.trn false i)))) ∧ Row wl g 92 80 (fun j => U64 (Sha.K false j)) ∧ Row wl ag 5 1 (fun j => U8 (128#8)) ∧ Row wl bm 93 8 (fun j => U64 (Sha.st 512 (gb (Sha.full 512 s)) (Sha.nb 512 s) j)) ∧ Own wl w0.heap.size 5 1 ve (8 * a) (fun j => U8 ((Sha.st 512 (gb (Sha.full 512 s)) (Sha.nb 512 s) (j / 8) >>> (8 * (7 - j % 8))).setWidth 8)) ∧ ve.ownBlock ≠ some rp ∧ ve.ownBlock ≠ some g ∧ ve.ownBlock ≠ some ag ∧ ve.ownBlock ≠ some bm ∧ (∀ g, ve.ownBlock = some g → wd.ownBlock ≠ some g) ∧ Own wl w0.heap.size 5 1 wd (s.length + 1 + ((239 - s.length % 128) % 128) + 16) (fun j => U8 (gb (Sha.full 512 s) j)) ∧ wd.ownBlock ≠ some rp ∧ wd.ownBlock ≠ some g ∧ wd.ownBlock ≠ some ag ∧ wd.ownBlock ≠ some bm ∧ (∀ g, wd.ownBlock = some g → ve.ownBlock ≠ some g) ∧ Below w0.heap.size w0 wl) (8 - 0) ?_ ?_
         · exact ⟨0, (.slice none 0 0), vd, rfl, _, rfl, iv, cl, fe, (Eq.trans (b := vd) dj dv), dk, (etv (b := .slice none 0 0) rfl), rfl, ti, r_rp, r_g, aa, ab, Own.nil, (fun e => by cases e), (fun e => by cases e), (fun e => by cases e), (fun e => by cases e), (fun g e => by cases e), bh, a2, bp, ak, ah, (fun g _ e => by cases e), hk⟩
         ·skip
          clear r_rp r_g aa ab bh hk
          rintro _ _ gy ⟨a, ve, wd, rfl, dc, rfl, gp, fh, f5, ge, f7, d0, dn, du, r_rp, r_g, aa, ab, em, bq, b8, a6, be, ci, fq, cp, dh, b5, ch, bc, hk⟩
          refine wp_seq (sr (w_mv (ei du) (w_val (y_bin ei Ev.c b_lss) (nt ?_))))
          refine c_if (p := ((a : Nat) : Int) < 8) eb (fun hc54 => ?_) (fun hc54 => ?_)
          ·skip
           refine wp_skip (then_n (wp_seq (wp_block (sr (w_mv (ei dn) (w_val (y_bin ei Ev.c (b_sub om)) (w_as ei (nt (wp_block ?_)))))))))
           refine c_loop (fun dN aN wl => ∃ (b : Nat) (vf : Value) (we : Value), dN = (8 - b) ∧ ∃ c7, aN = fr 132 c7 ∧ (b ≤ 8) ∧ c7 0 = pt rp 0 ∧ c7 4 = .string (str ([] : List (BitVec 8))) ∧ c7 5 = we ∧ c7 9 = pt bm 0 ∧ c7 11 = vf ∧ c7 12 = .int .i64 8 ∧ c7 13 = .int .i64 ((a : Nat) : Int) ∧ c7 14 = .int .i64 (7 - ((b : Nat) : Int)) ∧ Row wl rp 96 25 (Sha.rrow (.int .i64 512) (.int .i64 64) (.int .i64 128) (.int .i64 80) (.slice (some ⟨g, 0, none⟩) 80 cap) (Sha.H0 512) (fun i => U64 (BitVec.ofNat 64 (Sha.trn false i)))) ∧ Row wl g 92 80 (fun j => U64 (Sha.K false j)) ∧ Row wl ag 5 1 (fun j => U8 (128#8)) ∧ Row wl bm 93 8 (fun j => U64 (Sha.st 512 (gb (Sha.full 512 s)) (Sha.nb 512 s) j)) ∧ Own wl w0.heap.size 5 1 vf (8 * a + b) (fun j => U8 ((Sha.st 512 (gb (Sha.full 512 s)) (Sha.nb 512 s) (j / 8) >>> (8 * (7 - j % 8))).setWidth 8)) ∧ vf.ownBlock ≠ some rp ∧ vf.ownBlock ≠ some g ∧ vf.ownBlock ≠ some ag ∧ vf.ownBlock ≠ some bm ∧ (∀ g, vf.ownBlock = some g → we.ownBlock ≠ some g) ∧ Own wl w0.heap.size 5 1 we (s.length + 1 + ((239 - s.length % 128) % 128) + 16) (fun j => U8 (gb (Sha.full 512 s) j)) ∧ we.ownBlock ≠ some rp ∧ we.ownBlock ≠ some g ∧ we.ownBlock ≠ some ag ∧ we.ownBlock ≠ some bm ∧ (∀ g, we.ownBlock = some g → vf.ownBlock ≠ some g) ∧ Below w0.heap.size w0 wl) (8 - 0) ?_ ?_
           · exact ⟨0, ve, wd, rfl, _, rfl, iv, fh, f5, (Eq.trans (b := wd) ge dv), f7, (Eq.trans (b := ve) d0 dv), dn, du, (Eq.trans (b := .int .i64 7) rfl (by rfl)), r_rp, r_g, aa, ab, (own_n (em.cg) om), bq, b8, a6, be, ci, fq, cp, dh, b5, ch, bc, hk⟩
           ·skip
            clear r_rp r_g aa ab em fq hk
            rintro _ _ hb ⟨b, vf, we, rfl, c7, rfl, gs, fp, fl, e2, eg, dt, ds, cr, co, r_rp, r_g, aa, ab, b6, ay, bj, ai, au, ce, bu, bs, cb, a9, bd, aq, hk⟩
            refine wp_seq (sr (w_mv (ei co) (w_val (y_bin ei Ev.c b_geq) (nt ?_))))
            refine c_if (p := 0 ≤ (7 - ((b : Nat) : Int))) eb (fun hc57 => ?_) (fun hc57 => ?_)
            ·skip
             refine wp_skip (then_n (wp_seq (wp_block (wp_region_lit (w_mv (ex vf dt) (w_mv (ei cr) (w_val (y_ia1z (i := a) (ex (pt bm 0) eg) ei Tryz.underlying93 ShaST.sz92 om om) (w_val (v := U64 (Sha.st 512 (gb (Sha.full 512 s)) (Sha.nb 512 s) a)) (y_ld (ex (pt bm a)) ShaST.sc92 (ab.val om rfl)) (w_mv (ei co) (w_val (y_bin Ev.c ei (b_mul om)) (w_val (y_nat_u64 (p := (8 * (7 - b))) ei om ShaST.so3 Tryz.underlying87) (w_val (y_bin e6 e6 (shr64 (c := (8 * (7 - b))) (by rw [BitVec.toNat_ofNat]; omega))) (w_val (y_u64_u8 e6 ShaST.so92 Tryz.underlying5) (w_bs1 (m := 1) (e := 5) (F := fun j => U8 (((Sha.st 512 (gb (Sha.full 512 s)) (Sha.nb 512 s) a) >>> (8 * (7 - b))).setWidth 8)) e8 (fun w => by kernel_rfl) ?_))))))))))))))
             intro dq gw ac ax b0
             have dy := r_rp.nb ac
             have ed := r_g.nb ac
             have c6 := aa.nb ac
             have c9 := ab.nb ac
             have av : vf.ownBlock ≠ some dq := b6.apart om
             have dw : we.ownBlock ≠ some dq := bu.apart om
             have fi := gb_ hk.size ac
             clear ac
             replace b6 := b6.step b0
             replace bu := bu.step b0
             replace r_rp := r_rp.step b0
             replace r_g := r_g.step b0
             replace aa := aa.step b0
             replace ab := ab.step b0
             replace hk := thenB hk b0
             refine w_app (k := (8 * a + b)) (m := 1) (size := 1) (bytes := 1) (ex vf) el Tryz.underlying55 kr (by decide) b6 hk.size ax om oca (by simp only [maxLen]; omega) om ?_
             intro f0 g1 e5 b4 cm
             have ba : ∀ g, we.ownBlock = some g → f0.ownBlock ≠ some g := sep_new aq bu cm
             have b3 : ∀ g, f0.ownBlock = some g → we.ownBlock ≠ some g := sep_sym ba
             replace bu := bu.stepO b4 (sep_or aq)
             have ck := no_new ay r_rp.lt cm
             replace r_rp := r_rp.stepO b4 ay
             have c2 := no_new bj r_g.lt cm
             replace r_g := r_g.stepO b4 bj
             have bz := no_new ai aa.lt cm
             replace aa := aa.stepO b4 ai
             have b1 := no_new au ab.lt cm
             replace ab := ab.stepO b4 au
             have di := no_new av ax.lt cm
             replace ax := ax.stepO b4 av
             replace hk := thenO hk b4 (fun g e => (b6.block_lt g e).2)
             clear b6
             refine w_as (ex f0) (wpList_nil (inb_n (then_n (wp_region_lit (w_mv (ei co) (w_val (y_bin ei Ev.c (b_sub om)) (w_as ei (wpList_nil ?_))))))))
             exact then_n ⟨_, om, b + 1, f0, we, rfl, _, rfl, iv, fp, fl, e2, eg, rfl, ds, cr, (Eq.trans (b := .int .i64 ((7 - ((b : Nat) : Int)) - 1)) rfl (by congr 1; omega)), r_rp, r_g, aa, ab, (own_n (e5.congr (fun j hj => by (try dsimp only); by_cases e : j < (8 * a + b) * 1; (rw [if_pos e]); (rw [if_neg e]; exact congrArg U8 (by rw [show j / 8 = a from by omega, show j % 8 = b from by omega])))) om), ck, c2, bz, b1, b3, bu, bs, cb, a9, bd, ba, hk⟩
            ·skip
             refine wp_exit (then_x (then_x (inb_x (inb_n (then_n (wp_region_lit (w_mv (ei cr) (w_val (y_bin ei Ev.c (b_add om)) (w_as ei (wpList_nil ?_))))))))))
             exact then_n ⟨_, om, a + 1, vf, we, rfl, _, rfl, iv, fp, fl, e2, eg, dt, ds, ti, r_rp, r_g, aa, ab, (own_n (b6.cg) om), ay, bj, ai, au, ce, bu, bs, cb, a9, bd, aq, hk⟩
          ·skip
           refine wp_exit (then_x (then_x (inb_x (then_n (wp_seq ?_)))))
           obtain ⟨ee, d2, f3, f1, gc, ao, e9⟩ := em.opened om
           have er : rp ≠ ee := fun e => bq (by rw [ao, e])
           have e3 : g ≠ ee := fun e => b8 (by rw [ao, e])
           have dr : ag ≠ ee := fun e => a6 (by rw [ao, e])
           have d9 : bm ≠ ee := fun e => be (by rw [ao, e])
           have eq : wd.ownBlock ≠ some ee := fun e => bc _ e ao
           refine wp_region_lit (w_mv (ex ve d0) (w_mv (ex (pt rp 0) fh) (w_val (y_nc (ex (pt rp 0))) (w_val (v := pt rp 1) (y_off (y_fa (ex (pt rp 0)) (ShaST.fa96_1 _ _)) ro) (w_val (v := .int .i64 64) (y_ld (ex (pt rp 1)) ShaST.sc3 (r_rp.val om (ng pz))) (w_val (v := .slice (some ⟨ee, 0, none⟩) 64 d2) (y_slh (ex (.slice (some ⟨ee, 0, none⟩) (8 * a) d2) (Eq.trans (b := ve) rfl f3)) (evo.s ei) Tryz.underlying55 (bnd_h (h := 64) om om) ShaST.sz5) (w_val (y_str (l := Sha.sum 512 s) el (by rw [Sha.length_sum]; rfl) Tryz.underlying55 Tryz.underlying5 Tryz.underlying9 (fun j hj => (e9.val om (by rw [Sha.gb_sum _ _ _ (show j < Sha.ol 512 from hj), Nat.zero_add]; rfl)))) (w_as es (nt (wp_ret (fin_ret1 rfl es ?_)))))))))))
           exact ⟨rfl, hk⟩
end Go.Proofs.YtdmbfimjbmfbaaaGreatDoor
