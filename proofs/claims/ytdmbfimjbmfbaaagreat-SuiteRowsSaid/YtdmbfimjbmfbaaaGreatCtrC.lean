/-
  Counters: Xor of the program. Conditions as each says.
-/
import Derived.Test.YtdmbfimjbmfbaaaGreatRows
import Derived.Test.YtdmbfimjbmfbaaaGreatCtrB
import Derived.Test.YtdmbfimjbmfbaaaGreatGenSh
import Derived.ProofKit
namespace Go.Proofs.YtdmbfimjbmfbaaaGreat
open Go.RowKit
set_option linter.unusedSimpArgs false
set_option linter.unusedVariables false
set_option maxRecDepth 100000
set_option maxHeartbeats 1000000
namespace CtrCT
theorem mixed : Tryz.prog.follows .mixedOrders = true := by kernel_rfl
theorem sc3 : (Tryz.prog.underlying 3).map scal = some true := by rw [Tryz.underlying3]; rfl
theorem sc5 : (Tryz.prog.underlying 5).map scal = some true := by rw [Tryz.underlying5]; rfl
theorem sc71 : (Tryz.prog.underlying 71).map scal = some true := by rw [Tryz.underlying71]; rfl
theorem sc9 : (Tryz.prog.underlying 9).map scal = some true := by rw [Tryz.underlying9]; rfl
theorem sz5 : (Tryz.prog.info? 5).map (·.size) = some 1 := by kernel_rfl
theorem sz9 : (Tryz.prog.info? 9).map (·.size) = some 1 := by kernel_rfl
end CtrCT
theorem blocks_c (p : Nat) (s : List (BitVec 8)) (d : Nat) (w0 : World) : Calls Tryz.prog 64 #[pt p 0, .string (str s), .int .i64 ((d : Nat) : Int)] w0 fun e w' => ∃ bc bs bw, e = .returned (.func (.func 75) #[] #[.pointer (some ⟨bc, 0, none⟩), .pointer (some ⟨bs, 0, none⟩), .pointer (some ⟨bw, 0, none⟩)]) ∧ w0.heap.size ≤ bc ∧ w0.heap.size ≤ bs ∧ w0.heap.size ≤ bw ∧ bs ≠ bc ∧ bs ≠ bw ∧ bc ≠ bw ∧ Row w' bc 71 1 (fun j => .pointer (some ⟨p, 0, none⟩)) ∧ Row w' bs 9 1 (fun j => .string (str (Ct.nx s d 0))) ∧ Row w' bw 3 1 (fun j => .int .i64 (d : Int)) ∧ Below w0.heap.size w0 w' := by
 refine enter (n := 8) Tryz.func64 rfl rfl rfl ?_
 have hk : Below w0.heap.size w0 w0 := Below.refl _ _
 refine sr (w_box (m := 1) (F := fun j => pt p 0) (ex (pt p 0)) rfl ?_)
 intro b_c w1 hbe_b_c r_b_c hb2
 have ge_b_c := gb_ hk.size hbe_b_c
 clear hbe_b_c
 replace hk := thenB hk hb2
 refine w_box (m := 1) (F := fun j => .string (str s)) es rfl ?_
 intro b_start w3 hbe_b_start r_b_start hb4
 have ne_b_c_b_start := r_b_c.nb hbe_b_start
 have ge_b_start := gb_ hk.size hbe_b_start
 clear hbe_b_start
 replace r_b_c := r_b_c.step hb4
 replace hk := thenB hk hb4
 refine w_box (m := 1) (F := fun j => .int .i64 ((d : Nat) : Int)) ei rfl ?_
 intro b_width w5 hbe_b_width r_b_width hb6
 have ne_b_c_b_width := r_b_c.nb hbe_b_width
 have ne_b_start_b_width := r_b_start.nb hbe_b_width
 have ge_b_width := gb_ hk.size hbe_b_width
 clear hbe_b_width
 replace r_b_c := r_b_c.step hb6
 replace r_b_start := r_b_start.step hb6
 replace hk := thenB hk hb6
 refine w_as (evc .nilFunc) (nt (sr (w_val (v := .func (.func 75) #[] #[pt b_c 0, pt b_start 0, pt b_width 0]) (y_mkf m0 (m3 (ex (pt b_c 0)) (ex (pt b_start 0)) (ex (pt b_width 0)))) (w_as (ex (.func (.func 75) #[] #[pt b_c 0, pt b_start 0, pt b_width 0])) (nt (wp_ret (fin_ret1 rfl (ex (.func (.func 75) #[] #[pt b_c 0, pt b_start 0, pt b_width 0])) ?_)))))))
 exact ⟨b_c, b_start, b_width, rfl, ge_b_c, ge_b_start, ge_b_width, fun e => ne_b_c_b_start e.symm, ne_b_start_b_width, fun e => ne_b_c_b_width e, r_b_c, r_b_start.congr (fun j hj => by rw [Ct.nx_zero]), r_b_width, hk⟩

theorem ctrXor_y (key text : List (BitVec 8)) (hok : Aes.okKey key.length) (s : List (BitVec 8)) (d : Nat) (hs : s.length = 16) (h1 : 1 ≤ d) (h16 : d ≤ 16) (ht : text.length ≤ 70000) (w0 : World) : Calls Tryz.prog 43 #[.string (str key), .string (str s), .int .i64 ((d : Nat) : Int), .string (str text)] w0 fun e w' => e = .returned (.tuple #[.string (str (Ct.x key s d text)), .int .i64 0]) ∧ Below w0.heap.size w0 w' := by
 have hle := fun x => Aes.enc_len key x hok
 have hlx := Ct.length_x key s d text
 refine enter (n := 71) Tryz.func43 rfl rfl rfl ?_
 have hk : Below w0.heap.size w0 w0 := Below.refl _ _
 refine sr (w_as (evc (.string (str ([] : List (BitVec 8))))) (w_as Ev.c (nt (sr (w_mv es (w_call (Tryz.func35) kr rfl (m1 es) (new_l key w0 hok) ?_))))))
 rintro _ w1 ⟨p, rfl, hge_p, hc, hb_p⟩
 refine ⟨_, rfl, ?_⟩
 have ge_p : w0.heap.size ≤ p := by have := hk.size; omega
 replace hk := thenB hk hb_p
 refine w_mv (ex (.tuple #[pt p 0, .int .i64 0])) (w_val ye (w_val ye (w_as (ex (pt p 0)) (w_as ei (nt (wp_seq (sr (w_mv ei (w_val (y_bin ei Ev.c b_neq) (nt (c_ff eb (wp_skip (then_n (wp_seq (sr (w_mv es (w_mv ei (w_call (Tryz.func62) kr rfl (m2 es ei) (wrong_y s d hs h1 h16 w1) ?_))))))))))))))))))
 rintro _ w2 ⟨rfl, hb3⟩
 refine ⟨_, rfl, ?_⟩
 replace hk := thenB hk hb3
 replace hc := hc.below hb3
 refine w_as ei (nt (sr (w_mv ei (w_val (y_bin ei Ev.c b_neq) (nt (c_ff eb (wp_skip (then_n (wp_seq (sr (w_mv es (w_val (y_len es Tryz.underlying9) (w_val (y_bin ei Ev.c b_gtr) (nt ?_))))))))))))))
 have hc4 : ¬ (70000 < ((text.length : Nat) : Int)) := by omega
 refine c_f (p := 70000 < ((text.length : Nat) : Int)) eb hc4 (wp_skip (then_n (sr (w_mv (ex (pt p 0)) (w_mv es (w_mv ei (w_call (Tryz.func64) kr rfl (m3 (ex (pt p 0)) es ei) (blocks_c p s d w2) ?_)))))))
 rintro _ w5 ⟨bc, bs, bw, rfl, hge_bc, hge_bs, hge_bw, nb1, nb2, nb3, r_bc, r_bs, r_bw, hbb⟩
 refine ⟨_, rfl, ?_⟩
 have ge_bc : w0.heap.size ≤ bc := by have := hk.size; omega
 have ge_bs : w0.heap.size ≤ bs := by have := hk.size; omega
 have ge_bw : w0.heap.size ≤ bw := by have := hk.size; omega
 replace hk := thenB hk hbb
 replace hc := hc.below hbb
 refine w_as (ex (.func (.func 75) #[] #[pt bc 0, pt bs 0, pt bw 0])) (nt (sr (w_mv es (w_bytes es Tryz.underlying9 Tryz.underlying111 Tryz.underlying5 ?_))))
 intro b_40 cap_b_40 w6 hbe_b_40 hc_b_40 r_b_40 hb7
 have ne_bc_b_40 := r_bc.nb hbe_b_40
 have ne_bs_b_40 := r_bs.nb hbe_b_40
 have ne_bw_b_40 := r_bw.nb hbe_b_40
 have ge_b_40 := gb_ hk.size hbe_b_40
 clear hbe_b_40
 replace r_bc := r_bc.step hb7
 replace r_bs := r_bs.step hb7
 replace r_bw := r_bw.step hb7
 replace hk := thenB hk hb7
 replace hc := hc.below hb7
 refine w_as el (nt (wp_seq (sr (w_as Ev.c (nt (wp_block ?_))))))
 refine c_loop (fun dN aN wl => ∃ (k : Nat), dN = (text.length + 16 - 16 * k) ∧ ∃ f8, aN = fr 71 f8 ∧ (16 * k < text.length + 16) ∧ f8 8 = .string (str ([] : List (BitVec 8))) ∧ f8 9 = .int .i64 0 ∧ f8 13 = .func (.func 75) #[] #[pt bc 0, pt bs 0, pt bw 0] ∧ f8 14 = .slice (some ⟨b_40, 0, none⟩) text.length cap_b_40 ∧ f8 15 = .int .i64 (((16 * k) : Nat) : Int) ∧ Row wl bc 71 1 (fun j => pt p 0) ∧ Row wl bs 9 1 (fun j => .string (str (Ct.nx s d k))) ∧ Row wl bw 3 1 (fun j => .int .i64 ((d : Nat) : Int)) ∧ Row wl b_40 5 text.length (fun j => if j < 16 * k then (fun j => U8 (gb text j ^^^ Ct.ks key s d j)) j else (fun j => U8 (gb text j)) j) ∧ CiphAt Aes.bk Aes.undo wl p (Aes.words key) ∧ Below w0.heap.size w0 wl) (text.length + 16 - 16 * 0) ?_ ?_
 · exact ⟨0, rfl, _, rfl, iv, rfl, rfl, rfl, rfl, ti, r_bc, (r_bs.cg), r_bw, (r_b_40.congr (fun j hj => by (try dsimp only); rw [if_neg om])), hc, hk⟩
 ·skip
  clear r_bc r_bs r_bw r_b_40 hc hk
  rintro _ _ w9 ⟨k, rfl, f8, rfl, i1_0, s1_8, s1_9, s1_13, s1_14, s1_15, r_bc, r_bs, r_bw, r_b_40, hc, hk⟩
  refine wp_seq (sr (w_mv (ei s1_15) (w_mv (el s1_14) (w_val (v := .int .i64 ((text.length : Nat) : Int)) (y_len_sl el Tryz.underlying111) (w_val (y_bin ei ei b_lss) (nt ?_))))))
  refine c_if (p := (((16 * k) : Nat) : Int) < ((text.length : Nat) : Int)) eb (fun hc10 => ?_) (fun hc10 => ?_)
  ·skip
   refine wp_skip (then_n (wp_seq (wp_block (sr (w_mv (ex (.func (.func 75) #[] #[pt bc 0, pt bs 0, pt bw 0]) s1_13) ?_)))))
   have hx_hc := CiphAt.onward hc r_bs (by decide) (by decide)
   have rb_ := r_bs
   clear r_bs
   refine w_callv (ex (.func (.func 75) #[] #[pt bc 0, pt bs 0, pt bw 0])) (Tryz.func75) kr rfl m0 (by first | rfl | simp) (blk_c p bc bs bw k key s d hok hs h1 h16 nb1 nb2 w9 r_bc rb_ r_bw hc) ?_
   rintro _ w11 ⟨rfl, r_bs, hgb⟩
   refine ⟨_, rfl, ?_⟩
   replace r_bc := r_bc.stepG hgb om
   replace r_bw := r_bw.stepG hgb om
   replace r_b_40 := r_b_40.stepG hgb om
   replace hk := thenG hk hgb om
   replace hc := hx_hc _ hgb
   refine w_as es (nt (sr (w_mv (el s1_14) (w_val (v := .int .i64 ((text.length : Nat) : Int)) (y_len_sl el Tryz.underlying111) (w_mv (ei s1_15) (w_val (y_bin ei ei (b_sub om)) (w_val (v := .int .i64 (min 16 (((text.length : Nat) : Int) - (((16 * k) : Nat) : Int)))) (y_min Ev.c ei) (w_mv Ev.c (nt (wp_block ?_))))))))))
   refine c_loop (fun dN aN wl => ∃ (i : Nat), dN = (16 - i) ∧ ∃ f12, aN = fr 71 f12 ∧ (i ≤ 16) ∧ (16 * k + i ≤ text.length) ∧ f12 8 = .string (str ([] : List (BitVec 8))) ∧ f12 9 = .int .i64 0 ∧ f12 13 = .func (.func 75) #[] #[pt bc 0, pt bs 0, pt bw 0] ∧ f12 14 = .slice (some ⟨b_40, 0, none⟩) text.length cap_b_40 ∧ f12 15 = .int .i64 (((16 * k) : Nat) : Int) ∧ f12 16 = .string (str (Aes.enc (Aes.words key) (Ct.nx s d k))) ∧ f12 53 = .int .i64 (min 16 (((text.length : Nat) : Int) - (((16 * k) : Nat) : Int))) ∧ f12 54 = .int .i64 ((i : Nat) : Int) ∧ Row wl bc 71 1 (fun j => pt p 0) ∧ Row wl bs 9 1 (fun j => .string (str (Ct.nx s d (k + 1)))) ∧ Row wl bw 3 1 (fun j => .int .i64 ((d : Nat) : Int)) ∧ Row wl b_40 5 text.length (fun j => if j < ((16 * k) + i) then (fun j => U8 (gb text j ^^^ Ct.ks key s d j)) j else (fun j => U8 (gb text j)) j) ∧ CiphAt Aes.bk Aes.undo wl p (Aes.words key) ∧ Below w0.heap.size w0 wl) (16 - 0) ?_ ?_
   · exact ⟨0, rfl, _, rfl, iv, iv, s1_8, s1_9, s1_13, s1_14, s1_15, rfl, rfl, ti, r_bc, r_bs, r_bw, (r_b_40.cg), hc, hk⟩
   ·skip
    clear r_bc r_bs r_bw r_b_40 hc hk
    rintro _ _ w13 ⟨i, rfl, f12, rfl, i2_0, i2_1, s2_8, s2_9, s2_13, s2_14, s2_15, s2_16, s2_53, s2_54, r_bc, r_bs, r_bw, r_b_40, hc, hk⟩
    refine sr (w_val (y_bin (ei s2_54) (ei s2_53) b_lss) (nt (wp_seq ?_)))
    refine c_if (p := ((i : Nat) : Int) < (min 16 (((text.length : Nat) : Int) - (((16 * k) : Nat) : Int)))) eb (fun hc14 => ?_) (fun hc14 => ?_)
    ·skip
     refine wp_skip (then_n (wp_seq (wp_block (sr (w_mv (ei s2_54) (w_as ei (nt (region_t 11 CtrCT.mixed kr ?_))))))))
     simp only [List.take_succ_cons, List.take_zero, List.drop_succ_cons, List.drop_zero]
     refine q_mv (el s2_14) (q_mv (ei s2_15) (q_mv ei (q_val (fun w' hw' => y_bin ei ei (b_add om)) (q_val (fun w' hw' => y_is1z (i := ((16 * k) + i)) el ei Tryz.underlying111 CtrCT.sz5 om om) (q_val (v := U8 (gb text ((16 * k) + i))) (fun w' hw' => y_ld (ex (pt b_40 ((16 * k) + i))) CtrCT.sc5 (cls_cell (r_b_40.val om (ng rfl)) r_b_40.lt w' hw')) (q_mv (es s2_16) (q_mv ei (q_val (v := U8 (gb (Aes.enc (Aes.words key) (Ct.nx s d k)) i)) (fun w' hw' => y_idx (ex (.string (str (Aes.enc (Aes.words key) (Ct.nx s d k))))) ei Tryz.underlying9 om (by rw [hle]; omega)) (q_val (fun w' hw' => y_bin e8 e8 xor8) (q_val (fun w' hw' => y_is1z (i := ((16 * k) + i)) el ei Tryz.underlying111 CtrCT.sz5 om om) (q_nil ?_)))))))))))
     intro w15 hb16
     replace r_bc := r_bc.step hb16
     replace r_bs := r_bs.step hb16
     replace r_bw := r_bw.step hb16
     replace r_b_40 := r_b_40.step hb16
     replace hk := thenB hk hb16
     replace hc := hc.below hb16
     have hx_hc := CiphAt.onward hc r_b_40 (by decide) (by decide)
     refine w_st (v := U8 ((gb text ((16 * k) + i)) ^^^ (gb (Aes.enc (Aes.words key) (Ct.nx s d k)) i))) (ex (pt b_40 ((16 * k) + i))) e8 rfl rfl CtrCT.sz5 r_b_40 om ?_
     clear r_b_40; intro w17 r_b_40 hg18 _
     replace r_bc := r_bc.stepG hg18 om
     replace r_bs := r_bs.stepG hg18 om
     replace r_bw := r_bw.stepG hg18 om
     replace hk := thenG hk hg18 om
     replace hc := hx_hc _ hg18
     refine wpList_nil (inb_n (then_n (wp_region_lit (w_val (y_bin (ei s2_54) Ev.c (b_add om)) (w_mv ei (wpList_nil ?_))))))
     exact then_n ⟨_, om, i + 1, rfl, _, rfl, iv, iv, s2_8, s2_9, s2_13, s2_14, s2_15, s2_16, s2_53, ti, r_bc, r_bs, r_bw, (r_b_40.congr (fun j hj => by (try dsimp only); by_cases e : j = 16 * k + i; (rw [if_pos e, if_pos om, e]; show U8 (gb text (16 * k + i) ^^^ gb (Aes.enc (Aes.words key) (Ct.nx s d k)) i) = U8 (gb text (16 * k + i) ^^^ Ct.ks key s d (16 * k + i)); unfold Ct.ks; rw [show (16 * k + i) / 16 = k from by omega, show (16 * k + i) % 16 = i from by omega]); (rw [if_neg e]; by_cases e2 : j < 16 * k + i; (rw [if_pos e2, if_pos om]); (rw [if_neg e2, if_neg om])))), hc, hk⟩
    ·skip
     refine wp_exit (then_x (then_x (inb_x (inb_n (then_n (wp_region_lit (w_mv (ei s2_15) (w_val (y_bin ei Ev.c (b_add om)) (w_as ei (wpList_nil ?_))))))))))
     exact then_n ⟨_, om, k + 1, rfl, _, rfl, iv, s2_8, s2_9, s2_13, s2_14, ti, r_bc, r_bs, r_bw, (r_b_40.congr (fun j hj => by (try dsimp only); by_cases e : j < 16 * k + i; (rw [if_pos e, if_pos om]); (rw [if_neg e, if_neg om]))), hc, hk⟩
  ·skip
   refine wp_exit (then_x ?_)
   replace r_b_40 := r_b_40.congr (g := fun j => U8 (gb (Ct.x key s d text) j)) (fun j hj => by (try dsimp only); rw [if_pos om, Ct.gb_x _ _ _ _ _ hj])
   refine then_x (inb_x (then_n (sr (w_mv (el s1_14) (w_val (y_str (l := Ct.x key s d text) el (by first | rfl | assumption | (simp; omega) | omega) Tryz.underlying111 Tryz.underlying5 Tryz.underlying9 (fun j hj => by rw [Nat.zero_add]; exact (r_b_40.cell om))) (w_as es (w_as Ev.c (nt (wp_ret (fin_ret2 rfl es ei ?_))))))))))
   exact ⟨rfl, hk⟩
end Go.Proofs.YtdmbfimjbmfbaaaGreat
