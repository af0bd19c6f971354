/-
  Chains of blocks: the reference's chains. Conditions as each says.
-/
import Derived.Test.YtepogbfkmflooaaGreatDoorRows
import Derived.Test.YtepogbfkmflooaaGreatDoorCbcC
import Derived.Test.YtepogbfkmflooaaGreatDoorGenSh
import Derived.ProofKit
namespace Go.Proofs.YtepogbfkmflooaaGreatDoor
open Go.RowKit
set_option linter.unusedSimpArgs false
set_option linter.unusedVariables false
set_option maxRecDepth 100000
set_option maxHeartbeats 1000000
namespace CbcDT
theorem mixed : Tryz.prog.follows .mixedOrders = true := by kernel_rfl
theorem sc9 : (Tryz.prog.underlying 9).map scal = some true := by rw [Tryz.underlying9]; rfl
theorem so3 : (Tryz.prog.underlying 3).isSome = true := by rw [Tryz.underlying3]; rfl
theorem so5 : (Tryz.prog.underlying 5).isSome = true := by rw [Tryz.underlying5]; rfl
theorem sz9 : (Tryz.prog.info? 9).map (·.size) = some 1 := by kernel_rfl
end CbcDT
theorem refUnchain_y (key vi : List (BitVec 8)) (hok : Aes.okKey key.length) (hiv : vi.length = 16) (text : List (BitVec 8)) (ht : text.length % 16 = 0) (hl : text.length ≤ 70016) (w0 : World) : Calls Tryz.prog 43 #[.string (str key), .string (str vi), .string (str text)] w0 fun e w' => e = .returned (.tuple #[.string (str (Cb.unchain key vi text)), .int .i64 0]) ∧ Below w0.heap.size w0 w' := by
 have hlv : (vi ++ text).length = 16 + text.length := by rw [List.length_append]; omega
 refine enter (n := 56) Tryz.func43 rfl rfl rfl ?_
 have hk : Below w0.heap.size w0 w0 := Below.refl _ _
 refine sr (w_as (evc (.string (str ([] : List (BitVec 8))))) (w_as Ev.c (nt (wp_seq (sr (w_mv es (w_mv es (w_call (Tryz.func27) kr rfl (m2 es es) (refWrong_y key vi hok hiv w0) ?_))))))))
 rintro _ w1 ⟨rfl, hb2⟩
 refine ⟨_, rfl, ?_⟩
 replace hk := thenB hk hb2
 refine w_as ei (nt (sr (w_mv ei (w_val (y_bin ei Ev.c b_neq) (nt (c_ff eb (wp_skip (then_n (wp_seq (sr (w_mv es (w_val (y_len es Tryz.underlying9) (w_val (y_bin ei Ev.c (b_rem om)) (w_val (y_bin ei Ev.c b_neq) (w_mv eb ?_)))))))))))))))
 have hc3 : ¬ ((((text.length : Nat) : Int) % 16) ≠ 0) := by omega
 refine w_val_g (v := .string (str text)) (wy rfl rfl (eb (df hc3))) (y_mv es) (w_val_g (wy rfl rfl (eb (df hc3))) (y_len es Tryz.underlying9) (w_val_g (wy rfl rfl (eb (df hc3))) (y_bin ei Ev.c b_gtr) (w_val (y_pick_f (eb (df hc3)) eb) (nt ?_))))
 have hc4 : ¬ (70016 < ((text.length : Nat) : Int)) := by omega
 refine c_f (p := 70016 < ((text.length : Nat) : Int)) eb hc4 (wp_skip (then_n (sr (w_mv es (w_call (Tryz.func28) kr rfl (m1 es) (refNew_l key w1 hok) ?_)))))
 rintro _ w5 ⟨bx, g, cap, rfl, hbn, hge_bx, hge_g, r_bx, r_g⟩
 refine ⟨_, rfl, ?_⟩
 have ge_bx : w0.heap.size ≤ bx := by have := hk.size; omega
 have ge_g : w0.heap.size ≤ g := by have := hk.size; omega
 replace hk := thenB hk hbn
 refine w_as (ex (pt bx 0)) (nt (sr (w_mv es (w_mv es (w_val (y_bin es es (b_cat (by (try simp only [List.length_append]); omega))) (w_call (Tryz.func29) kr rfl (m1 es) (refBlocks_y (vi ++ text) om om w5) ?_))))))
 rintro _ w6 ⟨lb, capl, rfl, hge_lb, r_lb, hbl⟩
 refine ⟨_, rfl, ?_⟩
 have ne_bx_lb : bx ≠ lb := by have := r_bx.lt; omega
 have ne_g_lb : g ≠ lb := by have := r_g.lt; omega
 have ge_lb : w0.heap.size ≤ lb := by have := hk.size; omega
 replace r_bx := r_bx.step hbl
 replace r_g := r_g.step hbl
 replace hk := thenB hk hbl
 refine w_as el (nt (sr (w_as Ev.c (nt (wp_seq (sr (w_as Ev.c (nt (wp_block ?_)))))))))
 refine c_loop (fun dN aN wl => ∃ (t : Nat) (vo : Value), dN = (text.length / 16 - t) ∧ ∃ f7, aN = fr 56 f7 ∧ (t ≤ text.length / 16) ∧ f7 6 = .string (str ([] : List (BitVec 8))) ∧ f7 7 = .int .i64 0 ∧ f7 9 = pt bx 0 ∧ f7 10 = .slice (some ⟨lb, 0, none⟩) ((vi ++ text).length / 16) capl ∧ f7 11 = vo ∧ f7 12 = .int .i64 (((t + 1) : Nat) : Int) ∧ Row wl bx 74 513 (fun j => if j < 256 then U8 (Aes.sb j) else if j < 512 then U8 (Aes.bk (j - 256)) else .slice (some ⟨g, 0, none⟩) ((Aes.words key).length) cap) ∧ Row wl g 77 ((Aes.words key).length * 4) (fun j => U8 (Aes.byteOf (Aes.gw (Aes.words key) (j / 4)) (j % 4))) ∧ Row wl lb 9 ((vi ++ text).length / 16 * 1) (fun j => .string (str (Cb.bk (vi ++ text) j))) ∧ Own wl w0.heap.size 5 1 vo (16 * t) (fun j => U8 (gb (Cb.un key vi text (j / 16)) (j % 16))) ∧ vo.ownBlock ≠ some bx ∧ vo.ownBlock ≠ some g ∧ vo.ownBlock ≠ some lb ∧ Below w0.heap.size w0 wl) (text.length / 16 - 0) ?_ ?_
 · exact ⟨0, (.slice none 0 0), rfl, _, rfl, iv, rfl, rfl, rfl, rfl, (etv (b := .slice none 0 0) rfl), (Eq.trans (b := .int .i64 1) rfl (by rfl)), r_bx, r_g, r_lb, Own.nil, (fun e => by cases e), (fun e => by cases e), (fun e => by cases e), hk⟩
 ·skip
  clear r_bx r_g r_lb hk
  rintro _ _ w8 ⟨t, vo, rfl, f7, rfl, i1_0, s1_6, s1_7, s1_9, s1_10, s1_11, s1_12, r_bx, r_g, r_lb, o_vo, no_vo_bx, no_vo_g, no_vo_lb, hk⟩
  have hE : (Oct.xor (Aes.dec (Aes.words key) (Cb.bk (vi ++ text) (t + 1))) (Cb.bk (vi ++ text) ((t + 1) - 1))).length = 16 := by
    rw [Oct.length_xor, Cb.dec_len]
    exact congrArg (min 16) (Cb.bk_len (vi ++ text) t om)
  refine wp_seq (sr (w_mv (ei s1_12) (w_mv (el s1_10) (w_val (v := .int .i64 ((((vi ++ text).length / 16) : Nat) : Int)) (y_len_sl el Tryz.underlying45) (w_val (y_bin ei ei b_lss) (nt ?_))))))
  refine c_if (p := (((t + 1) : Nat) : Int) < ((((vi ++ text).length / 16) : Nat) : Int)) eb (fun hc9 => ?_) (fun hc9 => ?_)
  ·skip
   refine wp_skip (then_n (wp_seq (wp_block (region_dc (Nat.testBit 24576) 15 CbcDT.mixed rfl ?_))))
   intro w10 hb11
   replace o_vo := o_vo.step hb11
   replace r_bx := r_bx.step hb11
   replace r_g := r_g.step hb11
   replace r_lb := r_lb.step hb11
   replace hk := thenB hk hb11
   have hS : Cls w10 w10 := Below.refl _ _
   refine dp 0 rfl (fun w' => y_mv (ex vo s1_11)) (dp 1 rfl (fun w' => y_mv (ex (pt bx 0) s1_9)) (dp 2 rfl (fun w' => y_mv (el s1_10)) (dp 3 rfl (fun w' => y_mv (ei s1_12)) (dp (v := pt lb (t + 1)) 4 rfl (fun w' => y_is1z (i := (t + 1)) el ei Tryz.underlying45 CbcDT.sz9 om om) (d_take (v := .string (str (Cb.bk (vi ++ text) (t + 1)))) 5 (Nat.testBit 28768) rfl kr kr kr kr kr kr (fun _ _ _ h => h) hS (fun w' hw' => y_ld (ex (pt lb (t + 1))) CbcDT.sc9 (cls_cell (r_lb.val om rfl) r_lb.lt w' hw')) (dp 7 rfl (fun w' => y_mv (el s1_10)) (dp 8 rfl (fun w' => y_mv (ei s1_12)) (dp (v := .int .i64 ((((t + 1) : Nat) : Int) - 1)) 9 rfl (fun w' => y_bin ei Ev.c (b_sub om)) (dp (v := pt lb ((t + 1) - 1)) 10 rfl (fun w' => y_is1z (i := ((t + 1) - 1)) el ei Tryz.underlying45 CbcDT.sz9 om om) (d_take (v := .string (str (Cb.bk (vi ++ text) ((t + 1) - 1)))) 11 (Nat.testBit 30720) rfl kr kr kr kr kr kr (fun _ _ _ h => h) hS (fun w' hw' => y_ld (ex (pt lb ((t + 1) - 1))) CbcDT.sc9 (cls_cell (r_lb.val om rfl) r_lb.lt w' hw')) (d_one 6 kr rfl (w_call (Tryz.func63) kr rfl (m2 (ex (pt bx 0)) es) (refDec_l bx g cap key (Cb.bk (vi ++ text) (t + 1)) w10 hok (Cb.bk_len _ _ om) r_bx r_g) ?_))))))))))))
   rintro _ w12 ⟨rfl, hb13⟩
   refine ⟨_, rfl, ?_⟩
   replace o_vo := o_vo.step hb13
   replace r_bx := r_bx.step hb13
   replace r_g := r_g.step hb13
   replace r_lb := r_lb.step hb13
   replace hk := thenB hk hb13
   replace hS := thenB hS hb13
   refine wpList_nil ?_
   refine then_n ⟨fun _ h => thenB h (by assumption), ?_⟩
   refine d_one 12 kr rfl (w_call (Tryz.func31) kr rfl (m2 es es) (refXor_c (Aes.dec (Aes.words key) (Cb.bk (vi ++ text) (t + 1))) (Cb.bk (vi ++ text) ((t + 1) - 1)) (by rw [Cb.dec_len]; omega) w12) ?_)
   rintro _ w14 ⟨rfl, hb15⟩
   refine ⟨_, rfl, ?_⟩
   replace o_vo := o_vo.step hb15
   replace r_bx := r_bx.step hb15
   replace r_g := r_g.step hb15
   replace r_lb := r_lb.step hb15
   replace hk := thenB hk hb15
   replace hS := thenB hS hb15
   refine wpList_nil ?_
   refine then_n ⟨fun _ h => thenB h (by assumption), ?_⟩
   refine d_one 13 kr rfl (w_apps (K0 := (16 * t)) (l := Oct.xor (Aes.dec (Aes.words key) (Cb.bk (vi ++ text) (t + 1))) (Cb.bk (vi ++ text) ((t + 1) - 1))) (ex vo) es Tryz.underlying47 Tryz.underlying9 kr o_vo hk.size om ?_)
   intro v16 w17 o_v16 hg18 hv19
   have no_v16_bx := no_new no_vo_bx r_bx.lt hv19
   replace r_bx := r_bx.stepO hg18 no_vo_bx
   have no_v16_g := no_new no_vo_g r_g.lt hv19
   replace r_g := r_g.stepO hg18 no_vo_g
   have no_v16_lb := no_new no_vo_lb r_lb.lt hv19
   replace r_lb := r_lb.stepO hg18 no_vo_lb
   replace hk := thenO hk hg18 (fun g e => (o_vo.block_lt g e).2)
   clear o_vo
   clear hS
   refine wpList_nil ?_
   refine then_n ⟨fun hD => absurd hD (by decide), ?_⟩
   refine d_one 14 kr rfl (w_as (ex v16) (wpList_nil ?_))
   refine then_n ⟨fun hD => absurd hD (by decide), ?_⟩
   refine d_done kr (inb_n (then_n (wp_region_lit (w_mv (ei s1_12) (w_val (y_bin ei Ev.c (b_add om)) (w_as ei (wpList_nil ?_)))))))
   exact then_n ⟨_, om, t + 1, v16, rfl, _, rfl, iv, s1_6, s1_7, s1_9, s1_10, rfl, (Eq.trans (b := .int .i64 ((((t + 1) : Nat) : Int) + 1)) rfl (by congr 1)), r_bx, r_g, r_lb, (own_n (o_v16.congr (fun j hj => by (try dsimp only); by_cases e : j < 16 * t * 1; (rw [if_pos e]); (rw [if_neg e, show j / 16 = t from by omega, show j % 16 = 0 + (j - 16 * t * 1) from by omega]; rfl))) om), no_v16_bx, no_v16_g, no_v16_lb, hk⟩
  ·skip
   refine wp_exit (then_x (then_x (inb_x (then_n (sr (w_mv (ex vo s1_11) (w_val (v := .string (str (Cb.unchain key vi text))) (y_strown (l := Cb.unchain key vi text) (ex vo) o_vo  (by exact (by rw [Cb.unchain_len]; omega)) (fun j hj => by exact (by rw [Cb.gb_unchain _ _ _ _ om])) Tryz.underlying47 Tryz.underlying5 Tryz.underlying9) (w_as es (w_as Ev.c (nt (wp_ret (fin_ret2 rfl es ei ?_))))))))))))
   exact ⟨rfl, hk⟩
end Go.Proofs.YtepogbfkmflooaaGreatDoor
