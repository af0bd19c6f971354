/-
  Chains of blocks: the reference's chains. Conditions as each says.
-/
import Derived.Test.YtepogbfkmflooaaGreatDoorRows
import Derived.Test.YtepogbfkmflooaaGreatDoorCbcC
import Derived.Test.YtepogbfkmflooaaGreatDoorGenSh
import Derived.ProofKit
namespace Go.Proofs.YtepogbfkmflooaaGreatDoor
open Go.RowKit
set_option linter.unusedSimpArgs false
set_option linter.unusedVariables false
set_option maxRecDepth 100000
set_option maxHeartbeats 1000000
namespace CbcDT
theorem mixed : Tryz.prog.follows .mixedOrders = true := by kernel_rfl
theorem sc9 : (Tryz.prog.underlying 9).map scal = some true := by rw [Tryz.underlying9]; rfl
theorem so3 : (Tryz.prog.underlying 3).isSome = true := by rw [Tryz.underlying3]; rfl
theorem so5 : (Tryz.prog.underlying 5).isSome = true := by rw [Tryz.underlying5]; rfl
theorem sz9 : (Tryz.prog.info? 9).map (·.size) = some 1 := by kernel_rfl
end CbcDT
theorem refChain_s (key vi : List (BitVec 8)) (hok : Aes.okKey key.length) (hiv : vi.length = 16) (text : List (BitVec 8)) (hs : ¬ (text.length % 16 = 0 ∧ text.length ≤ 70016)) (w0 : World) : Calls Tryz.prog 16 #[.string (str key), .string (str vi), .string (str text)] w0 fun e w' => e = .returned (.tuple #[.string (str ([] : List (BitVec 8))), .int .i64 6]) ∧ Below w0.heap.size w0 w' := by
 refine enter (n := 51) Tryz.func16 rfl rfl rfl ?_
 have hk : Below w0.heap.size w0 w0 := Below.refl _ _
 refine sr (w_as (evc (.string (str ([] : List (BitVec 8))))) (w_as Ev.c (nt (wp_seq (sr (w_mv es (w_mv es (w_call (Tryz.func27) kr rfl (m2 es es) (refWrong_y key vi hok hiv w0) ?_))))))))
 rintro _ w1 ⟨rfl, hb2⟩
 refine ⟨_, rfl, ?_⟩
 replace hk := thenB hk hb2
 refine w_as ei (nt (sr (w_mv ei (w_val (y_bin ei Ev.c b_neq) (nt (c_ff eb (wp_skip (then_n (wp_seq (sr (w_mv es (w_val (y_len es Tryz.underlying9) (w_val (y_bin ei Ev.c (b_rem om)) (w_val (y_bin ei Ev.c b_neq) (w_mv eb ?_)))))))))))))))
 by_cases hc3 : (((text.length : Nat) : Int) % 16) ≠ 0
 ·skip
  with_reducible refine w_skip ?_ ?_
  exact wn rfl rfl (eb (dt hc3))
  with_reducible refine w_skip ?_ ?_
  exact wn rfl rfl (eb (dt hc3))
  with_reducible refine w_skip ?_ ?_
  exact wn rfl rfl (eb (dt hc3))
  refine w_val (y_pick_t (eb (dt hc3)) Ev.c) (nt (c_tt eb (sr (w_as (evc (.string (str ([] : List (BitVec 8))))) (w_as Ev.c (nt (wp_ret (then_r (fin_ret2 rfl es ei ?_)))))))))
  exact ⟨rfl, hk⟩
 ·skip
  refine w_val_g (v := .string (str text)) (wy rfl rfl (eb (df hc3))) (y_mv es) (w_val_g (wy rfl rfl (eb (df hc3))) (y_len es Tryz.underlying9) (w_val_g (wy rfl rfl (eb (df hc3))) (y_bin ei Ev.c b_gtr) (w_val (y_pick_f (eb (df hc3)) eb) (nt ?_))))
  refine c_if (p := 70016 < ((text.length : Nat) : Int)) eb (fun hc4 => ?_) (fun hc4 => ?_)
  ·skip
   refine sr (w_as (evc (.string (str ([] : List (BitVec 8))))) (w_as Ev.c (nt (wp_ret (then_r (fin_ret2 rfl es ei ?_))))))
   exact ⟨rfl, hk⟩
  ·skip
   refine wp_skip (then_n (wp_seq ?_))
   exfalso; omega

theorem refChain_0 (key vi : List (BitVec 8)) (hok : Aes.okKey key.length) (hiv : vi.length = 16) (text : List (BitVec 8)) (h0 : text.length = 0) (w0 : World) : Calls Tryz.prog 16 #[.string (str key), .string (str vi), .string (str text)] w0 fun e w' => e = .returned (.tuple #[.string (str (Cb.chain key vi text)), .int .i64 0]) ∧ Below w0.heap.size w0 w' := by
 refine enter (n := 51) Tryz.func16 rfl rfl rfl ?_
 have hk : Below w0.heap.size w0 w0 := Below.refl _ _
 refine sr (w_as (evc (.string (str ([] : List (BitVec 8))))) (w_as Ev.c (nt (wp_seq (sr (w_mv es (w_mv es (w_call (Tryz.func27) kr rfl (m2 es es) (refWrong_y key vi hok hiv w0) ?_))))))))
 rintro _ w1 ⟨rfl, hb2⟩
 refine ⟨_, rfl, ?_⟩
 replace hk := thenB hk hb2
 refine w_as ei (nt (sr (w_mv ei (w_val (y_bin ei Ev.c b_neq) (nt (c_ff eb (wp_skip (then_n (wp_seq (sr (w_mv es (w_val (y_len es Tryz.underlying9) (w_val (y_bin ei Ev.c (b_rem om)) (w_val (y_bin ei Ev.c b_neq) (w_mv eb ?_)))))))))))))))
 have hc3 : ¬ ((((text.length : Nat) : Int) % 16) ≠ 0) := by omega
 refine w_val_g (v := .string (str text)) (wy rfl rfl (eb (df hc3))) (y_mv es) (w_val_g (wy rfl rfl (eb (df hc3))) (y_len es Tryz.underlying9) (w_val_g (wy rfl rfl (eb (df hc3))) (y_bin ei Ev.c b_gtr) (w_val (y_pick_f (eb (df hc3)) eb) (nt ?_))))
 have hc4 : ¬ (70016 < ((text.length : Nat) : Int)) := by omega
 refine c_f (p := 70016 < ((text.length : Nat) : Int)) eb hc4 (wp_skip (then_n (sr (w_mv es (w_call (Tryz.func28) kr rfl (m1 es) (refNew_l key w1 hok) ?_)))))
 rintro _ w5 ⟨bx, g, cap, rfl, hbn, hge_bx, hge_g, r_bx, r_g⟩
 refine ⟨_, rfl, ?_⟩
 have ge_bx : w0.heap.size ≤ bx := by have := hk.size; omega
 have ge_g : w0.heap.size ≤ g := by have := hk.size; omega
 replace hk := thenB hk hbn
 refine w_as (ex (pt bx 0)) (nt (sr (w_mv es (w_call (Tryz.func29) kr rfl (m1 es) (refBlocks_0 text om w5) ?_))))
 rintro _ w6 ⟨rfl, hb7⟩
 refine ⟨_, rfl, ?_⟩
 replace r_bx := r_bx.step hb7
 replace r_g := r_g.step hb7
 replace hk := thenB hk hb7
 refine w_as (ex (.slice none 0 0)) (nt (sr (w_as Ev.c (nt (wp_seq (sr (w_as Ev.c (nt (wp_block ?_)))))))))
 refine c_loop (fun dN aN wl => dN = 0 ∧ ∃ f8, aN = fr 51 f8 ∧ f8 6 = .string (str ([] : List (BitVec 8))) ∧ f8 7 = .int .i64 0 ∧ f8 9 = pt bx 0 ∧ f8 10 = .slice none 0 0 ∧ f8 11 = .slice none 0 0 ∧ f8 12 = .int .i64 0 ∧ Row wl bx 74 513 (fun j => if j < 256 then U8 (Aes.sb j) else if j < 512 then U8 (Aes.bk (j - 256)) else .slice (some ⟨g, 0, none⟩) ((Aes.words key).length) cap) ∧ Row wl g 77 ((Aes.words key).length * 4) (fun j => U8 (Aes.byteOf (Aes.gw (Aes.words key) (j / 4)) (j % 4))) ∧ Below w0.heap.size w0 wl) 0 ?_ ?_
 · exact ⟨rfl, _, rfl, rfl, rfl, rfl, rfl, rfl, rfl, r_bx, r_g, hk⟩
 ·skip
  clear r_bx r_g hk
  rintro _ _ w9 ⟨rfl, f8, rfl, s1_6, s1_7, s1_9, s1_10, s1_11, s1_12, r_bx, r_g, hk⟩
  refine wp_seq (sr (w_mv (ei s1_12) (w_mv (ex (.slice none 0 0) s1_10) (w_val (v := .int .i64 0) (y_len_sl (ex (.slice none 0 0)) Tryz.underlying45) (w_val (y_bin ei ei b_lss) (nt (c_ff eb (wp_exit (then_x (then_x (inb_x (then_n (sr (w_mv (ex (.slice none 0 0) s1_11) (w_val (v := .string (str ([] : List (BitVec 8)))) (y_str0 (ex (.slice none 0 0)) Tryz.underlying47 Tryz.underlying5 Tryz.underlying9) (w_as es (w_as Ev.c (nt (wp_ret (fin_ret2 rfl es ei ?_))))))))))))))))))))
  refine ⟨congrArg Ending.returned ?_, hk⟩
  show (.tuple #[.string (str ([] : List (BitVec 8))), .int .i64 0] : Value) = .tuple #[.string (str (Cb.chain key vi text)), .int .i64 0]
  exact congrArg (fun l => Value.tuple #[.string (str l), .int .i64 0]) (List.eq_nil_of_length_eq_zero (by rw [Cb.chain_len]; exact h0)).symm

theorem refChain_y (key vi : List (BitVec 8)) (hok : Aes.okKey key.length) (hiv : vi.length = 16) (text : List (BitVec 8)) (ht : text.length % 16 = 0) (hl : text.length ≤ 70016) (h16 : 16 ≤ text.length) (w0 : World) : Calls Tryz.prog 16 #[.string (str key), .string (str vi), .string (str text)] w0 fun e w' => e = .returned (.tuple #[.string (str (Cb.chain key vi text)), .int .i64 0]) ∧ Below w0.heap.size w0 w' := by
 have hle := fun t => Cb.ch_len key vi text hok hiv t
 refine enter (n := 51) Tryz.func16 rfl rfl rfl ?_
 have hk : Below w0.heap.size w0 w0 := Below.refl _ _
 refine sr (w_as (evc (.string (str ([] : List (BitVec 8))))) (w_as Ev.c (nt (wp_seq (sr (w_mv es (w_mv es (w_call (Tryz.func27) kr rfl (m2 es es) (refWrong_y key vi hok hiv w0) ?_))))))))
 rintro _ w1 ⟨rfl, hb2⟩
 refine ⟨_, rfl, ?_⟩
 replace hk := thenB hk hb2
 refine w_as ei (nt (sr (w_mv ei (w_val (y_bin ei Ev.c b_neq) (nt (c_ff eb (wp_skip (then_n (wp_seq (sr (w_mv es (w_val (y_len es Tryz.underlying9) (w_val (y_bin ei Ev.c (b_rem om)) (w_val (y_bin ei Ev.c b_neq) (w_mv eb ?_)))))))))))))))
 have hc3 : ¬ ((((text.length : Nat) : Int) % 16) ≠ 0) := by omega
 refine w_val_g (v := .string (str text)) (wy rfl rfl (eb (df hc3))) (y_mv es) (w_val_g (wy rfl rfl (eb (df hc3))) (y_len es Tryz.underlying9) (w_val_g (wy rfl rfl (eb (df hc3))) (y_bin ei Ev.c b_gtr) (w_val (y_pick_f (eb (df hc3)) eb) (nt ?_))))
 have hc4 : ¬ (70016 < ((text.length : Nat) : Int)) := by omega
 refine c_f (p := 70016 < ((text.length : Nat) : Int)) eb hc4 (wp_skip (then_n (sr (w_mv es (w_call (Tryz.func28) kr rfl (m1 es) (refNew_l key w1 hok) ?_)))))
 rintro _ w5 ⟨bx, g, cap, rfl, hbn, hge_bx, hge_g, r_bx, r_g⟩
 refine ⟨_, rfl, ?_⟩
 have ge_bx : w0.heap.size ≤ bx := by have := hk.size; omega
 have ge_g : w0.heap.size ≤ g := by have := hk.size; omega
 replace hk := thenB hk hbn
 refine w_as (ex (pt bx 0)) (nt (sr (w_mv es (w_call (Tryz.func29) kr rfl (m1 es) (refBlocks_y text om om w5) ?_))))
 rintro _ w6 ⟨lb, capl, rfl, hge_lb, r_lb, hbl⟩
 refine ⟨_, rfl, ?_⟩
 have ne_bx_lb : bx ≠ lb := by have := r_bx.lt; omega
 have ne_g_lb : g ≠ lb := by have := r_g.lt; omega
 have ge_lb : w0.heap.size ≤ lb := by have := hk.size; omega
 replace r_bx := r_bx.step hbl
 replace r_g := r_g.step hbl
 replace hk := thenB hk hbl
 refine w_as el (nt (sr (w_as Ev.c (nt (wp_seq (sr (w_as Ev.c (nt (wp_block ?_)))))))))
 refine c_loop (fun dN aN wl => ∃ (t : Nat) (vo : Value), dN = (text.length / 16 - t) ∧ ∃ f7, aN = fr 51 f7 ∧ (t ≤ text.length / 16) ∧ f7 1 = .string (str (Cb.ch key vi text t)) ∧ f7 6 = .string (str ([] : List (BitVec 8))) ∧ f7 7 = .int .i64 0 ∧ f7 9 = pt bx 0 ∧ f7 10 = .slice (some ⟨lb, 0, none⟩) (text.length / 16) capl ∧ f7 11 = vo ∧ f7 12 = .int .i64 ((t : Nat) : Int) ∧ Row wl bx 74 513 (fun j => if j < 256 then U8 (Aes.sb j) else if j < 512 then U8 (Aes.bk (j - 256)) else .slice (some ⟨g, 0, none⟩) ((Aes.words key).length) cap) ∧ Row wl g 77 ((Aes.words key).length * 4) (fun j => U8 (Aes.byteOf (Aes.gw (Aes.words key) (j / 4)) (j % 4))) ∧ Row wl lb 9 (text.length / 16 * 1) (fun j => .string (str (Cb.bk text j))) ∧ Own wl w0.heap.size 5 1 vo (16 * t) (fun j => U8 (gb (Cb.ch key vi text (j / 16 + 1)) (j % 16))) ∧ vo.ownBlock ≠ some bx ∧ vo.ownBlock ≠ some g ∧ vo.ownBlock ≠ some lb ∧ Below w0.heap.size w0 wl) (text.length / 16 - 0) ?_ ?_
 · exact ⟨0, (.slice none 0 0), rfl, _, rfl, iv, (Eq.trans (b := .string (str vi)) rfl (by rfl)), rfl, rfl, rfl, rfl, (etv (b := .slice none 0 0) rfl), ti, r_bx, r_g, r_lb, Own.nil, (fun e => by cases e), (fun e => by cases e), (fun e => by cases e), hk⟩
 ·skip
  clear r_bx r_g r_lb hk
  rintro _ _ w8 ⟨t, vo, rfl, f7, rfl, i1_0, s1_1, s1_6, s1_7, s1_9, s1_10, s1_11, s1_12, r_bx, r_g, r_lb, o_vo, no_vo_bx, no_vo_g, no_vo_lb, hk⟩
  have hE : (Aes.enc (Aes.words key) (Oct.xor (Cb.bk text t) (Cb.ch key vi text t))).length = 16 := Cb.enc_len key _ hok
  refine wp_seq (sr (w_mv (ei s1_12) (w_mv (el s1_10) (w_val (v := .int .i64 (((text.length / 16) : Nat) : Int)) (y_len_sl el Tryz.underlying45) (w_val (y_bin ei ei b_lss) (nt ?_))))))
  refine c_if (p := ((t : Nat) : Int) < (((text.length / 16) : Nat) : Int)) eb (fun hc9 => ?_) (fun hc9 => ?_)
  ·skip
   refine wp_skip (then_n (wp_seq (wp_block (sr (w_mv (ex (pt bx 0) s1_9) (w_mv (el s1_10) (w_mv (ei s1_12) (w_val (y_is1z (i := t) el ei Tryz.underlying45 CbcDT.sz9 om om) (w_val (v := .string (str (Cb.bk text t))) (y_ld (ex (pt lb t)) CbcDT.sc9 (r_lb.val om rfl)) (w_mv (es s1_1) (w_call (Tryz.func31) kr rfl (m2 es es) (refXor_c (Cb.bk text t) (Cb.ch key vi text t) (by rw [Cb.bk_len _ _ om]; omega) w8) ?_)))))))))))
   rintro _ w10 ⟨rfl, hb11⟩
   refine ⟨_, rfl, ?_⟩
   replace o_vo := o_vo.step hb11
   replace r_bx := r_bx.step hb11
   replace r_g := r_g.step hb11
   replace r_lb := r_lb.step hb11
   replace hk := thenB hk hb11
   refine w_call (Tryz.func30) kr rfl (m2 (ex (pt bx 0)) es) (refEnc_l bx g cap key (Oct.xor (Cb.bk text t) (Cb.ch key vi text t)) w10 hok (by rw [Oct.length_xor, Cb.bk_len _ _ om, hle]; rfl) r_bx r_g) ?_
   rintro _ w12 ⟨rfl, hb13⟩
   refine ⟨_, rfl, ?_⟩
   replace o_vo := o_vo.step hb13
   replace r_bx := r_bx.step hb13
   replace r_g := r_g.step hb13
   replace r_lb := r_lb.step hb13
   replace hk := thenB hk hb13
   refine w_as es (nt (wp_region_lit (w_mv (ex vo s1_11) (w_mv es (w_apps (K0 := (16 * t)) (l := Aes.enc (Aes.words key) (Oct.xor (Cb.bk text t) (Cb.ch key vi text t))) (ex vo) es Tryz.underlying47 Tryz.underlying9 kr o_vo hk.size om ?_)))))
   intro v14 w15 o_v14 hg16 hv17
   have no_v14_bx := no_new no_vo_bx r_bx.lt hv17
   replace r_bx := r_bx.stepO hg16 no_vo_bx
   have no_v14_g := no_new no_vo_g r_g.lt hv17
   replace r_g := r_g.stepO hg16 no_vo_g
   have no_v14_lb := no_new no_vo_lb r_lb.lt hv17
   replace r_lb := r_lb.stepO hg16 no_vo_lb
   replace hk := thenO hk hg16 (fun g e => (o_vo.block_lt g e).2)
   clear o_vo
   refine w_as (ex v14) (wpList_nil (inb_n (then_n (wp_region_lit (w_mv (ei s1_12) (w_val (y_bin ei Ev.c (b_add om)) (w_as ei (wpList_nil ?_))))))))
   exact then_n ⟨_, om, t + 1, v14, rfl, _, rfl, iv, (Eq.trans (b := .string (str (Aes.enc (Aes.words key) (Oct.xor (Cb.bk text t) (Cb.ch key vi text t))))) rfl (by exact congrArg (fun l => Value.string (str l)) (by rw [Oct.xor_comm]; rfl))), s1_6, s1_7, s1_9, s1_10, rfl, ti, r_bx, r_g, r_lb, (own_n (o_v14.congr (fun j hj => by (try dsimp only); by_cases e : j < 16 * t * 1; (rw [if_pos e]); (rw [if_neg e, Oct.xor_comm, show j / 16 = t from by omega, show j % 16 = 0 + (j - 16 * t * 1) from by omega]; rfl))) om), no_v14_bx, no_v14_g, no_v14_lb, hk⟩
  ·skip
   refine wp_exit (then_x (then_x (inb_x (then_n (sr (w_mv (ex vo s1_11) (w_val (v := .string (str (Cb.chain key vi text))) (y_strown (l := Cb.chain key vi text) (ex vo) o_vo  (by exact (by rw [Cb.chain_len]; omega)) (fun j hj => by exact (by rw [Cb.gb_chain _ _ _ _ om])) Tryz.underlying47 Tryz.underlying5 Tryz.underlying9) (w_as es (w_as Ev.c (nt (wp_ret (fin_ret2 rfl es ei ?_))))))))))))
   exact ⟨rfl, hk⟩

end Go.Proofs.YtepogbfkmflooaaGreatDoor
