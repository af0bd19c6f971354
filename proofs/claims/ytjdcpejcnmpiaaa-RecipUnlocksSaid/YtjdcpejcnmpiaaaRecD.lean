/-
  Unlocking, by the reference. Conditions as each says.
-/
import Derived.Test.YtjdcpejcnmpiaaaRows
import Derived.Test.YtjdcpejcnmpiaaaRecC
import Derived.ProofKit
namespace Go.Proofs.Ytjdcpejcnmpiaaa
open Go.RowKit
set_option linter.unusedSimpArgs false
set_option linter.unusedVariables false
namespace RecDT
theorem mixed : Try.prog.follows .mixedOrders = true := by kernel_rfl
theorem sc9 : (Try.prog.underlying 9).map scal = some true := by rw [Try.underlying9]; rfl
theorem so3 : (Try.prog.underlying 3).isSome = true := by rw [Try.underlying3]; rfl
theorem so5 : (Try.prog.underlying 5).isSome = true := by rw [Try.underlying5]; rfl
theorem sz9 : (Try.prog.info? 9).map (·.size) = some 1 := by kernel_rfl
end RecDT
set_option maxRecDepth 100000 in
set_option maxHeartbeats 1000000 in
theorem refUnlock_1 (key vi : List (BitVec 8)) (hok : Aes.okKey key.length) (hiv : vi.length = 16) (text : List (BitVec 8)) (n : Nat) (hn : text.length = n + 16) (hm : text.length % 16 = 0) (h32 : 32 ≤ text.length) (h272 : text.length ≤ 272) (hb : ¬ (3 ≤ Rc.kn (Rc.opn key vi text) ∧ Rc.kn (Rc.opn key vi text) ≤ 255)) (w0 : World) : Calls Try.prog 40 #[.string (str key), .string (str vi), .string (str text)] w0 fun e w' => e = .returned (.tuple #[.string (str ([] : List (BitVec 8))), .int .i64 8]) ∧ Below w0.heap.size w0 w' := by
 have hll := Rc.lst_len key text h32
 have hol := Rc.opn_len key vi text
 have hul := Cb.unchain_len key (Rc.lst key text) (text.take n)
 have hul2 := Cb.unchain_len key (Rc.lst key text) text
 have hnl : (text.take n).length = n := by rw [List.length_take]; omega
 have hflb := Rc.fl_le (Rc.kn (Rc.opn key vi text))
 have habl := Rc.AB_len (Rc.opn key vi text) (by omega)
 refine enter (n := 121) Try.func40 rfl rfl rfl ?_
 have hk : Below w0.heap.size w0 w0 := Below.refl _ _
 refine sr ?_
 refine w_as (evc (.string (str ([] : List (BitVec 8))))) ?_
 refine w_as (evc (.int .i64 0)) ?_
 refine nt ?_
 refine wp_seq ?_
 refine sr ?_
 refine w_mv (ev (.string (str key)) rfl rfl) ?_
 refine w_mv (ev (.string (str vi)) rfl rfl) ?_
 refine w_call (Try.func66) (by kernel_rfl) rfl (m2 (ev (.string (str key)) rfl rfl) (ev (.string (str vi)) rfl rfl)) (rcRefWrong_y key vi hok hiv w0) ?_
 rintro _ w1 ⟨rfl, hb2⟩
 refine ⟨_, rfl, ?_⟩
 replace hk := thenB hk hb2
 refine w_as (ev (.int .i64 0) rfl rfl) ?_
 refine nt ?_
 refine sr ?_
 refine w_mv (ev (.int .i64 0) rfl rfl) ?_
 refine w_val (y_bin (ev (.int .i64 0) rfl rfl) (evc (.int .i64 0)) b_neq) ?_
 refine nt ?_
 refine c_ff (ev (.bool false) rfl rfl) ?_
 refine wp_skip ?_
 refine then_n ?_
 refine wp_seq ?_
 refine sr ?_
 refine w_mv (ev (.string (str text)) rfl rfl) ?_
 refine w_val (y_len (ev (.string (str text)) rfl rfl) Try.underlying9) ?_
 refine w_val (y_bin (ev (.int .i64 ((text.length : Nat) : Int)) rfl rfl) (evc (.int .i64 16)) (b_rem (by omega))) ?_
 refine w_val (y_bin (ev (.int .i64 (((text.length : Nat) : Int) % 16)) rfl rfl) (evc (.int .i64 0)) b_neq) ?_
 refine w_mv (ev (.bool (decide ((((text.length : Nat) : Int) % 16) ≠ 0))) rfl rfl) ?_
 have hc3 : ¬ ((((text.length : Nat) : Int) % 16) ≠ 0) := by omega
 refine w_val_g (v := .string (str text)) (want_yes (j := 4) rfl rfl (ev (.bool false) (Eq.trans (b := .bool (decide ((((text.length : Nat) : Int) % 16) ≠ 0))) rfl (by rw [decide_eq_false hc3])) rfl) rfl) (y_mv (ev (.string (str text)) rfl rfl)) ?_
 refine w_val_g (want_yes (j := 4) rfl rfl (ev (.bool false) (Eq.trans (b := .bool (decide ((((text.length : Nat) : Int) % 16) ≠ 0))) rfl (by rw [decide_eq_false hc3])) rfl) rfl) (y_len (ev (.string (str text)) rfl rfl) Try.underlying9) ?_
 refine w_val_g (want_yes (j := 4) rfl rfl (ev (.bool false) (Eq.trans (b := .bool (decide ((((text.length : Nat) : Int) % 16) ≠ 0))) rfl (by rw [decide_eq_false hc3])) rfl) rfl) (y_bin (ev (.int .i64 ((text.length : Nat) : Int)) rfl rfl) (evc (.int .i64 32)) b_lss) ?_
 refine w_val (y_pick_f (ev (.bool false) (Eq.trans (b := .bool (decide ((((text.length : Nat) : Int) % 16) ≠ 0))) rfl (by rw [decide_eq_false hc3])) rfl) (ev (.bool (decide (((text.length : Nat) : Int) < 32))) rfl rfl)) ?_
 refine w_mv (ev (.bool (decide (((text.length : Nat) : Int) < 32))) rfl rfl) ?_
 have hc4 : ¬ (((text.length : Nat) : Int) < 32) := by omega
 refine w_val_g (v := .string (str text)) (want_yes (j := 9) rfl rfl (ev (.bool false) (Eq.trans (b := .bool (decide (((text.length : Nat) : Int) < 32))) rfl (by rw [decide_eq_false hc4])) rfl) rfl) (y_mv (ev (.string (str text)) rfl rfl)) ?_
 refine w_val_g (want_yes (j := 9) rfl rfl (ev (.bool false) (Eq.trans (b := .bool (decide (((text.length : Nat) : Int) < 32))) rfl (by rw [decide_eq_false hc4])) rfl) rfl) (y_len (ev (.string (str text)) rfl rfl) Try.underlying9) ?_
 refine w_val_g (want_yes (j := 9) rfl rfl (ev (.bool false) (Eq.trans (b := .bool (decide (((text.length : Nat) : Int) < 32))) rfl (by rw [decide_eq_false hc4])) rfl) rfl) (y_bin (ev (.int .i64 ((text.length : Nat) : Int)) rfl rfl) (evc (.int .i64 272)) b_gtr) ?_
 refine w_val (y_pick_f (ev (.bool false) (Eq.trans (b := .bool (decide (((text.length : Nat) : Int) < 32))) rfl (by rw [decide_eq_false hc4])) rfl) (ev (.bool (decide (272 < ((text.length : Nat) : Int)))) rfl rfl)) ?_
 refine nt ?_
 have hc5 : ¬ (272 < ((text.length : Nat) : Int)) := by omega
 refine c_f (p := 272 < ((text.length : Nat) : Int)) (ev (.bool (decide (272 < ((text.length : Nat) : Int)))) rfl rfl) hc5 ?_
 refine wp_skip ?_
 refine then_n ?_
 refine sr ?_
 refine w_mv (ev (.string (str key)) rfl rfl) ?_
 refine w_call (Try.func56) (by kernel_rfl) rfl (m1 (ev (.string (str key)) rfl rfl)) (refNew_l key w1 hok) ?_
 rintro _ w6 ⟨bx, g, cap, rfl, hbn, hge_bx, hge_g, r_bx, r_g⟩
 refine ⟨_, rfl, ?_⟩
 have ge_bx : w0.heap.size ≤ bx := by have := hk.size; omega
 have ge_g : w0.heap.size ≤ g := by have := hk.size; omega
 replace hk := thenB hk hbn
 refine w_as (ev (pt bx 0) rfl rfl) ?_
 refine nt ?_
 refine sr ?_
 refine w_mv (ev (.string (str text)) rfl rfl) ?_
 refine w_call (Try.func57) (by kernel_rfl) rfl (m1 (ev (.string (str text)) rfl rfl)) (refBlocks_y text (by omega) (by omega) w6) ?_
 rintro _ w7 ⟨lb, capl, rfl, hge_lb, r_lb, hbl⟩
 refine ⟨_, rfl, ?_⟩
 have ne_bx_lb : bx ≠ lb := by have := r_bx.lt; omega
 have ne_g_lb : g ≠ lb := by have := r_g.lt; omega
 have ge_lb : w0.heap.size ≤ lb := by have := hk.size; omega
 replace r_bx := r_bx.step hbl
 replace r_g := r_g.step hbl
 replace hk := thenB hk hbl
 refine w_as (ev (.slice (some ⟨lb, 0, none⟩) (text.length / 16) capl) rfl rfl) ?_
 refine nt ?_
 refine wp_seq ?_
 refine region_dc (Nat.testBit 0) 16 RecDT.mixed rfl ?_
 intro w8 hb9
 replace r_bx := r_bx.step hb9
 replace r_g := r_g.step hb9
 replace r_lb := r_lb.step hb9
 replace hk := thenB hk hb9
 have hS : Cls w8 w8 := Below.refl _ _
 refine d_pure (v := pt bx 0) 0 rfl (by kernel_rfl) (by kernel_rfl) (by kernel_rfl) (by kernel_rfl) (fun _ _ _ h => h) (fun w' => y_mv (ev (pt bx 0) rfl rfl)) ?_
 refine d_pure (v := .slice (some ⟨lb, 0, none⟩) (text.length / 16) capl) 1 rfl (by kernel_rfl) (by kernel_rfl) (by kernel_rfl) (by kernel_rfl) (fun _ _ _ h => h) (fun w' => y_mv (ev (.slice (some ⟨lb, 0, none⟩) (text.length / 16) capl) rfl rfl)) ?_
 refine d_pure (v := .slice (some ⟨lb, 0, none⟩) (text.length / 16) capl) 2 rfl (by kernel_rfl) (by kernel_rfl) (by kernel_rfl) (by kernel_rfl) (fun _ _ _ h => h) (fun w' => y_mv (ev (.slice (some ⟨lb, 0, none⟩) (text.length / 16) capl) rfl rfl)) ?_
 refine d_pure (v := .int .i64 (((text.length / 16) : Nat) : Int)) 3 rfl (by kernel_rfl) (by kernel_rfl) (by kernel_rfl) (by kernel_rfl) (fun _ _ _ h => h) (fun w' => y_len_sl (ev (.slice (some ⟨lb, 0, none⟩) (text.length / 16) capl) rfl rfl) Try.underlying68) ?_
 refine d_pure (v := .int .i64 ((((text.length / 16) : Nat) : Int) - 1)) 4 rfl (by kernel_rfl) (by kernel_rfl) (by kernel_rfl) (by kernel_rfl) (fun _ _ _ h => h) (fun w' => y_bin (ev (.int .i64 (((text.length / 16) : Nat) : Int)) rfl rfl) (evc (.int .i64 1)) (b_sub (by omega))) ?_
 refine d_pure (v := pt lb ((text.length / 16) - 1)) 5 rfl (by kernel_rfl) (by kernel_rfl) (by kernel_rfl) (by kernel_rfl) (fun _ _ _ h => h) (fun w' => y_is1z (i := ((text.length / 16) - 1)) (ev (.slice (some ⟨lb, 0, none⟩) (text.length / 16) capl) rfl rfl) (ev (.int .i64 ((((text.length / 16) : Nat) : Int) - 1)) rfl rfl) Try.underlying68 RecDT.sz9 (by omega) (by omega)) ?_
 refine d_take (v := .string (str (Cb.bk text ((text.length / 16) - 1)))) 6 (Nat.testBit 49344) rfl (by kernel_rfl) (by kernel_rfl) (by kernel_rfl) (by kernel_rfl) (by kernel_rfl) (by kernel_rfl) (fun _ _ _ h => h) hS (fun w' hw' => y_ld (ev (pt lb ((text.length / 16) - 1)) rfl rfl) RecDT.sc9 (cls_cell (r_lb.val (by omega) rfl) r_lb.lt w' hw')) ?_
 refine d_pure (v := .slice (some ⟨lb, 0, none⟩) (text.length / 16) capl) 8 rfl (by kernel_rfl) (by kernel_rfl) (by kernel_rfl) (by kernel_rfl) (fun _ _ _ h => h) (fun w' => y_mv (ev (.slice (some ⟨lb, 0, none⟩) (text.length / 16) capl) rfl rfl)) ?_
 refine d_pure (v := .slice (some ⟨lb, 0, none⟩) (text.length / 16) capl) 9 rfl (by kernel_rfl) (by kernel_rfl) (by kernel_rfl) (by kernel_rfl) (fun _ _ _ h => h) (fun w' => y_mv (ev (.slice (some ⟨lb, 0, none⟩) (text.length / 16) capl) rfl rfl)) ?_
 refine d_pure (v := .int .i64 (((text.length / 16) : Nat) : Int)) 10 rfl (by kernel_rfl) (by kernel_rfl) (by kernel_rfl) (by kernel_rfl) (fun _ _ _ h => h) (fun w' => y_len_sl (ev (.slice (some ⟨lb, 0, none⟩) (text.length / 16) capl) rfl rfl) Try.underlying68) ?_
 refine d_pure (v := .int .i64 ((((text.length / 16) : Nat) : Int) - 2)) 11 rfl (by kernel_rfl) (by kernel_rfl) (by kernel_rfl) (by kernel_rfl) (fun _ _ _ h => h) (fun w' => y_bin (ev (.int .i64 (((text.length / 16) : Nat) : Int)) rfl rfl) (evc (.int .i64 2)) (b_sub (by omega))) ?_
 refine d_pure (v := pt lb ((text.length / 16) - 2)) 12 rfl (by kernel_rfl) (by kernel_rfl) (by kernel_rfl) (by kernel_rfl) (fun _ _ _ h => h) (fun w' => y_is1z (i := ((text.length / 16) - 2)) (ev (.slice (some ⟨lb, 0, none⟩) (text.length / 16) capl) rfl rfl) (ev (.int .i64 ((((text.length / 16) : Nat) : Int) - 2)) rfl rfl) Try.underlying68 RecDT.sz9 (by omega) (by omega)) ?_
 refine d_take (v := .string (str (Cb.bk text ((text.length / 16) - 2)))) 13 (Nat.testBit 57344) rfl (by kernel_rfl) (by kernel_rfl) (by kernel_rfl) (by kernel_rfl) (by kernel_rfl) (by kernel_rfl) (fun _ _ _ h => h) hS (fun w' hw' => y_ld (ev (pt lb ((text.length / 16) - 2)) rfl rfl) RecDT.sc9 (cls_cell (r_lb.val (by omega) rfl) r_lb.lt w' hw')) ?_
 refine d_one 7 (by kernel_rfl) rfl ?_
 refine w_call (Try.func61) (by kernel_rfl) rfl (m2 (ev (pt bx 0) rfl rfl) (ev (.string (str (Cb.bk text ((text.length / 16) - 1)))) rfl rfl)) (refDec_l bx g cap key (Cb.bk text ((text.length / 16) - 1)) w8 hok (Cb.bk_len _ _ (by omega)) r_bx r_g) ?_
 rintro _ w10 ⟨rfl, hb11⟩
 refine ⟨_, rfl, ?_⟩
 replace r_bx := r_bx.step hb11
 replace r_g := r_g.step hb11
 replace r_lb := r_lb.step hb11
 replace hk := thenB hk hb11
 replace hS := thenB hS hb11
 refine wpList_nil ?_
 refine then_n ⟨fun _ h => thenB h (by assumption), ?_⟩
 refine d_one 14 (by kernel_rfl) rfl ?_
 refine w_call (Try.func59) (by kernel_rfl) rfl (m2 (ev (.string (str (Aes.dec (Aes.words key) (Cb.bk text ((text.length / 16) - 1))))) rfl rfl) (ev (.string (str (Cb.bk text ((text.length / 16) - 2)))) rfl rfl)) (refXor_c (Aes.dec (Aes.words key) (Cb.bk text ((text.length / 16) - 1))) (Cb.bk text ((text.length / 16) - 2)) (by (try simp only [Cb.dec_len, List.length_take, List.length_drop]); omega) w10) ?_
 rintro _ w12 ⟨rfl, hb13⟩
 refine ⟨_, rfl, ?_⟩
 replace r_bx := r_bx.step hb13
 replace r_g := r_g.step hb13
 replace r_lb := r_lb.step hb13
 replace hk := thenB hk hb13
 replace hS := thenB hS hb13
 refine wpList_nil ?_
 refine then_n ⟨fun _ h => thenB h (by assumption), ?_⟩
 refine d_pure (v := .string (str (Oct.xor (Aes.dec (Aes.words key) (Cb.bk text ((text.length / 16) - 1))) (Cb.bk text ((text.length / 16) - 2))))) 15 rfl (by kernel_rfl) (by kernel_rfl) (by kernel_rfl) (by kernel_rfl) (fun _ _ _ h => h) (fun w' => y_as (ev (.string (str (Oct.xor (Aes.dec (Aes.words key) (Cb.bk text ((text.length / 16) - 1))) (Cb.bk text ((text.length / 16) - 2))))) rfl rfl)) ?_
 refine d_done (by kernel_rfl) ?_
 clear hS
 refine then_n ?_
 refine sr ?_
 refine w_as (evc (.string (str ([] : List (BitVec 8))))) ?_
 refine nt ?_
 refine wp_seq ?_
 refine sr ?_
 refine w_as (evc (.int .i64 0)) ?_
 refine nt ?_
 refine wp_block ?_
 refine c_loop (fun dN aN wl => ∃ (t : Nat), dN = (text.length / 16 - t) ∧ ∃ f14, aN = fr 121 f14 ∧ (t ≤ text.length / 16) ∧ f14 0 = .string (str key) ∧ f14 1 = .string (str vi) ∧ f14 2 = .string (str text) ∧ f14 6 = .string (str ([] : List (BitVec 8))) ∧ f14 7 = .int .i64 0 ∧ f14 8 = .int .i64 0 ∧ f14 9 = pt bx 0 ∧ f14 10 = .slice (some ⟨lb, 0, none⟩) (text.length / 16) capl ∧ f14 11 = .string (str (Rc.lst key text)) ∧ f14 12 = .string (str ((Cb.unchain key (Rc.lst key text) text).take (16 * t))) ∧ f14 13 = .int .i64 ((t : Nat) : Int) ∧ Row wl bx 99 513 (fun j => if j < 256 then U8 (Aes.sb j) else if j < 512 then U8 (Aes.bk (j - 256)) else .slice (some ⟨g, 0, none⟩) ((Aes.words key).length) cap) ∧ Row wl g 102 ((Aes.words key).length * 4) (fun j => U8 (Aes.byteOf (Aes.gw (Aes.words key) (j / 4)) (j % 4))) ∧ Row wl lb 9 (text.length / 16 * 1) (fun j => .string (str (Cb.bk text j))) ∧ Below w0.heap.size w0 wl) (text.length / 16 - 0) ?_ ?_
 · exact ⟨0, rfl, _, rfl, iv, rfl, rfl, rfl, rfl, rfl, rfl, rfl, rfl, (Eq.trans (b := .string (str (Oct.xor (Aes.dec (Aes.words key) (Cb.bk text ((text.length / 16) - 1))) (Cb.bk text ((text.length / 16) - 2))))) rfl (by rfl)), (Eq.trans (b := .string (str ([] : List (BitVec 8)))) rfl (by rfl)), (etv (b := .int .i64 0) rfl), r_bx, r_g, r_lb, hk⟩
 ·skip
  clear r_bx r_g r_lb hk
  rintro _ _ w15 ⟨t, rfl, f14, rfl, i1_0, s1_0, s1_1, s1_2, s1_6, s1_7, s1_8, s1_9, s1_10, s1_11, s1_12, s1_13, r_bx, r_g, r_lb, hk⟩
  refine wp_seq ?_
  refine sr ?_
  refine w_mv (ev (.int .i64 ((t : Nat) : Int)) s1_13 rfl) ?_
  refine w_mv (ev (.slice (some ⟨lb, 0, none⟩) (text.length / 16) capl) s1_10 rfl) ?_
  refine w_val (v := .int .i64 (((text.length / 16) : Nat) : Int)) (y_len_sl (ev (.slice (some ⟨lb, 0, none⟩) (text.length / 16) capl) rfl rfl) Try.underlying68) ?_
  refine w_val (y_bin (ev (.int .i64 ((t : Nat) : Int)) rfl rfl) (ev (.int .i64 (((text.length / 16) : Nat) : Int)) rfl rfl) b_lss) ?_
  refine nt ?_
  refine c_if (p := ((t : Nat) : Int) < (((text.length / 16) : Nat) : Int)) (ev (.bool (decide (((t : Nat) : Int) < (((text.length / 16) : Nat) : Int)))) rfl rfl) (fun hc16 => ?_) (fun hc16 => ?_)
  ·skip
   refine wp_skip ?_
   refine then_n ?_
   refine wp_seq ?_
   refine wp_block ?_
   refine sr ?_
   refine w_mv (ev (.string (str (Rc.lst key text))) s1_11 rfl) ?_
   refine w_as (ev (.string (str (Rc.lst key text))) rfl rfl) ?_
   refine nt ?_
   refine wp_seq ?_
   refine sr ?_
   refine w_mv (ev (.int .i64 ((t : Nat) : Int)) s1_13 rfl) ?_
   refine w_val (y_bin (ev (.int .i64 ((t : Nat) : Int)) rfl rfl) (evc (.int .i64 0)) b_gtr) ?_
   refine nt ?_
   refine c_if (p := 0 < ((t : Nat) : Int)) (ev (.bool (decide (0 < ((t : Nat) : Int)))) rfl rfl) (fun hc17 => ?_) (fun hc17 => ?_)
   ·skip
    refine wp_region_lit ?_
    refine w_mv (ev (.slice (some ⟨lb, 0, none⟩) (text.length / 16) capl) s1_10 rfl) ?_
    refine w_mv (ev (.int .i64 ((t : Nat) : Int)) s1_13 rfl) ?_
    refine w_val (y_bin (ev (.int .i64 ((t : Nat) : Int)) rfl rfl) (evc (.int .i64 1)) (b_sub (by omega))) ?_
    refine w_val (y_is1z (i := (t - 1)) (ev (.slice (some ⟨lb, 0, none⟩) (text.length / 16) capl) rfl rfl) (ev (.int .i64 (((t : Nat) : Int) - 1)) rfl rfl) Try.underlying68 RecDT.sz9 (by omega) (by omega)) ?_
    refine w_val (v := .string (str (Cb.bk text (t - 1)))) (y_ld (ev (pt lb (t - 1)) rfl rfl) RecDT.sc9 (r_lb.val (by omega) rfl)) ?_
    refine w_as (ev (.string (str (Cb.bk text (t - 1)))) rfl rfl) ?_
    refine nt ?_
    refine wp_region_lit ?_
    refine w_mv (ev (.string (str ((Cb.unchain key (Rc.lst key text) text).take (16 * t)))) s1_12 rfl) ?_
    refine w_mv (ev (pt bx 0) s1_9 rfl) ?_
    refine w_mv (ev (.slice (some ⟨lb, 0, none⟩) (text.length / 16) capl) s1_10 rfl) ?_
    refine w_mv (ev (.int .i64 ((t : Nat) : Int)) s1_13 rfl) ?_
    refine w_val (y_is1z (i := t) (ev (.slice (some ⟨lb, 0, none⟩) (text.length / 16) capl) rfl rfl) (ev (.int .i64 ((t : Nat) : Int)) rfl rfl) Try.underlying68 RecDT.sz9 (by omega) (by omega)) ?_
    refine w_val (v := .string (str (Cb.bk text t))) (y_ld (ev (pt lb t) rfl rfl) RecDT.sc9 (r_lb.val (by omega) rfl)) ?_
    refine w_call (Try.func61) (by kernel_rfl) rfl (m2 (ev (pt bx 0) rfl rfl) (ev (.string (str (Cb.bk text t))) rfl rfl)) (refDec_l bx g cap key (Cb.bk text t) w15 hok (Cb.bk_len _ _ (by omega)) r_bx r_g) ?_
    rintro _ w18 ⟨rfl, hb19⟩
    refine ⟨_, rfl, ?_⟩
    replace r_bx := r_bx.step hb19
    replace r_g := r_g.step hb19
    replace r_lb := r_lb.step hb19
    replace hk := thenB hk hb19
    refine w_mv (ev (.string (str (Cb.bk text (t - 1)))) rfl rfl) ?_
    refine w_call (Try.func59) (by kernel_rfl) rfl (m2 (ev (.string (str (Aes.dec (Aes.words key) (Cb.bk text t)))) rfl rfl) (ev (.string (str (Cb.bk text (t - 1)))) rfl rfl)) (refXor_c (Aes.dec (Aes.words key) (Cb.bk text t)) (Cb.bk text (t - 1)) (by (try simp only [Cb.dec_len, List.length_take, List.length_drop]); omega) w18) ?_
    rintro _ w20 ⟨rfl, hb21⟩
    refine ⟨_, rfl, ?_⟩
    replace r_bx := r_bx.step hb21
    replace r_g := r_g.step hb21
    replace r_lb := r_lb.step hb21
    replace hk := thenB hk hb21
    refine w_val (y_bin (ev (.string (str ((Cb.unchain key (Rc.lst key text) text).take (16 * t)))) rfl rfl) (ev (.string (str (Oct.xor (Aes.dec (Aes.words key) (Cb.bk text t)) (Cb.bk text (t - 1))))) rfl rfl) (b_cat (by simp only [List.length_take, hul2, Oct.length_xor, Cb.dec_len]; omega))) ?_
    refine w_as (ev (.string (str (((Cb.unchain key (Rc.lst key text) text).take (16 * t)) ++ (Oct.xor (Aes.dec (Aes.words key) (Cb.bk text t)) (Cb.bk text (t - 1)))))) rfl rfl) ?_
    refine wpList_nil ?_
    refine inb_n ?_
    refine then_n ?_
    refine wp_region_lit ?_
    refine w_mv (ev (.int .i64 ((t : Nat) : Int)) s1_13 rfl) ?_
    refine w_val (y_bin (ev (.int .i64 ((t : Nat) : Int)) rfl rfl) (evc (.int .i64 1)) (b_add (by omega))) ?_
    refine w_as (ev (.int .i64 (((t : Nat) : Int) + 1)) rfl rfl) ?_
    refine wpList_nil ?_
    exact then_n ⟨_, (by omega), t + 1, rfl, _, rfl, iv, s1_0, s1_1, s1_2, s1_6, s1_7, s1_8, s1_9, s1_10, s1_11, (Eq.trans (b := .string (str (((Cb.unchain key (Rc.lst key text) text).take (16 * t)) ++ (Oct.xor (Aes.dec (Aes.words key) (Cb.bk text t)) (Cb.bk text (t - 1)))))) rfl (by first | exact congrArg (fun l => Value.string (str l)) (Rc.next_in key text t hm h32 (by omega) (by omega)) | exact congrArg (fun l => Value.string (str l)) (Rc.next_0 key text t hm h32 (by omega) (by omega)))), (etv (b := .int .i64 (((t : Nat) : Int) + 1)) rfl), r_bx, r_g, r_lb, hk⟩
   ·skip
    refine wp_skip ?_
    refine then_n ?_
    refine wp_region_lit ?_
    refine w_mv (ev (.string (str ((Cb.unchain key (Rc.lst key text) text).take (16 * t)))) s1_12 rfl) ?_
    refine w_mv (ev (pt bx 0) s1_9 rfl) ?_
    refine w_mv (ev (.slice (some ⟨lb, 0, none⟩) (text.length / 16) capl) s1_10 rfl) ?_
    refine w_mv (ev (.int .i64 ((t : Nat) : Int)) s1_13 rfl) ?_
    refine w_val (y_is1z (i := t) (ev (.slice (some ⟨lb, 0, none⟩) (text.length / 16) capl) rfl rfl) (ev (.int .i64 ((t : Nat) : Int)) rfl rfl) Try.underlying68 RecDT.sz9 (by omega) (by omega)) ?_
    refine w_val (v := .string (str (Cb.bk text t))) (y_ld (ev (pt lb t) rfl rfl) RecDT.sc9 (r_lb.val (by omega) rfl)) ?_
    refine w_call (Try.func61) (by kernel_rfl) rfl (m2 (ev (pt bx 0) rfl rfl) (ev (.string (str (Cb.bk text t))) rfl rfl)) (refDec_l bx g cap key (Cb.bk text t) w15 hok (Cb.bk_len _ _ (by omega)) r_bx r_g) ?_
    rintro _ w22 ⟨rfl, hb23⟩
    refine ⟨_, rfl, ?_⟩
    replace r_bx := r_bx.step hb23
    replace r_g := r_g.step hb23
    replace r_lb := r_lb.step hb23
    replace hk := thenB hk hb23
    refine w_mv (ev (.string (str (Rc.lst key text))) rfl rfl) ?_
    refine w_call (Try.func59) (by kernel_rfl) rfl (m2 (ev (.string (str (Aes.dec (Aes.words key) (Cb.bk text t)))) rfl rfl) (ev (.string (str (Rc.lst key text))) rfl rfl)) (refXor_c (Aes.dec (Aes.words key) (Cb.bk text t)) (Rc.lst key text) (by (try simp only [Cb.dec_len, List.length_take, List.length_drop]); omega) w22) ?_
    rintro _ w24 ⟨rfl, hb25⟩
    refine ⟨_, rfl, ?_⟩
    replace r_bx := r_bx.step hb25
    replace r_g := r_g.step hb25
    replace r_lb := r_lb.step hb25
    replace hk := thenB hk hb25
    refine w_val (y_bin (ev (.string (str ((Cb.unchain key (Rc.lst key text) text).take (16 * t)))) rfl rfl) (ev (.string (str (Oct.xor (Aes.dec (Aes.words key) (Cb.bk text t)) (Rc.lst key text)))) rfl rfl) (b_cat (by simp only [List.length_take, hul2, Oct.length_xor, Cb.dec_len]; omega))) ?_
    refine w_as (ev (.string (str (((Cb.unchain key (Rc.lst key text) text).take (16 * t)) ++ (Oct.xor (Aes.dec (Aes.words key) (Cb.bk text t)) (Rc.lst key text))))) rfl rfl) ?_
    refine wpList_nil ?_
    refine inb_n ?_
    refine then_n ?_
    refine wp_region_lit ?_
    refine w_mv (ev (.int .i64 ((t : Nat) : Int)) s1_13 rfl) ?_
    refine w_val (y_bin (ev (.int .i64 ((t : Nat) : Int)) rfl rfl) (evc (.int .i64 1)) (b_add (by omega))) ?_
    refine w_as (ev (.int .i64 (((t : Nat) : Int) + 1)) rfl rfl) ?_
    refine wpList_nil ?_
    exact then_n ⟨_, (by omega), t + 1, rfl, _, rfl, iv, s1_0, s1_1, s1_2, s1_6, s1_7, s1_8, s1_9, s1_10, s1_11, (Eq.trans (b := .string (str (((Cb.unchain key (Rc.lst key text) text).take (16 * t)) ++ (Oct.xor (Aes.dec (Aes.words key) (Cb.bk text t)) (Rc.lst key text))))) rfl (by first | exact congrArg (fun l => Value.string (str l)) (Rc.next_in key text t hm h32 (by omega) (by omega)) | exact congrArg (fun l => Value.string (str l)) (Rc.next_0 key text t hm h32 (by omega) (by omega)))), (etv (b := .int .i64 (((t : Nat) : Int) + 1)) rfl), r_bx, r_g, r_lb, hk⟩
  ·skip
   refine wp_exit ?_
   refine then_x ?_
   refine then_x ?_
   refine inb_x ?_
   refine then_n ?_
   refine sr ?_
   refine w_mv (ev (.string (str key)) s1_0 rfl) ?_
   refine w_mv (ev (.string (str vi)) s1_1 rfl) ?_
   refine w_mv (ev (.string (str (Cb.unchain key (Rc.lst key text) text))) (by refine Eq.trans (b := .string (str ((Cb.unchain key (Rc.lst key text) text).take (16 * t)))) ?_ ?_; exact s1_12; (exact congrArg (fun l => Value.string (str l)) (List.take_of_length_le (by rw [hul2]; omega)))) rfl) ?_
   refine w_call (Try.func27) (by kernel_rfl) rfl (m3 (ev (.string (str key)) rfl rfl) (ev (.string (str vi)) rfl rfl) (ev (.string (str (Cb.unchain key (Rc.lst key text) text))) rfl rfl)) (refUnchain_y key vi hok hiv (Cb.unchain key (Rc.lst key text) text) (by rw [hul2]; exact hm) (by rw [hul2]; omega) w15) ?_
   rintro _ w26 ⟨rfl, hb27⟩
   refine ⟨_, rfl, ?_⟩
   replace r_bx := r_bx.step hb27
   replace r_g := r_g.step hb27
   replace r_lb := r_lb.step hb27
   replace hk := thenB hk hb27
   refine w_mv (ev (.tuple #[.string (str (Cb.unchain key vi (Cb.unchain key (Rc.lst key text) text))), .int .i64 0]) rfl rfl) ?_
   refine w_val (y_ext (v := .string (str (Cb.unchain key vi (Cb.unchain key (Rc.lst key text) text)))) (ev (.tuple #[.string (str (Cb.unchain key vi (Cb.unchain key (Rc.lst key text) text))), .int .i64 0]) rfl rfl) rfl) ?_
   refine w_val (y_ext (v := .int .i64 0) (ev (.tuple #[.string (str (Cb.unchain key vi (Cb.unchain key (Rc.lst key text) text))), .int .i64 0]) rfl rfl) rfl) ?_
   refine w_as (ev (.string (str (Cb.unchain key vi (Cb.unchain key (Rc.lst key text) text)))) rfl rfl) ?_
   refine w_as (ev (.int .i64 0) rfl rfl) ?_
   refine nt ?_
   refine sr ?_
   refine w_mv (ev (.string (str (Rc.opn key vi text))) (Eq.trans (b := .string (str (Cb.unchain key vi (Cb.unchain key (Rc.lst key text) text)))) rfl (by rfl)) rfl) ?_
   refine w_val (v := U8 (gb (Rc.opn key vi text) 0)) (y_idx (ev (.string (str (Rc.opn key vi text))) rfl rfl) (evc (.int .i64 0)) Try.underlying9 (by omega) (by omega)) ?_
   refine w_val (v := .int .i64 (((gb (Rc.opn key vi text) 0).toNat : Nat) : Int)) (y_u8_i64 (ev (U8 (gb (Rc.opn key vi text) 0)) rfl rfl) RecDT.so5 Try.underlying3 (by have := (gb (Rc.opn key vi text) 0).isLt; omega)) ?_
   refine w_as (ev (.int .i64 (((gb (Rc.opn key vi text) 0).toNat : Nat) : Int)) rfl rfl) ?_
   refine nt ?_
   refine sr ?_
   refine w_mv (ev (.int .i64 (((Rc.kn (Rc.opn key vi text)) : Nat) : Int)) (Eq.trans (b := .int .i64 (((gb (Rc.opn key vi text) 0).toNat : Nat) : Int)) rfl (by rfl)) rfl) ?_
   refine w_call (Try.func35) (by kernel_rfl) rfl (m1 (ev (.int .i64 (((Rc.kn (Rc.opn key vi text)) : Nat) : Int)) rfl rfl)) (refFill_s (((Rc.kn (Rc.opn key vi text)) : Nat) : Int) (by omega) w26) ?_
   rintro _ w28 ⟨rfl, hb29⟩
   refine ⟨_, rfl, ?_⟩
   replace r_bx := r_bx.step hb29
   replace r_g := r_g.step hb29
   replace r_lb := r_lb.step hb29
   replace hk := thenB hk hb29
   refine w_mv (ev (.tuple #[.int .i64 0, .int .i64 6]) rfl rfl) ?_
   refine w_val (y_ext (v := .int .i64 0) (ev (.tuple #[.int .i64 0, .int .i64 6]) rfl rfl) rfl) ?_
   refine w_val (y_ext (v := .int .i64 6) (ev (.tuple #[.int .i64 0, .int .i64 6]) rfl rfl) rfl) ?_
   refine w_as (ev (.int .i64 0) rfl rfl) ?_
   refine w_as (ev (.int .i64 6) rfl rfl) ?_
   refine nt ?_
   refine ss ?_
   refine region_q RecDT.mixed (by kernel_rfl) ?_
   refine q_mv (ev (.int .i64 6) rfl rfl) ?_
   refine q_val (fun w' hw' => y_bin (ev (.int .i64 6) rfl rfl) (evc (.int .i64 0)) b_neq) ?_
   refine q_mv (ev (.bool true) rfl rfl) ?_
   first | with_reducible refine q_skip ?_ ?_ | refine q_skip ?_ ?_
   · exact want_no (j := 2) rfl rfl (ev (.bool true) rfl rfl) rfl
   first | with_reducible refine q_skip ?_ ?_ | refine q_skip ?_ ?_
   · exact want_no (j := 2) rfl rfl (ev (.bool true) rfl rfl) rfl
   first | with_reducible refine q_skip ?_ ?_ | refine q_skip ?_ ?_
   · exact want_no (j := 2) rfl rfl (ev (.bool true) rfl rfl) rfl
   first | with_reducible refine q_skip ?_ ?_ | refine q_skip ?_ ?_
   · exact want_no (j := 2) rfl rfl (ev (.bool true) rfl rfl) rfl
   first | with_reducible refine q_skip ?_ ?_ | refine q_skip ?_ ?_
   · exact want_no (j := 2) rfl rfl (ev (.bool true) rfl rfl) rfl
   first | with_reducible refine q_skip ?_ ?_ | refine q_skip ?_ ?_
   · exact want_no (j := 2) rfl rfl (ev (.bool true) rfl rfl) rfl
   first | with_reducible refine q_skip ?_ ?_ | refine q_skip ?_ ?_
   · exact want_no (j := 2) rfl rfl (ev (.bool true) rfl rfl) rfl
   refine q_val (fun w' hw' => y_pick_t (ev (.bool true) rfl rfl) (evc (.bool true))) ?_
   refine q_mv (ev (.bool true) rfl rfl) ?_
   first | with_reducible refine q_skip ?_ ?_ | refine q_skip ?_ ?_
   · exact want_no (j := 11) rfl rfl (ev (.bool true) rfl rfl) rfl
   first | with_reducible refine q_skip ?_ ?_ | refine q_skip ?_ ?_
   · exact want_no (j := 11) rfl rfl (ev (.bool true) rfl rfl) rfl
   first | with_reducible refine q_skip ?_ ?_ | refine q_skip ?_ ?_
   · exact want_no (j := 11) rfl rfl (ev (.bool true) rfl rfl) rfl
   first | with_reducible refine q_skip ?_ ?_ | refine q_skip ?_ ?_
   · exact want_no (j := 11) rfl rfl (ev (.bool true) rfl rfl) rfl
   first | with_reducible refine q_skip ?_ ?_ | refine q_skip ?_ ?_
   · exact want_no (j := 11) rfl rfl (ev (.bool true) rfl rfl) rfl
   first | with_reducible refine q_skip ?_ ?_ | refine q_skip ?_ ?_
   · exact want_no (j := 11) rfl rfl (ev (.bool true) rfl rfl) rfl
   refine q_val (fun w' hw' => y_pick_t (ev (.bool true) rfl rfl) (evc (.bool true))) ?_
   refine q_nil ?_
   intro w30 hb31
   replace r_bx := r_bx.step hb31
   replace r_g := r_g.step hb31
   replace r_lb := r_lb.step hb31
   replace hk := thenB hk hb31
   refine then_n ?_
   refine c_tt (ev (.bool true) rfl rfl) ?_
   refine sr ?_
   refine w_as (evc (.string (str ([] : List (BitVec 8))))) ?_
   refine w_as (evc (.int .i64 8)) ?_
   refine nt ?_
   refine wp_ret ?_
   refine then_r ?_
   refine fin_ret2 rfl (ev (.string (str ([] : List (BitVec 8)))) rfl rfl) (ev (.int .i64 8) rfl rfl) ?_
   exact ⟨rfl, hk⟩

set_option maxRecDepth 100000 in
set_option maxHeartbeats 1000000 in
theorem refUnlock_2 (key vi : List (BitVec 8)) (hok : Aes.okKey key.length) (hiv : vi.length = 16) (text : List (BitVec 8)) (n : Nat) (hn : text.length = n + 16) (hm : text.length % 16 = 0) (h32 : 32 ≤ text.length) (h272 : text.length ≤ 272) (h3 : 3 ≤ Rc.kn (Rc.opn key vi text)) (h255 : Rc.kn (Rc.opn key vi text) ≤ 255) (he : 4 + Rc.kn (Rc.opn key vi text) + Rc.fl (Rc.kn (Rc.opn key vi text)) ≠ text.length) (w0 : World) : Calls Try.prog 40 #[.string (str key), .string (str vi), .string (str text)] w0 fun e w' => e = .returned (.tuple #[.string (str ([] : List (BitVec 8))), .int .i64 8]) ∧ Below w0.heap.size w0 w' := by
 have hll := Rc.lst_len key text h32
 have hol := Rc.opn_len key vi text
 have hul := Cb.unchain_len key (Rc.lst key text) (text.take n)
 have hul2 := Cb.unchain_len key (Rc.lst key text) text
 have hnl : (text.take n).length = n := by rw [List.length_take]; omega
 have hflb := Rc.fl_le (Rc.kn (Rc.opn key vi text))
 have habl := Rc.AB_len (Rc.opn key vi text) (by omega)
 refine enter (n := 121) Try.func40 rfl rfl rfl ?_
 have hk : Below w0.heap.size w0 w0 := Below.refl _ _
 refine sr ?_
 refine w_as (evc (.string (str ([] : List (BitVec 8))))) ?_
 refine w_as (evc (.int .i64 0)) ?_
 refine nt ?_
 refine wp_seq ?_
 refine sr ?_
 refine w_mv (ev (.string (str key)) rfl rfl) ?_
 refine w_mv (ev (.string (str vi)) rfl rfl) ?_
 refine w_call (Try.func66) (by kernel_rfl) rfl (m2 (ev (.string (str key)) rfl rfl) (ev (.string (str vi)) rfl rfl)) (rcRefWrong_y key vi hok hiv w0) ?_
 rintro _ w1 ⟨rfl, hb2⟩
 refine ⟨_, rfl, ?_⟩
 replace hk := thenB hk hb2
 refine w_as (ev (.int .i64 0) rfl rfl) ?_
 refine nt ?_
 refine sr ?_
 refine w_mv (ev (.int .i64 0) rfl rfl) ?_
 refine w_val (y_bin (ev (.int .i64 0) rfl rfl) (evc (.int .i64 0)) b_neq) ?_
 refine nt ?_
 refine c_ff (ev (.bool false) rfl rfl) ?_
 refine wp_skip ?_
 refine then_n ?_
 refine wp_seq ?_
 refine sr ?_
 refine w_mv (ev (.string (str text)) rfl rfl) ?_
 refine w_val (y_len (ev (.string (str text)) rfl rfl) Try.underlying9) ?_
 refine w_val (y_bin (ev (.int .i64 ((text.length : Nat) : Int)) rfl rfl) (evc (.int .i64 16)) (b_rem (by omega))) ?_
 refine w_val (y_bin (ev (.int .i64 (((text.length : Nat) : Int) % 16)) rfl rfl) (evc (.int .i64 0)) b_neq) ?_
 refine w_mv (ev (.bool (decide ((((text.length : Nat) : Int) % 16) ≠ 0))) rfl rfl) ?_
 have hc3 : ¬ ((((text.length : Nat) : Int) % 16) ≠ 0) := by omega
 refine w_val_g (v := .string (str text)) (want_yes (j := 4) rfl rfl (ev (.bool false) (Eq.trans (b := .bool (decide ((((text.length : Nat) : Int) % 16) ≠ 0))) rfl (by rw [decide_eq_false hc3])) rfl) rfl) (y_mv (ev (.string (str text)) rfl rfl)) ?_
 refine w_val_g (want_yes (j := 4) rfl rfl (ev (.bool false) (Eq.trans (b := .bool (decide ((((text.length : Nat) : Int) % 16) ≠ 0))) rfl (by rw [decide_eq_false hc3])) rfl) rfl) (y_len (ev (.string (str text)) rfl rfl) Try.underlying9) ?_
 refine w_val_g (want_yes (j := 4) rfl rfl (ev (.bool false) (Eq.trans (b := .bool (decide ((((text.length : Nat) : Int) % 16) ≠ 0))) rfl (by rw [decide_eq_false hc3])) rfl) rfl) (y_bin (ev (.int .i64 ((text.length : Nat) : Int)) rfl rfl) (evc (.int .i64 32)) b_lss) ?_
 refine w_val (y_pick_f (ev (.bool false) (Eq.trans (b := .bool (decide ((((text.length : Nat) : Int) % 16) ≠ 0))) rfl (by rw [decide_eq_false hc3])) rfl) (ev (.bool (decide (((text.length : Nat) : Int) < 32))) rfl rfl)) ?_
 refine w_mv (ev (.bool (decide (((text.length : Nat) : Int) < 32))) rfl rfl) ?_
 have hc4 : ¬ (((text.length : Nat) : Int) < 32) := by omega
 refine w_val_g (v := .string (str text)) (want_yes (j := 9) rfl rfl (ev (.bool false) (Eq.trans (b := .bool (decide (((text.length : Nat) : Int) < 32))) rfl (by rw [decide_eq_false hc4])) rfl) rfl) (y_mv (ev (.string (str text)) rfl rfl)) ?_
 refine w_val_g (want_yes (j := 9) rfl rfl (ev (.bool false) (Eq.trans (b := .bool (decide (((text.length : Nat) : Int) < 32))) rfl (by rw [decide_eq_false hc4])) rfl) rfl) (y_len (ev (.string (str text)) rfl rfl) Try.underlying9) ?_
 refine w_val_g (want_yes (j := 9) rfl rfl (ev (.bool false) (Eq.trans (b := .bool (decide (((text.length : Nat) : Int) < 32))) rfl (by rw [decide_eq_false hc4])) rfl) rfl) (y_bin (ev (.int .i64 ((text.length : Nat) : Int)) rfl rfl) (evc (.int .i64 272)) b_gtr) ?_
 refine w_val (y_pick_f (ev (.bool false) (Eq.trans (b := .bool (decide (((text.length : Nat) : Int) < 32))) rfl (by rw [decide_eq_false hc4])) rfl) (ev (.bool (decide (272 < ((text.length : Nat) : Int)))) rfl rfl)) ?_
 refine nt ?_
 have hc5 : ¬ (272 < ((text.length : Nat) : Int)) := by omega
 refine c_f (p := 272 < ((text.length : Nat) : Int)) (ev (.bool (decide (272 < ((text.length : Nat) : Int)))) rfl rfl) hc5 ?_
 refine wp_skip ?_
 refine then_n ?_
 refine sr ?_
 refine w_mv (ev (.string (str key)) rfl rfl) ?_
 refine w_call (Try.func56) (by kernel_rfl) rfl (m1 (ev (.string (str key)) rfl rfl)) (refNew_l key w1 hok) ?_
 rintro _ w6 ⟨bx, g, cap, rfl, hbn, hge_bx, hge_g, r_bx, r_g⟩
 refine ⟨_, rfl, ?_⟩
 have ge_bx : w0.heap.size ≤ bx := by have := hk.size; omega
 have ge_g : w0.heap.size ≤ g := by have := hk.size; omega
 replace hk := thenB hk hbn
 refine w_as (ev (pt bx 0) rfl rfl) ?_
 refine nt ?_
 refine sr ?_
 refine w_mv (ev (.string (str text)) rfl rfl) ?_
 refine w_call (Try.func57) (by kernel_rfl) rfl (m1 (ev (.string (str text)) rfl rfl)) (refBlocks_y text (by omega) (by omega) w6) ?_
 rintro _ w7 ⟨lb, capl, rfl, hge_lb, r_lb, hbl⟩
 refine ⟨_, rfl, ?_⟩
 have ne_bx_lb : bx ≠ lb := by have := r_bx.lt; omega
 have ne_g_lb : g ≠ lb := by have := r_g.lt; omega
 have ge_lb : w0.heap.size ≤ lb := by have := hk.size; omega
 replace r_bx := r_bx.step hbl
 replace r_g := r_g.step hbl
 replace hk := thenB hk hbl
 refine w_as (ev (.slice (some ⟨lb, 0, none⟩) (text.length / 16) capl) rfl rfl) ?_
 refine nt ?_
 refine wp_seq ?_
 refine region_dc (Nat.testBit 0) 16 RecDT.mixed rfl ?_
 intro w8 hb9
 replace r_bx := r_bx.step hb9
 replace r_g := r_g.step hb9
 replace r_lb := r_lb.step hb9
 replace hk := thenB hk hb9
 have hS : Cls w8 w8 := Below.refl _ _
 refine d_pure (v := pt bx 0) 0 rfl (by kernel_rfl) (by kernel_rfl) (by kernel_rfl) (by kernel_rfl) (fun _ _ _ h => h) (fun w' => y_mv (ev (pt bx 0) rfl rfl)) ?_
 refine d_pure (v := .slice (some ⟨lb, 0, none⟩) (text.length / 16) capl) 1 rfl (by kernel_rfl) (by kernel_rfl) (by kernel_rfl) (by kernel_rfl) (fun _ _ _ h => h) (fun w' => y_mv (ev (.slice (some ⟨lb, 0, none⟩) (text.length / 16) capl) rfl rfl)) ?_
 refine d_pure (v := .slice (some ⟨lb, 0, none⟩) (text.length / 16) capl) 2 rfl (by kernel_rfl) (by kernel_rfl) (by kernel_rfl) (by kernel_rfl) (fun _ _ _ h => h) (fun w' => y_mv (ev (.slice (some ⟨lb, 0, none⟩) (text.length / 16) capl) rfl rfl)) ?_
 refine d_pure (v := .int .i64 (((text.length / 16) : Nat) : Int)) 3 rfl (by kernel_rfl) (by kernel_rfl) (by kernel_rfl) (by kernel_rfl) (fun _ _ _ h => h) (fun w' => y_len_sl (ev (.slice (some ⟨lb, 0, none⟩) (text.length / 16) capl) rfl rfl) Try.underlying68) ?_
 refine d_pure (v := .int .i64 ((((text.length / 16) : Nat) : Int) - 1)) 4 rfl (by kernel_rfl) (by kernel_rfl) (by kernel_rfl) (by kernel_rfl) (fun _ _ _ h => h) (fun w' => y_bin (ev (.int .i64 (((text.length / 16) : Nat) : Int)) rfl rfl) (evc (.int .i64 1)) (b_sub (by omega))) ?_
 refine d_pure (v := pt lb ((text.length / 16) - 1)) 5 rfl (by kernel_rfl) (by kernel_rfl) (by kernel_rfl) (by kernel_rfl) (fun _ _ _ h => h) (fun w' => y_is1z (i := ((text.length / 16) - 1)) (ev (.slice (some ⟨lb, 0, none⟩) (text.length / 16) capl) rfl rfl) (ev (.int .i64 ((((text.length / 16) : Nat) : Int) - 1)) rfl rfl) Try.underlying68 RecDT.sz9 (by omega) (by omega)) ?_
 refine d_take (v := .string (str (Cb.bk text ((text.length / 16) - 1)))) 6 (Nat.testBit 49344) rfl (by kernel_rfl) (by kernel_rfl) (by kernel_rfl) (by kernel_rfl) (by kernel_rfl) (by kernel_rfl) (fun _ _ _ h => h) hS (fun w' hw' => y_ld (ev (pt lb ((text.length / 16) - 1)) rfl rfl) RecDT.sc9 (cls_cell (r_lb.val (by omega) rfl) r_lb.lt w' hw')) ?_
 refine d_pure (v := .slice (some ⟨lb, 0, none⟩) (text.length / 16) capl) 8 rfl (by kernel_rfl) (by kernel_rfl) (by kernel_rfl) (by kernel_rfl) (fun _ _ _ h => h) (fun w' => y_mv (ev (.slice (some ⟨lb, 0, none⟩) (text.length / 16) capl) rfl rfl)) ?_
 refine d_pure (v := .slice (some ⟨lb, 0, none⟩) (text.length / 16) capl) 9 rfl (by kernel_rfl) (by kernel_rfl) (by kernel_rfl) (by kernel_rfl) (fun _ _ _ h => h) (fun w' => y_mv (ev (.slice (some ⟨lb, 0, none⟩) (text.length / 16) capl) rfl rfl)) ?_
 refine d_pure (v := .int .i64 (((text.length / 16) : Nat) : Int)) 10 rfl (by kernel_rfl) (by kernel_rfl) (by kernel_rfl) (by kernel_rfl) (fun _ _ _ h => h) (fun w' => y_len_sl (ev (.slice (some ⟨lb, 0, none⟩) (text.length / 16) capl) rfl rfl) Try.underlying68) ?_
 refine d_pure (v := .int .i64 ((((text.length / 16) : Nat) : Int) - 2)) 11 rfl (by kernel_rfl) (by kernel_rfl) (by kernel_rfl) (by kernel_rfl) (fun _ _ _ h => h) (fun w' => y_bin (ev (.int .i64 (((text.length / 16) : Nat) : Int)) rfl rfl) (evc (.int .i64 2)) (b_sub (by omega))) ?_
 refine d_pure (v := pt lb ((text.length / 16) - 2)) 12 rfl (by kernel_rfl) (by kernel_rfl) (by kernel_rfl) (by kernel_rfl) (fun _ _ _ h => h) (fun w' => y_is1z (i := ((text.length / 16) - 2)) (ev (.slice (some ⟨lb, 0, none⟩) (text.length / 16) capl) rfl rfl) (ev (.int .i64 ((((text.length / 16) : Nat) : Int) - 2)) rfl rfl) Try.underlying68 RecDT.sz9 (by omega) (by omega)) ?_
 refine d_take (v := .string (str (Cb.bk text ((text.length / 16) - 2)))) 13 (Nat.testBit 57344) rfl (by kernel_rfl) (by kernel_rfl) (by kernel_rfl) (by kernel_rfl) (by kernel_rfl) (by kernel_rfl) (fun _ _ _ h => h) hS (fun w' hw' => y_ld (ev (pt lb ((text.length / 16) - 2)) rfl rfl) RecDT.sc9 (cls_cell (r_lb.val (by omega) rfl) r_lb.lt w' hw')) ?_
 refine d_one 7 (by kernel_rfl) rfl ?_
 refine w_call (Try.func61) (by kernel_rfl) rfl (m2 (ev (pt bx 0) rfl rfl) (ev (.string (str (Cb.bk text ((text.length / 16) - 1)))) rfl rfl)) (refDec_l bx g cap key (Cb.bk text ((text.length / 16) - 1)) w8 hok (Cb.bk_len _ _ (by omega)) r_bx r_g) ?_
 rintro _ w10 ⟨rfl, hb11⟩
 refine ⟨_, rfl, ?_⟩
 replace r_bx := r_bx.step hb11
 replace r_g := r_g.step hb11
 replace r_lb := r_lb.step hb11
 replace hk := thenB hk hb11
 replace hS := thenB hS hb11
 refine wpList_nil ?_
 refine then_n ⟨fun _ h => thenB h (by assumption), ?_⟩
 refine d_one 14 (by kernel_rfl) rfl ?_
 refine w_call (Try.func59) (by kernel_rfl) rfl (m2 (ev (.string (str (Aes.dec (Aes.words key) (Cb.bk text ((text.length / 16) - 1))))) rfl rfl) (ev (.string (str (Cb.bk text ((text.length / 16) - 2)))) rfl rfl)) (refXor_c (Aes.dec (Aes.words key) (Cb.bk text ((text.length / 16) - 1))) (Cb.bk text ((text.length / 16) - 2)) (by (try simp only [Cb.dec_len, List.length_take, List.length_drop]); omega) w10) ?_
 rintro _ w12 ⟨rfl, hb13⟩
 refine ⟨_, rfl, ?_⟩
 replace r_bx := r_bx.step hb13
 replace r_g := r_g.step hb13
 replace r_lb := r_lb.step hb13
 replace hk := thenB hk hb13
 replace hS := thenB hS hb13
 refine wpList_nil ?_
 refine then_n ⟨fun _ h => thenB h (by assumption), ?_⟩
 refine d_pure (v := .string (str (Oct.xor (Aes.dec (Aes.words key) (Cb.bk text ((text.length / 16) - 1))) (Cb.bk text ((text.length / 16) - 2))))) 15 rfl (by kernel_rfl) (by kernel_rfl) (by kernel_rfl) (by kernel_rfl) (fun _ _ _ h => h) (fun w' => y_as (ev (.string (str (Oct.xor (Aes.dec (Aes.words key) (Cb.bk text ((text.length / 16) - 1))) (Cb.bk text ((text.length / 16) - 2))))) rfl rfl)) ?_
 refine d_done (by kernel_rfl) ?_
 clear hS
 refine then_n ?_
 refine sr ?_
 refine w_as (evc (.string (str ([] : List (BitVec 8))))) ?_
 refine nt ?_
 refine wp_seq ?_
 refine sr ?_
 refine w_as (evc (.int .i64 0)) ?_
 refine nt ?_
 refine wp_block ?_
 refine c_loop (fun dN aN wl => ∃ (t : Nat), dN = (text.length / 16 - t) ∧ ∃ f14, aN = fr 121 f14 ∧ (t ≤ text.length / 16) ∧ f14 0 = .string (str key) ∧ f14 1 = .string (str vi) ∧ f14 2 = .string (str text) ∧ f14 6 = .string (str ([] : List (BitVec 8))) ∧ f14 7 = .int .i64 0 ∧ f14 8 = .int .i64 0 ∧ f14 9 = pt bx 0 ∧ f14 10 = .slice (some ⟨lb, 0, none⟩) (text.length / 16) capl ∧ f14 11 = .string (str (Rc.lst key text)) ∧ f14 12 = .string (str ((Cb.unchain key (Rc.lst key text) text).take (16 * t))) ∧ f14 13 = .int .i64 ((t : Nat) : Int) ∧ Row wl bx 99 513 (fun j => if j < 256 then U8 (Aes.sb j) else if j < 512 then U8 (Aes.bk (j - 256)) else .slice (some ⟨g, 0, none⟩) ((Aes.words key).length) cap) ∧ Row wl g 102 ((Aes.words key).length * 4) (fun j => U8 (Aes.byteOf (Aes.gw (Aes.words key) (j / 4)) (j % 4))) ∧ Row wl lb 9 (text.length / 16 * 1) (fun j => .string (str (Cb.bk text j))) ∧ Below w0.heap.size w0 wl) (text.length / 16 - 0) ?_ ?_
 · exact ⟨0, rfl, _, rfl, iv, rfl, rfl, rfl, rfl, rfl, rfl, rfl, rfl, (Eq.trans (b := .string (str (Oct.xor (Aes.dec (Aes.words key) (Cb.bk text ((text.length / 16) - 1))) (Cb.bk text ((text.length / 16) - 2))))) rfl (by rfl)), (Eq.trans (b := .string (str ([] : List (BitVec 8)))) rfl (by rfl)), (etv (b := .int .i64 0) rfl), r_bx, r_g, r_lb, hk⟩
 ·skip
  clear r_bx r_g r_lb hk
  rintro _ _ w15 ⟨t, rfl, f14, rfl, i1_0, s1_0, s1_1, s1_2, s1_6, s1_7, s1_8, s1_9, s1_10, s1_11, s1_12, s1_13, r_bx, r_g, r_lb, hk⟩
  refine wp_seq ?_
  refine sr ?_
  refine w_mv (ev (.int .i64 ((t : Nat) : Int)) s1_13 rfl) ?_
  refine w_mv (ev (.slice (some ⟨lb, 0, none⟩) (text.length / 16) capl) s1_10 rfl) ?_
  refine w_val (v := .int .i64 (((text.length / 16) : Nat) : Int)) (y_len_sl (ev (.slice (some ⟨lb, 0, none⟩) (text.length / 16) capl) rfl rfl) Try.underlying68) ?_
  refine w_val (y_bin (ev (.int .i64 ((t : Nat) : Int)) rfl rfl) (ev (.int .i64 (((text.length / 16) : Nat) : Int)) rfl rfl) b_lss) ?_
  refine nt ?_
  refine c_if (p := ((t : Nat) : Int) < (((text.length / 16) : Nat) : Int)) (ev (.bool (decide (((t : Nat) : Int) < (((text.length / 16) : Nat) : Int)))) rfl rfl) (fun hc16 => ?_) (fun hc16 => ?_)
  ·skip
   refine wp_skip ?_
   refine then_n ?_
   refine wp_seq ?_
   refine wp_block ?_
   refine sr ?_
   refine w_mv (ev (.string (str (Rc.lst key text))) s1_11 rfl) ?_
   refine w_as (ev (.string (str (Rc.lst key text))) rfl rfl) ?_
   refine nt ?_
   refine wp_seq ?_
   refine sr ?_
   refine w_mv (ev (.int .i64 ((t : Nat) : Int)) s1_13 rfl) ?_
   refine w_val (y_bin (ev (.int .i64 ((t : Nat) : Int)) rfl rfl) (evc (.int .i64 0)) b_gtr) ?_
   refine nt ?_
   refine c_if (p := 0 < ((t : Nat) : Int)) (ev (.bool (decide (0 < ((t : Nat) : Int)))) rfl rfl) (fun hc17 => ?_) (fun hc17 => ?_)
   ·skip
    refine wp_region_lit ?_
    refine w_mv (ev (.slice (some ⟨lb, 0, none⟩) (text.length / 16) capl) s1_10 rfl) ?_
    refine w_mv (ev (.int .i64 ((t : Nat) : Int)) s1_13 rfl) ?_
    refine w_val (y_bin (ev (.int .i64 ((t : Nat) : Int)) rfl rfl) (evc (.int .i64 1)) (b_sub (by omega))) ?_
    refine w_val (y_is1z (i := (t - 1)) (ev (.slice (some ⟨lb, 0, none⟩) (text.length / 16) capl) rfl rfl) (ev (.int .i64 (((t : Nat) : Int) - 1)) rfl rfl) Try.underlying68 RecDT.sz9 (by omega) (by omega)) ?_
    refine w_val (v := .string (str (Cb.bk text (t - 1)))) (y_ld (ev (pt lb (t - 1)) rfl rfl) RecDT.sc9 (r_lb.val (by omega) rfl)) ?_
    refine w_as (ev (.string (str (Cb.bk text (t - 1)))) rfl rfl) ?_
    refine nt ?_
    refine wp_region_lit ?_
    refine w_mv (ev (.string (str ((Cb.unchain key (Rc.lst key text) text).take (16 * t)))) s1_12 rfl) ?_
    refine w_mv (ev (pt bx 0) s1_9 rfl) ?_
    refine w_mv (ev (.slice (some ⟨lb, 0, none⟩) (text.length / 16) capl) s1_10 rfl) ?_
    refine w_mv (ev (.int .i64 ((t : Nat) : Int)) s1_13 rfl) ?_
    refine w_val (y_is1z (i := t) (ev (.slice (some ⟨lb, 0, none⟩) (text.length / 16) capl) rfl rfl) (ev (.int .i64 ((t : Nat) : Int)) rfl rfl) Try.underlying68 RecDT.sz9 (by omega) (by omega)) ?_
    refine w_val (v := .string (str (Cb.bk text t))) (y_ld (ev (pt lb t) rfl rfl) RecDT.sc9 (r_lb.val (by omega) rfl)) ?_
    refine w_call (Try.func61) (by kernel_rfl) rfl (m2 (ev (pt bx 0) rfl rfl) (ev (.string (str (Cb.bk text t))) rfl rfl)) (refDec_l bx g cap key (Cb.bk text t) w15 hok (Cb.bk_len _ _ (by omega)) r_bx r_g) ?_
    rintro _ w18 ⟨rfl, hb19⟩
    refine ⟨_, rfl, ?_⟩
    replace r_bx := r_bx.step hb19
    replace r_g := r_g.step hb19
    replace r_lb := r_lb.step hb19
    replace hk := thenB hk hb19
    refine w_mv (ev (.string (str (Cb.bk text (t - 1)))) rfl rfl) ?_
    refine w_call (Try.func59) (by kernel_rfl) rfl (m2 (ev (.string (str (Aes.dec (Aes.words key) (Cb.bk text t)))) rfl rfl) (ev (.string (str (Cb.bk text (t - 1)))) rfl rfl)) (refXor_c (Aes.dec (Aes.words key) (Cb.bk text t)) (Cb.bk text (t - 1)) (by (try simp only [Cb.dec_len, List.length_take, List.length_drop]); omega) w18) ?_
    rintro _ w20 ⟨rfl, hb21⟩
    refine ⟨_, rfl, ?_⟩
    replace r_bx := r_bx.step hb21
    replace r_g := r_g.step hb21
    replace r_lb := r_lb.step hb21
    replace hk := thenB hk hb21
    refine w_val (y_bin (ev (.string (str ((Cb.unchain key (Rc.lst key text) text).take (16 * t)))) rfl rfl) (ev (.string (str (Oct.xor (Aes.dec (Aes.words key) (Cb.bk text t)) (Cb.bk text (t - 1))))) rfl rfl) (b_cat (by simp only [List.length_take, hul2, Oct.length_xor, Cb.dec_len]; omega))) ?_
    refine w_as (ev (.string (str (((Cb.unchain key (Rc.lst key text) text).take (16 * t)) ++ (Oct.xor (Aes.dec (Aes.words key) (Cb.bk text t)) (Cb.bk text (t - 1)))))) rfl rfl) ?_
    refine wpList_nil ?_
    refine inb_n ?_
    refine then_n ?_
    refine wp_region_lit ?_
    refine w_mv (ev (.int .i64 ((t : Nat) : Int)) s1_13 rfl) ?_
    refine w_val (y_bin (ev (.int .i64 ((t : Nat) : Int)) rfl rfl) (evc (.int .i64 1)) (b_add (by omega))) ?_
    refine w_as (ev (.int .i64 (((t : Nat) : Int) + 1)) rfl rfl) ?_
    refine wpList_nil ?_
    exact then_n ⟨_, (by omega), t + 1, rfl, _, rfl, iv, s1_0, s1_1, s1_2, s1_6, s1_7, s1_8, s1_9, s1_10, s1_11, (Eq.trans (b := .string (str (((Cb.unchain key (Rc.lst key text) text).take (16 * t)) ++ (Oct.xor (Aes.dec (Aes.words key) (Cb.bk text t)) (Cb.bk text (t - 1)))))) rfl (by first | exact congrArg (fun l => Value.string (str l)) (Rc.next_in key text t hm h32 (by omega) (by omega)) | exact congrArg (fun l => Value.string (str l)) (Rc.next_0 key text t hm h32 (by omega) (by omega)))), (etv (b := .int .i64 (((t : Nat) : Int) + 1)) rfl), r_bx, r_g, r_lb, hk⟩
   ·skip
    refine wp_skip ?_
    refine then_n ?_
    refine wp_region_lit ?_
    refine w_mv (ev (.string (str ((Cb.unchain key (Rc.lst key text) text).take (16 * t)))) s1_12 rfl) ?_
    refine w_mv (ev (pt bx 0) s1_9 rfl) ?_
    refine w_mv (ev (.slice (some ⟨lb, 0, none⟩) (text.length / 16) capl) s1_10 rfl) ?_
    refine w_mv (ev (.int .i64 ((t : Nat) : Int)) s1_13 rfl) ?_
    refine w_val (y_is1z (i := t) (ev (.slice (some ⟨lb, 0, none⟩) (text.length / 16) capl) rfl rfl) (ev (.int .i64 ((t : Nat) : Int)) rfl rfl) Try.underlying68 RecDT.sz9 (by omega) (by omega)) ?_
    refine w_val (v := .string (str (Cb.bk text t))) (y_ld (ev (pt lb t) rfl rfl) RecDT.sc9 (r_lb.val (by omega) rfl)) ?_
    refine w_call (Try.func61) (by kernel_rfl) rfl (m2 (ev (pt bx 0) rfl rfl) (ev (.string (str (Cb.bk text t))) rfl rfl)) (refDec_l bx g cap key (Cb.bk text t) w15 hok (Cb.bk_len _ _ (by omega)) r_bx r_g) ?_
    rintro _ w22 ⟨rfl, hb23⟩
    refine ⟨_, rfl, ?_⟩
    replace r_bx := r_bx.step hb23
    replace r_g := r_g.step hb23
    replace r_lb := r_lb.step hb23
    replace hk := thenB hk hb23
    refine w_mv (ev (.string (str (Rc.lst key text))) rfl rfl) ?_
    refine w_call (Try.func59) (by kernel_rfl) rfl (m2 (ev (.string (str (Aes.dec (Aes.words key) (Cb.bk text t)))) rfl rfl) (ev (.string (str (Rc.lst key text))) rfl rfl)) (refXor_c (Aes.dec (Aes.words key) (Cb.bk text t)) (Rc.lst key text) (by (try simp only [Cb.dec_len, List.length_take, List.length_drop]); omega) w22) ?_
    rintro _ w24 ⟨rfl, hb25⟩
    refine ⟨_, rfl, ?_⟩
    replace r_bx := r_bx.step hb25
    replace r_g := r_g.step hb25
    replace r_lb := r_lb.step hb25
    replace hk := thenB hk hb25
    refine w_val (y_bin (ev (.string (str ((Cb.unchain key (Rc.lst key text) text).take (16 * t)))) rfl rfl) (ev (.string (str (Oct.xor (Aes.dec (Aes.words key) (Cb.bk text t)) (Rc.lst key text)))) rfl rfl) (b_cat (by simp only [List.length_take, hul2, Oct.length_xor, Cb.dec_len]; omega))) ?_
    refine w_as (ev (.string (str (((Cb.unchain key (Rc.lst key text) text).take (16 * t)) ++ (Oct.xor (Aes.dec (Aes.words key) (Cb.bk text t)) (Rc.lst key text))))) rfl rfl) ?_
    refine wpList_nil ?_
    refine inb_n ?_
    refine then_n ?_
    refine wp_region_lit ?_
    refine w_mv (ev (.int .i64 ((t : Nat) : Int)) s1_13 rfl) ?_
    refine w_val (y_bin (ev (.int .i64 ((t : Nat) : Int)) rfl rfl) (evc (.int .i64 1)) (b_add (by omega))) ?_
    refine w_as (ev (.int .i64 (((t : Nat) : Int) + 1)) rfl rfl) ?_
    refine wpList_nil ?_
    exact then_n ⟨_, (by omega), t + 1, rfl, _, rfl, iv, s1_0, s1_1, s1_2, s1_6, s1_7, s1_8, s1_9, s1_10, s1_11, (Eq.trans (b := .string (str (((Cb.unchain key (Rc.lst key text) text).take (16 * t)) ++ (Oct.xor (Aes.dec (Aes.words key) (Cb.bk text t)) (Rc.lst key text))))) rfl (by first | exact congrArg (fun l => Value.string (str l)) (Rc.next_in key text t hm h32 (by omega) (by omega)) | exact congrArg (fun l => Value.string (str l)) (Rc.next_0 key text t hm h32 (by omega) (by omega)))), (etv (b := .int .i64 (((t : Nat) : Int) + 1)) rfl), r_bx, r_g, r_lb, hk⟩
  ·skip
   refine wp_exit ?_
   refine then_x ?_
   refine then_x ?_
   refine inb_x ?_
   refine then_n ?_
   refine sr ?_
   refine w_mv (ev (.string (str key)) s1_0 rfl) ?_
   refine w_mv (ev (.string (str vi)) s1_1 rfl) ?_
   refine w_mv (ev (.string (str (Cb.unchain key (Rc.lst key text) text))) (by refine Eq.trans (b := .string (str ((Cb.unchain key (Rc.lst key text) text).take (16 * t)))) ?_ ?_; exact s1_12; (exact congrArg (fun l => Value.string (str l)) (List.take_of_length_le (by rw [hul2]; omega)))) rfl) ?_
   refine w_call (Try.func27) (by kernel_rfl) rfl (m3 (ev (.string (str key)) rfl rfl) (ev (.string (str vi)) rfl rfl) (ev (.string (str (Cb.unchain key (Rc.lst key text) text))) rfl rfl)) (refUnchain_y key vi hok hiv (Cb.unchain key (Rc.lst key text) text) (by rw [hul2]; exact hm) (by rw [hul2]; omega) w15) ?_
   rintro _ w26 ⟨rfl, hb27⟩
   refine ⟨_, rfl, ?_⟩
   replace r_bx := r_bx.step hb27
   replace r_g := r_g.step hb27
   replace r_lb := r_lb.step hb27
   replace hk := thenB hk hb27
   refine w_mv (ev (.tuple #[.string (str (Cb.unchain key vi (Cb.unchain key (Rc.lst key text) text))), .int .i64 0]) rfl rfl) ?_
   refine w_val (y_ext (v := .string (str (Cb.unchain key vi (Cb.unchain key (Rc.lst key text) text)))) (ev (.tuple #[.string (str (Cb.unchain key vi (Cb.unchain key (Rc.lst key text) text))), .int .i64 0]) rfl rfl) rfl) ?_
   refine w_val (y_ext (v := .int .i64 0) (ev (.tuple #[.string (str (Cb.unchain key vi (Cb.unchain key (Rc.lst key text) text))), .int .i64 0]) rfl rfl) rfl) ?_
   refine w_as (ev (.string (str (Cb.unchain key vi (Cb.unchain key (Rc.lst key text) text)))) rfl rfl) ?_
   refine w_as (ev (.int .i64 0) rfl rfl) ?_
   refine nt ?_
   refine sr ?_
   refine w_mv (ev (.string (str (Rc.opn key vi text))) (Eq.trans (b := .string (str (Cb.unchain key vi (Cb.unchain key (Rc.lst key text) text)))) rfl (by rfl)) rfl) ?_
   refine w_val (v := U8 (gb (Rc.opn key vi text) 0)) (y_idx (ev (.string (str (Rc.opn key vi text))) rfl rfl) (evc (.int .i64 0)) Try.underlying9 (by omega) (by omega)) ?_
   refine w_val (v := .int .i64 (((gb (Rc.opn key vi text) 0).toNat : Nat) : Int)) (y_u8_i64 (ev (U8 (gb (Rc.opn key vi text) 0)) rfl rfl) RecDT.so5 Try.underlying3 (by have := (gb (Rc.opn key vi text) 0).isLt; omega)) ?_
   refine w_as (ev (.int .i64 (((gb (Rc.opn key vi text) 0).toNat : Nat) : Int)) rfl rfl) ?_
   refine nt ?_
   refine sr ?_
   refine w_mv (ev (.int .i64 (((Rc.kn (Rc.opn key vi text)) : Nat) : Int)) (Eq.trans (b := .int .i64 (((gb (Rc.opn key vi text) 0).toNat : Nat) : Int)) rfl (by rfl)) rfl) ?_
   refine w_call (Try.func35) (by kernel_rfl) rfl (m1 (ev (.int .i64 (((Rc.kn (Rc.opn key vi text)) : Nat) : Int)) rfl rfl)) (refFill_y (Rc.kn (Rc.opn key vi text)) (by omega) (by omega) w26) ?_
   rintro _ w28 ⟨rfl, hb29⟩
   refine ⟨_, rfl, ?_⟩
   replace r_bx := r_bx.step hb29
   replace r_g := r_g.step hb29
   replace r_lb := r_lb.step hb29
   replace hk := thenB hk hb29
   refine w_mv (ev (.tuple #[.int .i64 (((Rc.fl (Rc.kn (Rc.opn key vi text))) : Nat) : Int), .int .i64 0]) rfl rfl) ?_
   refine w_val (y_ext (v := .int .i64 (((Rc.fl (Rc.kn (Rc.opn key vi text))) : Nat) : Int)) (ev (.tuple #[.int .i64 (((Rc.fl (Rc.kn (Rc.opn key vi text))) : Nat) : Int), .int .i64 0]) rfl rfl) rfl) ?_
   refine w_val (y_ext (v := .int .i64 0) (ev (.tuple #[.int .i64 (((Rc.fl (Rc.kn (Rc.opn key vi text))) : Nat) : Int), .int .i64 0]) rfl rfl) rfl) ?_
   refine w_as (ev (.int .i64 (((Rc.fl (Rc.kn (Rc.opn key vi text))) : Nat) : Int)) rfl rfl) ?_
   refine w_as (ev (.int .i64 0) rfl rfl) ?_
   refine nt ?_
   refine ss ?_
   refine region_q RecDT.mixed (by kernel_rfl) ?_
   refine q_mv (ev (.int .i64 0) rfl rfl) ?_
   refine q_val (fun w' hw' => y_bin (ev (.int .i64 0) rfl rfl) (evc (.int .i64 0)) b_neq) ?_
   refine q_mv (ev (.bool false) rfl rfl) ?_
   refine q_val_g (v := .string (str (Rc.opn key vi text))) (want_yes (j := 2) rfl rfl (ev (.bool false) rfl rfl) rfl) (fun w' hw' => y_mv (ev (.string (str (Rc.opn key vi text))) (Eq.trans (b := .string (str (Cb.unchain key vi (Cb.unchain key (Rc.lst key text) text)))) rfl (by rfl)) rfl)) ?_
   refine q_val_g (want_yes (j := 2) rfl rfl (ev (.bool false) rfl rfl) rfl) (fun w' hw' => y_len (ev (.string (str (Rc.opn key vi text))) rfl rfl) Try.underlying9) ?_
   refine q_val_g (v := .int .i64 (((Rc.kn (Rc.opn key vi text)) : Nat) : Int)) (want_yes (j := 2) rfl rfl (ev (.bool false) rfl rfl) rfl) (fun w' hw' => y_mv (ev (.int .i64 (((Rc.kn (Rc.opn key vi text)) : Nat) : Int)) (Eq.trans (b := .int .i64 (((gb (Rc.opn key vi text) 0).toNat : Nat) : Int)) rfl (by rfl)) rfl)) ?_
   refine q_val_g (want_yes (j := 2) rfl rfl (ev (.bool false) rfl rfl) rfl) (fun w' hw' => y_bin (evc (.int .i64 4)) (ev (.int .i64 (((Rc.kn (Rc.opn key vi text)) : Nat) : Int)) rfl rfl) (b_add (by omega))) ?_
   refine q_val_g (v := .int .i64 (((Rc.fl (Rc.kn (Rc.opn key vi text))) : Nat) : Int)) (want_yes (j := 2) rfl rfl (ev (.bool false) rfl rfl) rfl) (fun w' hw' => y_mv (ev (.int .i64 (((Rc.fl (Rc.kn (Rc.opn key vi text))) : Nat) : Int)) rfl rfl)) ?_
   refine q_val_g (want_yes (j := 2) rfl rfl (ev (.bool false) rfl rfl) rfl) (fun w' hw' => y_bin (ev (.int .i64 (4 + (((Rc.kn (Rc.opn key vi text)) : Nat) : Int))) rfl rfl) (ev (.int .i64 (((Rc.fl (Rc.kn (Rc.opn key vi text))) : Nat) : Int)) rfl rfl) (b_add (by omega))) ?_
   refine q_val_g (want_yes (j := 2) rfl rfl (ev (.bool false) rfl rfl) rfl) (fun w' hw' => y_bin (ev (.int .i64 (((Rc.opn key vi text).length : Nat) : Int)) rfl rfl) (ev (.int .i64 ((4 + (((Rc.kn (Rc.opn key vi text)) : Nat) : Int)) + (((Rc.fl (Rc.kn (Rc.opn key vi text))) : Nat) : Int))) rfl rfl) b_neq) ?_
   refine q_val (fun w' hw' => y_pick_f (ev (.bool false) rfl rfl) (ev (.bool (decide ((((Rc.opn key vi text).length : Nat) : Int) ≠ ((4 + (((Rc.kn (Rc.opn key vi text)) : Nat) : Int)) + (((Rc.fl (Rc.kn (Rc.opn key vi text))) : Nat) : Int))))) rfl rfl)) ?_
   refine q_mv (ev (.bool (decide ((((Rc.opn key vi text).length : Nat) : Int) ≠ ((4 + (((Rc.kn (Rc.opn key vi text)) : Nat) : Int)) + (((Rc.fl (Rc.kn (Rc.opn key vi text))) : Nat) : Int))))) rfl rfl) ?_
   have hc30 : (((Rc.opn key vi text).length : Nat) : Int) ≠ ((4 + (((Rc.kn (Rc.opn key vi text)) : Nat) : Int)) + (((Rc.fl (Rc.kn (Rc.opn key vi text))) : Nat) : Int)) := by omega
   first | with_reducible refine q_skip ?_ ?_ | refine q_skip ?_ ?_
   · exact want_no (j := 11) rfl rfl (ev (.bool true) (Eq.trans (b := .bool (decide ((((Rc.opn key vi text).length : Nat) : Int) ≠ ((4 + (((Rc.kn (Rc.opn key vi text)) : Nat) : Int)) + (((Rc.fl (Rc.kn (Rc.opn key vi text))) : Nat) : Int))))) rfl (by rw [decide_eq_true hc30])) rfl) rfl
   first | with_reducible refine q_skip ?_ ?_ | refine q_skip ?_ ?_
   · exact want_no (j := 11) rfl rfl (ev (.bool true) (Eq.trans (b := .bool (decide ((((Rc.opn key vi text).length : Nat) : Int) ≠ ((4 + (((Rc.kn (Rc.opn key vi text)) : Nat) : Int)) + (((Rc.fl (Rc.kn (Rc.opn key vi text))) : Nat) : Int))))) rfl (by rw [decide_eq_true hc30])) rfl) rfl
   first | with_reducible refine q_skip ?_ ?_ | refine q_skip ?_ ?_
   · exact want_no (j := 11) rfl rfl (ev (.bool true) (Eq.trans (b := .bool (decide ((((Rc.opn key vi text).length : Nat) : Int) ≠ ((4 + (((Rc.kn (Rc.opn key vi text)) : Nat) : Int)) + (((Rc.fl (Rc.kn (Rc.opn key vi text))) : Nat) : Int))))) rfl (by rw [decide_eq_true hc30])) rfl) rfl
   first | with_reducible refine q_skip ?_ ?_ | refine q_skip ?_ ?_
   · exact want_no (j := 11) rfl rfl (ev (.bool true) (Eq.trans (b := .bool (decide ((((Rc.opn key vi text).length : Nat) : Int) ≠ ((4 + (((Rc.kn (Rc.opn key vi text)) : Nat) : Int)) + (((Rc.fl (Rc.kn (Rc.opn key vi text))) : Nat) : Int))))) rfl (by rw [decide_eq_true hc30])) rfl) rfl
   first | with_reducible refine q_skip ?_ ?_ | refine q_skip ?_ ?_
   · exact want_no (j := 11) rfl rfl (ev (.bool true) (Eq.trans (b := .bool (decide ((((Rc.opn key vi text).length : Nat) : Int) ≠ ((4 + (((Rc.kn (Rc.opn key vi text)) : Nat) : Int)) + (((Rc.fl (Rc.kn (Rc.opn key vi text))) : Nat) : Int))))) rfl (by rw [decide_eq_true hc30])) rfl) rfl
   first | with_reducible refine q_skip ?_ ?_ | refine q_skip ?_ ?_
   · exact want_no (j := 11) rfl rfl (ev (.bool true) (Eq.trans (b := .bool (decide ((((Rc.opn key vi text).length : Nat) : Int) ≠ ((4 + (((Rc.kn (Rc.opn key vi text)) : Nat) : Int)) + (((Rc.fl (Rc.kn (Rc.opn key vi text))) : Nat) : Int))))) rfl (by rw [decide_eq_true hc30])) rfl) rfl
   refine q_val (fun w' hw' => y_pick_t (ev (.bool true) (Eq.trans (b := .bool (decide ((((Rc.opn key vi text).length : Nat) : Int) ≠ ((4 + (((Rc.kn (Rc.opn key vi text)) : Nat) : Int)) + (((Rc.fl (Rc.kn (Rc.opn key vi text))) : Nat) : Int))))) rfl (by rw [decide_eq_true hc30])) rfl) (evc (.bool true))) ?_
   refine q_nil ?_
   intro w31 hb32
   replace r_bx := r_bx.step hb32
   replace r_g := r_g.step hb32
   replace r_lb := r_lb.step hb32
   replace hk := thenB hk hb32
   refine then_n ?_
   refine c_tt (ev (.bool true) rfl rfl) ?_
   refine sr ?_
   refine w_as (evc (.string (str ([] : List (BitVec 8))))) ?_
   refine w_as (evc (.int .i64 8)) ?_
   refine nt ?_
   refine wp_ret ?_
   refine then_r ?_
   refine fin_ret2 rfl (ev (.string (str ([] : List (BitVec 8)))) rfl rfl) (ev (.int .i64 8) rfl rfl) ?_
   exact ⟨rfl, hk⟩

set_option maxRecDepth 100000 in
set_option maxHeartbeats 1000000 in
theorem refUnlock_3 (key vi : List (BitVec 8)) (hok : Aes.okKey key.length) (hiv : vi.length = 16) (text : List (BitVec 8)) (n : Nat) (hn : text.length = n + 16) (hm : text.length % 16 = 0) (h32 : 32 ≤ text.length) (h272 : text.length ≤ 272) (h3 : 3 ≤ Rc.kn (Rc.opn key vi text)) (h255 : Rc.kn (Rc.opn key vi text) ≤ 255) (he : 4 + Rc.kn (Rc.opn key vi text) + Rc.fl (Rc.kn (Rc.opn key vi text)) = text.length) (hb : Oct.xor (Rc.A (Rc.opn key vi text)) (Rc.B (Rc.opn key vi text)) ≠ Rc.ff) (w0 : World) : Calls Try.prog 40 #[.string (str key), .string (str vi), .string (str text)] w0 fun e w' => e = .returned (.tuple #[.string (str ([] : List (BitVec 8))), .int .i64 8]) ∧ Below w0.heap.size w0 w' := by
 have hll := Rc.lst_len key text h32
 have hol := Rc.opn_len key vi text
 have hul := Cb.unchain_len key (Rc.lst key text) (text.take n)
 have hul2 := Cb.unchain_len key (Rc.lst key text) text
 have hnl : (text.take n).length = n := by rw [List.length_take]; omega
 have hflb := Rc.fl_le (Rc.kn (Rc.opn key vi text))
 have habl := Rc.AB_len (Rc.opn key vi text) (by omega)
 refine enter (n := 121) Try.func40 rfl rfl rfl ?_
 have hk : Below w0.heap.size w0 w0 := Below.refl _ _
 refine sr ?_
 refine w_as (evc (.string (str ([] : List (BitVec 8))))) ?_
 refine w_as (evc (.int .i64 0)) ?_
 refine nt ?_
 refine wp_seq ?_
 refine sr ?_
 refine w_mv (ev (.string (str key)) rfl rfl) ?_
 refine w_mv (ev (.string (str vi)) rfl rfl) ?_
 refine w_call (Try.func66) (by kernel_rfl) rfl (m2 (ev (.string (str key)) rfl rfl) (ev (.string (str vi)) rfl rfl)) (rcRefWrong_y key vi hok hiv w0) ?_
 rintro _ w1 ⟨rfl, hb2⟩
 refine ⟨_, rfl, ?_⟩
 replace hk := thenB hk hb2
 refine w_as (ev (.int .i64 0) rfl rfl) ?_
 refine nt ?_
 refine sr ?_
 refine w_mv (ev (.int .i64 0) rfl rfl) ?_
 refine w_val (y_bin (ev (.int .i64 0) rfl rfl) (evc (.int .i64 0)) b_neq) ?_
 refine nt ?_
 refine c_ff (ev (.bool false) rfl rfl) ?_
 refine wp_skip ?_
 refine then_n ?_
 refine wp_seq ?_
 refine sr ?_
 refine w_mv (ev (.string (str text)) rfl rfl) ?_
 refine w_val (y_len (ev (.string (str text)) rfl rfl) Try.underlying9) ?_
 refine w_val (y_bin (ev (.int .i64 ((text.length : Nat) : Int)) rfl rfl) (evc (.int .i64 16)) (b_rem (by omega))) ?_
 refine w_val (y_bin (ev (.int .i64 (((text.length : Nat) : Int) % 16)) rfl rfl) (evc (.int .i64 0)) b_neq) ?_
 refine w_mv (ev (.bool (decide ((((text.length : Nat) : Int) % 16) ≠ 0))) rfl rfl) ?_
 have hc3 : ¬ ((((text.length : Nat) : Int) % 16) ≠ 0) := by omega
 refine w_val_g (v := .string (str text)) (want_yes (j := 4) rfl rfl (ev (.bool false) (Eq.trans (b := .bool (decide ((((text.length : Nat) : Int) % 16) ≠ 0))) rfl (by rw [decide_eq_false hc3])) rfl) rfl) (y_mv (ev (.string (str text)) rfl rfl)) ?_
 refine w_val_g (want_yes (j := 4) rfl rfl (ev (.bool false) (Eq.trans (b := .bool (decide ((((text.length : Nat) : Int) % 16) ≠ 0))) rfl (by rw [decide_eq_false hc3])) rfl) rfl) (y_len (ev (.string (str text)) rfl rfl) Try.underlying9) ?_
 refine w_val_g (want_yes (j := 4) rfl rfl (ev (.bool false) (Eq.trans (b := .bool (decide ((((text.length : Nat) : Int) % 16) ≠ 0))) rfl (by rw [decide_eq_false hc3])) rfl) rfl) (y_bin (ev (.int .i64 ((text.length : Nat) : Int)) rfl rfl) (evc (.int .i64 32)) b_lss) ?_
 refine w_val (y_pick_f (ev (.bool false) (Eq.trans (b := .bool (decide ((((text.length : Nat) : Int) % 16) ≠ 0))) rfl (by rw [decide_eq_false hc3])) rfl) (ev (.bool (decide (((text.length : Nat) : Int) < 32))) rfl rfl)) ?_
 refine w_mv (ev (.bool (decide (((text.length : Nat) : Int) < 32))) rfl rfl) ?_
 have hc4 : ¬ (((text.length : Nat) : Int) < 32) := by omega
 refine w_val_g (v := .string (str text)) (want_yes (j := 9) rfl rfl (ev (.bool false) (Eq.trans (b := .bool (decide (((text.length : Nat) : Int) < 32))) rfl (by rw [decide_eq_false hc4])) rfl) rfl) (y_mv (ev (.string (str text)) rfl rfl)) ?_
 refine w_val_g (want_yes (j := 9) rfl rfl (ev (.bool false) (Eq.trans (b := .bool (decide (((text.length : Nat) : Int) < 32))) rfl (by rw [decide_eq_false hc4])) rfl) rfl) (y_len (ev (.string (str text)) rfl rfl) Try.underlying9) ?_
 refine w_val_g (want_yes (j := 9) rfl rfl (ev (.bool false) (Eq.trans (b := .bool (decide (((text.length : Nat) : Int) < 32))) rfl (by rw [decide_eq_false hc4])) rfl) rfl) (y_bin (ev (.int .i64 ((text.length : Nat) : Int)) rfl rfl) (evc (.int .i64 272)) b_gtr) ?_
 refine w_val (y_pick_f (ev (.bool false) (Eq.trans (b := .bool (decide (((text.length : Nat) : Int) < 32))) rfl (by rw [decide_eq_false hc4])) rfl) (ev (.bool (decide (272 < ((text.length : Nat) : Int)))) rfl rfl)) ?_
 refine nt ?_
 have hc5 : ¬ (272 < ((text.length : Nat) : Int)) := by omega
 refine c_f (p := 272 < ((text.length : Nat) : Int)) (ev (.bool (decide (272 < ((text.length : Nat) : Int)))) rfl rfl) hc5 ?_
 refine wp_skip ?_
 refine then_n ?_
 refine sr ?_
 refine w_mv (ev (.string (str key)) rfl rfl) ?_
 refine w_call (Try.func56) (by kernel_rfl) rfl (m1 (ev (.string (str key)) rfl rfl)) (refNew_l key w1 hok) ?_
 rintro _ w6 ⟨bx, g, cap, rfl, hbn, hge_bx, hge_g, r_bx, r_g⟩
 refine ⟨_, rfl, ?_⟩
 have ge_bx : w0.heap.size ≤ bx := by have := hk.size; omega
 have ge_g : w0.heap.size ≤ g := by have := hk.size; omega
 replace hk := thenB hk hbn
 refine w_as (ev (pt bx 0) rfl rfl) ?_
 refine nt ?_
 refine sr ?_
 refine w_mv (ev (.string (str text)) rfl rfl) ?_
 refine w_call (Try.func57) (by kernel_rfl) rfl (m1 (ev (.string (str text)) rfl rfl)) (refBlocks_y text (by omega) (by omega) w6) ?_
 rintro _ w7 ⟨lb, capl, rfl, hge_lb, r_lb, hbl⟩
 refine ⟨_, rfl, ?_⟩
 have ne_bx_lb : bx ≠ lb := by have := r_bx.lt; omega
 have ne_g_lb : g ≠ lb := by have := r_g.lt; omega
 have ge_lb : w0.heap.size ≤ lb := by have := hk.size; omega
 replace r_bx := r_bx.step hbl
 replace r_g := r_g.step hbl
 replace hk := thenB hk hbl
 refine w_as (ev (.slice (some ⟨lb, 0, none⟩) (text.length / 16) capl) rfl rfl) ?_
 refine nt ?_
 refine wp_seq ?_
 refine region_dc (Nat.testBit 0) 16 RecDT.mixed rfl ?_
 intro w8 hb9
 replace r_bx := r_bx.step hb9
 replace r_g := r_g.step hb9
 replace r_lb := r_lb.step hb9
 replace hk := thenB hk hb9
 have hS : Cls w8 w8 := Below.refl _ _
 refine d_pure (v := pt bx 0) 0 rfl (by kernel_rfl) (by kernel_rfl) (by kernel_rfl) (by kernel_rfl) (fun _ _ _ h => h) (fun w' => y_mv (ev (pt bx 0) rfl rfl)) ?_
 refine d_pure (v := .slice (some ⟨lb, 0, none⟩) (text.length / 16) capl) 1 rfl (by kernel_rfl) (by kernel_rfl) (by kernel_rfl) (by kernel_rfl) (fun _ _ _ h => h) (fun w' => y_mv (ev (.slice (some ⟨lb, 0, none⟩) (text.length / 16) capl) rfl rfl)) ?_
 refine d_pure (v := .slice (some ⟨lb, 0, none⟩) (text.length / 16) capl) 2 rfl (by kernel_rfl) (by kernel_rfl) (by kernel_rfl) (by kernel_rfl) (fun _ _ _ h => h) (fun w' => y_mv (ev (.slice (some ⟨lb, 0, none⟩) (text.length / 16) capl) rfl rfl)) ?_
 refine d_pure (v := .int .i64 (((text.length / 16) : Nat) : Int)) 3 rfl (by kernel_rfl) (by kernel_rfl) (by kernel_rfl) (by kernel_rfl) (fun _ _ _ h => h) (fun w' => y_len_sl (ev (.slice (some ⟨lb, 0, none⟩) (text.length / 16) capl) rfl rfl) Try.underlying68) ?_
 refine d_pure (v := .int .i64 ((((text.length / 16) : Nat) : Int) - 1)) 4 rfl (by kernel_rfl) (by kernel_rfl) (by kernel_rfl) (by kernel_rfl) (fun _ _ _ h => h) (fun w' => y_bin (ev (.int .i64 (((text.length / 16) : Nat) : Int)) rfl rfl) (evc (.int .i64 1)) (b_sub (by omega))) ?_
 refine d_pure (v := pt lb ((text.length / 16) - 1)) 5 rfl (by kernel_rfl) (by kernel_rfl) (by kernel_rfl) (by kernel_rfl) (fun _ _ _ h => h) (fun w' => y_is1z (i := ((text.length / 16) - 1)) (ev (.slice (some ⟨lb, 0, none⟩) (text.length / 16) capl) rfl rfl) (ev (.int .i64 ((((text.length / 16) : Nat) : Int) - 1)) rfl rfl) Try.underlying68 RecDT.sz9 (by omega) (by omega)) ?_
 refine d_take (v := .string (str (Cb.bk text ((text.length / 16) - 1)))) 6 (Nat.testBit 49344) rfl (by kernel_rfl) (by kernel_rfl) (by kernel_rfl) (by kernel_rfl) (by kernel_rfl) (by kernel_rfl) (fun _ _ _ h => h) hS (fun w' hw' => y_ld (ev (pt lb ((text.length / 16) - 1)) rfl rfl) RecDT.sc9 (cls_cell (r_lb.val (by omega) rfl) r_lb.lt w' hw')) ?_
 refine d_pure (v := .slice (some ⟨lb, 0, none⟩) (text.length / 16) capl) 8 rfl (by kernel_rfl) (by kernel_rfl) (by kernel_rfl) (by kernel_rfl) (fun _ _ _ h => h) (fun w' => y_mv (ev (.slice (some ⟨lb, 0, none⟩) (text.length / 16) capl) rfl rfl)) ?_
 refine d_pure (v := .slice (some ⟨lb, 0, none⟩) (text.length / 16) capl) 9 rfl (by kernel_rfl) (by kernel_rfl) (by kernel_rfl) (by kernel_rfl) (fun _ _ _ h => h) (fun w' => y_mv (ev (.slice (some ⟨lb, 0, none⟩) (text.length / 16) capl) rfl rfl)) ?_
 refine d_pure (v := .int .i64 (((text.length / 16) : Nat) : Int)) 10 rfl (by kernel_rfl) (by kernel_rfl) (by kernel_rfl) (by kernel_rfl) (fun _ _ _ h => h) (fun w' => y_len_sl (ev (.slice (some ⟨lb, 0, none⟩) (text.length / 16) capl) rfl rfl) Try.underlying68) ?_
 refine d_pure (v := .int .i64 ((((text.length / 16) : Nat) : Int) - 2)) 11 rfl (by kernel_rfl) (by kernel_rfl) (by kernel_rfl) (by kernel_rfl) (fun _ _ _ h => h) (fun w' => y_bin (ev (.int .i64 (((text.length / 16) : Nat) : Int)) rfl rfl) (evc (.int .i64 2)) (b_sub (by omega))) ?_
 refine d_pure (v := pt lb ((text.length / 16) - 2)) 12 rfl (by kernel_rfl) (by kernel_rfl) (by kernel_rfl) (by kernel_rfl) (fun _ _ _ h => h) (fun w' => y_is1z (i := ((text.length / 16) - 2)) (ev (.slice (some ⟨lb, 0, none⟩) (text.length / 16) capl) rfl rfl) (ev (.int .i64 ((((text.length / 16) : Nat) : Int) - 2)) rfl rfl) Try.underlying68 RecDT.sz9 (by omega) (by omega)) ?_
 refine d_take (v := .string (str (Cb.bk text ((text.length / 16) - 2)))) 13 (Nat.testBit 57344) rfl (by kernel_rfl) (by kernel_rfl) (by kernel_rfl) (by kernel_rfl) (by kernel_rfl) (by kernel_rfl) (fun _ _ _ h => h) hS (fun w' hw' => y_ld (ev (pt lb ((text.length / 16) - 2)) rfl rfl) RecDT.sc9 (cls_cell (r_lb.val (by omega) rfl) r_lb.lt w' hw')) ?_
 refine d_one 7 (by kernel_rfl) rfl ?_
 refine w_call (Try.func61) (by kernel_rfl) rfl (m2 (ev (pt bx 0) rfl rfl) (ev (.string (str (Cb.bk text ((text.length / 16) - 1)))) rfl rfl)) (refDec_l bx g cap key (Cb.bk text ((text.length / 16) - 1)) w8 hok (Cb.bk_len _ _ (by omega)) r_bx r_g) ?_
 rintro _ w10 ⟨rfl, hb11⟩
 refine ⟨_, rfl, ?_⟩
 replace r_bx := r_bx.step hb11
 replace r_g := r_g.step hb11
 replace r_lb := r_lb.step hb11
 replace hk := thenB hk hb11
 replace hS := thenB hS hb11
 refine wpList_nil ?_
 refine then_n ⟨fun _ h => thenB h (by assumption), ?_⟩
 refine d_one 14 (by kernel_rfl) rfl ?_
 refine w_call (Try.func59) (by kernel_rfl) rfl (m2 (ev (.string (str (Aes.dec (Aes.words key) (Cb.bk text ((text.length / 16) - 1))))) rfl rfl) (ev (.string (str (Cb.bk text ((text.length / 16) - 2)))) rfl rfl)) (refXor_c (Aes.dec (Aes.words key) (Cb.bk text ((text.length / 16) - 1))) (Cb.bk text ((text.length / 16) - 2)) (by (try simp only [Cb.dec_len, List.length_take, List.length_drop]); omega) w10) ?_
 rintro _ w12 ⟨rfl, hb13⟩
 refine ⟨_, rfl, ?_⟩
 replace r_bx := r_bx.step hb13
 replace r_g := r_g.step hb13
 replace r_lb := r_lb.step hb13
 replace hk := thenB hk hb13
 replace hS := thenB hS hb13
 refine wpList_nil ?_
 refine then_n ⟨fun _ h => thenB h (by assumption), ?_⟩
 refine d_pure (v := .string (str (Oct.xor (Aes.dec (Aes.words key) (Cb.bk text ((text.length / 16) - 1))) (Cb.bk text ((text.length / 16) - 2))))) 15 rfl (by kernel_rfl) (by kernel_rfl) (by kernel_rfl) (by kernel_rfl) (fun _ _ _ h => h) (fun w' => y_as (ev (.string (str (Oct.xor (Aes.dec (Aes.words key) (Cb.bk text ((text.length / 16) - 1))) (Cb.bk text ((text.length / 16) - 2))))) rfl rfl)) ?_
 refine d_done (by kernel_rfl) ?_
 clear hS
 refine then_n ?_
 refine sr ?_
 refine w_as (evc (.string (str ([] : List (BitVec 8))))) ?_
 refine nt ?_
 refine wp_seq ?_
 refine sr ?_
 refine w_as (evc (.int .i64 0)) ?_
 refine nt ?_
 refine wp_block ?_
 refine c_loop (fun dN aN wl => ∃ (t : Nat), dN = (text.length / 16 - t) ∧ ∃ f14, aN = fr 121 f14 ∧ (t ≤ text.length / 16) ∧ f14 0 = .string (str key) ∧ f14 1 = .string (str vi) ∧ f14 2 = .string (str text) ∧ f14 6 = .string (str ([] : List (BitVec 8))) ∧ f14 7 = .int .i64 0 ∧ f14 8 = .int .i64 0 ∧ f14 9 = pt bx 0 ∧ f14 10 = .slice (some ⟨lb, 0, none⟩) (text.length / 16) capl ∧ f14 11 = .string (str (Rc.lst key text)) ∧ f14 12 = .string (str ((Cb.unchain key (Rc.lst key text) text).take (16 * t))) ∧ f14 13 = .int .i64 ((t : Nat) : Int) ∧ Row wl bx 99 513 (fun j => if j < 256 then U8 (Aes.sb j) else if j < 512 then U8 (Aes.bk (j - 256)) else .slice (some ⟨g, 0, none⟩) ((Aes.words key).length) cap) ∧ Row wl g 102 ((Aes.words key).length * 4) (fun j => U8 (Aes.byteOf (Aes.gw (Aes.words key) (j / 4)) (j % 4))) ∧ Row wl lb 9 (text.length / 16 * 1) (fun j => .string (str (Cb.bk text j))) ∧ Below w0.heap.size w0 wl) (text.length / 16 - 0) ?_ ?_
 · exact ⟨0, rfl, _, rfl, iv, rfl, rfl, rfl, rfl, rfl, rfl, rfl, rfl, (Eq.trans (b := .string (str (Oct.xor (Aes.dec (Aes.words key) (Cb.bk text ((text.length / 16) - 1))) (Cb.bk text ((text.length / 16) - 2))))) rfl (by rfl)), (Eq.trans (b := .string (str ([] : List (BitVec 8)))) rfl (by rfl)), (etv (b := .int .i64 0) rfl), r_bx, r_g, r_lb, hk⟩
 ·skip
  clear r_bx r_g r_lb hk
  rintro _ _ w15 ⟨t, rfl, f14, rfl, i1_0, s1_0, s1_1, s1_2, s1_6, s1_7, s1_8, s1_9, s1_10, s1_11, s1_12, s1_13, r_bx, r_g, r_lb, hk⟩
  refine wp_seq ?_
  refine sr ?_
  refine w_mv (ev (.int .i64 ((t : Nat) : Int)) s1_13 rfl) ?_
  refine w_mv (ev (.slice (some ⟨lb, 0, none⟩) (text.length / 16) capl) s1_10 rfl) ?_
  refine w_val (v := .int .i64 (((text.length / 16) : Nat) : Int)) (y_len_sl (ev (.slice (some ⟨lb, 0, none⟩) (text.length / 16) capl) rfl rfl) Try.underlying68) ?_
  refine w_val (y_bin (ev (.int .i64 ((t : Nat) : Int)) rfl rfl) (ev (.int .i64 (((text.length / 16) : Nat) : Int)) rfl rfl) b_lss) ?_
  refine nt ?_
  refine c_if (p := ((t : Nat) : Int) < (((text.length / 16) : Nat) : Int)) (ev (.bool (decide (((t : Nat) : Int) < (((text.length / 16) : Nat) : Int)))) rfl rfl) (fun hc16 => ?_) (fun hc16 => ?_)
  ·skip
   refine wp_skip ?_
   refine then_n ?_
   refine wp_seq ?_
   refine wp_block ?_
   refine sr ?_
   refine w_mv (ev (.string (str (Rc.lst key text))) s1_11 rfl) ?_
   refine w_as (ev (.string (str (Rc.lst key text))) rfl rfl) ?_
   refine nt ?_
   refine wp_seq ?_
   refine sr ?_
   refine w_mv (ev (.int .i64 ((t : Nat) : Int)) s1_13 rfl) ?_
   refine w_val (y_bin (ev (.int .i64 ((t : Nat) : Int)) rfl rfl) (evc (.int .i64 0)) b_gtr) ?_
   refine nt ?_
   refine c_if (p := 0 < ((t : Nat) : Int)) (ev (.bool (decide (0 < ((t : Nat) : Int)))) rfl rfl) (fun hc17 => ?_) (fun hc17 => ?_)
   ·skip
    refine wp_region_lit ?_
    refine w_mv (ev (.slice (some ⟨lb, 0, none⟩) (text.length / 16) capl) s1_10 rfl) ?_
    refine w_mv (ev (.int .i64 ((t : Nat) : Int)) s1_13 rfl) ?_
    refine w_val (y_bin (ev (.int .i64 ((t : Nat) : Int)) rfl rfl) (evc (.int .i64 1)) (b_sub (by omega))) ?_
    refine w_val (y_is1z (i := (t - 1)) (ev (.slice (some ⟨lb, 0, none⟩) (text.length / 16) capl) rfl rfl) (ev (.int .i64 (((t : Nat) : Int) - 1)) rfl rfl) Try.underlying68 RecDT.sz9 (by omega) (by omega)) ?_
    refine w_val (v := .string (str (Cb.bk text (t - 1)))) (y_ld (ev (pt lb (t - 1)) rfl rfl) RecDT.sc9 (r_lb.val (by omega) rfl)) ?_
    refine w_as (ev (.string (str (Cb.bk text (t - 1)))) rfl rfl) ?_
    refine nt ?_
    refine wp_region_lit ?_
    refine w_mv (ev (.string (str ((Cb.unchain key (Rc.lst key text) text).take (16 * t)))) s1_12 rfl) ?_
    refine w_mv (ev (pt bx 0) s1_9 rfl) ?_
    refine w_mv (ev (.slice (some ⟨lb, 0, none⟩) (text.length / 16) capl) s1_10 rfl) ?_
    refine w_mv (ev (.int .i64 ((t : Nat) : Int)) s1_13 rfl) ?_
    refine w_val (y_is1z (i := t) (ev (.slice (some ⟨lb, 0, none⟩) (text.length / 16) capl) rfl rfl) (ev (.int .i64 ((t : Nat) : Int)) rfl rfl) Try.underlying68 RecDT.sz9 (by omega) (by omega)) ?_
    refine w_val (v := .string (str (Cb.bk text t))) (y_ld (ev (pt lb t) rfl rfl) RecDT.sc9 (r_lb.val (by omega) rfl)) ?_
    refine w_call (Try.func61) (by kernel_rfl) rfl (m2 (ev (pt bx 0) rfl rfl) (ev (.string (str (Cb.bk text t))) rfl rfl)) (refDec_l bx g cap key (Cb.bk text t) w15 hok (Cb.bk_len _ _ (by omega)) r_bx r_g) ?_
    rintro _ w18 ⟨rfl, hb19⟩
    refine ⟨_, rfl, ?_⟩
    replace r_bx := r_bx.step hb19
    replace r_g := r_g.step hb19
    replace r_lb := r_lb.step hb19
    replace hk := thenB hk hb19
    refine w_mv (ev (.string (str (Cb.bk text (t - 1)))) rfl rfl) ?_
    refine w_call (Try.func59) (by kernel_rfl) rfl (m2 (ev (.string (str (Aes.dec (Aes.words key) (Cb.bk text t)))) rfl rfl) (ev (.string (str (Cb.bk text (t - 1)))) rfl rfl)) (refXor_c (Aes.dec (Aes.words key) (Cb.bk text t)) (Cb.bk text (t - 1)) (by (try simp only [Cb.dec_len, List.length_take, List.length_drop]); omega) w18) ?_
    rintro _ w20 ⟨rfl, hb21⟩
    refine ⟨_, rfl, ?_⟩
    replace r_bx := r_bx.step hb21
    replace r_g := r_g.step hb21
    replace r_lb := r_lb.step hb21
    replace hk := thenB hk hb21
    refine w_val (y_bin (ev (.string (str ((Cb.unchain key (Rc.lst key text) text).take (16 * t)))) rfl rfl) (ev (.string (str (Oct.xor (Aes.dec (Aes.words key) (Cb.bk text t)) (Cb.bk text (t - 1))))) rfl rfl) (b_cat (by simp only [List.length_take, hul2, Oct.length_xor, Cb.dec_len]; omega))) ?_
    refine w_as (ev (.string (str (((Cb.unchain key (Rc.lst key text) text).take (16 * t)) ++ (Oct.xor (Aes.dec (Aes.words key) (Cb.bk text t)) (Cb.bk text (t - 1)))))) rfl rfl) ?_
    refine wpList_nil ?_
    refine inb_n ?_
    refine then_n ?_
    refine wp_region_lit ?_
    refine w_mv (ev (.int .i64 ((t : Nat) : Int)) s1_13 rfl) ?_
    refine w_val (y_bin (ev (.int .i64 ((t : Nat) : Int)) rfl rfl) (evc (.int .i64 1)) (b_add (by omega))) ?_
    refine w_as (ev (.int .i64 (((t : Nat) : Int) + 1)) rfl rfl) ?_
    refine wpList_nil ?_
    exact then_n ⟨_, (by omega), t + 1, rfl, _, rfl, iv, s1_0, s1_1, s1_2, s1_6, s1_7, s1_8, s1_9, s1_10, s1_11, (Eq.trans (b := .string (str (((Cb.unchain key (Rc.lst key text) text).take (16 * t)) ++ (Oct.xor (Aes.dec (Aes.words key) (Cb.bk text t)) (Cb.bk text (t - 1)))))) rfl (by first | exact congrArg (fun l => Value.string (str l)) (Rc.next_in key text t hm h32 (by omega) (by omega)) | exact congrArg (fun l => Value.string (str l)) (Rc.next_0 key text t hm h32 (by omega) (by omega)))), (etv (b := .int .i64 (((t : Nat) : Int) + 1)) rfl), r_bx, r_g, r_lb, hk⟩
   ·skip
    refine wp_skip ?_
    refine then_n ?_
    refine wp_region_lit ?_
    refine w_mv (ev (.string (str ((Cb.unchain key (Rc.lst key text) text).take (16 * t)))) s1_12 rfl) ?_
    refine w_mv (ev (pt bx 0) s1_9 rfl) ?_
    refine w_mv (ev (.slice (some ⟨lb, 0, none⟩) (text.length / 16) capl) s1_10 rfl) ?_
    refine w_mv (ev (.int .i64 ((t : Nat) : Int)) s1_13 rfl) ?_
    refine w_val (y_is1z (i := t) (ev (.slice (some ⟨lb, 0, none⟩) (text.length / 16) capl) rfl rfl) (ev (.int .i64 ((t : Nat) : Int)) rfl rfl) Try.underlying68 RecDT.sz9 (by omega) (by omega)) ?_
    refine w_val (v := .string (str (Cb.bk text t))) (y_ld (ev (pt lb t) rfl rfl) RecDT.sc9 (r_lb.val (by omega) rfl)) ?_
    refine w_call (Try.func61) (by kernel_rfl) rfl (m2 (ev (pt bx 0) rfl rfl) (ev (.string (str (Cb.bk text t))) rfl rfl)) (refDec_l bx g cap key (Cb.bk text t) w15 hok (Cb.bk_len _ _ (by omega)) r_bx r_g) ?_
    rintro _ w22 ⟨rfl, hb23⟩
    refine ⟨_, rfl, ?_⟩
    replace r_bx := r_bx.step hb23
    replace r_g := r_g.step hb23
    replace r_lb := r_lb.step hb23
    replace hk := thenB hk hb23
    refine w_mv (ev (.string (str (Rc.lst key text))) rfl rfl) ?_
    refine w_call (Try.func59) (by kernel_rfl) rfl (m2 (ev (.string (str (Aes.dec (Aes.words key) (Cb.bk text t)))) rfl rfl) (ev (.string (str (Rc.lst key text))) rfl rfl)) (refXor_c (Aes.dec (Aes.words key) (Cb.bk text t)) (Rc.lst key text) (by (try simp only [Cb.dec_len, List.length_take, List.length_drop]); omega) w22) ?_
    rintro _ w24 ⟨rfl, hb25⟩
    refine ⟨_, rfl, ?_⟩
    replace r_bx := r_bx.step hb25
    replace r_g := r_g.step hb25
    replace r_lb := r_lb.step hb25
    replace hk := thenB hk hb25
    refine w_val (y_bin (ev (.string (str ((Cb.unchain key (Rc.lst key text) text).take (16 * t)))) rfl rfl) (ev (.string (str (Oct.xor (Aes.dec (Aes.words key) (Cb.bk text t)) (Rc.lst key text)))) rfl rfl) (b_cat (by simp only [List.length_take, hul2, Oct.length_xor, Cb.dec_len]; omega))) ?_
    refine w_as (ev (.string (str (((Cb.unchain key (Rc.lst key text) text).take (16 * t)) ++ (Oct.xor (Aes.dec (Aes.words key) (Cb.bk text t)) (Rc.lst key text))))) rfl rfl) ?_
    refine wpList_nil ?_
    refine inb_n ?_
    refine then_n ?_
    refine wp_region_lit ?_
    refine w_mv (ev (.int .i64 ((t : Nat) : Int)) s1_13 rfl) ?_
    refine w_val (y_bin (ev (.int .i64 ((t : Nat) : Int)) rfl rfl) (evc (.int .i64 1)) (b_add (by omega))) ?_
    refine w_as (ev (.int .i64 (((t : Nat) : Int) + 1)) rfl rfl) ?_
    refine wpList_nil ?_
    exact then_n ⟨_, (by omega), t + 1, rfl, _, rfl, iv, s1_0, s1_1, s1_2, s1_6, s1_7, s1_8, s1_9, s1_10, s1_11, (Eq.trans (b := .string (str (((Cb.unchain key (Rc.lst key text) text).take (16 * t)) ++ (Oct.xor (Aes.dec (Aes.words key) (Cb.bk text t)) (Rc.lst key text))))) rfl (by first | exact congrArg (fun l => Value.string (str l)) (Rc.next_in key text t hm h32 (by omega) (by omega)) | exact congrArg (fun l => Value.string (str l)) (Rc.next_0 key text t hm h32 (by omega) (by omega)))), (etv (b := .int .i64 (((t : Nat) : Int) + 1)) rfl), r_bx, r_g, r_lb, hk⟩
  ·skip
   refine wp_exit ?_
   refine then_x ?_
   refine then_x ?_
   refine inb_x ?_
   refine then_n ?_
   refine sr ?_
   refine w_mv (ev (.string (str key)) s1_0 rfl) ?_
   refine w_mv (ev (.string (str vi)) s1_1 rfl) ?_
   refine w_mv (ev (.string (str (Cb.unchain key (Rc.lst key text) text))) (by refine Eq.trans (b := .string (str ((Cb.unchain key (Rc.lst key text) text).take (16 * t)))) ?_ ?_; exact s1_12; (exact congrArg (fun l => Value.string (str l)) (List.take_of_length_le (by rw [hul2]; omega)))) rfl) ?_
   refine w_call (Try.func27) (by kernel_rfl) rfl (m3 (ev (.string (str key)) rfl rfl) (ev (.string (str vi)) rfl rfl) (ev (.string (str (Cb.unchain key (Rc.lst key text) text))) rfl rfl)) (refUnchain_y key vi hok hiv (Cb.unchain key (Rc.lst key text) text) (by rw [hul2]; exact hm) (by rw [hul2]; omega) w15) ?_
   rintro _ w26 ⟨rfl, hb27⟩
   refine ⟨_, rfl, ?_⟩
   replace r_bx := r_bx.step hb27
   replace r_g := r_g.step hb27
   replace r_lb := r_lb.step hb27
   replace hk := thenB hk hb27
   refine w_mv (ev (.tuple #[.string (str (Cb.unchain key vi (Cb.unchain key (Rc.lst key text) text))), .int .i64 0]) rfl rfl) ?_
   refine w_val (y_ext (v := .string (str (Cb.unchain key vi (Cb.unchain key (Rc.lst key text) text)))) (ev (.tuple #[.string (str (Cb.unchain key vi (Cb.unchain key (Rc.lst key text) text))), .int .i64 0]) rfl rfl) rfl) ?_
   refine w_val (y_ext (v := .int .i64 0) (ev (.tuple #[.string (str (Cb.unchain key vi (Cb.unchain key (Rc.lst key text) text))), .int .i64 0]) rfl rfl) rfl) ?_
   refine w_as (ev (.string (str (Cb.unchain key vi (Cb.unchain key (Rc.lst key text) text)))) rfl rfl) ?_
   refine w_as (ev (.int .i64 0) rfl rfl) ?_
   refine nt ?_
   refine sr ?_
   refine w_mv (ev (.string (str (Rc.opn key vi text))) (Eq.trans (b := .string (str (Cb.unchain key vi (Cb.unchain key (Rc.lst key text) text)))) rfl (by rfl)) rfl) ?_
   refine w_val (v := U8 (gb (Rc.opn key vi text) 0)) (y_idx (ev (.string (str (Rc.opn key vi text))) rfl rfl) (evc (.int .i64 0)) Try.underlying9 (by omega) (by omega)) ?_
   refine w_val (v := .int .i64 (((gb (Rc.opn key vi text) 0).toNat : Nat) : Int)) (y_u8_i64 (ev (U8 (gb (Rc.opn key vi text) 0)) rfl rfl) RecDT.so5 Try.underlying3 (by have := (gb (Rc.opn key vi text) 0).isLt; omega)) ?_
   refine w_as (ev (.int .i64 (((gb (Rc.opn key vi text) 0).toNat : Nat) : Int)) rfl rfl) ?_
   refine nt ?_
   refine sr ?_
   refine w_mv (ev (.int .i64 (((Rc.kn (Rc.opn key vi text)) : Nat) : Int)) (Eq.trans (b := .int .i64 (((gb (Rc.opn key vi text) 0).toNat : Nat) : Int)) rfl (by rfl)) rfl) ?_
   refine w_call (Try.func35) (by kernel_rfl) rfl (m1 (ev (.int .i64 (((Rc.kn (Rc.opn key vi text)) : Nat) : Int)) rfl rfl)) (refFill_y (Rc.kn (Rc.opn key vi text)) (by omega) (by omega) w26) ?_
   rintro _ w28 ⟨rfl, hb29⟩
   refine ⟨_, rfl, ?_⟩
   replace r_bx := r_bx.step hb29
   replace r_g := r_g.step hb29
   replace r_lb := r_lb.step hb29
   replace hk := thenB hk hb29
   refine w_mv (ev (.tuple #[.int .i64 (((Rc.fl (Rc.kn (Rc.opn key vi text))) : Nat) : Int), .int .i64 0]) rfl rfl) ?_
   refine w_val (y_ext (v := .int .i64 (((Rc.fl (Rc.kn (Rc.opn key vi text))) : Nat) : Int)) (ev (.tuple #[.int .i64 (((Rc.fl (Rc.kn (Rc.opn key vi text))) : Nat) : Int), .int .i64 0]) rfl rfl) rfl) ?_
   refine w_val (y_ext (v := .int .i64 0) (ev (.tuple #[.int .i64 (((Rc.fl (Rc.kn (Rc.opn key vi text))) : Nat) : Int), .int .i64 0]) rfl rfl) rfl) ?_
   refine w_as (ev (.int .i64 (((Rc.fl (Rc.kn (Rc.opn key vi text))) : Nat) : Int)) rfl rfl) ?_
   refine w_as (ev (.int .i64 0) rfl rfl) ?_
   refine nt ?_
   refine ss ?_
   refine region_q RecDT.mixed (by kernel_rfl) ?_
   refine q_mv (ev (.int .i64 0) rfl rfl) ?_
   refine q_val (fun w' hw' => y_bin (ev (.int .i64 0) rfl rfl) (evc (.int .i64 0)) b_neq) ?_
   refine q_mv (ev (.bool false) rfl rfl) ?_
   refine q_val_g (v := .string (str (Rc.opn key vi text))) (want_yes (j := 2) rfl rfl (ev (.bool false) rfl rfl) rfl) (fun w' hw' => y_mv (ev (.string (str (Rc.opn key vi text))) (Eq.trans (b := .string (str (Cb.unchain key vi (Cb.unchain key (Rc.lst key text) text)))) rfl (by rfl)) rfl)) ?_
   refine q_val_g (want_yes (j := 2) rfl rfl (ev (.bool false) rfl rfl) rfl) (fun w' hw' => y_len (ev (.string (str (Rc.opn key vi text))) rfl rfl) Try.underlying9) ?_
   refine q_val_g (v := .int .i64 (((Rc.kn (Rc.opn key vi text)) : Nat) : Int)) (want_yes (j := 2) rfl rfl (ev (.bool false) rfl rfl) rfl) (fun w' hw' => y_mv (ev (.int .i64 (((Rc.kn (Rc.opn key vi text)) : Nat) : Int)) (Eq.trans (b := .int .i64 (((gb (Rc.opn key vi text) 0).toNat : Nat) : Int)) rfl (by rfl)) rfl)) ?_
   refine q_val_g (want_yes (j := 2) rfl rfl (ev (.bool false) rfl rfl) rfl) (fun w' hw' => y_bin (evc (.int .i64 4)) (ev (.int .i64 (((Rc.kn (Rc.opn key vi text)) : Nat) : Int)) rfl rfl) (b_add (by omega))) ?_
   refine q_val_g (v := .int .i64 (((Rc.fl (Rc.kn (Rc.opn key vi text))) : Nat) : Int)) (want_yes (j := 2) rfl rfl (ev (.bool false) rfl rfl) rfl) (fun w' hw' => y_mv (ev (.int .i64 (((Rc.fl (Rc.kn (Rc.opn key vi text))) : Nat) : Int)) rfl rfl)) ?_
   refine q_val_g (want_yes (j := 2) rfl rfl (ev (.bool false) rfl rfl) rfl) (fun w' hw' => y_bin (ev (.int .i64 (4 + (((Rc.kn (Rc.opn key vi text)) : Nat) : Int))) rfl rfl) (ev (.int .i64 (((Rc.fl (Rc.kn (Rc.opn key vi text))) : Nat) : Int)) rfl rfl) (b_add (by omega))) ?_
   refine q_val_g (want_yes (j := 2) rfl rfl (ev (.bool false) rfl rfl) rfl) (fun w' hw' => y_bin (ev (.int .i64 (((Rc.opn key vi text).length : Nat) : Int)) rfl rfl) (ev (.int .i64 ((4 + (((Rc.kn (Rc.opn key vi text)) : Nat) : Int)) + (((Rc.fl (Rc.kn (Rc.opn key vi text))) : Nat) : Int))) rfl rfl) b_neq) ?_
   refine q_val (fun w' hw' => y_pick_f (ev (.bool false) rfl rfl) (ev (.bool (decide ((((Rc.opn key vi text).length : Nat) : Int) ≠ ((4 + (((Rc.kn (Rc.opn key vi text)) : Nat) : Int)) + (((Rc.fl (Rc.kn (Rc.opn key vi text))) : Nat) : Int))))) rfl rfl)) ?_
   refine q_mv (ev (.bool (decide ((((Rc.opn key vi text).length : Nat) : Int) ≠ ((4 + (((Rc.kn (Rc.opn key vi text)) : Nat) : Int)) + (((Rc.fl (Rc.kn (Rc.opn key vi text))) : Nat) : Int))))) rfl rfl) ?_
   have hc30 : ¬ ((((Rc.opn key vi text).length : Nat) : Int) ≠ ((4 + (((Rc.kn (Rc.opn key vi text)) : Nat) : Int)) + (((Rc.fl (Rc.kn (Rc.opn key vi text))) : Nat) : Int))) := by omega
   refine q_val_g (v := .string (str (Rc.opn key vi text))) (want_yes (j := 11) rfl rfl (ev (.bool false) (Eq.trans (b := .bool (decide ((((Rc.opn key vi text).length : Nat) : Int) ≠ ((4 + (((Rc.kn (Rc.opn key vi text)) : Nat) : Int)) + (((Rc.fl (Rc.kn (Rc.opn key vi text))) : Nat) : Int))))) rfl (by rw [decide_eq_false hc30])) rfl) rfl) (fun w' hw' => y_mv (ev (.string (str (Rc.opn key vi text))) (Eq.trans (b := .string (str (Cb.unchain key vi (Cb.unchain key (Rc.lst key text) text)))) rfl (by rfl)) rfl)) ?_
   refine q_val_g (v := .string (str (((Rc.opn key vi text).drop 4).take 3))) (want_yes (j := 11) rfl rfl (ev (.bool false) (Eq.trans (b := .bool (decide ((((Rc.opn key vi text).length : Nat) : Int) ≠ ((4 + (((Rc.kn (Rc.opn key vi text)) : Nat) : Int)) + (((Rc.fl (Rc.kn (Rc.opn key vi text))) : Nat) : Int))))) rfl (by rw [decide_eq_false hc30])) rfl) rfl) (fun w' hw' => y_sls (ev (.string (str (Rc.opn key vi text))) rfl rfl) (evo.s (evc (.int .i64 4))) (evo.s (evc (.int .i64 7))) Try.underlying9 (bnd_lh (l := 4) (h := 7) (by omega) (by omega) (by omega) (by omega))) ?_
   refine q_unguard (want_yes (j := 11) rfl rfl (ev (.bool false) (Eq.trans (b := .bool (decide ((((Rc.opn key vi text).length : Nat) : Int) ≠ ((4 + (((Rc.kn (Rc.opn key vi text)) : Nat) : Int)) + (((Rc.fl (Rc.kn (Rc.opn key vi text))) : Nat) : Int))))) rfl (by rw [decide_eq_false hc30])) rfl) rfl) ?_
   refine q_call (v := .string (str (Oct.xor (((Rc.opn key vi text).drop 4).take 3) Rc.ff))) (Try.func59) (by kernel_rfl) rfl (m2 (ev (.string (str (((Rc.opn key vi text).drop 4).take 3))) rfl rfl) (evc (.string (str Rc.ff)))) (fun w' hw' => refXor_c (((Rc.opn key vi text).drop 4).take 3) Rc.ff (by (try simp only [Cb.dec_len, List.length_take, List.length_drop]); omega) w') ?_
   refine q_val_g (v := .string (str (Rc.opn key vi text))) (want_yes (j := 11) rfl rfl (ev (.bool false) (Eq.trans (b := .bool (decide ((((Rc.opn key vi text).length : Nat) : Int) ≠ ((4 + (((Rc.kn (Rc.opn key vi text)) : Nat) : Int)) + (((Rc.fl (Rc.kn (Rc.opn key vi text))) : Nat) : Int))))) rfl (by rw [decide_eq_false hc30])) rfl) rfl) (fun w' hw' => y_mv (ev (.string (str (Rc.opn key vi text))) (Eq.trans (b := .string (str (Cb.unchain key vi (Cb.unchain key (Rc.lst key text) text)))) rfl (by rfl)) rfl)) ?_
   refine q_val_g (v := .string (str (((Rc.opn key vi text).drop 1).take 3))) (want_yes (j := 11) rfl rfl (ev (.bool false) (Eq.trans (b := .bool (decide ((((Rc.opn key vi text).length : Nat) : Int) ≠ ((4 + (((Rc.kn (Rc.opn key vi text)) : Nat) : Int)) + (((Rc.fl (Rc.kn (Rc.opn key vi text))) : Nat) : Int))))) rfl (by rw [decide_eq_false hc30])) rfl) rfl) (fun w' hw' => y_sls (ev (.string (str (Rc.opn key vi text))) rfl rfl) (evo.s (evc (.int .i64 1))) (evo.s (evc (.int .i64 4))) Try.underlying9 (bnd_lh (l := 1) (h := 4) (by omega) (by omega) (by omega) (by omega))) ?_
   refine q_val_g (want_yes (j := 11) rfl rfl (ev (.bool false) (Eq.trans (b := .bool (decide ((((Rc.opn key vi text).length : Nat) : Int) ≠ ((4 + (((Rc.kn (Rc.opn key vi text)) : Nat) : Int)) + (((Rc.fl (Rc.kn (Rc.opn key vi text))) : Nat) : Int))))) rfl (by rw [decide_eq_false hc30])) rfl) rfl) (fun w' hw' => y_bin (ev (.string (str (Oct.xor (((Rc.opn key vi text).drop 4).take 3) Rc.ff))) rfl rfl) (ev (.string (str (((Rc.opn key vi text).drop 1).take 3))) rfl rfl) b_nes) ?_
   refine q_val (fun w' hw' => y_pick_f (ev (.bool false) (Eq.trans (b := .bool (decide ((((Rc.opn key vi text).length : Nat) : Int) ≠ ((4 + (((Rc.kn (Rc.opn key vi text)) : Nat) : Int)) + (((Rc.fl (Rc.kn (Rc.opn key vi text))) : Nat) : Int))))) rfl (by rw [decide_eq_false hc30])) rfl) (ev (.bool (decide ((Oct.xor (((Rc.opn key vi text).drop 4).take 3) Rc.ff) ≠ (((Rc.opn key vi text).drop 1).take 3)))) rfl rfl)) ?_
   refine q_nil ?_
   intro w31 hb32
   replace r_bx := r_bx.step hb32
   replace r_g := r_g.step hb32
   replace r_lb := r_lb.step hb32
   replace hk := thenB hk hb32
   refine then_n ?_
   have hc33 : (Oct.xor (((Rc.opn key vi text).drop 4).take 3) Rc.ff) ≠ (((Rc.opn key vi text).drop 1).take 3) := by exact fun h => hb ((Rc.three _ _ habl.1 habl.2).2 h)
   refine c_t (p := (Oct.xor (((Rc.opn key vi text).drop 4).take 3) Rc.ff) ≠ (((Rc.opn key vi text).drop 1).take 3)) (ev (.bool (decide ((Oct.xor (((Rc.opn key vi text).drop 4).take 3) Rc.ff) ≠ (((Rc.opn key vi text).drop 1).take 3)))) rfl rfl) hc33 ?_
   refine sr ?_
   refine w_as (evc (.string (str ([] : List (BitVec 8))))) ?_
   refine w_as (evc (.int .i64 8)) ?_
   refine nt ?_
   refine wp_ret ?_
   refine then_r ?_
   refine fin_ret2 rfl (ev (.string (str ([] : List (BitVec 8)))) rfl rfl) (ev (.int .i64 8) rfl rfl) ?_
   exact ⟨rfl, hk⟩

set_option maxRecDepth 100000 in
set_option maxHeartbeats 1000000 in
theorem refUnlock_y (key vi : List (BitVec 8)) (hok : Aes.okKey key.length) (hiv : vi.length = 16) (text : List (BitVec 8)) (n : Nat) (hn : text.length = n + 16) (hm : text.length % 16 = 0) (h32 : 32 ≤ text.length) (h272 : text.length ≤ 272) (h3 : 3 ≤ Rc.kn (Rc.opn key vi text)) (h255 : Rc.kn (Rc.opn key vi text) ≤ 255) (he : 4 + Rc.kn (Rc.opn key vi text) + Rc.fl (Rc.kn (Rc.opn key vi text)) = text.length) (hb : Oct.xor (Rc.A (Rc.opn key vi text)) (Rc.B (Rc.opn key vi text)) = Rc.ff) (w0 : World) : Calls Try.prog 40 #[.string (str key), .string (str vi), .string (str text)] w0 fun e w' => e = .returned (.tuple #[.string (str (((Rc.opn key vi text).drop 4).take (Rc.kn (Rc.opn key vi text)))), .int .i64 0]) ∧ Below w0.heap.size w0 w' := by
 have hll := Rc.lst_len key text h32
 have hol := Rc.opn_len key vi text
 have hul := Cb.unchain_len key (Rc.lst key text) (text.take n)
 have hul2 := Cb.unchain_len key (Rc.lst key text) text
 have hnl : (text.take n).length = n := by rw [List.length_take]; omega
 have hflb := Rc.fl_le (Rc.kn (Rc.opn key vi text))
 have habl := Rc.AB_len (Rc.opn key vi text) (by omega)
 refine enter (n := 121) Try.func40 rfl rfl rfl ?_
 have hk : Below w0.heap.size w0 w0 := Below.refl _ _
 refine sr ?_
 refine w_as (evc (.string (str ([] : List (BitVec 8))))) ?_
 refine w_as (evc (.int .i64 0)) ?_
 refine nt ?_
 refine wp_seq ?_
 refine sr ?_
 refine w_mv (ev (.string (str key)) rfl rfl) ?_
 refine w_mv (ev (.string (str vi)) rfl rfl) ?_
 refine w_call (Try.func66) (by kernel_rfl) rfl (m2 (ev (.string (str key)) rfl rfl) (ev (.string (str vi)) rfl rfl)) (rcRefWrong_y key vi hok hiv w0) ?_
 rintro _ w1 ⟨rfl, hb2⟩
 refine ⟨_, rfl, ?_⟩
 replace hk := thenB hk hb2
 refine w_as (ev (.int .i64 0) rfl rfl) ?_
 refine nt ?_
 refine sr ?_
 refine w_mv (ev (.int .i64 0) rfl rfl) ?_
 refine w_val (y_bin (ev (.int .i64 0) rfl rfl) (evc (.int .i64 0)) b_neq) ?_
 refine nt ?_
 refine c_ff (ev (.bool false) rfl rfl) ?_
 refine wp_skip ?_
 refine then_n ?_
 refine wp_seq ?_
 refine sr ?_
 refine w_mv (ev (.string (str text)) rfl rfl) ?_
 refine w_val (y_len (ev (.string (str text)) rfl rfl) Try.underlying9) ?_
 refine w_val (y_bin (ev (.int .i64 ((text.length : Nat) : Int)) rfl rfl) (evc (.int .i64 16)) (b_rem (by omega))) ?_
 refine w_val (y_bin (ev (.int .i64 (((text.length : Nat) : Int) % 16)) rfl rfl) (evc (.int .i64 0)) b_neq) ?_
 refine w_mv (ev (.bool (decide ((((text.length : Nat) : Int) % 16) ≠ 0))) rfl rfl) ?_
 have hc3 : ¬ ((((text.length : Nat) : Int) % 16) ≠ 0) := by omega
 refine w_val_g (v := .string (str text)) (want_yes (j := 4) rfl rfl (ev (.bool false) (Eq.trans (b := .bool (decide ((((text.length : Nat) : Int) % 16) ≠ 0))) rfl (by rw [decide_eq_false hc3])) rfl) rfl) (y_mv (ev (.string (str text)) rfl rfl)) ?_
 refine w_val_g (want_yes (j := 4) rfl rfl (ev (.bool false) (Eq.trans (b := .bool (decide ((((text.length : Nat) : Int) % 16) ≠ 0))) rfl (by rw [decide_eq_false hc3])) rfl) rfl) (y_len (ev (.string (str text)) rfl rfl) Try.underlying9) ?_
 refine w_val_g (want_yes (j := 4) rfl rfl (ev (.bool false) (Eq.trans (b := .bool (decide ((((text.length : Nat) : Int) % 16) ≠ 0))) rfl (by rw [decide_eq_false hc3])) rfl) rfl) (y_bin (ev (.int .i64 ((text.length : Nat) : Int)) rfl rfl) (evc (.int .i64 32)) b_lss) ?_
 refine w_val (y_pick_f (ev (.bool false) (Eq.trans (b := .bool (decide ((((text.length : Nat) : Int) % 16) ≠ 0))) rfl (by rw [decide_eq_false hc3])) rfl) (ev (.bool (decide (((text.length : Nat) : Int) < 32))) rfl rfl)) ?_
 refine w_mv (ev (.bool (decide (((text.length : Nat) : Int) < 32))) rfl rfl) ?_
 have hc4 : ¬ (((text.length : Nat) : Int) < 32) := by omega
 refine w_val_g (v := .string (str text)) (want_yes (j := 9) rfl rfl (ev (.bool false) (Eq.trans (b := .bool (decide (((text.length : Nat) : Int) < 32))) rfl (by rw [decide_eq_false hc4])) rfl) rfl) (y_mv (ev (.string (str text)) rfl rfl)) ?_
 refine w_val_g (want_yes (j := 9) rfl rfl (ev (.bool false) (Eq.trans (b := .bool (decide (((text.length : Nat) : Int) < 32))) rfl (by rw [decide_eq_false hc4])) rfl) rfl) (y_len (ev (.string (str text)) rfl rfl) Try.underlying9) ?_
 refine w_val_g (want_yes (j := 9) rfl rfl (ev (.bool false) (Eq.trans (b := .bool (decide (((text.length : Nat) : Int) < 32))) rfl (by rw [decide_eq_false hc4])) rfl) rfl) (y_bin (ev (.int .i64 ((text.length : Nat) : Int)) rfl rfl) (evc (.int .i64 272)) b_gtr) ?_
 refine w_val (y_pick_f (ev (.bool false) (Eq.trans (b := .bool (decide (((text.length : Nat) : Int) < 32))) rfl (by rw [decide_eq_false hc4])) rfl) (ev (.bool (decide (272 < ((text.length : Nat) : Int)))) rfl rfl)) ?_
 refine nt ?_
 have hc5 : ¬ (272 < ((text.length : Nat) : Int)) := by omega
 refine c_f (p := 272 < ((text.length : Nat) : Int)) (ev (.bool (decide (272 < ((text.length : Nat) : Int)))) rfl rfl) hc5 ?_
 refine wp_skip ?_
 refine then_n ?_
 refine sr ?_
 refine w_mv (ev (.string (str key)) rfl rfl) ?_
 refine w_call (Try.func56) (by kernel_rfl) rfl (m1 (ev (.string (str key)) rfl rfl)) (refNew_l key w1 hok) ?_
 rintro _ w6 ⟨bx, g, cap, rfl, hbn, hge_bx, hge_g, r_bx, r_g⟩
 refine ⟨_, rfl, ?_⟩
 have ge_bx : w0.heap.size ≤ bx := by have := hk.size; omega
 have ge_g : w0.heap.size ≤ g := by have := hk.size; omega
 replace hk := thenB hk hbn
 refine w_as (ev (pt bx 0) rfl rfl) ?_
 refine nt ?_
 refine sr ?_
 refine w_mv (ev (.string (str text)) rfl rfl) ?_
 refine w_call (Try.func57) (by kernel_rfl) rfl (m1 (ev (.string (str text)) rfl rfl)) (refBlocks_y text (by omega) (by omega) w6) ?_
 rintro _ w7 ⟨lb, capl, rfl, hge_lb, r_lb, hbl⟩
 refine ⟨_, rfl, ?_⟩
 have ne_bx_lb : bx ≠ lb := by have := r_bx.lt; omega
 have ne_g_lb : g ≠ lb := by have := r_g.lt; omega
 have ge_lb : w0.heap.size ≤ lb := by have := hk.size; omega
 replace r_bx := r_bx.step hbl
 replace r_g := r_g.step hbl
 replace hk := thenB hk hbl
 refine w_as (ev (.slice (some ⟨lb, 0, none⟩) (text.length / 16) capl) rfl rfl) ?_
 refine nt ?_
 refine wp_seq ?_
 refine region_dc (Nat.testBit 0) 16 RecDT.mixed rfl ?_
 intro w8 hb9
 replace r_bx := r_bx.step hb9
 replace r_g := r_g.step hb9
 replace r_lb := r_lb.step hb9
 replace hk := thenB hk hb9
 have hS : Cls w8 w8 := Below.refl _ _
 refine d_pure (v := pt bx 0) 0 rfl (by kernel_rfl) (by kernel_rfl) (by kernel_rfl) (by kernel_rfl) (fun _ _ _ h => h) (fun w' => y_mv (ev (pt bx 0) rfl rfl)) ?_
 refine d_pure (v := .slice (some ⟨lb, 0, none⟩) (text.length / 16) capl) 1 rfl (by kernel_rfl) (by kernel_rfl) (by kernel_rfl) (by kernel_rfl) (fun _ _ _ h => h) (fun w' => y_mv (ev (.slice (some ⟨lb, 0, none⟩) (text.length / 16) capl) rfl rfl)) ?_
 refine d_pure (v := .slice (some ⟨lb, 0, none⟩) (text.length / 16) capl) 2 rfl (by kernel_rfl) (by kernel_rfl) (by kernel_rfl) (by kernel_rfl) (fun _ _ _ h => h) (fun w' => y_mv (ev (.slice (some ⟨lb, 0, none⟩) (text.length / 16) capl) rfl rfl)) ?_
 refine d_pure (v := .int .i64 (((text.length / 16) : Nat) : Int)) 3 rfl (by kernel_rfl) (by kernel_rfl) (by kernel_rfl) (by kernel_rfl) (fun _ _ _ h => h) (fun w' => y_len_sl (ev (.slice (some ⟨lb, 0, none⟩) (text.length / 16) capl) rfl rfl) Try.underlying68) ?_
 refine d_pure (v := .int .i64 ((((text.length / 16) : Nat) : Int) - 1)) 4 rfl (by kernel_rfl) (by kernel_rfl) (by kernel_rfl) (by kernel_rfl) (fun _ _ _ h => h) (fun w' => y_bin (ev (.int .i64 (((text.length / 16) : Nat) : Int)) rfl rfl) (evc (.int .i64 1)) (b_sub (by omega))) ?_
 refine d_pure (v := pt lb ((text.length / 16) - 1)) 5 rfl (by kernel_rfl) (by kernel_rfl) (by kernel_rfl) (by kernel_rfl) (fun _ _ _ h => h) (fun w' => y_is1z (i := ((text.length / 16) - 1)) (ev (.slice (some ⟨lb, 0, none⟩) (text.length / 16) capl) rfl rfl) (ev (.int .i64 ((((text.length / 16) : Nat) : Int) - 1)) rfl rfl) Try.underlying68 RecDT.sz9 (by omega) (by omega)) ?_
 refine d_take (v := .string (str (Cb.bk text ((text.length / 16) - 1)))) 6 (Nat.testBit 49344) rfl (by kernel_rfl) (by kernel_rfl) (by kernel_rfl) (by kernel_rfl) (by kernel_rfl) (by kernel_rfl) (fun _ _ _ h => h) hS (fun w' hw' => y_ld (ev (pt lb ((text.length / 16) - 1)) rfl rfl) RecDT.sc9 (cls_cell (r_lb.val (by omega) rfl) r_lb.lt w' hw')) ?_
 refine d_pure (v := .slice (some ⟨lb, 0, none⟩) (text.length / 16) capl) 8 rfl (by kernel_rfl) (by kernel_rfl) (by kernel_rfl) (by kernel_rfl) (fun _ _ _ h => h) (fun w' => y_mv (ev (.slice (some ⟨lb, 0, none⟩) (text.length / 16) capl) rfl rfl)) ?_
 refine d_pure (v := .slice (some ⟨lb, 0, none⟩) (text.length / 16) capl) 9 rfl (by kernel_rfl) (by kernel_rfl) (by kernel_rfl) (by kernel_rfl) (fun _ _ _ h => h) (fun w' => y_mv (ev (.slice (some ⟨lb, 0, none⟩) (text.length / 16) capl) rfl rfl)) ?_
 refine d_pure (v := .int .i64 (((text.length / 16) : Nat) : Int)) 10 rfl (by kernel_rfl) (by kernel_rfl) (by kernel_rfl) (by kernel_rfl) (fun _ _ _ h => h) (fun w' => y_len_sl (ev (.slice (some ⟨lb, 0, none⟩) (text.length / 16) capl) rfl rfl) Try.underlying68) ?_
 refine d_pure (v := .int .i64 ((((text.length / 16) : Nat) : Int) - 2)) 11 rfl (by kernel_rfl) (by kernel_rfl) (by kernel_rfl) (by kernel_rfl) (fun _ _ _ h => h) (fun w' => y_bin (ev (.int .i64 (((text.length / 16) : Nat) : Int)) rfl rfl) (evc (.int .i64 2)) (b_sub (by omega))) ?_
 refine d_pure (v := pt lb ((text.length / 16) - 2)) 12 rfl (by kernel_rfl) (by kernel_rfl) (by kernel_rfl) (by kernel_rfl) (fun _ _ _ h => h) (fun w' => y_is1z (i := ((text.length / 16) - 2)) (ev (.slice (some ⟨lb, 0, none⟩) (text.length / 16) capl) rfl rfl) (ev (.int .i64 ((((text.length / 16) : Nat) : Int) - 2)) rfl rfl) Try.underlying68 RecDT.sz9 (by omega) (by omega)) ?_
 refine d_take (v := .string (str (Cb.bk text ((text.length / 16) - 2)))) 13 (Nat.testBit 57344) rfl (by kernel_rfl) (by kernel_rfl) (by kernel_rfl) (by kernel_rfl) (by kernel_rfl) (by kernel_rfl) (fun _ _ _ h => h) hS (fun w' hw' => y_ld (ev (pt lb ((text.length / 16) - 2)) rfl rfl) RecDT.sc9 (cls_cell (r_lb.val (by omega) rfl) r_lb.lt w' hw')) ?_
 refine d_one 7 (by kernel_rfl) rfl ?_
 refine w_call (Try.func61) (by kernel_rfl) rfl (m2 (ev (pt bx 0) rfl rfl) (ev (.string (str (Cb.bk text ((text.length / 16) - 1)))) rfl rfl)) (refDec_l bx g cap key (Cb.bk text ((text.length / 16) - 1)) w8 hok (Cb.bk_len _ _ (by omega)) r_bx r_g) ?_
 rintro _ w10 ⟨rfl, hb11⟩
 refine ⟨_, rfl, ?_⟩
 replace r_bx := r_bx.step hb11
 replace r_g := r_g.step hb11
 replace r_lb := r_lb.step hb11
 replace hk := thenB hk hb11
 replace hS := thenB hS hb11
 refine wpList_nil ?_
 refine then_n ⟨fun _ h => thenB h (by assumption), ?_⟩
 refine d_one 14 (by kernel_rfl) rfl ?_
 refine w_call (Try.func59) (by kernel_rfl) rfl (m2 (ev (.string (str (Aes.dec (Aes.words key) (Cb.bk text ((text.length / 16) - 1))))) rfl rfl) (ev (.string (str (Cb.bk text ((text.length / 16) - 2)))) rfl rfl)) (refXor_c (Aes.dec (Aes.words key) (Cb.bk text ((text.length / 16) - 1))) (Cb.bk text ((text.length / 16) - 2)) (by (try simp only [Cb.dec_len, List.length_take, List.length_drop]); omega) w10) ?_
 rintro _ w12 ⟨rfl, hb13⟩
 refine ⟨_, rfl, ?_⟩
 replace r_bx := r_bx.step hb13
 replace r_g := r_g.step hb13
 replace r_lb := r_lb.step hb13
 replace hk := thenB hk hb13
 replace hS := thenB hS hb13
 refine wpList_nil ?_
 refine then_n ⟨fun _ h => thenB h (by assumption), ?_⟩
 refine d_pure (v := .string (str (Oct.xor (Aes.dec (Aes.words key) (Cb.bk text ((text.length / 16) - 1))) (Cb.bk text ((text.length / 16) - 2))))) 15 rfl (by kernel_rfl) (by kernel_rfl) (by kernel_rfl) (by kernel_rfl) (fun _ _ _ h => h) (fun w' => y_as (ev (.string (str (Oct.xor (Aes.dec (Aes.words key) (Cb.bk text ((text.length / 16) - 1))) (Cb.bk text ((text.length / 16) - 2))))) rfl rfl)) ?_
 refine d_done (by kernel_rfl) ?_
 clear hS
 refine then_n ?_
 refine sr ?_
 refine w_as (evc (.string (str ([] : List (BitVec 8))))) ?_
 refine nt ?_
 refine wp_seq ?_
 refine sr ?_
 refine w_as (evc (.int .i64 0)) ?_
 refine nt ?_
 refine wp_block ?_
 refine c_loop (fun dN aN wl => ∃ (t : Nat), dN = (text.length / 16 - t) ∧ ∃ f14, aN = fr 121 f14 ∧ (t ≤ text.length / 16) ∧ f14 0 = .string (str key) ∧ f14 1 = .string (str vi) ∧ f14 2 = .string (str text) ∧ f14 6 = .string (str ([] : List (BitVec 8))) ∧ f14 7 = .int .i64 0 ∧ f14 8 = .int .i64 0 ∧ f14 9 = pt bx 0 ∧ f14 10 = .slice (some ⟨lb, 0, none⟩) (text.length / 16) capl ∧ f14 11 = .string (str (Rc.lst key text)) ∧ f14 12 = .string (str ((Cb.unchain key (Rc.lst key text) text).take (16 * t))) ∧ f14 13 = .int .i64 ((t : Nat) : Int) ∧ Row wl bx 99 513 (fun j => if j < 256 then U8 (Aes.sb j) else if j < 512 then U8 (Aes.bk (j - 256)) else .slice (some ⟨g, 0, none⟩) ((Aes.words key).length) cap) ∧ Row wl g 102 ((Aes.words key).length * 4) (fun j => U8 (Aes.byteOf (Aes.gw (Aes.words key) (j / 4)) (j % 4))) ∧ Row wl lb 9 (text.length / 16 * 1) (fun j => .string (str (Cb.bk text j))) ∧ Below w0.heap.size w0 wl) (text.length / 16 - 0) ?_ ?_
 · exact ⟨0, rfl, _, rfl, iv, rfl, rfl, rfl, rfl, rfl, rfl, rfl, rfl, (Eq.trans (b := .string (str (Oct.xor (Aes.dec (Aes.words key) (Cb.bk text ((text.length / 16) - 1))) (Cb.bk text ((text.length / 16) - 2))))) rfl (by rfl)), (Eq.trans (b := .string (str ([] : List (BitVec 8)))) rfl (by rfl)), (etv (b := .int .i64 0) rfl), r_bx, r_g, r_lb, hk⟩
 ·skip
  clear r_bx r_g r_lb hk
  rintro _ _ w15 ⟨t, rfl, f14, rfl, i1_0, s1_0, s1_1, s1_2, s1_6, s1_7, s1_8, s1_9, s1_10, s1_11, s1_12, s1_13, r_bx, r_g, r_lb, hk⟩
  refine wp_seq ?_
  refine sr ?_
  refine w_mv (ev (.int .i64 ((t : Nat) : Int)) s1_13 rfl) ?_
  refine w_mv (ev (.slice (some ⟨lb, 0, none⟩) (text.length / 16) capl) s1_10 rfl) ?_
  refine w_val (v := .int .i64 (((text.length / 16) : Nat) : Int)) (y_len_sl (ev (.slice (some ⟨lb, 0, none⟩) (text.length / 16) capl) rfl rfl) Try.underlying68) ?_
  refine w_val (y_bin (ev (.int .i64 ((t : Nat) : Int)) rfl rfl) (ev (.int .i64 (((text.length / 16) : Nat) : Int)) rfl rfl) b_lss) ?_
  refine nt ?_
  refine c_if (p := ((t : Nat) : Int) < (((text.length / 16) : Nat) : Int)) (ev (.bool (decide (((t : Nat) : Int) < (((text.length / 16) : Nat) : Int)))) rfl rfl) (fun hc16 => ?_) (fun hc16 => ?_)
  ·skip
   refine wp_skip ?_
   refine then_n ?_
   refine wp_seq ?_
   refine wp_block ?_
   refine sr ?_
   refine w_mv (ev (.string (str (Rc.lst key text))) s1_11 rfl) ?_
   refine w_as (ev (.string (str (Rc.lst key text))) rfl rfl) ?_
   refine nt ?_
   refine wp_seq ?_
   refine sr ?_
   refine w_mv (ev (.int .i64 ((t : Nat) : Int)) s1_13 rfl) ?_
   refine w_val (y_bin (ev (.int .i64 ((t : Nat) : Int)) rfl rfl) (evc (.int .i64 0)) b_gtr) ?_
   refine nt ?_
   refine c_if (p := 0 < ((t : Nat) : Int)) (ev (.bool (decide (0 < ((t : Nat) : Int)))) rfl rfl) (fun hc17 => ?_) (fun hc17 => ?_)
   ·skip
    refine wp_region_lit ?_
    refine w_mv (ev (.slice (some ⟨lb, 0, none⟩) (text.length / 16) capl) s1_10 rfl) ?_
    refine w_mv (ev (.int .i64 ((t : Nat) : Int)) s1_13 rfl) ?_
    refine w_val (y_bin (ev (.int .i64 ((t : Nat) : Int)) rfl rfl) (evc (.int .i64 1)) (b_sub (by omega))) ?_
    refine w_val (y_is1z (i := (t - 1)) (ev (.slice (some ⟨lb, 0, none⟩) (text.length / 16) capl) rfl rfl) (ev (.int .i64 (((t : Nat) : Int) - 1)) rfl rfl) Try.underlying68 RecDT.sz9 (by omega) (by omega)) ?_
    refine w_val (v := .string (str (Cb.bk text (t - 1)))) (y_ld (ev (pt lb (t - 1)) rfl rfl) RecDT.sc9 (r_lb.val (by omega) rfl)) ?_
    refine w_as (ev (.string (str (Cb.bk text (t - 1)))) rfl rfl) ?_
    refine nt ?_
    refine wp_region_lit ?_
    refine w_mv (ev (.string (str ((Cb.unchain key (Rc.lst key text) text).take (16 * t)))) s1_12 rfl) ?_
    refine w_mv (ev (pt bx 0) s1_9 rfl) ?_
    refine w_mv (ev (.slice (some ⟨lb, 0, none⟩) (text.length / 16) capl) s1_10 rfl) ?_
    refine w_mv (ev (.int .i64 ((t : Nat) : Int)) s1_13 rfl) ?_
    refine w_val (y_is1z (i := t) (ev (.slice (some ⟨lb, 0, none⟩) (text.length / 16) capl) rfl rfl) (ev (.int .i64 ((t : Nat) : Int)) rfl rfl) Try.underlying68 RecDT.sz9 (by omega) (by omega)) ?_
    refine w_val (v := .string (str (Cb.bk text t))) (y_ld (ev (pt lb t) rfl rfl) RecDT.sc9 (r_lb.val (by omega) rfl)) ?_
    refine w_call (Try.func61) (by kernel_rfl) rfl (m2 (ev (pt bx 0) rfl rfl) (ev (.string (str (Cb.bk text t))) rfl rfl)) (refDec_l bx g cap key (Cb.bk text t) w15 hok (Cb.bk_len _ _ (by omega)) r_bx r_g) ?_
    rintro _ w18 ⟨rfl, hb19⟩
    refine ⟨_, rfl, ?_⟩
    replace r_bx := r_bx.step hb19
    replace r_g := r_g.step hb19
    replace r_lb := r_lb.step hb19
    replace hk := thenB hk hb19
    refine w_mv (ev (.string (str (Cb.bk text (t - 1)))) rfl rfl) ?_
    refine w_call (Try.func59) (by kernel_rfl) rfl (m2 (ev (.string (str (Aes.dec (Aes.words key) (Cb.bk text t)))) rfl rfl) (ev (.string (str (Cb.bk text (t - 1)))) rfl rfl)) (refXor_c (Aes.dec (Aes.words key) (Cb.bk text t)) (Cb.bk text (t - 1)) (by (try simp only [Cb.dec_len, List.length_take, List.length_drop]); omega) w18) ?_
    rintro _ w20 ⟨rfl, hb21⟩
    refine ⟨_, rfl, ?_⟩
    replace r_bx := r_bx.step hb21
    replace r_g := r_g.step hb21
    replace r_lb := r_lb.step hb21
    replace hk := thenB hk hb21
    refine w_val (y_bin (ev (.string (str ((Cb.unchain key (Rc.lst key text) text).take (16 * t)))) rfl rfl) (ev (.string (str (Oct.xor (Aes.dec (Aes.words key) (Cb.bk text t)) (Cb.bk text (t - 1))))) rfl rfl) (b_cat (by simp only [List.length_take, hul2, Oct.length_xor, Cb.dec_len]; omega))) ?_
    refine w_as (ev (.string (str (((Cb.unchain key (Rc.lst key text) text).take (16 * t)) ++ (Oct.xor (Aes.dec (Aes.words key) (Cb.bk text t)) (Cb.bk text (t - 1)))))) rfl rfl) ?_
    refine wpList_nil ?_
    refine inb_n ?_
    refine then_n ?_
    refine wp_region_lit ?_
    refine w_mv (ev (.int .i64 ((t : Nat) : Int)) s1_13 rfl) ?_
    refine w_val (y_bin (ev (.int .i64 ((t : Nat) : Int)) rfl rfl) (evc (.int .i64 1)) (b_add (by omega))) ?_
    refine w_as (ev (.int .i64 (((t : Nat) : Int) + 1)) rfl rfl) ?_
    refine wpList_nil ?_
    exact then_n ⟨_, (by omega), t + 1, rfl, _, rfl, iv, s1_0, s1_1, s1_2, s1_6, s1_7, s1_8, s1_9, s1_10, s1_11, (Eq.trans (b := .string (str (((Cb.unchain key (Rc.lst key text) text).take (16 * t)) ++ (Oct.xor (Aes.dec (Aes.words key) (Cb.bk text t)) (Cb.bk text (t - 1)))))) rfl (by first | exact congrArg (fun l => Value.string (str l)) (Rc.next_in key text t hm h32 (by omega) (by omega)) | exact congrArg (fun l => Value.string (str l)) (Rc.next_0 key text t hm h32 (by omega) (by omega)))), (etv (b := .int .i64 (((t : Nat) : Int) + 1)) rfl), r_bx, r_g, r_lb, hk⟩
   ·skip
    refine wp_skip ?_
    refine then_n ?_
    refine wp_region_lit ?_
    refine w_mv (ev (.string (str ((Cb.unchain key (Rc.lst key text) text).take (16 * t)))) s1_12 rfl) ?_
    refine w_mv (ev (pt bx 0) s1_9 rfl) ?_
    refine w_mv (ev (.slice (some ⟨lb, 0, none⟩) (text.length / 16) capl) s1_10 rfl) ?_
    refine w_mv (ev (.int .i64 ((t : Nat) : Int)) s1_13 rfl) ?_
    refine w_val (y_is1z (i := t) (ev (.slice (some ⟨lb, 0, none⟩) (text.length / 16) capl) rfl rfl) (ev (.int .i64 ((t : Nat) : Int)) rfl rfl) Try.underlying68 RecDT.sz9 (by omega) (by omega)) ?_
    refine w_val (v := .string (str (Cb.bk text t))) (y_ld (ev (pt lb t) rfl rfl) RecDT.sc9 (r_lb.val (by omega) rfl)) ?_
    refine w_call (Try.func61) (by kernel_rfl) rfl (m2 (ev (pt bx 0) rfl rfl) (ev (.string (str (Cb.bk text t))) rfl rfl)) (refDec_l bx g cap key (Cb.bk text t) w15 hok (Cb.bk_len _ _ (by omega)) r_bx r_g) ?_
    rintro _ w22 ⟨rfl, hb23⟩
    refine ⟨_, rfl, ?_⟩
    replace r_bx := r_bx.step hb23
    replace r_g := r_g.step hb23
    replace r_lb := r_lb.step hb23
    replace hk := thenB hk hb23
    refine w_mv (ev (.string (str (Rc.lst key text))) rfl rfl) ?_
    refine w_call (Try.func59) (by kernel_rfl) rfl (m2 (ev (.string (str (Aes.dec (Aes.words key) (Cb.bk text t)))) rfl rfl) (ev (.string (str (Rc.lst key text))) rfl rfl)) (refXor_c (Aes.dec (Aes.words key) (Cb.bk text t)) (Rc.lst key text) (by (try simp only [Cb.dec_len, List.length_take, List.length_drop]); omega) w22) ?_
    rintro _ w24 ⟨rfl, hb25⟩
    refine ⟨_, rfl, ?_⟩
    replace r_bx := r_bx.step hb25
    replace r_g := r_g.step hb25
    replace r_lb := r_lb.step hb25
    replace hk := thenB hk hb25
    refine w_val (y_bin (ev (.string (str ((Cb.unchain key (Rc.lst key text) text).take (16 * t)))) rfl rfl) (ev (.string (str (Oct.xor (Aes.dec (Aes.words key) (Cb.bk text t)) (Rc.lst key text)))) rfl rfl) (b_cat (by simp only [List.length_take, hul2, Oct.length_xor, Cb.dec_len]; omega))) ?_
    refine w_as (ev (.string (str (((Cb.unchain key (Rc.lst key text) text).take (16 * t)) ++ (Oct.xor (Aes.dec (Aes.words key) (Cb.bk text t)) (Rc.lst key text))))) rfl rfl) ?_
    refine wpList_nil ?_
    refine inb_n ?_
    refine then_n ?_
    refine wp_region_lit ?_
    refine w_mv (ev (.int .i64 ((t : Nat) : Int)) s1_13 rfl) ?_
    refine w_val (y_bin (ev (.int .i64 ((t : Nat) : Int)) rfl rfl) (evc (.int .i64 1)) (b_add (by omega))) ?_
    refine w_as (ev (.int .i64 (((t : Nat) : Int) + 1)) rfl rfl) ?_
    refine wpList_nil ?_
    exact then_n ⟨_, (by omega), t + 1, rfl, _, rfl, iv, s1_0, s1_1, s1_2, s1_6, s1_7, s1_8, s1_9, s1_10, s1_11, (Eq.trans (b := .string (str (((Cb.unchain key (Rc.lst key text) text).take (16 * t)) ++ (Oct.xor (Aes.dec (Aes.words key) (Cb.bk text t)) (Rc.lst key text))))) rfl (by first | exact congrArg (fun l => Value.string (str l)) (Rc.next_in key text t hm h32 (by omega) (by omega)) | exact congrArg (fun l => Value.string (str l)) (Rc.next_0 key text t hm h32 (by omega) (by omega)))), (etv (b := .int .i64 (((t : Nat) : Int) + 1)) rfl), r_bx, r_g, r_lb, hk⟩
  ·skip
   refine wp_exit ?_
   refine then_x ?_
   refine then_x ?_
   refine inb_x ?_
   refine then_n ?_
   refine sr ?_
   refine w_mv (ev (.string (str key)) s1_0 rfl) ?_
   refine w_mv (ev (.string (str vi)) s1_1 rfl) ?_
   refine w_mv (ev (.string (str (Cb.unchain key (Rc.lst key text) text))) (by refine Eq.trans (b := .string (str ((Cb.unchain key (Rc.lst key text) text).take (16 * t)))) ?_ ?_; exact s1_12; (exact congrArg (fun l => Value.string (str l)) (List.take_of_length_le (by rw [hul2]; omega)))) rfl) ?_
   refine w_call (Try.func27) (by kernel_rfl) rfl (m3 (ev (.string (str key)) rfl rfl) (ev (.string (str vi)) rfl rfl) (ev (.string (str (Cb.unchain key (Rc.lst key text) text))) rfl rfl)) (refUnchain_y key vi hok hiv (Cb.unchain key (Rc.lst key text) text) (by rw [hul2]; exact hm) (by rw [hul2]; omega) w15) ?_
   rintro _ w26 ⟨rfl, hb27⟩
   refine ⟨_, rfl, ?_⟩
   replace r_bx := r_bx.step hb27
   replace r_g := r_g.step hb27
   replace r_lb := r_lb.step hb27
   replace hk := thenB hk hb27
   refine w_mv (ev (.tuple #[.string (str (Cb.unchain key vi (Cb.unchain key (Rc.lst key text) text))), .int .i64 0]) rfl rfl) ?_
   refine w_val (y_ext (v := .string (str (Cb.unchain key vi (Cb.unchain key (Rc.lst key text) text)))) (ev (.tuple #[.string (str (Cb.unchain key vi (Cb.unchain key (Rc.lst key text) text))), .int .i64 0]) rfl rfl) rfl) ?_
   refine w_val (y_ext (v := .int .i64 0) (ev (.tuple #[.string (str (Cb.unchain key vi (Cb.unchain key (Rc.lst key text) text))), .int .i64 0]) rfl rfl) rfl) ?_
   refine w_as (ev (.string (str (Cb.unchain key vi (Cb.unchain key (Rc.lst key text) text)))) rfl rfl) ?_
   refine w_as (ev (.int .i64 0) rfl rfl) ?_
   refine nt ?_
   refine sr ?_
   refine w_mv (ev (.string (str (Rc.opn key vi text))) (Eq.trans (b := .string (str (Cb.unchain key vi (Cb.unchain key (Rc.lst key text) text)))) rfl (by rfl)) rfl) ?_
   refine w_val (v := U8 (gb (Rc.opn key vi text) 0)) (y_idx (ev (.string (str (Rc.opn key vi text))) rfl rfl) (evc (.int .i64 0)) Try.underlying9 (by omega) (by omega)) ?_
   refine w_val (v := .int .i64 (((gb (Rc.opn key vi text) 0).toNat : Nat) : Int)) (y_u8_i64 (ev (U8 (gb (Rc.opn key vi text) 0)) rfl rfl) RecDT.so5 Try.underlying3 (by have := (gb (Rc.opn key vi text) 0).isLt; omega)) ?_
   refine w_as (ev (.int .i64 (((gb (Rc.opn key vi text) 0).toNat : Nat) : Int)) rfl rfl) ?_
   refine nt ?_
   refine sr ?_
   refine w_mv (ev (.int .i64 (((Rc.kn (Rc.opn key vi text)) : Nat) : Int)) (Eq.trans (b := .int .i64 (((gb (Rc.opn key vi text) 0).toNat : Nat) : Int)) rfl (by rfl)) rfl) ?_
   refine w_call (Try.func35) (by kernel_rfl) rfl (m1 (ev (.int .i64 (((Rc.kn (Rc.opn key vi text)) : Nat) : Int)) rfl rfl)) (refFill_y (Rc.kn (Rc.opn key vi text)) (by omega) (by omega) w26) ?_
   rintro _ w28 ⟨rfl, hb29⟩
   refine ⟨_, rfl, ?_⟩
   replace r_bx := r_bx.step hb29
   replace r_g := r_g.step hb29
   replace r_lb := r_lb.step hb29
   replace hk := thenB hk hb29
   refine w_mv (ev (.tuple #[.int .i64 (((Rc.fl (Rc.kn (Rc.opn key vi text))) : Nat) : Int), .int .i64 0]) rfl rfl) ?_
   refine w_val (y_ext (v := .int .i64 (((Rc.fl (Rc.kn (Rc.opn key vi text))) : Nat) : Int)) (ev (.tuple #[.int .i64 (((Rc.fl (Rc.kn (Rc.opn key vi text))) : Nat) : Int), .int .i64 0]) rfl rfl) rfl) ?_
   refine w_val (y_ext (v := .int .i64 0) (ev (.tuple #[.int .i64 (((Rc.fl (Rc.kn (Rc.opn key vi text))) : Nat) : Int), .int .i64 0]) rfl rfl) rfl) ?_
   refine w_as (ev (.int .i64 (((Rc.fl (Rc.kn (Rc.opn key vi text))) : Nat) : Int)) rfl rfl) ?_
   refine w_as (ev (.int .i64 0) rfl rfl) ?_
   refine nt ?_
   refine ss ?_
   refine region_q RecDT.mixed (by kernel_rfl) ?_
   refine q_mv (ev (.int .i64 0) rfl rfl) ?_
   refine q_val (fun w' hw' => y_bin (ev (.int .i64 0) rfl rfl) (evc (.int .i64 0)) b_neq) ?_
   refine q_mv (ev (.bool false) rfl rfl) ?_
   refine q_val_g (v := .string (str (Rc.opn key vi text))) (want_yes (j := 2) rfl rfl (ev (.bool false) rfl rfl) rfl) (fun w' hw' => y_mv (ev (.string (str (Rc.opn key vi text))) (Eq.trans (b := .string (str (Cb.unchain key vi (Cb.unchain key (Rc.lst key text) text)))) rfl (by rfl)) rfl)) ?_
   refine q_val_g (want_yes (j := 2) rfl rfl (ev (.bool false) rfl rfl) rfl) (fun w' hw' => y_len (ev (.string (str (Rc.opn key vi text))) rfl rfl) Try.underlying9) ?_
   refine q_val_g (v := .int .i64 (((Rc.kn (Rc.opn key vi text)) : Nat) : Int)) (want_yes (j := 2) rfl rfl (ev (.bool false) rfl rfl) rfl) (fun w' hw' => y_mv (ev (.int .i64 (((Rc.kn (Rc.opn key vi text)) : Nat) : Int)) (Eq.trans (b := .int .i64 (((gb (Rc.opn key vi text) 0).toNat : Nat) : Int)) rfl (by rfl)) rfl)) ?_
   refine q_val_g (want_yes (j := 2) rfl rfl (ev (.bool false) rfl rfl) rfl) (fun w' hw' => y_bin (evc (.int .i64 4)) (ev (.int .i64 (((Rc.kn (Rc.opn key vi text)) : Nat) : Int)) rfl rfl) (b_add (by omega))) ?_
   refine q_val_g (v := .int .i64 (((Rc.fl (Rc.kn (Rc.opn key vi text))) : Nat) : Int)) (want_yes (j := 2) rfl rfl (ev (.bool false) rfl rfl) rfl) (fun w' hw' => y_mv (ev (.int .i64 (((Rc.fl (Rc.kn (Rc.opn key vi text))) : Nat) : Int)) rfl rfl)) ?_
   refine q_val_g (want_yes (j := 2) rfl rfl (ev (.bool false) rfl rfl) rfl) (fun w' hw' => y_bin (ev (.int .i64 (4 + (((Rc.kn (Rc.opn key vi text)) : Nat) : Int))) rfl rfl) (ev (.int .i64 (((Rc.fl (Rc.kn (Rc.opn key vi text))) : Nat) : Int)) rfl rfl) (b_add (by omega))) ?_
   refine q_val_g (want_yes (j := 2) rfl rfl (ev (.bool false) rfl rfl) rfl) (fun w' hw' => y_bin (ev (.int .i64 (((Rc.opn key vi text).length : Nat) : Int)) rfl rfl) (ev (.int .i64 ((4 + (((Rc.kn (Rc.opn key vi text)) : Nat) : Int)) + (((Rc.fl (Rc.kn (Rc.opn key vi text))) : Nat) : Int))) rfl rfl) b_neq) ?_
   refine q_val (fun w' hw' => y_pick_f (ev (.bool false) rfl rfl) (ev (.bool (decide ((((Rc.opn key vi text).length : Nat) : Int) ≠ ((4 + (((Rc.kn (Rc.opn key vi text)) : Nat) : Int)) + (((Rc.fl (Rc.kn (Rc.opn key vi text))) : Nat) : Int))))) rfl rfl)) ?_
   refine q_mv (ev (.bool (decide ((((Rc.opn key vi text).length : Nat) : Int) ≠ ((4 + (((Rc.kn (Rc.opn key vi text)) : Nat) : Int)) + (((Rc.fl (Rc.kn (Rc.opn key vi text))) : Nat) : Int))))) rfl rfl) ?_
   have hc30 : ¬ ((((Rc.opn key vi text).length : Nat) : Int) ≠ ((4 + (((Rc.kn (Rc.opn key vi text)) : Nat) : Int)) + (((Rc.fl (Rc.kn (Rc.opn key vi text))) : Nat) : Int))) := by omega
   refine q_val_g (v := .string (str (Rc.opn key vi text))) (want_yes (j := 11) rfl rfl (ev (.bool false) (Eq.trans (b := .bool (decide ((((Rc.opn key vi text).length : Nat) : Int) ≠ ((4 + (((Rc.kn (Rc.opn key vi text)) : Nat) : Int)) + (((Rc.fl (Rc.kn (Rc.opn key vi text))) : Nat) : Int))))) rfl (by rw [decide_eq_false hc30])) rfl) rfl) (fun w' hw' => y_mv (ev (.string (str (Rc.opn key vi text))) (Eq.trans (b := .string (str (Cb.unchain key vi (Cb.unchain key (Rc.lst key text) text)))) rfl (by rfl)) rfl)) ?_
   refine q_val_g (v := .string (str (((Rc.opn key vi text).drop 4).take 3))) (want_yes (j := 11) rfl rfl (ev (.bool false) (Eq.trans (b := .bool (decide ((((Rc.opn key vi text).length : Nat) : Int) ≠ ((4 + (((Rc.kn (Rc.opn key vi text)) : Nat) : Int)) + (((Rc.fl (Rc.kn (Rc.opn key vi text))) : Nat) : Int))))) rfl (by rw [decide_eq_false hc30])) rfl) rfl) (fun w' hw' => y_sls (ev (.string (str (Rc.opn key vi text))) rfl rfl) (evo.s (evc (.int .i64 4))) (evo.s (evc (.int .i64 7))) Try.underlying9 (bnd_lh (l := 4) (h := 7) (by omega) (by omega) (by omega) (by omega))) ?_
   refine q_unguard (want_yes (j := 11) rfl rfl (ev (.bool false) (Eq.trans (b := .bool (decide ((((Rc.opn key vi text).length : Nat) : Int) ≠ ((4 + (((Rc.kn (Rc.opn key vi text)) : Nat) : Int)) + (((Rc.fl (Rc.kn (Rc.opn key vi text))) : Nat) : Int))))) rfl (by rw [decide_eq_false hc30])) rfl) rfl) ?_
   refine q_call (v := .string (str (Oct.xor (((Rc.opn key vi text).drop 4).take 3) Rc.ff))) (Try.func59) (by kernel_rfl) rfl (m2 (ev (.string (str (((Rc.opn key vi text).drop 4).take 3))) rfl rfl) (evc (.string (str Rc.ff)))) (fun w' hw' => refXor_c (((Rc.opn key vi text).drop 4).take 3) Rc.ff (by (try simp only [Cb.dec_len, List.length_take, List.length_drop]); omega) w') ?_
   refine q_val_g (v := .string (str (Rc.opn key vi text))) (want_yes (j := 11) rfl rfl (ev (.bool false) (Eq.trans (b := .bool (decide ((((Rc.opn key vi text).length : Nat) : Int) ≠ ((4 + (((Rc.kn (Rc.opn key vi text)) : Nat) : Int)) + (((Rc.fl (Rc.kn (Rc.opn key vi text))) : Nat) : Int))))) rfl (by rw [decide_eq_false hc30])) rfl) rfl) (fun w' hw' => y_mv (ev (.string (str (Rc.opn key vi text))) (Eq.trans (b := .string (str (Cb.unchain key vi (Cb.unchain key (Rc.lst key text) text)))) rfl (by rfl)) rfl)) ?_
   refine q_val_g (v := .string (str (((Rc.opn key vi text).drop 1).take 3))) (want_yes (j := 11) rfl rfl (ev (.bool false) (Eq.trans (b := .bool (decide ((((Rc.opn key vi text).length : Nat) : Int) ≠ ((4 + (((Rc.kn (Rc.opn key vi text)) : Nat) : Int)) + (((Rc.fl (Rc.kn (Rc.opn key vi text))) : Nat) : Int))))) rfl (by rw [decide_eq_false hc30])) rfl) rfl) (fun w' hw' => y_sls (ev (.string (str (Rc.opn key vi text))) rfl rfl) (evo.s (evc (.int .i64 1))) (evo.s (evc (.int .i64 4))) Try.underlying9 (bnd_lh (l := 1) (h := 4) (by omega) (by omega) (by omega) (by omega))) ?_
   refine q_val_g (want_yes (j := 11) rfl rfl (ev (.bool false) (Eq.trans (b := .bool (decide ((((Rc.opn key vi text).length : Nat) : Int) ≠ ((4 + (((Rc.kn (Rc.opn key vi text)) : Nat) : Int)) + (((Rc.fl (Rc.kn (Rc.opn key vi text))) : Nat) : Int))))) rfl (by rw [decide_eq_false hc30])) rfl) rfl) (fun w' hw' => y_bin (ev (.string (str (Oct.xor (((Rc.opn key vi text).drop 4).take 3) Rc.ff))) rfl rfl) (ev (.string (str (((Rc.opn key vi text).drop 1).take 3))) rfl rfl) b_nes) ?_
   refine q_val (fun w' hw' => y_pick_f (ev (.bool false) (Eq.trans (b := .bool (decide ((((Rc.opn key vi text).length : Nat) : Int) ≠ ((4 + (((Rc.kn (Rc.opn key vi text)) : Nat) : Int)) + (((Rc.fl (Rc.kn (Rc.opn key vi text))) : Nat) : Int))))) rfl (by rw [decide_eq_false hc30])) rfl) (ev (.bool (decide ((Oct.xor (((Rc.opn key vi text).drop 4).take 3) Rc.ff) ≠ (((Rc.opn key vi text).drop 1).take 3)))) rfl rfl)) ?_
   refine q_nil ?_
   intro w31 hb32
   replace r_bx := r_bx.step hb32
   replace r_g := r_g.step hb32
   replace r_lb := r_lb.step hb32
   replace hk := thenB hk hb32
   refine then_n ?_
   have hc33 : ¬ ((Oct.xor (((Rc.opn key vi text).drop 4).take 3) Rc.ff) ≠ (((Rc.opn key vi text).drop 1).take 3)) := by exact fun h => h ((Rc.three _ _ habl.1 habl.2).1 hb)
   refine c_f (p := (Oct.xor (((Rc.opn key vi text).drop 4).take 3) Rc.ff) ≠ (((Rc.opn key vi text).drop 1).take 3)) (ev (.bool (decide ((Oct.xor (((Rc.opn key vi text).drop 4).take 3) Rc.ff) ≠ (((Rc.opn key vi text).drop 1).take 3)))) rfl rfl) hc33 ?_
   refine wp_skip ?_
   refine then_n ?_
   refine sr ?_
   refine w_mv (ev (.string (str (Rc.opn key vi text))) (Eq.trans (b := .string (str (Cb.unchain key vi (Cb.unchain key (Rc.lst key text) text)))) rfl (by rfl)) rfl) ?_
   refine w_mv (ev (.int .i64 (((Rc.kn (Rc.opn key vi text)) : Nat) : Int)) (Eq.trans (b := .int .i64 (((gb (Rc.opn key vi text) 0).toNat : Nat) : Int)) rfl (by rfl)) rfl) ?_
   refine w_val (y_bin (evc (.int .i64 4)) (ev (.int .i64 (((Rc.kn (Rc.opn key vi text)) : Nat) : Int)) rfl rfl) (b_add (by omega))) ?_
   refine w_val (v := .string (str (((Rc.opn key vi text).drop 4).take ((4 + (Rc.kn (Rc.opn key vi text))) - 4)))) (y_sls (ev (.string (str (Rc.opn key vi text))) rfl rfl) (evo.s (evc (.int .i64 4))) (evo.s (ev (.int .i64 (4 + (((Rc.kn (Rc.opn key vi text)) : Nat) : Int))) rfl rfl)) Try.underlying9 (bnd_lh (l := 4) (h := (4 + (Rc.kn (Rc.opn key vi text)))) (by omega) (by omega) (by omega) (by omega))) ?_
   refine w_as (ev (.string (str (((Rc.opn key vi text).drop 4).take ((4 + (Rc.kn (Rc.opn key vi text))) - 4)))) rfl rfl) ?_
   refine w_as (evc (.int .i64 0)) ?_
   refine nt ?_
   refine wp_ret ?_
   refine fin_ret2 rfl (ev (.string (str (((Rc.opn key vi text).drop 4).take ((4 + (Rc.kn (Rc.opn key vi text))) - 4)))) rfl rfl) (ev (.int .i64 0) rfl rfl) ?_
   refine ⟨congrArg Ending.returned ?_, hk⟩
   show (.tuple #[.string (str (((Rc.opn key vi text).drop 4).take ((4 + (Rc.kn (Rc.opn key vi text))) - 4))), .int .i64 0] : Value) = .tuple #[.string (str (((Rc.opn key vi text).drop 4).take (Rc.kn (Rc.opn key vi text)))), .int .i64 0]
   exact congrArg (fun m => Value.tuple #[.string (str (List.take m (List.drop 4 (Rc.opn key vi text)))), .int .i64 0]) (Nat.add_sub_cancel_left ..)
end Go.Proofs.Ytjdcpejcnmpiaaa
