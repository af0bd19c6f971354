/-
  Fillings: what the program and the reference compute. Conditions as each says.
-/
import Derived.Test.YtepogbfkmflooaaGreatDoorRows
import Derived.Test.YtepogbfkmflooaaGreatDoorGenMore
import Derived.Test.YtepogbfkmflooaaGreatDoorCbcPlain
import Derived.Test.YtepogbfkmflooaaGreatDoorAesLeaf
import Derived.Test.YtepogbfkmflooaaGreatDoorGenSh
import Derived.ProofKit
namespace Go.Proofs.YtepogbfkmflooaaGreatDoor
open Go.RowKit
set_option linter.unusedSimpArgs false
set_option linter.unusedVariables false
set_option maxRecDepth 100000
set_option maxHeartbeats 1000000
namespace CbcAT
theorem mixed : Tryz.prog.follows .mixedOrders = true := by kernel_rfl
theorem so3 : (Tryz.prog.underlying 3).isSome = true := by rw [Tryz.underlying3]; rfl
theorem so5 : (Tryz.prog.underlying 5).isSome = true := by rw [Tryz.underlying5]; rfl
end CbcAT
theorem pad_y (s : List (BitVec 8)) (q : Nat) (h1 : 1 ≤ q) (h255 : q ≤ 255) (hs : s.length ≤ 1100000) (w0 : World) : Calls Tryz.prog 35 #[.string (str s), .int .i64 ((q : Nat) : Int)] w0 fun e w' => e = .returned (.tuple #[.string (str (Cb.pad s q)), .int .i64 0]) ∧ Below w0.heap.size w0 w' := by
 have hml := Nat.mod_lt s.length (show 0 < q by omega)
 have hpp := Cb.pn_pos s.length q om
 have hpq := Cb.pn_le s.length q
 have hpm := Cb.pn_mod s.length q om
 refine enter (n := 27) Tryz.func35 rfl rfl rfl ?_
 have hk : Below w0.heap.size w0 w0 := Below.refl _ _
 refine sr (w_as (evc (.string (str ([] : List (BitVec 8))))) (w_as Ev.c (nt (wp_seq (sr (w_mv ei (w_val (y_bin ei Ev.c b_lss) (w_mv eb ?_))))))))
 have hc1 : ¬ (((q : Nat) : Int) < 1) := by omega
 refine w_val_g (v := .int .i64 ((q : Nat) : Int)) (wy rfl rfl (eb (df hc1))) (y_mv ei) (w_val_g (wy rfl rfl (eb (df hc1))) (y_bin ei Ev.c b_gtr) (w_val (y_pick_f (eb (df hc1)) eb) (nt ?_)))
 have hc2 : ¬ (255 < ((q : Nat) : Int)) := by omega
 refine c_f (p := 255 < ((q : Nat) : Int)) eb hc2 (wp_skip (then_n (sr (w_mv ei (w_mv es (w_val (y_len es Tryz.underlying9) (w_mv ei (w_val (y_bin ei ei (b_rem om)) (w_val (y_bin ei ei (b_sub om)) (w_as ei (nt (sr (w_mv es (w_mv (ex (.int .i64 ((Cb.pn s.length q : Nat) : Int)) (Eq.trans (b := .int .i64 (((q : Nat) : Int) - (((s.length : Nat) : Int) % ((q : Nat) : Int)))) rfl (by exact congrArg (Value.int .i64) (by unfold Cb.pn; omega)))) (w_val (y_nat_u8 (p := (Cb.pn s.length q)) ei om CbcAT.so3 Tryz.underlying5) (w_bs1 (m := 1) (e := 5) (F := fun j => U8 (BitVec.ofNat 8 (Cb.pn s.length q))) e8 (fun w => by kernel_rfl) ?_))))))))))))))))
 intro b_22 w3 hbe_b_22 r_b_22 hb4
 have ge_b_22 := gb_ hk.size hbe_b_22
 clear hbe_b_22
 replace hk := thenB hk hb4
 refine w_val (y_str (l := [BitVec.ofNat 8 (Cb.pn s.length q)]) el (by rfl) Tryz.underlying47 Tryz.underlying5 Tryz.underlying9 (fun j hj => (r_b_22.val om (by (obtain rfl : j = 0 := om); rfl)))) (w_mv (ex (.int .i64 ((Cb.pn s.length q : Nat) : Int)) (Eq.trans (b := .int .i64 (((q : Nat) : Int) - (((s.length : Nat) : Int) % ((q : Nat) : Int)))) rfl (by exact congrArg (Value.int .i64) (by unfold Cb.pn; omega)))) (w_call (Tryz.func53) kr rfl (m2 es ei) (rep_c (BitVec.ofNat 8 (Cb.pn s.length q)) (Cb.pn s.length q) om w3) ?_))
 rintro _ w5 ⟨rfl, hb6⟩
 refine ⟨_, rfl, ?_⟩
 replace r_b_22 := r_b_22.step hb6
 replace hk := thenB hk hb6
 refine w_val (y_bin es es (b_cat (by simp only [List.length_replicate]; omega))) (w_as es (w_as Ev.c (nt (wp_ret (fin_ret2 rfl es ei ?_)))))
 refine ⟨congrArg Ending.returned ?_, hk⟩
 show (.tuple #[.string (str (s ++ (List.replicate (Cb.pn s.length q) (BitVec.ofNat 8 (Cb.pn s.length q))))), .int .i64 0] : Value) = .tuple #[.string (str (Cb.pad s q)), .int .i64 0]
 rfl

theorem refPad_y (s : List (BitVec 8)) (q : Nat) (h1 : 1 ≤ q) (h255 : q ≤ 255) (hs : s.length ≤ 1100000) (w0 : World) : Calls Tryz.prog 32 #[.string (str s), .int .i64 ((q : Nat) : Int)] w0 fun e w' => e = .returned (.tuple #[.string (str (Cb.pad s q)), .int .i64 0]) ∧ Below w0.heap.size w0 w' := by
 have hml := Nat.mod_lt s.length (show 0 < q by omega)
 have hpp := Cb.pn_pos s.length q om
 have hpq := Cb.pn_le s.length q
 have hpm := Cb.pn_mod s.length q om
 refine enter (n := 38) Tryz.func32 rfl rfl rfl ?_
 have hk : Below w0.heap.size w0 w0 := Below.refl _ _
 refine sr (w_as (evc (.string (str ([] : List (BitVec 8))))) (w_as Ev.c (nt (wp_seq (sr (w_mv ei (w_val (y_bin ei Ev.c b_lss) (w_mv eb ?_))))))))
 have hc1 : ¬ (((q : Nat) : Int) < 1) := by omega
 refine w_val_g (v := .int .i64 ((q : Nat) : Int)) (wy rfl rfl (eb (df hc1))) (y_mv ei) (w_val_g (wy rfl rfl (eb (df hc1))) (y_bin ei Ev.c b_gtr) (w_val (y_pick_f (eb (df hc1)) eb) (nt ?_)))
 have hc2 : ¬ (255 < ((q : Nat) : Int)) := by omega
 refine c_f (p := 255 < ((q : Nat) : Int)) eb hc2 (wp_skip (then_n (sr (w_mv es (w_bytes_own es Tryz.underlying9 Tryz.underlying47 Tryz.underlying5 (by simp only [maxLen]; omega) hk.size ?_)))))
 intro v3 w4 o_v3 hv6 hb5
 replace hk := thenB hk hb5
 refine w_as (ex v3) (nt (sr (w_as Ev.c (nt (wp_seq (wp_block ?_))))))
 refine c_loop (fun dN aN wl => ∃ (n : Nat) (vo : Value), dN = (q - n) ∧ ∃ f7, aN = fr 38 f7 ∧ (1 ≤ n) ∧ (n ≤ Cb.pn s.length q) ∧ f7 0 = .string (str s) ∧ f7 1 = .int .i64 ((q : Nat) : Int) ∧ f7 4 = .string (str ([] : List (BitVec 8))) ∧ f7 5 = .int .i64 0 ∧ f7 6 = vo ∧ f7 7 = .int .i64 ((n : Nat) : Int) ∧ Own wl w0.heap.size 5 1 vo s.length (fun j => U8 (gb s j)) ∧ Below w0.heap.size w0 wl) (q - 1) ?_ ?_
 · exact ⟨1, v3, rfl, _, rfl, iv, iv, rfl, rfl, rfl, rfl, (etv (b := v3) rfl), ti, o_v3, hk⟩
 ·skip
  clear o_v3 hk
  rintro _ _ w8 ⟨n, vo, rfl, f7, rfl, i1_0, i1_1, s1_0, s1_1, s1_4, s1_5, s1_6, s1_7, o_vo, hk⟩
  refine wp_seq (sr (w_mv (es s1_0) (w_val (y_len es Tryz.underlying9) (w_mv (ei s1_7) (w_val (y_bin ei ei (b_add om)) (w_mv (ei s1_1) (w_val (y_bin ei ei (b_rem om)) (w_val (y_bin ei Ev.c b_neq) (nt ?_)))))))))
  refine c_if (p := ((((s.length : Nat) : Int) + ((n : Nat) : Int)) % ((q : Nat) : Int)) ≠ 0) eb (fun hc9 => ?_) (fun hc9 => ?_)
  ·skip
   refine wp_skip (then_n (wp_block (wp_region_lit (w_mv (ei s1_7) (w_val (y_bin ei Ev.c (b_add om)) (w_as ei (wpList_nil (inb_n ?_))))))))
   have hn1 : n + 1 ≤ Cb.pn s.length q := by
     rcases Nat.lt_or_ge n (Cb.pn s.length q) with h | h
     · omega
     · exfalso
       have e : n = Cb.pn s.length q := by omega
       rw [← e] at hpm
       have h2 : (((s.length + n) % q : Nat) : Int) = 0 := by rw [hpm]; rfl
       rw [Int.natCast_emod, Int.natCast_add] at h2
       contradiction
   exact then_n ⟨_, om, n + 1, vo, rfl, _, rfl, iv, iv, s1_0, s1_1, s1_4, s1_5, s1_6, ti, o_vo, hk⟩
  ·skip
   refine wp_exit (then_x (then_x (inb_x (then_n (ss ?_)))))
   have hcN : (((s.length + n) % q : Nat) : Int) = 0 := by rw [Int.natCast_emod, Int.natCast_add]; omega
   have hnp : n = Cb.pn s.length q := Cb.pn_only s.length q n om i1_0 om om
   refine wp_region_lit (w_as Ev.c (nt (wp_block ?_)))
   refine c_loop (fun dN aN wl => ∃ (i : Nat) (vp : Value), dN = (Cb.pn s.length q - i) ∧ ∃ f10, aN = fr 38 f10 ∧ (i ≤ Cb.pn s.length q) ∧ f10 4 = .string (str ([] : List (BitVec 8))) ∧ f10 5 = .int .i64 0 ∧ f10 6 = vp ∧ f10 7 = .int .i64 ((Cb.pn s.length q : Nat) : Int) ∧ f10 8 = .int .i64 ((i : Nat) : Int) ∧ Own wl w0.heap.size 5 1 vp (s.length + i) (fun j => U8 (gb (Cb.pad s q) j)) ∧ Below w0.heap.size w0 wl) (Cb.pn s.length q - 0) ?_ ?_
   · exact ⟨0, vo, rfl, _, rfl, iv, s1_4, s1_5, (Eq.trans (b := vo) s1_6 dv), (by refine Eq.trans (b := .int .i64 ((n : Nat) : Int)) ?_ ?_; exact s1_7; (rw [hnp])), ti, (own_n (o_vo.congr (fun j hj => by (try dsimp only); rw [Cb.gb_pad, if_pos om])) om), hk⟩
   ·skip
    clear o_vo hk
    rintro _ _ w11 ⟨i, vp, rfl, f10, rfl, i2_0, s2_4, s2_5, s2_6, s2_7, s2_8, o_vp, hk⟩
    refine wp_seq (sr (w_mv (ei s2_8) (w_mv (ei s2_7) (w_val (y_bin ei ei b_lss) (nt ?_)))))
    refine c_if (p := ((i : Nat) : Int) < ((Cb.pn s.length q : Nat) : Int)) eb (fun hc12 => ?_) (fun hc12 => ?_)
    ·skip
     refine wp_skip (then_n (wp_seq (wp_block (wp_region_lit (w_mv (ex vp s2_6) (w_mv (ei s2_7) (w_val (y_nat_u8 (p := (Cb.pn s.length q)) ei om CbcAT.so3 Tryz.underlying5) (w_bs1 (m := 1) (e := 5) (F := fun j => U8 (BitVec.ofNat 8 (Cb.pn s.length q))) e8 (fun w => by kernel_rfl) ?_))))))))
     intro b_34 w13 hbe_b_34 r_b_34 hb14
     have no_vp_b_34 : vp.ownBlock ≠ some b_34 := o_vp.apart om
     have ge_b_34 := gb_ hk.size hbe_b_34
     clear hbe_b_34
     replace o_vp := o_vp.step hb14
     replace hk := thenB hk hb14
     refine w_app (k := (s.length + i)) (m := 1) (size := 1) (bytes := 1) (ex vp) el Tryz.underlying47 kr (by decide) o_vp hk.size r_b_34 om oca (by simp only [maxLen]; omega) om ?_
     intro v15 w16 o_v15 hg17 hv18
     have no_v15_b_34 := no_new no_vp_b_34 r_b_34.lt hv18
     replace r_b_34 := r_b_34.stepO hg17 no_vp_b_34
     replace hk := thenO hk hg17 (fun g e => (o_vp.block_lt g e).2)
     clear o_vp
     refine w_as (ex v15) (wpList_nil (inb_n (then_n (wp_region_lit (w_mv (ei s2_8) (w_val (y_bin ei Ev.c (b_add om)) (w_as ei (wpList_nil ?_))))))))
     exact then_n ⟨_, om, i + 1, v15, rfl, _, rfl, iv, s2_4, s2_5, rfl, s2_7, ti, (own_n (o_v15.congr (fun j hj => by (try dsimp only); by_cases e : j < (s.length + i) * 1; (rw [if_pos e]); (rw [if_neg e, Cb.gb_pad, if_neg om, if_pos om]))) om), hk⟩
    ·skip
     refine wp_exit (then_x (then_x (inb_x (then_n (sr (w_mv (ex vp s2_6) (w_val (v := .string (str (Cb.pad s q))) (y_strown (l := Cb.pad s q) (ex vp) o_vp  (by exact (by rw [Cb.pad_len]; omega)) (fun j hj => by exact rfl) Tryz.underlying47 Tryz.underlying5 Tryz.underlying9) (w_as es (w_as Ev.c (nt (wp_ret (fin_ret2 rfl es ei ?_))))))))))))
     exact ⟨rfl, hk⟩

theorem unpad_y (s : List (BitVec 8)) (q : Nat) (h1 : 1 ≤ q) (h255 : q ≤ 255) (hs : s.length ≤ 1100000) (h0 : 0 < s.length) (hm : s.length % q = 0) (hp : Cb.Padded s q) (w0 : World) : Calls Tryz.prog 41 #[.string (str s), .int .i64 ((q : Nat) : Int)] w0 fun e w' => e = .returned (.tuple #[.string (str (s.take (s.length - Cb.last s))), .int .i64 0]) ∧ Below w0.heap.size w0 w' := by
 have hzl : q ≤ s.length := Nat.le_of_dvd h0 (Nat.dvd_of_mod_eq_zero hm)
 have hl8 : Cb.last s < 256 := (gb s (s.length - 1)).isLt
 obtain ⟨hp1, hp2, hp3⟩ := hp
 refine enter (n := 58) Tryz.func41 rfl rfl rfl ?_
 have hk : Below w0.heap.size w0 w0 := Below.refl _ _
 refine sr (w_as (evc (.string (str ([] : List (BitVec 8))))) (w_as Ev.c (nt (wp_seq (sr (w_mv ei (w_val (y_bin ei Ev.c b_lss) (w_mv eb ?_))))))))
 have hc1 : ¬ (((q : Nat) : Int) < 1) := by omega
 refine w_val_g (v := .int .i64 ((q : Nat) : Int)) (wy rfl rfl (eb (df hc1))) (y_mv ei) (w_val_g (wy rfl rfl (eb (df hc1))) (y_bin ei Ev.c b_gtr) (w_val (y_pick_f (eb (df hc1)) eb) (nt ?_)))
 have hc2 : ¬ (255 < ((q : Nat) : Int)) := by omega
 refine c_f (p := 255 < ((q : Nat) : Int)) eb hc2 (wp_skip (then_n (wp_seq (sr (w_mv es (w_val (y_bin es (evc (.string (str ([] : List (BitVec 8))))) b_eqs) (w_mv eb ?_)))))))
 have hc3 : ¬ (s = ([] : List (BitVec 8))) := by exact fun e => by rw [e] at h0; exact absurd h0 (by decide)
 refine w_val_g (v := .string (str s)) (wy rfl rfl (eb (df hc3))) (y_mv es) (w_val_g (wy rfl rfl (eb (df hc3))) (y_len es Tryz.underlying9) (w_val_g (v := .int .i64 ((q : Nat) : Int)) (wy rfl rfl (eb (df hc3))) (y_mv ei) (w_val_g (wy rfl rfl (eb (df hc3))) (y_bin ei ei (b_rem om)) (w_val_g (wy rfl rfl (eb (df hc3))) (y_bin ei Ev.c b_neq) (w_val (y_pick_f (eb (df hc3)) eb) (nt ?_))))))
 have hc4 : ¬ ((((s.length : Nat) : Int) % ((q : Nat) : Int)) ≠ 0) := by omega
 refine c_f (p := (((s.length : Nat) : Int) % ((q : Nat) : Int)) ≠ 0) eb hc4 (wp_skip (then_n (sr (w_mv es (w_mv es (w_val (y_len es Tryz.underlying9) (w_val (y_bin ei Ev.c (b_sub om)) (w_val (v := U8 (gb s (s.length - 1))) (y_idx (ex (.string (str s))) ei Tryz.underlying9 om om) (w_val (v := .int .i64 (((gb s (s.length - 1)).toNat : Nat) : Int)) (y_u8_i64 e8 CbcAT.so5 Tryz.underlying3 (by have := (gb s (s.length - 1)).isLt; omega)) (w_as ei (nt (wp_seq (sr (w_mv (ex (.int .i64 ((Cb.last s : Nat) : Int)) (Eq.trans (b := .int .i64 (((gb s (s.length - 1)).toNat : Nat) : Int)) rfl (by rfl))) (w_val (y_bin ei Ev.c b_eql) (w_mv eb ?_))))))))))))))))
 have hc5 : ¬ (((Cb.last s : Nat) : Int) = 0) := by omega
 refine w_val_g (v := .int .i64 ((Cb.last s : Nat) : Int)) (wy rfl rfl (eb (df hc5))) (y_mv (ex (.int .i64 ((Cb.last s : Nat) : Int)) (Eq.trans (b := .int .i64 (((gb s (s.length - 1)).toNat : Nat) : Int)) rfl (by rfl)))) (w_val_g (v := .int .i64 ((q : Nat) : Int)) (wy rfl rfl (eb (df hc5))) (y_mv ei) (w_val_g (wy rfl rfl (eb (df hc5))) (y_bin ei ei b_gtr) (w_val (y_pick_f (eb (df hc5)) eb) (nt ?_))))
 have hc6 : ¬ (((q : Nat) : Int) < ((Cb.last s : Nat) : Int)) := by omega
 refine c_f (p := ((q : Nat) : Int) < ((Cb.last s : Nat) : Int)) eb hc6 (wp_skip (then_n (wp_seq (sr (w_mv es (w_val (y_len es Tryz.underlying9) (w_mv (ex (.int .i64 ((Cb.last s : Nat) : Int)) (Eq.trans (b := .int .i64 (((gb s (s.length - 1)).toNat : Nat) : Int)) rfl (by rfl))) (w_val (y_bin ei ei (b_sub om)) (w_as ei (nt (wp_block ?_)))))))))))
 refine c_loop (fun dN aN wl => ∃ (i : Nat), dN = (s.length - i) ∧ ∃ f7, aN = fr 58 f7 ∧ (s.length - Cb.last s ≤ i) ∧ (i ≤ s.length) ∧ f7 0 = .string (str s) ∧ f7 6 = .int .i64 ((Cb.last s : Nat) : Int) ∧ f7 7 = .int .i64 ((i : Nat) : Int) ∧ Below w0.heap.size w0 wl) (s.length - (s.length - Cb.last s)) ?_ ?_
 · exact ⟨s.length - Cb.last s, rfl, _, rfl, iv, iv, rfl, (Eq.trans (b := .int .i64 (((gb s (s.length - 1)).toNat : Nat) : Int)) rfl (by rfl)), (Eq.trans (b := .int .i64 (((s.length : Nat) : Int) - ((Cb.last s : Nat) : Int))) rfl (by congr 1; omega)), hk⟩
 ·skip
  clear hk
  rintro _ _ w8 ⟨i, rfl, f7, rfl, i1_0, i1_1, s1_0, s1_6, s1_7, hk⟩
  refine wp_seq (sr (w_mv (ei s1_7) (w_mv (es s1_0) (w_val (y_len es Tryz.underlying9) (w_val (y_bin ei ei b_lss) (nt ?_))))))
  refine c_if (p := ((i : Nat) : Int) < ((s.length : Nat) : Int)) eb (fun hc9 => ?_) (fun hc9 => ?_)
  ·skip
   refine wp_skip (then_n (wp_seq (wp_block (sr (w_mv (es s1_0) (w_mv (ei s1_7) (w_val (v := U8 (gb s i)) (y_idx (ex (.string (str s))) ei Tryz.underlying9 om om) (w_val (v := .int .i64 (((gb s i).toNat : Nat) : Int)) (y_u8_i64 e8 CbcAT.so5 Tryz.underlying3 (by have := (gb s i).isLt; omega)) (w_mv (ei s1_6) (w_val (y_bin ei ei b_neq) (nt ?_)))))))))))
   have hc10 : ¬ ((((gb s i).toNat : Nat) : Int) ≠ ((Cb.last s : Nat) : Int)) := by have := hp3 i om om; omega
   refine c_f (p := (((gb s i).toNat : Nat) : Int) ≠ ((Cb.last s : Nat) : Int)) eb hc10 (wp_skip (inb_n (then_n (wp_region_lit (w_mv (ei s1_7) (w_val (y_bin ei Ev.c (b_add om)) (w_as ei (wpList_nil ?_))))))))
   exact then_n ⟨_, om, i + 1, rfl, _, rfl, iv, iv, s1_0, s1_6, ti, hk⟩
  ·skip
   refine wp_exit (then_x (then_x (inb_x (then_n (sr (w_mv (es s1_0) (w_mv (es s1_0) (w_val (y_len es Tryz.underlying9) (w_mv (ei s1_6) (w_val (y_bin ei ei (b_sub om)) (w_val (v := .string (str (s.take (s.length - (Cb.last s))))) (y_sls (ex (.string (str s))) evo.no (evo.s ei) Tryz.underlying9 (bnd_h (h := (s.length - (Cb.last s))) om om)) (w_as es (w_as Ev.c (nt (wp_ret (fin_ret2 rfl es ei ?_))))))))))))))))
   refine ⟨congrArg Ending.returned ?_, hk⟩
   show (.tuple #[.string (str (s.take (s.length - (Cb.last s)))), .int .i64 0] : Value) = .tuple #[.string (str (s.take (s.length - Cb.last s))), .int .i64 0]
   first | with_reducible rfl | (with_reducible congr 1 <;> omega) | (with_reducible congr 2 <;> omega) | (with_reducible congr 3 <;> omega) | rfl

theorem unpad_n (s : List (BitVec 8)) (q : Nat) (h1 : 1 ≤ q) (h255 : q ≤ 255) (hs : s.length ≤ 1100000) (h0 : 0 < s.length) (hm : s.length % q = 0) (hp : ¬ Cb.Padded s q) (w0 : World) : Calls Tryz.prog 41 #[.string (str s), .int .i64 ((q : Nat) : Int)] w0 fun e w' => e = .returned (.tuple #[.string (str ([] : List (BitVec 8))), .int .i64 7]) ∧ Below w0.heap.size w0 w' := by
 have hzl : q ≤ s.length := Nat.le_of_dvd h0 (Nat.dvd_of_mod_eq_zero hm)
 have hl8 : Cb.last s < 256 := (gb s (s.length - 1)).isLt
 refine enter (n := 58) Tryz.func41 rfl rfl rfl ?_
 have hk : Below w0.heap.size w0 w0 := Below.refl _ _
 refine sr (w_as (evc (.string (str ([] : List (BitVec 8))))) (w_as Ev.c (nt (wp_seq (sr (w_mv ei (w_val (y_bin ei Ev.c b_lss) (w_mv eb ?_))))))))
 have hc1 : ¬ (((q : Nat) : Int) < 1) := by omega
 refine w_val_g (v := .int .i64 ((q : Nat) : Int)) (wy rfl rfl (eb (df hc1))) (y_mv ei) (w_val_g (wy rfl rfl (eb (df hc1))) (y_bin ei Ev.c b_gtr) (w_val (y_pick_f (eb (df hc1)) eb) (nt ?_)))
 have hc2 : ¬ (255 < ((q : Nat) : Int)) := by omega
 refine c_f (p := 255 < ((q : Nat) : Int)) eb hc2 (wp_skip (then_n (wp_seq (sr (w_mv es (w_val (y_bin es (evc (.string (str ([] : List (BitVec 8))))) b_eqs) (w_mv eb ?_)))))))
 have hc3 : ¬ (s = ([] : List (BitVec 8))) := by exact fun e => by rw [e] at h0; exact absurd h0 (by decide)
 refine w_val_g (v := .string (str s)) (wy rfl rfl (eb (df hc3))) (y_mv es) (w_val_g (wy rfl rfl (eb (df hc3))) (y_len es Tryz.underlying9) (w_val_g (v := .int .i64 ((q : Nat) : Int)) (wy rfl rfl (eb (df hc3))) (y_mv ei) (w_val_g (wy rfl rfl (eb (df hc3))) (y_bin ei ei (b_rem om)) (w_val_g (wy rfl rfl (eb (df hc3))) (y_bin ei Ev.c b_neq) (w_val (y_pick_f (eb (df hc3)) eb) (nt ?_))))))
 have hc4 : ¬ ((((s.length : Nat) : Int) % ((q : Nat) : Int)) ≠ 0) := by omega
 refine c_f (p := (((s.length : Nat) : Int) % ((q : Nat) : Int)) ≠ 0) eb hc4 (wp_skip (then_n (sr (w_mv es (w_mv es (w_val (y_len es Tryz.underlying9) (w_val (y_bin ei Ev.c (b_sub om)) (w_val (v := U8 (gb s (s.length - 1))) (y_idx (ex (.string (str s))) ei Tryz.underlying9 om om) (w_val (v := .int .i64 (((gb s (s.length - 1)).toNat : Nat) : Int)) (y_u8_i64 e8 CbcAT.so5 Tryz.underlying3 (by have := (gb s (s.length - 1)).isLt; omega)) (w_as ei (nt (wp_seq (sr (w_mv (ex (.int .i64 ((Cb.last s : Nat) : Int)) (Eq.trans (b := .int .i64 (((gb s (s.length - 1)).toNat : Nat) : Int)) rfl (by rfl))) (w_val (y_bin ei Ev.c b_eql) (w_mv eb ?_))))))))))))))))
 by_cases hc5 : ((Cb.last s : Nat) : Int) = 0
 ·skip
  with_reducible refine w_skip ?_ ?_
  exact wn rfl rfl (eb (dt hc5))
  with_reducible refine w_skip ?_ ?_
  exact wn rfl rfl (eb (dt hc5))
  with_reducible refine w_skip ?_ ?_
  exact wn rfl rfl (eb (dt hc5))
  refine w_val (y_pick_t (eb (dt hc5)) Ev.c) (nt (c_tt eb (sr (w_as (evc (.string (str ([] : List (BitVec 8))))) (w_as Ev.c (nt (wp_ret (then_r (fin_ret2 rfl es ei ?_)))))))))
  exact ⟨rfl, hk⟩
 ·skip
  refine w_val_g (v := .int .i64 ((Cb.last s : Nat) : Int)) (wy rfl rfl (eb (df hc5))) (y_mv (ex (.int .i64 ((Cb.last s : Nat) : Int)) (Eq.trans (b := .int .i64 (((gb s (s.length - 1)).toNat : Nat) : Int)) rfl (by rfl)))) (w_val_g (v := .int .i64 ((q : Nat) : Int)) (wy rfl rfl (eb (df hc5))) (y_mv ei) (w_val_g (wy rfl rfl (eb (df hc5))) (y_bin ei ei b_gtr) (w_val (y_pick_f (eb (df hc5)) eb) (nt ?_))))
  refine c_if (p := ((q : Nat) : Int) < ((Cb.last s : Nat) : Int)) eb (fun hc6 => ?_) (fun hc6 => ?_)
  ·skip
   refine sr (w_as (evc (.string (str ([] : List (BitVec 8))))) (w_as Ev.c (nt (wp_ret (then_r (fin_ret2 rfl es ei ?_))))))
   exact ⟨rfl, hk⟩
  ·skip
   refine wp_skip (then_n (wp_seq (sr (w_mv es (w_val (y_len es Tryz.underlying9) (w_mv (ex (.int .i64 ((Cb.last s : Nat) : Int)) (Eq.trans (b := .int .i64 (((gb s (s.length - 1)).toNat : Nat) : Int)) rfl (by rfl))) (w_val (y_bin ei ei (b_sub om)) (w_as ei (nt (wp_block ?_))))))))))
   refine c_loop (fun dN aN wl => ∃ (i : Nat), dN = (s.length - i) ∧ ∃ f7, aN = fr 58 f7 ∧ (s.length - Cb.last s ≤ i) ∧ (i ≤ s.length) ∧ (∀ k, s.length - Cb.last s ≤ k → k < i → (gb s k).toNat = Cb.last s) ∧ f7 0 = .string (str s) ∧ f7 6 = .int .i64 ((Cb.last s : Nat) : Int) ∧ f7 7 = .int .i64 ((i : Nat) : Int) ∧ Below w0.heap.size w0 wl) (s.length - (s.length - Cb.last s)) ?_ ?_
   · exact ⟨s.length - Cb.last s, rfl, _, rfl, iv, iv, (by intro k h3 h4; omega), rfl, (Eq.trans (b := .int .i64 (((gb s (s.length - 1)).toNat : Nat) : Int)) rfl (by rfl)), (Eq.trans (b := .int .i64 (((s.length : Nat) : Int) - ((Cb.last s : Nat) : Int))) rfl (by congr 1; omega)), hk⟩
   ·skip
    clear hk
    rintro _ _ w8 ⟨i, rfl, f7, rfl, i1_0, i1_1, i1_2, s1_0, s1_6, s1_7, hk⟩
    refine wp_seq (sr (w_mv (ei s1_7) (w_mv (es s1_0) (w_val (y_len es Tryz.underlying9) (w_val (y_bin ei ei b_lss) (nt ?_))))))
    refine c_if (p := ((i : Nat) : Int) < ((s.length : Nat) : Int)) eb (fun hc9 => ?_) (fun hc9 => ?_)
    ·skip
     refine wp_skip (then_n (wp_seq (wp_block (sr (w_mv (es s1_0) (w_mv (ei s1_7) (w_val (v := U8 (gb s i)) (y_idx (ex (.string (str s))) ei Tryz.underlying9 om om) (w_val (v := .int .i64 (((gb s i).toNat : Nat) : Int)) (y_u8_i64 e8 CbcAT.so5 Tryz.underlying3 (by have := (gb s i).isLt; omega)) (w_mv (ei s1_6) (w_val (y_bin ei ei b_neq) (nt ?_)))))))))))
     refine c_if (p := (((gb s i).toNat : Nat) : Int) ≠ ((Cb.last s : Nat) : Int)) eb (fun hc10 => ?_) (fun hc10 => ?_)
     ·skip
      refine sr (w_as (evc (.string (str ([] : List (BitVec 8))))) (w_as Ev.c (nt (wp_ret (inb_r (then_r (then_r (inb_r (then_r (fin_ret2 rfl es ei ?_))))))))))
      exact ⟨rfl, hk⟩
     ·skip
      refine wp_skip (inb_n (then_n (wp_region_lit (w_mv (ei s1_7) (w_val (y_bin ei Ev.c (b_add om)) (w_as ei (wpList_nil ?_)))))))
      exact then_n ⟨_, om, i + 1, rfl, _, rfl, iv, iv, (by intro k h3 h4; by_cases e : k = i; (subst e; omega); (exact i1_2 k h3 om)), s1_0, s1_6, ti, hk⟩
    ·skip
     refine wp_exit (then_x (then_x (inb_x (then_n (wp_seq ?_)))))
     exact absurd (show Cb.Padded s q from ⟨by omega, by omega, fun k h3 h4 => i1_2 k h3 om⟩) hp

theorem refUnpad_y (s : List (BitVec 8)) (q : Nat) (h1 : 1 ≤ q) (h255 : q ≤ 255) (hs : s.length ≤ 1100000) (h0 : 0 < s.length) (hm : s.length % q = 0) (hp : Cb.Padded s q) (w0 : World) : Calls Tryz.prog 17 #[.string (str s), .int .i64 ((q : Nat) : Int)] w0 fun e w' => e = .returned (.tuple #[.string (str (s.take (s.length - Cb.last s))), .int .i64 0]) ∧ Below w0.heap.size w0 w' := by
 have hzl : q ≤ s.length := Nat.le_of_dvd h0 (Nat.dvd_of_mod_eq_zero hm)
 have hl8 : Cb.last s < 256 := (gb s (s.length - 1)).isLt
 have hp1 := hp.1
 have hp2 := hp.2.1
 refine enter (n := 50) Tryz.func17 rfl rfl rfl ?_
 have hk : Below w0.heap.size w0 w0 := Below.refl _ _
 refine sr (w_as (evc (.string (str ([] : List (BitVec 8))))) (w_as Ev.c (nt (wp_seq (sr (w_mv ei (w_val (y_bin ei Ev.c b_lss) (w_mv eb ?_))))))))
 have hc1 : ¬ (((q : Nat) : Int) < 1) := by omega
 refine w_val_g (v := .int .i64 ((q : Nat) : Int)) (wy rfl rfl (eb (df hc1))) (y_mv ei) (w_val_g (wy rfl rfl (eb (df hc1))) (y_bin ei Ev.c b_gtr) (w_val (y_pick_f (eb (df hc1)) eb) (nt ?_)))
 have hc2 : ¬ (255 < ((q : Nat) : Int)) := by omega
 refine c_f (p := 255 < ((q : Nat) : Int)) eb hc2 (wp_skip (then_n (wp_seq (sr (w_mv es (w_val (y_len es Tryz.underlying9) (w_val (y_bin ei Ev.c b_eql) (w_mv eb ?_))))))))
 have hc3 : ¬ (((s.length : Nat) : Int) = 0) := by omega
 refine w_val_g (v := .string (str s)) (wy rfl rfl (eb (df hc3))) (y_mv es) (w_val_g (wy rfl rfl (eb (df hc3))) (y_len es Tryz.underlying9) (w_val_g (v := .int .i64 ((q : Nat) : Int)) (wy rfl rfl (eb (df hc3))) (y_mv ei) (w_val_g (wy rfl rfl (eb (df hc3))) (y_bin ei ei (b_rem om)) (w_val_g (wy rfl rfl (eb (df hc3))) (y_bin ei Ev.c b_neq) (w_val (y_pick_f (eb (df hc3)) eb) (nt ?_))))))
 have hc4 : ¬ ((((s.length : Nat) : Int) % ((q : Nat) : Int)) ≠ 0) := by omega
 refine c_f (p := (((s.length : Nat) : Int) % ((q : Nat) : Int)) ≠ 0) eb hc4 (wp_skip (then_n (wp_seq (sr (w_as Ev.c (nt (wp_block ?_)))))))
 refine c_loop (fun dN aN wl => ∃ (n : Nat), dN = (q + 1 - n) ∧ ∃ f5, aN = fr 50 f5 ∧ (1 ≤ n) ∧ (n ≤ Cb.last s) ∧ f5 0 = .string (str s) ∧ f5 1 = .int .i64 ((q : Nat) : Int) ∧ f5 6 = .int .i64 ((n : Nat) : Int) ∧ Below w0.heap.size w0 wl) (q + 1 - 1) ?_ ?_
 · exact ⟨1, rfl, _, rfl, iv, om, rfl, rfl, ti, hk⟩
 ·skip
  clear hk
  rintro _ _ w6 ⟨n, rfl, f5, rfl, i1_0, i1_1, s1_0, s1_1, s1_6, hk⟩
  refine wp_seq (sr (w_mv (ei s1_6) (w_mv (ei s1_1) (w_val (y_bin ei ei b_leq) (nt ?_)))))
  refine c_if (p := ((n : Nat) : Int) ≤ ((q : Nat) : Int)) eb (fun hc7 => ?_) (fun hc7 => ?_)
  ·skip
   refine wp_skip (then_n (wp_seq (wp_block (sr (w_mv (es s1_0) (w_mv (es s1_0) (w_val (y_len es Tryz.underlying9) (w_mv (ei s1_6) (w_val (y_bin ei ei (b_sub om)) (w_val (v := .string (str (s.take (s.length - n)))) (y_sls (ex (.string (str s))) evo.no (evo.s ei) Tryz.underlying9 (bnd_h (h := (s.length - n)) om om)) (w_mv (ei s1_1) (w_call (Tryz.func32) kr rfl (m2 es ei) (refPad_y (s.take (s.length - n)) q h1 h255 (by rw [List.length_take]; omega) w6) ?_))))))))))))
   rintro _ w8 ⟨rfl, hb9⟩
   refine ⟨_, rfl, ?_⟩
   replace hk := thenB hk hb9
   refine w_mv (ex (.tuple #[.string (str (Cb.pad (s.take (s.length - n)) q)), .int .i64 0])) (w_val ye (w_val ye (w_as es (w_as ei (nt (sr (w_mv es (w_mv (es s1_0) (w_val (y_bin es es b_eqs) (nt ?_))))))))))
   refine c_if (p := (Cb.pad (s.take (s.length - n)) q) = s) eb (fun hc10 => ?_) (fun hc10 => ?_)
   ·skip
    refine wp_seq ?_
    have hpl := Cb.pad_last s q n hm i1_0 om om h255 (by assumption)
    refine wp_region_lit (w_mv (es s1_0) (w_mv (es s1_0) (w_val (y_len es Tryz.underlying9) (w_mv (ei s1_6) (w_val (y_bin ei ei (b_sub om)) (w_val (v := .string (str (s.take (s.length - n)))) (y_sls (ex (.string (str s))) evo.no (evo.s ei) Tryz.underlying9 (bnd_h (h := (s.length - n)) om om)) (w_as es (w_as Ev.c (nt (wp_ret (inb_r (then_r (then_r (inb_r (then_r (fin_ret2 rfl es ei ?_))))))))))))))))
    refine ⟨congrArg Ending.returned ?_, hk⟩
    show (.tuple #[.string (str (s.take (s.length - n))), .int .i64 0] : Value) = .tuple #[.string (str (s.take (s.length - Cb.last s))), .int .i64 0]
    rw [hpl.2]
   ·skip
    refine wp_skip (inb_n (then_n (wp_region_lit (w_mv (ei s1_6) (w_val (y_bin ei Ev.c (b_add om)) (w_as ei (wpList_nil ?_)))))))
    have hne : n ≠ Cb.last s := by
      intro e
      have h := Cb.padded_pad s q hm hzl hp
      rw [← e] at h
      contradiction
    exact then_n ⟨_, om, n + 1, rfl, _, rfl, iv, iv, s1_0, s1_1, ti, hk⟩
  ·skip
   refine wp_exit (then_x (then_x (inb_x (then_n (wp_seq ?_)))))
   exfalso; omega

theorem refUnpad_n (s : List (BitVec 8)) (q : Nat) (h1 : 1 ≤ q) (h255 : q ≤ 255) (hs : s.length ≤ 1100000) (h0 : 0 < s.length) (hm : s.length % q = 0) (hp : ¬ Cb.Padded s q) (w0 : World) : Calls Tryz.prog 17 #[.string (str s), .int .i64 ((q : Nat) : Int)] w0 fun e w' => e = .returned (.tuple #[.string (str ([] : List (BitVec 8))), .int .i64 7]) ∧ Below w0.heap.size w0 w' := by
 have hzl : q ≤ s.length := Nat.le_of_dvd h0 (Nat.dvd_of_mod_eq_zero hm)
 have hl8 : Cb.last s < 256 := (gb s (s.length - 1)).isLt
 refine enter (n := 50) Tryz.func17 rfl rfl rfl ?_
 have hk : Below w0.heap.size w0 w0 := Below.refl _ _
 refine sr (w_as (evc (.string (str ([] : List (BitVec 8))))) (w_as Ev.c (nt (wp_seq (sr (w_mv ei (w_val (y_bin ei Ev.c b_lss) (w_mv eb ?_))))))))
 have hc1 : ¬ (((q : Nat) : Int) < 1) := by omega
 refine w_val_g (v := .int .i64 ((q : Nat) : Int)) (wy rfl rfl (eb (df hc1))) (y_mv ei) (w_val_g (wy rfl rfl (eb (df hc1))) (y_bin ei Ev.c b_gtr) (w_val (y_pick_f (eb (df hc1)) eb) (nt ?_)))
 have hc2 : ¬ (255 < ((q : Nat) : Int)) := by omega
 refine c_f (p := 255 < ((q : Nat) : Int)) eb hc2 (wp_skip (then_n (wp_seq (sr (w_mv es (w_val (y_len es Tryz.underlying9) (w_val (y_bin ei Ev.c b_eql) (w_mv eb ?_))))))))
 have hc3 : ¬ (((s.length : Nat) : Int) = 0) := by omega
 refine w_val_g (v := .string (str s)) (wy rfl rfl (eb (df hc3))) (y_mv es) (w_val_g (wy rfl rfl (eb (df hc3))) (y_len es Tryz.underlying9) (w_val_g (v := .int .i64 ((q : Nat) : Int)) (wy rfl rfl (eb (df hc3))) (y_mv ei) (w_val_g (wy rfl rfl (eb (df hc3))) (y_bin ei ei (b_rem om)) (w_val_g (wy rfl rfl (eb (df hc3))) (y_bin ei Ev.c b_neq) (w_val (y_pick_f (eb (df hc3)) eb) (nt ?_))))))
 have hc4 : ¬ ((((s.length : Nat) : Int) % ((q : Nat) : Int)) ≠ 0) := by omega
 refine c_f (p := (((s.length : Nat) : Int) % ((q : Nat) : Int)) ≠ 0) eb hc4 (wp_skip (then_n (wp_seq (sr (w_as Ev.c (nt (wp_block ?_)))))))
 refine c_loop (fun dN aN wl => ∃ (n : Nat), dN = (q + 1 - n) ∧ ∃ f5, aN = fr 50 f5 ∧ (1 ≤ n) ∧ (n ≤ q + 1) ∧ f5 0 = .string (str s) ∧ f5 1 = .int .i64 ((q : Nat) : Int) ∧ f5 6 = .int .i64 ((n : Nat) : Int) ∧ Below w0.heap.size w0 wl) (q + 1 - 1) ?_ ?_
 · exact ⟨1, rfl, _, rfl, iv, iv, rfl, rfl, ti, hk⟩
 ·skip
  clear hk
  rintro _ _ w6 ⟨n, rfl, f5, rfl, i1_0, i1_1, s1_0, s1_1, s1_6, hk⟩
  refine wp_seq (sr (w_mv (ei s1_6) (w_mv (ei s1_1) (w_val (y_bin ei ei b_leq) (nt ?_)))))
  refine c_if (p := ((n : Nat) : Int) ≤ ((q : Nat) : Int)) eb (fun hc7 => ?_) (fun hc7 => ?_)
  ·skip
   refine wp_skip (then_n (wp_seq (wp_block (sr (w_mv (es s1_0) (w_mv (es s1_0) (w_val (y_len es Tryz.underlying9) (w_mv (ei s1_6) (w_val (y_bin ei ei (b_sub om)) (w_val (v := .string (str (s.take (s.length - n)))) (y_sls (ex (.string (str s))) evo.no (evo.s ei) Tryz.underlying9 (bnd_h (h := (s.length - n)) om om)) (w_mv (ei s1_1) (w_call (Tryz.func32) kr rfl (m2 es ei) (refPad_y (s.take (s.length - n)) q h1 h255 (by rw [List.length_take]; omega) w6) ?_))))))))))))
   rintro _ w8 ⟨rfl, hb9⟩
   refine ⟨_, rfl, ?_⟩
   replace hk := thenB hk hb9
   refine w_mv (ex (.tuple #[.string (str (Cb.pad (s.take (s.length - n)) q)), .int .i64 0])) (w_val ye (w_val ye (w_as es (w_as ei (nt (sr (w_mv es (w_mv (es s1_0) (w_val (y_bin es es b_eqs) (nt ?_))))))))))
   refine c_if (p := (Cb.pad (s.take (s.length - n)) q) = s) eb (fun hc10 => ?_) (fun hc10 => ?_)
   ·skip
    refine wp_seq ?_
    have hpl := Cb.pad_last s q n hm i1_0 om om h255 (by assumption)
    exact absurd hpl.1 hp
   ·skip
    refine wp_skip (inb_n (then_n (wp_region_lit (w_mv (ei s1_6) (w_val (y_bin ei Ev.c (b_add om)) (w_as ei (wpList_nil ?_)))))))
    exact then_n ⟨_, om, n + 1, rfl, _, rfl, iv, iv, s1_0, s1_1, ti, hk⟩
  ·skip
   refine wp_exit (then_x (then_x (inb_x (then_n (sr (w_as (evc (.string (str ([] : List (BitVec 8))))) (w_as Ev.c (nt (wp_ret (fin_ret2 rfl es ei ?_))))))))))
   exact ⟨rfl, hk⟩
end Go.Proofs.YtepogbfkmflooaaGreatDoor
