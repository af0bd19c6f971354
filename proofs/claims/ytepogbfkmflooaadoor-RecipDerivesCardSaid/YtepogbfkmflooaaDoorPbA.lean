/-
  Keys from passwords: what the program makes. Conditions as each says.
-/
import Derived.Test.YtepogbfkmflooaaDoorRows
import Derived.Test.YtepogbfkmflooaaDoorHmacW
import Derived.Test.YtepogbfkmflooaaDoorPbPlain
import Derived.Test.YtepogbfkmflooaaDoorOctW
import Derived.Test.YtepogbfkmflooaaDoorGenSh
import Derived.ProofKit
namespace Go.Proofs.YtepogbfkmflooaaDoor
open Go.RowKit
set_option linter.unusedSimpArgs false
set_option linter.unusedVariables false
set_option maxRecDepth 100000
set_option maxHeartbeats 1000000
namespace PbAT
theorem mixed : Tryd.prog.follows .mixedOrders = true := by kernel_rfl
theorem sc5 : (Tryd.prog.underlying 5).map scal = some true := by rw [Tryd.underlying5]; rfl
theorem sz5 : (Tryd.prog.info? 5).map (·.size) = some 1 := by kernel_rfl
end PbAT
theorem pbBlock_l (kind : Nat) (hkd : Sha.Known kind) (m pi po pn i r : Nat) (t pw salt : List (BitVec 8)) (hi_ : i < 4294967296) (hr1 : 1 ≤ r) (hr2 : r ≤ 4096) (hsl : salt.length ≤ 1024) (h1 : 0 < pi ∧ 1 < pi) (h2 : 0 < po ∧ 1 < po) (h3 : 0 < m ∧ 1 < m) (n1 : pi ≠ po) (n2 : pi ≠ pn) (n3 : po ≠ pn) (n4 : m ≠ pi) (n5 : m ≠ po) (n6 : m ≠ pn) (w0 : World) (r_m : Row w0 m 79 3 (fun j => if j < 1 then pt pi 0 else if j < 2 then pt po 0 else pt pn 0)) (hT : Sha.Tabs w0) (hi : Sha.At w0 pi kind (Hm.pd kind pw 54#8)) (ho : Sha.At w0 po kind (Hm.pd kind pw 92#8)) (hn : Sha.At w0 pn kind t) : Calls Tryd.prog 38 #[pt m 0, .string (str salt), U64 (BitVec.ofNat 64 i), .int .i64 ((r : Nat) : Int)] w0 fun e w' => ∃ (bk ck pn' : Nat) (t' : List (BitVec 8)), e = .returned (.slice (some ⟨bk, 0, none⟩) (Sha.ol kind) ck) ∧ w0.heap.size ≤ bk ∧ Sha.ol kind ≤ ck ∧ Row w' bk 5 (Sha.ol kind) (fun j => U8 (gb (Pb.tn kind pw salt i (r - 1)) j)) ∧ w0.heap.size ≤ pn' ∧ Row w' m 79 3 (fun j => if j < 1 then pt pi 0 else if j < 2 then pt po 0 else pt pn' 0) ∧ Sha.At w' pn' kind t' ∧ w0.grownBy w' (some m) := by
 have hT0 := hT.lt
 have hbs := Sha.bs_le kind
 have hol := Sha.ol_lt kind
 have hul := Pb.un_len kind pw salt i 0
 refine enter (n := 66) Tryd.func38 rfl rfl rfl ?_
 have hk : w0.grownBy w0 (some m) := grown_refl _ _
 have lt_m := r_m.lt
 refine sr (w_as Ev.c (nt (sr (w_mv e6 (w_call (Tryd.func28) kr rfl (m2 e6 Ev.c) (put_c (BitVec.ofNat 64 i) 4 om om (fun _ => Pb.shr_zero i hi_) w0) ?_)))))
 rintro _ w1 ⟨rfl, hb2⟩
 refine ⟨_, rfl, ?_⟩
 replace r_m := r_m.step hb2
 replace hk := grown_thenB hk hb2
 replace hT := Sha.Tabs.below hT hb2
 replace hi := Sha.At.below hi hb2
 replace ho := Sha.At.below ho hb2
 replace hn := Sha.At.below hn hb2
 refine w_mv (ex (.tuple #[.string (str (Oct.be (BitVec.ofNat 64 i) 4)), .int .i64 0])) (w_val ye (w_val ye (w_as es (w_as ei (nt (sr (w_mv (ex (pt m 0)) ?_)))))))
 clear hn
 have rm_ := r_m
 clear r_m
 refine w_call (Tryd.func53) kr rfl (m1 (ex (pt m 0))) (macAgain_l kind hkd m pi po pn (Hm.pd kind pw 54#8) om om om w1 rm_ hT hi) ?_
 rintro _ w3 ⟨pn2, rfl, hge_pn2, r_m, hn, hga⟩
 refine ⟨_, rfl, ?_⟩
 have ne_pi_pn2 : pi ≠ pn2 := by have := hi.lt; omega
 have ne_po_pn2 : po ≠ pn2 := by have := ho.lt; omega
 have ge_pn2 : w0.heap.size ≤ pn2 := by have := hk.size; omega
 have ne_m_pn2 : m ≠ pn2 := by have := rm_.lt; omega
 replace hk := grown_thenG hk hga om
 replace hT := Sha.Tabs.grown hT hga om om
 replace hi := Sha.At.grown hi hga om
 replace ho := Sha.At.grown ho hga om
 refine nt (sr (w_mv (ex (pt m 0)) (w_mv es ?_)))
 have hw_ := hn
 clear hn
 refine w_call (Tryd.func29) kr rfl (m2 (ex (pt m 0)) es) (macWrite_l kind hkd m pi po pn2 (Hm.pd kind pw 54#8) salt om (by (try simp only [Pb.un_len, Oct.length_be]); omega) om w3 r_m hT hw_) ?_
 rintro _ w4 ⟨rfl, hn, hgw⟩
 refine ⟨_, rfl, ?_⟩
 replace r_m := r_m.stepG hgw om
 replace hk := grown_thenG hk hgw om
 replace hT := Sha.Tabs.grown hT hgw om om
 replace hi := Sha.At.grown hi hgw om
 replace ho := Sha.At.grown ho hgw om
 refine nt (sr (w_mv (ex (pt m 0)) (w_mv es ?_)))
 have hw_ := hn
 clear hn
 refine w_call (Tryd.func29) kr rfl (m2 (ex (pt m 0)) es) (macWrite_l kind hkd m pi po pn2 ((Hm.pd kind pw 54#8) ++ salt) (Oct.be (BitVec.ofNat 64 i) 4) om (by (try simp only [Pb.un_len, Oct.length_be]); omega) om w4 r_m hT hw_) ?_
 rintro _ w5 ⟨rfl, hn, hgw⟩
 refine ⟨_, rfl, ?_⟩
 replace r_m := r_m.stepG hgw om
 replace hk := grown_thenG hk hgw om
 replace hT := Sha.Tabs.grown hT hgw om om
 replace hi := Sha.At.grown hi hgw om
 replace ho := Sha.At.grown ho hgw om
 refine nt (wp_seq ?_)
 rw [List.append_assoc] at hn
 refine wp_region_lit (w_mv (ex (pt m 0)) (w_call (Tryd.func30) kr rfl (m1 (ex (pt m 0))) (macSum_l kind hkd m pi po pn2 ((Hm.pd kind pw 54#8) ++ (salt ++ (Oct.be (BitVec.ofNat 64 i) 4))) (Hm.pd kind pw 92#8) om om (by (try simp only [List.length_append, Hm.pd_len, Pb.un_len, Oct.length_be]); omega) (by rw [Hm.pd_len]; omega) om w5 r_m hT ho hn) ?_))
 rintro _ w6 ⟨rfl, hb7⟩
 refine ⟨_, rfl, ?_⟩
 replace r_m := r_m.step hb7
 replace hk := grown_thenB hk hb7
 replace hT := Sha.Tabs.below hT hb7
 replace hi := Sha.At.below hi hb7
 replace ho := Sha.At.below ho hb7
 replace hn := Sha.At.below hn hb7
 refine w_mv (ex (.tuple #[.string (str (Pb.un kind pw salt i 0)), .int .i64 0])) (w_val ye (w_val ye (w_as es (w_as ei (nt (sr (w_mv es (w_bytes es Tryd.underlying9 Tryd.underlying63 Tryd.underlying5 ?_))))))))
 intro b_34 cap_b_34 w8 hbe_b_34 hc_b_34 r_b_34 hb9
 have ne_m_b_34 := r_m.nb hbe_b_34
 have ne_pi_b_34 : pi ≠ b_34 := by have := hi.lt; omega
 have ne_po_b_34 : po ≠ b_34 := by have := ho.lt; omega
 have ne_pn2_b_34 : pn2 ≠ b_34 := by have := hn.lt; omega
 have ge_b_34 := gb_ hk.size hbe_b_34
 clear hbe_b_34
 replace r_m := r_m.step hb9
 replace hk := grown_thenB hk hb9
 replace hT := Sha.Tabs.below hT hb9
 replace hi := Sha.At.below hi hb9
 replace ho := Sha.At.below ho hb9
 replace hn := Sha.At.below hn hb9
 refine w_as el (nt (wp_seq (sr (w_mv ei (w_val (y_bin ei Ev.c (b_sub om)) (w_mv Ev.c (nt (wp_block ?_))))))))
 refine c_loop (fun dN aN wl => ∃ (k : Nat) (pn : Nat) (t : List (BitVec 8)), dN = (r - 1 - k) ∧ ∃ f10, aN = fr 66 f10 ∧ (k ≤ r - 1) ∧ (w0.heap.size ≤ pn) ∧ (pi ≠ pn) ∧ (po ≠ pn) ∧ (m ≠ pn) ∧ (b_34 ≠ pn) ∧ f10 0 = pt m 0 ∧ f10 8 = .slice none 0 0 ∧ f10 11 = .string (str (Pb.un kind pw salt i k)) ∧ f10 13 = .slice (some ⟨b_34, 0, none⟩) ((Pb.un kind pw salt i 0).length) cap_b_34 ∧ f10 36 = .int .i64 (((r : Nat) : Int) - 1) ∧ f10 37 = .int .i64 ((k : Nat) : Int) ∧ Row wl m 79 3 (fun j => if j < 1 then pt pi 0 else if j < 2 then pt po 0 else pt pn 0) ∧ Row wl b_34 5 ((Pb.un kind pw salt i 0).length) (fun j => U8 (gb (Pb.tn kind pw salt i k) j)) ∧ Sha.Tabs wl ∧ Sha.At wl pi kind (Hm.pd kind pw 54#8) ∧ Sha.At wl po kind (Hm.pd kind pw 92#8) ∧ Sha.At wl pn kind t ∧ w0.grownBy wl (some m)) (r - 1 - 0) ?_ ?_
 · exact ⟨0, pn2, _, rfl, _, rfl, iv, iv, iv, iv, iv, iv, rfl, rfl, rfl, rfl, rfl, ti, (r_m.congr (fun j hj => by rfl)), (r_b_34.congr (fun j hj => by rfl)), hT, hi, ho, hn, hk⟩
 ·skip
  clear r_m r_b_34 hT hi ho hn hk
  rintro _ _ w11 ⟨k, pn, t, rfl, f10, rfl, i1_0, i1_1, i1_2, i1_3, i1_4, i1_5, s1_0, s1_8, s1_11, s1_13, s1_36, s1_37, r_m, r_b_34, hT, hi, ho, hn, hk⟩
  have hul1 := Pb.un_len kind pw salt i (k + 1)
  have hul0 := Pb.un_len kind pw salt i k
  refine sr (w_val (y_bin (ei s1_37) (ei s1_36) b_lss) (nt (wp_seq ?_)))
  refine c_if (p := ((k : Nat) : Int) < (((r : Nat) : Int) - 1)) eb (fun hc12 => ?_) (fun hc12 => ?_)
  ·skip
   refine wp_skip (then_n (wp_seq (wp_block (sr (w_mv (ex (pt m 0) s1_0) ?_)))))
   clear hn
   have rm_ := r_m
   clear r_m
   refine w_call (Tryd.func53) kr rfl (m1 (ex (pt m 0))) (macAgain_l kind hkd m pi po pn (Hm.pd kind pw 54#8) om om om w11 rm_ hT hi) ?_
   rintro _ w13 ⟨pn2, rfl, hge_pn2, r_m, hn, hga⟩
   refine ⟨_, rfl, ?_⟩
   have ne_b_34_pn2 : b_34 ≠ pn2 := by have := r_b_34.lt; omega
   have ne_pi_pn2 : pi ≠ pn2 := by have := hi.lt; omega
   have ne_po_pn2 : po ≠ pn2 := by have := ho.lt; omega
   have ge_pn2 : w0.heap.size ≤ pn2 := by have := hk.size; omega
   have ne_m_pn2 : m ≠ pn2 := by have := rm_.lt; omega
   replace r_b_34 := r_b_34.stepG hga om
   replace hk := grown_thenG hk hga om
   replace hT := Sha.Tabs.grown hT hga om om
   replace hi := Sha.At.grown hi hga om
   replace ho := Sha.At.grown ho hga om
   refine nt (sr (w_mv (ex (pt m 0) s1_0) (w_mv (es s1_11) ?_)))
   have hw_ := hn
   clear hn
   refine w_call (Tryd.func29) kr rfl (m2 (ex (pt m 0)) es) (macWrite_l kind hkd m pi po pn2 (Hm.pd kind pw 54#8) (Pb.un kind pw salt i k) om (by (try simp only [Pb.un_len, Oct.length_be]); omega) om w13 r_m hT hw_) ?_
   rintro _ w14 ⟨rfl, hn, hgw⟩
   refine ⟨_, rfl, ?_⟩
   replace r_b_34 := r_b_34.stepG hgw om
   replace r_m := r_m.stepG hgw om
   replace hk := grown_thenG hk hgw om
   replace hT := Sha.Tabs.grown hT hgw om om
   replace hi := Sha.At.grown hi hgw om
   replace ho := Sha.At.grown ho hgw om
   refine nt (sr (w_mv (ex (pt m 0) s1_0) (w_call (Tryd.func30) kr rfl (m1 (ex (pt m 0))) (macSum_l kind hkd m pi po pn2 ((Hm.pd kind pw 54#8) ++ (Pb.un kind pw salt i k)) (Hm.pd kind pw 92#8) om om (by (try simp only [List.length_append, Hm.pd_len, Pb.un_len, Oct.length_be]); omega) (by rw [Hm.pd_len]; omega) om w14 r_m hT ho hn) ?_)))
   rintro _ w15 ⟨rfl, hb16⟩
   refine ⟨_, rfl, ?_⟩
   replace r_b_34 := r_b_34.step hb16
   replace r_m := r_m.step hb16
   replace hk := grown_thenB hk hb16
   replace hT := Sha.Tabs.below hT hb16
   replace hi := Sha.At.below hi hb16
   replace ho := Sha.At.below ho hb16
   replace hn := Sha.At.below hn hb16
   refine w_mv (ex (.tuple #[.string (str (Pb.un kind pw salt i (k + 1))), .int .i64 0])) (w_val ye (w_val ye (w_as es (nt (sr (w_mv (el s1_13) (w_val (v := .int .i64 (((Pb.un kind pw salt i 0).length : Nat) : Int)) (y_len_sl el Tryd.underlying63) (w_mv Ev.c (nt (wp_block ?_))))))))))
   refine c_loop (fun dN aN wl => ∃ (q : Nat), dN = (Sha.ol kind - q) ∧ ∃ f17, aN = fr 66 f17 ∧ (q ≤ Sha.ol kind) ∧ f17 0 = pt m 0 ∧ f17 8 = .slice none 0 0 ∧ f17 11 = .string (str (Pb.un kind pw salt i (k + 1))) ∧ f17 13 = .slice (some ⟨b_34, 0, none⟩) ((Pb.un kind pw salt i 0).length) cap_b_34 ∧ f17 36 = .int .i64 (((r : Nat) : Int) - 1) ∧ f17 37 = .int .i64 ((k : Nat) : Int) ∧ f17 50 = .int .i64 (((Pb.un kind pw salt i 0).length : Nat) : Int) ∧ f17 51 = .int .i64 ((q : Nat) : Int) ∧ Row wl b_34 5 ((Pb.un kind pw salt i 0).length) (fun j => if j < q then (fun j => U8 (gb (Pb.tn kind pw salt i (k + 1)) j)) j else (fun j => U8 (gb (Pb.tn kind pw salt i k) j)) j) ∧ Row wl m 79 3 (fun j => if j < 1 then pt pi 0 else if j < 2 then pt po 0 else pt pn2 0) ∧ Sha.Tabs wl ∧ Sha.At wl pi kind (Hm.pd kind pw 54#8) ∧ Sha.At wl po kind (Hm.pd kind pw 92#8) ∧ Sha.At wl pn2 kind ((Hm.pd kind pw 54#8) ++ (Pb.un kind pw salt i k)) ∧ w0.grownBy wl (some m)) (Sha.ol kind - 0) ?_ ?_
   · exact ⟨0, rfl, _, rfl, iv, s1_0, s1_8, rfl, s1_13, s1_36, s1_37, rfl, ti, (r_b_34.cg), r_m, hT, hi, ho, hn, hk⟩
   ·skip
    clear r_b_34 r_m hT hi ho hn hk
    rintro _ _ w18 ⟨q, rfl, f17, rfl, i2_0, s2_0, s2_8, s2_11, s2_13, s2_36, s2_37, s2_50, s2_51, r_b_34, r_m, hT, hi, ho, hn, hk⟩
    refine sr (w_val (y_bin (ei s2_51) (ei s2_50) b_lss) (nt (wp_seq ?_)))
    refine c_if (p := ((q : Nat) : Int) < (((Pb.un kind pw salt i 0).length : Nat) : Int)) eb (fun hc19 => ?_) (fun hc19 => ?_)
    ·skip
     refine wp_skip (then_n (wp_seq (wp_block (sr (w_mv (ei s2_51) (w_as ei (nt (region_t 9 PbAT.mixed kr ?_))))))))
     simp only [List.take_succ_cons, List.take_zero, List.drop_succ_cons, List.drop_zero]
     refine q_mv (el s2_13) (q_mv ei (q_val (fun w' hw' => y_is1z (i := q) el ei Tryd.underlying63 PbAT.sz5 om om) (q_val (v := U8 (gb (Pb.tn kind pw salt i k) q)) (fun w' hw' => y_ld (ex (pt b_34 q)) PbAT.sc5 (cls_cell (r_b_34.val om (ng rfl)) r_b_34.lt w' hw')) (q_mv (es s2_11) (q_mv ei (q_val (v := U8 (gb (Pb.un kind pw salt i (k + 1)) q)) (fun w' hw' => y_idx (ex (.string (str (Pb.un kind pw salt i (k + 1))))) ei Tryd.underlying9 om om) (q_val (fun w' hw' => y_bin e8 e8 xor8) (q_val (fun w' hw' => y_is1z (i := q) el ei Tryd.underlying63 PbAT.sz5 om om) (q_nil ?_)))))))))
     intro w20 hb21
     replace r_b_34 := r_b_34.step hb21
     replace r_m := r_m.step hb21
     replace hk := grown_thenB hk hb21
     replace hT := Sha.Tabs.below hT hb21
     replace hi := Sha.At.below hi hb21
     replace ho := Sha.At.below ho hb21
     replace hn := Sha.At.below hn hb21
     refine w_st (v := U8 ((gb (Pb.tn kind pw salt i k) q) ^^^ (gb (Pb.un kind pw salt i (k + 1)) q))) (ex (pt b_34 q)) e8 rfl rfl PbAT.sz5 r_b_34 om ?_
     clear r_b_34; intro w22 r_b_34 hg23 _
     replace r_m := r_m.stepG hg23 om
     replace hk := grown_thenG hk hg23 om
     replace hT := Sha.Tabs.grown hT hg23 om om
     replace hi := Sha.At.grown hi hg23 om
     replace ho := Sha.At.grown ho hg23 om
     replace hn := Sha.At.grown hn hg23 om
     refine wpList_nil (inb_n (then_n (wp_region_lit (w_val (y_bin (ei s2_51) Ev.c (b_add om)) (w_mv ei (wpList_nil ?_))))))
     exact then_n ⟨_, om, q + 1, rfl, _, rfl, iv, s2_0, s2_8, s2_11, s2_13, s2_36, s2_37, s2_50, ti, (r_b_34.congr (fun j hj => by (try dsimp only); by_cases e : j = q; (rw [if_pos e, if_pos om, e, Pb.gb_tn _ _ _ _ _ _ om]); (rw [if_neg e]; by_cases e2 : j < q; (rw [if_pos e2]; exact (if_pos om).symm); (rw [if_neg e2]; exact (if_neg om).symm)))), r_m, hT, hi, ho, hn, hk⟩
    ·skip
     refine wp_exit (then_x ?_)
     replace r_b_34 := r_b_34.congr (g := fun j => U8 (gb (Pb.tn kind pw salt i (k + 1)) j)) (fun j hj => by (try dsimp only); rw [if_pos om])
     refine then_x (inb_x (inb_n (then_n (wp_region_lit (w_val (y_bin (ei s2_37) Ev.c (b_add om)) (w_mv ei (wpList_nil ?_)))))))
     exact then_n ⟨_, om, k + 1, pn2, _, rfl, _, rfl, iv, iv, iv, iv, iv, iv, s2_0, s2_8, s2_11, s2_13, s2_36, ti, r_m, r_b_34, hT, hi, ho, hn, hk⟩
  ·skip
   refine wp_exit (then_x (then_x (inb_x (then_n (sr (w_mv (el s1_13) (w_as el (nt (wp_ret (fin_ret1 rfl el ?_))))))))))
   rw [hul] at r_b_34 hc_b_34
   rw [show k = r - 1 from by omega] at r_b_34
   exact ⟨b_34, cap_b_34, pn, t, congrArg (fun n => Ending.returned (Value.slice (some ⟨b_34, 0, none⟩) n cap_b_34)) hul, ge_b_34, hc_b_34, r_b_34, om, r_m.congr (fun j hj => by rcases (by omega : j = 0 ∨ j = 1 ∨ j = 2) with h | h | h <;> subst h <;> rfl), hn, hk⟩

theorem pbKey_y (kind : Nat) (hkd : Sha.Known kind) (r l : Nat) (hr1 : 1 ≤ r) (hr2 : r ≤ 4096) (hl1 : 1 ≤ l) (hl2 : l ≤ 256) (pw salt : List (BitVec 8)) (hsl : salt.length ≤ 1024) (hp : pw.length ≤ 140737488351232) (w0 : World) (hT : Sha.Tabs w0) : Calls Tryd.prog 20 #[.int .i64 ((kind : Nat) : Int), .string (str pw), .string (str salt), .int .i64 ((r : Nat) : Int), .int .i64 ((l : Nat) : Int)] w0 fun e w' => e = .returned (.tuple #[.string (str (Pb.dk kind pw salt r l)), .int .i64 0]) ∧ Below w0.heap.size w0 w' := by
 have hT0 := hT.lt
 have hbs := Sha.bs_le kind
 have hol := Sha.ol_lt kind
 refine enter (n := 72) Tryd.func20 rfl rfl rfl ?_
 have hk : Below w0.heap.size w0 w0 := Below.refl _ _
 refine sr (w_as (evc (.string (str ([] : List (BitVec 8))))) (w_as Ev.c (nt (sr (w_mv ei (w_call (Tryd.func37) kr rfl (m1 ei) (size_l kind  w0 hkd) ?_))))))
 rintro _ w1 ⟨rfl, hb2⟩
 refine ⟨_, rfl, ?_⟩
 replace hk := thenB hk hb2
 replace hT := Sha.Tabs.below hT hb2
 refine w_mv (ex (.tuple #[.int .i64 ((Sha.ol kind : Nat) : Int), .int .i64 ((Sha.bs kind : Nat) : Int), .int .i64 0])) (w_val ye (w_val ye (w_val ye (w_as ei (w_as ei (w_as ei (nt (wp_seq (wp_block (sr (w_mv ei (w_val (y_bin ei Ev.c b_neq) (w_as eb (nt (c_ff eb (sr (w_mv ei (w_val (y_bin ei Ev.c b_lss) (w_mv eb ?_)))))))))))))))))))
 have hc3 : ¬ (((r : Nat) : Int) < 1) := by omega
 refine w_val_g (v := .int .i64 ((l : Nat) : Int)) (wy rfl rfl (eb (df hc3))) (y_mv ei) (w_val_g (wy rfl rfl (eb (df hc3))) (y_bin ei Ev.c b_lss) (w_val (y_pick_f (eb (df hc3)) eb) (w_mv eb ?_)))
 have hc4 : ¬ (((l : Nat) : Int) < 1) := by omega
 refine w_val_g (v := .int .i64 ((l : Nat) : Int)) (wy rfl rfl (eb (df hc4))) (y_mv ei) (w_val_g (wy rfl rfl (eb (df hc4))) (y_bin ei Ev.c b_gtr) (w_val (y_pick_f (eb (df hc4)) eb) (w_as eb (nt ?_))))
 have hc5 : ¬ (256 < ((l : Nat) : Int)) := by omega
 refine c_f (p := 256 < ((l : Nat) : Int)) eb hc5 (sr (w_mv ei (w_val (y_bin ei Ev.c b_gtr) (w_as eb (nt ?_)))))
 have hc6 : ¬ (4096 < ((r : Nat) : Int)) := by omega
 refine c_f (p := 4096 < ((r : Nat) : Int)) eb hc6 (sr (w_mv es (w_val (y_len es Tryd.underlying9) (w_val (y_bin ei Ev.c b_gtr) (w_as eb (nt ?_))))))
 have hc7 : ¬ (1024 < ((salt.length : Nat) : Int)) := by omega
 refine c_f (p := 1024 < ((salt.length : Nat) : Int)) eb hc7 (wp_skip (inb_n (then_n (sr (w_mv ei (w_mv es (w_call (Tryd.func27) kr rfl (m2 ei es) (macNew_l kind hkd pw om w1 hT) ?_)))))))
 rintro _ w8 ⟨m, pi, po, pn, rfl, hge_m, hge_pi, hge_po, hge_pn, nb1, nb2, nb3, nb4, nb5, nb6, r_m, hi, ho, hn, hb_m⟩
 refine ⟨_, rfl, ?_⟩
 have ge_m : w0.heap.size ≤ m := by have := hk.size; omega
 have ge_pi : w0.heap.size ≤ pi := by have := hk.size; omega
 have ge_po : w0.heap.size ≤ po := by have := hk.size; omega
 have ge_pn : w0.heap.size ≤ pn := by have := hk.size; omega
 replace hk := thenB hk hb_m
 replace hT := Sha.Tabs.below hT hb_m
 refine w_mv (ex (.tuple #[pt m 0, .int .i64 0])) (w_val ye (w_val ye (w_as (ex (pt m 0)) (w_as ei (nt (sr (w_as Ev.c (nt (wp_seq (sr (w_as (evc (U64 (1#64))) (nt (wp_block ?_)))))))))))))
 refine c_loop (fun dN aN wl => ∃ (n : Nat) (pn : Nat) (t : List (BitVec 8)) (vo : Value), dN = (l + 64 - Sha.ol kind * n) ∧ ∃ f9, aN = fr 72 f9 ∧ (Sha.ol kind * n < l + Sha.ol kind) ∧ (w0.heap.size ≤ pn) ∧ (pi ≠ pn) ∧ (po ≠ pn) ∧ (m ≠ pn) ∧ f9 2 = .string (str salt) ∧ f9 3 = .int .i64 ((r : Nat) : Int) ∧ f9 4 = .int .i64 ((l : Nat) : Int) ∧ f9 10 = .string (str ([] : List (BitVec 8))) ∧ f9 11 = .int .i64 0 ∧ f9 12 = .int .i64 ((Sha.ol kind : Nat) : Int) ∧ f9 15 = pt m 0 ∧ f9 17 = vo ∧ f9 18 = U64 (BitVec.ofNat 64 (n + 1)) ∧ Row wl m 79 3 (fun j => if j < 1 then pt pi 0 else if j < 2 then pt po 0 else pt pn 0) ∧ Own wl w0.heap.size 5 1 vo (Sha.ol kind * n) (fun j => U8 (gb (Pb.out kind pw salt r n) j)) ∧ vo.ownBlock ≠ some m ∧ vo.ownBlock ≠ some pi ∧ vo.ownBlock ≠ some po ∧ vo.ownBlock ≠ some pn ∧ Sha.Tabs wl ∧ Sha.At wl pi kind (Hm.pd kind pw 54#8) ∧ Sha.At wl po kind (Hm.pd kind pw 92#8) ∧ Sha.At wl pn kind t ∧ Below w0.heap.size w0 wl) (l + 64 - Sha.ol kind * 0) ?_ ?_
 · exact ⟨0, pn, _, (.slice none 0 0), rfl, _, rfl, (by rw [Nat.mul_zero]; omega), iv, iv, iv, iv, rfl, rfl, rfl, rfl, rfl, rfl, rfl, (etv (b := .slice none 0 0) rfl), (Eq.trans (b := U64 (1#64)) rfl (by rfl)), (r_m.congr (fun j hj => by rfl)), Own.nil, (fun e => by cases e), (fun e => by cases e), (fun e => by cases e), (fun e => by cases e), hT, hi, ho, hn, hk⟩
 ·skip
  clear r_m hT hi ho hn hk
  rintro _ _ w10 ⟨n, pn, t, vo, rfl, f9, rfl, i1_0, i1_1, i1_2, i1_3, i1_4, s1_2, s1_3, s1_4, s1_10, s1_11, s1_12, s1_15, s1_17, s1_18, r_m, o_vo, no_vo_m, no_vo_pi, no_vo_po, no_vo_pn, hT, hi, ho, hn, hk⟩
  have hmul : Sha.ol kind * (n + 1) = Sha.ol kind * n + Sha.ol kind := Nat.mul_succ _ _
  have hn32 := Nat.mul_le_mul_right n hol.1
  refine wp_seq (sr (w_mv (ex vo s1_17) (w_val (v := .int .i64 (((Sha.ol kind * n) : Nat) : Int)) (y_len_own (ex vo) o_vo Tryd.underlying63) (w_mv (ei s1_4) (w_val (y_bin ei ei b_lss) (nt ?_))))))
  refine c_if (p := (((Sha.ol kind * n) : Nat) : Int) < ((l : Nat) : Int)) eb (fun hc11 => ?_) (fun hc11 => ?_)
  ·skip
   refine wp_skip (then_n (wp_seq (wp_block (wp_region_lit (w_mv (ex vo s1_17) (w_mv (ex (pt m 0) s1_15) (w_mv (es s1_2) (w_mv (e6 s1_18) (w_mv (ei s1_3) ?_)))))))))
   have hw_ := hn
   have rm_ := r_m
   clear hn r_m
   refine w_call (Tryd.func38) kr rfl (m4 (ex (pt m 0)) es e6 ei) (pbBlock_l kind hkd m pi po pn (n + 1) r _ pw salt om om om om om om om om om om om om om w10 rm_ hT hi ho hw_) ?_
   rintro _ w12 ⟨bk, ck, pn2, t2, rfl, hge_bk, hc_bk, r_bk, hge_pn2, r_m, hn, hga⟩
   refine ⟨_, rfl, ?_⟩
   have ne_pi_bk : pi ≠ bk := by have := hi.lt; omega
   have ne_po_bk : po ≠ bk := by have := ho.lt; omega
   have no_vo_bk : vo.ownBlock ≠ some bk := o_vo.apart om
   have ge_bk : w0.heap.size ≤ bk := by have := hk.size; omega
   have ne_m_bk : m ≠ bk := by have := rm_.lt; omega
   have ne_pi_pn2 : pi ≠ pn2 := by have := hi.lt; omega
   have ne_po_pn2 : po ≠ pn2 := by have := ho.lt; omega
   have no_vo_pn2 : vo.ownBlock ≠ some pn2 := o_vo.apart om
   have ge_pn2 : w0.heap.size ≤ pn2 := by have := hk.size; omega
   have ne_m_pn2 : m ≠ pn2 := by have := rm_.lt; omega
   replace o_vo := o_vo.stepG hga no_vo_m
   replace hk := thenG hk hga om
   replace hT := Sha.Tabs.grown hT hga om om
   replace hi := Sha.At.grown hi hga om
   replace ho := Sha.At.grown ho hga om
   have ne_bk_pn2 : bk ≠ pn2 := Sha.At.ne_row hn r_bk (by decide)
   refine w_mv (ei s1_12) (w_val (v := .slice (some ⟨bk, 0, none⟩) (Sha.ol kind) ck) (y_slh (ex (.slice (some ⟨bk, 0, none⟩) (Sha.ol kind) ck)) (evo.s ei) Tryd.underlying63 (bnd_h (h := (Sha.ol kind)) om om) PbAT.sz5) (w_app (k := (Sha.ol kind * n)) (m := (Sha.ol kind)) (size := 1) (bytes := 1) (ex vo) el Tryd.underlying63 kr (by decide) o_vo hk.size r_bk om oca (by simp only [maxLen]; omega) om ?_))
   intro v13 w14 o_v13 hg15 hv16
   have no_v13_m := no_new no_vo_m r_m.lt hv16
   replace r_m := r_m.stepO hg15 no_vo_m
   have no_v13_bk := no_new no_vo_bk r_bk.lt hv16
   replace r_bk := r_bk.stepO hg15 no_vo_bk
   replace hk := thenO hk hg15 (fun g e => (o_vo.block_lt g e).2)
   have no_v13_pi := no_new no_vo_pi hi.lt hv16
   have no_v13_po := no_new no_vo_po ho.lt hv16
   have no_v13_pn2 := no_new no_vo_pn2 hn.lt hv16
   replace hT := Sha.Tabs.grownO hT hg15 (fun g e => by have := (o_vo.block_lt g e).2; omega)
   replace hi := Sha.At.grownO hi hg15 no_vo_pi
   replace ho := Sha.At.grownO ho hg15 no_vo_po
   replace hn := Sha.At.grownO hn hg15 no_vo_pn2
   clear o_vo
   refine w_as (ex v13) (wpList_nil (inb_n (then_n (wp_region_lit (w_mv (e6 s1_18) (w_val (y_bin e6 (evc (U64 (1#64))) add64) (w_as e6 (wpList_nil ?_))))))))
   exact then_n ⟨_, om, n + 1, pn2, _, v13, rfl, _, rfl, iv, iv, iv, iv, iv, s1_2, s1_3, s1_4, s1_10, s1_11, s1_12, s1_15, rfl, (Eq.trans (b := U64 ((BitVec.ofNat 64 (n + 1)) + (1#64))) rfl (by exact congrArg U64 (BitVec.ofNat_add (n := 64) (n + 1) 1).symm)), r_m, (own_n (o_v13.congr (fun j hj => by (try dsimp only); show _ = U8 (gb (Pb.out kind pw salt r n ++ Pb.tn kind pw salt (n + 1) (r - 1)) j); rw [gb_append, Pb.out_len]; by_cases e : j < Sha.ol kind * n; (rw [if_pos (show j < Sha.ol kind * n * 1 by omega), if_pos e]); (rw [if_neg (show ¬ j < Sha.ol kind * n * 1 by omega), if_neg e]; exact congrArg U8 (congrArg (gb _) om)))) om), no_v13_m, no_v13_pi, no_v13_po, no_v13_pn2, hT, hi, ho, hn, hk⟩
  ·skip
   refine wp_exit (then_x (then_x (inb_x (then_n (wp_seq ?_)))))
   obtain ⟨g17, cap17, hv17, ge_g17, hc_g17, hob_g17, r_g17⟩ := o_vo.opened om
   have ne_m_g17 : m ≠ g17 := fun e => no_vo_m (by rw [hob_g17, e])
   refine wp_region_lit (w_mv (ex vo s1_17) (w_mv (ei s1_4) (w_val (v := .slice (some ⟨g17, 0, none⟩) l cap17) (y_slh (ex (.slice (some ⟨g17, 0, none⟩) (Sha.ol kind * n) cap17) (Eq.trans (b := vo) rfl hv17)) (evo.s ei) Tryd.underlying63 (bnd_h (h := l) om om) PbAT.sz5) (w_val (y_str (l := Pb.dk kind pw salt r l) el (by rw [Pb.dk_len]) Tryd.underlying63 Tryd.underlying5 Tryd.underlying9 (fun j hj => (r_g17.val om (by rw [Nat.zero_add, ← Pb.out_take kind pw salt r n l om, gb_take _ _ _ om])))) (w_as es (w_as Ev.c (nt (wp_ret (fin_ret2 rfl es ei ?_)))))))))
   exact ⟨rfl, hk⟩

theorem pbKey_a (k : Int) (k1 : k ≠ 256) (k2 : k ≠ 384) (k3 : k ≠ 512) (pw salt : List (BitVec 8)) (r l : Int) (w0 : World) : Calls Tryd.prog 20 #[.int .i64 k, .string (str pw), .string (str salt), .int .i64 r, .int .i64 l] w0 fun e w' => e = .returned (.tuple #[.string (str ([] : List (BitVec 8))), .int .i64 11]) ∧ Below w0.heap.size w0 w' := by
 refine enter (n := 72) Tryd.func20 rfl rfl rfl ?_
 have hk : Below w0.heap.size w0 w0 := Below.refl _ _
 refine sr (w_as (evc (.string (str ([] : List (BitVec 8))))) (w_as Ev.c (nt (sr (w_mv ei (w_call (Tryd.func37) kr rfl (m1 ei) (shaSize_no k k1 k2 k3  w0 ) ?_))))))
 rintro _ w1 ⟨rfl, hb2⟩
 refine ⟨_, rfl, ?_⟩
 replace hk := thenB hk hb2
 refine w_mv (ex (.tuple #[.int .i64 0, .int .i64 0, .int .i64 11])) (w_val ye (w_val ye (w_val ye (w_as ei (w_as ei (w_as ei (nt (wp_seq (wp_block (sr (w_mv ei (w_val (y_bin ei Ev.c b_neq) (w_as eb (nt (c_tt eb (sr (w_mv ei (w_as (evc (.string (str ([] : List (BitVec 8))))) (w_as ei (nt (wp_ret (inb_r (then_r (fin_ret2 rfl es ei ?_))))))))))))))))))))))))
 exact ⟨rfl, hk⟩

theorem pbWrong_a (k : Int) (k1 : k ≠ 256) (k2 : k ≠ 384) (k3 : k ≠ 512) (pw salt : List (BitVec 8)) (r l : Int) (w0 : World) : Calls Tryd.prog 39 #[.int .i64 k, .string (str salt), .int .i64 r, .int .i64 l] w0 fun e w' => e = .returned (.int .i64 11) ∧ Below w0.heap.size w0 w' := by
 refine enter (n := 31) Tryd.func39 rfl rfl rfl ?_
 have hk : Below w0.heap.size w0 w0 := Below.refl _ _
 refine sr (w_as Ev.c (nt (wp_seq (wp_block (sr (w_mv ei (w_call (Tryd.func54) kr rfl (m1 ei) (known_no k k1 k2 k3  w0 ) ?_)))))))
 rintro _ w1 ⟨rfl, hb2⟩
 refine ⟨_, rfl, ?_⟩
 replace hk := thenB hk hb2
 refine w_val (y_not eb) (w_as eb (nt (c_tt eb (sr (w_as Ev.c (nt (wp_ret (inb_r (then_r (fin_ret1 rfl ei ?_))))))))))
 exact ⟨rfl, hk⟩

theorem pbKey_b (kind : Nat) (hkd : Sha.Known kind) (pw salt : List (BitVec 8)) (r l : Int) (h : r < 1 ∨ l < 1 ∨ 256 < l) (w0 : World) : Calls Tryd.prog 20 #[.int .i64 ((kind : Nat) : Int), .string (str pw), .string (str salt), .int .i64 r, .int .i64 l] w0 fun e w' => e = .returned (.tuple #[.string (str ([] : List (BitVec 8))), .int .i64 2]) ∧ Below w0.heap.size w0 w' := by
 refine enter (n := 72) Tryd.func20 rfl rfl rfl ?_
 have hk : Below w0.heap.size w0 w0 := Below.refl _ _
 refine sr (w_as (evc (.string (str ([] : List (BitVec 8))))) (w_as Ev.c (nt (sr (w_mv ei (w_call (Tryd.func37) kr rfl (m1 ei) (size_l kind  w0 hkd) ?_))))))
 rintro _ w1 ⟨rfl, hb2⟩
 refine ⟨_, rfl, ?_⟩
 replace hk := thenB hk hb2
 refine w_mv (ex (.tuple #[.int .i64 ((Sha.ol kind : Nat) : Int), .int .i64 ((Sha.bs kind : Nat) : Int), .int .i64 0])) (w_val ye (w_val ye (w_val ye (w_as ei (w_as ei (w_as ei (nt (wp_seq (wp_block (sr (w_mv ei (w_val (y_bin ei Ev.c b_neq) (w_as eb (nt (c_ff eb (sr (w_mv ei (w_val (y_bin ei Ev.c b_lss) (w_mv eb ?_)))))))))))))))))))
 by_cases hc3 : r < 1
 ·skip
  with_reducible refine w_skip ?_ ?_
  exact wn rfl rfl (eb (dt hc3))
  with_reducible refine w_skip ?_ ?_
  exact wn rfl rfl (eb (dt hc3))
  refine w_val (y_pick_t (eb (dt hc3)) Ev.c) (w_mv eb ?_)
  with_reducible refine w_skip ?_ ?_
  exact wn rfl rfl eb
  with_reducible refine w_skip ?_ ?_
  exact wn rfl rfl eb
  refine w_val (y_pick_t eb Ev.c) (w_as eb (nt (c_tt eb (sr (w_as (evc (.string (str ([] : List (BitVec 8))))) (w_as Ev.c (nt (wp_ret (inb_r (then_r (fin_ret2 rfl es ei ?_)))))))))))
  exact ⟨rfl, hk⟩
 ·skip
  refine w_val_g (v := .int .i64 l) (wy rfl rfl (eb (df hc3))) (y_mv ei) (w_val_g (wy rfl rfl (eb (df hc3))) (y_bin ei Ev.c b_lss) (w_val (y_pick_f (eb (df hc3)) eb) (w_mv eb ?_)))
  by_cases hc4 : l < 1
  ·skip
   with_reducible refine w_skip ?_ ?_
   exact wn rfl rfl (eb (dt hc4))
   with_reducible refine w_skip ?_ ?_
   exact wn rfl rfl (eb (dt hc4))
   refine w_val (y_pick_t (eb (dt hc4)) Ev.c) (w_as eb (nt (c_tt eb (sr (w_as (evc (.string (str ([] : List (BitVec 8))))) (w_as Ev.c (nt (wp_ret (inb_r (then_r (fin_ret2 rfl es ei ?_)))))))))))
   exact ⟨rfl, hk⟩
  ·skip
   refine w_val_g (v := .int .i64 l) (wy rfl rfl (eb (df hc4))) (y_mv ei) (w_val_g (wy rfl rfl (eb (df hc4))) (y_bin ei Ev.c b_gtr) (w_val (y_pick_f (eb (df hc4)) eb) (w_as eb (nt ?_))))
   refine c_if (p := 256 < l) eb (fun hc5 => ?_) (fun hc5 => ?_)
   ·skip
    refine sr (w_as (evc (.string (str ([] : List (BitVec 8))))) (w_as Ev.c (nt (wp_ret (inb_r (then_r (fin_ret2 rfl es ei ?_)))))))
    exact ⟨rfl, hk⟩
   ·skip
    refine wp_seq ?_
    exfalso; omega

theorem pbWrong_b (kind : Nat) (hkd : Sha.Known kind) (pw salt : List (BitVec 8)) (r l : Int) (h : r < 1 ∨ l < 1 ∨ 256 < l) (w0 : World) : Calls Tryd.prog 39 #[.int .i64 ((kind : Nat) : Int), .string (str salt), .int .i64 r, .int .i64 l] w0 fun e w' => e = .returned (.int .i64 2) ∧ Below w0.heap.size w0 w' := by
 refine enter (n := 31) Tryd.func39 rfl rfl rfl ?_
 have hk : Below w0.heap.size w0 w0 := Below.refl _ _
 refine sr (w_as Ev.c (nt (wp_seq (wp_block (sr (w_mv ei (w_call (Tryd.func54) kr rfl (m1 ei) (known_l kind  w0 hkd) ?_)))))))
 rintro _ w1 ⟨rfl, hb2⟩
 refine ⟨_, rfl, ?_⟩
 replace hk := thenB hk hb2
 refine w_val (y_not eb) (w_as eb (nt (c_ff eb (sr (w_mv ei (w_val (y_bin ei Ev.c b_lss) (w_mv eb ?_)))))))
 by_cases hc3 : r < 1
 ·skip
  with_reducible refine w_skip ?_ ?_
  exact wn rfl rfl (eb (dt hc3))
  with_reducible refine w_skip ?_ ?_
  exact wn rfl rfl (eb (dt hc3))
  refine w_val (y_pick_t (eb (dt hc3)) Ev.c) (w_mv eb ?_)
  with_reducible refine w_skip ?_ ?_
  exact wn rfl rfl eb
  with_reducible refine w_skip ?_ ?_
  exact wn rfl rfl eb
  refine w_val (y_pick_t eb Ev.c) (w_as eb (nt (c_tt eb (sr (w_as Ev.c (nt (wp_ret (inb_r (then_r (fin_ret1 rfl ei ?_))))))))))
  exact ⟨rfl, hk⟩
 ·skip
  refine w_val_g (v := .int .i64 l) (wy rfl rfl (eb (df hc3))) (y_mv ei) (w_val_g (wy rfl rfl (eb (df hc3))) (y_bin ei Ev.c b_lss) (w_val (y_pick_f (eb (df hc3)) eb) (w_mv eb ?_)))
  by_cases hc4 : l < 1
  ·skip
   with_reducible refine w_skip ?_ ?_
   exact wn rfl rfl (eb (dt hc4))
   with_reducible refine w_skip ?_ ?_
   exact wn rfl rfl (eb (dt hc4))
   refine w_val (y_pick_t (eb (dt hc4)) Ev.c) (w_as eb (nt (c_tt eb (sr (w_as Ev.c (nt (wp_ret (inb_r (then_r (fin_ret1 rfl ei ?_))))))))))
   exact ⟨rfl, hk⟩
  ·skip
   refine w_val_g (v := .int .i64 l) (wy rfl rfl (eb (df hc4))) (y_mv ei) (w_val_g (wy rfl rfl (eb (df hc4))) (y_bin ei Ev.c b_gtr) (w_val (y_pick_f (eb (df hc4)) eb) (w_as eb (nt ?_))))
   refine c_if (p := 256 < l) eb (fun hc5 => ?_) (fun hc5 => ?_)
   ·skip
    refine sr (w_as Ev.c (nt (wp_ret (inb_r (then_r (fin_ret1 rfl ei ?_))))))
    exact ⟨rfl, hk⟩
   ·skip
    refine wp_seq ?_
    exfalso; omega

theorem pbKey_c (kind : Nat) (hkd : Sha.Known kind) (pw salt : List (BitVec 8)) (r l : Int) (h : ¬ (r < 1 ∨ l < 1 ∨ 256 < l)) (h2 : 4096 < r) (w0 : World) : Calls Tryd.prog 20 #[.int .i64 ((kind : Nat) : Int), .string (str pw), .string (str salt), .int .i64 r, .int .i64 l] w0 fun e w' => e = .returned (.tuple #[.string (str ([] : List (BitVec 8))), .int .i64 14]) ∧ Below w0.heap.size w0 w' := by
 refine enter (n := 72) Tryd.func20 rfl rfl rfl ?_
 have hk : Below w0.heap.size w0 w0 := Below.refl _ _
 refine sr (w_as (evc (.string (str ([] : List (BitVec 8))))) (w_as Ev.c (nt (sr (w_mv ei (w_call (Tryd.func37) kr rfl (m1 ei) (size_l kind  w0 hkd) ?_))))))
 rintro _ w1 ⟨rfl, hb2⟩
 refine ⟨_, rfl, ?_⟩
 replace hk := thenB hk hb2
 refine w_mv (ex (.tuple #[.int .i64 ((Sha.ol kind : Nat) : Int), .int .i64 ((Sha.bs kind : Nat) : Int), .int .i64 0])) (w_val ye (w_val ye (w_val ye (w_as ei (w_as ei (w_as ei (nt (wp_seq (wp_block (sr (w_mv ei (w_val (y_bin ei Ev.c b_neq) (w_as eb (nt (c_ff eb (sr (w_mv ei (w_val (y_bin ei Ev.c b_lss) (w_mv eb ?_)))))))))))))))))))
 have hc3 : ¬ (r < 1) := by omega
 refine w_val_g (v := .int .i64 l) (wy rfl rfl (eb (df hc3))) (y_mv ei) (w_val_g (wy rfl rfl (eb (df hc3))) (y_bin ei Ev.c b_lss) (w_val (y_pick_f (eb (df hc3)) eb) (w_mv eb ?_)))
 have hc4 : ¬ (l < 1) := by omega
 refine w_val_g (v := .int .i64 l) (wy rfl rfl (eb (df hc4))) (y_mv ei) (w_val_g (wy rfl rfl (eb (df hc4))) (y_bin ei Ev.c b_gtr) (w_val (y_pick_f (eb (df hc4)) eb) (w_as eb (nt ?_))))
 have hc5 : ¬ (256 < l) := by omega
 refine c_f (p := 256 < l) eb hc5 (sr (w_mv ei (w_val (y_bin ei Ev.c b_gtr) (w_as eb (nt ?_)))))
 have hc6 : 4096 < r := by exact h2
 refine c_t (p := 4096 < r) eb hc6 (sr (w_as (evc (.string (str ([] : List (BitVec 8))))) (w_as Ev.c (nt (wp_ret (inb_r (then_r (fin_ret2 rfl es ei ?_))))))))
 exact ⟨rfl, hk⟩

theorem pbWrong_c (kind : Nat) (hkd : Sha.Known kind) (pw salt : List (BitVec 8)) (r l : Int) (h : ¬ (r < 1 ∨ l < 1 ∨ 256 < l)) (h2 : 4096 < r) (w0 : World) : Calls Tryd.prog 39 #[.int .i64 ((kind : Nat) : Int), .string (str salt), .int .i64 r, .int .i64 l] w0 fun e w' => e = .returned (.int .i64 14) ∧ Below w0.heap.size w0 w' := by
 refine enter (n := 31) Tryd.func39 rfl rfl rfl ?_
 have hk : Below w0.heap.size w0 w0 := Below.refl _ _
 refine sr (w_as Ev.c (nt (wp_seq (wp_block (sr (w_mv ei (w_call (Tryd.func54) kr rfl (m1 ei) (known_l kind  w0 hkd) ?_)))))))
 rintro _ w1 ⟨rfl, hb2⟩
 refine ⟨_, rfl, ?_⟩
 replace hk := thenB hk hb2
 refine w_val (y_not eb) (w_as eb (nt (c_ff eb (sr (w_mv ei (w_val (y_bin ei Ev.c b_lss) (w_mv eb ?_)))))))
 have hc3 : ¬ (r < 1) := by omega
 refine w_val_g (v := .int .i64 l) (wy rfl rfl (eb (df hc3))) (y_mv ei) (w_val_g (wy rfl rfl (eb (df hc3))) (y_bin ei Ev.c b_lss) (w_val (y_pick_f (eb (df hc3)) eb) (w_mv eb ?_)))
 have hc4 : ¬ (l < 1) := by omega
 refine w_val_g (v := .int .i64 l) (wy rfl rfl (eb (df hc4))) (y_mv ei) (w_val_g (wy rfl rfl (eb (df hc4))) (y_bin ei Ev.c b_gtr) (w_val (y_pick_f (eb (df hc4)) eb) (w_as eb (nt ?_))))
 have hc5 : ¬ (256 < l) := by omega
 refine c_f (p := 256 < l) eb hc5 (sr (w_mv ei (w_val (y_bin ei Ev.c b_gtr) (w_as eb (nt ?_)))))
 have hc6 : 4096 < r := by exact h2
 refine c_t (p := 4096 < r) eb hc6 (sr (w_as Ev.c (nt (wp_ret (inb_r (then_r (fin_ret1 rfl ei ?_)))))))
 exact ⟨rfl, hk⟩

theorem pbKey_d (kind : Nat) (hkd : Sha.Known kind) (pw salt : List (BitVec 8)) (r l : Int) (h : ¬ (r < 1 ∨ l < 1 ∨ 256 < l)) (h2 : ¬ 4096 < r) (h3 : 1024 < salt.length) (w0 : World) : Calls Tryd.prog 20 #[.int .i64 ((kind : Nat) : Int), .string (str pw), .string (str salt), .int .i64 r, .int .i64 l] w0 fun e w' => e = .returned (.tuple #[.string (str ([] : List (BitVec 8))), .int .i64 4]) ∧ Below w0.heap.size w0 w' := by
 refine enter (n := 72) Tryd.func20 rfl rfl rfl ?_
 have hk : Below w0.heap.size w0 w0 := Below.refl _ _
 refine sr (w_as (evc (.string (str ([] : List (BitVec 8))))) (w_as Ev.c (nt (sr (w_mv ei (w_call (Tryd.func37) kr rfl (m1 ei) (size_l kind  w0 hkd) ?_))))))
 rintro _ w1 ⟨rfl, hb2⟩
 refine ⟨_, rfl, ?_⟩
 replace hk := thenB hk hb2
 refine w_mv (ex (.tuple #[.int .i64 ((Sha.ol kind : Nat) : Int), .int .i64 ((Sha.bs kind : Nat) : Int), .int .i64 0])) (w_val ye (w_val ye (w_val ye (w_as ei (w_as ei (w_as ei (nt (wp_seq (wp_block (sr (w_mv ei (w_val (y_bin ei Ev.c b_neq) (w_as eb (nt (c_ff eb (sr (w_mv ei (w_val (y_bin ei Ev.c b_lss) (w_mv eb ?_)))))))))))))))))))
 have hc3 : ¬ (r < 1) := by omega
 refine w_val_g (v := .int .i64 l) (wy rfl rfl (eb (df hc3))) (y_mv ei) (w_val_g (wy rfl rfl (eb (df hc3))) (y_bin ei Ev.c b_lss) (w_val (y_pick_f (eb (df hc3)) eb) (w_mv eb ?_)))
 have hc4 : ¬ (l < 1) := by omega
 refine w_val_g (v := .int .i64 l) (wy rfl rfl (eb (df hc4))) (y_mv ei) (w_val_g (wy rfl rfl (eb (df hc4))) (y_bin ei Ev.c b_gtr) (w_val (y_pick_f (eb (df hc4)) eb) (w_as eb (nt ?_))))
 have hc5 : ¬ (256 < l) := by omega
 refine c_f (p := 256 < l) eb hc5 (sr (w_mv ei (w_val (y_bin ei Ev.c b_gtr) (w_as eb (nt ?_)))))
 have hc6 : ¬ (4096 < r) := by exact h2
 refine c_f (p := 4096 < r) eb hc6 (sr (w_mv es (w_val (y_len es Tryd.underlying9) (w_val (y_bin ei Ev.c b_gtr) (w_as eb (nt ?_))))))
 have hc7 : 1024 < ((salt.length : Nat) : Int) := by omega
 refine c_t (p := 1024 < ((salt.length : Nat) : Int)) eb hc7 (sr (w_as (evc (.string (str ([] : List (BitVec 8))))) (w_as Ev.c (nt (wp_ret (inb_r (then_r (fin_ret2 rfl es ei ?_))))))))
 exact ⟨rfl, hk⟩

theorem pbWrong_d (kind : Nat) (hkd : Sha.Known kind) (pw salt : List (BitVec 8)) (r l : Int) (h : ¬ (r < 1 ∨ l < 1 ∨ 256 < l)) (h2 : ¬ 4096 < r) (h3 : 1024 < salt.length) (w0 : World) : Calls Tryd.prog 39 #[.int .i64 ((kind : Nat) : Int), .string (str salt), .int .i64 r, .int .i64 l] w0 fun e w' => e = .returned (.int .i64 4) ∧ Below w0.heap.size w0 w' := by
 refine enter (n := 31) Tryd.func39 rfl rfl rfl ?_
 have hk : Below w0.heap.size w0 w0 := Below.refl _ _
 refine sr (w_as Ev.c (nt (wp_seq (wp_block (sr (w_mv ei (w_call (Tryd.func54) kr rfl (m1 ei) (known_l kind  w0 hkd) ?_)))))))
 rintro _ w1 ⟨rfl, hb2⟩
 refine ⟨_, rfl, ?_⟩
 replace hk := thenB hk hb2
 refine w_val (y_not eb) (w_as eb (nt (c_ff eb (sr (w_mv ei (w_val (y_bin ei Ev.c b_lss) (w_mv eb ?_)))))))
 have hc3 : ¬ (r < 1) := by omega
 refine w_val_g (v := .int .i64 l) (wy rfl rfl (eb (df hc3))) (y_mv ei) (w_val_g (wy rfl rfl (eb (df hc3))) (y_bin ei Ev.c b_lss) (w_val (y_pick_f (eb (df hc3)) eb) (w_mv eb ?_)))
 have hc4 : ¬ (l < 1) := by omega
 refine w_val_g (v := .int .i64 l) (wy rfl rfl (eb (df hc4))) (y_mv ei) (w_val_g (wy rfl rfl (eb (df hc4))) (y_bin ei Ev.c b_gtr) (w_val (y_pick_f (eb (df hc4)) eb) (w_as eb (nt ?_))))
 have hc5 : ¬ (256 < l) := by omega
 refine c_f (p := 256 < l) eb hc5 (sr (w_mv ei (w_val (y_bin ei Ev.c b_gtr) (w_as eb (nt ?_)))))
 have hc6 : ¬ (4096 < r) := by exact h2
 refine c_f (p := 4096 < r) eb hc6 (sr (w_mv es (w_val (y_len es Tryd.underlying9) (w_val (y_bin ei Ev.c b_gtr) (w_as eb (nt ?_))))))
 have hc7 : 1024 < ((salt.length : Nat) : Int) := by omega
 refine c_t (p := 1024 < ((salt.length : Nat) : Int)) eb hc7 (sr (w_as Ev.c (nt (wp_ret (inb_r (then_r (fin_ret1 rfl ei ?_)))))))
 exact ⟨rfl, hk⟩

theorem pbWrong_e (kind : Nat) (hkd : Sha.Known kind) (pw salt : List (BitVec 8)) (r l : Int) (h : ¬ (r < 1 ∨ l < 1 ∨ 256 < l)) (h2 : ¬ 4096 < r) (h3 : ¬ 1024 < salt.length) (w0 : World) : Calls Tryd.prog 39 #[.int .i64 ((kind : Nat) : Int), .string (str salt), .int .i64 r, .int .i64 l] w0 fun e w' => e = .returned (.int .i64 0) ∧ Below w0.heap.size w0 w' := by
 refine enter (n := 31) Tryd.func39 rfl rfl rfl ?_
 have hk : Below w0.heap.size w0 w0 := Below.refl _ _
 refine sr (w_as Ev.c (nt (wp_seq (wp_block (sr (w_mv ei (w_call (Tryd.func54) kr rfl (m1 ei) (known_l kind  w0 hkd) ?_)))))))
 rintro _ w1 ⟨rfl, hb2⟩
 refine ⟨_, rfl, ?_⟩
 replace hk := thenB hk hb2
 refine w_val (y_not eb) (w_as eb (nt (c_ff eb (sr (w_mv ei (w_val (y_bin ei Ev.c b_lss) (w_mv eb ?_)))))))
 have hc3 : ¬ (r < 1) := by omega
 refine w_val_g (v := .int .i64 l) (wy rfl rfl (eb (df hc3))) (y_mv ei) (w_val_g (wy rfl rfl (eb (df hc3))) (y_bin ei Ev.c b_lss) (w_val (y_pick_f (eb (df hc3)) eb) (w_mv eb ?_)))
 have hc4 : ¬ (l < 1) := by omega
 refine w_val_g (v := .int .i64 l) (wy rfl rfl (eb (df hc4))) (y_mv ei) (w_val_g (wy rfl rfl (eb (df hc4))) (y_bin ei Ev.c b_gtr) (w_val (y_pick_f (eb (df hc4)) eb) (w_as eb (nt ?_))))
 have hc5 : ¬ (256 < l) := by omega
 refine c_f (p := 256 < l) eb hc5 (sr (w_mv ei (w_val (y_bin ei Ev.c b_gtr) (w_as eb (nt ?_)))))
 have hc6 : ¬ (4096 < r) := by exact h2
 refine c_f (p := 4096 < r) eb hc6 (sr (w_mv es (w_val (y_len es Tryd.underlying9) (w_val (y_bin ei Ev.c b_gtr) (w_as eb (nt ?_))))))
 have hc7 : ¬ (1024 < ((salt.length : Nat) : Int)) := by omega
 refine c_f (p := 1024 < ((salt.length : Nat) : Int)) eb hc7 (wp_skip (inb_n (then_n (sr (w_as Ev.c (nt (wp_ret (fin_ret1 rfl ei ?_))))))))
 exact ⟨rfl, hk⟩

theorem pbWrong_l (k : Int) (pw salt : List (BitVec 8)) (r l : Int) (w : World) : Calls Tryd.prog 39 #[.int .i64 k, .string (str salt), .int .i64 r, .int .i64 l] w fun e w' => e = .returned (.int .i64 (Pb.err k salt r l)) ∧ Below w.heap.size w w' := by
  by_cases hk : k = 256 ∨ k = 384 ∨ k = 512
  · obtain ⟨kind, rfl⟩ : ∃ kind : Nat, k = kind := ⟨k.toNat, by omega⟩
    have hkd : Sha.Known kind := by unfold Sha.Known; omega
    by_cases h : r < 1 ∨ l < 1 ∨ 256 < l
    · have e : Pb.err (kind : Int) salt r l = 2 := by unfold Pb.err; rw [if_neg (fun x => x hk), if_pos h]
      rw [e]; exact pbWrong_b kind hkd pw salt r l h w
    by_cases h2 : 4096 < r
    · have e : Pb.err (kind : Int) salt r l = 14 := by unfold Pb.err; rw [if_neg (fun x => x hk), if_neg h, if_pos h2]
      rw [e]; exact pbWrong_c kind hkd pw salt r l h h2 w
    by_cases h3 : 1024 < salt.length
    · have e : Pb.err (kind : Int) salt r l = 4 := by unfold Pb.err; rw [if_neg (fun x => x hk), if_neg h, if_neg h2, if_pos h3]
      rw [e]; exact pbWrong_d kind hkd pw salt r l h h2 h3 w
    have e : Pb.err (kind : Int) salt r l = 0 := by unfold Pb.err; rw [if_neg (fun x => x hk), if_neg h, if_neg h2, if_neg h3]
    rw [e]; exact pbWrong_e kind hkd pw salt r l h h2 h3 w
  · have e : Pb.err k salt r l = 11 := by unfold Pb.err; rw [if_pos hk]
    rw [e]; exact pbWrong_a k om om om pw salt r l w

theorem key_l (k : Int) (pw salt : List (BitVec 8)) (r l : Int) (hp : pw.length ≤ 140737488351232) (w : World) (hT : Sha.Tabs w) : Calls Tryd.prog 20 #[.int .i64 k, .string (str pw), .string (str salt), .int .i64 r, .int .i64 l] w fun e w' => e = .returned (.tuple #[.string (str (Pb.key k pw salt r l).1), .int .i64 (Pb.key k pw salt r l).2]) ∧ Below w.heap.size w w' := by
  by_cases hk : k = 256 ∨ k = 384 ∨ k = 512
  · obtain ⟨kind, rfl⟩ : ∃ kind : Nat, k = kind := ⟨k.toNat, by omega⟩
    have hkd : Sha.Known kind := by unfold Sha.Known; omega
    by_cases h : r < 1 ∨ l < 1 ∨ 256 < l
    · have e : Pb.err (kind : Int) salt r l = 2 := by unfold Pb.err; rw [if_neg (fun x => x hk), if_pos h]
      rw [Pb.key_err _ _ _ _ _ om, e]; exact pbKey_b kind hkd pw salt r l h w
    by_cases h2 : 4096 < r
    · have e : Pb.err (kind : Int) salt r l = 14 := by unfold Pb.err; rw [if_neg (fun x => x hk), if_neg h, if_pos h2]
      rw [Pb.key_err _ _ _ _ _ om, e]; exact pbKey_c kind hkd pw salt r l h h2 w
    by_cases h3 : 1024 < salt.length
    · have e : Pb.err (kind : Int) salt r l = 4 := by unfold Pb.err; rw [if_neg (fun x => x hk), if_neg h, if_neg h2, if_pos h3]
      rw [Pb.key_err _ _ _ _ _ om, e]; exact pbKey_d kind hkd pw salt r l h h2 h3 w
    have e : Pb.err (kind : Int) salt r l = 0 := by unfold Pb.err; rw [if_neg (fun x => x hk), if_neg h, if_neg h2, if_neg h3]
    obtain ⟨rr, rfl⟩ : ∃ n : Nat, r = n := ⟨r.toNat, by omega⟩
    obtain ⟨ll, rfl⟩ : ∃ n : Nat, l = n := ⟨l.toNat, by omega⟩
    rw [Pb.key_ok kind hkd pw salt rr ll om om om om om]
    exact pbKey_y kind hkd rr ll om om om om pw salt om hp w hT
  · have e : Pb.err k salt r l = 11 := by unfold Pb.err; rw [if_pos hk]
    rw [Pb.key_err _ _ _ _ _ om, e]; exact pbKey_a k om om om pw salt r l w

end Go.Proofs.YtepogbfkmflooaaDoor
