/-
  Keys from passwords: what the program makes. Conditions as each says.
-/
import Derived.Test.YtieepglpejlkoaaDoorRows
import Derived.Test.YtieepglpejlkoaaDoorHmacW
import Derived.Test.YtieepglpejlkoaaDoorPbPlain
import Derived.Test.YtieepglpejlkoaaDoorOctW
import Derived.ProofKit
namespace Go.Proofs.YtieepglpejlkoaaDoor
open Go.RowKit
set_option linter.unusedSimpArgs false
set_option linter.unusedVariables false
namespace PbAT
theorem mixed : Tryd.prog.follows .mixedOrders = true := by kernel_rfl
theorem sc5 : (Tryd.prog.underlying 5).map scal = some true := by rw [Tryd.underlying5]; rfl
theorem sz5 : (Tryd.prog.info? 5).map (·.size) = some 1 := by kernel_rfl
end PbAT
set_option maxRecDepth 100000 in
set_option maxHeartbeats 1000000 in
theorem pbBlock_l (kind : Nat) (hkd : Sha.Known kind) (m pi po pn i r : Nat) (t pw salt : List (BitVec 8)) (hi_ : i < 4294967296) (hr1 : 1 ≤ r) (hr2 : r ≤ 4096) (hsl : salt.length ≤ 1024) (h1 : 0 < pi ∧ 1 < pi) (h2 : 0 < po ∧ 1 < po) (h3 : 0 < m ∧ 1 < m) (n1 : pi ≠ po) (n2 : pi ≠ pn) (n3 : po ≠ pn) (n4 : m ≠ pi) (n5 : m ≠ po) (n6 : m ≠ pn) (w0 : World) (r_m : Row w0 m 65 3 (fun j => if j < 1 then pt pi 0 else if j < 2 then pt po 0 else pt pn 0)) (hT : Sha.Tabs w0) (hi : Sha.At w0 pi kind (Hm.pd kind pw 54#8)) (ho : Sha.At w0 po kind (Hm.pd kind pw 92#8)) (hn : Sha.At w0 pn kind t) : Calls Tryd.prog 44 #[pt m 0, .string (str salt), U64 (BitVec.ofNat 64 i), .int .i64 ((r : Nat) : Int)] w0 fun e w' => ∃ (bk ck pn' : Nat) (t' : List (BitVec 8)), e = .returned (.slice (some ⟨bk, 0, none⟩) (Sha.ol kind) ck) ∧ w0.heap.size ≤ bk ∧ Sha.ol kind ≤ ck ∧ Row w' bk 5 (Sha.ol kind) (fun j => U8 (gb (Pb.tn kind pw salt i (r - 1)) j)) ∧ w0.heap.size ≤ pn' ∧ Row w' m 65 3 (fun j => if j < 1 then pt pi 0 else if j < 2 then pt po 0 else pt pn' 0) ∧ Sha.At w' pn' kind t' ∧ w0.grownBy w' (some m) := by
 have hT0 := hT.lt
 have hbs := Sha.bs_le kind
 have hol := Sha.ol_lt kind
 have hul := Pb.un_len kind pw salt i 0
 refine enter (n := 66) Tryd.func44 rfl rfl rfl ?_
 have hk : w0.grownBy w0 (some m) := grown_refl _ _
 have lt_m := r_m.lt
 refine sr ?_
 refine w_as (evc (.slice none 0 0)) ?_
 refine nt ?_
 refine sr ?_
 refine w_mv (ev (U64 (BitVec.ofNat 64 i)) rfl rfl) ?_
 refine w_call (Tryd.func53) (by kernel_rfl) rfl (m2 (ev (U64 (BitVec.ofNat 64 i)) rfl rfl) (evc (.int .i64 4))) (put_c (BitVec.ofNat 64 i) 4 (by omega) (by omega) (fun _ => Pb.shr_zero i hi_) w0) ?_
 rintro _ w1 ⟨rfl, hb2⟩
 refine ⟨_, rfl, ?_⟩
 replace r_m := r_m.step hb2
 replace hk := grown_thenB hk hb2
 replace hT := Sha.Tabs.below hT hb2
 replace hi := Sha.At.below hi hb2
 replace ho := Sha.At.below ho hb2
 replace hn := Sha.At.below hn hb2
 refine w_mv (ev (.tuple #[.string (str (Oct.be (BitVec.ofNat 64 i) 4)), .int .i64 0]) rfl rfl) ?_
 refine w_val (y_ext (v := .string (str (Oct.be (BitVec.ofNat 64 i) 4))) (ev (.tuple #[.string (str (Oct.be (BitVec.ofNat 64 i) 4)), .int .i64 0]) rfl rfl) rfl) ?_
 refine w_val (y_ext (v := .int .i64 0) (ev (.tuple #[.string (str (Oct.be (BitVec.ofNat 64 i) 4)), .int .i64 0]) rfl rfl) rfl) ?_
 refine w_as (ev (.string (str (Oct.be (BitVec.ofNat 64 i) 4))) rfl rfl) ?_
 refine w_as (ev (.int .i64 0) rfl rfl) ?_
 refine nt ?_
 refine sr ?_
 refine w_mv (ev (pt m 0) rfl rfl) ?_
 clear hn
 have rm_ := r_m
 clear r_m
 refine w_call (Tryd.func32) (by kernel_rfl) rfl (m1 (ev (pt m 0) rfl rfl)) (macAgain_l kind hkd m pi po pn (Hm.pd kind pw 54#8) (by omega) (by omega) (by omega) w1 rm_ hT hi) ?_
 rintro _ w3 ⟨pn2, rfl, hge_pn2, r_m, hn, hga⟩
 refine ⟨_, rfl, ?_⟩
 have ne_pi_pn2 : pi ≠ pn2 := by have := hi.lt; omega
 have ne_po_pn2 : po ≠ pn2 := by have := ho.lt; omega
 have ge_pn2 : w0.heap.size ≤ pn2 := by have := hk.size; omega
 have ne_m_pn2 : m ≠ pn2 := by have := rm_.lt; omega
 replace hk := grown_thenG hk hga (by omega)
 replace hT := Sha.Tabs.grown hT hga (by omega) (by omega)
 replace hi := Sha.At.grown hi hga (by omega)
 replace ho := Sha.At.grown ho hga (by omega)
 refine nt ?_
 refine sr ?_
 refine w_mv (ev (pt m 0) rfl rfl) ?_
 refine w_mv (ev (.string (str salt)) rfl rfl) ?_
 have hw_ := hn
 clear hn
 refine w_call (Tryd.func31) (by kernel_rfl) rfl (m2 (ev (pt m 0) rfl rfl) (ev (.string (str salt)) rfl rfl)) (macWrite_l kind hkd m pi po pn2 (Hm.pd kind pw 54#8) salt (by omega) (by (try simp only [Pb.un_len, Oct.length_be]); omega) (by omega) w3 r_m hT hw_) ?_
 rintro _ w4 ⟨rfl, hn, hgw⟩
 refine ⟨_, rfl, ?_⟩
 replace r_m := r_m.stepG hgw (by omega)
 replace hk := grown_thenG hk hgw (by omega)
 replace hT := Sha.Tabs.grown hT hgw (by omega) (by omega)
 replace hi := Sha.At.grown hi hgw (by omega)
 replace ho := Sha.At.grown ho hgw (by omega)
 refine nt ?_
 refine sr ?_
 refine w_mv (ev (pt m 0) rfl rfl) ?_
 refine w_mv (ev (.string (str (Oct.be (BitVec.ofNat 64 i) 4))) rfl rfl) ?_
 have hw_ := hn
 clear hn
 refine w_call (Tryd.func31) (by kernel_rfl) rfl (m2 (ev (pt m 0) rfl rfl) (ev (.string (str (Oct.be (BitVec.ofNat 64 i) 4))) rfl rfl)) (macWrite_l kind hkd m pi po pn2 ((Hm.pd kind pw 54#8) ++ salt) (Oct.be (BitVec.ofNat 64 i) 4) (by omega) (by (try simp only [Pb.un_len, Oct.length_be]); omega) (by omega) w4 r_m hT hw_) ?_
 rintro _ w5 ⟨rfl, hn, hgw⟩
 refine ⟨_, rfl, ?_⟩
 replace r_m := r_m.stepG hgw (by omega)
 replace hk := grown_thenG hk hgw (by omega)
 replace hT := Sha.Tabs.grown hT hgw (by omega) (by omega)
 replace hi := Sha.At.grown hi hgw (by omega)
 replace ho := Sha.At.grown ho hgw (by omega)
 refine nt ?_
 refine wp_seq ?_
 rw [List.append_assoc] at hn
 refine wp_region_lit ?_
 refine w_mv (ev (pt m 0) rfl rfl) ?_
 refine w_call (Tryd.func33) (by kernel_rfl) rfl (m1 (ev (pt m 0) rfl rfl)) (macSum_l kind hkd m pi po pn2 ((Hm.pd kind pw 54#8) ++ (salt ++ (Oct.be (BitVec.ofNat 64 i) 4))) (Hm.pd kind pw 92#8) (by omega) (by omega) (by (try simp only [List.length_append, Hm.pd_len, Pb.un_len, Oct.length_be]); omega) (by rw [Hm.pd_len]; omega) (by omega) w5 r_m hT ho hn) ?_
 rintro _ w6 ⟨rfl, hb7⟩
 refine ⟨_, rfl, ?_⟩
 replace r_m := r_m.step hb7
 replace hk := grown_thenB hk hb7
 replace hT := Sha.Tabs.below hT hb7
 replace hi := Sha.At.below hi hb7
 replace ho := Sha.At.below ho hb7
 replace hn := Sha.At.below hn hb7
 refine w_mv (ev (.tuple #[.string (str (Pb.un kind pw salt i 0)), .int .i64 0]) rfl rfl) ?_
 refine w_val (y_ext (v := .string (str (Pb.un kind pw salt i 0))) (ev (.tuple #[.string (str (Pb.un kind pw salt i 0)), .int .i64 0]) rfl rfl) rfl) ?_
 refine w_val (y_ext (v := .int .i64 0) (ev (.tuple #[.string (str (Pb.un kind pw salt i 0)), .int .i64 0]) rfl rfl) rfl) ?_
 refine w_as (ev (.string (str (Pb.un kind pw salt i 0))) rfl rfl) ?_
 refine w_as (ev (.int .i64 0) rfl rfl) ?_
 refine nt ?_
 refine sr ?_
 refine w_mv (ev (.string (str (Pb.un kind pw salt i 0))) rfl rfl) ?_
 refine w_bytes (ev (.string (str (Pb.un kind pw salt i 0))) rfl rfl) Tryd.underlying9 Tryd.underlying76 Tryd.underlying5 ?_
 intro b_34 cap_b_34 w8 hbe_b_34 hc_b_34 r_b_34 hb9
 have ne_m_b_34 : m ≠ b_34 := by have := r_m.lt; omega
 have ne_pi_b_34 : pi ≠ b_34 := by have := hi.lt; omega
 have ne_po_b_34 : po ≠ b_34 := by have := ho.lt; omega
 have ne_pn2_b_34 : pn2 ≠ b_34 := by have := hn.lt; omega
 have ge_b_34 : w0.heap.size ≤ b_34 := by have := hk.size; omega
 clear hbe_b_34
 replace r_m := r_m.step hb9
 replace hk := grown_thenB hk hb9
 replace hT := Sha.Tabs.below hT hb9
 replace hi := Sha.At.below hi hb9
 replace ho := Sha.At.below ho hb9
 replace hn := Sha.At.below hn hb9
 refine w_as (ev (.slice (some ⟨b_34, 0, none⟩) ((Pb.un kind pw salt i 0).length) cap_b_34) rfl rfl) ?_
 refine nt ?_
 refine wp_seq ?_
 refine sr ?_
 refine w_mv (ev (.int .i64 ((r : Nat) : Int)) rfl rfl) ?_
 refine w_val (y_bin (ev (.int .i64 ((r : Nat) : Int)) rfl rfl) (evc (.int .i64 1)) (b_sub (by omega))) ?_
 refine w_mv (evc (.int .i64 0)) ?_
 refine nt ?_
 refine wp_block ?_
 refine c_loop (fun dN aN wl => ∃ (k : Nat) (pn : Nat) (t : List (BitVec 8)), dN = (r - 1 - k) ∧ ∃ f10, aN = fr 66 f10 ∧ (k ≤ r - 1) ∧ (w0.heap.size ≤ pn) ∧ (pi ≠ pn) ∧ (po ≠ pn) ∧ (m ≠ pn) ∧ (b_34 ≠ pn) ∧ f10 0 = pt m 0 ∧ f10 1 = .string (str salt) ∧ f10 2 = U64 (BitVec.ofNat 64 i) ∧ f10 3 = .int .i64 ((r : Nat) : Int) ∧ f10 8 = .slice none 0 0 ∧ f10 9 = .string (str (Oct.be (BitVec.ofNat 64 i) 4)) ∧ f10 11 = .string (str (Pb.un kind pw salt i k)) ∧ f10 13 = .slice (some ⟨b_34, 0, none⟩) ((Pb.un kind pw salt i 0).length) cap_b_34 ∧ f10 36 = .int .i64 (((r : Nat) : Int) - 1) ∧ f10 37 = .int .i64 ((k : Nat) : Int) ∧ Row wl m 65 3 (fun j => if j < 1 then pt pi 0 else if j < 2 then pt po 0 else pt pn 0) ∧ Row wl b_34 5 ((Pb.un kind pw salt i 0).length) (fun j => U8 (gb (Pb.tn kind pw salt i k) j)) ∧ Sha.Tabs wl ∧ Sha.At wl pi kind (Hm.pd kind pw 54#8) ∧ Sha.At wl po kind (Hm.pd kind pw 92#8) ∧ Sha.At wl pn kind t ∧ w0.grownBy wl (some m)) (r - 1 - 0) ?_ ?_
 · exact ⟨0, pn2, _, rfl, _, rfl, iv, iv, iv, iv, iv, iv, rfl, rfl, rfl, rfl, rfl, rfl, rfl, rfl, rfl, (etv (b := .int .i64 0) rfl), (r_m.congr (fun j hj => by rfl)), (r_b_34.congr (fun j hj => by rfl)), hT, hi, ho, hn, hk⟩
 ·skip
  clear r_m r_b_34 hT hi ho hn hk
  rintro _ _ w11 ⟨k, pn, t, rfl, f10, rfl, i1_0, i1_1, i1_2, i1_3, i1_4, i1_5, s1_0, s1_1, s1_2, s1_3, s1_8, s1_9, s1_11, s1_13, s1_36, s1_37, r_m, r_b_34, hT, hi, ho, hn, hk⟩
  have hul1 := Pb.un_len kind pw salt i (k + 1)
  have hul0 := Pb.un_len kind pw salt i k
  refine sr ?_
  refine w_val (y_bin (ev (.int .i64 ((k : Nat) : Int)) s1_37 rfl) (ev (.int .i64 (((r : Nat) : Int) - 1)) s1_36 rfl) b_lss) ?_
  refine nt ?_
  refine wp_seq ?_
  refine c_if (p := ((k : Nat) : Int) < (((r : Nat) : Int) - 1)) (ev (.bool (decide (((k : Nat) : Int) < (((r : Nat) : Int) - 1)))) rfl rfl) (fun hc12 => ?_) (fun hc12 => ?_)
  ·skip
   refine wp_skip ?_
   refine then_n ?_
   refine wp_seq ?_
   refine wp_block ?_
   refine sr ?_
   refine w_mv (ev (pt m 0) s1_0 rfl) ?_
   clear hn
   have rm_ := r_m
   clear r_m
   refine w_call (Tryd.func32) (by kernel_rfl) rfl (m1 (ev (pt m 0) rfl rfl)) (macAgain_l kind hkd m pi po pn (Hm.pd kind pw 54#8) (by omega) (by omega) (by omega) w11 rm_ hT hi) ?_
   rintro _ w13 ⟨pn2, rfl, hge_pn2, r_m, hn, hga⟩
   refine ⟨_, rfl, ?_⟩
   have ne_b_34_pn2 : b_34 ≠ pn2 := by have := r_b_34.lt; omega
   have ne_pi_pn2 : pi ≠ pn2 := by have := hi.lt; omega
   have ne_po_pn2 : po ≠ pn2 := by have := ho.lt; omega
   have ge_pn2 : w0.heap.size ≤ pn2 := by have := hk.size; omega
   have ne_m_pn2 : m ≠ pn2 := by have := rm_.lt; omega
   replace r_b_34 := r_b_34.stepG hga (by omega)
   replace hk := grown_thenG hk hga (by omega)
   replace hT := Sha.Tabs.grown hT hga (by omega) (by omega)
   replace hi := Sha.At.grown hi hga (by omega)
   replace ho := Sha.At.grown ho hga (by omega)
   refine nt ?_
   refine sr ?_
   refine w_mv (ev (pt m 0) s1_0 rfl) ?_
   refine w_mv (ev (.string (str (Pb.un kind pw salt i k))) s1_11 rfl) ?_
   have hw_ := hn
   clear hn
   refine w_call (Tryd.func31) (by kernel_rfl) rfl (m2 (ev (pt m 0) rfl rfl) (ev (.string (str (Pb.un kind pw salt i k))) rfl rfl)) (macWrite_l kind hkd m pi po pn2 (Hm.pd kind pw 54#8) (Pb.un kind pw salt i k) (by omega) (by (try simp only [Pb.un_len, Oct.length_be]); omega) (by omega) w13 r_m hT hw_) ?_
   rintro _ w14 ⟨rfl, hn, hgw⟩
   refine ⟨_, rfl, ?_⟩
   replace r_b_34 := r_b_34.stepG hgw (by omega)
   replace r_m := r_m.stepG hgw (by omega)
   replace hk := grown_thenG hk hgw (by omega)
   replace hT := Sha.Tabs.grown hT hgw (by omega) (by omega)
   replace hi := Sha.At.grown hi hgw (by omega)
   replace ho := Sha.At.grown ho hgw (by omega)
   refine nt ?_
   refine sr ?_
   refine w_mv (ev (pt m 0) s1_0 rfl) ?_
   refine w_call (Tryd.func33) (by kernel_rfl) rfl (m1 (ev (pt m 0) rfl rfl)) (macSum_l kind hkd m pi po pn2 ((Hm.pd kind pw 54#8) ++ (Pb.un kind pw salt i k)) (Hm.pd kind pw 92#8) (by omega) (by omega) (by (try simp only [List.length_append, Hm.pd_len, Pb.un_len, Oct.length_be]); omega) (by rw [Hm.pd_len]; omega) (by omega) w14 r_m hT ho hn) ?_
   rintro _ w15 ⟨rfl, hb16⟩
   refine ⟨_, rfl, ?_⟩
   replace r_b_34 := r_b_34.step hb16
   replace r_m := r_m.step hb16
   replace hk := grown_thenB hk hb16
   replace hT := Sha.Tabs.below hT hb16
   replace hi := Sha.At.below hi hb16
   replace ho := Sha.At.below ho hb16
   replace hn := Sha.At.below hn hb16
   refine w_mv (ev (.tuple #[.string (str (Pb.un kind pw salt i (k + 1))), .int .i64 0]) rfl rfl) ?_
   refine w_val (y_ext (v := .string (str (Pb.un kind pw salt i (k + 1)))) (ev (.tuple #[.string (str (Pb.un kind pw salt i (k + 1))), .int .i64 0]) rfl rfl) rfl) ?_
   refine w_val (y_ext (v := .int .i64 0) (ev (.tuple #[.string (str (Pb.un kind pw salt i (k + 1))), .int .i64 0]) rfl rfl) rfl) ?_
   refine w_as (ev (.string (str (Pb.un kind pw salt i (k + 1)))) rfl rfl) ?_
   refine nt ?_
   refine sr ?_
   refine w_mv (ev (.slice (some ⟨b_34, 0, none⟩) ((Pb.un kind pw salt i 0).length) cap_b_34) s1_13 rfl) ?_
   refine w_val (v := .int .i64 (((Pb.un kind pw salt i 0).length : Nat) : Int)) (y_len_sl (ev (.slice (some ⟨b_34, 0, none⟩) ((Pb.un kind pw salt i 0).length) cap_b_34) rfl rfl) Tryd.underlying76) ?_
   refine w_mv (evc (.int .i64 0)) ?_
   refine nt ?_
   refine wp_block ?_
   refine c_loop (fun dN aN wl => ∃ (q : Nat), dN = (Sha.ol kind - q) ∧ ∃ f17, aN = fr 66 f17 ∧ (q ≤ Sha.ol kind) ∧ f17 0 = pt m 0 ∧ f17 1 = .string (str salt) ∧ f17 2 = U64 (BitVec.ofNat 64 i) ∧ f17 3 = .int .i64 ((r : Nat) : Int) ∧ f17 8 = .slice none 0 0 ∧ f17 9 = .string (str (Oct.be (BitVec.ofNat 64 i) 4)) ∧ f17 11 = .string (str (Pb.un kind pw salt i (k + 1))) ∧ f17 13 = .slice (some ⟨b_34, 0, none⟩) ((Pb.un kind pw salt i 0).length) cap_b_34 ∧ f17 36 = .int .i64 (((r : Nat) : Int) - 1) ∧ f17 37 = .int .i64 ((k : Nat) : Int) ∧ f17 50 = .int .i64 (((Pb.un kind pw salt i 0).length : Nat) : Int) ∧ f17 51 = .int .i64 ((q : Nat) : Int) ∧ Row wl b_34 5 ((Pb.un kind pw salt i 0).length) (fun j => if j < q then (fun j => U8 (gb (Pb.tn kind pw salt i (k + 1)) j)) j else (fun j => U8 (gb (Pb.tn kind pw salt i k) j)) j) ∧ Row wl m 65 3 (fun j => if j < 1 then pt pi 0 else if j < 2 then pt po 0 else pt pn2 0) ∧ Sha.Tabs wl ∧ Sha.At wl pi kind (Hm.pd kind pw 54#8) ∧ Sha.At wl po kind (Hm.pd kind pw 92#8) ∧ Sha.At wl pn2 kind ((Hm.pd kind pw 54#8) ++ (Pb.un kind pw salt i k)) ∧ w0.grownBy wl (some m)) (Sha.ol kind - 0) ?_ ?_
   · exact ⟨0, rfl, _, rfl, iv, s1_0, s1_1, s1_2, s1_3, s1_8, s1_9, rfl, s1_13, s1_36, s1_37, rfl, (etv (b := .int .i64 0) rfl), (r_b_34.cg), r_m, hT, hi, ho, hn, hk⟩
   ·skip
    clear r_b_34 r_m hT hi ho hn hk
    rintro _ _ w18 ⟨q, rfl, f17, rfl, i2_0, s2_0, s2_1, s2_2, s2_3, s2_8, s2_9, s2_11, s2_13, s2_36, s2_37, s2_50, s2_51, r_b_34, r_m, hT, hi, ho, hn, hk⟩
    refine sr ?_
    refine w_val (y_bin (ev (.int .i64 ((q : Nat) : Int)) s2_51 rfl) (ev (.int .i64 (((Pb.un kind pw salt i 0).length : Nat) : Int)) s2_50 rfl) b_lss) ?_
    refine nt ?_
    refine wp_seq ?_
    refine c_if (p := ((q : Nat) : Int) < (((Pb.un kind pw salt i 0).length : Nat) : Int)) (ev (.bool (decide (((q : Nat) : Int) < (((Pb.un kind pw salt i 0).length : Nat) : Int)))) rfl rfl) (fun hc19 => ?_) (fun hc19 => ?_)
    ·skip
     refine wp_skip ?_
     refine then_n ?_
     refine wp_seq ?_
     refine wp_block ?_
     refine sr ?_
     refine w_mv (ev (.int .i64 ((q : Nat) : Int)) s2_51 rfl) ?_
     refine w_as (ev (.int .i64 ((q : Nat) : Int)) rfl rfl) ?_
     refine nt ?_
     refine region_t 9 PbAT.mixed (by kernel_rfl) ?_
     simp only [List.take_succ_cons, List.take_zero, List.drop_succ_cons, List.drop_zero]
     refine q_mv (ev (.slice (some ⟨b_34, 0, none⟩) ((Pb.un kind pw salt i 0).length) cap_b_34) s2_13 rfl) ?_
     refine q_mv (ev (.int .i64 ((q : Nat) : Int)) rfl rfl) ?_
     refine q_val (fun w' hw' => y_is1z (i := q) (ev (.slice (some ⟨b_34, 0, none⟩) ((Pb.un kind pw salt i 0).length) cap_b_34) rfl rfl) (ev (.int .i64 ((q : Nat) : Int)) rfl rfl) Tryd.underlying76 PbAT.sz5 (by omega) (by omega)) ?_
     refine q_val (v := U8 (gb (Pb.tn kind pw salt i k) q)) (fun w' hw' => y_ld (ev (pt b_34 q) rfl rfl) PbAT.sc5 (cls_cell (r_b_34.val (by omega) ((if_neg (by omega)).trans rfl)) r_b_34.lt w' hw')) ?_
     refine q_mv (ev (.string (str (Pb.un kind pw salt i (k + 1)))) s2_11 rfl) ?_
     refine q_mv (ev (.int .i64 ((q : Nat) : Int)) rfl rfl) ?_
     refine q_val (v := U8 (gb (Pb.un kind pw salt i (k + 1)) q)) (fun w' hw' => y_idx (ev (.string (str (Pb.un kind pw salt i (k + 1)))) rfl rfl) (ev (.int .i64 ((q : Nat) : Int)) rfl rfl) Tryd.underlying9 (by omega) (by omega)) ?_
     refine q_val (fun w' hw' => y_bin (ev (U8 (gb (Pb.tn kind pw salt i k) q)) rfl rfl) (ev (U8 (gb (Pb.un kind pw salt i (k + 1)) q)) rfl rfl) xor8) ?_
     refine q_val (fun w' hw' => y_is1z (i := q) (ev (.slice (some ⟨b_34, 0, none⟩) ((Pb.un kind pw salt i 0).length) cap_b_34) rfl rfl) (ev (.int .i64 ((q : Nat) : Int)) rfl rfl) Tryd.underlying76 PbAT.sz5 (by omega) (by omega)) ?_
     refine q_nil ?_
     intro w20 hb21
     replace r_b_34 := r_b_34.step hb21
     replace r_m := r_m.step hb21
     replace hk := grown_thenB hk hb21
     replace hT := Sha.Tabs.below hT hb21
     replace hi := Sha.At.below hi hb21
     replace ho := Sha.At.below ho hb21
     replace hn := Sha.At.below hn hb21
     refine w_st (v := U8 ((gb (Pb.tn kind pw salt i k) q) ^^^ (gb (Pb.un kind pw salt i (k + 1)) q))) (ev (pt b_34 q) rfl rfl) (ev (U8 ((gb (Pb.tn kind pw salt i k) q) ^^^ (gb (Pb.un kind pw salt i (k + 1)) q))) rfl rfl) rfl rfl PbAT.sz5 r_b_34 (by omega) ?_
     clear r_b_34; intro w22 r_b_34 hg23 _
     replace r_m := r_m.stepG hg23 (by omega)
     replace hk := grown_thenG hk hg23 (by omega)
     replace hT := Sha.Tabs.grown hT hg23 (by omega) (by omega)
     replace hi := Sha.At.grown hi hg23 (by omega)
     replace ho := Sha.At.grown ho hg23 (by omega)
     replace hn := Sha.At.grown hn hg23 (by omega)
     refine wpList_nil ?_
     refine inb_n ?_
     refine then_n ?_
     refine wp_region_lit ?_
     refine w_val (y_bin (ev (.int .i64 ((q : Nat) : Int)) s2_51 rfl) (evc (.int .i64 1)) (b_add (by omega))) ?_
     refine w_mv (ev (.int .i64 (((q : Nat) : Int) + 1)) rfl rfl) ?_
     refine wpList_nil ?_
     exact then_n ⟨_, (by omega), q + 1, rfl, _, rfl, iv, s2_0, s2_1, s2_2, s2_3, s2_8, s2_9, s2_11, s2_13, s2_36, s2_37, s2_50, (etv (b := .int .i64 (((q : Nat) : Int) + 1)) rfl), (r_b_34.congr (fun j hj => by (try dsimp only); by_cases e : j = q; (rw [if_pos e, if_pos (by omega), e, Pb.gb_tn _ _ _ _ _ _ (by omega)]); (rw [if_neg e]; by_cases e2 : j < q; (rw [if_pos e2]; exact (if_pos (by omega)).symm); (rw [if_neg e2]; exact (if_neg (by omega)).symm)))), r_m, hT, hi, ho, hn, hk⟩
    ·skip
     refine wp_exit ?_
     refine then_x ?_
     replace r_b_34 := r_b_34.congr (g := fun j => U8 (gb (Pb.tn kind pw salt i (k + 1)) j)) (fun j hj => by (try dsimp only); rw [if_pos (by omega)])
     refine then_x ?_
     refine inb_x ?_
     refine inb_n ?_
     refine then_n ?_
     refine wp_region_lit ?_
     refine w_val (y_bin (ev (.int .i64 ((k : Nat) : Int)) s2_37 rfl) (evc (.int .i64 1)) (b_add (by omega))) ?_
     refine w_mv (ev (.int .i64 (((k : Nat) : Int) + 1)) rfl rfl) ?_
     refine wpList_nil ?_
     exact then_n ⟨_, (by omega), k + 1, pn2, _, rfl, _, rfl, iv, iv, iv, iv, iv, iv, s2_0, s2_1, s2_2, s2_3, s2_8, s2_9, s2_11, s2_13, s2_36, (etv (b := .int .i64 (((k : Nat) : Int) + 1)) rfl), r_m, r_b_34, hT, hi, ho, hn, hk⟩
  ·skip
   refine wp_exit ?_
   refine then_x ?_
   refine then_x ?_
   refine inb_x ?_
   refine then_n ?_
   refine sr ?_
   refine w_mv (ev (.slice (some ⟨b_34, 0, none⟩) ((Pb.un kind pw salt i 0).length) cap_b_34) s1_13 rfl) ?_
   refine w_as (ev (.slice (some ⟨b_34, 0, none⟩) ((Pb.un kind pw salt i 0).length) cap_b_34) rfl rfl) ?_
   refine nt ?_
   refine wp_ret ?_
   refine fin_ret1 rfl (ev (.slice (some ⟨b_34, 0, none⟩) ((Pb.un kind pw salt i 0).length) cap_b_34) rfl rfl) ?_
   rw [hul] at r_b_34 hc_b_34
   rw [show k = r - 1 from by omega] at r_b_34
   exact ⟨b_34, cap_b_34, pn, t, congrArg (fun n => Ending.returned (Value.slice (some ⟨b_34, 0, none⟩) n cap_b_34)) hul, ge_b_34, hc_b_34, r_b_34, (by omega), r_m.congr (fun j hj => by rcases (by omega : j = 0 ∨ j = 1 ∨ j = 2) with h | h | h <;> subst h <;> rfl), hn, hk⟩

set_option maxRecDepth 100000 in
set_option maxHeartbeats 1000000 in
theorem pbKey_y (kind : Nat) (hkd : Sha.Known kind) (r l : Nat) (hr1 : 1 ≤ r) (hr2 : r ≤ 4096) (hl1 : 1 ≤ l) (hl2 : l ≤ 256) (pw salt : List (BitVec 8)) (hsl : salt.length ≤ 1024) (hp : pw.length ≤ 140737488351232) (w0 : World) (hT : Sha.Tabs w0) : Calls Tryd.prog 36 #[.int .i64 ((kind : Nat) : Int), .string (str pw), .string (str salt), .int .i64 ((r : Nat) : Int), .int .i64 ((l : Nat) : Int)] w0 fun e w' => e = .returned (.tuple #[.string (str (Pb.dk kind pw salt r l)), .int .i64 0]) ∧ Below w0.heap.size w0 w' := by
 have hT0 := hT.lt
 have hbs := Sha.bs_le kind
 have hol := Sha.ol_lt kind
 refine enter (n := 72) Tryd.func36 rfl rfl rfl ?_
 have hk : Below w0.heap.size w0 w0 := Below.refl _ _
 refine sr ?_
 refine w_as (evc (.string (str ([] : List (BitVec 8))))) ?_
 refine w_as (evc (.int .i64 0)) ?_
 refine nt ?_
 refine sr ?_
 refine w_mv (ev (.int .i64 ((kind : Nat) : Int)) rfl rfl) ?_
 refine w_call (Tryd.func19) (by kernel_rfl) rfl (m1 (ev (.int .i64 ((kind : Nat) : Int)) rfl rfl)) (size_l kind  w0 hkd) ?_
 rintro _ w1 ⟨rfl, hb2⟩
 refine ⟨_, rfl, ?_⟩
 replace hk := thenB hk hb2
 replace hT := Sha.Tabs.below hT hb2
 refine w_mv (ev (.tuple #[.int .i64 ((Sha.ol kind : Nat) : Int), .int .i64 ((Sha.bs kind : Nat) : Int), .int .i64 0]) rfl rfl) ?_
 refine w_val (y_ext (v := .int .i64 ((Sha.ol kind : Nat) : Int)) (ev (.tuple #[.int .i64 ((Sha.ol kind : Nat) : Int), .int .i64 ((Sha.bs kind : Nat) : Int), .int .i64 0]) rfl rfl) rfl) ?_
 refine w_val (y_ext (v := .int .i64 ((Sha.bs kind : Nat) : Int)) (ev (.tuple #[.int .i64 ((Sha.ol kind : Nat) : Int), .int .i64 ((Sha.bs kind : Nat) : Int), .int .i64 0]) rfl rfl) rfl) ?_
 refine w_val (y_ext (v := .int .i64 0) (ev (.tuple #[.int .i64 ((Sha.ol kind : Nat) : Int), .int .i64 ((Sha.bs kind : Nat) : Int), .int .i64 0]) rfl rfl) rfl) ?_
 refine w_as (ev (.int .i64 ((Sha.ol kind : Nat) : Int)) rfl rfl) ?_
 refine w_as (ev (.int .i64 ((Sha.bs kind : Nat) : Int)) rfl rfl) ?_
 refine w_as (ev (.int .i64 0) rfl rfl) ?_
 refine nt ?_
 refine wp_seq ?_
 refine wp_block ?_
 refine sr ?_
 refine w_mv (ev (.int .i64 0) rfl rfl) ?_
 refine w_val (y_bin (ev (.int .i64 0) rfl rfl) (evc (.int .i64 0)) b_neq) ?_
 refine w_as (ev (.bool false) rfl rfl) ?_
 refine nt ?_
 refine c_ff (ev (.bool false) rfl rfl) ?_
 refine sr ?_
 refine w_mv (ev (.int .i64 ((r : Nat) : Int)) rfl rfl) ?_
 refine w_val (y_bin (ev (.int .i64 ((r : Nat) : Int)) rfl rfl) (evc (.int .i64 1)) b_lss) ?_
 refine w_mv (ev (.bool (decide (((r : Nat) : Int) < 1))) rfl rfl) ?_
 have hc3 : ¬ (((r : Nat) : Int) < 1) := by omega
 refine w_val_g (v := .int .i64 ((l : Nat) : Int)) (want_yes (j := 2) rfl rfl (ev (.bool false) (Eq.trans (b := .bool (decide (((r : Nat) : Int) < 1))) rfl (by rw [decide_eq_false hc3])) rfl) rfl) (y_mv (ev (.int .i64 ((l : Nat) : Int)) rfl rfl)) ?_
 refine w_val_g (want_yes (j := 2) rfl rfl (ev (.bool false) (Eq.trans (b := .bool (decide (((r : Nat) : Int) < 1))) rfl (by rw [decide_eq_false hc3])) rfl) rfl) (y_bin (ev (.int .i64 ((l : Nat) : Int)) rfl rfl) (evc (.int .i64 1)) b_lss) ?_
 refine w_val (y_pick_f (ev (.bool false) (Eq.trans (b := .bool (decide (((r : Nat) : Int) < 1))) rfl (by rw [decide_eq_false hc3])) rfl) (ev (.bool (decide (((l : Nat) : Int) < 1))) rfl rfl)) ?_
 refine w_mv (ev (.bool (decide (((l : Nat) : Int) < 1))) rfl rfl) ?_
 have hc4 : ¬ (((l : Nat) : Int) < 1) := by omega
 refine w_val_g (v := .int .i64 ((l : Nat) : Int)) (want_yes (j := 6) rfl rfl (ev (.bool false) (Eq.trans (b := .bool (decide (((l : Nat) : Int) < 1))) rfl (by rw [decide_eq_false hc4])) rfl) rfl) (y_mv (ev (.int .i64 ((l : Nat) : Int)) rfl rfl)) ?_
 refine w_val_g (want_yes (j := 6) rfl rfl (ev (.bool false) (Eq.trans (b := .bool (decide (((l : Nat) : Int) < 1))) rfl (by rw [decide_eq_false hc4])) rfl) rfl) (y_bin (ev (.int .i64 ((l : Nat) : Int)) rfl rfl) (evc (.int .i64 256)) b_gtr) ?_
 refine w_val (y_pick_f (ev (.bool false) (Eq.trans (b := .bool (decide (((l : Nat) : Int) < 1))) rfl (by rw [decide_eq_false hc4])) rfl) (ev (.bool (decide (256 < ((l : Nat) : Int)))) rfl rfl)) ?_
 refine w_as (ev (.bool (decide (256 < ((l : Nat) : Int)))) rfl rfl) ?_
 refine nt ?_
 have hc5 : ¬ (256 < ((l : Nat) : Int)) := by omega
 refine c_f (p := 256 < ((l : Nat) : Int)) (ev (.bool (decide (256 < ((l : Nat) : Int)))) rfl rfl) hc5 ?_
 refine sr ?_
 refine w_mv (ev (.int .i64 ((r : Nat) : Int)) rfl rfl) ?_
 refine w_val (y_bin (ev (.int .i64 ((r : Nat) : Int)) rfl rfl) (evc (.int .i64 4096)) b_gtr) ?_
 refine w_as (ev (.bool (decide (4096 < ((r : Nat) : Int)))) rfl rfl) ?_
 refine nt ?_
 have hc6 : ¬ (4096 < ((r : Nat) : Int)) := by omega
 refine c_f (p := 4096 < ((r : Nat) : Int)) (ev (.bool (decide (4096 < ((r : Nat) : Int)))) rfl rfl) hc6 ?_
 refine sr ?_
 refine w_mv (ev (.string (str salt)) rfl rfl) ?_
 refine w_val (y_len (ev (.string (str salt)) rfl rfl) Tryd.underlying9) ?_
 refine w_val (y_bin (ev (.int .i64 ((salt.length : Nat) : Int)) rfl rfl) (evc (.int .i64 1024)) b_gtr) ?_
 refine w_as (ev (.bool (decide (1024 < ((salt.length : Nat) : Int)))) rfl rfl) ?_
 refine nt ?_
 have hc7 : ¬ (1024 < ((salt.length : Nat) : Int)) := by omega
 refine c_f (p := 1024 < ((salt.length : Nat) : Int)) (ev (.bool (decide (1024 < ((salt.length : Nat) : Int)))) rfl rfl) hc7 ?_
 refine wp_skip ?_
 refine inb_n ?_
 refine then_n ?_
 refine sr ?_
 refine w_mv (ev (.int .i64 ((kind : Nat) : Int)) rfl rfl) ?_
 refine w_mv (ev (.string (str pw)) rfl rfl) ?_
 refine w_call (Tryd.func30) (by kernel_rfl) rfl (m2 (ev (.int .i64 ((kind : Nat) : Int)) rfl rfl) (ev (.string (str pw)) rfl rfl)) (macNew_l kind hkd pw (by omega) w1 hT) ?_
 rintro _ w8 ⟨m, pi, po, pn, rfl, hge_m, hge_pi, hge_po, hge_pn, nb1, nb2, nb3, nb4, nb5, nb6, r_m, hi, ho, hn, hb_m⟩
 refine ⟨_, rfl, ?_⟩
 have ge_m : w0.heap.size ≤ m := by have := hk.size; omega
 have ge_pi : w0.heap.size ≤ pi := by have := hk.size; omega
 have ge_po : w0.heap.size ≤ po := by have := hk.size; omega
 have ge_pn : w0.heap.size ≤ pn := by have := hk.size; omega
 replace hk := thenB hk hb_m
 replace hT := Sha.Tabs.below hT hb_m
 refine w_mv (ev (.tuple #[pt m 0, .int .i64 0]) rfl rfl) ?_
 refine w_val (y_ext (v := pt m 0) (ev (.tuple #[pt m 0, .int .i64 0]) rfl rfl) rfl) ?_
 refine w_val (y_ext (v := .int .i64 0) (ev (.tuple #[pt m 0, .int .i64 0]) rfl rfl) rfl) ?_
 refine w_as (ev (pt m 0) rfl rfl) ?_
 refine w_as (ev (.int .i64 0) rfl rfl) ?_
 refine nt ?_
 refine sr ?_
 refine w_as (evc (.slice none 0 0)) ?_
 refine nt ?_
 refine wp_seq ?_
 refine sr ?_
 refine w_as (evc (U64 (1#64))) ?_
 refine nt ?_
 refine wp_block ?_
 refine c_loop (fun dN aN wl => ∃ (n : Nat) (pn : Nat) (t : List (BitVec 8)) (vo : Value), dN = (l + 64 - Sha.ol kind * n) ∧ ∃ f9, aN = fr 72 f9 ∧ (Sha.ol kind * n < l + Sha.ol kind) ∧ (w0.heap.size ≤ pn) ∧ (pi ≠ pn) ∧ (po ≠ pn) ∧ (m ≠ pn) ∧ f9 0 = .int .i64 ((kind : Nat) : Int) ∧ f9 1 = .string (str pw) ∧ f9 2 = .string (str salt) ∧ f9 3 = .int .i64 ((r : Nat) : Int) ∧ f9 4 = .int .i64 ((l : Nat) : Int) ∧ f9 10 = .string (str ([] : List (BitVec 8))) ∧ f9 11 = .int .i64 0 ∧ f9 12 = .int .i64 ((Sha.ol kind : Nat) : Int) ∧ f9 14 = .int .i64 0 ∧ f9 15 = pt m 0 ∧ f9 17 = vo ∧ f9 18 = U64 (BitVec.ofNat 64 (n + 1)) ∧ Row wl m 65 3 (fun j => if j < 1 then pt pi 0 else if j < 2 then pt po 0 else pt pn 0) ∧ Own wl w0.heap.size 5 1 vo (Sha.ol kind * n) (fun j => U8 (gb (Pb.out kind pw salt r n) j)) ∧ vo.ownBlock ≠ some m ∧ vo.ownBlock ≠ some pi ∧ vo.ownBlock ≠ some po ∧ vo.ownBlock ≠ some pn ∧ Sha.Tabs wl ∧ Sha.At wl pi kind (Hm.pd kind pw 54#8) ∧ Sha.At wl po kind (Hm.pd kind pw 92#8) ∧ Sha.At wl pn kind t ∧ Below w0.heap.size w0 wl) (l + 64 - Sha.ol kind * 0) ?_ ?_
 · exact ⟨0, pn, _, (.slice none 0 0), rfl, _, rfl, (by rw [Nat.mul_zero]; omega), iv, iv, iv, iv, rfl, rfl, rfl, rfl, rfl, rfl, rfl, rfl, rfl, rfl, (etv (b := .slice none 0 0) rfl), (Eq.trans (b := U64 (1#64)) rfl (by rfl)), (r_m.congr (fun j hj => by rfl)), Own.nil, (fun e => by cases e), (fun e => by cases e), (fun e => by cases e), (fun e => by cases e), hT, hi, ho, hn, hk⟩
 ·skip
  clear r_m hT hi ho hn hk
  rintro _ _ w10 ⟨n, pn, t, vo, rfl, f9, rfl, i1_0, i1_1, i1_2, i1_3, i1_4, s1_0, s1_1, s1_2, s1_3, s1_4, s1_10, s1_11, s1_12, s1_14, s1_15, s1_17, s1_18, r_m, o_vo, no_vo_m, no_vo_pi, no_vo_po, no_vo_pn, hT, hi, ho, hn, hk⟩
  have hmul : Sha.ol kind * (n + 1) = Sha.ol kind * n + Sha.ol kind := Nat.mul_succ _ _
  have hn32 := Nat.mul_le_mul_right n hol.1
  refine wp_seq ?_
  refine sr ?_
  refine w_mv (ev vo s1_17 rfl) ?_
  refine w_val (v := .int .i64 (((Sha.ol kind * n) : Nat) : Int)) (y_len_own (ev vo rfl rfl) o_vo Tryd.underlying76) ?_
  refine w_mv (ev (.int .i64 ((l : Nat) : Int)) s1_4 rfl) ?_
  refine w_val (y_bin (ev (.int .i64 (((Sha.ol kind * n) : Nat) : Int)) rfl rfl) (ev (.int .i64 ((l : Nat) : Int)) rfl rfl) b_lss) ?_
  refine nt ?_
  refine c_if (p := (((Sha.ol kind * n) : Nat) : Int) < ((l : Nat) : Int)) (ev (.bool (decide ((((Sha.ol kind * n) : Nat) : Int) < ((l : Nat) : Int)))) rfl rfl) (fun hc11 => ?_) (fun hc11 => ?_)
  ·skip
   refine wp_skip ?_
   refine then_n ?_
   refine wp_seq ?_
   refine wp_block ?_
   refine wp_region_lit ?_
   refine w_mv (ev vo s1_17 rfl) ?_
   refine w_mv (ev (pt m 0) s1_15 rfl) ?_
   refine w_mv (ev (.string (str salt)) s1_2 rfl) ?_
   refine w_mv (ev (U64 (BitVec.ofNat 64 (n + 1))) s1_18 rfl) ?_
   refine w_mv (ev (.int .i64 ((r : Nat) : Int)) s1_3 rfl) ?_
   have hw_ := hn
   have rm_ := r_m
   clear hn r_m
   refine w_call (Tryd.func44) (by kernel_rfl) rfl (m4 (ev (pt m 0) rfl rfl) (ev (.string (str salt)) rfl rfl) (ev (U64 (BitVec.ofNat 64 (n + 1))) rfl rfl) (ev (.int .i64 ((r : Nat) : Int)) rfl rfl)) (pbBlock_l kind hkd m pi po pn (n + 1) r _ pw salt (by omega) (by omega) (by omega) (by omega) (by omega) (by omega) (by omega) (by omega) (by omega) (by omega) (by omega) (by omega) (by omega) w10 rm_ hT hi ho hw_) ?_
   rintro _ w12 ⟨bk, ck, pn2, t2, rfl, hge_bk, hc_bk, r_bk, hge_pn2, r_m, hn, hga⟩
   refine ⟨_, rfl, ?_⟩
   have ne_pi_bk : pi ≠ bk := by have := hi.lt; omega
   have ne_po_bk : po ≠ bk := by have := ho.lt; omega
   have no_vo_bk : vo.ownBlock ≠ some bk := o_vo.apart (by omega)
   have ge_bk : w0.heap.size ≤ bk := by have := hk.size; omega
   have ne_m_bk : m ≠ bk := by have := rm_.lt; omega
   have ne_pi_pn2 : pi ≠ pn2 := by have := hi.lt; omega
   have ne_po_pn2 : po ≠ pn2 := by have := ho.lt; omega
   have no_vo_pn2 : vo.ownBlock ≠ some pn2 := o_vo.apart (by omega)
   have ge_pn2 : w0.heap.size ≤ pn2 := by have := hk.size; omega
   have ne_m_pn2 : m ≠ pn2 := by have := rm_.lt; omega
   replace o_vo := o_vo.stepG hga no_vo_m
   replace hk := thenG hk hga (by omega)
   replace hT := Sha.Tabs.grown hT hga (by omega) (by omega)
   replace hi := Sha.At.grown hi hga (by omega)
   replace ho := Sha.At.grown ho hga (by omega)
   have ne_bk_pn2 : bk ≠ pn2 := Sha.At.ne_row hn r_bk (by decide)
   refine w_mv (ev (.int .i64 ((Sha.ol kind : Nat) : Int)) s1_12 rfl) ?_
   refine w_val (v := .slice (some ⟨bk, 0, none⟩) (Sha.ol kind) ck) (y_slh (ev (.slice (some ⟨bk, 0, none⟩) (Sha.ol kind) ck) rfl rfl) (evo.s (ev (.int .i64 ((Sha.ol kind : Nat) : Int)) rfl rfl)) Tryd.underlying76 (bnd_h (h := (Sha.ol kind)) (by omega) (by omega)) PbAT.sz5) ?_
   refine w_app (k := (Sha.ol kind * n)) (m := (Sha.ol kind)) (size := 1) (bytes := 1) (ev vo rfl rfl) (ev (.slice (some ⟨bk, 0, none⟩) (Sha.ol kind) ck) rfl rfl) Tryd.underlying76 (by kernel_rfl) (by decide) o_vo hk.size r_bk (by omega) oca (by simp only [maxLen]; omega) (by omega) ?_
   intro v13 w14 o_v13 hg15 hv16
   have no_v13_m := no_new no_vo_m r_m.lt hv16
   replace r_m := r_m.stepO hg15 no_vo_m
   have no_v13_bk := no_new no_vo_bk r_bk.lt hv16
   replace r_bk := r_bk.stepO hg15 no_vo_bk
   replace hk := thenO hk hg15 (fun g e => (o_vo.block_lt g e).2)
   have no_v13_pi := no_new no_vo_pi hi.lt hv16
   have no_v13_po := no_new no_vo_po ho.lt hv16
   have no_v13_pn2 := no_new no_vo_pn2 hn.lt hv16
   replace hT := Sha.Tabs.grownO hT hg15 (fun g e => by have := (o_vo.block_lt g e).2; omega)
   replace hi := Sha.At.grownO hi hg15 no_vo_pi
   replace ho := Sha.At.grownO ho hg15 no_vo_po
   replace hn := Sha.At.grownO hn hg15 no_vo_pn2
   clear o_vo
   refine w_as (ev v13 rfl rfl) ?_
   refine wpList_nil ?_
   refine inb_n ?_
   refine then_n ?_
   refine wp_region_lit ?_
   refine w_mv (ev (U64 (BitVec.ofNat 64 (n + 1))) s1_18 rfl) ?_
   refine w_val (y_bin (ev (U64 (BitVec.ofNat 64 (n + 1))) rfl rfl) (evc (U64 (1#64))) add64) ?_
   refine w_as (ev (U64 ((BitVec.ofNat 64 (n + 1)) + (1#64))) rfl rfl) ?_
   refine wpList_nil ?_
   exact then_n ⟨_, (by omega), n + 1, pn2, _, v13, rfl, _, rfl, iv, iv, iv, iv, iv, s1_0, s1_1, s1_2, s1_3, s1_4, s1_10, s1_11, s1_12, s1_14, s1_15, rfl, (Eq.trans (b := U64 ((BitVec.ofNat 64 (n + 1)) + (1#64))) rfl (by exact congrArg U64 (BitVec.ofNat_add (n := 64) (n + 1) 1).symm)), r_m, (own_n (o_v13.congr (fun j hj => by (try dsimp only); show _ = U8 (gb (Pb.out kind pw salt r n ++ Pb.tn kind pw salt (n + 1) (r - 1)) j); rw [gb_append, Pb.out_len]; by_cases e : j < Sha.ol kind * n; (rw [if_pos (show j < Sha.ol kind * n * 1 by omega), if_pos e]); (rw [if_neg (show ¬ j < Sha.ol kind * n * 1 by omega), if_neg e]; exact congrArg U8 (congrArg (gb _) (by omega))))) (by omega)), no_v13_m, no_v13_pi, no_v13_po, no_v13_pn2, hT, hi, ho, hn, hk⟩
  ·skip
   refine wp_exit ?_
   refine then_x ?_
   refine then_x ?_
   refine inb_x ?_
   refine then_n ?_
   refine wp_seq ?_
   obtain ⟨g17, cap17, hv17, ge_g17, hc_g17, hob_g17, r_g17⟩ := o_vo.opened (by omega)
   have ne_m_g17 : m ≠ g17 := fun e => no_vo_m (by rw [hob_g17, e])
   refine wp_region_lit ?_
   refine w_mv (ev vo s1_17 rfl) ?_
   refine w_mv (ev (.int .i64 ((l : Nat) : Int)) s1_4 rfl) ?_
   refine w_val (v := .slice (some ⟨g17, 0, none⟩) l cap17) (y_slh (ev (.slice (some ⟨g17, 0, none⟩) (Sha.ol kind * n) cap17) (Eq.trans (b := vo) rfl hv17) rfl) (evo.s (ev (.int .i64 ((l : Nat) : Int)) rfl rfl)) Tryd.underlying76 (bnd_h (h := l) (by omega) (by omega)) PbAT.sz5) ?_
   refine w_val (y_str (l := Pb.dk kind pw salt r l) (ev (.slice (some ⟨g17, 0, none⟩) l cap17) rfl rfl) (by rw [Pb.dk_len]) Tryd.underlying76 Tryd.underlying5 Tryd.underlying9 (fun j hj => (r_g17.val (by omega) (by rw [Nat.zero_add, ← Pb.out_take kind pw salt r n l (by omega), gb_take _ _ _ (by omega)])))) ?_
   refine w_as (ev (.string (str (Pb.dk kind pw salt r l))) rfl rfl) ?_
   refine w_as (evc (.int .i64 0)) ?_
   refine nt ?_
   refine wp_ret ?_
   refine fin_ret2 rfl (ev (.string (str (Pb.dk kind pw salt r l))) rfl rfl) (ev (.int .i64 0) rfl rfl) ?_
   exact ⟨rfl, hk⟩

set_option maxRecDepth 100000 in
set_option maxHeartbeats 1000000 in
theorem pbKey_a (k : Int) (k1 : k ≠ 256) (k2 : k ≠ 384) (k3 : k ≠ 512) (pw salt : List (BitVec 8)) (r l : Int) (w0 : World) : Calls Tryd.prog 36 #[.int .i64 k, .string (str pw), .string (str salt), .int .i64 r, .int .i64 l] w0 fun e w' => e = .returned (.tuple #[.string (str ([] : List (BitVec 8))), .int .i64 11]) ∧ Below w0.heap.size w0 w' := by
 refine enter (n := 72) Tryd.func36 rfl rfl rfl ?_
 have hk : Below w0.heap.size w0 w0 := Below.refl _ _
 refine sr ?_
 refine w_as (evc (.string (str ([] : List (BitVec 8))))) ?_
 refine w_as (evc (.int .i64 0)) ?_
 refine nt ?_
 refine sr ?_
 refine w_mv (ev (.int .i64 k) rfl rfl) ?_
 refine w_call (Tryd.func19) (by kernel_rfl) rfl (m1 (ev (.int .i64 k) rfl rfl)) (shaSize_no k k1 k2 k3  w0 ) ?_
 rintro _ w1 ⟨rfl, hb2⟩
 refine ⟨_, rfl, ?_⟩
 replace hk := thenB hk hb2
 refine w_mv (ev (.tuple #[.int .i64 0, .int .i64 0, .int .i64 11]) rfl rfl) ?_
 refine w_val (y_ext (v := .int .i64 0) (ev (.tuple #[.int .i64 0, .int .i64 0, .int .i64 11]) rfl rfl) rfl) ?_
 refine w_val (y_ext (v := .int .i64 0) (ev (.tuple #[.int .i64 0, .int .i64 0, .int .i64 11]) rfl rfl) rfl) ?_
 refine w_val (y_ext (v := .int .i64 11) (ev (.tuple #[.int .i64 0, .int .i64 0, .int .i64 11]) rfl rfl) rfl) ?_
 refine w_as (ev (.int .i64 0) rfl rfl) ?_
 refine w_as (ev (.int .i64 0) rfl rfl) ?_
 refine w_as (ev (.int .i64 11) rfl rfl) ?_
 refine nt ?_
 refine wp_seq ?_
 refine wp_block ?_
 refine sr ?_
 refine w_mv (ev (.int .i64 11) rfl rfl) ?_
 refine w_val (y_bin (ev (.int .i64 11) rfl rfl) (evc (.int .i64 0)) b_neq) ?_
 refine w_as (ev (.bool true) rfl rfl) ?_
 refine nt ?_
 refine c_tt (ev (.bool true) rfl rfl) ?_
 refine sr ?_
 refine w_mv (ev (.int .i64 11) rfl rfl) ?_
 refine w_as (evc (.string (str ([] : List (BitVec 8))))) ?_
 refine w_as (ev (.int .i64 11) rfl rfl) ?_
 refine nt ?_
 refine wp_ret ?_
 refine inb_r ?_
 refine then_r ?_
 refine fin_ret2 rfl (ev (.string (str ([] : List (BitVec 8)))) rfl rfl) (ev (.int .i64 11) rfl rfl) ?_
 exact ⟨rfl, hk⟩

set_option maxRecDepth 100000 in
set_option maxHeartbeats 1000000 in
theorem pbWrong_a (k : Int) (k1 : k ≠ 256) (k2 : k ≠ 384) (k3 : k ≠ 512) (pw salt : List (BitVec 8)) (r l : Int) (w0 : World) : Calls Tryd.prog 38 #[.int .i64 k, .string (str salt), .int .i64 r, .int .i64 l] w0 fun e w' => e = .returned (.int .i64 11) ∧ Below w0.heap.size w0 w' := by
 refine enter (n := 31) Tryd.func38 rfl rfl rfl ?_
 have hk : Below w0.heap.size w0 w0 := Below.refl _ _
 refine sr ?_
 refine w_as (evc (.int .i64 0)) ?_
 refine nt ?_
 refine wp_seq ?_
 refine wp_block ?_
 refine sr ?_
 refine w_mv (ev (.int .i64 k) rfl rfl) ?_
 refine w_call (Tryd.func21) (by kernel_rfl) rfl (m1 (ev (.int .i64 k) rfl rfl)) (known_no k k1 k2 k3  w0 ) ?_
 rintro _ w1 ⟨rfl, hb2⟩
 refine ⟨_, rfl, ?_⟩
 replace hk := thenB hk hb2
 refine w_val (y_not (ev (.bool false) rfl rfl)) ?_
 refine w_as (ev (.bool true) rfl rfl) ?_
 refine nt ?_
 refine c_tt (ev (.bool true) rfl rfl) ?_
 refine sr ?_
 refine w_as (evc (.int .i64 11)) ?_
 refine nt ?_
 refine wp_ret ?_
 refine inb_r ?_
 refine then_r ?_
 refine fin_ret1 rfl (ev (.int .i64 11) rfl rfl) ?_
 exact ⟨rfl, hk⟩

set_option maxRecDepth 100000 in
set_option maxHeartbeats 1000000 in
theorem pbKey_b (kind : Nat) (hkd : Sha.Known kind) (pw salt : List (BitVec 8)) (r l : Int) (h : r < 1 ∨ l < 1 ∨ 256 < l) (w0 : World) : Calls Tryd.prog 36 #[.int .i64 ((kind : Nat) : Int), .string (str pw), .string (str salt), .int .i64 r, .int .i64 l] w0 fun e w' => e = .returned (.tuple #[.string (str ([] : List (BitVec 8))), .int .i64 2]) ∧ Below w0.heap.size w0 w' := by
 refine enter (n := 72) Tryd.func36 rfl rfl rfl ?_
 have hk : Below w0.heap.size w0 w0 := Below.refl _ _
 refine sr ?_
 refine w_as (evc (.string (str ([] : List (BitVec 8))))) ?_
 refine w_as (evc (.int .i64 0)) ?_
 refine nt ?_
 refine sr ?_
 refine w_mv (ev (.int .i64 ((kind : Nat) : Int)) rfl rfl) ?_
 refine w_call (Tryd.func19) (by kernel_rfl) rfl (m1 (ev (.int .i64 ((kind : Nat) : Int)) rfl rfl)) (size_l kind  w0 hkd) ?_
 rintro _ w1 ⟨rfl, hb2⟩
 refine ⟨_, rfl, ?_⟩
 replace hk := thenB hk hb2
 refine w_mv (ev (.tuple #[.int .i64 ((Sha.ol kind : Nat) : Int), .int .i64 ((Sha.bs kind : Nat) : Int), .int .i64 0]) rfl rfl) ?_
 refine w_val (y_ext (v := .int .i64 ((Sha.ol kind : Nat) : Int)) (ev (.tuple #[.int .i64 ((Sha.ol kind : Nat) : Int), .int .i64 ((Sha.bs kind : Nat) : Int), .int .i64 0]) rfl rfl) rfl) ?_
 refine w_val (y_ext (v := .int .i64 ((Sha.bs kind : Nat) : Int)) (ev (.tuple #[.int .i64 ((Sha.ol kind : Nat) : Int), .int .i64 ((Sha.bs kind : Nat) : Int), .int .i64 0]) rfl rfl) rfl) ?_
 refine w_val (y_ext (v := .int .i64 0) (ev (.tuple #[.int .i64 ((Sha.ol kind : Nat) : Int), .int .i64 ((Sha.bs kind : Nat) : Int), .int .i64 0]) rfl rfl) rfl) ?_
 refine w_as (ev (.int .i64 ((Sha.ol kind : Nat) : Int)) rfl rfl) ?_
 refine w_as (ev (.int .i64 ((Sha.bs kind : Nat) : Int)) rfl rfl) ?_
 refine w_as (ev (.int .i64 0) rfl rfl) ?_
 refine nt ?_
 refine wp_seq ?_
 refine wp_block ?_
 refine sr ?_
 refine w_mv (ev (.int .i64 0) rfl rfl) ?_
 refine w_val (y_bin (ev (.int .i64 0) rfl rfl) (evc (.int .i64 0)) b_neq) ?_
 refine w_as (ev (.bool false) rfl rfl) ?_
 refine nt ?_
 refine c_ff (ev (.bool false) rfl rfl) ?_
 refine sr ?_
 refine w_mv (ev (.int .i64 r) rfl rfl) ?_
 refine w_val (y_bin (ev (.int .i64 r) rfl rfl) (evc (.int .i64 1)) b_lss) ?_
 refine w_mv (ev (.bool (decide (r < 1))) rfl rfl) ?_
 by_cases hc3 : r < 1
 ·skip
  first | with_reducible refine w_skip ?_ ?_ | refine w_skip ?_ ?_
  · exact want_no (j := 2) rfl rfl (ev (.bool true) (Eq.trans (b := .bool (decide (r < 1))) rfl (by rw [decide_eq_true hc3])) rfl) rfl
  first | with_reducible refine w_skip ?_ ?_ | refine w_skip ?_ ?_
  · exact want_no (j := 2) rfl rfl (ev (.bool true) (Eq.trans (b := .bool (decide (r < 1))) rfl (by rw [decide_eq_true hc3])) rfl) rfl
  refine w_val (y_pick_t (ev (.bool true) (Eq.trans (b := .bool (decide (r < 1))) rfl (by rw [decide_eq_true hc3])) rfl) (evc (.bool true))) ?_
  refine w_mv (ev (.bool true) rfl rfl) ?_
  first | with_reducible refine w_skip ?_ ?_ | refine w_skip ?_ ?_
  · exact want_no (j := 6) rfl rfl (ev (.bool true) rfl rfl) rfl
  first | with_reducible refine w_skip ?_ ?_ | refine w_skip ?_ ?_
  · exact want_no (j := 6) rfl rfl (ev (.bool true) rfl rfl) rfl
  refine w_val (y_pick_t (ev (.bool true) rfl rfl) (evc (.bool true))) ?_
  refine w_as (ev (.bool true) rfl rfl) ?_
  refine nt ?_
  refine c_tt (ev (.bool true) rfl rfl) ?_
  refine sr ?_
  refine w_as (evc (.string (str ([] : List (BitVec 8))))) ?_
  refine w_as (evc (.int .i64 2)) ?_
  refine nt ?_
  refine wp_ret ?_
  refine inb_r ?_
  refine then_r ?_
  refine fin_ret2 rfl (ev (.string (str ([] : List (BitVec 8)))) rfl rfl) (ev (.int .i64 2) rfl rfl) ?_
  exact ⟨rfl, hk⟩
 ·skip
  refine w_val_g (v := .int .i64 l) (want_yes (j := 2) rfl rfl (ev (.bool false) (Eq.trans (b := .bool (decide (r < 1))) rfl (by rw [decide_eq_false hc3])) rfl) rfl) (y_mv (ev (.int .i64 l) rfl rfl)) ?_
  refine w_val_g (want_yes (j := 2) rfl rfl (ev (.bool false) (Eq.trans (b := .bool (decide (r < 1))) rfl (by rw [decide_eq_false hc3])) rfl) rfl) (y_bin (ev (.int .i64 l) rfl rfl) (evc (.int .i64 1)) b_lss) ?_
  refine w_val (y_pick_f (ev (.bool false) (Eq.trans (b := .bool (decide (r < 1))) rfl (by rw [decide_eq_false hc3])) rfl) (ev (.bool (decide (l < 1))) rfl rfl)) ?_
  refine w_mv (ev (.bool (decide (l < 1))) rfl rfl) ?_
  by_cases hc4 : l < 1
  ·skip
   first | with_reducible refine w_skip ?_ ?_ | refine w_skip ?_ ?_
   · exact want_no (j := 6) rfl rfl (ev (.bool true) (Eq.trans (b := .bool (decide (l < 1))) rfl (by rw [decide_eq_true hc4])) rfl) rfl
   first | with_reducible refine w_skip ?_ ?_ | refine w_skip ?_ ?_
   · exact want_no (j := 6) rfl rfl (ev (.bool true) (Eq.trans (b := .bool (decide (l < 1))) rfl (by rw [decide_eq_true hc4])) rfl) rfl
   refine w_val (y_pick_t (ev (.bool true) (Eq.trans (b := .bool (decide (l < 1))) rfl (by rw [decide_eq_true hc4])) rfl) (evc (.bool true))) ?_
   refine w_as (ev (.bool true) rfl rfl) ?_
   refine nt ?_
   refine c_tt (ev (.bool true) rfl rfl) ?_
   refine sr ?_
   refine w_as (evc (.string (str ([] : List (BitVec 8))))) ?_
   refine w_as (evc (.int .i64 2)) ?_
   refine nt ?_
   refine wp_ret ?_
   refine inb_r ?_
   refine then_r ?_
   refine fin_ret2 rfl (ev (.string (str ([] : List (BitVec 8)))) rfl rfl) (ev (.int .i64 2) rfl rfl) ?_
   exact ⟨rfl, hk⟩
  ·skip
   refine w_val_g (v := .int .i64 l) (want_yes (j := 6) rfl rfl (ev (.bool false) (Eq.trans (b := .bool (decide (l < 1))) rfl (by rw [decide_eq_false hc4])) rfl) rfl) (y_mv (ev (.int .i64 l) rfl rfl)) ?_
   refine w_val_g (want_yes (j := 6) rfl rfl (ev (.bool false) (Eq.trans (b := .bool (decide (l < 1))) rfl (by rw [decide_eq_false hc4])) rfl) rfl) (y_bin (ev (.int .i64 l) rfl rfl) (evc (.int .i64 256)) b_gtr) ?_
   refine w_val (y_pick_f (ev (.bool false) (Eq.trans (b := .bool (decide (l < 1))) rfl (by rw [decide_eq_false hc4])) rfl) (ev (.bool (decide (256 < l))) rfl rfl)) ?_
   refine w_as (ev (.bool (decide (256 < l))) rfl rfl) ?_
   refine nt ?_
   refine c_if (p := 256 < l) (ev (.bool (decide (256 < l))) rfl rfl) (fun hc5 => ?_) (fun hc5 => ?_)
   ·skip
    refine sr ?_
    refine w_as (evc (.string (str ([] : List (BitVec 8))))) ?_
    refine w_as (evc (.int .i64 2)) ?_
    refine nt ?_
    refine wp_ret ?_
    refine inb_r ?_
    refine then_r ?_
    refine fin_ret2 rfl (ev (.string (str ([] : List (BitVec 8)))) rfl rfl) (ev (.int .i64 2) rfl rfl) ?_
    exact ⟨rfl, hk⟩
   ·skip
    refine wp_seq ?_
    exfalso; omega

set_option maxRecDepth 100000 in
set_option maxHeartbeats 1000000 in
theorem pbWrong_b (kind : Nat) (hkd : Sha.Known kind) (pw salt : List (BitVec 8)) (r l : Int) (h : r < 1 ∨ l < 1 ∨ 256 < l) (w0 : World) : Calls Tryd.prog 38 #[.int .i64 ((kind : Nat) : Int), .string (str salt), .int .i64 r, .int .i64 l] w0 fun e w' => e = .returned (.int .i64 2) ∧ Below w0.heap.size w0 w' := by
 refine enter (n := 31) Tryd.func38 rfl rfl rfl ?_
 have hk : Below w0.heap.size w0 w0 := Below.refl _ _
 refine sr ?_
 refine w_as (evc (.int .i64 0)) ?_
 refine nt ?_
 refine wp_seq ?_
 refine wp_block ?_
 refine sr ?_
 refine w_mv (ev (.int .i64 ((kind : Nat) : Int)) rfl rfl) ?_
 refine w_call (Tryd.func21) (by kernel_rfl) rfl (m1 (ev (.int .i64 ((kind : Nat) : Int)) rfl rfl)) (known_l kind  w0 hkd) ?_
 rintro _ w1 ⟨rfl, hb2⟩
 refine ⟨_, rfl, ?_⟩
 replace hk := thenB hk hb2
 refine w_val (y_not (ev (.bool true) rfl rfl)) ?_
 refine w_as (ev (.bool false) rfl rfl) ?_
 refine nt ?_
 refine c_ff (ev (.bool false) rfl rfl) ?_
 refine sr ?_
 refine w_mv (ev (.int .i64 r) rfl rfl) ?_
 refine w_val (y_bin (ev (.int .i64 r) rfl rfl) (evc (.int .i64 1)) b_lss) ?_
 refine w_mv (ev (.bool (decide (r < 1))) rfl rfl) ?_
 by_cases hc3 : r < 1
 ·skip
  first | with_reducible refine w_skip ?_ ?_ | refine w_skip ?_ ?_
  · exact want_no (j := 2) rfl rfl (ev (.bool true) (Eq.trans (b := .bool (decide (r < 1))) rfl (by rw [decide_eq_true hc3])) rfl) rfl
  first | with_reducible refine w_skip ?_ ?_ | refine w_skip ?_ ?_
  · exact want_no (j := 2) rfl rfl (ev (.bool true) (Eq.trans (b := .bool (decide (r < 1))) rfl (by rw [decide_eq_true hc3])) rfl) rfl
  refine w_val (y_pick_t (ev (.bool true) (Eq.trans (b := .bool (decide (r < 1))) rfl (by rw [decide_eq_true hc3])) rfl) (evc (.bool true))) ?_
  refine w_mv (ev (.bool true) rfl rfl) ?_
  first | with_reducible refine w_skip ?_ ?_ | refine w_skip ?_ ?_
  · exact want_no (j := 6) rfl rfl (ev (.bool true) rfl rfl) rfl
  first | with_reducible refine w_skip ?_ ?_ | refine w_skip ?_ ?_
  · exact want_no (j := 6) rfl rfl (ev (.bool true) rfl rfl) rfl
  refine w_val (y_pick_t (ev (.bool true) rfl rfl) (evc (.bool true))) ?_
  refine w_as (ev (.bool true) rfl rfl) ?_
  refine nt ?_
  refine c_tt (ev (.bool true) rfl rfl) ?_
  refine sr ?_
  refine w_as (evc (.int .i64 2)) ?_
  refine nt ?_
  refine wp_ret ?_
  refine inb_r ?_
  refine then_r ?_
  refine fin_ret1 rfl (ev (.int .i64 2) rfl rfl) ?_
  exact ⟨rfl, hk⟩
 ·skip
  refine w_val_g (v := .int .i64 l) (want_yes (j := 2) rfl rfl (ev (.bool false) (Eq.trans (b := .bool (decide (r < 1))) rfl (by rw [decide_eq_false hc3])) rfl) rfl) (y_mv (ev (.int .i64 l) rfl rfl)) ?_
  refine w_val_g (want_yes (j := 2) rfl rfl (ev (.bool false) (Eq.trans (b := .bool (decide (r < 1))) rfl (by rw [decide_eq_false hc3])) rfl) rfl) (y_bin (ev (.int .i64 l) rfl rfl) (evc (.int .i64 1)) b_lss) ?_
  refine w_val (y_pick_f (ev (.bool false) (Eq.trans (b := .bool (decide (r < 1))) rfl (by rw [decide_eq_false hc3])) rfl) (ev (.bool (decide (l < 1))) rfl rfl)) ?_
  refine w_mv (ev (.bool (decide (l < 1))) rfl rfl) ?_
  by_cases hc4 : l < 1
  ·skip
   first | with_reducible refine w_skip ?_ ?_ | refine w_skip ?_ ?_
   · exact want_no (j := 6) rfl rfl (ev (.bool true) (Eq.trans (b := .bool (decide (l < 1))) rfl (by rw [decide_eq_true hc4])) rfl) rfl
   first | with_reducible refine w_skip ?_ ?_ | refine w_skip ?_ ?_
   · exact want_no (j := 6) rfl rfl (ev (.bool true) (Eq.trans (b := .bool (decide (l < 1))) rfl (by rw [decide_eq_true hc4])) rfl) rfl
   refine w_val (y_pick_t (ev (.bool true) (Eq.trans (b := .bool (decide (l < 1))) rfl (by rw [decide_eq_true hc4])) rfl) (evc (.bool true))) ?_
   refine w_as (ev (.bool true) rfl rfl) ?_
   refine nt ?_
   refine c_tt (ev (.bool true) rfl rfl) ?_
   refine sr ?_
   refine w_as (evc (.int .i64 2)) ?_
   refine nt ?_
   refine wp_ret ?_
   refine inb_r ?_
   refine then_r ?_
   refine fin_ret1 rfl (ev (.int .i64 2) rfl rfl) ?_
   exact ⟨rfl, hk⟩
  ·skip
   refine w_val_g (v := .int .i64 l) (want_yes (j := 6) rfl rfl (ev (.bool false) (Eq.trans (b := .bool (decide (l < 1))) rfl (by rw [decide_eq_false hc4])) rfl) rfl) (y_mv (ev (.int .i64 l) rfl rfl)) ?_
   refine w_val_g (want_yes (j := 6) rfl rfl (ev (.bool false) (Eq.trans (b := .bool (decide (l < 1))) rfl (by rw [decide_eq_false hc4])) rfl) rfl) (y_bin (ev (.int .i64 l) rfl rfl) (evc (.int .i64 256)) b_gtr) ?_
   refine w_val (y_pick_f (ev (.bool false) (Eq.trans (b := .bool (decide (l < 1))) rfl (by rw [decide_eq_false hc4])) rfl) (ev (.bool (decide (256 < l))) rfl rfl)) ?_
   refine w_as (ev (.bool (decide (256 < l))) rfl rfl) ?_
   refine nt ?_
   refine c_if (p := 256 < l) (ev (.bool (decide (256 < l))) rfl rfl) (fun hc5 => ?_) (fun hc5 => ?_)
   ·skip
    refine sr ?_
    refine w_as (evc (.int .i64 2)) ?_
    refine nt ?_
    refine wp_ret ?_
    refine inb_r ?_
    refine then_r ?_
    refine fin_ret1 rfl (ev (.int .i64 2) rfl rfl) ?_
    exact ⟨rfl, hk⟩
   ·skip
    refine wp_seq ?_
    exfalso; omega

set_option maxRecDepth 100000 in
set_option maxHeartbeats 1000000 in
theorem pbKey_c (kind : Nat) (hkd : Sha.Known kind) (pw salt : List (BitVec 8)) (r l : Int) (h : ¬ (r < 1 ∨ l < 1 ∨ 256 < l)) (h2 : 4096 < r) (w0 : World) : Calls Tryd.prog 36 #[.int .i64 ((kind : Nat) : Int), .string (str pw), .string (str salt), .int .i64 r, .int .i64 l] w0 fun e w' => e = .returned (.tuple #[.string (str ([] : List (BitVec 8))), .int .i64 14]) ∧ Below w0.heap.size w0 w' := by
 refine enter (n := 72) Tryd.func36 rfl rfl rfl ?_
 have hk : Below w0.heap.size w0 w0 := Below.refl _ _
 refine sr ?_
 refine w_as (evc (.string (str ([] : List (BitVec 8))))) ?_
 refine w_as (evc (.int .i64 0)) ?_
 refine nt ?_
 refine sr ?_
 refine w_mv (ev (.int .i64 ((kind : Nat) : Int)) rfl rfl) ?_
 refine w_call (Tryd.func19) (by kernel_rfl) rfl (m1 (ev (.int .i64 ((kind : Nat) : Int)) rfl rfl)) (size_l kind  w0 hkd) ?_
 rintro _ w1 ⟨rfl, hb2⟩
 refine ⟨_, rfl, ?_⟩
 replace hk := thenB hk hb2
 refine w_mv (ev (.tuple #[.int .i64 ((Sha.ol kind : Nat) : Int), .int .i64 ((Sha.bs kind : Nat) : Int), .int .i64 0]) rfl rfl) ?_
 refine w_val (y_ext (v := .int .i64 ((Sha.ol kind : Nat) : Int)) (ev (.tuple #[.int .i64 ((Sha.ol kind : Nat) : Int), .int .i64 ((Sha.bs kind : Nat) : Int), .int .i64 0]) rfl rfl) rfl) ?_
 refine w_val (y_ext (v := .int .i64 ((Sha.bs kind : Nat) : Int)) (ev (.tuple #[.int .i64 ((Sha.ol kind : Nat) : Int), .int .i64 ((Sha.bs kind : Nat) : Int), .int .i64 0]) rfl rfl) rfl) ?_
 refine w_val (y_ext (v := .int .i64 0) (ev (.tuple #[.int .i64 ((Sha.ol kind : Nat) : Int), .int .i64 ((Sha.bs kind : Nat) : Int), .int .i64 0]) rfl rfl) rfl) ?_
 refine w_as (ev (.int .i64 ((Sha.ol kind : Nat) : Int)) rfl rfl) ?_
 refine w_as (ev (.int .i64 ((Sha.bs kind : Nat) : Int)) rfl rfl) ?_
 refine w_as (ev (.int .i64 0) rfl rfl) ?_
 refine nt ?_
 refine wp_seq ?_
 refine wp_block ?_
 refine sr ?_
 refine w_mv (ev (.int .i64 0) rfl rfl) ?_
 refine w_val (y_bin (ev (.int .i64 0) rfl rfl) (evc (.int .i64 0)) b_neq) ?_
 refine w_as (ev (.bool false) rfl rfl) ?_
 refine nt ?_
 refine c_ff (ev (.bool false) rfl rfl) ?_
 refine sr ?_
 refine w_mv (ev (.int .i64 r) rfl rfl) ?_
 refine w_val (y_bin (ev (.int .i64 r) rfl rfl) (evc (.int .i64 1)) b_lss) ?_
 refine w_mv (ev (.bool (decide (r < 1))) rfl rfl) ?_
 have hc3 : ¬ (r < 1) := by omega
 refine w_val_g (v := .int .i64 l) (want_yes (j := 2) rfl rfl (ev (.bool false) (Eq.trans (b := .bool (decide (r < 1))) rfl (by rw [decide_eq_false hc3])) rfl) rfl) (y_mv (ev (.int .i64 l) rfl rfl)) ?_
 refine w_val_g (want_yes (j := 2) rfl rfl (ev (.bool false) (Eq.trans (b := .bool (decide (r < 1))) rfl (by rw [decide_eq_false hc3])) rfl) rfl) (y_bin (ev (.int .i64 l) rfl rfl) (evc (.int .i64 1)) b_lss) ?_
 refine w_val (y_pick_f (ev (.bool false) (Eq.trans (b := .bool (decide (r < 1))) rfl (by rw [decide_eq_false hc3])) rfl) (ev (.bool (decide (l < 1))) rfl rfl)) ?_
 refine w_mv (ev (.bool (decide (l < 1))) rfl rfl) ?_
 have hc4 : ¬ (l < 1) := by omega
 refine w_val_g (v := .int .i64 l) (want_yes (j := 6) rfl rfl (ev (.bool false) (Eq.trans (b := .bool (decide (l < 1))) rfl (by rw [decide_eq_false hc4])) rfl) rfl) (y_mv (ev (.int .i64 l) rfl rfl)) ?_
 refine w_val_g (want_yes (j := 6) rfl rfl (ev (.bool false) (Eq.trans (b := .bool (decide (l < 1))) rfl (by rw [decide_eq_false hc4])) rfl) rfl) (y_bin (ev (.int .i64 l) rfl rfl) (evc (.int .i64 256)) b_gtr) ?_
 refine w_val (y_pick_f (ev (.bool false) (Eq.trans (b := .bool (decide (l < 1))) rfl (by rw [decide_eq_false hc4])) rfl) (ev (.bool (decide (256 < l))) rfl rfl)) ?_
 refine w_as (ev (.bool (decide (256 < l))) rfl rfl) ?_
 refine nt ?_
 have hc5 : ¬ (256 < l) := by omega
 refine c_f (p := 256 < l) (ev (.bool (decide (256 < l))) rfl rfl) hc5 ?_
 refine sr ?_
 refine w_mv (ev (.int .i64 r) rfl rfl) ?_
 refine w_val (y_bin (ev (.int .i64 r) rfl rfl) (evc (.int .i64 4096)) b_gtr) ?_
 refine w_as (ev (.bool (decide (4096 < r))) rfl rfl) ?_
 refine nt ?_
 have hc6 : 4096 < r := by exact h2
 refine c_t (p := 4096 < r) (ev (.bool (decide (4096 < r))) rfl rfl) hc6 ?_
 refine sr ?_
 refine w_as (evc (.string (str ([] : List (BitVec 8))))) ?_
 refine w_as (evc (.int .i64 14)) ?_
 refine nt ?_
 refine wp_ret ?_
 refine inb_r ?_
 refine then_r ?_
 refine fin_ret2 rfl (ev (.string (str ([] : List (BitVec 8)))) rfl rfl) (ev (.int .i64 14) rfl rfl) ?_
 exact ⟨rfl, hk⟩

set_option maxRecDepth 100000 in
set_option maxHeartbeats 1000000 in
theorem pbWrong_c (kind : Nat) (hkd : Sha.Known kind) (pw salt : List (BitVec 8)) (r l : Int) (h : ¬ (r < 1 ∨ l < 1 ∨ 256 < l)) (h2 : 4096 < r) (w0 : World) : Calls Tryd.prog 38 #[.int .i64 ((kind : Nat) : Int), .string (str salt), .int .i64 r, .int .i64 l] w0 fun e w' => e = .returned (.int .i64 14) ∧ Below w0.heap.size w0 w' := by
 refine enter (n := 31) Tryd.func38 rfl rfl rfl ?_
 have hk : Below w0.heap.size w0 w0 := Below.refl _ _
 refine sr ?_
 refine w_as (evc (.int .i64 0)) ?_
 refine nt ?_
 refine wp_seq ?_
 refine wp_block ?_
 refine sr ?_
 refine w_mv (ev (.int .i64 ((kind : Nat) : Int)) rfl rfl) ?_
 refine w_call (Tryd.func21) (by kernel_rfl) rfl (m1 (ev (.int .i64 ((kind : Nat) : Int)) rfl rfl)) (known_l kind  w0 hkd) ?_
 rintro _ w1 ⟨rfl, hb2⟩
 refine ⟨_, rfl, ?_⟩
 replace hk := thenB hk hb2
 refine w_val (y_not (ev (.bool true) rfl rfl)) ?_
 refine w_as (ev (.bool false) rfl rfl) ?_
 refine nt ?_
 refine c_ff (ev (.bool false) rfl rfl) ?_
 refine sr ?_
 refine w_mv (ev (.int .i64 r) rfl rfl) ?_
 refine w_val (y_bin (ev (.int .i64 r) rfl rfl) (evc (.int .i64 1)) b_lss) ?_
 refine w_mv (ev (.bool (decide (r < 1))) rfl rfl) ?_
 have hc3 : ¬ (r < 1) := by omega
 refine w_val_g (v := .int .i64 l) (want_yes (j := 2) rfl rfl (ev (.bool false) (Eq.trans (b := .bool (decide (r < 1))) rfl (by rw [decide_eq_false hc3])) rfl) rfl) (y_mv (ev (.int .i64 l) rfl rfl)) ?_
 refine w_val_g (want_yes (j := 2) rfl rfl (ev (.bool false) (Eq.trans (b := .bool (decide (r < 1))) rfl (by rw [decide_eq_false hc3])) rfl) rfl) (y_bin (ev (.int .i64 l) rfl rfl) (evc (.int .i64 1)) b_lss) ?_
 refine w_val (y_pick_f (ev (.bool false) (Eq.trans (b := .bool (decide (r < 1))) rfl (by rw [decide_eq_false hc3])) rfl) (ev (.bool (decide (l < 1))) rfl rfl)) ?_
 refine w_mv (ev (.bool (decide (l < 1))) rfl rfl) ?_
 have hc4 : ¬ (l < 1) := by omega
 refine w_val_g (v := .int .i64 l) (want_yes (j := 6) rfl rfl (ev (.bool false) (Eq.trans (b := .bool (decide (l < 1))) rfl (by rw [decide_eq_false hc4])) rfl) rfl) (y_mv (ev (.int .i64 l) rfl rfl)) ?_
 refine w_val_g (want_yes (j := 6) rfl rfl (ev (.bool false) (Eq.trans (b := .bool (decide (l < 1))) rfl (by rw [decide_eq_false hc4])) rfl) rfl) (y_bin (ev (.int .i64 l) rfl rfl) (evc (.int .i64 256)) b_gtr) ?_
 refine w_val (y_pick_f (ev (.bool false) (Eq.trans (b := .bool (decide (l < 1))) rfl (by rw [decide_eq_false hc4])) rfl) (ev (.bool (decide (256 < l))) rfl rfl)) ?_
 refine w_as (ev (.bool (decide (256 < l))) rfl rfl) ?_
 refine nt ?_
 have hc5 : ¬ (256 < l) := by omega
 refine c_f (p := 256 < l) (ev (.bool (decide (256 < l))) rfl rfl) hc5 ?_
 refine sr ?_
 refine w_mv (ev (.int .i64 r) rfl rfl) ?_
 refine w_val (y_bin (ev (.int .i64 r) rfl rfl) (evc (.int .i64 4096)) b_gtr) ?_
 refine w_as (ev (.bool (decide (4096 < r))) rfl rfl) ?_
 refine nt ?_
 have hc6 : 4096 < r := by exact h2
 refine c_t (p := 4096 < r) (ev (.bool (decide (4096 < r))) rfl rfl) hc6 ?_
 refine sr ?_
 refine w_as (evc (.int .i64 14)) ?_
 refine nt ?_
 refine wp_ret ?_
 refine inb_r ?_
 refine then_r ?_
 refine fin_ret1 rfl (ev (.int .i64 14) rfl rfl) ?_
 exact ⟨rfl, hk⟩

set_option maxRecDepth 100000 in
set_option maxHeartbeats 1000000 in
theorem pbKey_d (kind : Nat) (hkd : Sha.Known kind) (pw salt : List (BitVec 8)) (r l : Int) (h : ¬ (r < 1 ∨ l < 1 ∨ 256 < l)) (h2 : ¬ 4096 < r) (h3 : 1024 < salt.length) (w0 : World) : Calls Tryd.prog 36 #[.int .i64 ((kind : Nat) : Int), .string (str pw), .string (str salt), .int .i64 r, .int .i64 l] w0 fun e w' => e = .returned (.tuple #[.string (str ([] : List (BitVec 8))), .int .i64 4]) ∧ Below w0.heap.size w0 w' := by
 refine enter (n := 72) Tryd.func36 rfl rfl rfl ?_
 have hk : Below w0.heap.size w0 w0 := Below.refl _ _
 refine sr ?_
 refine w_as (evc (.string (str ([] : List (BitVec 8))))) ?_
 refine w_as (evc (.int .i64 0)) ?_
 refine nt ?_
 refine sr ?_
 refine w_mv (ev (.int .i64 ((kind : Nat) : Int)) rfl rfl) ?_
 refine w_call (Tryd.func19) (by kernel_rfl) rfl (m1 (ev (.int .i64 ((kind : Nat) : Int)) rfl rfl)) (size_l kind  w0 hkd) ?_
 rintro _ w1 ⟨rfl, hb2⟩
 refine ⟨_, rfl, ?_⟩
 replace hk := thenB hk hb2
 refine w_mv (ev (.tuple #[.int .i64 ((Sha.ol kind : Nat) : Int), .int .i64 ((Sha.bs kind : Nat) : Int), .int .i64 0]) rfl rfl) ?_
 refine w_val (y_ext (v := .int .i64 ((Sha.ol kind : Nat) : Int)) (ev (.tuple #[.int .i64 ((Sha.ol kind : Nat) : Int), .int .i64 ((Sha.bs kind : Nat) : Int), .int .i64 0]) rfl rfl) rfl) ?_
 refine w_val (y_ext (v := .int .i64 ((Sha.bs kind : Nat) : Int)) (ev (.tuple #[.int .i64 ((Sha.ol kind : Nat) : Int), .int .i64 ((Sha.bs kind : Nat) : Int), .int .i64 0]) rfl rfl) rfl) ?_
 refine w_val (y_ext (v := .int .i64 0) (ev (.tuple #[.int .i64 ((Sha.ol kind : Nat) : Int), .int .i64 ((Sha.bs kind : Nat) : Int), .int .i64 0]) rfl rfl) rfl) ?_
 refine w_as (ev (.int .i64 ((Sha.ol kind : Nat) : Int)) rfl rfl) ?_
 refine w_as (ev (.int .i64 ((Sha.bs kind : Nat) : Int)) rfl rfl) ?_
 refine w_as (ev (.int .i64 0) rfl rfl) ?_
 refine nt ?_
 refine wp_seq ?_
 refine wp_block ?_
 refine sr ?_
 refine w_mv (ev (.int .i64 0) rfl rfl) ?_
 refine w_val (y_bin (ev (.int .i64 0) rfl rfl) (evc (.int .i64 0)) b_neq) ?_
 refine w_as (ev (.bool false) rfl rfl) ?_
 refine nt ?_
 refine c_ff (ev (.bool false) rfl rfl) ?_
 refine sr ?_
 refine w_mv (ev (.int .i64 r) rfl rfl) ?_
 refine w_val (y_bin (ev (.int .i64 r) rfl rfl) (evc (.int .i64 1)) b_lss) ?_
 refine w_mv (ev (.bool (decide (r < 1))) rfl rfl) ?_
 have hc3 : ¬ (r < 1) := by omega
 refine w_val_g (v := .int .i64 l) (want_yes (j := 2) rfl rfl (ev (.bool false) (Eq.trans (b := .bool (decide (r < 1))) rfl (by rw [decide_eq_false hc3])) rfl) rfl) (y_mv (ev (.int .i64 l) rfl rfl)) ?_
 refine w_val_g (want_yes (j := 2) rfl rfl (ev (.bool false) (Eq.trans (b := .bool (decide (r < 1))) rfl (by rw [decide_eq_false hc3])) rfl) rfl) (y_bin (ev (.int .i64 l) rfl rfl) (evc (.int .i64 1)) b_lss) ?_
 refine w_val (y_pick_f (ev (.bool false) (Eq.trans (b := .bool (decide (r < 1))) rfl (by rw [decide_eq_false hc3])) rfl) (ev (.bool (decide (l < 1))) rfl rfl)) ?_
 refine w_mv (ev (.bool (decide (l < 1))) rfl rfl) ?_
 have hc4 : ¬ (l < 1) := by omega
 refine w_val_g (v := .int .i64 l) (want_yes (j := 6) rfl rfl (ev (.bool false) (Eq.trans (b := .bool (decide (l < 1))) rfl (by rw [decide_eq_false hc4])) rfl) rfl) (y_mv (ev (.int .i64 l) rfl rfl)) ?_
 refine w_val_g (want_yes (j := 6) rfl rfl (ev (.bool false) (Eq.trans (b := .bool (decide (l < 1))) rfl (by rw [decide_eq_false hc4])) rfl) rfl) (y_bin (ev (.int .i64 l) rfl rfl) (evc (.int .i64 256)) b_gtr) ?_
 refine w_val (y_pick_f (ev (.bool false) (Eq.trans (b := .bool (decide (l < 1))) rfl (by rw [decide_eq_false hc4])) rfl) (ev (.bool (decide (256 < l))) rfl rfl)) ?_
 refine w_as (ev (.bool (decide (256 < l))) rfl rfl) ?_
 refine nt ?_
 have hc5 : ¬ (256 < l) := by omega
 refine c_f (p := 256 < l) (ev (.bool (decide (256 < l))) rfl rfl) hc5 ?_
 refine sr ?_
 refine w_mv (ev (.int .i64 r) rfl rfl) ?_
 refine w_val (y_bin (ev (.int .i64 r) rfl rfl) (evc (.int .i64 4096)) b_gtr) ?_
 refine w_as (ev (.bool (decide (4096 < r))) rfl rfl) ?_
 refine nt ?_
 have hc6 : ¬ (4096 < r) := by exact h2
 refine c_f (p := 4096 < r) (ev (.bool (decide (4096 < r))) rfl rfl) hc6 ?_
 refine sr ?_
 refine w_mv (ev (.string (str salt)) rfl rfl) ?_
 refine w_val (y_len (ev (.string (str salt)) rfl rfl) Tryd.underlying9) ?_
 refine w_val (y_bin (ev (.int .i64 ((salt.length : Nat) : Int)) rfl rfl) (evc (.int .i64 1024)) b_gtr) ?_
 refine w_as (ev (.bool (decide (1024 < ((salt.length : Nat) : Int)))) rfl rfl) ?_
 refine nt ?_
 have hc7 : 1024 < ((salt.length : Nat) : Int) := by omega
 refine c_t (p := 1024 < ((salt.length : Nat) : Int)) (ev (.bool (decide (1024 < ((salt.length : Nat) : Int)))) rfl rfl) hc7 ?_
 refine sr ?_
 refine w_as (evc (.string (str ([] : List (BitVec 8))))) ?_
 refine w_as (evc (.int .i64 4)) ?_
 refine nt ?_
 refine wp_ret ?_
 refine inb_r ?_
 refine then_r ?_
 refine fin_ret2 rfl (ev (.string (str ([] : List (BitVec 8)))) rfl rfl) (ev (.int .i64 4) rfl rfl) ?_
 exact ⟨rfl, hk⟩

set_option maxRecDepth 100000 in
set_option maxHeartbeats 1000000 in
theorem pbWrong_d (kind : Nat) (hkd : Sha.Known kind) (pw salt : List (BitVec 8)) (r l : Int) (h : ¬ (r < 1 ∨ l < 1 ∨ 256 < l)) (h2 : ¬ 4096 < r) (h3 : 1024 < salt.length) (w0 : World) : Calls Tryd.prog 38 #[.int .i64 ((kind : Nat) : Int), .string (str salt), .int .i64 r, .int .i64 l] w0 fun e w' => e = .returned (.int .i64 4) ∧ Below w0.heap.size w0 w' := by
 refine enter (n := 31) Tryd.func38 rfl rfl rfl ?_
 have hk : Below w0.heap.size w0 w0 := Below.refl _ _
 refine sr ?_
 refine w_as (evc (.int .i64 0)) ?_
 refine nt ?_
 refine wp_seq ?_
 refine wp_block ?_
 refine sr ?_
 refine w_mv (ev (.int .i64 ((kind : Nat) : Int)) rfl rfl) ?_
 refine w_call (Tryd.func21) (by kernel_rfl) rfl (m1 (ev (.int .i64 ((kind : Nat) : Int)) rfl rfl)) (known_l kind  w0 hkd) ?_
 rintro _ w1 ⟨rfl, hb2⟩
 refine ⟨_, rfl, ?_⟩
 replace hk := thenB hk hb2
 refine w_val (y_not (ev (.bool true) rfl rfl)) ?_
 refine w_as (ev (.bool false) rfl rfl) ?_
 refine nt ?_
 refine c_ff (ev (.bool false) rfl rfl) ?_
 refine sr ?_
 refine w_mv (ev (.int .i64 r) rfl rfl) ?_
 refine w_val (y_bin (ev (.int .i64 r) rfl rfl) (evc (.int .i64 1)) b_lss) ?_
 refine w_mv (ev (.bool (decide (r < 1))) rfl rfl) ?_
 have hc3 : ¬ (r < 1) := by omega
 refine w_val_g (v := .int .i64 l) (want_yes (j := 2) rfl rfl (ev (.bool false) (Eq.trans (b := .bool (decide (r < 1))) rfl (by rw [decide_eq_false hc3])) rfl) rfl) (y_mv (ev (.int .i64 l) rfl rfl)) ?_
 refine w_val_g (want_yes (j := 2) rfl rfl (ev (.bool false) (Eq.trans (b := .bool (decide (r < 1))) rfl (by rw [decide_eq_false hc3])) rfl) rfl) (y_bin (ev (.int .i64 l) rfl rfl) (evc (.int .i64 1)) b_lss) ?_
 refine w_val (y_pick_f (ev (.bool false) (Eq.trans (b := .bool (decide (r < 1))) rfl (by rw [decide_eq_false hc3])) rfl) (ev (.bool (decide (l < 1))) rfl rfl)) ?_
 refine w_mv (ev (.bool (decide (l < 1))) rfl rfl) ?_
 have hc4 : ¬ (l < 1) := by omega
 refine w_val_g (v := .int .i64 l) (want_yes (j := 6) rfl rfl (ev (.bool false) (Eq.trans (b := .bool (decide (l < 1))) rfl (by rw [decide_eq_false hc4])) rfl) rfl) (y_mv (ev (.int .i64 l) rfl rfl)) ?_
 refine w_val_g (want_yes (j := 6) rfl rfl (ev (.bool false) (Eq.trans (b := .bool (decide (l < 1))) rfl (by rw [decide_eq_false hc4])) rfl) rfl) (y_bin (ev (.int .i64 l) rfl rfl) (evc (.int .i64 256)) b_gtr) ?_
 refine w_val (y_pick_f (ev (.bool false) (Eq.trans (b := .bool (decide (l < 1))) rfl (by rw [decide_eq_false hc4])) rfl) (ev (.bool (decide (256 < l))) rfl rfl)) ?_
 refine w_as (ev (.bool (decide (256 < l))) rfl rfl) ?_
 refine nt ?_
 have hc5 : ¬ (256 < l) := by omega
 refine c_f (p := 256 < l) (ev (.bool (decide (256 < l))) rfl rfl) hc5 ?_
 refine sr ?_
 refine w_mv (ev (.int .i64 r) rfl rfl) ?_
 refine w_val (y_bin (ev (.int .i64 r) rfl rfl) (evc (.int .i64 4096)) b_gtr) ?_
 refine w_as (ev (.bool (decide (4096 < r))) rfl rfl) ?_
 refine nt ?_
 have hc6 : ¬ (4096 < r) := by exact h2
 refine c_f (p := 4096 < r) (ev (.bool (decide (4096 < r))) rfl rfl) hc6 ?_
 refine sr ?_
 refine w_mv (ev (.string (str salt)) rfl rfl) ?_
 refine w_val (y_len (ev (.string (str salt)) rfl rfl) Tryd.underlying9) ?_
 refine w_val (y_bin (ev (.int .i64 ((salt.length : Nat) : Int)) rfl rfl) (evc (.int .i64 1024)) b_gtr) ?_
 refine w_as (ev (.bool (decide (1024 < ((salt.length : Nat) : Int)))) rfl rfl) ?_
 refine nt ?_
 have hc7 : 1024 < ((salt.length : Nat) : Int) := by omega
 refine c_t (p := 1024 < ((salt.length : Nat) : Int)) (ev (.bool (decide (1024 < ((salt.length : Nat) : Int)))) rfl rfl) hc7 ?_
 refine sr ?_
 refine w_as (evc (.int .i64 4)) ?_
 refine nt ?_
 refine wp_ret ?_
 refine inb_r ?_
 refine then_r ?_
 refine fin_ret1 rfl (ev (.int .i64 4) rfl rfl) ?_
 exact ⟨rfl, hk⟩

set_option maxRecDepth 100000 in
set_option maxHeartbeats 1000000 in
theorem pbWrong_e (kind : Nat) (hkd : Sha.Known kind) (pw salt : List (BitVec 8)) (r l : Int) (h : ¬ (r < 1 ∨ l < 1 ∨ 256 < l)) (h2 : ¬ 4096 < r) (h3 : ¬ 1024 < salt.length) (w0 : World) : Calls Tryd.prog 38 #[.int .i64 ((kind : Nat) : Int), .string (str salt), .int .i64 r, .int .i64 l] w0 fun e w' => e = .returned (.int .i64 0) ∧ Below w0.heap.size w0 w' := by
 refine enter (n := 31) Tryd.func38 rfl rfl rfl ?_
 have hk : Below w0.heap.size w0 w0 := Below.refl _ _
 refine sr ?_
 refine w_as (evc (.int .i64 0)) ?_
 refine nt ?_
 refine wp_seq ?_
 refine wp_block ?_
 refine sr ?_
 refine w_mv (ev (.int .i64 ((kind : Nat) : Int)) rfl rfl) ?_
 refine w_call (Tryd.func21) (by kernel_rfl) rfl (m1 (ev (.int .i64 ((kind : Nat) : Int)) rfl rfl)) (known_l kind  w0 hkd) ?_
 rintro _ w1 ⟨rfl, hb2⟩
 refine ⟨_, rfl, ?_⟩
 replace hk := thenB hk hb2
 refine w_val (y_not (ev (.bool true) rfl rfl)) ?_
 refine w_as (ev (.bool false) rfl rfl) ?_
 refine nt ?_
 refine c_ff (ev (.bool false) rfl rfl) ?_
 refine sr ?_
 refine w_mv (ev (.int .i64 r) rfl rfl) ?_
 refine w_val (y_bin (ev (.int .i64 r) rfl rfl) (evc (.int .i64 1)) b_lss) ?_
 refine w_mv (ev (.bool (decide (r < 1))) rfl rfl) ?_
 have hc3 : ¬ (r < 1) := by omega
 refine w_val_g (v := .int .i64 l) (want_yes (j := 2) rfl rfl (ev (.bool false) (Eq.trans (b := .bool (decide (r < 1))) rfl (by rw [decide_eq_false hc3])) rfl) rfl) (y_mv (ev (.int .i64 l) rfl rfl)) ?_
 refine w_val_g (want_yes (j := 2) rfl rfl (ev (.bool false) (Eq.trans (b := .bool (decide (r < 1))) rfl (by rw [decide_eq_false hc3])) rfl) rfl) (y_bin (ev (.int .i64 l) rfl rfl) (evc (.int .i64 1)) b_lss) ?_
 refine w_val (y_pick_f (ev (.bool false) (Eq.trans (b := .bool (decide (r < 1))) rfl (by rw [decide_eq_false hc3])) rfl) (ev (.bool (decide (l < 1))) rfl rfl)) ?_
 refine w_mv (ev (.bool (decide (l < 1))) rfl rfl) ?_
 have hc4 : ¬ (l < 1) := by omega
 refine w_val_g (v := .int .i64 l) (want_yes (j := 6) rfl rfl (ev (.bool false) (Eq.trans (b := .bool (decide (l < 1))) rfl (by rw [decide_eq_false hc4])) rfl) rfl) (y_mv (ev (.int .i64 l) rfl rfl)) ?_
 refine w_val_g (want_yes (j := 6) rfl rfl (ev (.bool false) (Eq.trans (b := .bool (decide (l < 1))) rfl (by rw [decide_eq_false hc4])) rfl) rfl) (y_bin (ev (.int .i64 l) rfl rfl) (evc (.int .i64 256)) b_gtr) ?_
 refine w_val (y_pick_f (ev (.bool false) (Eq.trans (b := .bool (decide (l < 1))) rfl (by rw [decide_eq_false hc4])) rfl) (ev (.bool (decide (256 < l))) rfl rfl)) ?_
 refine w_as (ev (.bool (decide (256 < l))) rfl rfl) ?_
 refine nt ?_
 have hc5 : ¬ (256 < l) := by omega
 refine c_f (p := 256 < l) (ev (.bool (decide (256 < l))) rfl rfl) hc5 ?_
 refine sr ?_
 refine w_mv (ev (.int .i64 r) rfl rfl) ?_
 refine w_val (y_bin (ev (.int .i64 r) rfl rfl) (evc (.int .i64 4096)) b_gtr) ?_
 refine w_as (ev (.bool (decide (4096 < r))) rfl rfl) ?_
 refine nt ?_
 have hc6 : ¬ (4096 < r) := by exact h2
 refine c_f (p := 4096 < r) (ev (.bool (decide (4096 < r))) rfl rfl) hc6 ?_
 refine sr ?_
 refine w_mv (ev (.string (str salt)) rfl rfl) ?_
 refine w_val (y_len (ev (.string (str salt)) rfl rfl) Tryd.underlying9) ?_
 refine w_val (y_bin (ev (.int .i64 ((salt.length : Nat) : Int)) rfl rfl) (evc (.int .i64 1024)) b_gtr) ?_
 refine w_as (ev (.bool (decide (1024 < ((salt.length : Nat) : Int)))) rfl rfl) ?_
 refine nt ?_
 have hc7 : ¬ (1024 < ((salt.length : Nat) : Int)) := by omega
 refine c_f (p := 1024 < ((salt.length : Nat) : Int)) (ev (.bool (decide (1024 < ((salt.length : Nat) : Int)))) rfl rfl) hc7 ?_
 refine wp_skip ?_
 refine inb_n ?_
 refine then_n ?_
 refine sr ?_
 refine w_as (evc (.int .i64 0)) ?_
 refine nt ?_
 refine wp_ret ?_
 refine fin_ret1 rfl (ev (.int .i64 0) rfl rfl) ?_
 exact ⟨rfl, hk⟩

theorem pbWrong_l (k : Int) (pw salt : List (BitVec 8)) (r l : Int) (w : World) : Calls Tryd.prog 38 #[.int .i64 k, .string (str salt), .int .i64 r, .int .i64 l] w fun e w' => e = .returned (.int .i64 (Pb.err k salt r l)) ∧ Below w.heap.size w w' := by
  by_cases hk : k = 256 ∨ k = 384 ∨ k = 512
  · obtain ⟨kind, rfl⟩ : ∃ kind : Nat, k = kind := ⟨k.toNat, by omega⟩
    have hkd : Sha.Known kind := by unfold Sha.Known; omega
    by_cases h : r < 1 ∨ l < 1 ∨ 256 < l
    · have e : Pb.err (kind : Int) salt r l = 2 := by unfold Pb.err; rw [if_neg (fun x => x hk), if_pos h]
      rw [e]; exact pbWrong_b kind hkd pw salt r l h w
    by_cases h2 : 4096 < r
    · have e : Pb.err (kind : Int) salt r l = 14 := by unfold Pb.err; rw [if_neg (fun x => x hk), if_neg h, if_pos h2]
      rw [e]; exact pbWrong_c kind hkd pw salt r l h h2 w
    by_cases h3 : 1024 < salt.length
    · have e : Pb.err (kind : Int) salt r l = 4 := by unfold Pb.err; rw [if_neg (fun x => x hk), if_neg h, if_neg h2, if_pos h3]
      rw [e]; exact pbWrong_d kind hkd pw salt r l h h2 h3 w
    have e : Pb.err (kind : Int) salt r l = 0 := by unfold Pb.err; rw [if_neg (fun x => x hk), if_neg h, if_neg h2, if_neg h3]
    rw [e]; exact pbWrong_e kind hkd pw salt r l h h2 h3 w
  · have e : Pb.err k salt r l = 11 := by unfold Pb.err; rw [if_pos hk]
    rw [e]; exact pbWrong_a k (by omega) (by omega) (by omega) pw salt r l w

theorem key_l (k : Int) (pw salt : List (BitVec 8)) (r l : Int) (hp : pw.length ≤ 140737488351232) (w : World) (hT : Sha.Tabs w) : Calls Tryd.prog 36 #[.int .i64 k, .string (str pw), .string (str salt), .int .i64 r, .int .i64 l] w fun e w' => e = .returned (.tuple #[.string (str (Pb.key k pw salt r l).1), .int .i64 (Pb.key k pw salt r l).2]) ∧ Below w.heap.size w w' := by
  by_cases hk : k = 256 ∨ k = 384 ∨ k = 512
  · obtain ⟨kind, rfl⟩ : ∃ kind : Nat, k = kind := ⟨k.toNat, by omega⟩
    have hkd : Sha.Known kind := by unfold Sha.Known; omega
    by_cases h : r < 1 ∨ l < 1 ∨ 256 < l
    · have e : Pb.err (kind : Int) salt r l = 2 := by unfold Pb.err; rw [if_neg (fun x => x hk), if_pos h]
      rw [Pb.key_err _ _ _ _ _ (by omega), e]; exact pbKey_b kind hkd pw salt r l h w
    by_cases h2 : 4096 < r
    · have e : Pb.err (kind : Int) salt r l = 14 := by unfold Pb.err; rw [if_neg (fun x => x hk), if_neg h, if_pos h2]
      rw [Pb.key_err _ _ _ _ _ (by omega), e]; exact pbKey_c kind hkd pw salt r l h h2 w
    by_cases h3 : 1024 < salt.length
    · have e : Pb.err (kind : Int) salt r l = 4 := by unfold Pb.err; rw [if_neg (fun x => x hk), if_neg h, if_neg h2, if_pos h3]
      rw [Pb.key_err _ _ _ _ _ (by omega), e]; exact pbKey_d kind hkd pw salt r l h h2 h3 w
    have e : Pb.err (kind : Int) salt r l = 0 := by unfold Pb.err; rw [if_neg (fun x => x hk), if_neg h, if_neg h2, if_neg h3]
    obtain ⟨rr, rfl⟩ : ∃ n : Nat, r = n := ⟨r.toNat, by omega⟩
    obtain ⟨ll, rfl⟩ : ∃ n : Nat, l = n := ⟨l.toNat, by omega⟩
    rw [Pb.key_ok kind hkd pw salt rr ll (by omega) (by omega) (by omega) (by omega) (by omega)]
    exact pbKey_y kind hkd rr ll (by omega) (by omega) (by omega) (by omega) pw salt (by omega) hp w hT
  · have e : Pb.err k salt r l = 11 := by unfold Pb.err; rw [if_pos hk]
    rw [Pb.key_err _ _ _ _ _ (by omega), e]; exact pbKey_a k (by omega) (by omega) (by omega) pw salt r l w

theorem key_bad (k : Int) (pw salt : List (BitVec 8)) (r l : Int) (he : Pb.err k salt r l ≠ 0) (w : World) : Calls Tryd.prog 36 #[.int .i64 k, .string (str pw), .string (str salt), .int .i64 r, .int .i64 l] w fun e w' => e = .returned (.tuple #[.string (str (Pb.key k pw salt r l).1), .int .i64 (Pb.key k pw salt r l).2]) ∧ Below w.heap.size w w' := by
  by_cases hk : k = 256 ∨ k = 384 ∨ k = 512
  · obtain ⟨kind, rfl⟩ : ∃ kind : Nat, k = kind := ⟨k.toNat, by omega⟩
    have hkd : Sha.Known kind := by unfold Sha.Known; omega
    by_cases h : r < 1 ∨ l < 1 ∨ 256 < l
    · have e : Pb.err (kind : Int) salt r l = 2 := by unfold Pb.err; rw [if_neg (fun x => x hk), if_pos h]
      rw [Pb.key_err _ _ _ _ _ (by omega), e]; exact pbKey_b kind hkd pw salt r l h w
    by_cases h2 : 4096 < r
    · have e : Pb.err (kind : Int) salt r l = 14 := by unfold Pb.err; rw [if_neg (fun x => x hk), if_neg h, if_pos h2]
      rw [Pb.key_err _ _ _ _ _ (by omega), e]; exact pbKey_c kind hkd pw salt r l h h2 w
    by_cases h3 : 1024 < salt.length
    · have e : Pb.err (kind : Int) salt r l = 4 := by unfold Pb.err; rw [if_neg (fun x => x hk), if_neg h, if_neg h2, if_pos h3]
      rw [Pb.key_err _ _ _ _ _ (by omega), e]; exact pbKey_d kind hkd pw salt r l h h2 h3 w
    have e : Pb.err (kind : Int) salt r l = 0 := by unfold Pb.err; rw [if_neg (fun x => x hk), if_neg h, if_neg h2, if_neg h3]
    exact absurd e he
  · have e : Pb.err k salt r l = 11 := by unfold Pb.err; rw [if_pos hk]
    rw [Pb.key_err _ _ _ _ _ (by omega), e]; exact pbKey_a k (by omega) (by omega) (by omega) pw salt r l w
end Go.Proofs.YtieepglpejlkoaaDoor
