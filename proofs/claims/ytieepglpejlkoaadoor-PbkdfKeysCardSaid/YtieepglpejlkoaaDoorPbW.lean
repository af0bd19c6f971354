/-
  Keys from passwords: the reference, the example. Conditions as each says.
-/
import Derived.Test.YtieepglpejlkoaaDoorRows
import Derived.Test.YtieepglpejlkoaaDoorPbA
import Derived.ProofKit
namespace Go.Proofs.YtieepglpejlkoaaDoor
open Go.RowKit
set_option linter.unusedSimpArgs false
set_option linter.unusedVariables false
namespace PbWT
theorem mixed : Tryd.prog.follows .mixedOrders = true := by kernel_rfl
theorem sc5 : (Tryd.prog.underlying 5).map scal = some true := by rw [Tryd.underlying5]; rfl
theorem sz5 : (Tryd.prog.info? 5).map (·.size) = some 1 := by kernel_rfl
end PbWT
set_option maxRecDepth 100000 in
set_option maxHeartbeats 1000000 in
theorem pbRef_y (kind : Nat) (hkd : Sha.Known kind) (r l : Nat) (hr1 : 1 ≤ r) (hr2 : r ≤ 4096) (hl1 : 1 ≤ l) (hl2 : l ≤ 256) (pw salt : List (BitVec 8)) (hsl : salt.length ≤ 1024) (hp : pw.length ≤ 1099511627000) (w0 : World) : Calls Tryd.prog 37 #[.int .i64 ((kind : Nat) : Int), .string (str pw), .string (str salt), .int .i64 ((r : Nat) : Int), .int .i64 ((l : Nat) : Int)] w0 fun e w' => e = .returned (.tuple #[.string (str (Pb.dk kind pw salt r l)), .int .i64 0]) ∧ Below w0.heap.size w0 w' := by
 have hol := Sha.ol_lt kind
 refine enter (n := 67) Tryd.func37 rfl rfl rfl ?_
 have hk : Below w0.heap.size w0 w0 := Below.refl _ _
 refine sr ?_
 refine w_as (evc (.string (str ([] : List (BitVec 8))))) ?_
 refine w_as (evc (.int .i64 0)) ?_
 refine nt ?_
 refine wp_seq ?_
 refine sr ?_
 refine w_mv (ev (.int .i64 ((kind : Nat) : Int)) rfl rfl) ?_
 refine w_mv (ev (.string (str salt)) rfl rfl) ?_
 refine w_mv (ev (.int .i64 ((r : Nat) : Int)) rfl rfl) ?_
 refine w_mv (ev (.int .i64 ((l : Nat) : Int)) rfl rfl) ?_
 refine w_call (Tryd.func38) (by kernel_rfl) rfl (m4 (ev (.int .i64 ((kind : Nat) : Int)) rfl rfl) (ev (.string (str salt)) rfl rfl) (ev (.int .i64 ((r : Nat) : Int)) rfl rfl) (ev (.int .i64 ((l : Nat) : Int)) rfl rfl)) (pbWrong_e kind hkd pw salt ((r : Nat) : Int) ((l : Nat) : Int) (by omega) (by omega) (by omega) w0) ?_
 rintro _ w1 ⟨rfl, hb2⟩
 refine ⟨_, rfl, ?_⟩
 replace hk := thenB hk hb2
 refine w_as (ev (.int .i64 0) rfl rfl) ?_
 refine nt ?_
 refine sr ?_
 refine w_mv (ev (.int .i64 0) rfl rfl) ?_
 refine w_val (y_bin (ev (.int .i64 0) rfl rfl) (evc (.int .i64 0)) b_neq) ?_
 refine nt ?_
 refine c_ff (ev (.bool false) rfl rfl) ?_
 refine wp_skip ?_
 refine then_n ?_
 refine sr ?_
 refine w_mv (ev (.int .i64 ((kind : Nat) : Int)) rfl rfl) ?_
 refine w_call (Tryd.func22) (by kernel_rfl) rfl (m1 (ev (.int .i64 ((kind : Nat) : Int)) rfl rfl)) (make_l kind w1 hkd) ?_
 rintro _ w3 ⟨rp, rfl, hge_rp, hR, hb_rp⟩
 refine ⟨_, rfl, ?_⟩
 have ge_rp : w0.heap.size ≤ rp := by have := hk.size; omega
 replace hk := thenB hk hb_rp
 refine w_as (ev (pt rp 0) rfl rfl) ?_
 refine nt ?_
 refine sr ?_
 refine w_as (evc (.string (str ([] : List (BitVec 8))))) ?_
 refine nt ?_
 refine wp_seq ?_
 refine sr ?_
 refine w_as (evc (U64 (1#64))) ?_
 refine nt ?_
 refine wp_block ?_
 refine c_loop (fun dN aN wl => ∃ (n : Nat), dN = (l + 64 - Sha.ol kind * n) ∧ ∃ f4, aN = fr 67 f4 ∧ (Sha.ol kind * n < l + Sha.ol kind) ∧ f4 0 = .int .i64 ((kind : Nat) : Int) ∧ f4 1 = .string (str pw) ∧ f4 2 = .string (str salt) ∧ f4 3 = .int .i64 ((r : Nat) : Int) ∧ f4 4 = .int .i64 ((l : Nat) : Int) ∧ f4 10 = .string (str ([] : List (BitVec 8))) ∧ f4 11 = .int .i64 0 ∧ f4 12 = .int .i64 0 ∧ f4 13 = pt rp 0 ∧ f4 14 = .string (str (Pb.out kind pw salt r n)) ∧ f4 15 = U64 (BitVec.ofNat 64 (n + 1)) ∧ Sha.RuleAt wl rp kind ∧ Below w0.heap.size w0 wl) (l + 64 - Sha.ol kind * 0) ?_ ?_
 · exact ⟨0, rfl, _, rfl, (by rw [Nat.mul_zero]; omega), rfl, rfl, rfl, rfl, rfl, rfl, rfl, rfl, rfl, (Eq.trans (b := .string (str ([] : List (BitVec 8)))) rfl (by rfl)), (Eq.trans (b := U64 (1#64)) rfl (by rfl)), hR, hk⟩
 ·skip
  clear hR hk
  rintro _ _ w5 ⟨n, rfl, f4, rfl, i1_0, s1_0, s1_1, s1_2, s1_3, s1_4, s1_10, s1_11, s1_12, s1_13, s1_14, s1_15, hR, hk⟩
  have hmul : Sha.ol kind * (n + 1) = Sha.ol kind * n + Sha.ol kind := Nat.mul_succ _ _
  have hn32 := Nat.mul_le_mul_right n hol.1
  have hlo := Pb.out_len kind pw salt r n
  refine wp_seq ?_
  refine sr ?_
  refine w_mv (ev (.string (str (Pb.out kind pw salt r n))) s1_14 rfl) ?_
  refine w_val (y_len (ev (.string (str (Pb.out kind pw salt r n))) rfl rfl) Tryd.underlying9) ?_
  refine w_mv (ev (.int .i64 ((l : Nat) : Int)) s1_4 rfl) ?_
  refine w_val (y_bin (ev (.int .i64 (((Pb.out kind pw salt r n).length : Nat) : Int)) rfl rfl) (ev (.int .i64 ((l : Nat) : Int)) rfl rfl) b_lss) ?_
  refine nt ?_
  refine c_if (p := (((Pb.out kind pw salt r n).length : Nat) : Int) < ((l : Nat) : Int)) (ev (.bool (decide ((((Pb.out kind pw salt r n).length : Nat) : Int) < ((l : Nat) : Int)))) rfl rfl) (fun hc6 => ?_) (fun hc6 => ?_)
  ·skip
   refine wp_skip ?_
   refine then_n ?_
   refine wp_seq ?_
   refine wp_block ?_
   refine sr ?_
   refine w_mv (ev (U64 (BitVec.ofNat 64 (n + 1))) s1_15 rfl) ?_
   refine w_call (Tryd.func45) (by kernel_rfl) rfl (m2 (ev (U64 (BitVec.ofNat 64 (n + 1))) rfl rfl) (evc (.int .i64 4))) (refPut_c (BitVec.ofNat 64 (n + 1)) 4 (by omega) (by omega) (by rw [BitVec.toNat_ofNat]; omega) w5) ?_
   rintro _ w7 ⟨rfl, hb8⟩
   refine ⟨_, rfl, ?_⟩
   replace hk := thenB hk hb8
   replace hR := Sha.RuleAt.below hR hb8
   refine w_mv (ev (.tuple #[.string (str (Oct.be (BitVec.ofNat 64 (n + 1)) 4)), .int .i64 0]) rfl rfl) ?_
   refine w_val (y_ext (v := .string (str (Oct.be (BitVec.ofNat 64 (n + 1)) 4))) (ev (.tuple #[.string (str (Oct.be (BitVec.ofNat 64 (n + 1)) 4)), .int .i64 0]) rfl rfl) rfl) ?_
   refine w_val (y_ext (v := .int .i64 0) (ev (.tuple #[.string (str (Oct.be (BitVec.ofNat 64 (n + 1)) 4)), .int .i64 0]) rfl rfl) rfl) ?_
   refine w_as (ev (.string (str (Oct.be (BitVec.ofNat 64 (n + 1)) 4))) rfl rfl) ?_
   refine w_as (ev (.int .i64 0) rfl rfl) ?_
   refine nt ?_
   refine sr ?_
   refine w_mv (ev (pt rp 0) s1_13 rfl) ?_
   refine w_mv (ev (.string (str pw)) s1_1 rfl) ?_
   refine w_mv (ev (.string (str salt)) s1_2 rfl) ?_
   refine w_mv (ev (.string (str (Oct.be (BitVec.ofNat 64 (n + 1)) 4))) rfl rfl) ?_
   refine w_val (y_bin (ev (.string (str salt)) rfl rfl) (ev (.string (str (Oct.be (BitVec.ofNat 64 (n + 1)) 4))) rfl rfl) (b_cat (by (try simp only [List.length_append, Pb.out_len, Pb.tn_len, Pb.un_len, Oct.length_be]); omega))) ?_
   refine w_call (Tryd.func42) (by kernel_rfl) rfl (m3 (ev (pt rp 0) rfl rfl) (ev (.string (str pw)) rfl rfl) (ev (.string (str (salt ++ (Oct.be (BitVec.ofNat 64 (n + 1)) 4)))) rfl rfl)) (macWith_r kind hkd rp pw (salt ++ (Oct.be (BitVec.ofNat 64 (n + 1)) 4)) (by (try simp only [List.length_append, Pb.un_len, Oct.length_be]); omega) (by omega) w7 hR) ?_
   rintro _ w9 ⟨rfl, hb10⟩
   refine ⟨_, rfl, ?_⟩
   replace hk := thenB hk hb10
   replace hR := Sha.RuleAt.below hR hb10
   refine w_as (ev (.string (str (Pb.un kind pw salt (n + 1) 0))) rfl rfl) ?_
   refine nt ?_
   refine sr ?_
   refine w_mv (ev (.string (str (Pb.un kind pw salt (n + 1) 0))) rfl rfl) ?_
   refine w_as (ev (.string (str (Pb.un kind pw salt (n + 1) 0))) rfl rfl) ?_
   refine nt ?_
   refine wp_seq ?_
   refine sr ?_
   refine w_as (evc (.int .i64 1)) ?_
   refine nt ?_
   refine wp_block ?_
   refine c_loop (fun dN aN wl => ∃ (k : Nat), dN = (r - 1 - k) ∧ ∃ f11, aN = fr 67 f11 ∧ (k ≤ r - 1) ∧ f11 0 = .int .i64 ((kind : Nat) : Int) ∧ f11 1 = .string (str pw) ∧ f11 2 = .string (str salt) ∧ f11 3 = .int .i64 ((r : Nat) : Int) ∧ f11 4 = .int .i64 ((l : Nat) : Int) ∧ f11 10 = .string (str ([] : List (BitVec 8))) ∧ f11 11 = .int .i64 0 ∧ f11 12 = .int .i64 0 ∧ f11 13 = pt rp 0 ∧ f11 14 = .string (str (Pb.out kind pw salt r n)) ∧ f11 15 = U64 (BitVec.ofNat 64 (n + 1)) ∧ f11 16 = .string (str (Oct.be (BitVec.ofNat 64 (n + 1)) 4)) ∧ f11 18 = .string (str (Pb.un kind pw salt (n + 1) k)) ∧ f11 19 = .string (str (Pb.tn kind pw salt (n + 1) k)) ∧ f11 20 = .int .i64 (((k + 1) : Nat) : Int) ∧ Sha.RuleAt wl rp kind ∧ Below w0.heap.size w0 wl) (r - 1 - 0) ?_ ?_
   · exact ⟨0, rfl, _, rfl, iv, s1_0, s1_1, s1_2, s1_3, s1_4, s1_10, s1_11, s1_12, s1_13, s1_14, s1_15, rfl, rfl, (Eq.trans (b := .string (str (Pb.un kind pw salt (n + 1) 0))) rfl (by rfl)), (Eq.trans (b := .int .i64 1) rfl (by rfl)), hR, hk⟩
   ·skip
    clear hR hk
    rintro _ _ w12 ⟨k, rfl, f11, rfl, i2_0, s2_0, s2_1, s2_2, s2_3, s2_4, s2_10, s2_11, s2_12, s2_13, s2_14, s2_15, s2_16, s2_18, s2_19, s2_20, hR, hk⟩
    refine wp_seq ?_
    refine sr ?_
    refine w_mv (ev (.int .i64 (((k + 1) : Nat) : Int)) s2_20 rfl) ?_
    refine w_mv (ev (.int .i64 ((r : Nat) : Int)) s2_3 rfl) ?_
    refine w_val (y_bin (ev (.int .i64 (((k + 1) : Nat) : Int)) rfl rfl) (ev (.int .i64 ((r : Nat) : Int)) rfl rfl) b_lss) ?_
    refine nt ?_
    refine c_if (p := (((k + 1) : Nat) : Int) < ((r : Nat) : Int)) (ev (.bool (decide ((((k + 1) : Nat) : Int) < ((r : Nat) : Int)))) rfl rfl) (fun hc13 => ?_) (fun hc13 => ?_)
    ·skip
     refine wp_skip ?_
     refine then_n ?_
     refine wp_seq ?_
     refine wp_block ?_
     refine sr ?_
     refine w_mv (ev (pt rp 0) s2_13 rfl) ?_
     refine w_mv (ev (.string (str pw)) s2_1 rfl) ?_
     refine w_mv (ev (.string (str (Pb.un kind pw salt (n + 1) k))) s2_18 rfl) ?_
     refine w_call (Tryd.func42) (by kernel_rfl) rfl (m3 (ev (pt rp 0) rfl rfl) (ev (.string (str pw)) rfl rfl) (ev (.string (str (Pb.un kind pw salt (n + 1) k))) rfl rfl)) (macWith_r kind hkd rp pw (Pb.un kind pw salt (n + 1) k) (by (try simp only [List.length_append, Pb.un_len, Oct.length_be]); omega) (by omega) w12 hR) ?_
     rintro _ w14 ⟨rfl, hb15⟩
     refine ⟨_, rfl, ?_⟩
     replace hk := thenB hk hb15
     replace hR := Sha.RuleAt.below hR hb15
     refine w_as (ev (.string (str (Pb.un kind pw salt (n + 1) (k + 1)))) rfl rfl) ?_
     refine nt ?_
     refine wp_region_lit ?_
     refine w_mv (ev (.string (str (Pb.tn kind pw salt (n + 1) k))) s2_19 rfl) ?_
     refine w_mv (ev (.string (str (Pb.un kind pw salt (n + 1) (k + 1)))) rfl rfl) ?_
     refine w_call (Tryd.func46) (by kernel_rfl) rfl (m2 (ev (.string (str (Pb.tn kind pw salt (n + 1) k))) rfl rfl) (ev (.string (str (Pb.un kind pw salt (n + 1) (k + 1)))) rfl rfl)) (refXor_c (Pb.tn kind pw salt (n + 1) k) (Pb.un kind pw salt (n + 1) (k + 1)) (by rw [Pb.tn_len]; omega) w14 ) ?_
     rintro _ w16 ⟨rfl, hb17⟩
     refine ⟨_, rfl, ?_⟩
     replace hk := thenB hk hb17
     replace hR := Sha.RuleAt.below hR hb17
     refine w_as (ev (.string (str (Oct.xor (Pb.tn kind pw salt (n + 1) k) (Pb.un kind pw salt (n + 1) (k + 1))))) rfl rfl) ?_
     refine wpList_nil ?_
     refine inb_n ?_
     refine then_n ?_
     refine wp_region_lit ?_
     refine w_mv (ev (.int .i64 (((k + 1) : Nat) : Int)) s2_20 rfl) ?_
     refine w_val (y_bin (ev (.int .i64 (((k + 1) : Nat) : Int)) rfl rfl) (evc (.int .i64 1)) (b_add (by omega))) ?_
     refine w_as (ev (.int .i64 ((((k + 1) : Nat) : Int) + 1)) rfl rfl) ?_
     refine wpList_nil ?_
     exact then_n ⟨_, (by omega), k + 1, rfl, _, rfl, iv, s2_0, s2_1, s2_2, s2_3, s2_4, s2_10, s2_11, s2_12, s2_13, s2_14, s2_15, s2_16, rfl, (Eq.trans (b := .string (str (Oct.xor (Pb.tn kind pw salt (n + 1) k) (Pb.un kind pw salt (n + 1) (k + 1))))) rfl (by rfl)), (Eq.trans (b := .int .i64 ((((k + 1) : Nat) : Int) + 1)) rfl (by congr 1)), hR, hk⟩
    ·skip
     refine wp_exit ?_
     refine then_x ?_
     refine then_x ?_
     refine inb_x ?_
     refine then_n ?_
     refine wp_region_lit ?_
     refine w_mv (ev (.string (str (Pb.out kind pw salt r n))) s2_14 rfl) ?_
     refine w_mv (ev (.string (str (Pb.tn kind pw salt (n + 1) k))) s2_19 rfl) ?_
     refine w_val (y_bin (ev (.string (str (Pb.out kind pw salt r n))) rfl rfl) (ev (.string (str (Pb.tn kind pw salt (n + 1) k))) rfl rfl) (b_cat (by (try simp only [List.length_append, Pb.out_len, Pb.tn_len, Pb.un_len, Oct.length_be]); omega))) ?_
     refine w_as (ev (.string (str ((Pb.out kind pw salt r n) ++ (Pb.tn kind pw salt (n + 1) k)))) rfl rfl) ?_
     refine wpList_nil ?_
     refine inb_n ?_
     refine then_n ?_
     refine wp_region_lit ?_
     refine w_mv (ev (U64 (BitVec.ofNat 64 (n + 1))) s2_15 rfl) ?_
     refine w_val (y_bin (ev (U64 (BitVec.ofNat 64 (n + 1))) rfl rfl) (evc (U64 (1#64))) add64) ?_
     refine w_as (ev (U64 ((BitVec.ofNat 64 (n + 1)) + (1#64))) rfl rfl) ?_
     refine wpList_nil ?_
     exact then_n ⟨_, (by omega), n + 1, rfl, _, rfl, iv, s2_0, s2_1, s2_2, s2_3, s2_4, s2_10, s2_11, s2_12, s2_13, (Eq.trans (b := .string (str ((Pb.out kind pw salt r n) ++ (Pb.tn kind pw salt (n + 1) k)))) rfl (by rw [show k = r - 1 from by omega]; rfl)), (Eq.trans (b := U64 ((BitVec.ofNat 64 (n + 1)) + (1#64))) rfl (by exact congrArg U64 (BitVec.ofNat_add (n := 64) (n + 1) 1).symm)), hR, hk⟩
  ·skip
   refine wp_exit ?_
   refine then_x ?_
   refine then_x ?_
   refine inb_x ?_
   refine then_n ?_
   refine sr ?_
   refine w_mv (ev (.string (str (Pb.out kind pw salt r n))) s1_14 rfl) ?_
   refine w_mv (ev (.int .i64 ((l : Nat) : Int)) s1_4 rfl) ?_
   refine w_val (v := .string (str ((Pb.out kind pw salt r n).take l))) (y_sls (ev (.string (str (Pb.out kind pw salt r n))) rfl rfl) evo.no (evo.s (ev (.int .i64 ((l : Nat) : Int)) rfl rfl)) Tryd.underlying9 (bnd_h (h := l) (by omega) (by (try simp only [Pb.out_len]); omega))) ?_
   refine w_as (ev (.string (str ((Pb.out kind pw salt r n).take l))) rfl rfl) ?_
   refine w_as (evc (.int .i64 0)) ?_
   refine nt ?_
   refine wp_ret ?_
   refine fin_ret2 rfl (ev (.string (str ((Pb.out kind pw salt r n).take l))) rfl rfl) (ev (.int .i64 0) rfl rfl) ?_
   refine ⟨congrArg Ending.returned ?_, hk⟩
   show (.tuple #[.string (str ((Pb.out kind pw salt r n).take l)), .int .i64 0] : Value) = .tuple #[.string (str (Pb.dk kind pw salt r l)), .int .i64 0]
   rw [Pb.out_take kind pw salt r n l (by omega)]

set_option maxRecDepth 100000 in
set_option maxHeartbeats 1000000 in
theorem pbRef_bad (k : Int) (pw salt : List (BitVec 8)) (r l : Int) (he : Pb.err k salt r l ≠ 0) (w0 : World) : Calls Tryd.prog 37 #[.int .i64 k, .string (str pw), .string (str salt), .int .i64 r, .int .i64 l] w0 fun e w' => e = .returned (.tuple #[.string (str ([] : List (BitVec 8))), .int .i64 (Pb.err k salt r l)]) ∧ Below w0.heap.size w0 w' := by
 refine enter (n := 67) Tryd.func37 rfl rfl rfl ?_
 have hk : Below w0.heap.size w0 w0 := Below.refl _ _
 refine sr ?_
 refine w_as (evc (.string (str ([] : List (BitVec 8))))) ?_
 refine w_as (evc (.int .i64 0)) ?_
 refine nt ?_
 refine wp_seq ?_
 refine sr ?_
 refine w_mv (ev (.int .i64 k) rfl rfl) ?_
 refine w_mv (ev (.string (str salt)) rfl rfl) ?_
 refine w_mv (ev (.int .i64 r) rfl rfl) ?_
 refine w_mv (ev (.int .i64 l) rfl rfl) ?_
 refine w_call (Tryd.func38) (by kernel_rfl) rfl (m4 (ev (.int .i64 k) rfl rfl) (ev (.string (str salt)) rfl rfl) (ev (.int .i64 r) rfl rfl) (ev (.int .i64 l) rfl rfl)) (pbWrong_l k pw salt r l  w0 ) ?_
 rintro _ w1 ⟨rfl, hb2⟩
 refine ⟨_, rfl, ?_⟩
 replace hk := thenB hk hb2
 refine w_as (ev (.int .i64 (Pb.err k salt r l)) rfl rfl) ?_
 refine nt ?_
 refine sr ?_
 refine w_mv (ev (.int .i64 (Pb.err k salt r l)) rfl rfl) ?_
 refine w_val (y_bin (ev (.int .i64 (Pb.err k salt r l)) rfl rfl) (evc (.int .i64 0)) b_neq) ?_
 refine nt ?_
 have hc3 : (Pb.err k salt r l) ≠ 0 := by exact he
 refine c_t (p := (Pb.err k salt r l) ≠ 0) (ev (.bool (decide ((Pb.err k salt r l) ≠ 0))) rfl rfl) hc3 ?_
 refine sr ?_
 refine w_mv (ev (.int .i64 (Pb.err k salt r l)) rfl rfl) ?_
 refine w_as (evc (.string (str ([] : List (BitVec 8))))) ?_
 refine w_as (ev (.int .i64 (Pb.err k salt r l)) rfl rfl) ?_
 refine nt ?_
 refine wp_ret ?_
 refine then_r ?_
 refine fin_ret2 rfl (ev (.string (str ([] : List (BitVec 8)))) rfl rfl) (ev (.int .i64 (Pb.err k salt r l)) rfl rfl) ?_
 exact ⟨rfl, hk⟩

theorem refKey_l (k : Int) (pw salt : List (BitVec 8)) (r l : Int) (hp : pw.length ≤ 1099511627000) (w : World) : Calls Tryd.prog 37 #[.int .i64 k, .string (str pw), .string (str salt), .int .i64 r, .int .i64 l] w fun e w' => e = .returned (.tuple #[.string (str (Pb.key k pw salt r l).1), .int .i64 (Pb.key k pw salt r l).2]) ∧ Below w.heap.size w w' := by
  by_cases hk : k = 256 ∨ k = 384 ∨ k = 512
  · obtain ⟨kind, rfl⟩ : ∃ kind : Nat, k = kind := ⟨k.toNat, by omega⟩
    have hkd : Sha.Known kind := by unfold Sha.Known; omega
    by_cases h : r < 1 ∨ l < 1 ∨ 256 < l
    · have e : Pb.err (kind : Int) salt r l = 2 := by unfold Pb.err; rw [if_neg (fun x => x hk), if_pos h]
      rw [Pb.key_err _ _ _ _ _ (by omega)]; exact pbRef_bad _ pw salt r l (by omega) w
    by_cases h2 : 4096 < r
    · have e : Pb.err (kind : Int) salt r l = 14 := by unfold Pb.err; rw [if_neg (fun x => x hk), if_neg h, if_pos h2]
      rw [Pb.key_err _ _ _ _ _ (by omega)]; exact pbRef_bad _ pw salt r l (by omega) w
    by_cases h3 : 1024 < salt.length
    · have e : Pb.err (kind : Int) salt r l = 4 := by unfold Pb.err; rw [if_neg (fun x => x hk), if_neg h, if_neg h2, if_pos h3]
      rw [Pb.key_err _ _ _ _ _ (by omega)]; exact pbRef_bad _ pw salt r l (by omega) w
    have e : Pb.err (kind : Int) salt r l = 0 := by unfold Pb.err; rw [if_neg (fun x => x hk), if_neg h, if_neg h2, if_neg h3]
    obtain ⟨rr, rfl⟩ : ∃ n : Nat, r = n := ⟨r.toNat, by omega⟩
    obtain ⟨ll, rfl⟩ : ∃ n : Nat, l = n := ⟨l.toNat, by omega⟩
    rw [Pb.key_ok kind hkd pw salt rr ll (by omega) (by omega) (by omega) (by omega) (by omega)]
    exact pbRef_y kind hkd rr ll (by omega) (by omega) (by omega) (by omega) pw salt (by omega) hp w
  · have e : Pb.err k salt r l = 11 := by unfold Pb.err; rw [if_pos hk]
    rw [Pb.key_err _ _ _ _ _ (by omega)]; exact pbRef_bad _ pw salt r l (by omega) w

set_option maxRecDepth 100000 in
set_option maxHeartbeats 1000000 in
theorem pbWakes_c  (w0 : World) (hT : Sha.Tabs w0) : Calls Tryd.prog 34 #[] w0 fun e w' => e = .returned (.bool true) ∧ Below w0.heap.size w0 w' := by
 refine enter (n := 13) Tryd.func34 rfl rfl rfl ?_
 have hk : Below w0.heap.size w0 w0 := Below.refl _ _
 refine sr ?_
 refine w_as (evc (.bool false)) ?_
 refine nt ?_
 refine sr ?_
 have hwk := key_l 256 Pb.pword Pb.psalt 2 4 (by decide) w0 hT
 rw [Pb.wake, Pb.wake2] at hwk
 refine w_call (Tryd.func36) (by kernel_rfl) rfl (m5 (evc (.int .i64 256)) (evc (.string (str Pb.pword))) (evc (.string (str Pb.psalt))) (evc (.int .i64 2)) (evc (.int .i64 4))) (hwk) ?_
 rintro _ w2 ⟨rfl, hb3⟩
 refine ⟨_, rfl, ?_⟩
 replace hk := thenB hk hb3
 replace hT := Sha.Tabs.below hT hb3
 refine w_mv (ev (.tuple #[.string (str ([174#8, 77#8, 12#8, 149#8])), .int .i64 0]) rfl rfl) ?_
 refine w_val (y_ext (v := .string (str ([174#8, 77#8, 12#8, 149#8]))) (ev (.tuple #[.string (str ([174#8, 77#8, 12#8, 149#8])), .int .i64 0]) rfl rfl) rfl) ?_
 refine w_val (y_ext (v := .int .i64 0) (ev (.tuple #[.string (str ([174#8, 77#8, 12#8, 149#8])), .int .i64 0]) rfl rfl) rfl) ?_
 refine w_as (ev (.string (str ([174#8, 77#8, 12#8, 149#8]))) rfl rfl) ?_
 refine w_as (ev (.int .i64 0) rfl rfl) ?_
 refine nt ?_
 refine sr ?_
 refine w_mv (ev (.int .i64 0) rfl rfl) ?_
 refine w_val (y_bin (ev (.int .i64 0) rfl rfl) (evc (.int .i64 0)) b_eql) ?_
 refine w_mv (ev (.bool true) rfl rfl) ?_
 refine w_val_g (v := .string (str ([174#8, 77#8, 12#8, 149#8]))) (want_yes (j := 2) rfl rfl (ev (.bool true) rfl rfl) rfl) (y_mv (ev (.string (str ([174#8, 77#8, 12#8, 149#8]))) rfl rfl)) ?_
 refine w_val_g (want_yes (j := 2) rfl rfl (ev (.bool true) rfl rfl) rfl) (y_bin (ev (.string (str ([174#8, 77#8, 12#8, 149#8]))) rfl rfl) (evc (.string (str ([174#8, 77#8, 12#8, 149#8])))) b_eqs_same) ?_
 refine w_val (y_pick_t (ev (.bool true) rfl rfl) (ev (.bool true) rfl rfl)) ?_
 refine w_as (ev (.bool true) rfl rfl) ?_
 refine nt ?_
 refine wp_ret ?_
 refine fin_ret1 rfl (ev (.bool true) rfl rfl) ?_
 exact ⟨rfl, hk⟩
end Go.Proofs.YtieepglpejlkoaaDoor
