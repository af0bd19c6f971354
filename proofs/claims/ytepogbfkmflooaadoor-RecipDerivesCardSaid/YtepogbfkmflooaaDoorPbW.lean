/-
  Keys from passwords: the reference, the example. Conditions as each says.
-/
import Derived.Test.YtepogbfkmflooaaDoorRows
import Derived.Test.YtepogbfkmflooaaDoorPbA
import Derived.Test.YtepogbfkmflooaaDoorGenSh
import Derived.ProofKit
namespace Go.Proofs.YtepogbfkmflooaaDoor
open Go.RowKit
set_option linter.unusedSimpArgs false
set_option linter.unusedVariables false
set_option maxRecDepth 100000
set_option maxHeartbeats 1000000
namespace PbWT
theorem mixed : Tryd.prog.follows .mixedOrders = true := by kernel_rfl
theorem sc5 : (Tryd.prog.underlying 5).map scal = some true := by rw [Tryd.underlying5]; rfl
theorem sz5 : (Tryd.prog.info? 5).map (·.size) = some 1 := by kernel_rfl
end PbWT
theorem pbRef_y (kind : Nat) (hkd : Sha.Known kind) (r l : Nat) (hr1 : 1 ≤ r) (hr2 : r ≤ 4096) (hl1 : 1 ≤ l) (hl2 : l ≤ 256) (pw salt : List (BitVec 8)) (hsl : salt.length ≤ 1024) (hp : pw.length ≤ 1099511627000) (w0 : World) : Calls Tryd.prog 22 #[.int .i64 ((kind : Nat) : Int), .string (str pw), .string (str salt), .int .i64 ((r : Nat) : Int), .int .i64 ((l : Nat) : Int)] w0 fun e w' => e = .returned (.tuple #[.string (str (Pb.dk kind pw salt r l)), .int .i64 0]) ∧ Below w0.heap.size w0 w' := by
 have hol := Sha.ol_lt kind
 refine enter (n := 67) Tryd.func22 rfl rfl rfl ?_
 have hk : Below w0.heap.size w0 w0 := Below.refl _ _
 refine sr (w_as (evc (.string (str ([] : List (BitVec 8))))) (w_as Ev.c (nt (wp_seq (sr (w_mv ei (w_mv es (w_mv ei (w_mv ei (w_call (Tryd.func39) kr rfl (m4 ei es ei ei) (pbWrong_e kind hkd pw salt ((r : Nat) : Int) ((l : Nat) : Int) om om om w0) ?_))))))))))
 rintro _ w1 ⟨rfl, hb2⟩
 refine ⟨_, rfl, ?_⟩
 replace hk := thenB hk hb2
 refine w_as ei (nt (sr (w_mv ei (w_val (y_bin ei Ev.c b_neq) (nt (c_ff eb (wp_skip (then_n (sr (w_mv ei (w_call (Tryd.func40) kr rfl (m1 ei) (make_l kind w1 hkd) ?_)))))))))))
 rintro _ w3 ⟨rp, rfl, hge_rp, hR, hb_rp⟩
 refine ⟨_, rfl, ?_⟩
 have ge_rp : w0.heap.size ≤ rp := by have := hk.size; omega
 replace hk := thenB hk hb_rp
 refine w_as (ex (pt rp 0)) (nt (sr (w_as (evc (.string (str ([] : List (BitVec 8))))) (nt (wp_seq (sr (w_as (evc (U64 (1#64))) (nt (wp_block ?_)))))))))
 refine c_loop (fun dN aN wl => ∃ (n : Nat), dN = (l + 64 - Sha.ol kind * n) ∧ ∃ f4, aN = fr 67 f4 ∧ (Sha.ol kind * n < l + Sha.ol kind) ∧ f4 1 = .string (str pw) ∧ f4 2 = .string (str salt) ∧ f4 3 = .int .i64 ((r : Nat) : Int) ∧ f4 4 = .int .i64 ((l : Nat) : Int) ∧ f4 10 = .string (str ([] : List (BitVec 8))) ∧ f4 11 = .int .i64 0 ∧ f4 13 = pt rp 0 ∧ f4 14 = .string (str (Pb.out kind pw salt r n)) ∧ f4 15 = U64 (BitVec.ofNat 64 (n + 1)) ∧ Sha.RuleAt wl rp kind ∧ Below w0.heap.size w0 wl) (l + 64 - Sha.ol kind * 0) ?_ ?_
 · exact ⟨0, rfl, _, rfl, (by rw [Nat.mul_zero]; omega), rfl, rfl, rfl, rfl, rfl, rfl, rfl, (Eq.trans (b := .string (str ([] : List (BitVec 8)))) rfl (by rfl)), (Eq.trans (b := U64 (1#64)) rfl (by rfl)), hR, hk⟩
 ·skip
  clear hR hk
  rintro _ _ w5 ⟨n, rfl, f4, rfl, i1_0, s1_1, s1_2, s1_3, s1_4, s1_10, s1_11, s1_13, s1_14, s1_15, hR, hk⟩
  have hmul : Sha.ol kind * (n + 1) = Sha.ol kind * n + Sha.ol kind := Nat.mul_succ _ _
  have hn32 := Nat.mul_le_mul_right n hol.1
  have hlo := Pb.out_len kind pw salt r n
  refine wp_seq (sr (w_mv (es s1_14) (w_val (y_len es Tryd.underlying9) (w_mv (ei s1_4) (w_val (y_bin ei ei b_lss) (nt ?_))))))
  refine c_if (p := (((Pb.out kind pw salt r n).length : Nat) : Int) < ((l : Nat) : Int)) eb (fun hc6 => ?_) (fun hc6 => ?_)
  ·skip
   refine wp_skip (then_n (wp_seq (wp_block (sr (w_mv (e6 s1_15) (w_call (Tryd.func41) kr rfl (m2 e6 Ev.c) (refPut_c (BitVec.ofNat 64 (n + 1)) 4 om om (by rw [BitVec.toNat_ofNat]; omega) w5) ?_))))))
   rintro _ w7 ⟨rfl, hb8⟩
   refine ⟨_, rfl, ?_⟩
   replace hk := thenB hk hb8
   replace hR := Sha.RuleAt.below hR hb8
   refine w_mv (ex (.tuple #[.string (str (Oct.be (BitVec.ofNat 64 (n + 1)) 4)), .int .i64 0])) (w_val ye (w_val ye (w_as es (w_as ei (nt (sr (w_mv (ex (pt rp 0) s1_13) (w_mv (es s1_1) (w_mv (es s1_2) (w_mv es (w_val (y_bin es es (b_cat (by (try simp only [List.length_append, Pb.out_len, Pb.tn_len, Pb.un_len, Oct.length_be]); omega))) (w_call (Tryd.func42) kr rfl (m3 (ex (pt rp 0)) es es) (macWith_r kind hkd rp pw (salt ++ (Oct.be (BitVec.ofNat 64 (n + 1)) 4)) (by (try simp only [List.length_append, Pb.un_len, Oct.length_be]); omega) om w7 hR) ?_))))))))))))
   rintro _ w9 ⟨rfl, hb10⟩
   refine ⟨_, rfl, ?_⟩
   replace hk := thenB hk hb10
   replace hR := Sha.RuleAt.below hR hb10
   refine w_as es (nt (sr (w_mv es (w_as es (nt (wp_seq (sr (w_as Ev.c (nt (wp_block ?_))))))))))
   refine c_loop (fun dN aN wl => ∃ (k : Nat), dN = (r - 1 - k) ∧ ∃ f11, aN = fr 67 f11 ∧ (k ≤ r - 1) ∧ f11 1 = .string (str pw) ∧ f11 2 = .string (str salt) ∧ f11 3 = .int .i64 ((r : Nat) : Int) ∧ f11 4 = .int .i64 ((l : Nat) : Int) ∧ f11 10 = .string (str ([] : List (BitVec 8))) ∧ f11 11 = .int .i64 0 ∧ f11 13 = pt rp 0 ∧ f11 14 = .string (str (Pb.out kind pw salt r n)) ∧ f11 15 = U64 (BitVec.ofNat 64 (n + 1)) ∧ f11 18 = .string (str (Pb.un kind pw salt (n + 1) k)) ∧ f11 19 = .string (str (Pb.tn kind pw salt (n + 1) k)) ∧ f11 20 = .int .i64 (((k + 1) : Nat) : Int) ∧ Sha.RuleAt wl rp kind ∧ Below w0.heap.size w0 wl) (r - 1 - 0) ?_ ?_
   · exact ⟨0, rfl, _, rfl, iv, s1_1, s1_2, s1_3, s1_4, s1_10, s1_11, s1_13, s1_14, s1_15, rfl, (Eq.trans (b := .string (str (Pb.un kind pw salt (n + 1) 0))) rfl (by rfl)), (Eq.trans (b := .int .i64 1) rfl (by rfl)), hR, hk⟩
   ·skip
    clear hR hk
    rintro _ _ w12 ⟨k, rfl, f11, rfl, i2_0, s2_1, s2_2, s2_3, s2_4, s2_10, s2_11, s2_13, s2_14, s2_15, s2_18, s2_19, s2_20, hR, hk⟩
    refine wp_seq (sr (w_mv (ei s2_20) (w_mv (ei s2_3) (w_val (y_bin ei ei b_lss) (nt ?_)))))
    refine c_if (p := (((k + 1) : Nat) : Int) < ((r : Nat) : Int)) eb (fun hc13 => ?_) (fun hc13 => ?_)
    ·skip
     refine wp_skip (then_n (wp_seq (wp_block (sr (w_mv (ex (pt rp 0) s2_13) (w_mv (es s2_1) (w_mv (es s2_18) (w_call (Tryd.func42) kr rfl (m3 (ex (pt rp 0)) es es) (macWith_r kind hkd rp pw (Pb.un kind pw salt (n + 1) k) (by (try simp only [List.length_append, Pb.un_len, Oct.length_be]); omega) om w12 hR) ?_))))))))
     rintro _ w14 ⟨rfl, hb15⟩
     refine ⟨_, rfl, ?_⟩
     replace hk := thenB hk hb15
     replace hR := Sha.RuleAt.below hR hb15
     refine w_as es (nt (wp_region_lit (w_mv (es s2_19) (w_mv es (w_call (Tryd.func43) kr rfl (m2 es es) (refXor_c (Pb.tn kind pw salt (n + 1) k) (Pb.un kind pw salt (n + 1) (k + 1)) (by rw [Pb.tn_len]; omega) w14 ) ?_)))))
     rintro _ w16 ⟨rfl, hb17⟩
     refine ⟨_, rfl, ?_⟩
     replace hk := thenB hk hb17
     replace hR := Sha.RuleAt.below hR hb17
     refine w_as es (wpList_nil (inb_n (then_n (wp_region_lit (w_mv (ei s2_20) (w_val (y_bin ei Ev.c (b_add om)) (w_as ei (wpList_nil ?_))))))))
     exact then_n ⟨_, om, k + 1, rfl, _, rfl, iv, s2_1, s2_2, s2_3, s2_4, s2_10, s2_11, s2_13, s2_14, s2_15, rfl, (Eq.trans (b := .string (str (Oct.xor (Pb.tn kind pw salt (n + 1) k) (Pb.un kind pw salt (n + 1) (k + 1))))) rfl (by rfl)), (Eq.trans (b := .int .i64 ((((k + 1) : Nat) : Int) + 1)) rfl (by congr 1)), hR, hk⟩
    ·skip
     refine wp_exit (then_x (then_x (inb_x (then_n (wp_region_lit (w_mv (es s2_14) (w_mv (es s2_19) (w_val (y_bin es es (b_cat (by (try simp only [List.length_append, Pb.out_len, Pb.tn_len, Pb.un_len, Oct.length_be]); omega))) (w_as es (wpList_nil (inb_n (then_n (wp_region_lit (w_mv (e6 s2_15) (w_val (y_bin e6 (evc (U64 (1#64))) add64) (w_as e6 (wpList_nil ?_)))))))))))))))))
     exact then_n ⟨_, om, n + 1, rfl, _, rfl, iv, s2_1, s2_2, s2_3, s2_4, s2_10, s2_11, s2_13, (Eq.trans (b := .string (str ((Pb.out kind pw salt r n) ++ (Pb.tn kind pw salt (n + 1) k)))) rfl (by rw [show k = r - 1 from by omega]; rfl)), (Eq.trans (b := U64 ((BitVec.ofNat 64 (n + 1)) + (1#64))) rfl (by exact congrArg U64 (BitVec.ofNat_add (n := 64) (n + 1) 1).symm)), hR, hk⟩
  ·skip
   refine wp_exit (then_x (then_x (inb_x (then_n (sr (w_mv (es s1_14) (w_mv (ei s1_4) (w_val (v := .string (str ((Pb.out kind pw salt r n).take l))) (y_sls (ex (.string (str (Pb.out kind pw salt r n)))) evo.no (evo.s ei) Tryd.underlying9 (bnd_h (h := l) om (by (try simp only [Pb.out_len]); omega))) (w_as es (w_as Ev.c (nt (wp_ret (fin_ret2 rfl es ei ?_)))))))))))))
   refine ⟨congrArg Ending.returned ?_, hk⟩
   show (.tuple #[.string (str ((Pb.out kind pw salt r n).take l)), .int .i64 0] : Value) = .tuple #[.string (str (Pb.dk kind pw salt r l)), .int .i64 0]
   rw [Pb.out_take kind pw salt r n l om]

theorem pbRef_bad (k : Int) (pw salt : List (BitVec 8)) (r l : Int) (he : Pb.err k salt r l ≠ 0) (w0 : World) : Calls Tryd.prog 22 #[.int .i64 k, .string (str pw), .string (str salt), .int .i64 r, .int .i64 l] w0 fun e w' => e = .returned (.tuple #[.string (str ([] : List (BitVec 8))), .int .i64 (Pb.err k salt r l)]) ∧ Below w0.heap.size w0 w' := by
 refine enter (n := 67) Tryd.func22 rfl rfl rfl ?_
 have hk : Below w0.heap.size w0 w0 := Below.refl _ _
 refine sr (w_as (evc (.string (str ([] : List (BitVec 8))))) (w_as Ev.c (nt (wp_seq (sr (w_mv ei (w_mv es (w_mv ei (w_mv ei (w_call (Tryd.func39) kr rfl (m4 ei es ei ei) (pbWrong_l k pw salt r l  w0 ) ?_))))))))))
 rintro _ w1 ⟨rfl, hb2⟩
 refine ⟨_, rfl, ?_⟩
 replace hk := thenB hk hb2
 refine w_as ei (nt (sr (w_mv ei (w_val (y_bin ei Ev.c b_neq) (nt ?_)))))
 have hc3 : (Pb.err k salt r l) ≠ 0 := by exact he
 refine c_t (p := (Pb.err k salt r l) ≠ 0) eb hc3 (sr (w_mv ei (w_as (evc (.string (str ([] : List (BitVec 8))))) (w_as ei (nt (wp_ret (then_r (fin_ret2 rfl es ei ?_))))))))
 exact ⟨rfl, hk⟩

theorem refKey_l (k : Int) (pw salt : List (BitVec 8)) (r l : Int) (hp : pw.length ≤ 1099511627000) (w : World) : Calls Tryd.prog 22 #[.int .i64 k, .string (str pw), .string (str salt), .int .i64 r, .int .i64 l] w fun e w' => e = .returned (.tuple #[.string (str (Pb.key k pw salt r l).1), .int .i64 (Pb.key k pw salt r l).2]) ∧ Below w.heap.size w w' := by
  by_cases hk : k = 256 ∨ k = 384 ∨ k = 512
  · obtain ⟨kind, rfl⟩ : ∃ kind : Nat, k = kind := ⟨k.toNat, by omega⟩
    have hkd : Sha.Known kind := by unfold Sha.Known; omega
    by_cases h : r < 1 ∨ l < 1 ∨ 256 < l
    · have e : Pb.err (kind : Int) salt r l = 2 := by unfold Pb.err; rw [if_neg (fun x => x hk), if_pos h]
      rw [Pb.key_err _ _ _ _ _ om]; exact pbRef_bad _ pw salt r l om w
    by_cases h2 : 4096 < r
    · have e : Pb.err (kind : Int) salt r l = 14 := by unfold Pb.err; rw [if_neg (fun x => x hk), if_neg h, if_pos h2]
      rw [Pb.key_err _ _ _ _ _ om]; exact pbRef_bad _ pw salt r l om w
    by_cases h3 : 1024 < salt.length
    · have e : Pb.err (kind : Int) salt r l = 4 := by unfold Pb.err; rw [if_neg (fun x => x hk), if_neg h, if_neg h2, if_pos h3]
      rw [Pb.key_err _ _ _ _ _ om]; exact pbRef_bad _ pw salt r l om w
    have e : Pb.err (kind : Int) salt r l = 0 := by unfold Pb.err; rw [if_neg (fun x => x hk), if_neg h, if_neg h2, if_neg h3]
    obtain ⟨rr, rfl⟩ : ∃ n : Nat, r = n := ⟨r.toNat, by omega⟩
    obtain ⟨ll, rfl⟩ : ∃ n : Nat, l = n := ⟨l.toNat, by omega⟩
    rw [Pb.key_ok kind hkd pw salt rr ll om om om om om]
    exact pbRef_y kind hkd rr ll om om om om pw salt om hp w
  · have e : Pb.err k salt r l = 11 := by unfold Pb.err; rw [if_pos hk]
    rw [Pb.key_err _ _ _ _ _ om]; exact pbRef_bad _ pw salt r l om w
end Go.Proofs.YtepogbfkmflooaaDoor
