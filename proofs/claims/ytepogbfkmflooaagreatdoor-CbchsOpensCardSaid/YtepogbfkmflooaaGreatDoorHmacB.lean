/-
  Digests with a key: writing, again, telling. Conditions as each says. Texts that are sealed by a chain and a digest, plainly. Conditions as each says.
-/
import Derived.Test.YtepogbfkmflooaaGreatDoorRows
import Derived.Test.YtepogbfkmflooaaGreatDoorHmacA
import Derived.Test.YtepogbfkmflooaaGreatDoorGenSh
import Derived.ProofKit
import Derived.Test.YtepogbfkmflooaaGreatDoorCbcC
import Derived.Test.YtepogbfkmflooaaGreatDoorCbcPlain
namespace Go.Proofs.YtepogbfkmflooaaGreatDoor
open Go.RowKit
set_option linter.unusedSimpArgs false
set_option linter.unusedVariables false
set_option maxRecDepth 100000
set_option maxHeartbeats 1000000
namespace HmacBT
theorem mixed : Tryz.prog.follows .mixedOrders = true := by kernel_rfl
theorem fa89_0 (g off : Nat) : ∀ w, (Instr.fieldAt 89 (.pointer (some ⟨g, off, none⟩)) 0).run Tryz.prog w = .ok (.pointer (some ⟨g, off + 0, none⟩)) w := fun w => by kernel_rfl
theorem fa89_1 (g off : Nat) : ∀ w, (Instr.fieldAt 89 (.pointer (some ⟨g, off, none⟩)) 1).run Tryz.prog w = .ok (.pointer (some ⟨g, off + 1, none⟩)) w := fun w => by kernel_rfl
theorem fa89_2 (g off : Nat) : ∀ w, (Instr.fieldAt 89 (.pointer (some ⟨g, off, none⟩)) 2).run Tryz.prog w = .ok (.pointer (some ⟨g, off + 2, none⟩)) w := fun w => by kernel_rfl
theorem sc5 : (Tryz.prog.underlying 5).map scal = some true := by rw [Tryz.underlying5]; rfl
theorem sc87 : (Tryz.prog.underlying 87).map scal = some true := by rw [Tryz.underlying87]; rfl
theorem sz5 : (Tryz.prog.info? 5).map (·.size) = some 1 := by kernel_rfl
theorem sz87 : (Tryz.prog.info? 87).map (·.size) = some 1 := by kernel_rfl
end HmacBT
theorem macWrite_l (kind : Nat) (hkd : Sha.Known kind) (m pi po pn : Nat) (t s : List (BitVec 8)) (h1 : 0 < pn ∧ 1 < pn) (hs : s.length ≤ 140737488351232) (nm : m ≠ pn) (w0 : World) (r_m : Row w0 m 89 3 (fun j => if j < 1 then pt pi 0 else if j < 2 then pt po 0 else pt pn 0)) (hT : Sha.Tabs w0) (hn : Sha.At w0 pn kind t) : Calls Tryz.prog 39 #[pt m 0, .string (str s)] w0 fun e w' => e = .returned (.int .i64 0) ∧ Sha.At w' pn kind (t ++ s) ∧ w0.grownBy w' (some pn) := by
 have hT0 := hT.lt
 refine enter (n := 20) Tryz.func39 rfl rfl rfl ?_
 have hk : w0.grownBy w0 (some pn) := grown_refl _ _
 have lt_m := r_m.lt
 refine sr (w_as Ev.c (nt (wp_seq (sr (w_mv (ex (pt m 0)) (w_val (y_bin (ex (pt m 0)) Ev.c (b_eqp Tryz.underlying57)) (w_mv eb (w_val_g (v := pt m 0) (wy rfl rfl eb) (y_mv (ex (pt m 0))) (w_val_g (wy rfl rfl eb) (y_nc (ex (pt m 0))) (w_val_g (v := pt m 2) (wy rfl rfl eb) (y_off (y_fa (ex (pt m 0)) (HmacBT.fa89_2 _ _)) ro) (w_val_g (v := pt pn 0) (wy rfl rfl eb) (y_ld (ex (pt m 2)) HmacBT.sc87 (r_m.val om (ng (ng dv)))) (w_val_g (wy rfl rfl eb) (y_bin (ex (pt pn 0)) Ev.c (b_eqp Tryz.underlying87)) (w_val (y_pick_f eb eb) (nt (c_ff eb (wp_skip (then_n (sr (w_mv (ex (pt m 0)) (w_val (y_nc (ex (pt m 0))) (w_val (v := pt m 2) (y_off (y_fa (ex (pt m 0)) (HmacBT.fa89_2 _ _)) ro) (w_val (v := pt pn 0) (y_ld (ex (pt m 2)) HmacBT.sc87 (r_m.val om (ng (ng dv)))) (w_mv es ?_)))))))))))))))))))))))
 have hw_ := hn
 clear hn
 refine w_call (Tryz.func59) kr rfl (m2 (ex (pt pn 0)) es) (write_l kind t s w0 pn om hkd om hw_ hT) ?_
 rintro _ w1 ⟨rfl, hn, hgw⟩
 refine ⟨_, rfl, ?_⟩
 replace r_m := r_m.stepG hgw om
 replace hk := grown_thenG hk hgw om
 replace hT := Sha.Tabs.grown hT hgw om om
 refine w_as ei (nt (wp_ret (fin_ret1 rfl ei ?_)))
 exact ⟨rfl, hn, hk⟩

theorem macSum_l (kind : Nat) (hkd : Sha.Known kind) (m pi po pn : Nat) (t u : List (BitVec 8)) (h1 : 0 < pn ∧ 1 < pn) (h2 : 0 < po ∧ 1 < po) (ht : t.length ≤ 1152921504606846976) (hu : u.length ≤ 128) (hne : po ≠ pn) (w0 : World) (r_m : Row w0 m 89 3 (fun j => if j < 1 then pt pi 0 else if j < 2 then pt po 0 else pt pn 0)) (hT : Sha.Tabs w0) (ho : Sha.At w0 po kind u) (hn : Sha.At w0 pn kind t) : Calls Tryz.prog 40 #[pt m 0] w0 fun e w' => e = .returned (.tuple #[.string (str (Sha.sum kind (u ++ (Sha.sum kind t)))), .int .i64 0]) ∧ Below w0.heap.size w0 w' := by
 have hT0 := hT.lt
 have hol := Sha.ol_lt kind
 have hls := fun x => Sha.length_sum kind x
 refine enter (n := 36) Tryz.func40 rfl rfl rfl ?_
 have hk : Below w0.heap.size w0 w0 := Below.refl _ _
 have lt_m := r_m.lt
 refine sr (w_as (evc (.string (str ([] : List (BitVec 8))))) (w_as Ev.c (nt (wp_seq (sr (w_mv (ex (pt m 0)) (w_val (y_bin (ex (pt m 0)) Ev.c (b_eqp Tryz.underlying57)) (w_mv eb (w_val_g (v := pt m 0) (wy rfl rfl eb) (y_mv (ex (pt m 0))) (w_val_g (wy rfl rfl eb) (y_nc (ex (pt m 0))) (w_val_g (v := pt m 2) (wy rfl rfl eb) (y_off (y_fa (ex (pt m 0)) (HmacBT.fa89_2 _ _)) ro) (w_val_g (v := pt pn 0) (wy rfl rfl eb) (y_ld (ex (pt m 2)) HmacBT.sc87 (r_m.val om (ng (ng dv)))) (w_val_g (wy rfl rfl eb) (y_bin (ex (pt pn 0)) Ev.c (b_eqp Tryz.underlying87)) (w_val (y_pick_f eb eb) (nt (c_ff eb (wp_skip (then_n (sr (w_mv (ex (pt m 0)) (w_val (y_nc (ex (pt m 0))) (w_val (v := pt m 2) (y_off (y_fa (ex (pt m 0)) (HmacBT.fa89_2 _ _)) ro) (w_val (v := pt pn 0) (y_ld (ex (pt m 2)) HmacBT.sc87 (r_m.val om (ng (ng dv)))) (w_call (Tryz.func61) kr rfl (m1 (ex (pt pn 0))) (sum_l kind t w0 pn om hkd (by (try simp only [List.nil_append, List.length_append, List.length_nil, Sha.length_sum]); omega) hn hT) ?_))))))))))))))))))))))))
 rintro _ w1 ⟨rfl, hb2⟩
 refine ⟨_, rfl, ?_⟩
 replace r_m := r_m.step hb2
 replace hk := thenB hk hb2
 replace hT := Sha.Tabs.below hT hb2
 replace ho := Sha.At.below ho hb2
 replace hn := Sha.At.below hn hb2
 refine w_mv (ex (.tuple #[.string (str (Sha.sum kind t)), .int .i64 0])) (w_val ye (w_val ye (w_as es (w_as ei (nt (sr (w_mv (ex (pt m 0)) (w_val (y_nc (ex (pt m 0))) (w_val (v := pt m 1) (y_off (y_fa (ex (pt m 0)) (HmacBT.fa89_1 _ _)) ro) (w_val (v := pt po 0) (y_ld (ex (pt m 1)) HmacBT.sc87 (r_m.val om (ng pz))) (w_call (Tryz.func60) kr rfl (m1 (ex (pt po 0))) (copy_l kind u w1 po om hkd ho) ?_)))))))))))
 rintro _ w3 ⟨ph, rfl, hge_ph, hh, hb_ph⟩
 refine ⟨_, rfl, ?_⟩
 have ne_m_ph : m ≠ ph := by have := r_m.lt; omega
 have ne_po_ph : po ≠ ph := by have := ho.lt; omega
 have ne_pn_ph : pn ≠ ph := by have := hn.lt; omega
 have ge_ph : w0.heap.size ≤ ph := by have := hk.size; omega
 replace r_m := r_m.step hb_ph
 replace hk := thenB hk hb_ph
 replace hT := Sha.Tabs.below hT hb_ph
 replace ho := Sha.At.below ho hb_ph
 replace hn := Sha.At.below hn hb_ph
 refine w_as (ex (pt ph 0)) (nt (sr (w_mv (ex (pt ph 0)) (w_mv es ?_))))
 have hw_ := hh
 clear hh
 refine w_call (Tryz.func59) kr rfl (m2 (ex (pt ph 0)) es) (write_l kind u (Sha.sum kind t) w3 ph om hkd (by rw [Sha.length_sum]; omega) hw_ hT) ?_
 rintro _ w4 ⟨rfl, hh, hgw⟩
 refine ⟨_, rfl, ?_⟩
 replace r_m := r_m.stepG hgw om
 replace hk := thenG hk hgw om
 replace hT := Sha.Tabs.grown hT hgw om om
 replace ho := Sha.At.grown ho hgw om
 replace hn := Sha.At.grown hn hgw om
 refine nt (sr (w_mv (ex (pt ph 0)) (w_call (Tryz.func61) kr rfl (m1 (ex (pt ph 0))) (sum_l kind (u ++ (Sha.sum kind t)) w4 ph om hkd (by (try simp only [List.nil_append, List.length_append, List.length_nil, Sha.length_sum]); omega) hh hT) ?_)))
 rintro _ w5 ⟨rfl, hb6⟩
 refine ⟨_, rfl, ?_⟩
 replace r_m := r_m.step hb6
 replace hk := thenB hk hb6
 replace hT := Sha.Tabs.below hT hb6
 replace ho := Sha.At.below ho hb6
 replace hn := Sha.At.below hn hb6
 replace hh := Sha.At.below hh hb6
 refine w_val ye (w_val ye (w_as es (w_as ei (nt (wp_ret (fin_ret2 rfl es ei ?_))))))
 exact ⟨rfl, hk⟩
end Go.Proofs.YtepogbfkmflooaaGreatDoor
namespace Go.Proofs.YtepogbfkmflooaaGreatDoor
open Go.RowKit
set_option linter.unusedSimpArgs false
set_option linter.unusedVariables false
namespace Ch
abbrev L8 := List (BitVec 8)
def bl (s : L8) : L8 := Oct.be (BitVec.ofNat 64 (8 * s.length)) 8
theorem bl_len (s : L8) : (bl s).length = 8 := Oct.length_be _ _
theorem mul8 (n : Nat) : BitVec.ofNat 64 n * 8#64 = BitVec.ofNat 64 (8 * n) := by
  rw [Nat.mul_comm]
  exact (BitVec.ofNat_mul (n := 64) n 8).symm
/-- the pieces that are told of -/
def pt (aad iv c : L8) (i : Nat) : L8 := if i = 0 then aad else if i = 1 then iv else if i = 2 then c else bl aad
def upto (b aad iv c : L8) : Nat → L8
  | 0 => b
  | i + 1 => upto b aad iv c i ++ pt aad iv c i
theorem upto_4 (b aad iv c : L8) : upto b aad iv c 4 = b ++ (((aad ++ iv) ++ c) ++ bl aad) := by
  show (((b ++ aad) ++ iv) ++ c) ++ bl aad = _
  simp only [List.append_assoc]
theorem pt_len (aad iv c : L8) (i : Nat) : (pt aad iv c i).length ≤ aad.length + iv.length + c.length + 8 := by
  unfold pt
  split
  · omega
  · split
    · omega
    · split
      · omega
      · rw [bl_len]; omega
theorem upto_len' (b aad iv c : L8) : ∀ i, i ≤ 4 → (upto b aad iv c i).length ≤ b.length + i * (aad.length + iv.length + c.length + 8)
  | 0, _ => by show b.length ≤ _; omega
  | i + 1, h => by
    have h1 := upto_len' b aad iv c i (by omega)
    have h2 := pt_len aad iv c i
    show (upto b aad iv c i ++ pt aad iv c i).length ≤ _
    rw [List.length_append, Nat.succ_mul]; omega
theorem upto_len (b aad iv c : L8) (i : Nat) (h : i ≤ 4) : (upto b aad iv c i).length ≤ b.length + 4 * (aad.length + iv.length + c.length + 8) :=
  Nat.le_trans (upto_len' b aad iv c i h) (Nat.add_le_add_left (Nat.mul_le_mul_right _ h) _)
/-- kind: the digest's; n: half of the key -/
def tg (kind n : Nat) (key iv aad c : L8) : L8 := (Hm.mac kind (key.take n) (((aad ++ iv) ++ c) ++ bl aad)).take n
theorem tg_of (kind n : Nat) (key iv aad c : L8) : (Sha.sum kind (Hm.pd kind (key.take n) 92#8 ++ Sha.sum kind (upto (Hm.pd kind (key.take n) 54#8) aad iv c 4))).take n = tg kind n key iv aad c := by
  rw [upto_4]; rfl
theorem n_ol (kind n : Nat) (h : Sha.Known kind) (hn : kind = 16 * n) : Sha.ol kind = 2 * n := by
  rcases h with h | h | h <;> subst h
  · show 32 = 2 * n; omega
  · show 48 = 2 * n; omega
  · show 64 = 2 * n; omega
theorem tg_len (kind n : Nat) (key iv aad c : L8) (h : Sha.Known kind) (hn : kind = 16 * n) : (tg kind n key iv aad c).length = n := by
  unfold tg
  rw [List.length_take, Hm.mac_len, n_ol kind n h hn]; omega
theorem n_cases (kind n : Nat) (h : Sha.Known kind) (hn : kind = 16 * n) : n = 16 ∨ n = 24 ∨ n = 32 := by
  rcases h with h | h | h <;> omega
theorem key_ok (kind n : Nat) (key : L8) (h : Sha.Known kind) (hn : kind = 16 * n) (hk : key.length = 2 * n) : Aes.okKey (key.drop n).length := by
  have hl : (key.drop n).length = n := by rw [List.length_drop]; omega
  rw [hl]
  exact n_cases kind n h hn
def cc (n : Nat) (key iv t : L8) : L8 := Cb.chain (key.drop n) iv (Cb.pad t 16)
theorem cc_len (n : Nat) (key iv t : L8) : (cc n key iv t).length = t.length + Cb.pn t.length 16 := by
  unfold cc
  rw [Cb.chain_len, Cb.pad_len]
def sealed (kind n : Nat) (key iv aad t : L8) : L8 := cc n key iv t ++ tg kind n key iv aad (cc n key iv t)
theorem sealed_len (kind n : Nat) (key iv aad t : L8) (h : Sha.Known kind) (hn : kind = 16 * n) : (sealed kind n key iv aad t).length = (cc n key iv t).length + n := by
  unfold sealed
  rw [List.length_append, tg_len _ _ _ _ _ _ h hn]
theorem cat_take (a b : L8) (m : Nat) (h : m = a.length) : (a ++ b).take m = a := by subst h; exact List.take_left ..
theorem cat_drop (a b : L8) (m : Nat) (h : m = a.length) : (a ++ b).drop m = b := by subst h; exact List.drop_left ..
theorem sealed_take (kind n : Nat) (key iv aad t : L8) : (sealed kind n key iv aad t).take (cc n key iv t).length = cc n key iv t := cat_take _ _ _ rfl
theorem sealed_drop (kind n : Nat) (key iv aad t : L8) : (sealed kind n key iv aad t).drop (cc n key iv t).length = tg kind n key iv aad (cc n key iv t) := cat_drop _ _ _ rfl
theorem cc_mod (n : Nat) (key iv t : L8) : (cc n key iv t).length % 16 = 0 ∧ 16 ≤ (cc n key iv t).length ∧ (cc n key iv t).length ≤ t.length + 16 := by
  rw [cc_len]
  have := Cb.pn_mod t.length 16 (by decide)
  have := Cb.pn_le t.length 16
  have := Cb.pn_pos t.length 16 (by decide)
  omega
/-- what comes of opening the first m -/
def un (n : Nat) (key iv c : L8) : L8 := Cb.unchain (key.drop n) iv c
def op (n : Nat) (key iv c : L8) : L8 := (un n key iv c).take ((un n key iv c).length - Cb.last (un n key iv c))
theorem un_cc (n : Nat) (key iv t : L8) (hk : Aes.okKey (key.drop n).length) (hi : iv.length = 16) : un n key iv (cc n key iv t) = Cb.pad t 16 := by
  refine Cb.unchain_chain (key.drop n) iv (Cb.pad t 16) hk hi ?_
  rw [Cb.pad_len]
  exact Cb.pn_mod _ 16 (by decide)
theorem op_cc (n : Nat) (key iv t : L8) (hk : Aes.okKey (key.drop n).length) (hi : iv.length = 16) : Cb.Padded (un n key iv (cc n key iv t)) 16 ∧ op n key iv (cc n key iv t) = t := by
  unfold op
  rw [un_cc n key iv t hk hi]
  obtain ⟨h1, h2⟩ := Cb.pad_padded t 16 (by decide) (by decide)
  refine ⟨h1, ?_⟩
  rw [h2, Cb.pad_take]
def wk : L8 := [48#8, 49#8, 50#8, 51#8, 52#8, 53#8, 54#8, 55#8, 56#8, 57#8, 97#8, 98#8, 99#8, 100#8, 101#8, 102#8, 48#8, 49#8, 50#8, 51#8, 52#8, 53#8, 54#8, 55#8, 56#8, 57#8, 97#8, 98#8, 99#8, 100#8, 101#8, 102#8]
def wx : L8 := [120#8]
def wy : L8 := [121#8]
theorem wakes : ¬ tg 256 16 wk (wk.take 16) wy (cc 16 wk (wk.take 16) Cb.wt) = tg 256 16 wk (wk.take 16) wx (cc 16 wk (wk.take 16) Cb.wt) := by decide +kernel
theorem wlen : (sealed 256 16 wk (wk.take 16) wx Cb.wt).length = 32 := by
  rw [sealed_len _ _ _ _ _ _ (.inl rfl) rfl, cc_len]; rfl
end Ch
end Go.Proofs.YtepogbfkmflooaaGreatDoor
