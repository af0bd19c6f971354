/-
  The reference's cipher of a key, and its words. Conditions as each says.
-/
import Derived.Test.YtepogbfkmflooaaGreatDoorRows
import Derived.Test.YtepogbfkmflooaaGreatDoorGenAny
import Derived.Test.YtepogbfkmflooaaGreatDoorOct
import Derived.Test.YtepogbfkmflooaaGreatDoorAesBackPlain
import Derived.Test.YtepogbfkmflooaaGreatDoorAesOnce
import Derived.Test.YtepogbfkmflooaaGreatDoorAesExpand
import Derived.Test.YtepogbfkmflooaaGreatDoorAesPrep
import Derived.Test.YtepogbfkmflooaaGreatDoorGenSh
import Derived.ProofKit
namespace Go.Proofs.YtepogbfkmflooaaGreatDoor
open Go.RowKit
set_option linter.unusedSimpArgs false
set_option linter.unusedVariables false
set_option maxRecDepth 100000
set_option maxHeartbeats 1000000
namespace AesRefNT
theorem mixed : Tryz.prog.follows .mixedOrders = true := by kernel_rfl
theorem ag77 : (Tryz.prog.underlying 77).map isAggD = some true := by rw [Tryz.underlying77]; rfl
theorem fa74_0 (g off : Nat) : ∀ w, (Instr.fieldAt 74 (.pointer (some ⟨g, off, none⟩)) 0).run Tryz.prog w = .ok (.pointer (some ⟨g, off + 0, none⟩)) w := fun w => by kernel_rfl
theorem fa74_1 (g off : Nat) : ∀ w, (Instr.fieldAt 74 (.pointer (some ⟨g, off, none⟩)) 1).run Tryz.prog w = .ok (.pointer (some ⟨g, off + 256, none⟩)) w := fun w => by kernel_rfl
theorem fa74_2 (g off : Nat) : ∀ w, (Instr.fieldAt 74 (.pointer (some ⟨g, off, none⟩)) 2).run Tryz.prog w = .ok (.pointer (some ⟨g, off + 512, none⟩)) w := fun w => by kernel_rfl
theorem sc5 : (Tryz.prog.underlying 5).map scal = some true := by rw [Tryz.underlying5]; rfl
theorem sc72 : (Tryz.prog.underlying 72).map scal = some true := by rw [Tryz.underlying72]; rfl
theorem so3 : (Tryz.prog.underlying 3).isSome = true := by rw [Tryz.underlying3]; rfl
theorem sz5 : (Tryz.prog.info? 5).map (·.size) = some 1 := by kernel_rfl
theorem sz72 : (Tryz.prog.info? 72).map (·.size) = some 1 := by kernel_rfl
theorem sz77 : (Tryz.prog.info? 77).map (·.size) = some 4 := by kernel_rfl
end AesRefNT
theorem Aes.mul2_all : ∀ n, n < 256 → Aes.mul (BitVec.ofNat 8 n) 2#8 = Aes.xt (BitVec.ofNat 8 n) := by decide +kernel
theorem Aes.mul2 (b : BitVec 8) : Aes.mul b 2#8 = Aes.xt b := by
  have := Aes.mul2_all _ b.isLt
  rw [BitVec.ofNat_toNat, BitVec.setWidth_eq] at this
  exact this
theorem Aes.pk_last (i : Nat) (h : 1 ≤ i) : Aes.mul (Aes.pk (i - 1)) 3#8 = Aes.pk i := by
  rw [Aes.pk_mul, Nat.sub_add_cancel h]
theorem Aes.pst_set (i j : Nat) (hj : j < 256) : (if j = (Aes.pk i).toNat then U8 ((Aes.rr (Aes.pk ((255 - i) % 255)) 4).2 ^^^ 99#8) else U8 (gb (Aes.pst i) j)) = U8 (gb (Aes.pst (i + 1)) j) := by
  show _ = U8 (gb ((Aes.pst i).set (Aes.pk i).toNat ((Aes.rr (Aes.pk ((255 - i) % 255)) 4).2 ^^^ 99#8)) j)
  rw [Aes.gb_set _ _ _ _ (by rw [Aes.length_pst]; exact hj)]
  split <;> rfl
theorem Aes.bt_set (i j : Nat) (hj : j < 256) : (if j = (Aes.sb i).toNat then U8 (BitVec.ofNat 8 i) else U8 (gb (Aes.bt i) j)) = U8 (gb (Aes.bt (i + 1)) j) := by
  show _ = U8 (gb ((Aes.bt i).set (Aes.sb i).toNat (BitVec.ofNat 8 i)) j)
  rw [Aes.gb_set _ _ _ _ (by rw [Aes.length_bt]; exact hj)]
  split <;> rfl
theorem Aes.box_start (j : Nat) (X Y : Value) : (if j = 0 then U8 99#8 else if j < 256 then U8 0#8 else if j < 512 then X else Y) = if j < 256 then U8 (gb (Aes.pst 0) j) else if j < 512 then X else Y := by
  by_cases e2 : j < 256
  · rw [if_pos e2, if_pos e2]
    show _ = U8 (gb ((List.replicate 256 0#8).set 0 99#8) j)
    rw [Aes.gb_set _ _ _ _ (Nat.lt_of_lt_of_eq e2 List.length_replicate.symm), gb_rep]
    by_cases e : j = 0
    · rw [if_pos e, if_pos e]
    · rw [if_neg e, if_neg e]
  · rw [if_neg e2, if_neg e2, if_neg om]
theorem Aes.box_step (i j : Nat) (X Y : Value) : (if j = (Aes.pk i).toNat then U8 ((Aes.rr (Aes.pk ((255 - i) % 255)) 4).2 ^^^ 99#8) else if j < 256 then U8 (gb (Aes.pst i) j) else if j < 512 then X else Y) = if j < 256 then U8 (gb (Aes.pst (i + 1)) j) else if j < 512 then X else Y := by
  have := (Aes.pk i).isLt
  by_cases e2 : j < 256
  · rw [if_pos e2, if_pos e2]; exact Aes.pst_set i j e2
  · rw [if_neg e2, if_neg e2, if_neg om]
theorem Aes.box_mid (i j : Nat) (hi : i = 255) (Y : Value) : (if j < 256 then U8 (gb (Aes.pst i) j) else if j < 512 then U8 0#8 else Y) = if j < 256 then U8 (Aes.sb j) else if j < 512 then U8 (gb (Aes.bt 0) (j - 256)) else Y := by
  subst hi
  by_cases e2 : j < 256
  · rw [if_pos e2, if_pos e2]; exact congrArg U8 (Aes.gb_pst j e2)
  · rw [if_neg e2, if_neg e2]
    by_cases e3 : j < 512
    · rw [if_pos e3, if_pos e3]; exact congrArg U8 (gb_rep 256 (j - 256)).symm
    · rw [if_neg e3, if_neg e3]
theorem Aes.box_back (i j : Nat) (Y : Value) : (if j = 256 + (Aes.sb i).toNat then U8 (BitVec.ofNat 8 i) else if j < 256 then U8 (Aes.sb j) else if j < 512 then U8 (gb (Aes.bt i) (j - 256)) else Y) = if j < 256 then U8 (Aes.sb j) else if j < 512 then U8 (gb (Aes.bt (i + 1)) (j - 256)) else Y := by
  have := (Aes.sb i).isLt
  by_cases e2 : j < 256
  · rw [if_neg om, if_pos e2, if_pos e2]
  · rw [if_neg e2, if_neg e2]
    by_cases e3 : j < 512
    · rw [if_pos e3, if_pos e3, ← Aes.bt_set i (j - 256) om]
      by_cases e4 : j - 256 = (Aes.sb i).toNat
      · rw [if_pos e4, if_pos om]
      · rw [if_neg e4, if_neg om]
    · rw [if_neg e3, if_neg e3, if_neg om]
theorem Aes.box_last (j : Nat) (Y : Value) : (if j < 256 then U8 (Aes.sb j) else if j < 512 then U8 (gb (Aes.bt 256) (j - 256)) else Y) = if j < 256 then U8 (Aes.sb j) else if j < 512 then U8 (Aes.bk (j - 256)) else Y := by
  by_cases e2 : j < 256
  · rw [if_pos e2, if_pos e2]
  · rw [if_neg e2, if_neg e2]
    by_cases e3 : j < 512
    · rw [if_pos e3, if_pos e3]; exact congrArg U8 (Aes.gb_bt (j - 256) om)
    · rw [if_neg e3, if_neg e3]
theorem Aes.box_words (j : Nat) (hj : j < 513) (Y Z : Value) : (if j = 512 then Y else if j < 256 then U8 (Aes.sb j) else if j < 512 then U8 (Aes.bk (j - 256)) else Z) = if j < 256 then U8 (Aes.sb j) else if j < 512 then U8 (Aes.bk (j - 256)) else Y := by
  by_cases e : j = 512
  · subst e; rfl
  · rw [if_neg e]
    by_cases e2 : j < 256
    · rw [if_pos e2, if_pos e2]
    · rw [if_neg e2, if_neg e2, if_pos om, if_pos om]
/-- what is added to the word n before -/
def Aes.tW (n : Nat) (W : List (BitVec 32)) (i : Nat) : BitVec 32 :=
  if i % n = 0 then Aes.subW Aes.sb (Aes.gw W (i - 1) <<< 8 ||| Aes.gw W (i - 1) >>> 24) ^^^ (Aes.rc (i / n - 1)).setWidth 32 <<< 24
  else if n = 8 ∧ i % 8 = 4 then Aes.subW Aes.sb (Aes.gw W (i - 1)) else Aes.gw W (i - 1)
theorem Aes.byte_sub (w : BitVec 32) (r : Nat) (hr : r < 4) : Aes.byteOf (Aes.subW Aes.sb w) r = Aes.sb (Aes.byteOf w r).toNat := by
  have h : Aes.subW Aes.sb w = Aes.word (Aes.sb (Aes.byteOf w 0).toNat) (Aes.sb (Aes.byteOf w 1).toNat) (Aes.sb (Aes.byteOf w 2).toNat) (Aes.sb (Aes.byteOf w 3).toNat) := by
    have e : ∀ x : BitVec 32, idx (x &&& 255#32) = (x.setWidth 8).toNat := fun x => by
      show (x &&& 255#32).toNat = _
      rw [BitVec.toNat_and, BitVec.toNat_setWidth]
      exact Nat.and_two_pow_sub_one_eq_mod _ 8
    have e3 : idx (w >>> 24) = ((w >>> 24).setWidth 8).toNat := by
      show (w >>> 24).toNat = _
      rw [BitVec.toNat_setWidth, Nat.mod_eq_of_lt]
      have := w.isLt
      rw [BitVec.toNat_ushiftRight, Nat.shiftRight_eq_div_pow]; omega
    unfold Aes.subW Aes.word Aes.byteOf
    rw [e3, e, e, e]
    rfl
  rw [h]
  match r, hr with
  | 0, _ => exact Aes.byteOf0 _ _ _ _
  | 1, _ => exact Aes.byteOf1 _ _ _ _
  | 2, _ => exact Aes.byteOf2 _ _ _ _
  | 3, _ => exact Aes.byteOf3 _ _ _ _
theorem Aes.byte_rot (w : BitVec 32) (r : Nat) (hr : r < 4) : Aes.byteOf (w <<< 8 ||| w >>> 24) r = Aes.byteOf w ((r + 1) % 4) := by
  have h := Aes.rot8 (Aes.byteOf w 0) (Aes.byteOf w 1) (Aes.byteOf w 2) (Aes.byteOf w 3)
  rw [Aes.word_byteOf] at h
  rw [h]
  match r, hr with
  | 0, _ => exact Aes.byteOf0 _ _ _ _
  | 1, _ => exact Aes.byteOf1 _ _ _ _
  | 2, _ => exact Aes.byteOf2 _ _ _ _
  | 3, _ => exact Aes.byteOf3 _ _ _ _
theorem Aes.byte_rc (b : BitVec 8) (r : Nat) (hr : r < 4) : Aes.byteOf (b.setWidth 32 <<< 24) r = if r = 0 then b else 0#8 := by
  have h : b.setWidth 32 <<< 24 = Aes.word b 0#8 0#8 0#8 := by unfold Aes.word; simp
  rw [h]
  match r, hr with
  | 0, _ => exact Aes.byteOf0 _ _ _ _
  | 1, _ => exact Aes.byteOf1 _ _ _ _
  | 2, _ => exact Aes.byteOf2 _ _ _ _
  | 3, _ => exact Aes.byteOf3 _ _ _ _
theorem Aes.tW_rot (n : Nat) (W : List (BitVec 32)) (i j : Nat) (hj : j < 4) (hn : 1 ≤ n) (hi : n ≤ i) (h : i % n = 0) :
    (if j < 1 then U8 (Aes.sb (Aes.byteOf (Aes.gw W (i - 1)) 1).toNat ^^^ Aes.rc ((i - 1) / n)) else if j < 2 then U8 (Aes.sb (Aes.byteOf (Aes.gw W (i - 1)) 2).toNat)
      else if j < 3 then U8 (Aes.sb (Aes.byteOf (Aes.gw W (i - 1)) 3).toNat) else U8 (Aes.sb (Aes.byteOf (Aes.gw W (i - 1)) 0).toNat)) = U8 (Aes.byteOf (Aes.tW n W i) j) := by
  unfold Aes.tW
  rw [Aes.div_pred i n hn hi h, if_pos h, Aes.byte_xor, Aes.byte_sub _ _ hj, Aes.byte_rot _ _ hj, Aes.byte_rc _ _ hj]
  match j, hj with
  | 0, _ => rfl
  | 1, _ => simp
  | 2, _ => simp
  | 3, _ => simp
theorem Aes.tW_sub (n : Nat) (W : List (BitVec 32)) (i j : Nat) (hj : j < 4) (h : ¬ i % n = 0) (h2 : n = 8 ∧ i % 8 = 4) :
    (if j < 1 then U8 (Aes.sb (Aes.byteOf (Aes.gw W (i - 1)) 0).toNat) else if j < 2 then U8 (Aes.sb (Aes.byteOf (Aes.gw W (i - 1)) 1).toNat)
      else if j < 3 then U8 (Aes.sb (Aes.byteOf (Aes.gw W (i - 1)) 2).toNat) else U8 (Aes.sb (Aes.byteOf (Aes.gw W (i - 1)) 3).toNat)) = U8 (Aes.byteOf (Aes.tW n W i) j) := by
  unfold Aes.tW
  rw [if_neg h, if_pos h2, Aes.byte_sub _ _ hj]
  match j, hj with
  | 0, _ => rfl
  | 1, _ => rfl
  | 2, _ => rfl
  | 3, _ => rfl
theorem Aes.tW_same (n : Nat) (W : List (BitVec 32)) (i j : Nat) (h : ¬ i % n = 0) (h2 : ¬ (n = 8 ∧ i % 8 = 4)) : U8 (Aes.byteOf (Aes.gw W (i - 1)) j) = U8 (Aes.byteOf (Aes.tW n W i) j) := by
  unfold Aes.tW
  rw [if_neg h, if_neg h2]
theorem Aes.row_key (key : List (BitVec 8)) (W : List (BitVec 32)) (n i j : Nat) (hi : i < n) (hw : Aes.gw W i = Aes.nextW key n W i) (hj : j < (i + 1) * 4) :
    (if j < i * 4 then U8 (Aes.byteOf (Aes.gw W (j / 4)) (j % 4)) else U8 (gb key (4 * i + (0 + (j - i * 4))))) = U8 (Aes.byteOf (Aes.gw W (j / 4)) (j % 4)) := by
  by_cases h : j < i * 4
  · rw [if_pos h]
  · rw [if_neg h, show j / 4 = i from by omega, hw]
    unfold Aes.nextW
    rw [if_pos hi]
    unfold Aes.col
    have hr : j - i * 4 < 4 := by omega
    rw [show j % 4 = j - i * 4 from by omega, Nat.zero_add]
    generalize j - i * 4 = r at hr
    match r, hr with
    | 0, _ => rw [Aes.byteOf0]; rfl
    | 1, _ => rw [Aes.byteOf1]
    | 2, _ => rw [Aes.byteOf2]
    | 3, _ => rw [Aes.byteOf3]
theorem Aes.row_next (key : List (BitVec 8)) (W : List (BitVec 32)) (n i j : Nat) (hi : ¬ i < n) (hw : Aes.gw W i = Aes.nextW key n W i) (hj : j < (i + 1) * 4) :
    (if j < i * 4 then U8 (Aes.byteOf (Aes.gw W (j / 4)) (j % 4)) else U8 (Aes.byteOf (Aes.gw W (i - n)) (0 + (j - i * 4)) ^^^ Aes.byteOf (Aes.tW n W i) (0 + (j - i * 4)))) = U8 (Aes.byteOf (Aes.gw W (j / 4)) (j % 4)) := by
  by_cases h : j < i * 4
  · rw [if_pos h]
  · rw [if_neg h, show j / 4 = i from by omega, hw]
    unfold Aes.nextW
    rw [if_neg hi, Aes.byte_xor, show j % 4 = 0 + (j - i * 4) from by omega]
    rfl

set_option maxHeartbeats 4000000 in
theorem refNew_w (key : List (BitVec 8)) (n : Nat) (W : List (BitVec 32)) (hW : ∀ k, k < 4 * (n + 7) → Aes.gw W k = Aes.nextW key n W k) (hkey : key.length = 4 * n) (h4 : 4 ≤ n) (h8 : n ≤ 8) (w0 : World) : Calls Tryz.prog 28 #[.string (str key)] w0 fun e w' => ∃ (b : Nat) (v : Value), e = .returned (.pointer (some ⟨b, 0, none⟩)) ∧ Below w0.heap.size w0 w' ∧ w0.heap.size ≤ b ∧ Row w' b 74 513 (fun j => if j < 256 then U8 (Aes.sb j) else if j < 512 then U8 (Aes.bk (j - 256)) else v) ∧ Own w' w0.heap.size 77 4 v (4 * (n + 7)) (fun j => U8 (Aes.byteOf (Aes.gw W (j / 4)) (j % 4))) := by
 refine enter (n := 231) Tryz.func28 rfl rfl rfl ?_
 have hk : Below w0.heap.size w0 w0 := Below.refl _ _
 refine sr (w_as Ev.c (nt (sr (w_val (v := .agg (arr 513 (fun j => if j < 256 then U8 (0#8) else if j < 512 then U8 (0#8) else .slice none 0 0))) (y_build (vs := #[]) mp0 (fun w => by kernel_rfl)) (w_box (m := 513) (F := fun j => if j < 256 then U8 (0#8) else if j < 512 then U8 (0#8) else .slice none 0 0) ea rfl ?_)))))
 intro b_19 w1 hbe_b_19 r_b_19 hb2
 have ge_b_19 := gb_ hk.size hbe_b_19
 clear hbe_b_19
 replace hk := thenB hk hb2
 refine w_as (ex (pt b_19 0)) (nt (sr (w_alloc (m := 255) (F := fun j => U8 (0#8)) kr ?_)))
 intro b_power w3 hbe_b_power r_b_power hb4
 have ne_b_19_b_power := r_b_19.nb hbe_b_power
 have ge_b_power := gb_ hk.size hbe_b_power
 clear hbe_b_power
 replace r_b_19 := r_b_19.step hb4
 replace hk := thenB hk hb4
 refine nt (sr (w_val (y_ia1z (i := 0) (ex (pt b_power 0)) Ev.c Tryz.underlying75 AesRefNT.sz5 om om) (w_st (v := U8 (1#8)) (ex (pt b_power 0)) (evc (U8 (1#8))) rfl rfl AesRefNT.sz5 r_b_power om ?_)))
 clear r_b_power; intro w5 r_b_power hg6 _
 replace r_b_19 := r_b_19.stepG hg6 om
 replace hk := thenG hk hg6 om
 refine nt (wp_seq (sr (w_as Ev.c (nt (wp_block ?_)))))
 refine c_loop (fun dN aN wl => ∃ (i1 : Nat), dN = (255 - i1) ∧ ∃ f7, aN = fr 231 f7 ∧ (1 ≤ i1) ∧ (i1 ≤ 255) ∧ f7 0 = .string (str key) ∧ f7 2 = .pointer none ∧ f7 3 = pt b_19 0 ∧ f7 4 = pt b_power 0 ∧ f7 5 = .int .i64 ((i1 : Nat) : Int) ∧ Row wl b_19 74 513 (fun j => if j < 256 then U8 (0#8) else if j < 512 then U8 (0#8) else .slice none 0 0) ∧ Row wl b_power 75 255 (fun j => if j < i1 then (fun j => U8 (Aes.pk j)) j else (fun j => U8 (0#8)) j) ∧ Below w0.heap.size w0 wl) (255 - 1) ?_ ?_
 · exact ⟨1, rfl, _, rfl, iv, iv, rfl, rfl, rfl, rfl, ti, r_b_19, (r_b_power.cg), hk⟩
 ·skip
  clear r_b_19 r_b_power hk
  rintro _ _ w8 ⟨i1, rfl, f7, rfl, i1_0, i1_1, s1_0, s1_2, s1_3, s1_4, s1_5, r_b_19, r_b_power, hk⟩
  refine wp_seq (sr (w_mv (ei s1_5) (w_val (y_bin ei Ev.c b_lss) (nt ?_))))
  refine c_if (p := ((i1 : Nat) : Int) < 255) eb (fun hc9 => ?_) (fun hc9 => ?_)
  ·skip
   refine wp_skip (then_n (wp_seq (wp_block (wp_region_lit (w_mv (ei s1_5) (w_mv (ei s1_5) (w_val (y_bin ei Ev.c (b_sub om)) (w_val (y_ia1z (i := (i1 - 1)) (ex (pt b_power 0) s1_4) ei Tryz.underlying75 AesRefNT.sz5 om om) (w_val (v := U8 (Aes.pk (i1 - 1))) (y_ld (ex (pt b_power (i1 - 1))) AesRefNT.sc5 (r_b_power.val om ((if_pos om).trans rfl))) (w_call (Tryz.func49) kr rfl (m2 e8 (evc (U8 (3#8)))) (refMul_c (Aes.pk (i1 - 1)) (3#8) w8) ?_))))))))))
   rintro _ _ ⟨rfl, rfl⟩
   refine ⟨_, rfl, ?_⟩
   refine w_val (y_ia1z (i := i1) (ex (pt b_power 0) s1_4) ei Tryz.underlying75 AesRefNT.sz5 om om) (w_st (v := U8 (Aes.mul (Aes.pk (i1 - 1)) (3#8))) (ex (pt b_power i1)) e8 rfl rfl AesRefNT.sz5 r_b_power om ?_)
   clear r_b_power; intro w11 r_b_power hg12 _
   replace r_b_19 := r_b_19.stepG hg12 om
   replace hk := thenG hk hg12 om
   refine wpList_nil (inb_n (then_n (wp_region_lit (w_mv (ei s1_5) (w_val (y_bin ei Ev.c (b_add om)) (w_as ei (wpList_nil ?_)))))))
   exact then_n ⟨_, om, i1 + 1, rfl, _, rfl, iv, iv, s1_0, s1_2, s1_3, s1_4, ti, r_b_19, (r_b_power.congr (fun j hj => by (try dsimp only); rw [Aes.pk_last i1 om]; (first | with_reducible rfl | (dsimp only; done) | ((try dsimp only); (repeat' split) <;> first | with_reducible rfl | (exfalso; omega) | (subst_vars; with_reducible rfl) | (subst_vars; simp only [Nat.add_sub_cancel_left, Nat.add_sub_cancel, Nat.sub_self, Nat.sub_zero]; done) | (with_reducible congr 1 <;> omega) | (with_reducible congr 2 <;> omega) | (with_reducible congr 3 <;> omega) | rfl | (subst_vars; rfl))))), hk⟩
  ·skip
   refine wp_exit (then_x ?_)
   replace r_b_power := r_b_power.congr (g := fun j => U8 (Aes.pk j)) (fun j hj => by dsimp only; rw [if_pos om])
   refine then_x (inb_x (then_n (sr (w_mv (ex (pt b_19 0) s1_3) (w_val (y_nc (ex (pt b_19 0))) (w_val (v := pt b_19 0) (y_off (y_fa (ex (pt b_19 0)) (AesRefNT.fa74_0 _ _)) ro) (w_val (y_ia1z (i := 0) (ex (pt b_19 0)) Ev.c Tryz.underlying71 AesRefNT.sz5 om om) (w_st (v := U8 (99#8)) (ex (pt b_19 0)) (evc (U8 (99#8))) rfl rfl AesRefNT.sz5 r_b_19 om ?_))))))))
   clear r_b_19; intro w13 r_b_19 hg14 _
   replace r_b_power := r_b_power.stepG hg14 om
   replace hk := thenG hk hg14 om
   refine nt (wp_seq (sr (w_as Ev.c (nt (wp_block ?_)))))
   refine c_loop (fun dN aN wl => ∃ (i2 : Nat), dN = (255 - i2) ∧ ∃ f15, aN = fr 231 f15 ∧ (i2 ≤ 255) ∧ f15 0 = .string (str key) ∧ f15 2 = .pointer none ∧ f15 3 = pt b_19 0 ∧ f15 4 = pt b_power 0 ∧ f15 6 = .int .i64 ((i2 : Nat) : Int) ∧ Row wl b_19 74 513 (fun j => if j < 256 then U8 (gb (Aes.pst i2) j) else if j < 512 then U8 (0#8) else .slice none 0 0) ∧ Row wl b_power 75 255 (fun j => U8 (Aes.pk j)) ∧ Below w0.heap.size w0 wl) (255 - 0) ?_ ?_
   · exact ⟨0, rfl, _, rfl, iv, s1_0, s1_2, s1_3, s1_4, ti, (r_b_19.congr (fun j hj => by exact Aes.box_start j _ _)), r_b_power, hk⟩
   ·skip
    clear r_b_19 r_b_power hk
    rintro _ _ w16 ⟨i2, rfl, f15, rfl, i2_0, s2_0, s2_2, s2_3, s2_4, s2_6, r_b_19, r_b_power, hk⟩
    refine wp_seq (sr (w_mv (ei s2_6) (w_val (y_bin ei Ev.c b_lss) (nt ?_))))
    refine c_if (p := ((i2 : Nat) : Int) < 255) eb (fun hc17 => ?_) (fun hc17 => ?_)
    ·skip
     refine wp_skip (then_n (wp_seq (wp_block (sr (w_mv (ei s2_6) (w_val (y_bin Ev.c ei (b_sub om)) (w_val (y_bin ei Ev.c (b_rem om)) (w_val (y_ia1z (i := ((255 - i2) % 255)) (ex (pt b_power 0) s2_4) ei Tryz.underlying75 AesRefNT.sz5 om om) (w_val (v := U8 (Aes.pk ((255 - i2) % 255))) (y_ld (ex (pt b_power ((255 - i2) % 255))) AesRefNT.sc5 (r_b_power.val om rfl)) (w_as e8 (nt (sr (w_mv e8 (w_as e8 (nt (wp_seq (sr (w_as Ev.c (nt (wp_block ?_))))))))))))))))))))
     refine c_loop (fun dN aN wl => ∃ (k3 : Nat), dN = (4 - k3) ∧ ∃ f18, aN = fr 231 f18 ∧ (k3 ≤ 4) ∧ f18 0 = .string (str key) ∧ f18 2 = .pointer none ∧ f18 3 = pt b_19 0 ∧ f18 4 = pt b_power 0 ∧ f18 6 = .int .i64 ((i2 : Nat) : Int) ∧ f18 7 = U8 ((Aes.rr (Aes.pk ((255 - i2) % 255)) k3).1) ∧ f18 8 = U8 ((Aes.rr (Aes.pk ((255 - i2) % 255)) k3).2) ∧ f18 9 = .int .i64 ((k3 : Nat) : Int) ∧ Row wl b_19 74 513 (fun j => if j < 256 then U8 (gb (Aes.pst i2) j) else if j < 512 then U8 (0#8) else .slice none 0 0) ∧ Row wl b_power 75 255 (fun j => U8 (Aes.pk j)) ∧ Below w0.heap.size w0 wl) (4 - 0) ?_ ?_
     · exact ⟨0, rfl, _, rfl, iv, s2_0, s2_2, s2_3, s2_4, s2_6, t8, t8, ti, r_b_19, r_b_power, hk⟩
     ·skip
      clear r_b_19 r_b_power hk
      rintro _ _ w19 ⟨k3, rfl, f18, rfl, i3_0, s3_0, s3_2, s3_3, s3_4, s3_6, s3_7, s3_8, s3_9, r_b_19, r_b_power, hk⟩
      refine wp_seq (sr (w_mv (ei s3_9) (w_val (y_bin ei Ev.c b_lss) (nt ?_))))
      refine c_if (p := ((k3 : Nat) : Int) < 4) eb (fun hc20 => ?_) (fun hc20 => ?_)
      ·skip
       refine wp_skip (then_n (wp_seq (wp_block (sr (w_mv (e8 s3_7) (w_val (y_bin e8 (evc (.int .u64 1)) (shl8 (c := 1) rfl)) (w_mv (e8 s3_7) (w_val (y_bin e8 (evc (.int .u64 7)) (shr8 (c := 7) rfl)) (w_val (y_bin e8 e8 or8) (w_as e8 (nt (wp_region_lit (w_mv (e8 s3_8) (w_mv e8 (w_val (y_bin e8 e8 xor8) (w_as e8 (wpList_nil (inb_n (then_n (wp_region_lit (w_mv (ei s3_9) (w_val (y_bin ei Ev.c (b_add om)) (w_as ei (wpList_nil ?_))))))))))))))))))))))))
       exact then_n ⟨_, om, k3 + 1, rfl, _, rfl, iv, s3_0, s3_2, s3_3, s3_4, s3_6, t8, t8, ti, r_b_19, r_b_power, hk⟩
      ·skip
       refine wp_exit (then_x (then_x (inb_x (then_n (region_t 9 AesRefNT.mixed kr ?_)))))
       simp only [List.take_succ_cons, List.take_zero, List.drop_succ_cons, List.drop_zero]
       refine q_mv (ex (pt b_19 0) s3_3) (q_mv (ei s3_6) (q_val (fun w' hw' => y_ia1z (i := i2) (ex (pt b_power 0) s3_4) ei Tryz.underlying75 AesRefNT.sz5 om om) (q_val (v := U8 (Aes.pk i2)) (fun w' hw' => y_ld (ex (pt b_power i2)) AesRefNT.sc5 (cls_cell (r_b_power.val om rfl) r_b_power.lt w' hw')) (q_mv (e8 s3_8) (q_val (fun w' hw' => y_bin e8 (evc (U8 (99#8))) xor8) (q_val (fun w' hw' => y_nc (ex (pt b_19 0))) (q_val (v := pt b_19 0) (fun w' hw' => y_off (y_fa (ex (pt b_19 0)) (AesRefNT.fa74_0 _ _)) ro) (q_val (fun w' hw' => y_ia1z (i := ((Aes.pk i2).toNat)) (ex (pt b_19 0)) (ex (.int .u8 ((Aes.pk i2).toNat : Int))) Tryz.underlying71 AesRefNT.sz5 rfl om) (q_nil ?_)))))))))
       intro w21 hb22
       replace r_b_19 := r_b_19.step hb22
       replace r_b_power := r_b_power.step hb22
       replace hk := thenB hk hb22
       refine w_st (v := U8 (((Aes.rr (Aes.pk ((255 - i2) % 255)) k3).2) ^^^ (99#8))) (ex (pt b_19 ((Aes.pk i2).toNat))) e8 rfl rfl AesRefNT.sz5 r_b_19 om ?_
       clear r_b_19; intro w23 r_b_19 hg24 _
       replace r_b_power := r_b_power.stepG hg24 om
       replace hk := thenG hk hg24 om
       refine wpList_nil (inb_n (then_n (wp_region_lit (w_mv (ei s3_6) (w_val (y_bin ei Ev.c (b_add om)) (w_as ei (wpList_nil ?_)))))))
       exact then_n ⟨_, om, i2 + 1, rfl, _, rfl, iv, s3_0, s3_2, s3_3, s3_4, ti, (r_b_19.congr (fun j hj => by have ek : k3 = 4 := om; rw [← Aes.box_step i2 j _ _, ek])), r_b_power, hk⟩
    ·skip
     refine wp_exit (then_x ?_)
     replace r_b_19 := r_b_19.congr (g := fun j => if j < 256 then U8 (Aes.sb j) else if j < 512 then U8 (gb (Aes.bt 0) (j - 256)) else .slice none 0 0) (fun j hj => by exact Aes.box_mid i2 j om _)
     refine then_x (inb_x (then_n (wp_seq (sr (w_as Ev.c (nt (wp_block ?_)))))))
     refine c_loop (fun dN aN wl => ∃ (i4 : Nat), dN = (256 - i4) ∧ ∃ f25, aN = fr 231 f25 ∧ (i4 ≤ 256) ∧ f25 0 = .string (str key) ∧ f25 2 = .pointer none ∧ f25 3 = pt b_19 0 ∧ f25 10 = .int .i64 ((i4 : Nat) : Int) ∧ Row wl b_19 74 513 (fun j => if j < 256 then U8 (Aes.sb j) else if j < 512 then U8 (gb (Aes.bt i4) (j - 256)) else .slice none 0 0) ∧ Row wl b_power 75 255 (fun j => U8 (Aes.pk j)) ∧ Below w0.heap.size w0 wl) (256 - 0) ?_ ?_
     · exact ⟨0, rfl, _, rfl, iv, s2_0, s2_2, s2_3, ti, (r_b_19.cg), r_b_power, hk⟩
     ·skip
      clear r_b_19 r_b_power hk
      rintro _ _ w26 ⟨i4, rfl, f25, rfl, i4_0, s4_0, s4_2, s4_3, s4_10, r_b_19, r_b_power, hk⟩
      refine wp_seq (sr (w_mv (ei s4_10) (w_val (y_bin ei Ev.c b_lss) (nt ?_))))
      refine c_if (p := ((i4 : Nat) : Int) < 256) eb (fun hc27 => ?_) (fun hc27 => ?_)
      ·skip
       refine wp_skip (then_n (wp_seq (wp_block (region_t 12 AesRefNT.mixed kr ?_))))
       simp only [List.take_succ_cons, List.take_zero, List.drop_succ_cons, List.drop_zero]
       refine q_mv (ex (pt b_19 0) s4_3) (q_mv (ex (pt b_19 0) s4_3) (q_mv (ei s4_10) (q_val (fun w' hw' => y_nc (ex (pt b_19 0))) (q_val (v := pt b_19 0) (fun w' hw' => y_off (y_fa (ex (pt b_19 0)) (AesRefNT.fa74_0 _ _)) ro) (q_val (fun w' hw' => y_ia1z (i := i4) (ex (pt b_19 0)) ei Tryz.underlying71 AesRefNT.sz5 om om) (q_val (v := U8 (Aes.sb i4)) (fun w' hw' => y_ld (ex (pt b_19 i4)) AesRefNT.sc5 (cls_cell (r_b_19.val om pz) r_b_19.lt w' hw')) (q_mv (ei s4_10) (q_val (fun w' hw' => y_nat_u8 (p := i4) ei om AesRefNT.so3 Tryz.underlying5) (q_val (fun w' hw' => y_nc (ex (pt b_19 0))) (q_val (v := pt b_19 256) (fun w' hw' => y_off (y_fa (ex (pt b_19 0)) (AesRefNT.fa74_1 _ _)) ro) (q_val (v := pt b_19 (256 + (Aes.sb i4).toNat)) (fun w' hw' => y_off (y_ia1 (i := ((Aes.sb i4).toNat)) (ex (pt b_19 256)) (ex (.int .u8 ((Aes.sb i4).toNat : Int))) Tryz.underlying71 AesRefNT.sz5 rfl om) ro) (q_nil ?_))))))))))))
       intro w28 hb29
       replace r_b_19 := r_b_19.step hb29
       replace r_b_power := r_b_power.step hb29
       replace hk := thenB hk hb29
       refine w_st (v := U8 (BitVec.ofNat 8 i4)) (ex (pt b_19 (256 + (Aes.sb i4).toNat))) e8 rfl rfl AesRefNT.sz5 r_b_19 om ?_
       clear r_b_19; intro w30 r_b_19 hg31 _
       replace r_b_power := r_b_power.stepG hg31 om
       replace hk := thenG hk hg31 om
       refine wpList_nil (inb_n (then_n (wp_region_lit (w_mv (ei s4_10) (w_val (y_bin ei Ev.c (b_add om)) (w_as ei (wpList_nil ?_)))))))
       exact then_n ⟨_, om, i4 + 1, rfl, _, rfl, iv, s4_0, s4_2, s4_3, ti, (r_b_19.congr (fun j hj => by exact Aes.box_back i4 j _)), r_b_power, hk⟩
      ·skip
       refine wp_exit (then_x ?_)
       replace r_b_19 := r_b_19.congr (g := fun j => if j < 256 then U8 (Aes.sb j) else if j < 512 then U8 (gb (Aes.bt 256) (j - 256)) else .slice none 0 0) (fun j hj => by rw [show i4 = 256 from by omega])
       refine then_x (inb_x (then_n (sr (w_mv (es s4_0) (w_val (y_len es Tryz.underlying9) (w_val (y_bin ei Ev.c (b_quo om)) (w_as ei (nt (sr (w_as (evc (U8 (1#8))) (nt (wp_seq (sr (w_as Ev.c (nt (wp_block ?_))))))))))))))))
       refine c_loop (fun dN aN wl => ∃ (i5 : Nat) (vW : Value), dN = (4 * (n + 7) - i5) ∧ ∃ f32, aN = fr 231 f32 ∧ (i5 ≤ 4 * (n + 7)) ∧ f32 0 = .string (str key) ∧ f32 2 = .pointer none ∧ f32 3 = pt b_19 0 ∧ f32 11 = .int .i64 ((n : Nat) : Int) ∧ f32 12 = U8 (Aes.rc ((i5 - 1) / n)) ∧ f32 13 = .int .i64 ((i5 : Nat) : Int) ∧ Row wl b_19 74 513 (fun j => if j < 256 then U8 (Aes.sb j) else if j < 512 then U8 (Aes.bk (j - 256)) else vW) ∧ Row wl b_power 75 255 (fun j => U8 (Aes.pk j)) ∧ Own wl w0.heap.size 77 4 vW i5 (fun j => U8 (Aes.byteOf (Aes.gw W (j / 4)) (j % 4))) ∧ vW.ownBlock ≠ some b_19 ∧ vW.ownBlock ≠ some b_power ∧ Below w0.heap.size w0 wl) (4 * (n + 7) - 0) ?_ ?_
       · exact ⟨0, (.slice none 0 0), rfl, _, rfl, iv, s4_0, s4_2, s4_3, (Eq.trans (b := .int .i64 (((key.length : Nat) : Int) / 4)) rfl (by congr 1; omega)), (Eq.trans (b := U8 (1#8)) rfl (by rw [show (0 - 1) / n = 0 from by simp]; rfl)), ti, (r_b_19.congr (fun j hj => by exact Aes.box_last j _)), r_b_power, Own.nil, (fun e => by cases e), (fun e => by cases e), hk⟩
       ·skip
        clear r_b_19 r_b_power hk
        rintro _ _ w33 ⟨i5, vW, rfl, f32, rfl, i5_0, s5_0, s5_2, s5_3, s5_11, s5_12, s5_13, r_b_19, r_b_power, o_vW, no_vW_b_19, no_vW_b_power, hk⟩
        have hmod : ((i5 : Nat) : Int) % ((n : Nat) : Int) = ((i5 % n : Nat) : Int) := rfl
        have hdv := Nat.div_add_mod i5 n
        have hml : i5 % n < n := Nat.mod_lt _ om
        refine wp_seq (sr (w_mv (ei s5_13) (w_mv (ei s5_11) (w_val (y_bin ei Ev.c (b_add om)) (w_val (y_bin Ev.c ei (b_mul om)) (w_val (y_bin ei ei b_lss) (nt ?_)))))))
        refine c_if (p := ((i5 : Nat) : Int) < (4 * (((n : Nat) : Int) + 7))) eb (fun hc34 => ?_) (fun hc34 => ?_)
        ·skip
         refine wp_skip (then_n (wp_seq (wp_block (sr (w_alloc (m := 4) (F := fun j => U8 (0#8)) kr ?_)))))
         intro b_w w35 hbe_b_w r_b_w hb36
         have ne_b_19_b_w := r_b_19.nb hbe_b_w
         have ne_b_power_b_w := r_b_power.nb hbe_b_w
         have no_vW_b_w : vW.ownBlock ≠ some b_w := o_vW.apart om
         have ge_b_w := gb_ hk.size hbe_b_w
         clear hbe_b_w
         replace o_vW := o_vW.step hb36
         replace r_b_19 := r_b_19.step hb36
         replace r_b_power := r_b_power.step hb36
         replace hk := thenB hk hb36
         refine nt (wp_seq (sr (w_mv (ei s5_13) (w_mv (ei s5_11) (w_val (y_bin ei ei b_lss) (nt ?_))))))
         refine c_if (p := ((i5 : Nat) : Int) < ((n : Nat) : Int)) eb (fun hc37 => ?_) (fun hc37 => ?_)
         ·skip
          refine wp_seq (sr (w_as Ev.c (nt (wp_block ?_))))
          refine c_loop (fun dN aN wl => ∃ (k6 : Nat) (vX : Value), dN = (4 - k6) ∧ ∃ f38, aN = fr 231 f38 ∧ (k6 ≤ 4) ∧ f38 0 = .string (str key) ∧ f38 2 = .pointer none ∧ f38 3 = pt b_19 0 ∧ f38 11 = .int .i64 ((n : Nat) : Int) ∧ f38 12 = U8 (Aes.rc ((i5 - 1) / n)) ∧ f38 13 = .int .i64 ((i5 : Nat) : Int) ∧ f38 14 = pt b_w 0 ∧ f38 15 = .int .i64 ((k6 : Nat) : Int) ∧ Row wl b_19 74 513 (fun j => if j < 256 then U8 (Aes.sb j) else if j < 512 then U8 (Aes.bk (j - 256)) else vX) ∧ Row wl b_power 75 255 (fun j => U8 (Aes.pk j)) ∧ Row wl b_w 77 4 (fun j => if j < k6 then (fun j => U8 (gb key (4 * i5 + j))) j else (fun j => U8 (0#8)) j) ∧ Own wl w0.heap.size 77 4 vX i5 (fun j => U8 (Aes.byteOf (Aes.gw W (j / 4)) (j % 4))) ∧ vX.ownBlock ≠ some b_19 ∧ vX.ownBlock ≠ some b_power ∧ vX.ownBlock ≠ some b_w ∧ Below w0.heap.size w0 wl) (4 - 0) ?_ ?_
          · exact ⟨0, vW, rfl, _, rfl, iv, s5_0, s5_2, s5_3, s5_11, s5_12, s5_13, rfl, ti, (r_b_19.cg), r_b_power, (r_b_w.cg), o_vW, no_vW_b_19, no_vW_b_power, no_vW_b_w, hk⟩
          ·skip
           clear r_b_19 r_b_power r_b_w o_vW hk
           rintro _ _ w39 ⟨k6, vX, rfl, f38, rfl, i6_0, s6_0, s6_2, s6_3, s6_11, s6_12, s6_13, s6_14, s6_15, r_b_19, r_b_power, r_b_w, o_vX, no_vX_b_19, no_vX_b_power, no_vX_b_w, hk⟩
           refine wp_seq (sr (w_mv (ei s6_15) (w_val (y_bin ei Ev.c b_lss) (nt ?_))))
           refine c_if (p := ((k6 : Nat) : Int) < 4) eb (fun hc40 => ?_) (fun hc40 => ?_)
           ·skip
            refine wp_skip (then_n (wp_seq (wp_block (wp_region_lit (w_mv (ei s6_15) (w_mv (es s6_0) (w_mv (ei s6_13) (w_val (y_bin Ev.c ei (b_mul om)) (w_mv (ei s6_15) (w_val (y_bin ei ei (b_add om)) (w_val (v := U8 (gb key ((4 * i5) + k6))) (y_idx (ex (.string (str key))) ei Tryz.underlying9 om om) (w_val (y_ia1z (i := k6) (ex (pt b_w 0) s6_14) ei Tryz.underlying77 AesRefNT.sz5 om om) (w_st (v := U8 (gb key ((4 * i5) + k6))) (ex (pt b_w k6)) e8 rfl rfl AesRefNT.sz5 r_b_w om ?_)))))))))))))
            clear r_b_w; intro w41 r_b_w hg42 _
            replace o_vX := o_vX.stepG hg42 no_vX_b_w
            replace r_b_19 := r_b_19.stepG hg42 om
            replace r_b_power := r_b_power.stepG hg42 om
            replace hk := thenG hk hg42 om
            refine wpList_nil (inb_n (then_n (wp_region_lit (w_mv (ei s6_15) (w_val (y_bin ei Ev.c (b_add om)) (w_as ei (wpList_nil ?_)))))))
            exact then_n ⟨_, om, k6 + 1, vX, rfl, _, rfl, iv, s6_0, s6_2, s6_3, s6_11, s6_12, s6_13, s6_14, ti, r_b_19, r_b_power, (r_b_w.cg), o_vX, no_vX_b_19, no_vX_b_power, no_vX_b_w, hk⟩
           ·skip
            refine wp_exit (then_x ?_)
            replace r_b_w := r_b_w.congr (g := fun j => U8 (gb key (4 * i5 + j))) (fun j hj => by dsimp only; rw [if_pos om])
            refine then_x (inb_x (then_n (wp_seq (region_dc (Nat.testBit 1920) 11 AesRefNT.mixed rfl ?_))))
            intro w43 hb44
            replace o_vX := o_vX.step hb44
            replace r_b_19 := r_b_19.step hb44
            replace r_b_power := r_b_power.step hb44
            replace r_b_w := r_b_w.step hb44
            replace hk := thenB hk hb44
            have hS : Cls w43 w43 := Below.refl _ _
            refine dp 0 rfl (fun w' => y_mv (ex (pt b_19 0) s6_3)) (dp 1 rfl (fun w' => y_mv (ex (pt b_19 0) s6_3)) (dp (v := pt b_19 0) 2 rfl (fun w' => y_nc (ex (pt b_19 0))) (dp (v := pt b_19 512) 3 rfl (fun w' => y_off (y_fa (ex (pt b_19 0)) (AesRefNT.fa74_2 _ _)) ro) (d_take (v := vX) 4 (Nat.testBit 1936) rfl kr kr kr kr kr kr (fun _ _ _ h => h) hS (fun w' hw' => y_ld (ex (pt b_19 512)) AesRefNT.sc72 (cls_cell (r_b_19.val om (ng (ng dv))) r_b_19.lt w' hw')) (d_take (v := .agg (arr 4 (fun j => U8 (gb key (4 * i5 + j))))) 5 (Nat.testBit 2016) rfl kr kr kr kr kr kr (fun _ _ _ h => h) hS (fun w' hw' => y_lda (ex (pt b_w 0) s6_14) AesRefNT.ag77 AesRefNT.sz77 (fun j hj => by rw [Nat.zero_add]; exact (cls_cell (r_b_w.cell om) r_b_w.lt w' hw'))) (d_one 6 kr rfl (w_bs1 (m := 4) (e := 77) (F := fun j => U8 (gb key (4 * i5 + j))) ea (fun w => by kernel_rfl) ?_)))))))
            intro b_114 w45 hbe_b_114 r_b_114 hb46
            have ne_b_19_b_114 := r_b_19.nb hbe_b_114
            have ne_b_power_b_114 := r_b_power.nb hbe_b_114
            have ne_b_w_b_114 := r_b_w.nb hbe_b_114
            have no_vX_b_114 : vX.ownBlock ≠ some b_114 := o_vX.apart om
            have ge_b_114 := gb_ hk.size hbe_b_114
            clear hbe_b_114
            replace o_vX := o_vX.step hb46
            replace r_b_19 := r_b_19.step hb46
            replace r_b_power := r_b_power.step hb46
            replace r_b_w := r_b_w.step hb46
            replace hk := thenB hk hb46
            replace hS := thenB hS hb46
            refine wpList_nil ?_
            refine then_n ⟨fun _ h => thenB h (by assumption), ?_⟩
            refine d_one 7 kr rfl (w_app (k := i5) (m := 1) (size := 4) (bytes := 4) (ex vX) el Tryz.underlying72 kr (by decide) o_vX hk.size r_b_114 om oca (by simp only [maxLen]; omega) om ?_)
            intro v47 w48 o_v47 hg49 hv50
            have no_v47_b_19 := no_new no_vX_b_19 r_b_19.lt hv50
            replace r_b_19 := r_b_19.stepO hg49 no_vX_b_19
            have no_v47_b_power := no_new no_vX_b_power r_b_power.lt hv50
            replace r_b_power := r_b_power.stepO hg49 no_vX_b_power
            have no_v47_b_w := no_new no_vX_b_w r_b_w.lt hv50
            replace r_b_w := r_b_w.stepO hg49 no_vX_b_w
            have no_v47_b_114 := no_new no_vX_b_114 r_b_114.lt hv50
            replace r_b_114 := r_b_114.stepO hg49 no_vX_b_114
            replace hk := thenO hk hg49 (fun g e => (o_vX.block_lt g e).2)
            clear o_vX
            clear hS
            refine wpList_nil ?_
            refine then_n ⟨fun hD => absurd hD (by decide), ?_⟩
            refine d_one 8 kr rfl (w_val (y_nc (ex (pt b_19 0))) (wpList_nil ?_))
            refine then_n ⟨fun hD => absurd hD (by decide), ?_⟩
            refine d_one 9 kr rfl (w_val (v := pt b_19 512) (y_off (y_fa (ex (pt b_19 0)) (AesRefNT.fa74_2 _ _)) ro) (wpList_nil ?_))
            refine then_n ⟨fun hD => absurd hD (by decide), ?_⟩
            refine d_one 10 kr rfl (w_st (v := v47) (ex (pt b_19 512)) (ex v47) (o_v47.one) (o_v47.cells) AesRefNT.sz72 r_b_19 om ?_)
            clear r_b_19; intro w51 r_b_19 hg52 _
            replace o_v47 := o_v47.stepG hg52 no_v47_b_19
            replace r_b_power := r_b_power.stepG hg52 om
            replace r_b_w := r_b_w.stepG hg52 om
            replace r_b_114 := r_b_114.stepG hg52 om
            replace hk := thenG hk hg52 om
            refine wpList_nil ?_
            refine then_n ⟨fun hD => absurd hD (by decide), ?_⟩
            refine d_done kr (then_n (wp_exit (then_x (inb_x (then_n (wp_region_lit (w_mv (ei s6_13) (w_val (y_bin ei Ev.c (b_add om)) (w_as ei (wpList_nil ?_))))))))))
            exact then_n ⟨_, om, i5 + 1, v47, rfl, _, rfl, iv, s6_0, s6_2, s6_3, s6_11, (by refine Eq.trans (b := U8 (Aes.rc ((i5 - 1) / n))) ?_ ?_; exact s6_12; (first | exact congrArg U8 (by rw [Aes.mul2]; exact Aes.rc_step i5 n om om om) | exact congrArg U8 (Aes.rc_same i5 n om om))), ti, (r_b_19.congr (fun j hj => by exact Aes.box_words j hj _ _)), r_b_power, (own_n (o_v47.congr (fun j hj => by (try dsimp only); first | exact Aes.row_key key W n i5 j om (hW i5 om) hj | exact Aes.row_next key W n i5 j om (hW i5 om) hj)) om), no_v47_b_19, no_v47_b_power, hk⟩
         ·skip
          refine wp_skip (then_n (wp_seq ?_))
          obtain ⟨g53, cap53, hv53, ge_g53, hc_g53, hob_g53, r_g53⟩ := o_vW.opened om
          have ne_b_19_g53 : b_19 ≠ g53 := fun e => no_vW_b_19 (by rw [hob_g53, e])
          have ne_b_power_g53 : b_power ≠ g53 := fun e => no_vW_b_power (by rw [hob_g53, e])
          have ne_b_w_g53 : b_w ≠ g53 := fun e => no_vW_b_w (by rw [hob_g53, e])
          refine wp_region_lit (w_mv (ex (pt b_19 0) s5_3) (w_val (y_nc (ex (pt b_19 0))) (w_val (v := pt b_19 512) (y_off (y_fa (ex (pt b_19 0)) (AesRefNT.fa74_2 _ _)) ro) (w_val (v := vW) (y_ld (ex (pt b_19 512)) AesRefNT.sc72 (r_b_19.val om (ng (ng dv)))) (w_mv (ei s5_13) (w_val (y_bin ei Ev.c (b_sub om)) (w_val (v := pt g53 ((i5 - 1) * 4)) (y_off (y_is (i := (i5 - 1)) (ex (.slice (some ⟨g53, 0, none⟩) i5 cap53) (Eq.trans (b := vW) rfl hv53)) ei Tryz.underlying72 AesRefNT.sz77 om om) ro) (w_val (v := .agg (arr 4 (fun j => U8 (Aes.byteOf (Aes.gw W (i5 - 1)) j)))) (y_lda (ex (pt g53 ((i5 - 1) * 4))) AesRefNT.ag77 AesRefNT.sz77 (fun j hj => (r_g53.val om (by first | with_reducible rfl | exact (by (try dsimp only); rw [show (((i5 - 1) * 4) + j) / 4 = (i5 - 1) from by omega, show (((i5 - 1) * 4) + j) % 4 = j from by omega]))))) (w_alloc (m := 4) (F := fun j => U8 (0#8)) kr ?_)))))))))
          intro b_t w54 hbe_b_t r_b_t hb55
          have ne_b_19_b_t := r_b_19.nb hbe_b_t
          have ne_b_power_b_t := r_b_power.nb hbe_b_t
          have ne_b_w_b_t := r_b_w.nb hbe_b_t
          have ne_g53_b_t := r_g53.nb hbe_b_t
          have no_vW_b_t : vW.ownBlock ≠ some b_t := o_vW.apart om
          have ge_b_t := gb_ hk.size hbe_b_t
          clear hbe_b_t
          replace o_vW := o_vW.step hb55
          replace r_b_19 := r_b_19.step hb55
          replace r_b_power := r_b_power.step hb55
          replace r_b_w := r_b_w.step hb55
          replace r_g53 := r_g53.step hb55
          replace hk := thenB hk hb55
          refine w_sta (k := 4) (G := fun j => U8 (Aes.byteOf (Aes.gw W (i5 - 1)) j)) (ex (pt b_t 0)) ea oc AesRefNT.sz77 r_b_t om ?_
          clear r_b_t; intro w56 r_b_t hg57 _
          replace r_b_t := r_b_t.congr (g := fun j => U8 (Aes.byteOf (Aes.gw W (i5 - 1)) j)) (fun j hj => by rw [if_pos ⟨Nat.zero_le _, by omega⟩]; first | rfl | (simp only [Nat.sub_zero]))
          replace o_vW := o_vW.stepG hg57 no_vW_b_t
          replace r_b_19 := r_b_19.stepG hg57 om
          replace r_b_power := r_b_power.stepG hg57 om
          replace r_b_w := r_b_w.stepG hg57 om
          replace r_g53 := r_g53.stepG hg57 om
          replace hk := thenG hk hg57 om
          refine nt (wp_seq (sr (w_mv (ei s5_13) (w_mv (ei s5_11) (w_val (y_bin ei ei (b_rem om)) (w_val (y_bin ei Ev.c b_eql) (nt ?_)))))))
          refine c_if (p := (((i5 : Nat) : Int) % ((n : Nat) : Int)) = 0) eb (fun hc58 => ?_) (fun hc58 => ?_)
          ·skip
           refine wp_seq (region_t 31 AesRefNT.mixed kr ?_)
           simp only [List.take_succ_cons, List.take_zero, List.drop_succ_cons, List.drop_zero]
           refine q_mv (ex (pt b_19 0) s5_3) (q_val (fun w' hw' => y_ia1z (i := 1) (ex (pt b_t 0)) Ev.c Tryz.underlying77 AesRefNT.sz5 om om) (q_val (v := U8 (Aes.byteOf (Aes.gw W (i5 - 1)) 1)) (fun w' hw' => y_ld (ex (pt b_t 1)) AesRefNT.sc5 (cls_cell (r_b_t.val om rfl) r_b_t.lt w' hw')) (q_val (fun w' hw' => y_nc (ex (pt b_19 0))) (q_val (v := pt b_19 0) (fun w' hw' => y_off (y_fa (ex (pt b_19 0)) (AesRefNT.fa74_0 _ _)) ro) (q_val (fun w' hw' => y_ia1z (i := ((Aes.byteOf (Aes.gw W (i5 - 1)) 1).toNat)) (ex (pt b_19 0)) (ex (.int .u8 ((Aes.byteOf (Aes.gw W (i5 - 1)) 1).toNat : Int))) Tryz.underlying71 AesRefNT.sz5 rfl om) (q_val (v := U8 (Aes.sb ((Aes.byteOf (Aes.gw W (i5 - 1)) 1).toNat))) (fun w' hw' => y_ld (ex (pt b_19 ((Aes.byteOf (Aes.gw W (i5 - 1)) 1).toNat))) AesRefNT.sc5 (cls_cell (r_b_19.val om pz) r_b_19.lt w' hw')) (q_mv (e8 s5_12) (q_val (fun w' hw' => y_bin e8 e8 xor8) (q_mv (ex (pt b_19 0) s5_3) (q_val (fun w' hw' => y_ia1z (i := 2) (ex (pt b_t 0)) Ev.c Tryz.underlying77 AesRefNT.sz5 om om) (q_val (v := U8 (Aes.byteOf (Aes.gw W (i5 - 1)) 2)) (fun w' hw' => y_ld (ex (pt b_t 2)) AesRefNT.sc5 (cls_cell (r_b_t.val om rfl) r_b_t.lt w' hw')) (q_val (fun w' hw' => y_nc (ex (pt b_19 0))) (q_val (v := pt b_19 0) (fun w' hw' => y_off (y_fa (ex (pt b_19 0)) (AesRefNT.fa74_0 _ _)) ro) (q_val (fun w' hw' => y_ia1z (i := ((Aes.byteOf (Aes.gw W (i5 - 1)) 2).toNat)) (ex (pt b_19 0)) (ex (.int .u8 ((Aes.byteOf (Aes.gw W (i5 - 1)) 2).toNat : Int))) Tryz.underlying71 AesRefNT.sz5 rfl om) (q_val (v := U8 (Aes.sb ((Aes.byteOf (Aes.gw W (i5 - 1)) 2).toNat))) (fun w' hw' => y_ld (ex (pt b_19 ((Aes.byteOf (Aes.gw W (i5 - 1)) 2).toNat))) AesRefNT.sc5 (cls_cell (r_b_19.val om pz) r_b_19.lt w' hw')) (q_mv (ex (pt b_19 0) s5_3) (q_val (fun w' hw' => y_ia1z (i := 3) (ex (pt b_t 0)) Ev.c Tryz.underlying77 AesRefNT.sz5 om om) (q_val (v := U8 (Aes.byteOf (Aes.gw W (i5 - 1)) 3)) (fun w' hw' => y_ld (ex (pt b_t 3)) AesRefNT.sc5 (cls_cell (r_b_t.val om rfl) r_b_t.lt w' hw')) (q_val (fun w' hw' => y_nc (ex (pt b_19 0))) (q_val (v := pt b_19 0) (fun w' hw' => y_off (y_fa (ex (pt b_19 0)) (AesRefNT.fa74_0 _ _)) ro) (q_val (fun w' hw' => y_ia1z (i := ((Aes.byteOf (Aes.gw W (i5 - 1)) 3).toNat)) (ex (pt b_19 0)) (ex (.int .u8 ((Aes.byteOf (Aes.gw W (i5 - 1)) 3).toNat : Int))) Tryz.underlying71 AesRefNT.sz5 rfl om) (q_val (v := U8 (Aes.sb ((Aes.byteOf (Aes.gw W (i5 - 1)) 3).toNat))) (fun w' hw' => y_ld (ex (pt b_19 ((Aes.byteOf (Aes.gw W (i5 - 1)) 3).toNat))) AesRefNT.sc5 (cls_cell (r_b_19.val om pz) r_b_19.lt w' hw')) (q_mv (ex (pt b_19 0) s5_3) (q_val (fun w' hw' => y_ia1z (i := 0) (ex (pt b_t 0)) Ev.c Tryz.underlying77 AesRefNT.sz5 om om) (q_val (v := U8 (Aes.byteOf (Aes.gw W (i5 - 1)) 0)) (fun w' hw' => y_ld (ex (pt b_t 0)) AesRefNT.sc5 (cls_cell (r_b_t.val om rfl) r_b_t.lt w' hw')) (q_val (fun w' hw' => y_nc (ex (pt b_19 0))) (q_val (v := pt b_19 0) (fun w' hw' => y_off (y_fa (ex (pt b_19 0)) (AesRefNT.fa74_0 _ _)) ro) (q_val (fun w' hw' => y_ia1z (i := ((Aes.byteOf (Aes.gw W (i5 - 1)) 0).toNat)) (ex (pt b_19 0)) (ex (.int .u8 ((Aes.byteOf (Aes.gw W (i5 - 1)) 0).toNat : Int))) Tryz.underlying71 AesRefNT.sz5 rfl om) (q_val (v := U8 (Aes.sb ((Aes.byteOf (Aes.gw W (i5 - 1)) 0).toNat))) (fun w' hw' => y_ld (ex (pt b_19 ((Aes.byteOf (Aes.gw W (i5 - 1)) 0).toNat))) AesRefNT.sc5 (cls_cell (r_b_19.val om pz) r_b_19.lt w' hw')) (q_val (v := .agg (arr 4 (fun j => if j < 1 then U8 ((Aes.sb ((Aes.byteOf (Aes.gw W (i5 - 1)) 1).toNat)) ^^^ (Aes.rc ((i5 - 1) / n))) else if j < 2 then U8 (Aes.sb ((Aes.byteOf (Aes.gw W (i5 - 1)) 2).toNat)) else if j < 3 then U8 (Aes.sb ((Aes.byteOf (Aes.gw W (i5 - 1)) 3).toNat)) else U8 (Aes.sb ((Aes.byteOf (Aes.gw W (i5 - 1)) 0).toNat))))) (fun w' hw' => y_build (vs := #[(0, U8 ((Aes.sb ((Aes.byteOf (Aes.gw W (i5 - 1)) 1).toNat)) ^^^ (Aes.rc ((i5 - 1) / n)))), (1, U8 (Aes.sb ((Aes.byteOf (Aes.gw W (i5 - 1)) 2).toNat))), (2, U8 (Aes.sb ((Aes.byteOf (Aes.gw W (i5 - 1)) 3).toNat))), (3, U8 (Aes.sb ((Aes.byteOf (Aes.gw W (i5 - 1)) 0).toNat)))]) (mp_cons e8 (mp_cons e8 (mp_cons e8 (mp_cons e8 mp0)))) (fun w => by kernel_rfl)) (q_nil ?_)))))))))))))))))))))))))))))))
           intro w59 hb60
           replace o_vW := o_vW.step hb60
           replace r_b_19 := r_b_19.step hb60
           replace r_b_power := r_b_power.step hb60
           replace r_b_w := r_b_w.step hb60
           replace r_g53 := r_g53.step hb60
           replace r_b_t := r_b_t.step hb60
           replace hk := thenB hk hb60
           refine w_sta (k := 4) (G := fun j => if j < 1 then U8 ((Aes.sb ((Aes.byteOf (Aes.gw W (i5 - 1)) 1).toNat)) ^^^ (Aes.rc ((i5 - 1) / n))) else if j < 2 then U8 (Aes.sb ((Aes.byteOf (Aes.gw W (i5 - 1)) 2).toNat)) else if j < 3 then U8 (Aes.sb ((Aes.byteOf (Aes.gw W (i5 - 1)) 3).toNat)) else U8 (Aes.sb ((Aes.byteOf (Aes.gw W (i5 - 1)) 0).toNat))) (ex (pt b_t 0)) ea oc AesRefNT.sz77 r_b_t om ?_
           clear r_b_t; intro w61 r_b_t hg62 _
           replace r_b_t := r_b_t.congr (g := fun j => if j < 1 then U8 ((Aes.sb ((Aes.byteOf (Aes.gw W (i5 - 1)) 1).toNat)) ^^^ (Aes.rc ((i5 - 1) / n))) else if j < 2 then U8 (Aes.sb ((Aes.byteOf (Aes.gw W (i5 - 1)) 2).toNat)) else if j < 3 then U8 (Aes.sb ((Aes.byteOf (Aes.gw W (i5 - 1)) 3).toNat)) else U8 (Aes.sb ((Aes.byteOf (Aes.gw W (i5 - 1)) 0).toNat))) (fun j hj => by rw [if_pos ⟨Nat.zero_le _, by omega⟩]; first | rfl | (simp only [Nat.sub_zero]))
           replace o_vW := o_vW.stepG hg62 no_vW_b_t
           replace r_b_19 := r_b_19.stepG hg62 om
           replace r_b_power := r_b_power.stepG hg62 om
           replace r_b_w := r_b_w.stepG hg62 om
           replace r_g53 := r_g53.stepG hg62 om
           replace hk := thenG hk hg62 om
           refine nt (wp_region_lit (w_mv (e8 s5_12) (w_call (Tryz.func49) kr rfl (m2 e8 (evc (U8 (2#8)))) (refMul_c (Aes.rc ((i5 - 1) / n)) (2#8) w61) ?_)))
           rintro _ _ ⟨rfl, rfl⟩
           refine ⟨_, rfl, ?_⟩
           refine w_as e8 (nt (ss ?_))
           replace r_b_t := r_b_t.congr (g := fun j => U8 (Aes.byteOf (Aes.tW n W i5) j)) (fun j hj => by (try dsimp only); first | exact Aes.tW_rot n W i5 j hj om om om | exact Aes.tW_sub n W i5 j hj om om | exact Aes.tW_same n W i5 j om om)
           refine wp_region_lit (w_as Ev.c (nt (wp_block ?_)))
           clear r_g53
           refine c_loop (fun dN aN wl => ∃ (k7 : Nat) (vY : Value), dN = (4 - k7) ∧ ∃ f64, aN = fr 231 f64 ∧ (k7 ≤ 4) ∧ f64 0 = .string (str key) ∧ f64 2 = .pointer none ∧ f64 3 = pt b_19 0 ∧ f64 11 = .int .i64 ((n : Nat) : Int) ∧ f64 12 = U8 (Aes.mul (Aes.rc ((i5 - 1) / n)) (2#8)) ∧ f64 13 = .int .i64 ((i5 : Nat) : Int) ∧ f64 14 = pt b_w 0 ∧ f64 16 = pt b_t 0 ∧ f64 17 = .int .i64 ((k7 : Nat) : Int) ∧ Row wl b_19 74 513 (fun j => if j < 256 then U8 (Aes.sb j) else if j < 512 then U8 (Aes.bk (j - 256)) else vY) ∧ Row wl b_power 75 255 (fun j => U8 (Aes.pk j)) ∧ Row wl b_w 77 4 (fun j => if j < k7 then (fun j => U8 (Aes.byteOf (Aes.gw W (i5 - n)) j ^^^ Aes.byteOf (Aes.tW n W i5) j)) j else (fun j => U8 (0#8)) j) ∧ Row wl b_t 77 4 (fun j => U8 (Aes.byteOf (Aes.tW n W i5) j)) ∧ Own wl w0.heap.size 77 4 vY i5 (fun j => U8 (Aes.byteOf (Aes.gw W (j / 4)) (j % 4))) ∧ vY.ownBlock ≠ some b_19 ∧ vY.ownBlock ≠ some b_power ∧ vY.ownBlock ≠ some b_w ∧ vY.ownBlock ≠ some b_t ∧ Below w0.heap.size w0 wl) (4 - 0) ?_ ?_
           · exact ⟨0, vW, rfl, _, rfl, iv, s5_0, s5_2, s5_3, s5_11, rfl, s5_13, rfl, rfl, ti, (r_b_19.cg), r_b_power, (r_b_w.cg), r_b_t, o_vW, no_vW_b_19, no_vW_b_power, no_vW_b_w, no_vW_b_t, hk⟩
           ·skip
            clear r_b_19 r_b_power r_b_w r_b_t o_vW hk
            rintro _ _ w65 ⟨k7, vY, rfl, f64, rfl, i7_0, s7_0, s7_2, s7_3, s7_11, s7_12, s7_13, s7_14, s7_16, s7_17, r_b_19, r_b_power, r_b_w, r_b_t, o_vY, no_vY_b_19, no_vY_b_power, no_vY_b_w, no_vY_b_t, hk⟩
            refine wp_seq (sr (w_mv (ei s7_17) (w_val (y_bin ei Ev.c b_lss) (nt ?_))))
            refine c_if (p := ((k7 : Nat) : Int) < 4) eb (fun hc66 => ?_) (fun hc66 => ?_)
            ·skip
             refine wp_skip (then_n (wp_seq (wp_block ?_)))
             obtain ⟨g67, cap67, hv67, ge_g67, hc_g67, hob_g67, r_g67⟩ := o_vY.opened om
             have ne_b_19_g67 : b_19 ≠ g67 := fun e => no_vY_b_19 (by rw [hob_g67, e])
             have ne_b_power_g67 : b_power ≠ g67 := fun e => no_vY_b_power (by rw [hob_g67, e])
             have ne_b_w_g67 : b_w ≠ g67 := fun e => no_vY_b_w (by rw [hob_g67, e])
             have ne_b_t_g67 : b_t ≠ g67 := fun e => no_vY_b_t (by rw [hob_g67, e])
             refine region_t 17 AesRefNT.mixed kr ?_
             simp only [List.take_succ_cons, List.take_zero, List.drop_succ_cons, List.drop_zero]
             refine q_mv (ei s7_17) (q_mv (ex (pt b_19 0) s7_3) (q_val (fun w' hw' => y_nc (ex (pt b_19 0))) (q_val (v := pt b_19 512) (fun w' hw' => y_off (y_fa (ex (pt b_19 0)) (AesRefNT.fa74_2 _ _)) ro) (q_val (v := vY) (fun w' hw' => y_ld (ex (pt b_19 512)) AesRefNT.sc72 (cls_cell (r_b_19.val om (ng (ng dv))) r_b_19.lt w' hw')) (q_mv (ei s7_13) (q_mv (ei s7_11) (q_val (fun w' hw' => y_bin ei ei (b_sub om)) (q_mv (ei s7_17) (q_val (v := pt g67 ((i5 - n) * 4)) (fun w' hw' => y_off (y_is (i := (i5 - n)) (ex (.slice (some ⟨g67, 0, none⟩) i5 cap67) (Eq.trans (b := vY) rfl hv67)) ei Tryz.underlying72 AesRefNT.sz77 om om) ro) (q_val (v := pt g67 (((i5 - n) * 4) + k7)) (fun w' hw' => y_off (y_ia1 (i := k7) (ex (pt g67 ((i5 - n) * 4))) ei Tryz.underlying77 AesRefNT.sz5 om om) ro) (q_val (v := U8 (Aes.byteOf (Aes.gw W (i5 - n)) k7)) (fun w' hw' => y_ld (ex (pt g67 (((i5 - n) * 4) + k7))) AesRefNT.sc5 (cls_cell (r_g67.val om (by (try dsimp only); rw [show (((i5 - n) * 4) + k7) / 4 = (i5 - n) from by omega, show (((i5 - n) * 4) + k7) % 4 = k7 from by omega])) r_g67.lt w' hw')) (q_mv (ei s7_17) (q_val (fun w' hw' => y_ia1z (i := k7) (ex (pt b_t 0) s7_16) ei Tryz.underlying77 AesRefNT.sz5 om om) (q_val (v := U8 (Aes.byteOf (Aes.tW n W i5) k7)) (fun w' hw' => y_ld (ex (pt b_t k7)) AesRefNT.sc5 (cls_cell (r_b_t.val om rfl) r_b_t.lt w' hw')) (q_val (fun w' hw' => y_bin e8 e8 xor8) (q_val (fun w' hw' => y_ia1z (i := k7) (ex (pt b_w 0) s7_14) ei Tryz.underlying77 AesRefNT.sz5 om om) (q_nil ?_)))))))))))))))))
             intro w68 hb69
             replace o_vY := o_vY.step hb69
             replace r_b_19 := r_b_19.step hb69
             replace r_b_power := r_b_power.step hb69
             replace r_b_w := r_b_w.step hb69
             replace r_b_t := r_b_t.step hb69
             replace r_g67 := r_g67.step hb69
             replace hk := thenB hk hb69
             refine w_st (v := U8 ((Aes.byteOf (Aes.gw W (i5 - n)) k7) ^^^ (Aes.byteOf (Aes.tW n W i5) k7))) (ex (pt b_w k7)) e8 rfl rfl AesRefNT.sz5 r_b_w om ?_
             clear r_b_w; intro w70 r_b_w hg71 _
             replace o_vY := o_vY.stepG hg71 no_vY_b_w
             replace r_b_19 := r_b_19.stepG hg71 om
             replace r_b_power := r_b_power.stepG hg71 om
             replace r_b_t := r_b_t.stepG hg71 om
             replace r_g67 := r_g67.stepG hg71 om
             replace hk := thenG hk hg71 om
             refine wpList_nil (inb_n (then_n (wp_region_lit (w_mv (ei s7_17) (w_val (y_bin ei Ev.c (b_add om)) (w_as ei (wpList_nil ?_)))))))
             exact then_n ⟨_, om, k7 + 1, vY, rfl, _, rfl, iv, s7_0, s7_2, s7_3, s7_11, s7_12, s7_13, s7_14, s7_16, ti, r_b_19, r_b_power, (r_b_w.cg), r_b_t, o_vY, no_vY_b_19, no_vY_b_power, no_vY_b_w, no_vY_b_t, hk⟩
            ·skip
             refine wp_exit (then_x ?_)
             replace r_b_w := r_b_w.congr (g := fun j => U8 (Aes.byteOf (Aes.gw W (i5 - n)) j ^^^ Aes.byteOf (Aes.tW n W i5) j)) (fun j hj => by dsimp only; rw [if_pos om])
             refine then_x (inb_x (then_n (region_dc (Nat.testBit 1920) 11 AesRefNT.mixed rfl ?_)))
             intro w72 hb73
             replace o_vY := o_vY.step hb73
             replace r_b_19 := r_b_19.step hb73
             replace r_b_power := r_b_power.step hb73
             replace r_b_w := r_b_w.step hb73
             replace r_b_t := r_b_t.step hb73
             replace hk := thenB hk hb73
             have hS : Cls w72 w72 := Below.refl _ _
             refine dp 0 rfl (fun w' => y_mv (ex (pt b_19 0) s7_3)) (dp 1 rfl (fun w' => y_mv (ex (pt b_19 0) s7_3)) (dp (v := pt b_19 0) 2 rfl (fun w' => y_nc (ex (pt b_19 0))) (dp (v := pt b_19 512) 3 rfl (fun w' => y_off (y_fa (ex (pt b_19 0)) (AesRefNT.fa74_2 _ _)) ro) (d_take (v := vY) 4 (Nat.testBit 1936) rfl kr kr kr kr kr kr (fun _ _ _ h => h) hS (fun w' hw' => y_ld (ex (pt b_19 512)) AesRefNT.sc72 (cls_cell (r_b_19.val om (ng (ng dv))) r_b_19.lt w' hw')) (d_take (v := .agg (arr 4 (fun j => U8 (Aes.byteOf (Aes.gw W (i5 - n)) j ^^^ Aes.byteOf (Aes.tW n W i5) j)))) 5 (Nat.testBit 2016) rfl kr kr kr kr kr kr (fun _ _ _ h => h) hS (fun w' hw' => y_lda (ex (pt b_w 0) s7_14) AesRefNT.ag77 AesRefNT.sz77 (fun j hj => by rw [Nat.zero_add]; exact (cls_cell (r_b_w.cell om) r_b_w.lt w' hw'))) (d_one 6 kr rfl (w_bs1 (m := 4) (e := 77) (F := fun j => U8 (Aes.byteOf (Aes.gw W (i5 - n)) j ^^^ Aes.byteOf (Aes.tW n W i5) j)) ea (fun w => by kernel_rfl) ?_)))))))
             intro b_226 w74 hbe_b_226 r_b_226 hb75
             have ne_b_19_b_226 := r_b_19.nb hbe_b_226
             have ne_b_power_b_226 := r_b_power.nb hbe_b_226
             have ne_b_w_b_226 := r_b_w.nb hbe_b_226
             have ne_b_t_b_226 := r_b_t.nb hbe_b_226
             have no_vY_b_226 : vY.ownBlock ≠ some b_226 := o_vY.apart om
             have ge_b_226 := gb_ hk.size hbe_b_226
             clear hbe_b_226
             replace o_vY := o_vY.step hb75
             replace r_b_19 := r_b_19.step hb75
             replace r_b_power := r_b_power.step hb75
             replace r_b_w := r_b_w.step hb75
             replace r_b_t := r_b_t.step hb75
             replace hk := thenB hk hb75
             replace hS := thenB hS hb75
             refine wpList_nil ?_
             refine then_n ⟨fun _ h => thenB h (by assumption), ?_⟩
             refine d_one 7 kr rfl (w_app (k := i5) (m := 1) (size := 4) (bytes := 4) (ex vY) el Tryz.underlying72 kr (by decide) o_vY hk.size r_b_226 om oca (by simp only [maxLen]; omega) om ?_)
             intro v76 w77 o_v76 hg78 hv79
             have no_v76_b_19 := no_new no_vY_b_19 r_b_19.lt hv79
             replace r_b_19 := r_b_19.stepO hg78 no_vY_b_19
             have no_v76_b_power := no_new no_vY_b_power r_b_power.lt hv79
             replace r_b_power := r_b_power.stepO hg78 no_vY_b_power
             have no_v76_b_w := no_new no_vY_b_w r_b_w.lt hv79
             replace r_b_w := r_b_w.stepO hg78 no_vY_b_w
             have no_v76_b_t := no_new no_vY_b_t r_b_t.lt hv79
             replace r_b_t := r_b_t.stepO hg78 no_vY_b_t
             have no_v76_b_226 := no_new no_vY_b_226 r_b_226.lt hv79
             replace r_b_226 := r_b_226.stepO hg78 no_vY_b_226
             replace hk := thenO hk hg78 (fun g e => (o_vY.block_lt g e).2)
             clear o_vY
             clear hS
             refine wpList_nil ?_
             refine then_n ⟨fun hD => absurd hD (by decide), ?_⟩
             refine d_one 8 kr rfl (w_val (y_nc (ex (pt b_19 0))) (wpList_nil ?_))
             refine then_n ⟨fun hD => absurd hD (by decide), ?_⟩
             refine d_one 9 kr rfl (w_val (v := pt b_19 512) (y_off (y_fa (ex (pt b_19 0)) (AesRefNT.fa74_2 _ _)) ro) (wpList_nil ?_))
             refine then_n ⟨fun hD => absurd hD (by decide), ?_⟩
             refine d_one 10 kr rfl (w_st (v := v76) (ex (pt b_19 512)) (ex v76) (o_v76.one) (o_v76.cells) AesRefNT.sz72 r_b_19 om ?_)
             clear r_b_19; intro w80 r_b_19 hg81 _
             replace o_v76 := o_v76.stepG hg81 no_v76_b_19
             replace r_b_power := r_b_power.stepG hg81 om
             replace r_b_w := r_b_w.stepG hg81 om
             replace r_b_t := r_b_t.stepG hg81 om
             replace r_b_226 := r_b_226.stepG hg81 om
             replace hk := thenG hk hg81 om
             refine wpList_nil ?_
             refine then_n ⟨fun hD => absurd hD (by decide), ?_⟩
             refine d_done kr (inb_n (then_n (wp_region_lit (w_mv (ei s7_13) (w_val (y_bin ei Ev.c (b_add om)) (w_as ei (wpList_nil ?_)))))))
             exact then_n ⟨_, om, i5 + 1, v76, rfl, _, rfl, iv, s7_0, s7_2, s7_3, s7_11, (by refine Eq.trans (b := U8 (Aes.mul (Aes.rc ((i5 - 1) / n)) (2#8))) ?_ ?_; exact s7_12; (first | exact congrArg U8 (by rw [Aes.mul2]; exact Aes.rc_step i5 n om om om) | exact congrArg U8 (Aes.rc_same i5 n om om))), ti, (r_b_19.congr (fun j hj => by exact Aes.box_words j hj _ _)), r_b_power, (own_n (o_v76.congr (fun j hj => by (try dsimp only); first | exact Aes.row_key key W n i5 j om (hW i5 om) hj | exact Aes.row_next key W n i5 j om (hW i5 om) hj)) om), no_v76_b_19, no_v76_b_power, hk⟩
          ·skip
           refine sr (w_mv (ei s5_11) (w_val (y_bin ei Ev.c b_eql) (w_mv eb ?_)))
           by_cases hc82 : ((n : Nat) : Int) = 8
           ·skip
            refine w_val_g (v := .int .i64 ((i5 : Nat) : Int)) (wy rfl rfl (eb (dt hc82))) (y_mv (ei s5_13)) (w_val_g (wy rfl rfl (eb (dt hc82))) (y_bin ei Ev.c (b_rem om)) (w_val_g (wy rfl rfl (eb (dt hc82))) (y_bin ei Ev.c b_eql) (w_val (y_pick_t (eb (dt hc82)) eb) (nt ?_))))
            refine c_if (p := (((i5 : Nat) : Int) % 8) = 4) eb (fun hc83 => ?_) (fun hc83 => ?_)
            ·skip
             refine region_t 29 AesRefNT.mixed kr ?_
             simp only [List.take_succ_cons, List.take_zero, List.drop_succ_cons, List.drop_zero]
             refine q_mv (ex (pt b_19 0) s5_3) (q_val (fun w' hw' => y_ia1z (i := 0) (ex (pt b_t 0)) Ev.c Tryz.underlying77 AesRefNT.sz5 om om) (q_val (v := U8 (Aes.byteOf (Aes.gw W (i5 - 1)) 0)) (fun w' hw' => y_ld (ex (pt b_t 0)) AesRefNT.sc5 (cls_cell (r_b_t.val om rfl) r_b_t.lt w' hw')) (q_val (fun w' hw' => y_nc (ex (pt b_19 0))) (q_val (v := pt b_19 0) (fun w' hw' => y_off (y_fa (ex (pt b_19 0)) (AesRefNT.fa74_0 _ _)) ro) (q_val (fun w' hw' => y_ia1z (i := ((Aes.byteOf (Aes.gw W (i5 - 1)) 0).toNat)) (ex (pt b_19 0)) (ex (.int .u8 ((Aes.byteOf (Aes.gw W (i5 - 1)) 0).toNat : Int))) Tryz.underlying71 AesRefNT.sz5 rfl om) (q_val (v := U8 (Aes.sb ((Aes.byteOf (Aes.gw W (i5 - 1)) 0).toNat))) (fun w' hw' => y_ld (ex (pt b_19 ((Aes.byteOf (Aes.gw W (i5 - 1)) 0).toNat))) AesRefNT.sc5 (cls_cell (r_b_19.val om pz) r_b_19.lt w' hw')) (q_mv (ex (pt b_19 0) s5_3) (q_val (fun w' hw' => y_ia1z (i := 1) (ex (pt b_t 0)) Ev.c Tryz.underlying77 AesRefNT.sz5 om om) (q_val (v := U8 (Aes.byteOf (Aes.gw W (i5 - 1)) 1)) (fun w' hw' => y_ld (ex (pt b_t 1)) AesRefNT.sc5 (cls_cell (r_b_t.val om rfl) r_b_t.lt w' hw')) (q_val (fun w' hw' => y_nc (ex (pt b_19 0))) (q_val (v := pt b_19 0) (fun w' hw' => y_off (y_fa (ex (pt b_19 0)) (AesRefNT.fa74_0 _ _)) ro) (q_val (fun w' hw' => y_ia1z (i := ((Aes.byteOf (Aes.gw W (i5 - 1)) 1).toNat)) (ex (pt b_19 0)) (ex (.int .u8 ((Aes.byteOf (Aes.gw W (i5 - 1)) 1).toNat : Int))) Tryz.underlying71 AesRefNT.sz5 rfl om) (q_val (v := U8 (Aes.sb ((Aes.byteOf (Aes.gw W (i5 - 1)) 1).toNat))) (fun w' hw' => y_ld (ex (pt b_19 ((Aes.byteOf (Aes.gw W (i5 - 1)) 1).toNat))) AesRefNT.sc5 (cls_cell (r_b_19.val om pz) r_b_19.lt w' hw')) (q_mv (ex (pt b_19 0) s5_3) (q_val (fun w' hw' => y_ia1z (i := 2) (ex (pt b_t 0)) Ev.c Tryz.underlying77 AesRefNT.sz5 om om) (q_val (v := U8 (Aes.byteOf (Aes.gw W (i5 - 1)) 2)) (fun w' hw' => y_ld (ex (pt b_t 2)) AesRefNT.sc5 (cls_cell (r_b_t.val om rfl) r_b_t.lt w' hw')) (q_val (fun w' hw' => y_nc (ex (pt b_19 0))) (q_val (v := pt b_19 0) (fun w' hw' => y_off (y_fa (ex (pt b_19 0)) (AesRefNT.fa74_0 _ _)) ro) (q_val (fun w' hw' => y_ia1z (i := ((Aes.byteOf (Aes.gw W (i5 - 1)) 2).toNat)) (ex (pt b_19 0)) (ex (.int .u8 ((Aes.byteOf (Aes.gw W (i5 - 1)) 2).toNat : Int))) Tryz.underlying71 AesRefNT.sz5 rfl om) (q_val (v := U8 (Aes.sb ((Aes.byteOf (Aes.gw W (i5 - 1)) 2).toNat))) (fun w' hw' => y_ld (ex (pt b_19 ((Aes.byteOf (Aes.gw W (i5 - 1)) 2).toNat))) AesRefNT.sc5 (cls_cell (r_b_19.val om pz) r_b_19.lt w' hw')) (q_mv (ex (pt b_19 0) s5_3) (q_val (fun w' hw' => y_ia1z (i := 3) (ex (pt b_t 0)) Ev.c Tryz.underlying77 AesRefNT.sz5 om om) (q_val (v := U8 (Aes.byteOf (Aes.gw W (i5 - 1)) 3)) (fun w' hw' => y_ld (ex (pt b_t 3)) AesRefNT.sc5 (cls_cell (r_b_t.val om rfl) r_b_t.lt w' hw')) (q_val (fun w' hw' => y_nc (ex (pt b_19 0))) (q_val (v := pt b_19 0) (fun w' hw' => y_off (y_fa (ex (pt b_19 0)) (AesRefNT.fa74_0 _ _)) ro) (q_val (fun w' hw' => y_ia1z (i := ((Aes.byteOf (Aes.gw W (i5 - 1)) 3).toNat)) (ex (pt b_19 0)) (ex (.int .u8 ((Aes.byteOf (Aes.gw W (i5 - 1)) 3).toNat : Int))) Tryz.underlying71 AesRefNT.sz5 rfl om) (q_val (v := U8 (Aes.sb ((Aes.byteOf (Aes.gw W (i5 - 1)) 3).toNat))) (fun w' hw' => y_ld (ex (pt b_19 ((Aes.byteOf (Aes.gw W (i5 - 1)) 3).toNat))) AesRefNT.sc5 (cls_cell (r_b_19.val om pz) r_b_19.lt w' hw')) (q_val (v := .agg (arr 4 (fun j => if j < 1 then U8 (Aes.sb ((Aes.byteOf (Aes.gw W (i5 - 1)) 0).toNat)) else if j < 2 then U8 (Aes.sb ((Aes.byteOf (Aes.gw W (i5 - 1)) 1).toNat)) else if j < 3 then U8 (Aes.sb ((Aes.byteOf (Aes.gw W (i5 - 1)) 2).toNat)) else U8 (Aes.sb ((Aes.byteOf (Aes.gw W (i5 - 1)) 3).toNat))))) (fun w' hw' => y_build (vs := #[(0, U8 (Aes.sb ((Aes.byteOf (Aes.gw W (i5 - 1)) 0).toNat))), (1, U8 (Aes.sb ((Aes.byteOf (Aes.gw W (i5 - 1)) 1).toNat))), (2, U8 (Aes.sb ((Aes.byteOf (Aes.gw W (i5 - 1)) 2).toNat))), (3, U8 (Aes.sb ((Aes.byteOf (Aes.gw W (i5 - 1)) 3).toNat)))]) (mp_cons e8 (mp_cons e8 (mp_cons e8 (mp_cons e8 mp0)))) (fun w => by kernel_rfl)) (q_nil ?_)))))))))))))))))))))))))))))
             intro w84 hb85
             replace o_vW := o_vW.step hb85
             replace r_b_19 := r_b_19.step hb85
             replace r_b_power := r_b_power.step hb85
             replace r_b_w := r_b_w.step hb85
             replace r_g53 := r_g53.step hb85
             replace r_b_t := r_b_t.step hb85
             replace hk := thenB hk hb85
             refine w_sta (k := 4) (G := fun j => if j < 1 then U8 (Aes.sb ((Aes.byteOf (Aes.gw W (i5 - 1)) 0).toNat)) else if j < 2 then U8 (Aes.sb ((Aes.byteOf (Aes.gw W (i5 - 1)) 1).toNat)) else if j < 3 then U8 (Aes.sb ((Aes.byteOf (Aes.gw W (i5 - 1)) 2).toNat)) else U8 (Aes.sb ((Aes.byteOf (Aes.gw W (i5 - 1)) 3).toNat))) (ex (pt b_t 0)) ea oc AesRefNT.sz77 r_b_t om ?_
             clear r_b_t; intro w86 r_b_t hg87 _
             replace r_b_t := r_b_t.congr (g := fun j => if j < 1 then U8 (Aes.sb ((Aes.byteOf (Aes.gw W (i5 - 1)) 0).toNat)) else if j < 2 then U8 (Aes.sb ((Aes.byteOf (Aes.gw W (i5 - 1)) 1).toNat)) else if j < 3 then U8 (Aes.sb ((Aes.byteOf (Aes.gw W (i5 - 1)) 2).toNat)) else U8 (Aes.sb ((Aes.byteOf (Aes.gw W (i5 - 1)) 3).toNat))) (fun j hj => by rw [if_pos ⟨Nat.zero_le _, by omega⟩]; first | rfl | (simp only [Nat.sub_zero]))
             replace o_vW := o_vW.stepG hg87 no_vW_b_t
             replace r_b_19 := r_b_19.stepG hg87 om
             replace r_b_power := r_b_power.stepG hg87 om
             replace r_b_w := r_b_w.stepG hg87 om
             replace r_g53 := r_g53.stepG hg87 om
             replace hk := thenG hk hg87 om
             refine nt (ss ?_)
             replace r_b_t := r_b_t.congr (g := fun j => U8 (Aes.byteOf (Aes.tW n W i5) j)) (fun j hj => by (try dsimp only); first | exact Aes.tW_rot n W i5 j hj om om om | exact Aes.tW_sub n W i5 j hj om om | exact Aes.tW_same n W i5 j om om)
             refine wp_region_lit (w_as Ev.c (nt (wp_block ?_)))
             clear r_g53
             refine c_loop (fun dN aN wl => ∃ (k7 : Nat) (vY : Value), dN = (4 - k7) ∧ ∃ f88, aN = fr 231 f88 ∧ (k7 ≤ 4) ∧ f88 0 = .string (str key) ∧ f88 2 = .pointer none ∧ f88 3 = pt b_19 0 ∧ f88 11 = .int .i64 ((n : Nat) : Int) ∧ f88 12 = U8 (Aes.rc ((i5 - 1) / n)) ∧ f88 13 = .int .i64 ((i5 : Nat) : Int) ∧ f88 14 = pt b_w 0 ∧ f88 16 = pt b_t 0 ∧ f88 17 = .int .i64 ((k7 : Nat) : Int) ∧ Row wl b_19 74 513 (fun j => if j < 256 then U8 (Aes.sb j) else if j < 512 then U8 (Aes.bk (j - 256)) else vY) ∧ Row wl b_power 75 255 (fun j => U8 (Aes.pk j)) ∧ Row wl b_w 77 4 (fun j => if j < k7 then (fun j => U8 (Aes.byteOf (Aes.gw W (i5 - n)) j ^^^ Aes.byteOf (Aes.tW n W i5) j)) j else (fun j => U8 (0#8)) j) ∧ Row wl b_t 77 4 (fun j => U8 (Aes.byteOf (Aes.tW n W i5) j)) ∧ Own wl w0.heap.size 77 4 vY i5 (fun j => U8 (Aes.byteOf (Aes.gw W (j / 4)) (j % 4))) ∧ vY.ownBlock ≠ some b_19 ∧ vY.ownBlock ≠ some b_power ∧ vY.ownBlock ≠ some b_w ∧ vY.ownBlock ≠ some b_t ∧ Below w0.heap.size w0 wl) (4 - 0) ?_ ?_
             · exact ⟨0, vW, rfl, _, rfl, iv, s5_0, s5_2, s5_3, s5_11, s5_12, s5_13, rfl, rfl, ti, (r_b_19.cg), r_b_power, (r_b_w.cg), r_b_t, o_vW, no_vW_b_19, no_vW_b_power, no_vW_b_w, no_vW_b_t, hk⟩
             ·skip
              clear r_b_19 r_b_power r_b_w r_b_t o_vW hk
              rintro _ _ w89 ⟨k7, vY, rfl, f88, rfl, i7_0, s7_0, s7_2, s7_3, s7_11, s7_12, s7_13, s7_14, s7_16, s7_17, r_b_19, r_b_power, r_b_w, r_b_t, o_vY, no_vY_b_19, no_vY_b_power, no_vY_b_w, no_vY_b_t, hk⟩
              refine wp_seq (sr (w_mv (ei s7_17) (w_val (y_bin ei Ev.c b_lss) (nt ?_))))
              refine c_if (p := ((k7 : Nat) : Int) < 4) eb (fun hc90 => ?_) (fun hc90 => ?_)
              ·skip
               refine wp_skip (then_n (wp_seq (wp_block ?_)))
               obtain ⟨g91, cap91, hv91, ge_g91, hc_g91, hob_g91, r_g91⟩ := o_vY.opened om
               have ne_b_19_g91 : b_19 ≠ g91 := fun e => no_vY_b_19 (by rw [hob_g91, e])
               have ne_b_power_g91 : b_power ≠ g91 := fun e => no_vY_b_power (by rw [hob_g91, e])
               have ne_b_w_g91 : b_w ≠ g91 := fun e => no_vY_b_w (by rw [hob_g91, e])
               have ne_b_t_g91 : b_t ≠ g91 := fun e => no_vY_b_t (by rw [hob_g91, e])
               refine region_t 17 AesRefNT.mixed kr ?_
               simp only [List.take_succ_cons, List.take_zero, List.drop_succ_cons, List.drop_zero]
               refine q_mv (ei s7_17) (q_mv (ex (pt b_19 0) s7_3) (q_val (fun w' hw' => y_nc (ex (pt b_19 0))) (q_val (v := pt b_19 512) (fun w' hw' => y_off (y_fa (ex (pt b_19 0)) (AesRefNT.fa74_2 _ _)) ro) (q_val (v := vY) (fun w' hw' => y_ld (ex (pt b_19 512)) AesRefNT.sc72 (cls_cell (r_b_19.val om (ng (ng dv))) r_b_19.lt w' hw')) (q_mv (ei s7_13) (q_mv (ei s7_11) (q_val (fun w' hw' => y_bin ei ei (b_sub om)) (q_mv (ei s7_17) (q_val (v := pt g91 ((i5 - n) * 4)) (fun w' hw' => y_off (y_is (i := (i5 - n)) (ex (.slice (some ⟨g91, 0, none⟩) i5 cap91) (Eq.trans (b := vY) rfl hv91)) ei Tryz.underlying72 AesRefNT.sz77 om om) ro) (q_val (v := pt g91 (((i5 - n) * 4) + k7)) (fun w' hw' => y_off (y_ia1 (i := k7) (ex (pt g91 ((i5 - n) * 4))) ei Tryz.underlying77 AesRefNT.sz5 om om) ro) (q_val (v := U8 (Aes.byteOf (Aes.gw W (i5 - n)) k7)) (fun w' hw' => y_ld (ex (pt g91 (((i5 - n) * 4) + k7))) AesRefNT.sc5 (cls_cell (r_g91.val om (by (try dsimp only); rw [show (((i5 - n) * 4) + k7) / 4 = (i5 - n) from by omega, show (((i5 - n) * 4) + k7) % 4 = k7 from by omega])) r_g91.lt w' hw')) (q_mv (ei s7_17) (q_val (fun w' hw' => y_ia1z (i := k7) (ex (pt b_t 0) s7_16) ei Tryz.underlying77 AesRefNT.sz5 om om) (q_val (v := U8 (Aes.byteOf (Aes.tW n W i5) k7)) (fun w' hw' => y_ld (ex (pt b_t k7)) AesRefNT.sc5 (cls_cell (r_b_t.val om rfl) r_b_t.lt w' hw')) (q_val (fun w' hw' => y_bin e8 e8 xor8) (q_val (fun w' hw' => y_ia1z (i := k7) (ex (pt b_w 0) s7_14) ei Tryz.underlying77 AesRefNT.sz5 om om) (q_nil ?_)))))))))))))))))
               intro w92 hb93
               replace o_vY := o_vY.step hb93
               replace r_b_19 := r_b_19.step hb93
               replace r_b_power := r_b_power.step hb93
               replace r_b_w := r_b_w.step hb93
               replace r_b_t := r_b_t.step hb93
               replace r_g91 := r_g91.step hb93
               replace hk := thenB hk hb93
               refine w_st (v := U8 ((Aes.byteOf (Aes.gw W (i5 - n)) k7) ^^^ (Aes.byteOf (Aes.tW n W i5) k7))) (ex (pt b_w k7)) e8 rfl rfl AesRefNT.sz5 r_b_w om ?_
               clear r_b_w; intro w94 r_b_w hg95 _
               replace o_vY := o_vY.stepG hg95 no_vY_b_w
               replace r_b_19 := r_b_19.stepG hg95 om
               replace r_b_power := r_b_power.stepG hg95 om
               replace r_b_t := r_b_t.stepG hg95 om
               replace r_g91 := r_g91.stepG hg95 om
               replace hk := thenG hk hg95 om
               refine wpList_nil (inb_n (then_n (wp_region_lit (w_mv (ei s7_17) (w_val (y_bin ei Ev.c (b_add om)) (w_as ei (wpList_nil ?_)))))))
               exact then_n ⟨_, om, k7 + 1, vY, rfl, _, rfl, iv, s7_0, s7_2, s7_3, s7_11, s7_12, s7_13, s7_14, s7_16, ti, r_b_19, r_b_power, (r_b_w.cg), r_b_t, o_vY, no_vY_b_19, no_vY_b_power, no_vY_b_w, no_vY_b_t, hk⟩
              ·skip
               refine wp_exit (then_x ?_)
               replace r_b_w := r_b_w.congr (g := fun j => U8 (Aes.byteOf (Aes.gw W (i5 - n)) j ^^^ Aes.byteOf (Aes.tW n W i5) j)) (fun j hj => by dsimp only; rw [if_pos om])
               refine then_x (inb_x (then_n (region_dc (Nat.testBit 1920) 11 AesRefNT.mixed rfl ?_)))
               intro w96 hb97
               replace o_vY := o_vY.step hb97
               replace r_b_19 := r_b_19.step hb97
               replace r_b_power := r_b_power.step hb97
               replace r_b_w := r_b_w.step hb97
               replace r_b_t := r_b_t.step hb97
               replace hk := thenB hk hb97
               have hS : Cls w96 w96 := Below.refl _ _
               refine dp 0 rfl (fun w' => y_mv (ex (pt b_19 0) s7_3)) (dp 1 rfl (fun w' => y_mv (ex (pt b_19 0) s7_3)) (dp (v := pt b_19 0) 2 rfl (fun w' => y_nc (ex (pt b_19 0))) (dp (v := pt b_19 512) 3 rfl (fun w' => y_off (y_fa (ex (pt b_19 0)) (AesRefNT.fa74_2 _ _)) ro) (d_take (v := vY) 4 (Nat.testBit 1936) rfl kr kr kr kr kr kr (fun _ _ _ h => h) hS (fun w' hw' => y_ld (ex (pt b_19 512)) AesRefNT.sc72 (cls_cell (r_b_19.val om (ng (ng dv))) r_b_19.lt w' hw')) (d_take (v := .agg (arr 4 (fun j => U8 (Aes.byteOf (Aes.gw W (i5 - n)) j ^^^ Aes.byteOf (Aes.tW n W i5) j)))) 5 (Nat.testBit 2016) rfl kr kr kr kr kr kr (fun _ _ _ h => h) hS (fun w' hw' => y_lda (ex (pt b_w 0) s7_14) AesRefNT.ag77 AesRefNT.sz77 (fun j hj => by rw [Nat.zero_add]; exact (cls_cell (r_b_w.cell om) r_b_w.lt w' hw'))) (d_one 6 kr rfl (w_bs1 (m := 4) (e := 77) (F := fun j => U8 (Aes.byteOf (Aes.gw W (i5 - n)) j ^^^ Aes.byteOf (Aes.tW n W i5) j)) ea (fun w => by kernel_rfl) ?_)))))))
               intro b_226 w98 hbe_b_226 r_b_226 hb99
               have ne_b_19_b_226 := r_b_19.nb hbe_b_226
               have ne_b_power_b_226 := r_b_power.nb hbe_b_226
               have ne_b_w_b_226 := r_b_w.nb hbe_b_226
               have ne_b_t_b_226 := r_b_t.nb hbe_b_226
               have no_vY_b_226 : vY.ownBlock ≠ some b_226 := o_vY.apart om
               have ge_b_226 := gb_ hk.size hbe_b_226
               clear hbe_b_226
               replace o_vY := o_vY.step hb99
               replace r_b_19 := r_b_19.step hb99
               replace r_b_power := r_b_power.step hb99
               replace r_b_w := r_b_w.step hb99
               replace r_b_t := r_b_t.step hb99
               replace hk := thenB hk hb99
               replace hS := thenB hS hb99
               refine wpList_nil ?_
               refine then_n ⟨fun _ h => thenB h (by assumption), ?_⟩
               refine d_one 7 kr rfl (w_app (k := i5) (m := 1) (size := 4) (bytes := 4) (ex vY) el Tryz.underlying72 kr (by decide) o_vY hk.size r_b_226 om oca (by simp only [maxLen]; omega) om ?_)
               intro v100 w101 o_v100 hg102 hv103
               have no_v100_b_19 := no_new no_vY_b_19 r_b_19.lt hv103
               replace r_b_19 := r_b_19.stepO hg102 no_vY_b_19
               have no_v100_b_power := no_new no_vY_b_power r_b_power.lt hv103
               replace r_b_power := r_b_power.stepO hg102 no_vY_b_power
               have no_v100_b_w := no_new no_vY_b_w r_b_w.lt hv103
               replace r_b_w := r_b_w.stepO hg102 no_vY_b_w
               have no_v100_b_t := no_new no_vY_b_t r_b_t.lt hv103
               replace r_b_t := r_b_t.stepO hg102 no_vY_b_t
               have no_v100_b_226 := no_new no_vY_b_226 r_b_226.lt hv103
               replace r_b_226 := r_b_226.stepO hg102 no_vY_b_226
               replace hk := thenO hk hg102 (fun g e => (o_vY.block_lt g e).2)
               clear o_vY
               clear hS
               refine wpList_nil ?_
               refine then_n ⟨fun hD => absurd hD (by decide), ?_⟩
               refine d_one 8 kr rfl (w_val (y_nc (ex (pt b_19 0))) (wpList_nil ?_))
               refine then_n ⟨fun hD => absurd hD (by decide), ?_⟩
               refine d_one 9 kr rfl (w_val (v := pt b_19 512) (y_off (y_fa (ex (pt b_19 0)) (AesRefNT.fa74_2 _ _)) ro) (wpList_nil ?_))
               refine then_n ⟨fun hD => absurd hD (by decide), ?_⟩
               refine d_one 10 kr rfl (w_st (v := v100) (ex (pt b_19 512)) (ex v100) (o_v100.one) (o_v100.cells) AesRefNT.sz72 r_b_19 om ?_)
               clear r_b_19; intro w104 r_b_19 hg105 _
               replace o_v100 := o_v100.stepG hg105 no_v100_b_19
               replace r_b_power := r_b_power.stepG hg105 om
               replace r_b_w := r_b_w.stepG hg105 om
               replace r_b_t := r_b_t.stepG hg105 om
               replace r_b_226 := r_b_226.stepG hg105 om
               replace hk := thenG hk hg105 om
               refine wpList_nil ?_
               refine then_n ⟨fun hD => absurd hD (by decide), ?_⟩
               refine d_done kr (inb_n (then_n (wp_region_lit (w_mv (ei s7_13) (w_val (y_bin ei Ev.c (b_add om)) (w_as ei (wpList_nil ?_)))))))
               exact then_n ⟨_, om, i5 + 1, v100, rfl, _, rfl, iv, s7_0, s7_2, s7_3, s7_11, (by refine Eq.trans (b := U8 (Aes.rc ((i5 - 1) / n))) ?_ ?_; exact s7_12; (first | exact congrArg U8 (by rw [Aes.mul2]; exact Aes.rc_step i5 n om om om) | exact congrArg U8 (Aes.rc_same i5 n om om))), ti, (r_b_19.congr (fun j hj => by exact Aes.box_words j hj _ _)), r_b_power, (own_n (o_v100.congr (fun j hj => by (try dsimp only); first | exact Aes.row_key key W n i5 j om (hW i5 om) hj | exact Aes.row_next key W n i5 j om (hW i5 om) hj)) om), no_v100_b_19, no_v100_b_power, hk⟩
            ·skip
             refine wp_skip (then_n (ss ?_))
             replace r_b_t := r_b_t.congr (g := fun j => U8 (Aes.byteOf (Aes.tW n W i5) j)) (fun j hj => by (try dsimp only); first | exact Aes.tW_rot n W i5 j hj om om om | exact Aes.tW_sub n W i5 j hj om om | exact Aes.tW_same n W i5 j om om)
             refine wp_region_lit (w_as Ev.c (nt (wp_block ?_)))
             clear r_g53
             refine c_loop (fun dN aN wl => ∃ (k7 : Nat) (vY : Value), dN = (4 - k7) ∧ ∃ f106, aN = fr 231 f106 ∧ (k7 ≤ 4) ∧ f106 0 = .string (str key) ∧ f106 2 = .pointer none ∧ f106 3 = pt b_19 0 ∧ f106 11 = .int .i64 ((n : Nat) : Int) ∧ f106 12 = U8 (Aes.rc ((i5 - 1) / n)) ∧ f106 13 = .int .i64 ((i5 : Nat) : Int) ∧ f106 14 = pt b_w 0 ∧ f106 16 = pt b_t 0 ∧ f106 17 = .int .i64 ((k7 : Nat) : Int) ∧ Row wl b_19 74 513 (fun j => if j < 256 then U8 (Aes.sb j) else if j < 512 then U8 (Aes.bk (j - 256)) else vY) ∧ Row wl b_power 75 255 (fun j => U8 (Aes.pk j)) ∧ Row wl b_w 77 4 (fun j => if j < k7 then (fun j => U8 (Aes.byteOf (Aes.gw W (i5 - n)) j ^^^ Aes.byteOf (Aes.tW n W i5) j)) j else (fun j => U8 (0#8)) j) ∧ Row wl b_t 77 4 (fun j => U8 (Aes.byteOf (Aes.tW n W i5) j)) ∧ Own wl w0.heap.size 77 4 vY i5 (fun j => U8 (Aes.byteOf (Aes.gw W (j / 4)) (j % 4))) ∧ vY.ownBlock ≠ some b_19 ∧ vY.ownBlock ≠ some b_power ∧ vY.ownBlock ≠ some b_w ∧ vY.ownBlock ≠ some b_t ∧ Below w0.heap.size w0 wl) (4 - 0) ?_ ?_
             · exact ⟨0, vW, rfl, _, rfl, iv, s5_0, s5_2, s5_3, s5_11, s5_12, s5_13, rfl, rfl, ti, (r_b_19.cg), r_b_power, (r_b_w.cg), r_b_t, o_vW, no_vW_b_19, no_vW_b_power, no_vW_b_w, no_vW_b_t, hk⟩
             ·skip
              clear r_b_19 r_b_power r_b_w r_b_t o_vW hk
              rintro _ _ w107 ⟨k7, vY, rfl, f106, rfl, i7_0, s7_0, s7_2, s7_3, s7_11, s7_12, s7_13, s7_14, s7_16, s7_17, r_b_19, r_b_power, r_b_w, r_b_t, o_vY, no_vY_b_19, no_vY_b_power, no_vY_b_w, no_vY_b_t, hk⟩
              refine wp_seq (sr (w_mv (ei s7_17) (w_val (y_bin ei Ev.c b_lss) (nt ?_))))
              refine c_if (p := ((k7 : Nat) : Int) < 4) eb (fun hc108 => ?_) (fun hc108 => ?_)
              ·skip
               refine wp_skip (then_n (wp_seq (wp_block ?_)))
               obtain ⟨g109, cap109, hv109, ge_g109, hc_g109, hob_g109, r_g109⟩ := o_vY.opened om
               have ne_b_19_g109 : b_19 ≠ g109 := fun e => no_vY_b_19 (by rw [hob_g109, e])
               have ne_b_power_g109 : b_power ≠ g109 := fun e => no_vY_b_power (by rw [hob_g109, e])
               have ne_b_w_g109 : b_w ≠ g109 := fun e => no_vY_b_w (by rw [hob_g109, e])
               have ne_b_t_g109 : b_t ≠ g109 := fun e => no_vY_b_t (by rw [hob_g109, e])
               refine region_t 17 AesRefNT.mixed kr ?_
               simp only [List.take_succ_cons, List.take_zero, List.drop_succ_cons, List.drop_zero]
               refine q_mv (ei s7_17) (q_mv (ex (pt b_19 0) s7_3) (q_val (fun w' hw' => y_nc (ex (pt b_19 0))) (q_val (v := pt b_19 512) (fun w' hw' => y_off (y_fa (ex (pt b_19 0)) (AesRefNT.fa74_2 _ _)) ro) (q_val (v := vY) (fun w' hw' => y_ld (ex (pt b_19 512)) AesRefNT.sc72 (cls_cell (r_b_19.val om (ng (ng dv))) r_b_19.lt w' hw')) (q_mv (ei s7_13) (q_mv (ei s7_11) (q_val (fun w' hw' => y_bin ei ei (b_sub om)) (q_mv (ei s7_17) (q_val (v := pt g109 ((i5 - n) * 4)) (fun w' hw' => y_off (y_is (i := (i5 - n)) (ex (.slice (some ⟨g109, 0, none⟩) i5 cap109) (Eq.trans (b := vY) rfl hv109)) ei Tryz.underlying72 AesRefNT.sz77 om om) ro) (q_val (v := pt g109 (((i5 - n) * 4) + k7)) (fun w' hw' => y_off (y_ia1 (i := k7) (ex (pt g109 ((i5 - n) * 4))) ei Tryz.underlying77 AesRefNT.sz5 om om) ro) (q_val (v := U8 (Aes.byteOf (Aes.gw W (i5 - n)) k7)) (fun w' hw' => y_ld (ex (pt g109 (((i5 - n) * 4) + k7))) AesRefNT.sc5 (cls_cell (r_g109.val om (by (try dsimp only); rw [show (((i5 - n) * 4) + k7) / 4 = (i5 - n) from by omega, show (((i5 - n) * 4) + k7) % 4 = k7 from by omega])) r_g109.lt w' hw')) (q_mv (ei s7_17) (q_val (fun w' hw' => y_ia1z (i := k7) (ex (pt b_t 0) s7_16) ei Tryz.underlying77 AesRefNT.sz5 om om) (q_val (v := U8 (Aes.byteOf (Aes.tW n W i5) k7)) (fun w' hw' => y_ld (ex (pt b_t k7)) AesRefNT.sc5 (cls_cell (r_b_t.val om rfl) r_b_t.lt w' hw')) (q_val (fun w' hw' => y_bin e8 e8 xor8) (q_val (fun w' hw' => y_ia1z (i := k7) (ex (pt b_w 0) s7_14) ei Tryz.underlying77 AesRefNT.sz5 om om) (q_nil ?_)))))))))))))))))
               intro w110 hb111
               replace o_vY := o_vY.step hb111
               replace r_b_19 := r_b_19.step hb111
               replace r_b_power := r_b_power.step hb111
               replace r_b_w := r_b_w.step hb111
               replace r_b_t := r_b_t.step hb111
               replace r_g109 := r_g109.step hb111
               replace hk := thenB hk hb111
               refine w_st (v := U8 ((Aes.byteOf (Aes.gw W (i5 - n)) k7) ^^^ (Aes.byteOf (Aes.tW n W i5) k7))) (ex (pt b_w k7)) e8 rfl rfl AesRefNT.sz5 r_b_w om ?_
               clear r_b_w; intro w112 r_b_w hg113 _
               replace o_vY := o_vY.stepG hg113 no_vY_b_w
               replace r_b_19 := r_b_19.stepG hg113 om
               replace r_b_power := r_b_power.stepG hg113 om
               replace r_b_t := r_b_t.stepG hg113 om
               replace r_g109 := r_g109.stepG hg113 om
               replace hk := thenG hk hg113 om
               refine wpList_nil (inb_n (then_n (wp_region_lit (w_mv (ei s7_17) (w_val (y_bin ei Ev.c (b_add om)) (w_as ei (wpList_nil ?_)))))))
               exact then_n ⟨_, om, k7 + 1, vY, rfl, _, rfl, iv, s7_0, s7_2, s7_3, s7_11, s7_12, s7_13, s7_14, s7_16, ti, r_b_19, r_b_power, (r_b_w.cg), r_b_t, o_vY, no_vY_b_19, no_vY_b_power, no_vY_b_w, no_vY_b_t, hk⟩
              ·skip
               refine wp_exit (then_x ?_)
               replace r_b_w := r_b_w.congr (g := fun j => U8 (Aes.byteOf (Aes.gw W (i5 - n)) j ^^^ Aes.byteOf (Aes.tW n W i5) j)) (fun j hj => by dsimp only; rw [if_pos om])
               refine then_x (inb_x (then_n (region_dc (Nat.testBit 1920) 11 AesRefNT.mixed rfl ?_)))
               intro w114 hb115
               replace o_vY := o_vY.step hb115
               replace r_b_19 := r_b_19.step hb115
               replace r_b_power := r_b_power.step hb115
               replace r_b_w := r_b_w.step hb115
               replace r_b_t := r_b_t.step hb115
               replace hk := thenB hk hb115
               have hS : Cls w114 w114 := Below.refl _ _
               refine dp 0 rfl (fun w' => y_mv (ex (pt b_19 0) s7_3)) (dp 1 rfl (fun w' => y_mv (ex (pt b_19 0) s7_3)) (dp (v := pt b_19 0) 2 rfl (fun w' => y_nc (ex (pt b_19 0))) (dp (v := pt b_19 512) 3 rfl (fun w' => y_off (y_fa (ex (pt b_19 0)) (AesRefNT.fa74_2 _ _)) ro) (d_take (v := vY) 4 (Nat.testBit 1936) rfl kr kr kr kr kr kr (fun _ _ _ h => h) hS (fun w' hw' => y_ld (ex (pt b_19 512)) AesRefNT.sc72 (cls_cell (r_b_19.val om (ng (ng dv))) r_b_19.lt w' hw')) (d_take (v := .agg (arr 4 (fun j => U8 (Aes.byteOf (Aes.gw W (i5 - n)) j ^^^ Aes.byteOf (Aes.tW n W i5) j)))) 5 (Nat.testBit 2016) rfl kr kr kr kr kr kr (fun _ _ _ h => h) hS (fun w' hw' => y_lda (ex (pt b_w 0) s7_14) AesRefNT.ag77 AesRefNT.sz77 (fun j hj => by rw [Nat.zero_add]; exact (cls_cell (r_b_w.cell om) r_b_w.lt w' hw'))) (d_one 6 kr rfl (w_bs1 (m := 4) (e := 77) (F := fun j => U8 (Aes.byteOf (Aes.gw W (i5 - n)) j ^^^ Aes.byteOf (Aes.tW n W i5) j)) ea (fun w => by kernel_rfl) ?_)))))))
               intro b_226 w116 hbe_b_226 r_b_226 hb117
               have ne_b_19_b_226 := r_b_19.nb hbe_b_226
               have ne_b_power_b_226 := r_b_power.nb hbe_b_226
               have ne_b_w_b_226 := r_b_w.nb hbe_b_226
               have ne_b_t_b_226 := r_b_t.nb hbe_b_226
               have no_vY_b_226 : vY.ownBlock ≠ some b_226 := o_vY.apart om
               have ge_b_226 := gb_ hk.size hbe_b_226
               clear hbe_b_226
               replace o_vY := o_vY.step hb117
               replace r_b_19 := r_b_19.step hb117
               replace r_b_power := r_b_power.step hb117
               replace r_b_w := r_b_w.step hb117
               replace r_b_t := r_b_t.step hb117
               replace hk := thenB hk hb117
               replace hS := thenB hS hb117
               refine wpList_nil ?_
               refine then_n ⟨fun _ h => thenB h (by assumption), ?_⟩
               refine d_one 7 kr rfl (w_app (k := i5) (m := 1) (size := 4) (bytes := 4) (ex vY) el Tryz.underlying72 kr (by decide) o_vY hk.size r_b_226 om oca (by simp only [maxLen]; omega) om ?_)
               intro v118 w119 o_v118 hg120 hv121
               have no_v118_b_19 := no_new no_vY_b_19 r_b_19.lt hv121
               replace r_b_19 := r_b_19.stepO hg120 no_vY_b_19
               have no_v118_b_power := no_new no_vY_b_power r_b_power.lt hv121
               replace r_b_power := r_b_power.stepO hg120 no_vY_b_power
               have no_v118_b_w := no_new no_vY_b_w r_b_w.lt hv121
               replace r_b_w := r_b_w.stepO hg120 no_vY_b_w
               have no_v118_b_t := no_new no_vY_b_t r_b_t.lt hv121
               replace r_b_t := r_b_t.stepO hg120 no_vY_b_t
               have no_v118_b_226 := no_new no_vY_b_226 r_b_226.lt hv121
               replace r_b_226 := r_b_226.stepO hg120 no_vY_b_226
               replace hk := thenO hk hg120 (fun g e => (o_vY.block_lt g e).2)
               clear o_vY
               clear hS
               refine wpList_nil ?_
               refine then_n ⟨fun hD => absurd hD (by decide), ?_⟩
               refine d_one 8 kr rfl (w_val (y_nc (ex (pt b_19 0))) (wpList_nil ?_))
               refine then_n ⟨fun hD => absurd hD (by decide), ?_⟩
               refine d_one 9 kr rfl (w_val (v := pt b_19 512) (y_off (y_fa (ex (pt b_19 0)) (AesRefNT.fa74_2 _ _)) ro) (wpList_nil ?_))
               refine then_n ⟨fun hD => absurd hD (by decide), ?_⟩
               refine d_one 10 kr rfl (w_st (v := v118) (ex (pt b_19 512)) (ex v118) (o_v118.one) (o_v118.cells) AesRefNT.sz72 r_b_19 om ?_)
               clear r_b_19; intro w122 r_b_19 hg123 _
               replace o_v118 := o_v118.stepG hg123 no_v118_b_19
               replace r_b_power := r_b_power.stepG hg123 om
               replace r_b_w := r_b_w.stepG hg123 om
               replace r_b_t := r_b_t.stepG hg123 om
               replace r_b_226 := r_b_226.stepG hg123 om
               replace hk := thenG hk hg123 om
               refine wpList_nil ?_
               refine then_n ⟨fun hD => absurd hD (by decide), ?_⟩
               refine d_done kr (inb_n (then_n (wp_region_lit (w_mv (ei s7_13) (w_val (y_bin ei Ev.c (b_add om)) (w_as ei (wpList_nil ?_)))))))
               exact then_n ⟨_, om, i5 + 1, v118, rfl, _, rfl, iv, s7_0, s7_2, s7_3, s7_11, (by refine Eq.trans (b := U8 (Aes.rc ((i5 - 1) / n))) ?_ ?_; exact s7_12; (first | exact congrArg U8 (by rw [Aes.mul2]; exact Aes.rc_step i5 n om om om) | exact congrArg U8 (Aes.rc_same i5 n om om))), ti, (r_b_19.congr (fun j hj => by exact Aes.box_words j hj _ _)), r_b_power, (own_n (o_v118.congr (fun j hj => by (try dsimp only); first | exact Aes.row_key key W n i5 j om (hW i5 om) hj | exact Aes.row_next key W n i5 j om (hW i5 om) hj)) om), no_v118_b_19, no_v118_b_power, hk⟩
           ·skip
            with_reducible refine w_skip ?_ ?_
            exact wn rfl rfl (eb (df hc82))
            with_reducible refine w_skip ?_ ?_
            exact wn rfl rfl (eb (df hc82))
            with_reducible refine w_skip ?_ ?_
            exact wn rfl rfl (eb (df hc82))
            refine w_val (y_pick_f (eb (df hc82)) Ev.c) (nt (c_ff eb (wp_skip (then_n (ss ?_)))))
            replace r_b_t := r_b_t.congr (g := fun j => U8 (Aes.byteOf (Aes.tW n W i5) j)) (fun j hj => by (try dsimp only); first | exact Aes.tW_rot n W i5 j hj om om om | exact Aes.tW_sub n W i5 j hj om om | exact Aes.tW_same n W i5 j om om)
            refine wp_region_lit (w_as Ev.c (nt (wp_block ?_)))
            clear r_g53
            refine c_loop (fun dN aN wl => ∃ (k7 : Nat) (vY : Value), dN = (4 - k7) ∧ ∃ f124, aN = fr 231 f124 ∧ (k7 ≤ 4) ∧ f124 0 = .string (str key) ∧ f124 2 = .pointer none ∧ f124 3 = pt b_19 0 ∧ f124 11 = .int .i64 ((n : Nat) : Int) ∧ f124 12 = U8 (Aes.rc ((i5 - 1) / n)) ∧ f124 13 = .int .i64 ((i5 : Nat) : Int) ∧ f124 14 = pt b_w 0 ∧ f124 16 = pt b_t 0 ∧ f124 17 = .int .i64 ((k7 : Nat) : Int) ∧ Row wl b_19 74 513 (fun j => if j < 256 then U8 (Aes.sb j) else if j < 512 then U8 (Aes.bk (j - 256)) else vY) ∧ Row wl b_power 75 255 (fun j => U8 (Aes.pk j)) ∧ Row wl b_w 77 4 (fun j => if j < k7 then (fun j => U8 (Aes.byteOf (Aes.gw W (i5 - n)) j ^^^ Aes.byteOf (Aes.tW n W i5) j)) j else (fun j => U8 (0#8)) j) ∧ Row wl b_t 77 4 (fun j => U8 (Aes.byteOf (Aes.tW n W i5) j)) ∧ Own wl w0.heap.size 77 4 vY i5 (fun j => U8 (Aes.byteOf (Aes.gw W (j / 4)) (j % 4))) ∧ vY.ownBlock ≠ some b_19 ∧ vY.ownBlock ≠ some b_power ∧ vY.ownBlock ≠ some b_w ∧ vY.ownBlock ≠ some b_t ∧ Below w0.heap.size w0 wl) (4 - 0) ?_ ?_
            · exact ⟨0, vW, rfl, _, rfl, iv, s5_0, s5_2, s5_3, s5_11, s5_12, s5_13, rfl, rfl, ti, (r_b_19.cg), r_b_power, (r_b_w.cg), r_b_t, o_vW, no_vW_b_19, no_vW_b_power, no_vW_b_w, no_vW_b_t, hk⟩
            ·skip
             clear r_b_19 r_b_power r_b_w r_b_t o_vW hk
             rintro _ _ w125 ⟨k7, vY, rfl, f124, rfl, i7_0, s7_0, s7_2, s7_3, s7_11, s7_12, s7_13, s7_14, s7_16, s7_17, r_b_19, r_b_power, r_b_w, r_b_t, o_vY, no_vY_b_19, no_vY_b_power, no_vY_b_w, no_vY_b_t, hk⟩
             refine wp_seq (sr (w_mv (ei s7_17) (w_val (y_bin ei Ev.c b_lss) (nt ?_))))
             refine c_if (p := ((k7 : Nat) : Int) < 4) eb (fun hc126 => ?_) (fun hc126 => ?_)
             ·skip
              refine wp_skip (then_n (wp_seq (wp_block ?_)))
              obtain ⟨g127, cap127, hv127, ge_g127, hc_g127, hob_g127, r_g127⟩ := o_vY.opened om
              have ne_b_19_g127 : b_19 ≠ g127 := fun e => no_vY_b_19 (by rw [hob_g127, e])
              have ne_b_power_g127 : b_power ≠ g127 := fun e => no_vY_b_power (by rw [hob_g127, e])
              have ne_b_w_g127 : b_w ≠ g127 := fun e => no_vY_b_w (by rw [hob_g127, e])
              have ne_b_t_g127 : b_t ≠ g127 := fun e => no_vY_b_t (by rw [hob_g127, e])
              refine region_t 17 AesRefNT.mixed kr ?_
              simp only [List.take_succ_cons, List.take_zero, List.drop_succ_cons, List.drop_zero]
              refine q_mv (ei s7_17) (q_mv (ex (pt b_19 0) s7_3) (q_val (fun w' hw' => y_nc (ex (pt b_19 0))) (q_val (v := pt b_19 512) (fun w' hw' => y_off (y_fa (ex (pt b_19 0)) (AesRefNT.fa74_2 _ _)) ro) (q_val (v := vY) (fun w' hw' => y_ld (ex (pt b_19 512)) AesRefNT.sc72 (cls_cell (r_b_19.val om (ng (ng dv))) r_b_19.lt w' hw')) (q_mv (ei s7_13) (q_mv (ei s7_11) (q_val (fun w' hw' => y_bin ei ei (b_sub om)) (q_mv (ei s7_17) (q_val (v := pt g127 ((i5 - n) * 4)) (fun w' hw' => y_off (y_is (i := (i5 - n)) (ex (.slice (some ⟨g127, 0, none⟩) i5 cap127) (Eq.trans (b := vY) rfl hv127)) ei Tryz.underlying72 AesRefNT.sz77 om om) ro) (q_val (v := pt g127 (((i5 - n) * 4) + k7)) (fun w' hw' => y_off (y_ia1 (i := k7) (ex (pt g127 ((i5 - n) * 4))) ei Tryz.underlying77 AesRefNT.sz5 om om) ro) (q_val (v := U8 (Aes.byteOf (Aes.gw W (i5 - n)) k7)) (fun w' hw' => y_ld (ex (pt g127 (((i5 - n) * 4) + k7))) AesRefNT.sc5 (cls_cell (r_g127.val om (by (try dsimp only); rw [show (((i5 - n) * 4) + k7) / 4 = (i5 - n) from by omega, show (((i5 - n) * 4) + k7) % 4 = k7 from by omega])) r_g127.lt w' hw')) (q_mv (ei s7_17) (q_val (fun w' hw' => y_ia1z (i := k7) (ex (pt b_t 0) s7_16) ei Tryz.underlying77 AesRefNT.sz5 om om) (q_val (v := U8 (Aes.byteOf (Aes.tW n W i5) k7)) (fun w' hw' => y_ld (ex (pt b_t k7)) AesRefNT.sc5 (cls_cell (r_b_t.val om rfl) r_b_t.lt w' hw')) (q_val (fun w' hw' => y_bin e8 e8 xor8) (q_val (fun w' hw' => y_ia1z (i := k7) (ex (pt b_w 0) s7_14) ei Tryz.underlying77 AesRefNT.sz5 om om) (q_nil ?_)))))))))))))))))
              intro w128 hb129
              replace o_vY := o_vY.step hb129
              replace r_b_19 := r_b_19.step hb129
              replace r_b_power := r_b_power.step hb129
              replace r_b_w := r_b_w.step hb129
              replace r_b_t := r_b_t.step hb129
              replace r_g127 := r_g127.step hb129
              replace hk := thenB hk hb129
              refine w_st (v := U8 ((Aes.byteOf (Aes.gw W (i5 - n)) k7) ^^^ (Aes.byteOf (Aes.tW n W i5) k7))) (ex (pt b_w k7)) e8 rfl rfl AesRefNT.sz5 r_b_w om ?_
              clear r_b_w; intro w130 r_b_w hg131 _
              replace o_vY := o_vY.stepG hg131 no_vY_b_w
              replace r_b_19 := r_b_19.stepG hg131 om
              replace r_b_power := r_b_power.stepG hg131 om
              replace r_b_t := r_b_t.stepG hg131 om
              replace r_g127 := r_g127.stepG hg131 om
              replace hk := thenG hk hg131 om
              refine wpList_nil (inb_n (then_n (wp_region_lit (w_mv (ei s7_17) (w_val (y_bin ei Ev.c (b_add om)) (w_as ei (wpList_nil ?_)))))))
              exact then_n ⟨_, om, k7 + 1, vY, rfl, _, rfl, iv, s7_0, s7_2, s7_3, s7_11, s7_12, s7_13, s7_14, s7_16, ti, r_b_19, r_b_power, (r_b_w.cg), r_b_t, o_vY, no_vY_b_19, no_vY_b_power, no_vY_b_w, no_vY_b_t, hk⟩
             ·skip
              refine wp_exit (then_x ?_)
              replace r_b_w := r_b_w.congr (g := fun j => U8 (Aes.byteOf (Aes.gw W (i5 - n)) j ^^^ Aes.byteOf (Aes.tW n W i5) j)) (fun j hj => by dsimp only; rw [if_pos om])
              refine then_x (inb_x (then_n (region_dc (Nat.testBit 1920) 11 AesRefNT.mixed rfl ?_)))
              intro w132 hb133
              replace o_vY := o_vY.step hb133
              replace r_b_19 := r_b_19.step hb133
              replace r_b_power := r_b_power.step hb133
              replace r_b_w := r_b_w.step hb133
              replace r_b_t := r_b_t.step hb133
              replace hk := thenB hk hb133
              have hS : Cls w132 w132 := Below.refl _ _
              refine dp 0 rfl (fun w' => y_mv (ex (pt b_19 0) s7_3)) (dp 1 rfl (fun w' => y_mv (ex (pt b_19 0) s7_3)) (dp (v := pt b_19 0) 2 rfl (fun w' => y_nc (ex (pt b_19 0))) (dp (v := pt b_19 512) 3 rfl (fun w' => y_off (y_fa (ex (pt b_19 0)) (AesRefNT.fa74_2 _ _)) ro) (d_take (v := vY) 4 (Nat.testBit 1936) rfl kr kr kr kr kr kr (fun _ _ _ h => h) hS (fun w' hw' => y_ld (ex (pt b_19 512)) AesRefNT.sc72 (cls_cell (r_b_19.val om (ng (ng dv))) r_b_19.lt w' hw')) (d_take (v := .agg (arr 4 (fun j => U8 (Aes.byteOf (Aes.gw W (i5 - n)) j ^^^ Aes.byteOf (Aes.tW n W i5) j)))) 5 (Nat.testBit 2016) rfl kr kr kr kr kr kr (fun _ _ _ h => h) hS (fun w' hw' => y_lda (ex (pt b_w 0) s7_14) AesRefNT.ag77 AesRefNT.sz77 (fun j hj => by rw [Nat.zero_add]; exact (cls_cell (r_b_w.cell om) r_b_w.lt w' hw'))) (d_one 6 kr rfl (w_bs1 (m := 4) (e := 77) (F := fun j => U8 (Aes.byteOf (Aes.gw W (i5 - n)) j ^^^ Aes.byteOf (Aes.tW n W i5) j)) ea (fun w => by kernel_rfl) ?_)))))))
              intro b_226 w134 hbe_b_226 r_b_226 hb135
              have ne_b_19_b_226 := r_b_19.nb hbe_b_226
              have ne_b_power_b_226 := r_b_power.nb hbe_b_226
              have ne_b_w_b_226 := r_b_w.nb hbe_b_226
              have ne_b_t_b_226 := r_b_t.nb hbe_b_226
              have no_vY_b_226 : vY.ownBlock ≠ some b_226 := o_vY.apart om
              have ge_b_226 := gb_ hk.size hbe_b_226
              clear hbe_b_226
              replace o_vY := o_vY.step hb135
              replace r_b_19 := r_b_19.step hb135
              replace r_b_power := r_b_power.step hb135
              replace r_b_w := r_b_w.step hb135
              replace r_b_t := r_b_t.step hb135
              replace hk := thenB hk hb135
              replace hS := thenB hS hb135
              refine wpList_nil ?_
              refine then_n ⟨fun _ h => thenB h (by assumption), ?_⟩
              refine d_one 7 kr rfl (w_app (k := i5) (m := 1) (size := 4) (bytes := 4) (ex vY) el Tryz.underlying72 kr (by decide) o_vY hk.size r_b_226 om oca (by simp only [maxLen]; omega) om ?_)
              intro v136 w137 o_v136 hg138 hv139
              have no_v136_b_19 := no_new no_vY_b_19 r_b_19.lt hv139
              replace r_b_19 := r_b_19.stepO hg138 no_vY_b_19
              have no_v136_b_power := no_new no_vY_b_power r_b_power.lt hv139
              replace r_b_power := r_b_power.stepO hg138 no_vY_b_power
              have no_v136_b_w := no_new no_vY_b_w r_b_w.lt hv139
              replace r_b_w := r_b_w.stepO hg138 no_vY_b_w
              have no_v136_b_t := no_new no_vY_b_t r_b_t.lt hv139
              replace r_b_t := r_b_t.stepO hg138 no_vY_b_t
              have no_v136_b_226 := no_new no_vY_b_226 r_b_226.lt hv139
              replace r_b_226 := r_b_226.stepO hg138 no_vY_b_226
              replace hk := thenO hk hg138 (fun g e => (o_vY.block_lt g e).2)
              clear o_vY
              clear hS
              refine wpList_nil ?_
              refine then_n ⟨fun hD => absurd hD (by decide), ?_⟩
              refine d_one 8 kr rfl (w_val (y_nc (ex (pt b_19 0))) (wpList_nil ?_))
              refine then_n ⟨fun hD => absurd hD (by decide), ?_⟩
              refine d_one 9 kr rfl (w_val (v := pt b_19 512) (y_off (y_fa (ex (pt b_19 0)) (AesRefNT.fa74_2 _ _)) ro) (wpList_nil ?_))
              refine then_n ⟨fun hD => absurd hD (by decide), ?_⟩
              refine d_one 10 kr rfl (w_st (v := v136) (ex (pt b_19 512)) (ex v136) (o_v136.one) (o_v136.cells) AesRefNT.sz72 r_b_19 om ?_)
              clear r_b_19; intro w140 r_b_19 hg141 _
              replace o_v136 := o_v136.stepG hg141 no_v136_b_19
              replace r_b_power := r_b_power.stepG hg141 om
              replace r_b_w := r_b_w.stepG hg141 om
              replace r_b_t := r_b_t.stepG hg141 om
              replace r_b_226 := r_b_226.stepG hg141 om
              replace hk := thenG hk hg141 om
              refine wpList_nil ?_
              refine then_n ⟨fun hD => absurd hD (by decide), ?_⟩
              refine d_done kr (inb_n (then_n (wp_region_lit (w_mv (ei s7_13) (w_val (y_bin ei Ev.c (b_add om)) (w_as ei (wpList_nil ?_)))))))
              exact then_n ⟨_, om, i5 + 1, v136, rfl, _, rfl, iv, s7_0, s7_2, s7_3, s7_11, (by refine Eq.trans (b := U8 (Aes.rc ((i5 - 1) / n))) ?_ ?_; exact s7_12; (first | exact congrArg U8 (by rw [Aes.mul2]; exact Aes.rc_step i5 n om om om) | exact congrArg U8 (Aes.rc_same i5 n om om))), ti, (r_b_19.congr (fun j hj => by exact Aes.box_words j hj _ _)), r_b_power, (own_n (o_v136.congr (fun j hj => by (try dsimp only); first | exact Aes.row_key key W n i5 j om (hW i5 om) hj | exact Aes.row_next key W n i5 j om (hW i5 om) hj)) om), no_v136_b_19, no_v136_b_power, hk⟩
        ·skip
         refine wp_exit (then_x (then_x (inb_x (then_n (sr (w_mv (ex (pt b_19 0) s5_3) (w_as (ex (pt b_19 0)) (nt (wp_ret (fin_ret1 rfl (ex (pt b_19 0)) ?_))))))))))
         exact ⟨b_19, vW, rfl, hk, ge_b_19, r_b_19, own_n o_vW om⟩
end Go.Proofs.YtepogbfkmflooaaGreatDoor
