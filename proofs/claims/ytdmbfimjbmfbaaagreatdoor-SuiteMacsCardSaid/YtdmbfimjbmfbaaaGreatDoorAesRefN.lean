/-
  The reference's cipher of a key, and its words. Conditions as each says.
-/
import Derived.Test.YtdmbfimjbmfbaaaGreatDoorRows
import Derived.Test.YtdmbfimjbmfbaaaGreatDoorGenAny
import Derived.Test.YtdmbfimjbmfbaaaGreatDoorOct
import Derived.Test.YtdmbfimjbmfbaaaGreatDoorAesMulRef
import Derived.Test.YtdmbfimjbmfbaaaGreatDoorAesBackPlain
import Derived.Test.YtdmbfimjbmfbaaaGreatDoorAesExpand
import Derived.Test.YtdmbfimjbmfbaaaGreatDoorGenSh
import Derived.ProofKit
namespace Go.Proofs.YtdmbfimjbmfbaaaGreatDoor
open Go.RowKit
set_option linter.unusedSimpArgs false
set_option linter.unusedVariables false
set_option maxRecDepth 100000
set_option maxHeartbeats 1000000
namespace AesRefNT
theorem mixed : Tryz.prog.follows .mixedOrders = true := by kernel_rfl
theorem ag88 : (Tryz.prog.underlying 88).map isAggD = some true := by rw [Tryz.underlying88]; rfl
theorem fa84_0 (g off : Nat) : ∀ w, (Instr.fieldAt 84 (.pointer (some ⟨g, off, none⟩)) 0).run Tryz.prog w = .ok (.pointer (some ⟨g, off + 0, none⟩)) w := fun w => by kernel_rfl
theorem fa84_1 (g off : Nat) : ∀ w, (Instr.fieldAt 84 (.pointer (some ⟨g, off, none⟩)) 1).run Tryz.prog w = .ok (.pointer (some ⟨g, off + 256, none⟩)) w := fun w => by kernel_rfl
theorem fa84_2 (g off : Nat) : ∀ w, (Instr.fieldAt 84 (.pointer (some ⟨g, off, none⟩)) 2).run Tryz.prog w = .ok (.pointer (some ⟨g, off + 512, none⟩)) w := fun w => by kernel_rfl
theorem sc5 : (Tryz.prog.underlying 5).map scal = some true := by rw [Tryz.underlying5]; rfl
theorem sc82 : (Tryz.prog.underlying 82).map scal = some true := by rw [Tryz.underlying82]; rfl
theorem so3 : (Tryz.prog.underlying 3).isSome = true := by rw [Tryz.underlying3]; rfl
theorem sz5 : (Tryz.prog.info? 5).map (·.size) = some 1 := by kernel_rfl
theorem sz82 : (Tryz.prog.info? 82).map (·.size) = some 1 := by kernel_rfl
theorem sz88 : (Tryz.prog.info? 88).map (·.size) = some 4 := by kernel_rfl
end AesRefNT
theorem Aes.mul2_all : ∀ n, n < 256 → Aes.mul (BitVec.ofNat 8 n) 2#8 = Aes.xt (BitVec.ofNat 8 n) := by decide +kernel
theorem Aes.mul2 (b : BitVec 8) : Aes.mul b 2#8 = Aes.xt b := by
  have := Aes.mul2_all _ b.isLt
  rw [BitVec.ofNat_toNat, BitVec.setWidth_eq] at this
  exact this
theorem Aes.pk_last (i : Nat) (h : 1 ≤ i) : Aes.mul (Aes.pk (i - 1)) 3#8 = Aes.pk i := by
  rw [Aes.pk_mul, Nat.sub_add_cancel h]
theorem Aes.pst_set (i j : Nat) (hj : j < 256) : (if j = (Aes.pk i).toNat then U8 ((Aes.rr (Aes.pk ((255 - i) % 255)) 4).2 ^^^ 99#8) else U8 (gb (Aes.pst i) j)) = U8 (gb (Aes.pst (i + 1)) j) := by
  show _ = U8 (gb ((Aes.pst i).set (Aes.pk i).toNat ((Aes.rr (Aes.pk ((255 - i) % 255)) 4).2 ^^^ 99#8)) j)
  rw [Aes.gb_set _ _ _ _ (by rw [Aes.length_pst]; exact hj)]
  split <;> rfl
theorem Aes.bt_set (i j : Nat) (hj : j < 256) : (if j = (Aes.sb i).toNat then U8 (BitVec.ofNat 8 i) else U8 (gb (Aes.bt i) j)) = U8 (gb (Aes.bt (i + 1)) j) := by
  show _ = U8 (gb ((Aes.bt i).set (Aes.sb i).toNat (BitVec.ofNat 8 i)) j)
  rw [Aes.gb_set _ _ _ _ (by rw [Aes.length_bt]; exact hj)]
  split <;> rfl
theorem Aes.box_start (j : Nat) (X Y : Value) : (if j = 0 then U8 99#8 else if j < 256 then U8 0#8 else if j < 512 then X else Y) = if j < 256 then U8 (gb (Aes.pst 0) j) else if j < 512 then X else Y := by
  by_cases e2 : j < 256
  · rw [if_pos e2, if_pos e2]
    show _ = U8 (gb ((List.replicate 256 0#8).set 0 99#8) j)
    rw [Aes.gb_set _ _ _ _ (Nat.lt_of_lt_of_eq e2 List.length_replicate.symm), gb_rep]
    by_cases e : j = 0
    · rw [if_pos e, if_pos e]
    · rw [if_neg e, if_neg e]
  · rw [if_neg e2, if_neg e2, if_neg om]
theorem Aes.box_step (i j : Nat) (X Y : Value) : (if j = (Aes.pk i).toNat then U8 ((Aes.rr (Aes.pk ((255 - i) % 255)) 4).2 ^^^ 99#8) else if j < 256 then U8 (gb (Aes.pst i) j) else if j < 512 then X else Y) = if j < 256 then U8 (gb (Aes.pst (i + 1)) j) else if j < 512 then X else Y := by
  have := (Aes.pk i).isLt
  by_cases e2 : j < 256
  · rw [if_pos e2, if_pos e2]; exact Aes.pst_set i j e2
  · rw [if_neg e2, if_neg e2, if_neg om]
theorem Aes.box_mid (i j : Nat) (hi : i = 255) (Y : Value) : (if j < 256 then U8 (gb (Aes.pst i) j) else if j < 512 then U8 0#8 else Y) = if j < 256 then U8 (Aes.sb j) else if j < 512 then U8 (gb (Aes.bt 0) (j - 256)) else Y := by
  subst hi
  by_cases e2 : j < 256
  · rw [if_pos e2, if_pos e2]; exact congrArg U8 (Aes.gb_pst j e2)
  · rw [if_neg e2, if_neg e2]
    by_cases e3 : j < 512
    · rw [if_pos e3, if_pos e3]; exact congrArg U8 (gb_rep 256 (j - 256)).symm
    · rw [if_neg e3, if_neg e3]
theorem Aes.box_back (i j : Nat) (Y : Value) : (if j = 256 + (Aes.sb i).toNat then U8 (BitVec.ofNat 8 i) else if j < 256 then U8 (Aes.sb j) else if j < 512 then U8 (gb (Aes.bt i) (j - 256)) else Y) = if j < 256 then U8 (Aes.sb j) else if j < 512 then U8 (gb (Aes.bt (i + 1)) (j - 256)) else Y := by
  have := (Aes.sb i).isLt
  by_cases e2 : j < 256
  · rw [if_neg om, if_pos e2, if_pos e2]
  · rw [if_neg e2, if_neg e2]
    by_cases e3 : j < 512
    · rw [if_pos e3, if_pos e3, ← Aes.bt_set i (j - 256) om]
      by_cases e4 : j - 256 = (Aes.sb i).toNat
      · rw [if_pos e4, if_pos om]
      · rw [if_neg e4, if_neg om]
    · rw [if_neg e3, if_neg e3, if_neg om]
theorem Aes.box_last (j : Nat) (Y : Value) : (if j < 256 then U8 (Aes.sb j) else if j < 512 then U8 (gb (Aes.bt 256) (j - 256)) else Y) = if j < 256 then U8 (Aes.sb j) else if j < 512 then U8 (Aes.bk (j - 256)) else Y := by
  by_cases e2 : j < 256
  · rw [if_pos e2, if_pos e2]
  · rw [if_neg e2, if_neg e2]
    by_cases e3 : j < 512
    · rw [if_pos e3, if_pos e3]; exact congrArg U8 (Aes.gb_bt (j - 256) om)
    · rw [if_neg e3, if_neg e3]
theorem Aes.box_words (j : Nat) (hj : j < 513) (Y Z : Value) : (if j = 512 then Y else if j < 256 then U8 (Aes.sb j) else if j < 512 then U8 (Aes.bk (j - 256)) else Z) = if j < 256 then U8 (Aes.sb j) else if j < 512 then U8 (Aes.bk (j - 256)) else Y := by
  by_cases e : j = 512
  · subst e; rfl
  · rw [if_neg e]
    by_cases e2 : j < 256
    · rw [if_pos e2, if_pos e2]
    · rw [if_neg e2, if_neg e2, if_pos om, if_pos om]
/-- what is added to the word n before -/
def Aes.tW (n : Nat) (W : List (BitVec 32)) (i : Nat) : BitVec 32 :=
  if i % n = 0 then Aes.subW Aes.sb (Aes.gw W (i - 1) <<< 8 ||| Aes.gw W (i - 1) >>> 24) ^^^ (Aes.rc (i / n - 1)).setWidth 32 <<< 24
  else if n = 8 ∧ i % 8 = 4 then Aes.subW Aes.sb (Aes.gw W (i - 1)) else Aes.gw W (i - 1)
theorem Aes.byte_sub (w : BitVec 32) (r : Nat) (hr : r < 4) : Aes.byteOf (Aes.subW Aes.sb w) r = Aes.sb (Aes.byteOf w r).toNat := by
  have h : Aes.subW Aes.sb w = Aes.word (Aes.sb (Aes.byteOf w 0).toNat) (Aes.sb (Aes.byteOf w 1).toNat) (Aes.sb (Aes.byteOf w 2).toNat) (Aes.sb (Aes.byteOf w 3).toNat) := by
    have e : ∀ x : BitVec 32, idx (x &&& 255#32) = (x.setWidth 8).toNat := fun x => by
      show (x &&& 255#32).toNat = _
      rw [BitVec.toNat_and, BitVec.toNat_setWidth]
      exact Nat.and_two_pow_sub_one_eq_mod _ 8
    have e3 : idx (w >>> 24) = ((w >>> 24).setWidth 8).toNat := by
      show (w >>> 24).toNat = _
      rw [BitVec.toNat_setWidth, Nat.mod_eq_of_lt]
      have := w.isLt
      rw [BitVec.toNat_ushiftRight, Nat.shiftRight_eq_div_pow]; omega
    unfold Aes.subW Aes.word Aes.byteOf
    rw [e3, e, e, e]
    rfl
  rw [h]
  match r, hr with
  | 0, _ => exact Aes.byteOf0 _ _ _ _
  | 1, _ => exact Aes.byteOf1 _ _ _ _
  | 2, _ => exact Aes.byteOf2 _ _ _ _
  | 3, _ => exact Aes.byteOf3 _ _ _ _
theorem Aes.byte_rot (w : BitVec 32) (r : Nat) (hr : r < 4) : Aes.byteOf (w <<< 8 ||| w >>> 24) r = Aes.byteOf w ((r + 1) % 4) := by
  have h := Aes.rot8 (Aes.byteOf w 0) (Aes.byteOf w 1) (Aes.byteOf w 2) (Aes.byteOf w 3)
  rw [Aes.word_byteOf] at h
  rw [h]
  match r, hr with
  | 0, _ => exact Aes.byteOf0 _ _ _ _
  | 1, _ => exact Aes.byteOf1 _ _ _ _
  | 2, _ => exact Aes.byteOf2 _ _ _ _
  | 3, _ => exact Aes.byteOf3 _ _ _ _
theorem Aes.byte_rc (b : BitVec 8) (r : Nat) (hr : r < 4) : Aes.byteOf (b.setWidth 32 <<< 24) r = if r = 0 then b else 0#8 := by
  have h : b.setWidth 32 <<< 24 = Aes.word b 0#8 0#8 0#8 := by unfold Aes.word; simp
  rw [h]
  match r, hr with
  | 0, _ => exact Aes.byteOf0 _ _ _ _
  | 1, _ => exact Aes.byteOf1 _ _ _ _
  | 2, _ => exact Aes.byteOf2 _ _ _ _
  | 3, _ => exact Aes.byteOf3 _ _ _ _
theorem Aes.tW_rot (n : Nat) (W : List (BitVec 32)) (i j : Nat) (hj : j < 4) (hn : 1 ≤ n) (hi : n ≤ i) (h : i % n = 0) :
    (if j < 1 then U8 (Aes.sb (Aes.byteOf (Aes.gw W (i - 1)) 1).toNat ^^^ Aes.rc ((i - 1) / n)) else if j < 2 then U8 (Aes.sb (Aes.byteOf (Aes.gw W (i - 1)) 2).toNat)
      else if j < 3 then U8 (Aes.sb (Aes.byteOf (Aes.gw W (i - 1)) 3).toNat) else U8 (Aes.sb (Aes.byteOf (Aes.gw W (i - 1)) 0).toNat)) = U8 (Aes.byteOf (Aes.tW n W i) j) := by
  unfold Aes.tW
  rw [Aes.div_pred i n hn hi h, if_pos h, Aes.byte_xor, Aes.byte_sub _ _ hj, Aes.byte_rot _ _ hj, Aes.byte_rc _ _ hj]
  match j, hj with
  | 0, _ => rfl
  | 1, _ => simp
  | 2, _ => simp
  | 3, _ => simp
theorem Aes.tW_sub (n : Nat) (W : List (BitVec 32)) (i j : Nat) (hj : j < 4) (h : ¬ i % n = 0) (h2 : n = 8 ∧ i % 8 = 4) :
    (if j < 1 then U8 (Aes.sb (Aes.byteOf (Aes.gw W (i - 1)) 0).toNat) else if j < 2 then U8 (Aes.sb (Aes.byteOf (Aes.gw W (i - 1)) 1).toNat)
      else if j < 3 then U8 (Aes.sb (Aes.byteOf (Aes.gw W (i - 1)) 2).toNat) else U8 (Aes.sb (Aes.byteOf (Aes.gw W (i - 1)) 3).toNat)) = U8 (Aes.byteOf (Aes.tW n W i) j) := by
  unfold Aes.tW
  rw [if_neg h, if_pos h2, Aes.byte_sub _ _ hj]
  match j, hj with
  | 0, _ => rfl
  | 1, _ => rfl
  | 2, _ => rfl
  | 3, _ => rfl
theorem Aes.tW_same (n : Nat) (W : List (BitVec 32)) (i j : Nat) (h : ¬ i % n = 0) (h2 : ¬ (n = 8 ∧ i % 8 = 4)) : U8 (Aes.byteOf (Aes.gw W (i - 1)) j) = U8 (Aes.byteOf (Aes.tW n W i) j) := by
  unfold Aes.tW
  rw [if_neg h, if_neg h2]
theorem Aes.row_key (key : List (BitVec 8)) (W : List (BitVec 32)) (n i j : Nat) (hi : i < n) (hw : Aes.gw W i = Aes.nextW key n W i) (hj : j < (i + 1) * 4) :
    (if j < i * 4 then U8 (Aes.byteOf (Aes.gw W (j / 4)) (j % 4)) else U8 (gb key (4 * i + (0 + (j - i * 4))))) = U8 (Aes.byteOf (Aes.gw W (j / 4)) (j % 4)) := by
  by_cases h : j < i * 4
  · rw [if_pos h]
  · rw [if_neg h, show j / 4 = i from by omega, hw]
    unfold Aes.nextW
    rw [if_pos hi]
    unfold Aes.col
    have hr : j - i * 4 < 4 := by omega
    rw [show j % 4 = j - i * 4 from by omega, Nat.zero_add]
    generalize j - i * 4 = r at hr
    match r, hr with
    | 0, _ => rw [Aes.byteOf0]; rfl
    | 1, _ => rw [Aes.byteOf1]
    | 2, _ => rw [Aes.byteOf2]
    | 3, _ => rw [Aes.byteOf3]
theorem Aes.row_next (key : List (BitVec 8)) (W : List (BitVec 32)) (n i j : Nat) (hi : ¬ i < n) (hw : Aes.gw W i = Aes.nextW key n W i) (hj : j < (i + 1) * 4) :
    (if j < i * 4 then U8 (Aes.byteOf (Aes.gw W (j / 4)) (j % 4)) else U8 (Aes.byteOf (Aes.gw W (i - n)) (0 + (j - i * 4)) ^^^ Aes.byteOf (Aes.tW n W i) (0 + (j - i * 4)))) = U8 (Aes.byteOf (Aes.gw W (j / 4)) (j % 4)) := by
  by_cases h : j < i * 4
  · rw [if_pos h]
  · rw [if_neg h, show j / 4 = i from by omega, hw]
    unfold Aes.nextW
    rw [if_neg hi, Aes.byte_xor, show j % 4 = 0 + (j - i * 4) from by omega]
    rfl

set_option maxHeartbeats 4000000 in
theorem refNew_w (key : List (BitVec 8)) (n : Nat) (W : List (BitVec 32)) (hW : ∀ k, k < 4 * (n + 7) → Aes.gw W k = Aes.nextW key n W k) (hkey : key.length = 4 * n) (h4 : 4 ≤ n) (h8 : n ≤ 8) (w0 : World) : Calls Tryz.prog 23 #[.string (str key)] w0 fun e w' => ∃ (b : Nat) (v : Value), e = .returned (.pointer (some ⟨b, 0, none⟩)) ∧ Below w0.heap.size w0 w' ∧ w0.heap.size ≤ b ∧ Row w' b 84 513 (fun j => if j < 256 then U8 (Aes.sb j) else if j < 512 then U8 (Aes.bk (j - 256)) else v) ∧ Own w' w0.heap.size 88 4 v (4 * (n + 7)) (fun j => U8 (Aes.byteOf (Aes.gw W (j / 4)) (j % 4))) := by
 refine enter (n := 231) Tryz.func23 rfl rfl rfl ?_
 have hk : Below w0.heap.size w0 w0 := Below.refl _ _
 refine sr (w_as Ev.c (nt (sr (w_val (v := .agg (arr 513 (fun j => if j < 256 then U8 (0#8) else if j < 512 then U8 (0#8) else .slice none 0 0))) (y_build (vs := #[]) mp0 (fun w => by kernel_rfl)) (w_box (m := 513) (F := fun j => if j < 256 then U8 (0#8) else if j < 512 then U8 (0#8) else .slice none 0 0) ea rfl ?_)))))
 intro ad w1 cz ab im
 have eo := gb_ hk.size cz
 clear cz
 replace hk := thenB hk im
 refine w_as (ex (pt ad 0)) (nt (sr (w_alloc (m := 255) (F := fun j => U8 (0#8)) kr ?_)))
 intro ah w3 ba aa hu
 have du := ab.nb ba
 have fq := gb_ hk.size ba
 clear ba
 replace ab := ab.step hu
 replace hk := thenB hk hu
 refine nt (sr (w_val (y_ia1z (i := 0) (ex (pt ah 0)) Ev.c Tryz.underlying85 AesRefNT.sz5 om om) (w_st (v := U8 (1#8)) (ex (pt ah 0)) (evc (U8 (1#8))) rfl rfl AesRefNT.sz5 aa om ?_)))
 clear aa; intro w5 aa hw _
 replace ab := ab.stepG hw om
 replace hk := thenG hk hw om
 refine nt (wp_seq (sr (w_as Ev.c (nt (wp_block ?_)))))
 refine c_loop (fun dN aN wl => ∃ (i1 : Nat), dN = (255 - i1) ∧ ∃ f7, aN = fr 231 f7 ∧ (1 ≤ i1) ∧ (i1 ≤ 255) ∧ f7 0 = .string (str key) ∧ f7 2 = .pointer none ∧ f7 3 = pt ad 0 ∧ f7 4 = pt ah 0 ∧ f7 5 = .int .i64 ((i1 : Nat) : Int) ∧ Row wl ad 84 513 (fun j => if j < 256 then U8 (0#8) else if j < 512 then U8 (0#8) else .slice none 0 0) ∧ Row wl ah 85 255 (fun j => if j < i1 then (fun j => U8 (Aes.pk j)) j else (fun j => U8 (0#8)) j) ∧ Below w0.heap.size w0 wl) (255 - 1) ?_ ?_
 · exact ⟨1, rfl, _, rfl, iv, iv, rfl, rfl, rfl, rfl, ti, ab, (aa.cg), hk⟩
 ·skip
  clear ab aa hk
  rintro _ _ w8 ⟨i1, rfl, f7, rfl, il, ih, ha, gr, fv, eq, ey, ab, aa, hk⟩
  refine wp_seq (sr (w_mv (ei ey) (w_val (y_bin ei Ev.c b_lss) (nt ?_))))
  refine c_if (p := ((i1 : Nat) : Int) < 255) eb (fun hc9 => ?_) (fun hc9 => ?_)
  ·skip
   refine wp_skip (then_n (wp_seq (wp_block (wp_region_lit (w_mv (ei ey) (w_mv (ei ey) (w_val (y_bin ei Ev.c (b_sub om)) (w_val (y_ia1z (i := (i1 - 1)) (ex (pt ah 0) eq) ei Tryz.underlying85 AesRefNT.sz5 om om) (w_val (v := U8 (Aes.pk (i1 - 1))) (y_ld (ex (pt ah (i1 - 1))) AesRefNT.sc5 (aa.val om ((if_pos om).trans rfl))) (w_call (Tryz.func35) kr rfl (m2 e8 (evc (U8 (3#8)))) (refMul_c (Aes.pk (i1 - 1)) (3#8) w8) ?_))))))))))
   rintro _ _ ⟨rfl, rfl⟩
   refine ⟨_, rfl, ?_⟩
   refine w_val (y_ia1z (i := i1) (ex (pt ah 0) eq) ei Tryz.underlying85 AesRefNT.sz5 om om) (w_st (v := U8 (Aes.mul (Aes.pk (i1 - 1)) (3#8))) (ex (pt ah i1)) e8 rfl rfl AesRefNT.sz5 aa om ?_)
   clear aa; intro it aa g8 _
   replace ab := ab.stepG g8 om
   replace hk := thenG hk g8 om
   refine wpList_nil (inb_n (then_n (wp_region_lit (w_mv (ei ey) (w_val (y_bin ei Ev.c (b_add om)) (w_as ei (wpList_nil ?_)))))))
   exact then_n ⟨_, om, i1 + 1, rfl, _, rfl, iv, iv, ha, gr, fv, eq, ti, ab, (aa.congr (fun j hj => by (try dsimp only); rw [Aes.pk_last i1 om]; (first | with_reducible rfl | (dsimp only; done) | ((try dsimp only); (repeat' split) <;> first | with_reducible rfl | (exfalso; omega) | (subst_vars; with_reducible rfl) | (subst_vars; simp only [Nat.add_sub_cancel_left, Nat.add_sub_cancel, Nat.sub_self, Nat.sub_zero]; done) | (with_reducible congr 1 <;> omega) | (with_reducible congr 2 <;> omega) | (with_reducible congr 3 <;> omega) | rfl | (subst_vars; rfl))))), hk⟩
  ·skip
   refine wp_exit (then_x ?_)
   replace aa := aa.congr (g := fun j => U8 (Aes.pk j)) (fun j hj => by dsimp only; rw [if_pos om])
   refine then_x (inb_x (then_n (sr (w_mv (ex (pt ad 0) fv) (w_val (y_nc (ex (pt ad 0))) (w_val (v := pt ad 0) (y_off (y_fa (ex (pt ad 0)) (AesRefNT.fa84_0 _ _)) ro) (w_val (y_ia1z (i := 0) (ex (pt ad 0)) Ev.c Tryz.underlying81 AesRefNT.sz5 om om) (w_st (v := U8 (99#8)) (ex (pt ad 0)) (evc (U8 (99#8))) rfl rfl AesRefNT.sz5 ab om ?_))))))))
   clear ab; intro jp ab g3 _
   replace aa := aa.stepG g3 om
   replace hk := thenG hk g3 om
   refine nt (wp_seq (sr (w_as Ev.c (nt (wp_block ?_)))))
   refine c_loop (fun dN aN wl => ∃ (i2 : Nat), dN = (255 - i2) ∧ ∃ fo, aN = fr 231 fo ∧ (i2 ≤ 255) ∧ fo 0 = .string (str key) ∧ fo 2 = .pointer none ∧ fo 3 = pt ad 0 ∧ fo 4 = pt ah 0 ∧ fo 6 = .int .i64 ((i2 : Nat) : Int) ∧ Row wl ad 84 513 (fun j => if j < 256 then U8 (gb (Aes.pst i2) j) else if j < 512 then U8 (0#8) else .slice none 0 0) ∧ Row wl ah 85 255 (fun j => U8 (Aes.pk j)) ∧ Below w0.heap.size w0 wl) (255 - 0) ?_ ?_
   · exact ⟨0, rfl, _, rfl, iv, ha, gr, fv, eq, ti, (ab.congr (fun j hj => by exact Aes.box_start j _ _)), aa, hk⟩
   ·skip
    clear ab aa hk
    rintro _ _ js ⟨i2, rfl, fo, rfl, ik, gq, gs, gv, g0, fx, ab, aa, hk⟩
    refine wp_seq (sr (w_mv (ei fx) (w_val (y_bin ei Ev.c b_lss) (nt ?_))))
    refine c_if (p := ((i2 : Nat) : Int) < 255) eb (fun hc17 => ?_) (fun hc17 => ?_)
    ·skip
     refine wp_skip (then_n (wp_seq (wp_block (sr (w_mv (ei fx) (w_val (y_bin Ev.c ei (b_sub om)) (w_val (y_bin ei Ev.c (b_rem om)) (w_val (y_ia1z (i := ((255 - i2) % 255)) (ex (pt ah 0) g0) ei Tryz.underlying85 AesRefNT.sz5 om om) (w_val (v := U8 (Aes.pk ((255 - i2) % 255))) (y_ld (ex (pt ah ((255 - i2) % 255))) AesRefNT.sc5 (aa.val om rfl)) (w_as e8 (nt (sr (w_mv e8 (w_as e8 (nt (wp_seq (sr (w_as Ev.c (nt (wp_block ?_))))))))))))))))))))
     refine c_loop (fun dN aN wl => ∃ (k3 : Nat), dN = (4 - k3) ∧ ∃ en, aN = fr 231 en ∧ (k3 ≤ 4) ∧ en 0 = .string (str key) ∧ en 2 = .pointer none ∧ en 3 = pt ad 0 ∧ en 4 = pt ah 0 ∧ en 6 = .int .i64 ((i2 : Nat) : Int) ∧ en 7 = U8 ((Aes.rr (Aes.pk ((255 - i2) % 255)) k3).1) ∧ en 8 = U8 ((Aes.rr (Aes.pk ((255 - i2) % 255)) k3).2) ∧ en 9 = .int .i64 ((k3 : Nat) : Int) ∧ Row wl ad 84 513 (fun j => if j < 256 then U8 (gb (Aes.pst i2) j) else if j < 512 then U8 (0#8) else .slice none 0 0) ∧ Row wl ah 85 255 (fun j => U8 (Aes.pk j)) ∧ Below w0.heap.size w0 wl) (4 - 0) ?_ ?_
     · exact ⟨0, rfl, _, rfl, iv, gq, gs, gv, g0, fx, t8, t8, ti, ab, aa, hk⟩
     ·skip
      clear ab aa hk
      rintro _ _ jt ⟨k3, rfl, en, rfl, h9, gt, g7, f3, gd, ft, g6, g9, gy, ab, aa, hk⟩
      refine wp_seq (sr (w_mv (ei gy) (w_val (y_bin ei Ev.c b_lss) (nt ?_))))
      refine c_if (p := ((k3 : Nat) : Int) < 4) eb (fun hc20 => ?_) (fun hc20 => ?_)
      ·skip
       refine wp_skip (then_n (wp_seq (wp_block (sr (w_mv (e8 g6) (w_val (y_bin e8 (evc (.int .u64 1)) (shl8 (c := 1) rfl)) (w_mv (e8 g6) (w_val (y_bin e8 (evc (.int .u64 7)) (shr8 (c := 7) rfl)) (w_val (y_bin e8 e8 or8) (w_as e8 (nt (wp_region_lit (w_mv (e8 g9) (w_mv e8 (w_val (y_bin e8 e8 xor8) (w_as e8 (wpList_nil (inb_n (then_n (wp_region_lit (w_mv (ei gy) (w_val (y_bin ei Ev.c (b_add om)) (w_as ei (wpList_nil ?_))))))))))))))))))))))))
       exact then_n ⟨_, om, k3 + 1, rfl, _, rfl, iv, gt, g7, f3, gd, ft, t8, t8, ti, ab, aa, hk⟩
      ·skip
       refine wp_exit (then_x (then_x (inb_x (then_n (region_t 9 AesRefNT.mixed kr ?_)))))
       simp only [List.take_succ_cons, List.take_zero, List.drop_succ_cons, List.drop_zero]
       refine q_mv (ex (pt ad 0) f3) (q_mv (ei ft) (q_val (fun w' hw' => y_ia1z (i := i2) (ex (pt ah 0) gd) ei Tryz.underlying85 AesRefNT.sz5 om om) (q_val (v := U8 (Aes.pk i2)) (fun w' hw' => y_ld (ex (pt ah i2)) AesRefNT.sc5 (cls_cell (aa.val om rfl) aa.lt w' hw')) (q_mv (e8 g9) (q_val (fun w' hw' => y_bin e8 (evc (U8 (99#8))) xor8) (q_val (fun w' hw' => y_nc (ex (pt ad 0))) (q_val (v := pt ad 0) (fun w' hw' => y_off (y_fa (ex (pt ad 0)) (AesRefNT.fa84_0 _ _)) ro) (q_val (fun w' hw' => y_ia1z (i := ((Aes.pk i2).toNat)) (ex (pt ad 0)) (ex (.int .u8 ((Aes.pk i2).toNat : Int))) Tryz.underlying81 AesRefNT.sz5 rfl om) (q_nil ?_)))))))))
       intro jf f8
       replace ab := ab.step f8
       replace aa := aa.step f8
       replace hk := thenB hk f8
       refine w_st (v := U8 (((Aes.rr (Aes.pk ((255 - i2) % 255)) k3).2) ^^^ (99#8))) (ex (pt ad ((Aes.pk i2).toNat))) e8 rfl rfl AesRefNT.sz5 ab om ?_
       clear ab; intro jq ab gm _
       replace aa := aa.stepG gm om
       replace hk := thenG hk gm om
       refine wpList_nil (inb_n (then_n (wp_region_lit (w_mv (ei ft) (w_val (y_bin ei Ev.c (b_add om)) (w_as ei (wpList_nil ?_)))))))
       exact then_n ⟨_, om, i2 + 1, rfl, _, rfl, iv, gt, g7, f3, gd, ti, (ab.congr (fun j hj => by have ek : k3 = 4 := om; rw [← Aes.box_step i2 j _ _, ek])), aa, hk⟩
    ·skip
     refine wp_exit (then_x ?_)
     replace ab := ab.congr (g := fun j => if j < 256 then U8 (Aes.sb j) else if j < 512 then U8 (gb (Aes.bt 0) (j - 256)) else .slice none 0 0) (fun j hj => by exact Aes.box_mid i2 j om _)
     refine then_x (inb_x (then_n (wp_seq (sr (w_as Ev.c (nt (wp_block ?_)))))))
     refine c_loop (fun dN aN wl => ∃ (i4 : Nat), dN = (256 - i4) ∧ ∃ gi, aN = fr 231 gi ∧ (i4 ≤ 256) ∧ gi 0 = .string (str key) ∧ gi 2 = .pointer none ∧ gi 3 = pt ad 0 ∧ gi 10 = .int .i64 ((i4 : Nat) : Int) ∧ Row wl ad 84 513 (fun j => if j < 256 then U8 (Aes.sb j) else if j < 512 then U8 (gb (Aes.bt i4) (j - 256)) else .slice none 0 0) ∧ Row wl ah 85 255 (fun j => U8 (Aes.pk j)) ∧ Below w0.heap.size w0 wl) (256 - 0) ?_ ?_
     · exact ⟨0, rfl, _, rfl, iv, gq, gs, gv, ti, (ab.cg), aa, hk⟩
     ·skip
      clear ab aa hk
      rintro _ _ je ⟨i4, rfl, gi, rfl, ij, f2, gx, e2, dd, ab, aa, hk⟩
      refine wp_seq (sr (w_mv (ei dd) (w_val (y_bin ei Ev.c b_lss) (nt ?_))))
      refine c_if (p := ((i4 : Nat) : Int) < 256) eb (fun hc27 => ?_) (fun hc27 => ?_)
      ·skip
       refine wp_skip (then_n (wp_seq (wp_block (region_t 12 AesRefNT.mixed kr ?_))))
       simp only [List.take_succ_cons, List.take_zero, List.drop_succ_cons, List.drop_zero]
       refine q_mv (ex (pt ad 0) e2) (q_mv (ex (pt ad 0) e2) (q_mv (ei dd) (q_val (fun w' hw' => y_nc (ex (pt ad 0))) (q_val (v := pt ad 0) (fun w' hw' => y_off (y_fa (ex (pt ad 0)) (AesRefNT.fa84_0 _ _)) ro) (q_val (fun w' hw' => y_ia1z (i := i4) (ex (pt ad 0)) ei Tryz.underlying81 AesRefNT.sz5 om om) (q_val (v := U8 (Aes.sb i4)) (fun w' hw' => y_ld (ex (pt ad i4)) AesRefNT.sc5 (cls_cell (ab.val om pz) ab.lt w' hw')) (q_mv (ei dd) (q_val (fun w' hw' => y_nat_u8 (p := i4) ei om AesRefNT.so3 Tryz.underlying5) (q_val (fun w' hw' => y_nc (ex (pt ad 0))) (q_val (v := pt ad 256) (fun w' hw' => y_off (y_fa (ex (pt ad 0)) (AesRefNT.fa84_1 _ _)) ro) (q_val (v := pt ad (256 + (Aes.sb i4).toNat)) (fun w' hw' => y_off (y_ia1 (i := ((Aes.sb i4).toNat)) (ex (pt ad 256)) (ex (.int .u8 ((Aes.sb i4).toNat : Int))) Tryz.underlying81 AesRefNT.sz5 rfl om) ro) (q_nil ?_))))))))))))
       intro ji f9
       replace ab := ab.step f9
       replace aa := aa.step f9
       replace hk := thenB hk f9
       refine w_st (v := U8 (BitVec.ofNat 8 i4)) (ex (pt ad (256 + (Aes.sb i4).toNat))) e8 rfl rfl AesRefNT.sz5 ab om ?_
       clear ab; intro jm ab go _
       replace aa := aa.stepG go om
       replace hk := thenG hk go om
       refine wpList_nil (inb_n (then_n (wp_region_lit (w_mv (ei dd) (w_val (y_bin ei Ev.c (b_add om)) (w_as ei (wpList_nil ?_)))))))
       exact then_n ⟨_, om, i4 + 1, rfl, _, rfl, iv, f2, gx, e2, ti, (ab.congr (fun j hj => by exact Aes.box_back i4 j _)), aa, hk⟩
      ·skip
       refine wp_exit (then_x ?_)
       replace ab := ab.congr (g := fun j => if j < 256 then U8 (Aes.sb j) else if j < 512 then U8 (gb (Aes.bt 256) (j - 256)) else .slice none 0 0) (fun j hj => by rw [show i4 = 256 from by omega])
       refine then_x (inb_x (then_n (sr (w_mv (es f2) (w_val (y_len es Tryz.underlying9) (w_val (y_bin ei Ev.c (b_quo om)) (w_as ei (nt (sr (w_as (evc (U8 (1#8))) (nt (wp_seq (sr (w_as Ev.c (nt (wp_block ?_))))))))))))))))
       refine c_loop (fun dN aN wl => ∃ (i5 : Nat) (vW : Value), dN = (4 * (n + 7) - i5) ∧ ∃ fb, aN = fr 231 fb ∧ (i5 ≤ 4 * (n + 7)) ∧ fb 0 = .string (str key) ∧ fb 2 = .pointer none ∧ fb 3 = pt ad 0 ∧ fb 11 = .int .i64 ((n : Nat) : Int) ∧ fb 12 = U8 (Aes.rc ((i5 - 1) / n)) ∧ fb 13 = .int .i64 ((i5 : Nat) : Int) ∧ Row wl ad 84 513 (fun j => if j < 256 then U8 (Aes.sb j) else if j < 512 then U8 (Aes.bk (j - 256)) else vW) ∧ Row wl ah 85 255 (fun j => U8 (Aes.pk j)) ∧ Own wl w0.heap.size 88 4 vW i5 (fun j => U8 (Aes.byteOf (Aes.gw W (j / 4)) (j % 4))) ∧ vW.ownBlock ≠ some ad ∧ vW.ownBlock ≠ some ah ∧ Below w0.heap.size w0 wl) (4 * (n + 7) - 0) ?_ ?_
       · exact ⟨0, (.slice none 0 0), rfl, _, rfl, iv, f2, gx, e2, (Eq.trans (b := .int .i64 (((key.length : Nat) : Int) / 4)) rfl (by congr 1; omega)), (Eq.trans (b := U8 (1#8)) rfl (by rw [show (0 - 1) / n = 0 from by simp]; rfl)), ti, (ab.congr (fun j hj => by exact Aes.box_last j _)), aa, Own.nil, (fun e => by cases e), (fun e => by cases e), hk⟩
       ·skip
        clear ab aa hk
        rintro _ _ jb ⟨i5, vW, rfl, fb, rfl, h3, d7, d2, bh, bm, cs, bf, ab, aa, aq, au, ao, hk⟩
        have h7 : ((i5 : Nat) : Int) % ((n : Nat) : Int) = ((i5 % n : Nat) : Int) := rfl
        have jd := Nat.div_add_mod i5 n
        have jc : i5 % n < n := Nat.mod_lt _ om
        refine wp_seq (sr (w_mv (ei bf) (w_mv (ei bm) (w_val (y_bin ei Ev.c (b_add om)) (w_val (y_bin Ev.c ei (b_mul om)) (w_val (y_bin ei ei b_lss) (nt ?_)))))))
        refine c_if (p := ((i5 : Nat) : Int) < (4 * (((n : Nat) : Int) + 7))) eb (fun hc34 => ?_) (fun hc34 => ?_)
        ·skip
         refine wp_skip (then_n (wp_seq (wp_block (sr (w_alloc (m := 4) (F := fun j => U8 (0#8)) kr ?_)))))
         intro a8 iw b0 ac e3
         have fi := ab.nb b0
         have dz := aa.nb b0
         have ax : vW.ownBlock ≠ some a8 := aq.apart om
         have ht := gb_ hk.size b0
         clear b0
         replace aq := aq.step e3
         replace ab := ab.step e3
         replace aa := aa.step e3
         replace hk := thenB hk e3
         refine nt (wp_seq (sr (w_mv (ei bf) (w_mv (ei bm) (w_val (y_bin ei ei b_lss) (nt ?_))))))
         refine c_if (p := ((i5 : Nat) : Int) < ((n : Nat) : Int)) eb (fun hc37 => ?_) (fun hc37 => ?_)
         ·skip
          refine wp_seq (sr (w_as Ev.c (nt (wp_block ?_))))
          refine c_loop (fun dN aN wl => ∃ (k6 : Nat) (vX : Value), dN = (4 - k6) ∧ ∃ eh, aN = fr 231 eh ∧ (k6 ≤ 4) ∧ eh 0 = .string (str key) ∧ eh 2 = .pointer none ∧ eh 3 = pt ad 0 ∧ eh 11 = .int .i64 ((n : Nat) : Int) ∧ eh 12 = U8 (Aes.rc ((i5 - 1) / n)) ∧ eh 13 = .int .i64 ((i5 : Nat) : Int) ∧ eh 14 = pt a8 0 ∧ eh 15 = .int .i64 ((k6 : Nat) : Int) ∧ Row wl ad 84 513 (fun j => if j < 256 then U8 (Aes.sb j) else if j < 512 then U8 (Aes.bk (j - 256)) else vX) ∧ Row wl ah 85 255 (fun j => U8 (Aes.pk j)) ∧ Row wl a8 88 4 (fun j => if j < k6 then (fun j => U8 (gb key (4 * i5 + j))) j else (fun j => U8 (0#8)) j) ∧ Own wl w0.heap.size 88 4 vX i5 (fun j => U8 (Aes.byteOf (Aes.gw W (j / 4)) (j % 4))) ∧ vX.ownBlock ≠ some ad ∧ vX.ownBlock ≠ some ah ∧ vX.ownBlock ≠ some a8 ∧ Below w0.heap.size w0 wl) (4 - 0) ?_ ?_
          · exact ⟨0, vW, rfl, _, rfl, iv, d7, d2, bh, bm, cs, bf, rfl, ti, (ab.cg), aa, (ac.cg), aq, au, ao, ax, hk⟩
          ·skip
           clear ab aa ac aq hk
           rintro _ _ ir ⟨k6, vX, rfl, eh, rfl, ig, f5, g1, ev, fg, ff, d6, d8, dc, ab, aa, ac, b6, bg, a4, bd, hk⟩
           refine wp_seq (sr (w_mv (ei dc) (w_val (y_bin ei Ev.c b_lss) (nt ?_))))
           refine c_if (p := ((k6 : Nat) : Int) < 4) eb (fun hc40 => ?_) (fun hc40 => ?_)
           ·skip
            refine wp_skip (then_n (wp_seq (wp_block (wp_region_lit (w_mv (ei dc) (w_mv (es f5) (w_mv (ei d6) (w_val (y_bin Ev.c ei (b_mul om)) (w_mv (ei dc) (w_val (y_bin ei ei (b_add om)) (w_val (v := U8 (gb key ((4 * i5) + k6))) (y_idx (ex (.string (str key))) ei Tryz.underlying9 om om) (w_val (y_ia1z (i := k6) (ex (pt a8 0) d8) ei Tryz.underlying88 AesRefNT.sz5 om om) (w_st (v := U8 (gb key ((4 * i5) + k6))) (ex (pt a8 k6)) e8 rfl rfl AesRefNT.sz5 ac om ?_)))))))))))))
            clear ac; intro i9 ac eu _
            replace b6 := b6.stepG eu bd
            replace ab := ab.stepG eu om
            replace aa := aa.stepG eu om
            replace hk := thenG hk eu om
            refine wpList_nil (inb_n (then_n (wp_region_lit (w_mv (ei dc) (w_val (y_bin ei Ev.c (b_add om)) (w_as ei (wpList_nil ?_)))))))
            exact then_n ⟨_, om, k6 + 1, vX, rfl, _, rfl, iv, f5, g1, ev, fg, ff, d6, d8, ti, ab, aa, (ac.cg), b6, bg, a4, bd, hk⟩
           ·skip
            refine wp_exit (then_x ?_)
            replace ac := ac.congr (g := fun j => U8 (gb key (4 * i5 + j))) (fun j hj => by dsimp only; rw [if_pos om])
            refine then_x (inb_x (then_n (wp_seq (region_dc (Nat.testBit 1920) 11 AesRefNT.mixed rfl ?_))))
            intro hv d4
            replace b6 := b6.step d4
            replace ab := ab.step d4
            replace aa := aa.step d4
            replace ac := ac.step d4
            replace hk := thenB hk d4
            have hS : Cls hv hv := Below.refl _ _
            refine dp 0 rfl (fun w' => y_mv (ex (pt ad 0) ev)) (dp 1 rfl (fun w' => y_mv (ex (pt ad 0) ev)) (dp (v := pt ad 0) 2 rfl (fun w' => y_nc (ex (pt ad 0))) (dp (v := pt ad 512) 3 rfl (fun w' => y_off (y_fa (ex (pt ad 0)) (AesRefNT.fa84_2 _ _)) ro) (d_take (v := vX) 4 (Nat.testBit 1936) rfl kr kr kr kr kr kr (fun _ _ _ h => h) hS (fun w' hw' => y_ld (ex (pt ad 512)) AesRefNT.sc82 (cls_cell (ab.val om (ng (ng dv))) ab.lt w' hw')) (d_take (v := .agg (arr 4 (fun j => U8 (gb key (4 * i5 + j))))) 5 (Nat.testBit 2016) rfl kr kr kr kr kr kr (fun _ _ _ h => h) hS (fun w' hw' => y_lda (ex (pt a8 0) d8) AesRefNT.ag88 AesRefNT.sz88 (fun j hj => by rw [Nat.zero_add]; exact (cls_cell (ac.cell om) ac.lt w' hw'))) (d_one 6 kr rfl (w_bs1 (m := 4) (e := 88) (F := fun j => U8 (gb key (4 * i5 + j))) ea (fun w => by kernel_rfl) ?_)))))))
            intro g2 jj a5 bc dq
            have ef := ab.nb a5
            have dj := aa.nb a5
            have er := ac.nb a5
            have bs : vX.ownBlock ≠ some g2 := b6.apart om
            have gn := gb_ hk.size a5
            clear a5
            replace b6 := b6.step dq
            replace ab := ab.step dq
            replace aa := aa.step dq
            replace ac := ac.step dq
            replace hk := thenB hk dq
            replace hS := thenB hS dq
            refine wpList_nil ?_
            refine then_n ⟨fun _ h => thenB h (by assumption), ?_⟩
            refine d_one 7 kr rfl (w_app (k := i5) (m := 1) (size := 4) (bytes := 4) (ex vX) el Tryz.underlying82 kr (by decide) b6 hk.size bc om oca (by simp only [maxLen]; omega) om ?_)
            intro ho i0 c3 dy ez
            have br := no_new bg ab.lt ez
            replace ab := ab.stepO dy bg
            have b9 := no_new a4 aa.lt ez
            replace aa := aa.stepO dy a4
            have gh := no_new bd ac.lt ez
            replace ac := ac.stepO dy bd
            have et := no_new bs bc.lt ez
            replace bc := bc.stepO dy bs
            replace hk := thenO hk dy (fun g e => (b6.block_lt g e).2)
            clear b6
            clear hS
            refine wpList_nil ?_
            refine then_n ⟨fun hD => absurd hD (by decide), ?_⟩
            refine d_one 8 kr rfl (w_val (y_nc (ex (pt ad 0))) (wpList_nil ?_))
            refine then_n ⟨fun hD => absurd hD (by decide), ?_⟩
            refine d_one 9 kr rfl (w_val (v := pt ad 512) (y_off (y_fa (ex (pt ad 0)) (AesRefNT.fa84_2 _ _)) ro) (wpList_nil ?_))
            refine then_n ⟨fun hD => absurd hD (by decide), ?_⟩
            refine d_one 10 kr rfl (w_st (v := ho) (ex (pt ad 512)) (ex ho) (c3.one) (c3.cells) AesRefNT.sz82 ab om ?_)
            clear ab; intro jr ab d5 _
            replace c3 := c3.stepG d5 br
            replace aa := aa.stepG d5 om
            replace ac := ac.stepG d5 om
            replace bc := bc.stepG d5 om
            replace hk := thenG hk d5 om
            refine wpList_nil ?_
            refine then_n ⟨fun hD => absurd hD (by decide), ?_⟩
            refine d_done kr (then_n (wp_exit (then_x (inb_x (then_n (wp_region_lit (w_mv (ei d6) (w_val (y_bin ei Ev.c (b_add om)) (w_as ei (wpList_nil ?_))))))))))
            exact then_n ⟨_, om, i5 + 1, ho, rfl, _, rfl, iv, f5, g1, ev, fg, (by refine Eq.trans (b := U8 (Aes.rc ((i5 - 1) / n))) ?_ ?_; exact ff; (first | exact congrArg U8 (by rw [Aes.mul2]; exact Aes.rc_step i5 n om om om) | exact congrArg U8 (Aes.rc_same i5 n om om))), ti, (ab.congr (fun j hj => by exact Aes.box_words j hj _ _)), aa, (own_n (c3.congr (fun j hj => by (try dsimp only); first | exact Aes.row_key key W n i5 j om (hW i5 om) hj | exact Aes.row_next key W n i5 j om (hW i5 om) hj)) om), br, b9, hk⟩
         ·skip
          refine wp_skip (then_n (wp_seq ?_))
          obtain ⟨gj, gz, hn, hp, hm, cy, ar⟩ := aq.opened om
          have e6 : ad ≠ gj := fun e => au (by rw [cy, e])
          have ed : ah ≠ gj := fun e => ao (by rw [cy, e])
          have fz : a8 ≠ gj := fun e => ax (by rw [cy, e])
          refine wp_region_lit (w_mv (ex (pt ad 0) bh) (w_val (y_nc (ex (pt ad 0))) (w_val (v := pt ad 512) (y_off (y_fa (ex (pt ad 0)) (AesRefNT.fa84_2 _ _)) ro) (w_val (v := vW) (y_ld (ex (pt ad 512)) AesRefNT.sc82 (ab.val om (ng (ng dv)))) (w_mv (ei bf) (w_val (y_bin ei Ev.c (b_sub om)) (w_val (v := pt gj ((i5 - 1) * 4)) (y_off (y_is (i := (i5 - 1)) (ex (.slice (some ⟨gj, 0, none⟩) i5 gz) (Eq.trans (b := vW) rfl hn)) ei Tryz.underlying82 AesRefNT.sz88 om om) ro) (w_val (v := .agg (arr 4 (fun j => U8 (Aes.byteOf (Aes.gw W (i5 - 1)) j)))) (y_lda (ex (pt gj ((i5 - 1) * 4))) AesRefNT.ag88 AesRefNT.sz88 (fun j hj => (ar.val om (by first | with_reducible rfl | exact (by (try dsimp only); rw [show (((i5 - 1) * 4) + j) / 4 = (i5 - 1) from by omega, show (((i5 - 1) * 4) + j) % 4 = j from by omega]))))) (w_alloc (m := 4) (F := fun j => U8 (0#8)) kr ?_)))))))))
          intro a2 jo be ae ds
          have e5 := ab.nb be
          have ec := aa.nb be
          have gc := ac.nb be
          have f6 := ar.nb be
          have aw : vW.ownBlock ≠ some a2 := aq.apart om
          have hg := gb_ hk.size be
          clear be
          replace aq := aq.step ds
          replace ab := ab.step ds
          replace aa := aa.step ds
          replace ac := ac.step ds
          replace ar := ar.step ds
          replace hk := thenB hk ds
          refine w_sta (k := 4) (G := fun j => U8 (Aes.byteOf (Aes.gw W (i5 - 1)) j)) (ex (pt a2 0)) ea oc AesRefNT.sz88 ae om ?_
          clear ae; intro i8 ae dr _
          replace ae := ae.congr (g := fun j => U8 (Aes.byteOf (Aes.gw W (i5 - 1)) j)) (fun j hj => by rw [if_pos ⟨Nat.zero_le _, by omega⟩]; first | rfl | (simp only [Nat.sub_zero]))
          replace aq := aq.stepG dr aw
          replace ab := ab.stepG dr om
          replace aa := aa.stepG dr om
          replace ac := ac.stepG dr om
          replace ar := ar.stepG dr om
          replace hk := thenG hk dr om
          refine nt (wp_seq (sr (w_mv (ei bf) (w_mv (ei bm) (w_val (y_bin ei ei (b_rem om)) (w_val (y_bin ei Ev.c b_eql) (nt ?_)))))))
          refine c_if (p := (((i5 : Nat) : Int) % ((n : Nat) : Int)) = 0) eb (fun hc58 => ?_) (fun hc58 => ?_)
          ·skip
           refine wp_seq (region_t 31 AesRefNT.mixed kr ?_)
           simp only [List.take_succ_cons, List.take_zero, List.drop_succ_cons, List.drop_zero]
           refine q_mv (ex (pt ad 0) bh) (q_val (fun w' hw' => y_ia1z (i := 1) (ex (pt a2 0)) Ev.c Tryz.underlying88 AesRefNT.sz5 om om) (q_val (v := U8 (Aes.byteOf (Aes.gw W (i5 - 1)) 1)) (fun w' hw' => y_ld (ex (pt a2 1)) AesRefNT.sc5 (cls_cell (ae.val om rfl) ae.lt w' hw')) (q_val (fun w' hw' => y_nc (ex (pt ad 0))) (q_val (v := pt ad 0) (fun w' hw' => y_off (y_fa (ex (pt ad 0)) (AesRefNT.fa84_0 _ _)) ro) (q_val (fun w' hw' => y_ia1z (i := ((Aes.byteOf (Aes.gw W (i5 - 1)) 1).toNat)) (ex (pt ad 0)) (ex (.int .u8 ((Aes.byteOf (Aes.gw W (i5 - 1)) 1).toNat : Int))) Tryz.underlying81 AesRefNT.sz5 rfl om) (q_val (v := U8 (Aes.sb ((Aes.byteOf (Aes.gw W (i5 - 1)) 1).toNat))) (fun w' hw' => y_ld (ex (pt ad ((Aes.byteOf (Aes.gw W (i5 - 1)) 1).toNat))) AesRefNT.sc5 (cls_cell (ab.val om pz) ab.lt w' hw')) (q_mv (e8 cs) (q_val (fun w' hw' => y_bin e8 e8 xor8) (q_mv (ex (pt ad 0) bh) (q_val (fun w' hw' => y_ia1z (i := 2) (ex (pt a2 0)) Ev.c Tryz.underlying88 AesRefNT.sz5 om om) (q_val (v := U8 (Aes.byteOf (Aes.gw W (i5 - 1)) 2)) (fun w' hw' => y_ld (ex (pt a2 2)) AesRefNT.sc5 (cls_cell (ae.val om rfl) ae.lt w' hw')) (q_val (fun w' hw' => y_nc (ex (pt ad 0))) (q_val (v := pt ad 0) (fun w' hw' => y_off (y_fa (ex (pt ad 0)) (AesRefNT.fa84_0 _ _)) ro) (q_val (fun w' hw' => y_ia1z (i := ((Aes.byteOf (Aes.gw W (i5 - 1)) 2).toNat)) (ex (pt ad 0)) (ex (.int .u8 ((Aes.byteOf (Aes.gw W (i5 - 1)) 2).toNat : Int))) Tryz.underlying81 AesRefNT.sz5 rfl om) (q_val (v := U8 (Aes.sb ((Aes.byteOf (Aes.gw W (i5 - 1)) 2).toNat))) (fun w' hw' => y_ld (ex (pt ad ((Aes.byteOf (Aes.gw W (i5 - 1)) 2).toNat))) AesRefNT.sc5 (cls_cell (ab.val om pz) ab.lt w' hw')) (q_mv (ex (pt ad 0) bh) (q_val (fun w' hw' => y_ia1z (i := 3) (ex (pt a2 0)) Ev.c Tryz.underlying88 AesRefNT.sz5 om om) (q_val (v := U8 (Aes.byteOf (Aes.gw W (i5 - 1)) 3)) (fun w' hw' => y_ld (ex (pt a2 3)) AesRefNT.sc5 (cls_cell (ae.val om rfl) ae.lt w' hw')) (q_val (fun w' hw' => y_nc (ex (pt ad 0))) (q_val (v := pt ad 0) (fun w' hw' => y_off (y_fa (ex (pt ad 0)) (AesRefNT.fa84_0 _ _)) ro) (q_val (fun w' hw' => y_ia1z (i := ((Aes.byteOf (Aes.gw W (i5 - 1)) 3).toNat)) (ex (pt ad 0)) (ex (.int .u8 ((Aes.byteOf (Aes.gw W (i5 - 1)) 3).toNat : Int))) Tryz.underlying81 AesRefNT.sz5 rfl om) (q_val (v := U8 (Aes.sb ((Aes.byteOf (Aes.gw W (i5 - 1)) 3).toNat))) (fun w' hw' => y_ld (ex (pt ad ((Aes.byteOf (Aes.gw W (i5 - 1)) 3).toNat))) AesRefNT.sc5 (cls_cell (ab.val om pz) ab.lt w' hw')) (q_mv (ex (pt ad 0) bh) (q_val (fun w' hw' => y_ia1z (i := 0) (ex (pt a2 0)) Ev.c Tryz.underlying88 AesRefNT.sz5 om om) (q_val (v := U8 (Aes.byteOf (Aes.gw W (i5 - 1)) 0)) (fun w' hw' => y_ld (ex (pt a2 0)) AesRefNT.sc5 (cls_cell (ae.val om rfl) ae.lt w' hw')) (q_val (fun w' hw' => y_nc (ex (pt ad 0))) (q_val (v := pt ad 0) (fun w' hw' => y_off (y_fa (ex (pt ad 0)) (AesRefNT.fa84_0 _ _)) ro) (q_val (fun w' hw' => y_ia1z (i := ((Aes.byteOf (Aes.gw W (i5 - 1)) 0).toNat)) (ex (pt ad 0)) (ex (.int .u8 ((Aes.byteOf (Aes.gw W (i5 - 1)) 0).toNat : Int))) Tryz.underlying81 AesRefNT.sz5 rfl om) (q_val (v := U8 (Aes.sb ((Aes.byteOf (Aes.gw W (i5 - 1)) 0).toNat))) (fun w' hw' => y_ld (ex (pt ad ((Aes.byteOf (Aes.gw W (i5 - 1)) 0).toNat))) AesRefNT.sc5 (cls_cell (ab.val om pz) ab.lt w' hw')) (q_val (v := .agg (arr 4 (fun j => if j < 1 then U8 ((Aes.sb ((Aes.byteOf (Aes.gw W (i5 - 1)) 1).toNat)) ^^^ (Aes.rc ((i5 - 1) / n))) else if j < 2 then U8 (Aes.sb ((Aes.byteOf (Aes.gw W (i5 - 1)) 2).toNat)) else if j < 3 then U8 (Aes.sb ((Aes.byteOf (Aes.gw W (i5 - 1)) 3).toNat)) else U8 (Aes.sb ((Aes.byteOf (Aes.gw W (i5 - 1)) 0).toNat))))) (fun w' hw' => y_build (vs := #[(0, U8 ((Aes.sb ((Aes.byteOf (Aes.gw W (i5 - 1)) 1).toNat)) ^^^ (Aes.rc ((i5 - 1) / n)))), (1, U8 (Aes.sb ((Aes.byteOf (Aes.gw W (i5 - 1)) 2).toNat))), (2, U8 (Aes.sb ((Aes.byteOf (Aes.gw W (i5 - 1)) 3).toNat))), (3, U8 (Aes.sb ((Aes.byteOf (Aes.gw W (i5 - 1)) 0).toNat)))]) (mp_cons e8 (mp_cons e8 (mp_cons e8 (mp_cons e8 mp0)))) (fun w => by kernel_rfl)) (q_nil ?_)))))))))))))))))))))))))))))))
           intro jg c6
           replace aq := aq.step c6
           replace ab := ab.step c6
           replace aa := aa.step c6
           replace ac := ac.step c6
           replace ar := ar.step c6
           replace ae := ae.step c6
           replace hk := thenB hk c6
           refine w_sta (k := 4) (G := fun j => if j < 1 then U8 ((Aes.sb ((Aes.byteOf (Aes.gw W (i5 - 1)) 1).toNat)) ^^^ (Aes.rc ((i5 - 1) / n))) else if j < 2 then U8 (Aes.sb ((Aes.byteOf (Aes.gw W (i5 - 1)) 2).toNat)) else if j < 3 then U8 (Aes.sb ((Aes.byteOf (Aes.gw W (i5 - 1)) 3).toNat)) else U8 (Aes.sb ((Aes.byteOf (Aes.gw W (i5 - 1)) 0).toNat))) (ex (pt a2 0)) ea oc AesRefNT.sz88 ae om ?_
           clear ae; intro ib ae dk _
           replace ae := ae.congr (g := fun j => if j < 1 then U8 ((Aes.sb ((Aes.byteOf (Aes.gw W (i5 - 1)) 1).toNat)) ^^^ (Aes.rc ((i5 - 1) / n))) else if j < 2 then U8 (Aes.sb ((Aes.byteOf (Aes.gw W (i5 - 1)) 2).toNat)) else if j < 3 then U8 (Aes.sb ((Aes.byteOf (Aes.gw W (i5 - 1)) 3).toNat)) else U8 (Aes.sb ((Aes.byteOf (Aes.gw W (i5 - 1)) 0).toNat))) (fun j hj => by rw [if_pos ⟨Nat.zero_le _, by omega⟩]; first | rfl | (simp only [Nat.sub_zero]))
           replace aq := aq.stepG dk aw
           replace ab := ab.stepG dk om
           replace aa := aa.stepG dk om
           replace ac := ac.stepG dk om
           replace ar := ar.stepG dk om
           replace hk := thenG hk dk om
           refine nt (wp_region_lit (w_mv (e8 cs) (w_call (Tryz.func35) kr rfl (m2 e8 (evc (U8 (2#8)))) (refMul_c (Aes.rc ((i5 - 1) / n)) (2#8) ib) ?_)))
           rintro _ _ ⟨rfl, rfl⟩
           refine ⟨_, rfl, ?_⟩
           refine w_as e8 (nt (ss ?_))
           replace ae := ae.congr (g := fun j => U8 (Aes.byteOf (Aes.tW n W i5) j)) (fun j hj => by (try dsimp only); first | exact Aes.tW_rot n W i5 j hj om om om | exact Aes.tW_sub n W i5 j hj om om | exact Aes.tW_same n W i5 j om om)
           refine wp_region_lit (w_as Ev.c (nt (wp_block ?_)))
           clear ar
           refine c_loop (fun dN aN wl => ∃ (k7 : Nat) (vY : Value), dN = (4 - k7) ∧ ∃ d0, aN = fr 231 d0 ∧ (k7 ≤ 4) ∧ d0 0 = .string (str key) ∧ d0 2 = .pointer none ∧ d0 3 = pt ad 0 ∧ d0 11 = .int .i64 ((n : Nat) : Int) ∧ d0 12 = U8 (Aes.mul (Aes.rc ((i5 - 1) / n)) (2#8)) ∧ d0 13 = .int .i64 ((i5 : Nat) : Int) ∧ d0 14 = pt a8 0 ∧ d0 16 = pt a2 0 ∧ d0 17 = .int .i64 ((k7 : Nat) : Int) ∧ Row wl ad 84 513 (fun j => if j < 256 then U8 (Aes.sb j) else if j < 512 then U8 (Aes.bk (j - 256)) else vY) ∧ Row wl ah 85 255 (fun j => U8 (Aes.pk j)) ∧ Row wl a8 88 4 (fun j => if j < k7 then (fun j => U8 (Aes.byteOf (Aes.gw W (i5 - n)) j ^^^ Aes.byteOf (Aes.tW n W i5) j)) j else (fun j => U8 (0#8)) j) ∧ Row wl a2 88 4 (fun j => U8 (Aes.byteOf (Aes.tW n W i5) j)) ∧ Own wl w0.heap.size 88 4 vY i5 (fun j => U8 (Aes.byteOf (Aes.gw W (j / 4)) (j % 4))) ∧ vY.ownBlock ≠ some ad ∧ vY.ownBlock ≠ some ah ∧ vY.ownBlock ≠ some a8 ∧ vY.ownBlock ≠ some a2 ∧ Below w0.heap.size w0 wl) (4 - 0) ?_ ?_
           · exact ⟨0, vW, rfl, _, rfl, iv, d7, d2, bh, bm, rfl, bf, rfl, rfl, ti, (ab.cg), aa, (ac.cg), ae, aq, au, ao, ax, aw, hk⟩
           ·skip
            clear ab aa ac ae aq hk
            rintro _ _ jk ⟨k7, vY, rfl, d0, rfl, ga, b7, b2, az, a0, bb, a1, ay, a9, ap, ab, aa, ac, ae, am, aj, af, ai, al, hk⟩
            refine wp_seq (sr (w_mv (ei ap) (w_val (y_bin ei Ev.c b_lss) (nt ?_))))
            refine c_if (p := ((k7 : Nat) : Int) < 4) eb (fun hc66 => ?_) (fun hc66 => ?_)
            ·skip
             refine wp_skip (then_n (wp_seq (wp_block ?_)))
             obtain ⟨ew, g5, hf, hq, hh, bz, cr⟩ := am.opened om
             have fl : ad ≠ ew := fun e => aj (by rw [bz, e])
             have d9 : ah ≠ ew := fun e => af (by rw [bz, e])
             have fw : a8 ≠ ew := fun e => ai (by rw [bz, e])
             have fy : a2 ≠ ew := fun e => al (by rw [bz, e])
             refine region_t 17 AesRefNT.mixed kr ?_
             simp only [List.take_succ_cons, List.take_zero, List.drop_succ_cons, List.drop_zero]
             refine q_mv (ei ap) (q_mv (ex (pt ad 0) az) (q_val (fun w' hw' => y_nc (ex (pt ad 0))) (q_val (v := pt ad 512) (fun w' hw' => y_off (y_fa (ex (pt ad 0)) (AesRefNT.fa84_2 _ _)) ro) (q_val (v := vY) (fun w' hw' => y_ld (ex (pt ad 512)) AesRefNT.sc82 (cls_cell (ab.val om (ng (ng dv))) ab.lt w' hw')) (q_mv (ei a1) (q_mv (ei a0) (q_val (fun w' hw' => y_bin ei ei (b_sub om)) (q_mv (ei ap) (q_val (v := pt ew ((i5 - n) * 4)) (fun w' hw' => y_off (y_is (i := (i5 - n)) (ex (.slice (some ⟨ew, 0, none⟩) i5 g5) (Eq.trans (b := vY) rfl hf)) ei Tryz.underlying82 AesRefNT.sz88 om om) ro) (q_val (v := pt ew (((i5 - n) * 4) + k7)) (fun w' hw' => y_off (y_ia1 (i := k7) (ex (pt ew ((i5 - n) * 4))) ei Tryz.underlying88 AesRefNT.sz5 om om) ro) (q_val (v := U8 (Aes.byteOf (Aes.gw W (i5 - n)) k7)) (fun w' hw' => y_ld (ex (pt ew (((i5 - n) * 4) + k7))) AesRefNT.sc5 (cls_cell (cr.val om (by (try dsimp only); rw [show (((i5 - n) * 4) + k7) / 4 = (i5 - n) from by omega, show (((i5 - n) * 4) + k7) % 4 = k7 from by omega])) cr.lt w' hw')) (q_mv (ei ap) (q_val (fun w' hw' => y_ia1z (i := k7) (ex (pt a2 0) a9) ei Tryz.underlying88 AesRefNT.sz5 om om) (q_val (v := U8 (Aes.byteOf (Aes.tW n W i5) k7)) (fun w' hw' => y_ld (ex (pt a2 k7)) AesRefNT.sc5 (cls_cell (ae.val om rfl) ae.lt w' hw')) (q_val (fun w' hw' => y_bin e8 e8 xor8) (q_val (fun w' hw' => y_ia1z (i := k7) (ex (pt a8 0) ay) ei Tryz.underlying88 AesRefNT.sz5 om om) (q_nil ?_)))))))))))))))))
             intro iz c8
             replace am := am.step c8
             replace ab := ab.step c8
             replace aa := aa.step c8
             replace ac := ac.step c8
             replace ae := ae.step c8
             replace cr := cr.step c8
             replace hk := thenB hk c8
             refine w_st (v := U8 ((Aes.byteOf (Aes.gw W (i5 - n)) k7) ^^^ (Aes.byteOf (Aes.tW n W i5) k7))) (ex (pt a8 k7)) e8 rfl rfl AesRefNT.sz5 ac om ?_
             clear ac; intro jh ac dg _
             replace am := am.stepG dg ai
             replace ab := ab.stepG dg om
             replace aa := aa.stepG dg om
             replace ae := ae.stepG dg om
             replace cr := cr.stepG dg om
             replace hk := thenG hk dg om
             refine wpList_nil (inb_n (then_n (wp_region_lit (w_mv (ei ap) (w_val (y_bin ei Ev.c (b_add om)) (w_as ei (wpList_nil ?_)))))))
             exact then_n ⟨_, om, k7 + 1, vY, rfl, _, rfl, iv, b7, b2, az, a0, bb, a1, ay, a9, ti, ab, aa, (ac.cg), ae, am, aj, af, ai, al, hk⟩
            ·skip
             refine wp_exit (then_x ?_)
             replace ac := ac.congr (g := fun j => U8 (Aes.byteOf (Aes.gw W (i5 - n)) j ^^^ Aes.byteOf (Aes.tW n W i5) j)) (fun j hj => by dsimp only; rw [if_pos om])
             refine then_x (inb_x (then_n (region_dc (Nat.testBit 1920) 11 AesRefNT.mixed rfl ?_)))
             intro hy dl
             replace am := am.step dl
             replace ab := ab.step dl
             replace aa := aa.step dl
             replace ac := ac.step dl
             replace ae := ae.step dl
             replace hk := thenB hk dl
             have hS : Cls hy hy := Below.refl _ _
             refine dp 0 rfl (fun w' => y_mv (ex (pt ad 0) az)) (dp 1 rfl (fun w' => y_mv (ex (pt ad 0) az)) (dp (v := pt ad 0) 2 rfl (fun w' => y_nc (ex (pt ad 0))) (dp (v := pt ad 512) 3 rfl (fun w' => y_off (y_fa (ex (pt ad 0)) (AesRefNT.fa84_2 _ _)) ro) (d_take (v := vY) 4 (Nat.testBit 1936) rfl kr kr kr kr kr kr (fun _ _ _ h => h) hS (fun w' hw' => y_ld (ex (pt ad 512)) AesRefNT.sc82 (cls_cell (ab.val om (ng (ng dv))) ab.lt w' hw')) (d_take (v := .agg (arr 4 (fun j => U8 (Aes.byteOf (Aes.gw W (i5 - n)) j ^^^ Aes.byteOf (Aes.tW n W i5) j)))) 5 (Nat.testBit 2016) rfl kr kr kr kr kr kr (fun _ _ _ h => h) hS (fun w' hw' => y_lda (ex (pt a8 0) ay) AesRefNT.ag88 AesRefNT.sz88 (fun j hj => by rw [Nat.zero_add]; exact (cls_cell (ac.cell om) ac.lt w' hw'))) (d_one 6 kr rfl (w_bs1 (m := 4) (e := 88) (F := fun j => U8 (Aes.byteOf (Aes.gw W (i5 - n)) j ^^^ Aes.byteOf (Aes.tW n W i5) j)) ea (fun w => by kernel_rfl) ?_)))))))
             intro cb iy ag ak da
             have a3 := ab.nb ag
             have av := aa.nb ag
             have a6 := ac.nb ag
             have a7 := ae.nb ag
             have an : vY.ownBlock ≠ some cb := am.apart om
             have ca := gb_ hk.size ag
             clear ag
             replace am := am.step da
             replace ab := ab.step da
             replace aa := aa.step da
             replace ac := ac.step da
             replace ae := ae.step da
             replace hk := thenB hk da
             replace hS := thenB hS da
             refine wpList_nil ?_
             refine then_n ⟨fun _ h => thenB h (by assumption), ?_⟩
             refine d_one 7 kr rfl (w_app (k := i5) (m := 1) (size := 4) (bytes := 4) (ex vY) el Tryz.underlying82 kr (by decide) am hk.size ak om oca (by simp only [maxLen]; omega) om ?_)
             intro hs i7 c4 di d1
             have bu := no_new aj ab.lt d1
             replace ab := ab.stepO di aj
             have ch := no_new af aa.lt d1
             replace aa := aa.stepO di af
             have f4 := no_new ai ac.lt d1
             replace ac := ac.stepO di ai
             have gf := no_new al ae.lt d1
             replace ae := ae.stepO di al
             have e4 := no_new an ak.lt d1
             replace ak := ak.stepO di an
             replace hk := thenO hk di (fun g e => (am.block_lt g e).2)
             clear am
             clear hS
             refine wpList_nil ?_
             refine then_n ⟨fun hD => absurd hD (by decide), ?_⟩
             refine d_one 8 kr rfl (w_val (y_nc (ex (pt ad 0))) (wpList_nil ?_))
             refine then_n ⟨fun hD => absurd hD (by decide), ?_⟩
             refine d_one 9 kr rfl (w_val (v := pt ad 512) (y_off (y_fa (ex (pt ad 0)) (AesRefNT.fa84_2 _ _)) ro) (wpList_nil ?_))
             refine then_n ⟨fun hD => absurd hD (by decide), ?_⟩
             refine d_one 10 kr rfl (w_st (v := hs) (ex (pt ad 512)) (ex hs) (c4.one) (c4.cells) AesRefNT.sz82 ab om ?_)
             clear ab; intro ix ab de _
             replace c4 := c4.stepG de bu
             replace aa := aa.stepG de om
             replace ac := ac.stepG de om
             replace ae := ae.stepG de om
             replace ak := ak.stepG de om
             replace hk := thenG hk de om
             refine wpList_nil ?_
             refine then_n ⟨fun hD => absurd hD (by decide), ?_⟩
             refine d_done kr (inb_n (then_n (wp_region_lit (w_mv (ei a1) (w_val (y_bin ei Ev.c (b_add om)) (w_as ei (wpList_nil ?_)))))))
             exact then_n ⟨_, om, i5 + 1, hs, rfl, _, rfl, iv, b7, b2, az, a0, (by refine Eq.trans (b := U8 (Aes.mul (Aes.rc ((i5 - 1) / n)) (2#8))) ?_ ?_; exact bb; (first | exact congrArg U8 (by rw [Aes.mul2]; exact Aes.rc_step i5 n om om om) | exact congrArg U8 (Aes.rc_same i5 n om om))), ti, (ab.congr (fun j hj => by exact Aes.box_words j hj _ _)), aa, (own_n (c4.congr (fun j hj => by (try dsimp only); first | exact Aes.row_key key W n i5 j om (hW i5 om) hj | exact Aes.row_next key W n i5 j om (hW i5 om) hj)) om), bu, ch, hk⟩
          ·skip
           refine sr (w_mv (ei bm) (w_val (y_bin ei Ev.c b_eql) (w_mv eb ?_)))
           by_cases c0 : ((n : Nat) : Int) = 8
           ·skip
            refine w_val_g (v := .int .i64 ((i5 : Nat) : Int)) (wy rfl rfl (eb (dt c0))) (y_mv (ei bf)) (w_val_g (wy rfl rfl (eb (dt c0))) (y_bin ei Ev.c (b_rem om)) (w_val_g (wy rfl rfl (eb (dt c0))) (y_bin ei Ev.c b_eql) (w_val (y_pick_t (eb (dt c0)) eb) (nt ?_))))
            refine c_if (p := (((i5 : Nat) : Int) % 8) = 4) eb (fun hc83 => ?_) (fun hc83 => ?_)
            ·skip
             refine region_t 29 AesRefNT.mixed kr ?_
             simp only [List.take_succ_cons, List.take_zero, List.drop_succ_cons, List.drop_zero]
             refine q_mv (ex (pt ad 0) bh) (q_val (fun w' hw' => y_ia1z (i := 0) (ex (pt a2 0)) Ev.c Tryz.underlying88 AesRefNT.sz5 om om) (q_val (v := U8 (Aes.byteOf (Aes.gw W (i5 - 1)) 0)) (fun w' hw' => y_ld (ex (pt a2 0)) AesRefNT.sc5 (cls_cell (ae.val om rfl) ae.lt w' hw')) (q_val (fun w' hw' => y_nc (ex (pt ad 0))) (q_val (v := pt ad 0) (fun w' hw' => y_off (y_fa (ex (pt ad 0)) (AesRefNT.fa84_0 _ _)) ro) (q_val (fun w' hw' => y_ia1z (i := ((Aes.byteOf (Aes.gw W (i5 - 1)) 0).toNat)) (ex (pt ad 0)) (ex (.int .u8 ((Aes.byteOf (Aes.gw W (i5 - 1)) 0).toNat : Int))) Tryz.underlying81 AesRefNT.sz5 rfl om) (q_val (v := U8 (Aes.sb ((Aes.byteOf (Aes.gw W (i5 - 1)) 0).toNat))) (fun w' hw' => y_ld (ex (pt ad ((Aes.byteOf (Aes.gw W (i5 - 1)) 0).toNat))) AesRefNT.sc5 (cls_cell (ab.val om pz) ab.lt w' hw')) (q_mv (ex (pt ad 0) bh) (q_val (fun w' hw' => y_ia1z (i := 1) (ex (pt a2 0)) Ev.c Tryz.underlying88 AesRefNT.sz5 om om) (q_val (v := U8 (Aes.byteOf (Aes.gw W (i5 - 1)) 1)) (fun w' hw' => y_ld (ex (pt a2 1)) AesRefNT.sc5 (cls_cell (ae.val om rfl) ae.lt w' hw')) (q_val (fun w' hw' => y_nc (ex (pt ad 0))) (q_val (v := pt ad 0) (fun w' hw' => y_off (y_fa (ex (pt ad 0)) (AesRefNT.fa84_0 _ _)) ro) (q_val (fun w' hw' => y_ia1z (i := ((Aes.byteOf (Aes.gw W (i5 - 1)) 1).toNat)) (ex (pt ad 0)) (ex (.int .u8 ((Aes.byteOf (Aes.gw W (i5 - 1)) 1).toNat : Int))) Tryz.underlying81 AesRefNT.sz5 rfl om) (q_val (v := U8 (Aes.sb ((Aes.byteOf (Aes.gw W (i5 - 1)) 1).toNat))) (fun w' hw' => y_ld (ex (pt ad ((Aes.byteOf (Aes.gw W (i5 - 1)) 1).toNat))) AesRefNT.sc5 (cls_cell (ab.val om pz) ab.lt w' hw')) (q_mv (ex (pt ad 0) bh) (q_val (fun w' hw' => y_ia1z (i := 2) (ex (pt a2 0)) Ev.c Tryz.underlying88 AesRefNT.sz5 om om) (q_val (v := U8 (Aes.byteOf (Aes.gw W (i5 - 1)) 2)) (fun w' hw' => y_ld (ex (pt a2 2)) AesRefNT.sc5 (cls_cell (ae.val om rfl) ae.lt w' hw')) (q_val (fun w' hw' => y_nc (ex (pt ad 0))) (q_val (v := pt ad 0) (fun w' hw' => y_off (y_fa (ex (pt ad 0)) (AesRefNT.fa84_0 _ _)) ro) (q_val (fun w' hw' => y_ia1z (i := ((Aes.byteOf (Aes.gw W (i5 - 1)) 2).toNat)) (ex (pt ad 0)) (ex (.int .u8 ((Aes.byteOf (Aes.gw W (i5 - 1)) 2).toNat : Int))) Tryz.underlying81 AesRefNT.sz5 rfl om) (q_val (v := U8 (Aes.sb ((Aes.byteOf (Aes.gw W (i5 - 1)) 2).toNat))) (fun w' hw' => y_ld (ex (pt ad ((Aes.byteOf (Aes.gw W (i5 - 1)) 2).toNat))) AesRefNT.sc5 (cls_cell (ab.val om pz) ab.lt w' hw')) (q_mv (ex (pt ad 0) bh) (q_val (fun w' hw' => y_ia1z (i := 3) (ex (pt a2 0)) Ev.c Tryz.underlying88 AesRefNT.sz5 om om) (q_val (v := U8 (Aes.byteOf (Aes.gw W (i5 - 1)) 3)) (fun w' hw' => y_ld (ex (pt a2 3)) AesRefNT.sc5 (cls_cell (ae.val om rfl) ae.lt w' hw')) (q_val (fun w' hw' => y_nc (ex (pt ad 0))) (q_val (v := pt ad 0) (fun w' hw' => y_off (y_fa (ex (pt ad 0)) (AesRefNT.fa84_0 _ _)) ro) (q_val (fun w' hw' => y_ia1z (i := ((Aes.byteOf (Aes.gw W (i5 - 1)) 3).toNat)) (ex (pt ad 0)) (ex (.int .u8 ((Aes.byteOf (Aes.gw W (i5 - 1)) 3).toNat : Int))) Tryz.underlying81 AesRefNT.sz5 rfl om) (q_val (v := U8 (Aes.sb ((Aes.byteOf (Aes.gw W (i5 - 1)) 3).toNat))) (fun w' hw' => y_ld (ex (pt ad ((Aes.byteOf (Aes.gw W (i5 - 1)) 3).toNat))) AesRefNT.sc5 (cls_cell (ab.val om pz) ab.lt w' hw')) (q_val (v := .agg (arr 4 (fun j => if j < 1 then U8 (Aes.sb ((Aes.byteOf (Aes.gw W (i5 - 1)) 0).toNat)) else if j < 2 then U8 (Aes.sb ((Aes.byteOf (Aes.gw W (i5 - 1)) 1).toNat)) else if j < 3 then U8 (Aes.sb ((Aes.byteOf (Aes.gw W (i5 - 1)) 2).toNat)) else U8 (Aes.sb ((Aes.byteOf (Aes.gw W (i5 - 1)) 3).toNat))))) (fun w' hw' => y_build (vs := #[(0, U8 (Aes.sb ((Aes.byteOf (Aes.gw W (i5 - 1)) 0).toNat))), (1, U8 (Aes.sb ((Aes.byteOf (Aes.gw W (i5 - 1)) 1).toNat))), (2, U8 (Aes.sb ((Aes.byteOf (Aes.gw W (i5 - 1)) 2).toNat))), (3, U8 (Aes.sb ((Aes.byteOf (Aes.gw W (i5 - 1)) 3).toNat)))]) (mp_cons e8 (mp_cons e8 (mp_cons e8 (mp_cons e8 mp0)))) (fun w => by kernel_rfl)) (q_nil ?_)))))))))))))))))))))))))))))
             intro jn c7
             replace aq := aq.step c7
             replace ab := ab.step c7
             replace aa := aa.step c7
             replace ac := ac.step c7
             replace ar := ar.step c7
             replace ae := ae.step c7
             replace hk := thenB hk c7
             refine w_sta (k := 4) (G := fun j => if j < 1 then U8 (Aes.sb ((Aes.byteOf (Aes.gw W (i5 - 1)) 0).toNat)) else if j < 2 then U8 (Aes.sb ((Aes.byteOf (Aes.gw W (i5 - 1)) 1).toNat)) else if j < 3 then U8 (Aes.sb ((Aes.byteOf (Aes.gw W (i5 - 1)) 2).toNat)) else U8 (Aes.sb ((Aes.byteOf (Aes.gw W (i5 - 1)) 3).toNat))) (ex (pt a2 0)) ea oc AesRefNT.sz88 ae om ?_
             clear ae; intro i3 ae dm _
             replace ae := ae.congr (g := fun j => if j < 1 then U8 (Aes.sb ((Aes.byteOf (Aes.gw W (i5 - 1)) 0).toNat)) else if j < 2 then U8 (Aes.sb ((Aes.byteOf (Aes.gw W (i5 - 1)) 1).toNat)) else if j < 3 then U8 (Aes.sb ((Aes.byteOf (Aes.gw W (i5 - 1)) 2).toNat)) else U8 (Aes.sb ((Aes.byteOf (Aes.gw W (i5 - 1)) 3).toNat))) (fun j hj => by rw [if_pos ⟨Nat.zero_le _, by omega⟩]; first | rfl | (simp only [Nat.sub_zero]))
             replace aq := aq.stepG dm aw
             replace ab := ab.stepG dm om
             replace aa := aa.stepG dm om
             replace ac := ac.stepG dm om
             replace ar := ar.stepG dm om
             replace hk := thenG hk dm om
             refine nt (ss ?_)
             replace ae := ae.congr (g := fun j => U8 (Aes.byteOf (Aes.tW n W i5) j)) (fun j hj => by (try dsimp only); first | exact Aes.tW_rot n W i5 j hj om om om | exact Aes.tW_sub n W i5 j hj om om | exact Aes.tW_same n W i5 j om om)
             refine wp_region_lit (w_as Ev.c (nt (wp_block ?_)))
             clear ar
             refine c_loop (fun dN aN wl => ∃ (k7 : Nat) (vY : Value), dN = (4 - k7) ∧ ∃ ee, aN = fr 231 ee ∧ (k7 ≤ 4) ∧ ee 0 = .string (str key) ∧ ee 2 = .pointer none ∧ ee 3 = pt ad 0 ∧ ee 11 = .int .i64 ((n : Nat) : Int) ∧ ee 12 = U8 (Aes.rc ((i5 - 1) / n)) ∧ ee 13 = .int .i64 ((i5 : Nat) : Int) ∧ ee 14 = pt a8 0 ∧ ee 16 = pt a2 0 ∧ ee 17 = .int .i64 ((k7 : Nat) : Int) ∧ Row wl ad 84 513 (fun j => if j < 256 then U8 (Aes.sb j) else if j < 512 then U8 (Aes.bk (j - 256)) else vY) ∧ Row wl ah 85 255 (fun j => U8 (Aes.pk j)) ∧ Row wl a8 88 4 (fun j => if j < k7 then (fun j => U8 (Aes.byteOf (Aes.gw W (i5 - n)) j ^^^ Aes.byteOf (Aes.tW n W i5) j)) j else (fun j => U8 (0#8)) j) ∧ Row wl a2 88 4 (fun j => U8 (Aes.byteOf (Aes.tW n W i5) j)) ∧ Own wl w0.heap.size 88 4 vY i5 (fun j => U8 (Aes.byteOf (Aes.gw W (j / 4)) (j % 4))) ∧ vY.ownBlock ≠ some ad ∧ vY.ownBlock ≠ some ah ∧ vY.ownBlock ≠ some a8 ∧ vY.ownBlock ≠ some a2 ∧ Below w0.heap.size w0 wl) (4 - 0) ?_ ?_
             · exact ⟨0, vW, rfl, _, rfl, iv, d7, d2, bh, bm, cs, bf, rfl, rfl, ti, (ab.cg), aa, (ac.cg), ae, aq, au, ao, ax, aw, hk⟩
             ·skip
              clear ab aa ac ae aq hk
              rintro _ _ iu ⟨k7, vY, rfl, ee, rfl, ga, b7, b2, az, a0, bb, a1, ay, a9, ap, ab, aa, ac, ae, am, aj, af, ai, al, hk⟩
              refine wp_seq (sr (w_mv (ei ap) (w_val (y_bin ei Ev.c b_lss) (nt ?_))))
              refine c_if (p := ((k7 : Nat) : Int) < 4) eb (fun hc90 => ?_) (fun hc90 => ?_)
              ·skip
               refine wp_skip (then_n (wp_seq (wp_block ?_)))
               obtain ⟨e0, g4, hi, hl, hr, b1, cj⟩ := am.opened om
               have fa : ad ≠ e0 := fun e => aj (by rw [b1, e])
               have d3 : ah ≠ e0 := fun e => af (by rw [b1, e])
               have ge : a8 ≠ e0 := fun e => ai (by rw [b1, e])
               have fs : a2 ≠ e0 := fun e => al (by rw [b1, e])
               refine region_t 17 AesRefNT.mixed kr ?_
               simp only [List.take_succ_cons, List.take_zero, List.drop_succ_cons, List.drop_zero]
               refine q_mv (ei ap) (q_mv (ex (pt ad 0) az) (q_val (fun w' hw' => y_nc (ex (pt ad 0))) (q_val (v := pt ad 512) (fun w' hw' => y_off (y_fa (ex (pt ad 0)) (AesRefNT.fa84_2 _ _)) ro) (q_val (v := vY) (fun w' hw' => y_ld (ex (pt ad 512)) AesRefNT.sc82 (cls_cell (ab.val om (ng (ng dv))) ab.lt w' hw')) (q_mv (ei a1) (q_mv (ei a0) (q_val (fun w' hw' => y_bin ei ei (b_sub om)) (q_mv (ei ap) (q_val (v := pt e0 ((i5 - n) * 4)) (fun w' hw' => y_off (y_is (i := (i5 - n)) (ex (.slice (some ⟨e0, 0, none⟩) i5 g4) (Eq.trans (b := vY) rfl hi)) ei Tryz.underlying82 AesRefNT.sz88 om om) ro) (q_val (v := pt e0 (((i5 - n) * 4) + k7)) (fun w' hw' => y_off (y_ia1 (i := k7) (ex (pt e0 ((i5 - n) * 4))) ei Tryz.underlying88 AesRefNT.sz5 om om) ro) (q_val (v := U8 (Aes.byteOf (Aes.gw W (i5 - n)) k7)) (fun w' hw' => y_ld (ex (pt e0 (((i5 - n) * 4) + k7))) AesRefNT.sc5 (cls_cell (cj.val om (by (try dsimp only); rw [show (((i5 - n) * 4) + k7) / 4 = (i5 - n) from by omega, show (((i5 - n) * 4) + k7) % 4 = k7 from by omega])) cj.lt w' hw')) (q_mv (ei ap) (q_val (fun w' hw' => y_ia1z (i := k7) (ex (pt a2 0) a9) ei Tryz.underlying88 AesRefNT.sz5 om om) (q_val (v := U8 (Aes.byteOf (Aes.tW n W i5) k7)) (fun w' hw' => y_ld (ex (pt a2 k7)) AesRefNT.sc5 (cls_cell (ae.val om rfl) ae.lt w' hw')) (q_val (fun w' hw' => y_bin e8 e8 xor8) (q_val (fun w' hw' => y_ia1z (i := k7) (ex (pt a8 0) ay) ei Tryz.underlying88 AesRefNT.sz5 om om) (q_nil ?_)))))))))))))))))
               intro i6 db
               replace am := am.step db
               replace ab := ab.step db
               replace aa := aa.step db
               replace ac := ac.step db
               replace ae := ae.step db
               replace cj := cj.step db
               replace hk := thenB hk db
               refine w_st (v := U8 ((Aes.byteOf (Aes.gw W (i5 - n)) k7) ^^^ (Aes.byteOf (Aes.tW n W i5) k7))) (ex (pt a8 k7)) e8 rfl rfl AesRefNT.sz5 ac om ?_
               clear ac; intro ja ac dh _
               replace am := am.stepG dh ai
               replace ab := ab.stepG dh om
               replace aa := aa.stepG dh om
               replace ae := ae.stepG dh om
               replace cj := cj.stepG dh om
               replace hk := thenG hk dh om
               refine wpList_nil (inb_n (then_n (wp_region_lit (w_mv (ei ap) (w_val (y_bin ei Ev.c (b_add om)) (w_as ei (wpList_nil ?_)))))))
               exact then_n ⟨_, om, k7 + 1, vY, rfl, _, rfl, iv, b7, b2, az, a0, bb, a1, ay, a9, ti, ab, aa, (ac.cg), ae, am, aj, af, ai, al, hk⟩
              ·skip
               refine wp_exit (then_x ?_)
               replace ac := ac.congr (g := fun j => U8 (Aes.byteOf (Aes.gw W (i5 - n)) j ^^^ Aes.byteOf (Aes.tW n W i5) j)) (fun j hj => by dsimp only; rw [if_pos om])
               refine then_x (inb_x (then_n (region_dc (Nat.testBit 1920) 11 AesRefNT.mixed rfl ?_)))
               intro hx dn
               replace am := am.step dn
               replace ab := ab.step dn
               replace aa := aa.step dn
               replace ac := ac.step dn
               replace ae := ae.step dn
               replace hk := thenB hk dn
               have hS : Cls hx hx := Below.refl _ _
               refine dp 0 rfl (fun w' => y_mv (ex (pt ad 0) az)) (dp 1 rfl (fun w' => y_mv (ex (pt ad 0) az)) (dp (v := pt ad 0) 2 rfl (fun w' => y_nc (ex (pt ad 0))) (dp (v := pt ad 512) 3 rfl (fun w' => y_off (y_fa (ex (pt ad 0)) (AesRefNT.fa84_2 _ _)) ro) (d_take (v := vY) 4 (Nat.testBit 1936) rfl kr kr kr kr kr kr (fun _ _ _ h => h) hS (fun w' hw' => y_ld (ex (pt ad 512)) AesRefNT.sc82 (cls_cell (ab.val om (ng (ng dv))) ab.lt w' hw')) (d_take (v := .agg (arr 4 (fun j => U8 (Aes.byteOf (Aes.gw W (i5 - n)) j ^^^ Aes.byteOf (Aes.tW n W i5) j)))) 5 (Nat.testBit 2016) rfl kr kr kr kr kr kr (fun _ _ _ h => h) hS (fun w' hw' => y_lda (ex (pt a8 0) ay) AesRefNT.ag88 AesRefNT.sz88 (fun j hj => by rw [Nat.zero_add]; exact (cls_cell (ac.cell om) ac.lt w' hw'))) (d_one 6 kr rfl (w_bs1 (m := 4) (e := 88) (F := fun j => U8 (Aes.byteOf (Aes.gw W (i5 - n)) j ^^^ Aes.byteOf (Aes.tW n W i5) j)) ea (fun w => by kernel_rfl) ?_)))))))
               intro cb jl ag ak c9
               have a3 := ab.nb ag
               have av := aa.nb ag
               have a6 := ac.nb ag
               have a7 := ae.nb ag
               have an : vY.ownBlock ≠ some cb := am.apart om
               have ca := gb_ hk.size ag
               clear ag
               replace am := am.step c9
               replace ab := ab.step c9
               replace aa := aa.step c9
               replace ac := ac.step c9
               replace ae := ae.step c9
               replace hk := thenB hk c9
               replace hS := thenB hS c9
               refine wpList_nil ?_
               refine then_n ⟨fun _ h => thenB h (by assumption), ?_⟩
               refine d_one 7 kr rfl (w_app (k := i5) (m := 1) (size := 4) (bytes := 4) (ex vY) el Tryz.underlying82 kr (by decide) am hk.size ak om oca (by simp only [maxLen]; omega) om ?_)
               intro fu id b8 ck c5
               have bj := no_new aj ab.lt c5
               replace ab := ab.stepO ck aj
               have bw := no_new af aa.lt c5
               replace aa := aa.stepO ck af
               have fh := no_new ai ac.lt c5
               replace ac := ac.stepO ck ai
               have fj := no_new al ae.lt c5
               replace ae := ae.stepO ck al
               have eg := no_new an ak.lt c5
               replace ak := ak.stepO ck an
               replace hk := thenO hk ck (fun g e => (am.block_lt g e).2)
               clear am
               clear hS
               refine wpList_nil ?_
               refine then_n ⟨fun hD => absurd hD (by decide), ?_⟩
               refine d_one 8 kr rfl (w_val (y_nc (ex (pt ad 0))) (wpList_nil ?_))
               refine then_n ⟨fun hD => absurd hD (by decide), ?_⟩
               refine d_one 9 kr rfl (w_val (v := pt ad 512) (y_off (y_fa (ex (pt ad 0)) (AesRefNT.fa84_2 _ _)) ro) (wpList_nil ?_))
               refine then_n ⟨fun hD => absurd hD (by decide), ?_⟩
               refine d_one 10 kr rfl (w_st (v := fu) (ex (pt ad 512)) (ex fu) (b8.one) (b8.cells) AesRefNT.sz82 ab om ?_)
               clear ab; intro hz ab cv _
               replace b8 := b8.stepG cv bj
               replace aa := aa.stepG cv om
               replace ac := ac.stepG cv om
               replace ae := ae.stepG cv om
               replace ak := ak.stepG cv om
               replace hk := thenG hk cv om
               refine wpList_nil ?_
               refine then_n ⟨fun hD => absurd hD (by decide), ?_⟩
               refine d_done kr (inb_n (then_n (wp_region_lit (w_mv (ei a1) (w_val (y_bin ei Ev.c (b_add om)) (w_as ei (wpList_nil ?_)))))))
               exact then_n ⟨_, om, i5 + 1, fu, rfl, _, rfl, iv, b7, b2, az, a0, (by refine Eq.trans (b := U8 (Aes.rc ((i5 - 1) / n))) ?_ ?_; exact bb; (first | exact congrArg U8 (by rw [Aes.mul2]; exact Aes.rc_step i5 n om om om) | exact congrArg U8 (Aes.rc_same i5 n om om))), ti, (ab.congr (fun j hj => by exact Aes.box_words j hj _ _)), aa, (own_n (b8.congr (fun j hj => by (try dsimp only); first | exact Aes.row_key key W n i5 j om (hW i5 om) hj | exact Aes.row_next key W n i5 j om (hW i5 om) hj)) om), bj, bw, hk⟩
            ·skip
             refine wp_skip (then_n (ss ?_))
             replace ae := ae.congr (g := fun j => U8 (Aes.byteOf (Aes.tW n W i5) j)) (fun j hj => by (try dsimp only); first | exact Aes.tW_rot n W i5 j hj om om om | exact Aes.tW_sub n W i5 j hj om om | exact Aes.tW_same n W i5 j om om)
             refine wp_region_lit (w_as Ev.c (nt (wp_block ?_)))
             clear ar
             refine c_loop (fun dN aN wl => ∃ (k7 : Nat) (vY : Value), dN = (4 - k7) ∧ ∃ b5, aN = fr 231 b5 ∧ (k7 ≤ 4) ∧ b5 0 = .string (str key) ∧ b5 2 = .pointer none ∧ b5 3 = pt ad 0 ∧ b5 11 = .int .i64 ((n : Nat) : Int) ∧ b5 12 = U8 (Aes.rc ((i5 - 1) / n)) ∧ b5 13 = .int .i64 ((i5 : Nat) : Int) ∧ b5 14 = pt a8 0 ∧ b5 16 = pt a2 0 ∧ b5 17 = .int .i64 ((k7 : Nat) : Int) ∧ Row wl ad 84 513 (fun j => if j < 256 then U8 (Aes.sb j) else if j < 512 then U8 (Aes.bk (j - 256)) else vY) ∧ Row wl ah 85 255 (fun j => U8 (Aes.pk j)) ∧ Row wl a8 88 4 (fun j => if j < k7 then (fun j => U8 (Aes.byteOf (Aes.gw W (i5 - n)) j ^^^ Aes.byteOf (Aes.tW n W i5) j)) j else (fun j => U8 (0#8)) j) ∧ Row wl a2 88 4 (fun j => U8 (Aes.byteOf (Aes.tW n W i5) j)) ∧ Own wl w0.heap.size 88 4 vY i5 (fun j => U8 (Aes.byteOf (Aes.gw W (j / 4)) (j % 4))) ∧ vY.ownBlock ≠ some ad ∧ vY.ownBlock ≠ some ah ∧ vY.ownBlock ≠ some a8 ∧ vY.ownBlock ≠ some a2 ∧ Below w0.heap.size w0 wl) (4 - 0) ?_ ?_
             · exact ⟨0, vW, rfl, _, rfl, iv, d7, d2, bh, bm, cs, bf, rfl, rfl, ti, (ab.cg), aa, (ac.cg), ae, aq, au, ao, ax, aw, hk⟩
             ·skip
              clear ab aa ac ae aq hk
              rintro _ _ ip ⟨k7, vY, rfl, b5, rfl, ga, b7, b2, az, a0, bb, a1, ay, a9, ap, ab, aa, ac, ae, am, aj, af, ai, al, hk⟩
              refine wp_seq (sr (w_mv (ei ap) (w_val (y_bin ei Ev.c b_lss) (nt ?_))))
              refine c_if (p := ((k7 : Nat) : Int) < 4) eb (fun hc108 => ?_) (fun hc108 => ?_)
              ·skip
               refine wp_skip (then_n (wp_seq (wp_block ?_)))
               obtain ⟨cx, f0, gu, he, hd, bn, bq⟩ := am.opened om
               have e1 : ad ≠ cx := fun e => aj (by rw [bn, e])
               have dw : ah ≠ cx := fun e => af (by rw [bn, e])
               have fe : a8 ≠ cx := fun e => ai (by rw [bn, e])
               have fk : a2 ≠ cx := fun e => al (by rw [bn, e])
               refine region_t 17 AesRefNT.mixed kr ?_
               simp only [List.take_succ_cons, List.take_zero, List.drop_succ_cons, List.drop_zero]
               refine q_mv (ei ap) (q_mv (ex (pt ad 0) az) (q_val (fun w' hw' => y_nc (ex (pt ad 0))) (q_val (v := pt ad 512) (fun w' hw' => y_off (y_fa (ex (pt ad 0)) (AesRefNT.fa84_2 _ _)) ro) (q_val (v := vY) (fun w' hw' => y_ld (ex (pt ad 512)) AesRefNT.sc82 (cls_cell (ab.val om (ng (ng dv))) ab.lt w' hw')) (q_mv (ei a1) (q_mv (ei a0) (q_val (fun w' hw' => y_bin ei ei (b_sub om)) (q_mv (ei ap) (q_val (v := pt cx ((i5 - n) * 4)) (fun w' hw' => y_off (y_is (i := (i5 - n)) (ex (.slice (some ⟨cx, 0, none⟩) i5 f0) (Eq.trans (b := vY) rfl gu)) ei Tryz.underlying82 AesRefNT.sz88 om om) ro) (q_val (v := pt cx (((i5 - n) * 4) + k7)) (fun w' hw' => y_off (y_ia1 (i := k7) (ex (pt cx ((i5 - n) * 4))) ei Tryz.underlying88 AesRefNT.sz5 om om) ro) (q_val (v := U8 (Aes.byteOf (Aes.gw W (i5 - n)) k7)) (fun w' hw' => y_ld (ex (pt cx (((i5 - n) * 4) + k7))) AesRefNT.sc5 (cls_cell (bq.val om (by (try dsimp only); rw [show (((i5 - n) * 4) + k7) / 4 = (i5 - n) from by omega, show (((i5 - n) * 4) + k7) % 4 = k7 from by omega])) bq.lt w' hw')) (q_mv (ei ap) (q_val (fun w' hw' => y_ia1z (i := k7) (ex (pt a2 0) a9) ei Tryz.underlying88 AesRefNT.sz5 om om) (q_val (v := U8 (Aes.byteOf (Aes.tW n W i5) k7)) (fun w' hw' => y_ld (ex (pt a2 k7)) AesRefNT.sc5 (cls_cell (ae.val om rfl) ae.lt w' hw')) (q_val (fun w' hw' => y_bin e8 e8 xor8) (q_val (fun w' hw' => y_ia1z (i := k7) (ex (pt a8 0) ay) ei Tryz.underlying88 AesRefNT.sz5 om om) (q_nil ?_)))))))))))))))))
               intro iq cc
               replace am := am.step cc
               replace ab := ab.step cc
               replace aa := aa.step cc
               replace ac := ac.step cc
               replace ae := ae.step cc
               replace bq := bq.step cc
               replace hk := thenB hk cc
               refine w_st (v := U8 ((Aes.byteOf (Aes.gw W (i5 - n)) k7) ^^^ (Aes.byteOf (Aes.tW n W i5) k7))) (ex (pt a8 k7)) e8 rfl rfl AesRefNT.sz5 ac om ?_
               clear ac; intro io ac cu _
               replace am := am.stepG cu ai
               replace ab := ab.stepG cu om
               replace aa := aa.stepG cu om
               replace ae := ae.stepG cu om
               replace bq := bq.stepG cu om
               replace hk := thenG hk cu om
               refine wpList_nil (inb_n (then_n (wp_region_lit (w_mv (ei ap) (w_val (y_bin ei Ev.c (b_add om)) (w_as ei (wpList_nil ?_)))))))
               exact then_n ⟨_, om, k7 + 1, vY, rfl, _, rfl, iv, b7, b2, az, a0, bb, a1, ay, a9, ti, ab, aa, (ac.cg), ae, am, aj, af, ai, al, hk⟩
              ·skip
               refine wp_exit (then_x ?_)
               replace ac := ac.congr (g := fun j => U8 (Aes.byteOf (Aes.gw W (i5 - n)) j ^^^ Aes.byteOf (Aes.tW n W i5) j)) (fun j hj => by dsimp only; rw [if_pos om])
               refine then_x (inb_x (then_n (region_dc (Nat.testBit 1920) 11 AesRefNT.mixed rfl ?_)))
               intro gl cm
               replace am := am.step cm
               replace ab := ab.step cm
               replace aa := aa.step cm
               replace ac := ac.step cm
               replace ae := ae.step cm
               replace hk := thenB hk cm
               have hS : Cls gl gl := Below.refl _ _
               refine dp 0 rfl (fun w' => y_mv (ex (pt ad 0) az)) (dp 1 rfl (fun w' => y_mv (ex (pt ad 0) az)) (dp (v := pt ad 0) 2 rfl (fun w' => y_nc (ex (pt ad 0))) (dp (v := pt ad 512) 3 rfl (fun w' => y_off (y_fa (ex (pt ad 0)) (AesRefNT.fa84_2 _ _)) ro) (d_take (v := vY) 4 (Nat.testBit 1936) rfl kr kr kr kr kr kr (fun _ _ _ h => h) hS (fun w' hw' => y_ld (ex (pt ad 512)) AesRefNT.sc82 (cls_cell (ab.val om (ng (ng dv))) ab.lt w' hw')) (d_take (v := .agg (arr 4 (fun j => U8 (Aes.byteOf (Aes.gw W (i5 - n)) j ^^^ Aes.byteOf (Aes.tW n W i5) j)))) 5 (Nat.testBit 2016) rfl kr kr kr kr kr kr (fun _ _ _ h => h) hS (fun w' hw' => y_lda (ex (pt a8 0) ay) AesRefNT.ag88 AesRefNT.sz88 (fun j hj => by rw [Nat.zero_add]; exact (cls_cell (ac.cell om) ac.lt w' hw'))) (d_one 6 kr rfl (w_bs1 (m := 4) (e := 88) (F := fun j => U8 (Aes.byteOf (Aes.gw W (i5 - n)) j ^^^ Aes.byteOf (Aes.tW n W i5) j)) ea (fun w => by kernel_rfl) ?_)))))))
               intro cb ic ag ak cd
               have a3 := ab.nb ag
               have av := aa.nb ag
               have a6 := ac.nb ag
               have a7 := ae.nb ag
               have an : vY.ownBlock ≠ some cb := am.apart om
               have ca := gb_ hk.size ag
               clear ag
               replace am := am.step cd
               replace ab := ab.step cd
               replace aa := aa.step cd
               replace ac := ac.step cd
               replace ae := ae.step cd
               replace hk := thenB hk cd
               replace hS := thenB hS cd
               refine wpList_nil ?_
               refine then_n ⟨fun _ h => thenB h (by assumption), ?_⟩
               refine d_one 7 kr rfl (w_app (k := i5) (m := 1) (size := 4) (bytes := 4) (ex vY) el Tryz.underlying82 kr (by decide) am hk.size ak om oca (by simp only [maxLen]; omega) om ?_)
               intro fp h6 ci cl c2
               have bo := no_new aj ab.lt c2
               replace ab := ab.stepO cl aj
               have bv := no_new af aa.lt c2
               replace aa := aa.stepO cl af
               have fn := no_new ai ac.lt c2
               replace ac := ac.stepO cl ai
               have fd := no_new al ae.lt c2
               replace ae := ae.stepO cl al
               have em := no_new an ak.lt c2
               replace ak := ak.stepO cl an
               replace hk := thenO hk cl (fun g e => (am.block_lt g e).2)
               clear am
               clear hS
               refine wpList_nil ?_
               refine then_n ⟨fun hD => absurd hD (by decide), ?_⟩
               refine d_one 8 kr rfl (w_val (y_nc (ex (pt ad 0))) (wpList_nil ?_))
               refine then_n ⟨fun hD => absurd hD (by decide), ?_⟩
               refine d_one 9 kr rfl (w_val (v := pt ad 512) (y_off (y_fa (ex (pt ad 0)) (AesRefNT.fa84_2 _ _)) ro) (wpList_nil ?_))
               refine then_n ⟨fun hD => absurd hD (by decide), ?_⟩
               refine d_one 10 kr rfl (w_st (v := fp) (ex (pt ad 512)) (ex fp) (ci.one) (ci.cells) AesRefNT.sz82 ab om ?_)
               clear ab; intro h2 ab ct _
               replace ci := ci.stepG ct bo
               replace aa := aa.stepG ct om
               replace ac := ac.stepG ct om
               replace ae := ae.stepG ct om
               replace ak := ak.stepG ct om
               replace hk := thenG hk ct om
               refine wpList_nil ?_
               refine then_n ⟨fun hD => absurd hD (by decide), ?_⟩
               refine d_done kr (inb_n (then_n (wp_region_lit (w_mv (ei a1) (w_val (y_bin ei Ev.c (b_add om)) (w_as ei (wpList_nil ?_)))))))
               exact then_n ⟨_, om, i5 + 1, fp, rfl, _, rfl, iv, b7, b2, az, a0, (by refine Eq.trans (b := U8 (Aes.rc ((i5 - 1) / n))) ?_ ?_; exact bb; (first | exact congrArg U8 (by rw [Aes.mul2]; exact Aes.rc_step i5 n om om om) | exact congrArg U8 (Aes.rc_same i5 n om om))), ti, (ab.congr (fun j hj => by exact Aes.box_words j hj _ _)), aa, (own_n (ci.congr (fun j hj => by (try dsimp only); first | exact Aes.row_key key W n i5 j om (hW i5 om) hj | exact Aes.row_next key W n i5 j om (hW i5 om) hj)) om), bo, bv, hk⟩
           ·skip
            with_reducible refine w_skip ?_ ?_
            exact wn rfl rfl (eb (df c0))
            with_reducible refine w_skip ?_ ?_
            exact wn rfl rfl (eb (df c0))
            with_reducible refine w_skip ?_ ?_
            exact wn rfl rfl (eb (df c0))
            refine w_val (y_pick_f (eb (df c0)) Ev.c) (nt (c_ff eb (wp_skip (then_n (ss ?_)))))
            replace ae := ae.congr (g := fun j => U8 (Aes.byteOf (Aes.tW n W i5) j)) (fun j hj => by (try dsimp only); first | exact Aes.tW_rot n W i5 j hj om om om | exact Aes.tW_sub n W i5 j hj om om | exact Aes.tW_same n W i5 j om om)
            refine wp_region_lit (w_as Ev.c (nt (wp_block ?_)))
            clear ar
            refine c_loop (fun dN aN wl => ∃ (k7 : Nat) (vY : Value), dN = (4 - k7) ∧ ∃ b3, aN = fr 231 b3 ∧ (k7 ≤ 4) ∧ b3 0 = .string (str key) ∧ b3 2 = .pointer none ∧ b3 3 = pt ad 0 ∧ b3 11 = .int .i64 ((n : Nat) : Int) ∧ b3 12 = U8 (Aes.rc ((i5 - 1) / n)) ∧ b3 13 = .int .i64 ((i5 : Nat) : Int) ∧ b3 14 = pt a8 0 ∧ b3 16 = pt a2 0 ∧ b3 17 = .int .i64 ((k7 : Nat) : Int) ∧ Row wl ad 84 513 (fun j => if j < 256 then U8 (Aes.sb j) else if j < 512 then U8 (Aes.bk (j - 256)) else vY) ∧ Row wl ah 85 255 (fun j => U8 (Aes.pk j)) ∧ Row wl a8 88 4 (fun j => if j < k7 then (fun j => U8 (Aes.byteOf (Aes.gw W (i5 - n)) j ^^^ Aes.byteOf (Aes.tW n W i5) j)) j else (fun j => U8 (0#8)) j) ∧ Row wl a2 88 4 (fun j => U8 (Aes.byteOf (Aes.tW n W i5) j)) ∧ Own wl w0.heap.size 88 4 vY i5 (fun j => U8 (Aes.byteOf (Aes.gw W (j / 4)) (j % 4))) ∧ vY.ownBlock ≠ some ad ∧ vY.ownBlock ≠ some ah ∧ vY.ownBlock ≠ some a8 ∧ vY.ownBlock ≠ some a2 ∧ Below w0.heap.size w0 wl) (4 - 0) ?_ ?_
            · exact ⟨0, vW, rfl, _, rfl, iv, d7, d2, bh, bm, cs, bf, rfl, rfl, ti, (ab.cg), aa, (ac.cg), ae, aq, au, ao, ax, aw, hk⟩
            ·skip
             clear ab aa ac ae aq hk
             rintro _ _ ia ⟨k7, vY, rfl, b3, rfl, ga, b7, b2, az, a0, bb, a1, ay, a9, ap, ab, aa, ac, ae, am, aj, af, ai, al, hk⟩
             refine wp_seq (sr (w_mv (ei ap) (w_val (y_bin ei Ev.c b_lss) (nt ?_))))
             refine c_if (p := ((k7 : Nat) : Int) < 4) eb (fun hc126 => ?_) (fun hc126 => ?_)
             ·skip
              refine wp_skip (then_n (wp_seq (wp_block ?_)))
              obtain ⟨cw, f1, gp, hc, hb, bl, bp⟩ := am.opened om
              have ep : ad ≠ cw := fun e => aj (by rw [bl, e])
              have dx : ah ≠ cw := fun e => af (by rw [bl, e])
              have fm : a8 ≠ cw := fun e => ai (by rw [bl, e])
              have e9 : a2 ≠ cw := fun e => al (by rw [bl, e])
              refine region_t 17 AesRefNT.mixed kr ?_
              simp only [List.take_succ_cons, List.take_zero, List.drop_succ_cons, List.drop_zero]
              refine q_mv (ei ap) (q_mv (ex (pt ad 0) az) (q_val (fun w' hw' => y_nc (ex (pt ad 0))) (q_val (v := pt ad 512) (fun w' hw' => y_off (y_fa (ex (pt ad 0)) (AesRefNT.fa84_2 _ _)) ro) (q_val (v := vY) (fun w' hw' => y_ld (ex (pt ad 512)) AesRefNT.sc82 (cls_cell (ab.val om (ng (ng dv))) ab.lt w' hw')) (q_mv (ei a1) (q_mv (ei a0) (q_val (fun w' hw' => y_bin ei ei (b_sub om)) (q_mv (ei ap) (q_val (v := pt cw ((i5 - n) * 4)) (fun w' hw' => y_off (y_is (i := (i5 - n)) (ex (.slice (some ⟨cw, 0, none⟩) i5 f1) (Eq.trans (b := vY) rfl gp)) ei Tryz.underlying82 AesRefNT.sz88 om om) ro) (q_val (v := pt cw (((i5 - n) * 4) + k7)) (fun w' hw' => y_off (y_ia1 (i := k7) (ex (pt cw ((i5 - n) * 4))) ei Tryz.underlying88 AesRefNT.sz5 om om) ro) (q_val (v := U8 (Aes.byteOf (Aes.gw W (i5 - n)) k7)) (fun w' hw' => y_ld (ex (pt cw (((i5 - n) * 4) + k7))) AesRefNT.sc5 (cls_cell (bp.val om (by (try dsimp only); rw [show (((i5 - n) * 4) + k7) / 4 = (i5 - n) from by omega, show (((i5 - n) * 4) + k7) % 4 = k7 from by omega])) bp.lt w' hw')) (q_mv (ei ap) (q_val (fun w' hw' => y_ia1z (i := k7) (ex (pt a2 0) a9) ei Tryz.underlying88 AesRefNT.sz5 om om) (q_val (v := U8 (Aes.byteOf (Aes.tW n W i5) k7)) (fun w' hw' => y_ld (ex (pt a2 k7)) AesRefNT.sc5 (cls_cell (ae.val om rfl) ae.lt w' hw')) (q_val (fun w' hw' => y_bin e8 e8 xor8) (q_val (fun w' hw' => y_ia1z (i := k7) (ex (pt a8 0) ay) ei Tryz.underlying88 AesRefNT.sz5 om om) (q_nil ?_)))))))))))))))))
              intro ii b4
              replace am := am.step b4
              replace ab := ab.step b4
              replace aa := aa.step b4
              replace ac := ac.step b4
              replace ae := ae.step b4
              replace bp := bp.step b4
              replace hk := thenB hk b4
              refine w_st (v := U8 ((Aes.byteOf (Aes.gw W (i5 - n)) k7) ^^^ (Aes.byteOf (Aes.tW n W i5) k7))) (ex (pt a8 k7)) e8 rfl rfl AesRefNT.sz5 ac om ?_
              clear ac; intro h1 ac co _
              replace am := am.stepG co ai
              replace ab := ab.stepG co om
              replace aa := aa.stepG co om
              replace ae := ae.stepG co om
              replace bp := bp.stepG co om
              replace hk := thenG hk co om
              refine wpList_nil (inb_n (then_n (wp_region_lit (w_mv (ei ap) (w_val (y_bin ei Ev.c (b_add om)) (w_as ei (wpList_nil ?_)))))))
              exact then_n ⟨_, om, k7 + 1, vY, rfl, _, rfl, iv, b7, b2, az, a0, bb, a1, ay, a9, ti, ab, aa, (ac.cg), ae, am, aj, af, ai, al, hk⟩
             ·skip
              refine wp_exit (then_x ?_)
              replace ac := ac.congr (g := fun j => U8 (Aes.byteOf (Aes.gw W (i5 - n)) j ^^^ Aes.byteOf (Aes.tW n W i5) j)) (fun j hj => by dsimp only; rw [if_pos om])
              refine then_x (inb_x (then_n (region_dc (Nat.testBit 1920) 11 AesRefNT.mixed rfl ?_)))
              intro gk cn
              replace am := am.step cn
              replace ab := ab.step cn
              replace aa := aa.step cn
              replace ac := ac.step cn
              replace ae := ae.step cn
              replace hk := thenB hk cn
              have hS : Cls gk gk := Below.refl _ _
              refine dp 0 rfl (fun w' => y_mv (ex (pt ad 0) az)) (dp 1 rfl (fun w' => y_mv (ex (pt ad 0) az)) (dp (v := pt ad 0) 2 rfl (fun w' => y_nc (ex (pt ad 0))) (dp (v := pt ad 512) 3 rfl (fun w' => y_off (y_fa (ex (pt ad 0)) (AesRefNT.fa84_2 _ _)) ro) (d_take (v := vY) 4 (Nat.testBit 1936) rfl kr kr kr kr kr kr (fun _ _ _ h => h) hS (fun w' hw' => y_ld (ex (pt ad 512)) AesRefNT.sc82 (cls_cell (ab.val om (ng (ng dv))) ab.lt w' hw')) (d_take (v := .agg (arr 4 (fun j => U8 (Aes.byteOf (Aes.gw W (i5 - n)) j ^^^ Aes.byteOf (Aes.tW n W i5) j)))) 5 (Nat.testBit 2016) rfl kr kr kr kr kr kr (fun _ _ _ h => h) hS (fun w' hw' => y_lda (ex (pt a8 0) ay) AesRefNT.ag88 AesRefNT.sz88 (fun j hj => by rw [Nat.zero_add]; exact (cls_cell (ac.cell om) ac.lt w' hw'))) (d_one 6 kr rfl (w_bs1 (m := 4) (e := 88) (F := fun j => U8 (Aes.byteOf (Aes.gw W (i5 - n)) j ^^^ Aes.byteOf (Aes.tW n W i5) j)) ea (fun w => by kernel_rfl) ?_)))))))
              intro cb h5 ag ak cf
              have a3 := ab.nb ag
              have av := aa.nb ag
              have a6 := ac.nb ag
              have a7 := ae.nb ag
              have an : vY.ownBlock ≠ some cb := am.apart om
              have ca := gb_ hk.size ag
              clear ag
              replace am := am.step cf
              replace ab := ab.step cf
              replace aa := aa.step cf
              replace ac := ac.step cf
              replace ae := ae.step cf
              replace hk := thenB hk cf
              replace hS := thenB hS cf
              refine wpList_nil ?_
              refine then_n ⟨fun _ h => thenB h (by assumption), ?_⟩
              refine d_one 7 kr rfl (w_app (k := i5) (m := 1) (size := 4) (bytes := 4) (ex vY) el Tryz.underlying82 kr (by decide) am hk.size ak om oca (by simp only [maxLen]; omega) om ?_)
              intro gg h0 ce cq c1
              have bi := no_new aj ab.lt c1
              replace ab := ab.stepO cq aj
              have bx := no_new af aa.lt c1
              replace aa := aa.stepO cq af
              have e7 := no_new ai ac.lt c1
              replace ac := ac.stepO cq ai
              have fc := no_new al ae.lt c1
              replace ae := ae.stepO cq al
              have ej := no_new an ak.lt c1
              replace ak := ak.stepO cq an
              replace hk := thenO hk cq (fun g e => (am.block_lt g e).2)
              clear am
              clear hS
              refine wpList_nil ?_
              refine then_n ⟨fun hD => absurd hD (by decide), ?_⟩
              refine d_one 8 kr rfl (w_val (y_nc (ex (pt ad 0))) (wpList_nil ?_))
              refine then_n ⟨fun hD => absurd hD (by decide), ?_⟩
              refine d_one 9 kr rfl (w_val (v := pt ad 512) (y_off (y_fa (ex (pt ad 0)) (AesRefNT.fa84_2 _ _)) ro) (wpList_nil ?_))
              refine then_n ⟨fun hD => absurd hD (by decide), ?_⟩
              refine d_one 10 kr rfl (w_st (v := gg) (ex (pt ad 512)) (ex gg) (ce.one) (ce.cells) AesRefNT.sz82 ab om ?_)
              clear ab; intro ie ab cp _
              replace ce := ce.stepG cp bi
              replace aa := aa.stepG cp om
              replace ac := ac.stepG cp om
              replace ae := ae.stepG cp om
              replace ak := ak.stepG cp om
              replace hk := thenG hk cp om
              refine wpList_nil ?_
              refine then_n ⟨fun hD => absurd hD (by decide), ?_⟩
              refine d_done kr (inb_n (then_n (wp_region_lit (w_mv (ei a1) (w_val (y_bin ei Ev.c (b_add om)) (w_as ei (wpList_nil ?_)))))))
              exact then_n ⟨_, om, i5 + 1, gg, rfl, _, rfl, iv, b7, b2, az, a0, (by refine Eq.trans (b := U8 (Aes.rc ((i5 - 1) / n))) ?_ ?_; exact bb; (first | exact congrArg U8 (by rw [Aes.mul2]; exact Aes.rc_step i5 n om om om) | exact congrArg U8 (Aes.rc_same i5 n om om))), ti, (ab.congr (fun j hj => by exact Aes.box_words j hj _ _)), aa, (own_n (ce.congr (fun j hj => by (try dsimp only); first | exact Aes.row_key key W n i5 j om (hW i5 om) hj | exact Aes.row_next key W n i5 j om (hW i5 om) hj)) om), bi, bx, hk⟩
        ·skip
         refine wp_exit (then_x (then_x (inb_x (then_n (sr (w_mv (ex (pt ad 0) bh) (w_as (ex (pt ad 0)) (nt (wp_ret (fin_ret1 rfl (ex (pt ad 0)) ?_))))))))))
         exact ⟨ad, vW, rfl, hk, eo, ab, own_n aq om⟩
end Go.Proofs.YtdmbfimjbmfbaaaGreatDoor
