/-
  The last step of a law's row, where the law's call has made blocks of its own. No conditions. Steps of a walk, part 7: an element of an array's value. No conditions. AES: what is encrypted is decrypted to what it was, and the other way round, in plain Lean. Conditions as each says. AES: the reference's tables, plainly. No conditions. AES: what decrypting wants is made ready. Conditions as each says. AES: sync.Once about the making ready, in one goroutine. Conditions as each says. AES: behind the Once all is ready, whether it was or not. Conditions as each says. AES: Decrypt. Conditions as each says. AES: the reference's word on a key's length. No conditions. A struct of a text and a number, opened and shut; a number of 64 bits. No conditions.
-/
import Derived.Test.YtdmbfimjbmfbaaaGreatDoorWords
import Derived.Test.YtdmbfimjbmfbaaaGreatDoorRows
import Derived.WalkKit
import Derived.ProofKit
import Derived.OpenShut
import Derived.ShutString
import Derived.SizedLaws
import Derived.Below
import Derived.ChangeSame
import Derived.Test.YtdmbfimjbmfbaaaGreatDoorGenMore
import Derived.Test.YtdmbfimjbmfbaaaGreatDoorAesMix
import Derived.Test.YtdmbfimjbmfbaaaGreatDoorAesExpand
import Derived.Test.YtdmbfimjbmfbaaaGreatDoorAesEnc
import Derived.Defers
import Derived.Laws.LoneSync
import Derived.RegionCalls
import Derived.Laws.NewBlocks
import Derived.ChangeArms
namespace Go.Proofs.YtdmbfimjbmfbaaaGreatDoor
open Go.RowKit Go.WideShapes Go.ChangeShapes
section
variable {H : Type} {enc : TypeId × Value → H} {P : Program}
theorem post_of_below {f : Func} {s : ChangeSpec} {apart fresh handsOn again : Bool} {W W' : World} {args : Array Value} {v : Value} {ds gs : List (DataW H)} {before pa pv : List MemPlace}
    (hW : DataW.Whole enc P f.params.toList s.vars apart W args.toList ds gs before)
    (hres : ∀ (b : Nat) (sp : Nat → Bool) (hd : Bool), DataW.TrodAll enc P W' b sp hd f.resultTypes.toList (v.resultList f.resultTypes.size) (s.fn H (ds ++ gs)).results [])
    (hargs : ∀ sp : Nat → Bool, (∀ p ∈ before, sp p.block = true) → DataW.TrodAll enc P W' 0 sp true f.params.toList args.toList (s.fn H (ds ++ gs)).args pa)
    (hvars : ∀ sp : Nat → Bool, (∀ p ∈ before, sp p.block = true) → DataW.TrodVars enc P W' sp s.vars (s.fn H (ds ++ gs)).vars pv)
    (hps : before = pa ++ pv) (hb : Below W.heap.size W W')
    (hok : ∀ (j : Nat) (t : TypeId) (r : Value), f.resultTypes[j]? = some t → (v.resultList f.resultTypes.size)[j]? = some r → Value.okWide P W' .any 0 t r) :
    s.post enc P f apart fresh handsOn again W args v W' := by
  have hlt : ∀ p ∈ before, p.block < W.heap.size := fun p hp => hW.lt p hp
  have hold : ∀ p ∈ before, (fun b => decide (b < W.heap.size)) p.block = true := fun p hp => by simpa using hlt p hp
  refine ⟨ds, gs, before, [], pa, pv, hW, hres _ _ _, hargs _ hold, hvars _ hold, World.keptBut_mono (fun p hp => ⟨hp, ?_⟩) (hb.frame (· ∈ before)), fun _ => ?_⟩
  · rw [hps, List.mem_append] at hp
    exact Or.inr hp
  · obtain ⟨_, _, _, _, _, hz, hn⟩ := hW
    refine ⟨hok, _, _, ([] ++ pa) ++ pv, ⟨[] ++ pa, pv, trodAll_append (hargs _ (fun _ _ => rfl)) (hres _ _ _), hvars _ (fun _ _ => rfl), rfl, ?_, ?_⟩, ?_⟩
    · intro b off hp
      have hin : MemPlace.cell b off ∈ before := by rw [hps]; simpa using hp
      rw [hb.frozen (hlt _ hin)]
      exact hz b off hin
    · intro ha
      have := hn ha
      rw [hps] at this
      simpa using this
    · intro p hp _
      rw [hps]
      simpa using hp
end
theorem own : ownKnob Tryz.prog.godebug = none := by kernel_rfl
end Go.Proofs.YtdmbfimjbmfbaaaGreatDoor
namespace Go.Proofs.YtdmbfimjbmfbaaaGreatDoor
open Go.RowKit
set_option linter.unusedSimpArgs false
set_option linter.unusedVariables false
section
variable {P : Program} {w : World} {n : Nat} {f : Nat → Value}
variable {ty : TypeId} {x y : Operand} {v : Value} {t e : TypeId} {F : Nat → Value} {a : Int}
theorem y_idxa {m i : Nat} {k : IntKind} (hx : Ev n f x (.agg (arr m F))) (hy : Ev n f y (.int k a)) (ht : P.underlying t = some (.array m e)) (hu : (P.underlying e).map scal = some true) (hs : (P.info? e).map (·.size) = some 1) (hi : a = (i : Int)) (hlt : i < m) : Yields P n f (.index t x y) ty w (F i) := by
  have h1 : (fr n f).eval x = .agg (arr m F) := hx
  have h2 : (fr n f).eval y = .int k a := hy
  subst hi
  obtain ⟨d, h3, h4⟩ := Option.map_eq_some_iff.1 hu
  have hag : (isAgg e).run P w = .ok false w := by
    unfold isAgg
    rw [Sem.run_bind, run_underlying h3 w]
    cases d <;> simp_all [scal]
  obtain ⟨inf, h5, h6⟩ := Option.map_eq_some_iff.1 hs
  have hsz : (sizeOf e).run P w = .ok 1 w := by
    simp [sizeOf, typeInfo, Sem.run_bind, h5, h6]
  unfold Yields execOp
  simp only [h1, h2]
  have hlt' : (0 : Int) ≤ (i : Int) ∧ (i : Int) < (m : Int) := ⟨by omega, by omega⟩
  simp [Instr.index, asIntOf, Sem.run_bind, run_underlying ht, hlt, hsz, part, hag, arr_at _ _ _ hlt, go_sem]
end
end Go.Proofs.YtdmbfimjbmfbaaaGreatDoor
namespace Go.Proofs.YtdmbfimjbmfbaaaGreatDoor
set_option linter.unusedSimpArgs false
set_option linter.unusedVariables false
namespace Aes
theorem idx_byte0 (a b c d : BitVec 8) : idx (word a b c d >>> 24) = a.toNat := by
  have h : byteOf (word a b c d) 0 = a := byteOf0 a b c d
  have hl := idx_high (word a b c d)
  have e : ((word a b c d >>> 24).setWidth 8).toNat = a.toNat := congrArg BitVec.toNat h
  rw [BitVec.toNat_setWidth] at e
  have hl' : (word a b c d >>> 24).toNat < 256 := hl
  show (word a b c d >>> 24).toNat = a.toNat
  rw [← e]; exact (Nat.mod_eq_of_lt hl').symm
theorem idx_and (x : BitVec 32) : idx (x &&& 255#32) = (x.setWidth 8).toNat := by
  show (x &&& 255#32).toNat = _
  rw [BitVec.toNat_and, BitVec.toNat_setWidth]
  exact Nat.and_two_pow_sub_one_eq_mod x.toNat 8
theorem subW_word (s : Nat → BitVec 8) (a b c d : BitVec 8) : subW s (word a b c d) = word (s a.toNat) (s b.toNat) (s c.toNat) (s d.toNat) := by
  have h1 : (word a b c d >>> 16).setWidth 8 = b := byteOf1 a b c d
  have h2 : (word a b c d >>> 8).setWidth 8 = c := byteOf2 a b c d
  have h3 : (word a b c d).setWidth 8 = d := byteOf3 a b c d
  unfold subW
  rw [idx_byte0, idx_and, idx_and, idx_and, h1, h2, h3]
  rfl
theorem word_or (a b c d a' b' c' d' : BitVec 8) : word a b c d ||| word a' b' c' d' = word (a ||| a') (b ||| b') (c ||| c') (d ||| d') := by
  apply BitVec.eq_of_getLsbD_eq
  intro i hi
  simp only [BitVec.getLsbD_or, bit_word]
  repeat' split
  all_goals first | rfl | simp
theorem and255 : ∀ n, n < 256 → BitVec.ofNat 8 n &&& 255#8 = BitVec.ofNat 8 n := by decide +kernel
theorem and_255 (a : BitVec 8) : a &&& 255#8 = a := by
  have := and255 _ a.isLt
  rwa [BitVec.ofNat_toNat, BitVec.setWidth_eq] at this
theorem sh4_word (a b c d : BitVec 32) : sh4 a b c d = word (byteOf a 0) (byteOf b 1) (byteOf c 2) (byteOf d 3) := by
  unfold sh4
  have m0 : 4278190080#32 = word 255#8 0#8 0#8 0#8 := by decide
  have m1 : 16711680#32 = word 0#8 255#8 0#8 0#8 := by decide
  have m2 : 65280#32 = word 0#8 0#8 255#8 0#8 := by decide
  have m3 : 255#32 = word 0#8 0#8 0#8 255#8 := by decide
  have ha := word_byteOf a
  have hb := word_byteOf b
  have hc := word_byteOf c
  have hd := word_byteOf d
  rw [m0, m1, m2, m3]
  conv => lhs; rw [← ha, ← hb, ← hc, ← hd]
  simp only [word_and, word_or, and_255, BitVec.and_zero, BitVec.or_zero, BitVec.zero_or]
/-! the way back -/
def unsh (x : Nat → BitVec 32) (i : Nat) : BitVec 32 :=
  x i &&& 4278190080#32 ||| x ((i + 3) % 4) &&& 16711680#32 ||| x ((i + 2) % 4) &&& 65280#32 ||| x ((i + 1) % 4) &&& 255#32
theorem shifted_word (x : Nat → BitVec 32) (i : Nat) : shifted x i = word (byteOf (x i) 0) (byteOf (x ((i + 1) % 4)) 1) (byteOf (x ((i + 2) % 4)) 2) (byteOf (x ((i + 3) % 4)) 3) := sh4_word _ _ _ _
theorem unsh_word (x : Nat → BitVec 32) (i : Nat) : unsh x i = word (byteOf (x i) 0) (byteOf (x ((i + 3) % 4)) 1) (byteOf (x ((i + 2) % 4)) 2) (byteOf (x ((i + 1) % 4)) 3) := sh4_word _ _ _ _
theorem subW_unsh (x y : Nat → BitVec 32) (h : ∀ i, i < 4 → x i = subW sb (shifted y i)) (i : Nat) (hi : i < 4) : subW bk (unsh x i) = y i := by
  rw [unsh_word, h i hi, h _ (Nat.mod_lt (i + 3) (by decide)), h _ (Nat.mod_lt (i + 2) (by decide)), h _ (Nat.mod_lt (i + 1) (by decide))]
  simp only [shifted_word, subW_word, byteOf0, byteOf1, byteOf2, byteOf3, bk_sb]
  rw [show ((i + 3) % 4 + 1) % 4 = i by omega, show ((i + 2) % 4 + 2) % 4 = i by omega, show ((i + 1) % 4 + 3) % 4 = i by omega]
  exact word_byteOf _
def decCol (U : List (BitVec 32)) (R r : Nat) (x : Nat → BitVec 32) (i : Nat) : BitVec 32 :=
  (if r < R then unmix (subW bk (unsh x i)) else subW bk (unsh x i)) ^^^ gw U (4 * r + i)
def decSt (U : List (BitVec 32)) (R : Nat) (s : List (BitVec 8)) : Nat → Nat → BitVec 32
  | 0, i => col s i ^^^ gw U i
  | r + 1, i => decCol U R (r + 1) (decSt U R s r) i
/-- the words for the way back -/
def undoW (W : List (BitVec 32)) (i : Nat) : BitVec 32 :=
  if 4 ≤ i ∧ i < W.length - 4 then unmix (gw W (W.length - 4 - i / 4 * 4 + i % 4)) else gw W (W.length - 4 - i / 4 * 4 + i % 4)
def undo (W : List (BitVec 32)) : List (BitVec 32) := (List.range W.length).map (undoW W)
theorem gw_undo (W : List (BitVec 32)) (i : Nat) (h : i < W.length) : gw (undo W) i = undoW W i := by simp [gw, undo, h]
theorem mix_xor (x y : BitVec 32) : mix (x ^^^ y) = mix x ^^^ mix y := by
  rw [← word_byteOf x, ← word_byteOf y]
  generalize byteOf x 0 = a
  generalize byteOf x 1 = b
  generalize byteOf x 2 = c
  generalize byteOf x 3 = d
  generalize byteOf y 0 = a'
  generalize byteOf y 1 = b'
  generalize byteOf y 2 = c'
  generalize byteOf y 3 = d'
  rw [word_xor, mix_word, mix_word, mix_word, word_xor]
  simp only [xt_xor]
  congr 1 <;> simp only [BitVec.xor_assoc, BitVec.xor_comm, xl]
theorem tw_xor (x y : BitVec 32) : tw (x ^^^ y) = tw x ^^^ tw y := by
  rw [← word_byteOf x, ← word_byteOf y, word_xor, tw_word, tw_word, tw_word, word_xor]
  simp only [xt_xor]
theorem rot16_xor (x y : BitVec 32) : ((x ^^^ y) <<< 16 ||| (x ^^^ y) >>> 16) = (x <<< 16 ||| x >>> 16) ^^^ (y <<< 16 ||| y >>> 16) := by
  rw [← word_byteOf x, ← word_byteOf y, word_xor, rot16, rot16, rot16, word_xor]
theorem unmix_xor (x y : BitVec 32) : unmix (x ^^^ y) = unmix x ^^^ unmix y := by
  unfold unmix
  rw [rot16_xor, xor4, tw_xor, tw_xor, xor4, mix_xor]
theorem xcc {n : Nat} (x y : BitVec n) : x ^^^ y ^^^ y = x := by rw [BitVec.xor_assoc, BitVec.xor_self, BitVec.xor_zero]
theorem byteOf_col (s : List (BitVec 8)) (i r : Nat) (hr : r < 4) : byteOf (col s i) r = gb s (4 * i + r) := by
  unfold col
  rcases r with _ | _ | _ | _ | r
  · exact byteOf0 _ _ _ _
  · exact byteOf1 _ _ _ _
  · exact byteOf2 _ _ _ _
  · exact byteOf3 _ _ _ _
  · omega
theorem col_block (x : Nat → BitVec 32) (i : Nat) (hi : i < 4) : col (block x) i = x i := by
  unfold col
  rw [gb_block _ _ (by omega), gb_block _ _ (by omega), gb_block _ _ (by omega), gb_block _ _ (by omega)]
  rw [show 4 * i / 4 = i by omega, show (4 * i + 1) / 4 = i by omega, show (4 * i + 2) / 4 = i by omega, show (4 * i + 3) / 4 = i by omega,
    show 4 * i % 4 = 0 by omega, show (4 * i + 1) % 4 = 1 by omega, show (4 * i + 2) % 4 = 2 by omega, show (4 * i + 3) % 4 = 3 by omega]
  exact word_byteOf _
theorem block_congr {x y : Nat → BitVec 32} (h : ∀ i, i < 4 → x i = y i) : block x = block y := by
  unfold block
  refine List.map_congr_left (fun j hj => ?_)
  rw [h _ (by have := List.mem_range.1 hj; omega)]
theorem block_col (s : List (BitVec 8)) (hs : s.length = 16) : block (fun i => col s i) = s := by
  apply List.ext_getElem
  · rw [length_block, hs]
  · intro j h1 h2
    simp only [block, List.getElem_map, List.getElem_range]
    rw [byteOf_col _ _ _ (Nat.mod_lt _ (by decide)), show 4 * (j / 4) + j % 4 = j by omega]
    simp [gb, h2]
variable (W : List (BitVec 32)) (R : Nat)
theorem gw_undo_mid (hW : W.length = 4 * (R + 1)) (r i : Nat) (hi : i < 4) (h1 : 1 ≤ r) (h2 : r < R) : gw (undo W) (4 * r + i) = unmix (gw W (4 * (R - r) + i)) := by
  rw [gw_undo _ _ (by omega), undoW, if_pos ⟨by omega, by omega⟩, show W.length - 4 - (4 * r + i) / 4 * 4 + (4 * r + i) % 4 = 4 * (R - r) + i by omega]
theorem gw_undo_first (hW : W.length = 4 * (R + 1)) (hR : 1 ≤ R) (i : Nat) (hi : i < 4) : gw (undo W) i = gw W (4 * R + i) := by
  rw [gw_undo _ _ (by omega), undoW, if_neg (by omega), show W.length - 4 - i / 4 * 4 + i % 4 = 4 * R + i by omega]
theorem gw_undo_last (hW : W.length = 4 * (R + 1)) (hR : 1 ≤ R) (i : Nat) (hi : i < 4) : gw (undo W) (4 * R + i) = gw W i := by
  rw [gw_undo _ _ (by omega), undoW, if_neg (by omega), show W.length - 4 - (4 * R + i) / 4 * 4 + (4 * R + i) % 4 = i by omega]
theorem dec_mid (hW : W.length = 4 * (R + 1)) (hR : 1 ≤ R) (s : List (BitVec 8)) : ∀ r, r < R → ∀ i, i < 4 →
    decSt (undo W) R (block (encSt W R s R)) r i = subW sb (shifted (encSt W R s (R - r - 1)) i) := by
  intro r
  induction r with
  | zero =>
    intro _ i hi
    show col (block (encSt W R s R)) i ^^^ gw (undo W) i = _
    rw [col_block _ _ hi, gw_undo_first W R hW hR i hi]
    obtain ⟨k, rfl⟩ : ∃ k, R = k + 1 := ⟨R - 1, by omega⟩
    show (if k + 1 < k + 1 then _ else subW sb (shifted (encSt W (k + 1) s k) i)) ^^^ gw W (4 * (k + 1) + i) ^^^ _ = _
    rw [if_neg (by omega), xcc]
    rfl
  | succ r ih =>
    intro hr i hi
    show (if r + 1 < R then unmix (subW bk (unsh (decSt (undo W) R (block (encSt W R s R)) r) i)) else _) ^^^ gw (undo W) (4 * (r + 1) + i) = _
    rw [if_pos hr, subW_unsh _ _ (ih (by omega)) i hi, gw_undo_mid W R hW (r + 1) i hi (by omega) hr]
    obtain ⟨k, hk⟩ : ∃ k, R - r - 1 = k + 1 := ⟨R - r - 2, by omega⟩
    rw [hk, show R - (r + 1) = k + 1 by omega, show k + 1 - 1 = k by omega]
    show unmix ((if k + 1 < R then mix (subW sb (shifted (encSt W R s k) i)) else _) ^^^ gw W (4 * (k + 1) + i)) ^^^ _ = _
    rw [if_pos (by omega), unmix_xor, unmix_mix, xcc]
theorem dec_all (hW : W.length = 4 * (R + 1)) (hR : 1 ≤ R) (s : List (BitVec 8)) (i : Nat) (hi : i < 4) : decSt (undo W) R (block (encSt W R s R)) R i = col s i := by
  obtain ⟨k, hk⟩ : ∃ k, R = k + 1 := ⟨R - 1, by omega⟩
  have h := dec_mid W R hW hR s k (by omega)
  have hd : decSt (undo W) R (block (encSt W R s R)) (k + 1) i = decCol (undo W) R (k + 1) (decSt (undo W) R (block (encSt W R s R)) k) i := rfl
  rw [show decSt (undo W) R (block (encSt W R s R)) R i = decSt (undo W) R (block (encSt W R s R)) (k + 1) i by rw [← hk], hd, decCol, if_neg (by omega), subW_unsh _ _ h i hi,
    show 4 * (k + 1) + i = 4 * R + i by rw [hk], gw_undo_last W R hW hR i hi, show R - k - 1 = 0 by omega]
  exact xcc _ _
/-- to decrypt -/
def dec (s : List (BitVec 8)) : List (BitVec 8) := block (decSt (undo W) (W.length / 4 - 1) s (W.length / 4 - 1))
theorem dec_enc (hW : W.length = 4 * (R + 1)) (hR : 1 ≤ R) (s : List (BitVec 8)) (hs : s.length = 16) : dec W (enc W s) = s := by
  unfold dec
  rw [← enc_eq W s R hW hR, show W.length / 4 - 1 = R by omega, block_congr (dec_all W R hW hR s), block_col s hs]
end Aes
end Go.Proofs.YtdmbfimjbmfbaaaGreatDoor
namespace Go.Proofs.YtdmbfimjbmfbaaaGreatDoor
namespace Aes
theorem mul3_all : ∀ n, n < 256 → mul (BitVec.ofNat 8 n) 3#8 = BitVec.ofNat 8 n ^^^ xt (BitVec.ofNat 8 n) := by decide +kernel
theorem pk_mul (k : Nat) : mul (pk k) 3#8 = pk (k + 1) := by
  have := mul3_all _ (pk k).isLt
  rw [BitVec.ofNat_toNat, BitVec.setWidth_eq] at this
  exact this
/-- the reference's box while it fills -/
def pst : Nat → List (BitVec 8)
  | 0 => (List.replicate 256 0#8).set 0 99#8
  | k + 1 => (pst k).set (pk k).toNat ((rr (pk ((255 - k) % 255)) 4).2 ^^^ 99#8)
theorem length_pst (k : Nat) : (pst k).length = 256 := by
  induction k with
  | zero => exact (List.length_set ..).trans List.length_replicate
  | succ k ih => exact (List.length_set ..).trans ih
theorem pst_sb : pst 255 = (List.range 256).map sb := by decide +kernel
theorem gb_pst (i : Nat) (h : i < 256) : gb (pst 255) i = sb i := by
  rw [pst_sb]; simp [gb, h]
theorem byte_xor (x y : BitVec 32) (r : Nat) : byteOf (x ^^^ y) r = byteOf x r ^^^ byteOf y r := by
  unfold byteOf
  rw [BitVec.ushiftRight_xor_distrib, BitVec.setWidth_xor]
end Aes
end Go.Proofs.YtdmbfimjbmfbaaaGreatDoor
namespace Go.Proofs.YtdmbfimjbmfbaaaGreatDoor
open Go.RowKit
set_option linter.unusedSimpArgs false
set_option linter.unusedVariables false
/-- the way back, as it fills -/
def Aes.bt : Nat → List (BitVec 8)
  | 0 => List.replicate 256 0#8
  | k + 1 => (Aes.bt k).set (Aes.sb k).toNat (BitVec.ofNat 8 k)
theorem Aes.length_bt (k : Nat) : (Aes.bt k).length = 256 := by
  induction k with
  | zero => exact List.length_replicate
  | succ k ih => simp [Aes.bt, ih]
theorem Aes.bt_bk : Aes.bt 256 = (List.range 256).map Aes.bk := by decide +kernel
theorem Aes.gb_bt (i : Nat) (h : i < 256) : gb (Aes.bt 256) i = Aes.bk i := by
  rw [Aes.bt_bk]; simp [gb, h]
end Go.Proofs.YtdmbfimjbmfbaaaGreatDoor
namespace Go.Proofs.YtdmbfimjbmfbaaaGreatDoor
open Go.RowKit
set_option linter.unusedSimpArgs false
set_option linter.unusedVariables false
end Go.Proofs.YtdmbfimjbmfbaaaGreatDoor
namespace Go.Proofs.YtdmbfimjbmfbaaaGreatDoor
open Go.RowKit
set_option linter.unusedSimpArgs false
set_option linter.unusedVariables false
def Ready (w : World) (b : Nat) (W : List (BitVec 32)) (g u : Nat) : Prop :=
  u ≠ g ∧ Row w b 113 517 (ciph Aes.bk W.length g (some u)) ∧ Row w g 103 W.length (fun j => U32 (Aes.gw W j)) ∧ Row w u 103 W.length (fun j => U32 (Aes.gw (Aes.undo W) j))
theorem Ready.ciph {w : World} {b g u : Nat} {W : List (BitVec 32)} (h : Ready w b W g u) : CiphAt Aes.bk Aes.undo w b W :=
  ⟨g, some u, h.2.1, h.2.2.1, fun u' hu => by cases hu; exact ⟨h.1, h.2.2.2⟩⟩
theorem Ready.below {w w' : World} {b g u : Nat} {W : List (BitVec 32)} (h : Ready w b W g u) (hb : Below w.heap.size w w') : Ready w' b W g u :=
  ⟨h.1, h.2.1.below hb h.2.1.lt, h.2.2.1.below hb h.2.2.1.lt, h.2.2.2.below hb h.2.2.2.lt⟩
end Go.Proofs.YtdmbfimjbmfbaaaGreatDoor
namespace Go.Proofs.YtdmbfimjbmfbaaaGreatDoor
open Go.RowKit
set_option linter.unusedSimpArgs false
set_option linter.unusedVariables false
end Go.Proofs.YtdmbfimjbmfbaaaGreatDoor
namespace Go.Proofs.YtdmbfimjbmfbaaaGreatDoor
open Go.RowKit
set_option linter.unusedSimpArgs false
set_option linter.unusedVariables false
theorem refRight_yes (s : ByteArray) (w : World) (h : Aes.okKey s.size) : Calls Tryz.prog 22 #[.string s] w fun e w' => e = .returned (.bool true) ∧ w = w' := by
  rcases h with h | h | h
  all_goals
    go_enter Tryz.func22, Tryz.ntmps22
    go_wp2
    go_ret
    exact ⟨rfl, rfl⟩
end Go.Proofs.YtdmbfimjbmfbaaaGreatDoor
namespace Go.Proofs.YtdmbfimjbmfbaaaGreatDoor
open Go.RowKit Go.WideShapes Go.ChangeShapes
section
variable {H : Type} {enc : TypeId × Value → H} {P : Program} {w : World} {base : Nat} {sp : Nat → Bool} {held : Bool}
end
end Go.Proofs.YtdmbfimjbmfbaaaGreatDoor
