/-
  Strings as lists of bytes, and rows of cells. No conditions. A region whose order is open: operations that are quiet in a class of worlds, then a tail in one forced order. And the class of later worlds. No conditions.
-/
import Derived.Test.YtdmbfimjbmfbaaaGreatDoorWords
import Derived.StillTailTactics
import Derived.Deep.QuietTactic
import Derived.BigQuiet
namespace Go.Proofs.YtdmbfimjbmfbaaaGreatDoor
open Go.RowKit
set_option linter.unusedSimpArgs false
set_option linter.unusedVariables false

/-! ### strings -/
def byt (s : ByteArray) : List (BitVec 8) := s.data.toList.map UInt8.toBitVec
def str (l : List (BitVec 8)) : ByteArray := ⟨(l.map UInt8.ofBitVec).toArray⟩
theorem byt_str (l : List (BitVec 8)) : byt (str l) = l := by
  simp only [byt, str, List.map_map]
  have : (UInt8.toBitVec ∘ UInt8.ofBitVec) = (id : BitVec 8 → BitVec 8) := rfl
  rw [this, List.map_id]
theorem str_byt (s : ByteArray) : str (byt s) = s := by
  simp only [byt, str, List.map_map]
  have : (UInt8.ofBitVec ∘ UInt8.toBitVec) = (id : UInt8 → UInt8) := rfl
  rw [this, List.map_id]
theorem size_str (l : List (BitVec 8)) : (str l).size = l.length := by
  simp only [str, ByteArray.size, List.size_toArray, List.length_map]
theorem length_byt (s : ByteArray) : (byt s).length = s.size := by
  simp only [byt, List.length_map, ByteArray.size, Array.length_toList]
theorem byt_inj {a b : ByteArray} (h : byt a = byt b) : a = b := by rw [← str_byt a, h, str_byt]
theorem byt_append (a b : ByteArray) : byt (a ++ b) = byt a ++ byt b := by
  simp only [byt, ByteArray.data_append, Array.toList_append, List.map_append]
theorem str_append (a b : List (BitVec 8)) : str a ++ str b = str (a ++ b) := by
  apply byt_inj
  rw [byt_append, byt_str, byt_str, byt_str]
theorem byt_extract (s : ByteArray) (a b : Nat) : byt (s.extract a b) = ((byt s).drop a).take (b - a) := by
  have e : s = ByteArray.mk s.data.toList.toArray := rfl
  conv => lhs; rw [e, ByteArray.extract_mk]
  simp only [byt, List.map_take, List.map_drop]
theorem toList_beq (a b : ByteArray) : (a.toList == b.toList) = (byt a == byt b) := by
  rw [Bool.eq_iff_iff, beq_iff_eq, beq_iff_eq]
  constructor
  · intro h
    have : a = b := by
      rw [ByteArray.toList_eq, ByteArray.toList_eq] at h
      rw [← str_byt a, ← str_byt b]
      simp only [byt, h]
    rw [this]
  · intro h
    rw [byt_inj h]
/-- byte i: simp does not look behind the name -/
def gb (l : List (BitVec 8)) (i : Nat) : BitVec 8 := l.getD i 0#8
theorem getD_byt (s : ByteArray) (i : Nat) (h : i < s.size) : (s[i]'h).toBitVec = (byt s).getD i 0 := by
  have h' : i < s.data.toList.length := h
  simp only [byt, List.getD_eq_getElem?_getD, List.getElem?_map, List.getElem?_eq_getElem h', Option.map_some, Option.getD_some]
  rfl
/-- a string's byte: simp does not look behind the name -/
def strAt (t : TypeId) (s : ByteArray) (k : IntKind) (i : Int) : Sem Value := Instr.index t (.string s) (.int k i)
theorem index_strAt (t : TypeId) (s : ByteArray) (k : IntKind) (i : Int) : Instr.index t (.string s) (.int k i) = strAt t s k i := rfl
theorem run_strAt (P : Program) (w : World) (t : TypeId) (s : ByteArray) (k : IntKind) (i : Int) (h : P.underlying t = some .string) :
    (strAt t s k i).run P w =
      if 0 ≤ i ∧ i < s.size then .ok (U8 (gb (byt s) i.toNat)) w
      else (boundsPanic k i s.size .index).run P w := by
  unfold strAt
  rw [run_index_string w t s k i h]
  by_cases hi : 0 ≤ i ∧ i < s.size
  · rw [dif_pos hi, if_pos hi, show gb (byt s) i.toNat = (s[i.toNat]'(by omega)).toBitVec from (getD_byt s i.toNat (by omega)).symm]
    rfl
  · rw [dif_neg hi, if_neg hi]
attribute [go_sem] toList_beq byt_str size_str length_byt byt_append byt_extract index_strAt run_strAt

/-! ### rows of cells -/
/-- Block b is a row of cells of type t; its first n cells hold f, none of them frozen. -/
def Row (w : World) (b : Nat) (t : TypeId) (n : Nat) (f : Nat → Value) : Prop :=
  ∃ c lo hi, w.heap[b]? = some (.cells c t (lo, hi)) ∧ n ≤ c.size ∧ (∀ i, i < n → c[i]? = some (f i)) ∧ (n ≤ lo ∨ hi ≤ lo)
namespace Row
variable {w w' : World} {b : Nat} {t : TypeId} {n m : Nat} {f g : Nat → Value}
theorem cell (h : Row w b t n f) {i : Nat} (hi : i < n) : w.cell? ⟨b, i, none⟩ = some (f i) := by
  obtain ⟨c, lo, hi', hb, _, hc, _⟩ := h
  simp [World.cell?, hb, hc i hi]
theorem frozen (h : Row w b t n f) {i : Nat} (hi : i < n) : w.frozen? ⟨b, i, none⟩ = false := by
  obtain ⟨c, lo, hi', hb, _, hc, hz⟩ := h
  simp only [World.frozen?, hb]
  simp
  omega
theorem lt (h : Row w b t n f) : b < w.heap.size := by
  obtain ⟨c, lo, hi, hb, _, _⟩ := h
  exact (Array.getElem?_eq_some_iff.1 hb).1
theorem congr (h : Row w b t n f) (e : ∀ i, i < n → f i = g i) : Row w b t n g := by
  obtain ⟨c, lo, hi, hb, hn, hc, hz⟩ := h
  exact ⟨c, lo, hi, hb, hn, fun i hi => by rw [hc i hi, e i hi], hz⟩
theorem take (h : Row w b t n f) (hm : m ≤ n) : Row w b t m f := by
  obtain ⟨c, lo, hi, hb, hn, hc, hz⟩ := h
  exact ⟨c, lo, hi, hb, by omega, fun i hi => hc i (by omega), by omega⟩
theorem of_block (h : Row w b t n f) (e : w'.heap[b]? = w.heap[b]?) : Row w' b t n f := by
  obtain ⟨c, lo, hi, hb, r⟩ := h
  exact ⟨c, lo, hi, e.trans hb, r⟩
theorem set_ (h : Row w b t n f) (i : Nat) (v : Value) : Row (w.setCell ⟨b, i, none⟩ v) b t n (fun j => if j = i then v else f j) := by
  obtain ⟨c, lo, hi, hb, hn, hc, hz⟩ := h
  refine ⟨c.setIfInBounds i v, lo, hi, ?_, by simpa using hn, fun j hj => ?_, hz⟩
  · simp [World.setCell, Array.getElem?_modify, hb]
  · rw [Array.getElem?_setIfInBounds]
    by_cases e : j = i
    · subst e
      simp
      omega
    · rw [if_neg (fun h => e h.symm)]
      show c[j]? = some (if j = i then v else f j)
      rw [if_neg e]
      exact hc j hj
theorem other (h : Row w b t n f) {a : Addr} (ha : b ≠ a.block) (v : Value) : Row (w.setCell a v) b t n f := h.of_block (Below.heap_setCell w a v b ha)
theorem alloc (h : Row w b t n f) (o : Obj) : Row (w.alloc o) b t n f := h.of_block (Below.heap_alloc w o b h.lt)
theorem drew (h : Row w b t n f) : Row w.drew b t n f := h
theorem drewN (h : Row w b t n f) (k : Nat) : Row (w.drewN k) b t n f := h
theorem below {B : Nat} (h : Row w b t n f) (hb : Below B w w') (hB : b < B) : Row w' b t n f := h.of_block (hb.block b hB)
theorem grown {row : Option Nat} (h : Row w b t n f) (hg : w.grownBy w' row) (hr : some b ≠ row) : Row w' b t n f := h.of_block (hg.block b h.lt hr)
theorem ne_ {b' : Nat} {t' : TypeId} {n' : Nat} (h : Row w b t n f) (h' : Row w b' t' n' g) (hne : t ≠ t') : b ≠ b' := by
  rintro rfl
  obtain ⟨c, lo, hi, hb, _⟩ := h
  obtain ⟨c', lo', hi', hb', _⟩ := h'
  rw [hb] at hb'
  injection hb' with hb'
  injection hb' with _ ht
  exact hne ht
end Row
theorem Row.new (w : World) (c : Array Value) (t : TypeId) (f : Nat → Value) (hc : ∀ i, i < c.size → c[i]? = some (f i)) : Row (w.alloc (.cells c t)) w.heap.size t c.size f :=
  ⟨c, 0, 0, heap_alloc_new w _, Nat.le_refl _, hc, .inr (Nat.le_refl _)⟩
theorem Row.fresh {w : World} {c : Array Value} {t : TypeId} {n : Nat} {f : Nat → Value} (hn : c.size = n) (hc : ∀ i, i < n → c[i]? = some (f i)) : Row (w.alloc (.cells c t)) w.heap.size t n f := by
  subst hn
  exact Row.new w c t f hc
theorem all4 {p : Nat → Prop} (h0 : p 0) (h1 : p 1) (h2 : p 2) (h3 : p 3) : ∀ i, i < 4 → p i := by
  intro i hi
  match i, hi with
  | 0, _ => exact h0
  | 1, _ => exact h1
  | 2, _ => exact h2
  | 3, _ => exact h3
theorem Row.made (w : World) (z : Value) (n : Nat) (t : TypeId) : Row (w.alloc (.cells (madeCells #[z] n) t)) w.heap.size t n (fun _ => z) :=
  ⟨_, 0, 0, heap_alloc_new w _, by simp [size_madeCells], fun i hi => by simp [madeCells, hi, Nat.mod_one], .inr (Nat.le_refl _)⟩
/-- string(b), where b's cells are the bytes l -/
theorem run_string_of {P : Program} (w : World) (src dst e : TypeId) (b off cap n : Nat) (l : List (BitVec 8)) (hl : l.length = n) (hs : P.underlying src = some (.slice e)) (he : P.underlying e = some (.int .u8)) (hd : P.underlying dst = some .string)
    (hc : ∀ j, j < n → w.cell? ⟨b, off + j, none⟩ = some (U8 (gb l j))) :
    (convert src dst (.slice (some ⟨b, off, none⟩) n cap)).run P w = .ok (.string (str l)) w := by
  subst hl
  have h := run_convert_bytes_back (P := P) w src dst e ⟨b, off, none⟩ cap (l.map UInt8.ofBitVec) hs he hd (fun j hj => by
    have hj' : j < l.length := by simpa using hj
    rw [show (⟨b, off, none⟩ : Addr).add j = ⟨b, off + j, none⟩ from Addr.add_lit b off j, hc j hj']
    simp only [U8, gb, List.getD_eq_getElem?_getD, List.getElem?_eq_getElem hj', Option.getD_some, List.getElem_map]
    rfl)
  rw [List.length_map] at h
  exact h
end Go.Proofs.YtdmbfimjbmfbaaaGreatDoor
namespace Go.Proofs.YtdmbfimjbmfbaaaGreatDoor
open Go.RowKit
set_option linter.unusedSimpArgs false
set_option linter.unusedVariables false
section
variable {P : Program} {ops : Array Oper} {md : Region.Mode} {C : World → Prop}
def anyTail (P : Program) (md : Region.Mode) (ops : Array Oper) (C : World → Prop) (n : Nat) (L : Array Bool → Act → Prop) : Nat → Array Bool → Act → Prop
  | 0, listed, a => L listed a
  | f + 1, listed, a =>
    Region.ready md ops listed ≠ [] ∧ ∀ i ∈ Region.ready md ops listed, i < n ∧ qOp P ops C i (anyTail P md ops C n L f (listed.setIfInBounds i true)) a
theorem wpAny_of_tail {n g : Nat} {L : Array Bool → Act → Prop} {Q' : Exit → Act → World → Prop} (hL : ∀ listed a w, C w → L listed a → wpAny P md ops Q' g listed a w) :
    ∀ (f : Nat) (listed : Array Bool) (a : Act) (w : World), C w → anyTail P md ops C n L f listed a → wpAny P md ops Q' (f + g) listed a w
  | 0, listed, a, w, hw, h => by rw [Nat.zero_add]; exact hL _ _ _ hw h
  | f + 1, listed, a, w, hw, h => by
    rw [show f + 1 + g = (f + g) + 1 by omega]
    exact ⟨fun h0 => absurd h0 h.1, fun i hi => wpOp_of_qOp hw (fun a' w' hw' h' => wpAny_of_tail hL f _ a' w' hw' h') (h.2 i hi).2⟩
theorem anyTail_first {n i : Nat} {oi : Oper} {v : Value} {L : Array Bool → Act → Prop} (hi : ops[i]? = some oi) (hsel : ∀ (j : Nat) (o : Oper) cs b, ops[j]? = some o → o.op ≠ .select cs b)
    (hs : Region.sinkB md ops n = true) (hc : Region.chainB md ops n = true) (hn : n < ops.size) (hin : i < n)
    (hdone : ∀ listed a, L listed a → ∀ j ∈ Region.ready md ops listed, n ≤ j) :
    ∀ (f : Nat) (listed : Array Bool) (a : Act), HeadInv md ops n listed →
      (∀ j oj, ops[j]? = some oj → j ≠ i → listed.getD j true = false → (∀ e ∈ oj.after, Region.binds md e = true → e.on ≠ i) → oi.apart ops oj = true) →
      i ∈ Region.ready md ops listed → YieldsIn P ops C oi v a →
      anyTail P md ops C n L f (listed.setIfInBounds i true) (a.put oi.dst v) → anyTail P md ops C n L (f + 1) listed a := by
  intro f
  induction f with
  | zero =>
    intro listed a inv _ hr hy H
    have hun := (mem_ready.1 hr).1
    refine ⟨fun h => (by rw [h] at hr; cases hr), fun j hj => ?_⟩
    have hjn : j < n := by
      rcases Nat.lt_or_ge j n with h | h
      · exact h
      · exact absurd hj (tail_waits hs hc hn inv _ i rfl hin hun j h)
    refine ⟨hjn, ?_⟩
    by_cases hji : j = i
    · subst hji; exact hy.qOp hi H
    · have := hdone _ _ H j (ready_mono hj hji)
      omega
  | succ f ih =>
    intro listed a inv hfree hr hy H
    have hun := (mem_ready.1 hr).1
    refine ⟨fun h => (by rw [h] at hr; cases hr), fun j hj => ?_⟩
    have hjn : j < n := by
      rcases Nat.lt_or_ge j n with h | h
      · exact h
      · exact absurd hj (tail_waits hs hc hn inv _ i rfl hin hun j h)
    refine ⟨hjn, ?_⟩
    by_cases hji : j = i
    · subst hji; exact hy.qOp hi H
    · have h1 := (H.2 j (ready_mono hj hji)).2
      obtain ⟨hjun, oj, hoj, hall⟩ := mem_ready.1 hj
      have hnot : ∀ e ∈ oj.after, Region.binds md e = true → e.on ≠ i := fun e he hb heq => by
        have h1 := hall e he hb
        rw [heq, getD_both hun] at h1
        cases h1
      have h2 := qOp_put hoj (hfree j oj hoj hji hjun hnot) (fun cs b => hsel i oi cs b hi) (fun cs b => hsel j oj cs b hoj) hy h1
      have hfree' : ∀ k ok, ops[k]? = some ok → k ≠ i → (listed.setIfInBounds j true).getD k true = false →
          (∀ e ∈ ok.after, Region.binds md e = true → e.on ≠ i) → oi.apart ops ok = true := fun k ok hk hki hun hno => by
        refine hfree k ok hk hki ?_ hno
        by_cases hjk : j = k
        · subst hjk; exact hjun
        · rw [getD_set_ne true hjk] at hun; exact hun
      refine qOp_mono (fun a' h3 => ih (listed.setIfInBounds j true) a' (inv.set hj hjn) hfree' (ready_mono hr (Ne.symm hji)) h3.1 ?_) h2
      rw [Array.setIfInBounds_comm _ _ hji]
      exact h3.2
theorem anyTail_lex {n g : Nat} {Lq : Act → Prop} (hsel : Region.noSelect ops = true) (hs : Region.sinkB md ops n = true) (hc : Region.chainB md ops n = true) (hn : n < ops.size) :
    ∀ (l : List Oper) (k : Nat) (listed : Array Bool) (a : Act), (∀ j, j < l.length → l[j]? = ops[k + j]?) → k + l.length = n → HeadInv md ops n listed →
    Region.lexHead md ops g l.length k listed = true → wpQuiet P ops C Lq l a →
    anyTail P md ops C n (fun listed' a' => Region.seqB md ops g n listed' = true ∧ Lq a') l.length listed a
  | [], k, listed, a, _, hk, _, hB, h => by
    have : k = n := by simpa using hk
    subst this
    exact ⟨by simpa [Region.lexHead] using hB, h⟩
  | o :: l, k, listed, a, hl, hk, inv, hB, h => by
    have h0 : ops[k]? = some o := by simpa using (hl 0 (by simp)).symm
    simp only [List.length_cons, Region.lexHead, Bool.and_eq_true] at hB
    obtain ⟨⟨hr, hf⟩, hB'⟩ := hB
    have hkn : k < n := by simp only [List.length_cons] at hk; omega
    have hr' : k ∈ Region.ready md ops listed := by simpa using hr
    have hst : qOp P ops C k (wpQuiet P ops C Lq l) a := by unfold qOp; simp only [h0]; exact h
    obtain ⟨v, hy, hK⟩ := yieldsIn_of_qOp h0 hst
    exact anyTail_first h0 (Region.noSelect_spec hsel) hs hc hn hkn (fun listed' a' hL => seqB_ready hL.1) l.length listed a inv (Region.free_spec h0 hf) hr' hy
      (anyTail_lex hsel hs hc hn l (k + 1) _ _ (fun j hj => by have := hl (j + 1) (by simp; omega); simpa [Nat.add_assoc, Nat.add_comm 1 j] using this) (by simp only [List.length_cons] at hk; omega) (inv.set hr' hkn) hB' hK)
/-- n quiet operations, then a tail in one order: the tail in every world of the class. -/
theorem wp_region_tail {id : Nat} {Q : Exit → Act → World → Prop} {a : Act} {w : World} {l : List Oper} (C : World → Prop) (n : Nat) (hm : P.follows .mixedOrders = true) (hB : Region.lexTailB .any l.toArray n = true)
    (hC : C w.drew) (h : wpQuiet P l.toArray C (fun a' => ∀ w', C w' → wpList P l.toArray Q (l.drop n) a' w') (l.take n) a) : (Code.region id l.toArray true).wp P Q a w := by
  simp only [Region.lexTailB, Bool.and_eq_true, decide_eq_true_eq] at hB
  obtain ⟨⟨⟨⟨hsel, hn⟩, hs⟩, hc⟩, hlex⟩ := hB
  have hn' : n < l.length := by simpa using hn
  have htl : (l.take n).length = n := by simp; omega
  have hdl : (l.drop n).length = l.toArray.size - n := by simp
  have inv0 : HeadInv .any l.toArray n (Array.replicate l.toArray.size false) :=
    ⟨by simp, fun j oj _ hl => (by rw [getD_replicate_false] at hl; cases hl), fun t _ ht => getD_in (by simpa using ht) (getD_replicate_false _ _)⟩
  have H := anyTail_lex (md := .any) (g := l.toArray.size - n) hsel hs hc hn (l.take n) 0 _ a (fun j hj => by
    have hj' : j < n := by rw [htl] at hj; exact hj
    simp [hj']) (by simpa using htl) inv0 (by rw [htl]; exact hlex) h
  refine wp_region_any hm ?_
  have := wpAny_of_tail (Q' := Q) (g := l.toArray.size - n) (fun listed a' w' hw' hL => by
    have := wpAny_of_seq (md := .any) (Q' := Q) (l.drop n) n listed a' w' (fun j => by simp [List.getElem?_drop]) (by rw [hdl]; exact hL.1) (hL.2 w' hw')
    rwa [hdl] at this) _ _ _ _ hC H
  rw [htl, show n + (l.toArray.size - n) = l.toArray.size by omega] at this
  exact this
end
/-- the same at the class 'this world after some draws' -/
theorem wp_region_tailD {P : Program} {id : Nat} {Q : Exit → Act → World → Prop} {a : Act} {w : World} {l : List Oper} (n : Nat) (hm : P.follows .mixedOrders = true) (hB : Region.lexTailB .any l.toArray n = true)
    (h : wpQuiet P l.toArray (fun w' => ∃ n, w' = w.drewN n) (fun a' => ∀ w', (∃ n, w' = w.drewN n) → wpList P l.toArray Q (l.drop n) a' w') (l.take n) a) : (Code.region id l.toArray true).wp P Q a w :=
  wp_region_tail _ n hm hB ⟨1, rfl⟩ h
/-! ### later worlds: all blocks below B as they were -/
structure Later (B : Nat) (w : World) where
  val : World
  ok : Below B w val
def laterC (B : Nat) (w : World) : World → Prop := fun w' => ∃ x : Later B w, w' = x.val
theorem laterC.mk {B : Nat} {w w' : World} (h : Below B w w') : laterC B w w' := ⟨⟨w', h⟩, rfl⟩
theorem Later.cell {B : Nat} {w : World} {p : Addr} {v : Value} (hp : p.block < B) (h : w.cell? p = some v) : ∀ x : Later B w, x.val.cell? p = some v := fun x => (x.ok.cell hp).trans h
theorem below_drewN {B : Nat} {a w : World} (h : Below B a w) (n : Nat) : Below B a (w.drewN n) := ⟨h.os, h.tape, h.output, h.size, h.block⟩
end Go.Proofs.YtdmbfimjbmfbaaaGreatDoor
