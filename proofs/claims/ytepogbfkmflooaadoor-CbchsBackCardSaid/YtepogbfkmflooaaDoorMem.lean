/-
  Strings as lists of bytes, and rows of cells. No conditions.
-/
import Derived.Test.YtepogbfkmflooaaDoorWords
namespace Go.Proofs.YtepogbfkmflooaaDoor
open Go.RowKit
set_option linter.unusedSimpArgs false
set_option linter.unusedVariables false

/-! ### strings -/
def byt (s : ByteArray) : List (BitVec 8) := s.data.toList.map UInt8.toBitVec
def str (l : List (BitVec 8)) : ByteArray := ⟨(l.map UInt8.ofBitVec).toArray⟩
theorem byt_str (l : List (BitVec 8)) : byt (str l) = l := by
  simp only [byt, str, List.map_map]
  have : (UInt8.toBitVec ∘ UInt8.ofBitVec) = (id : BitVec 8 → BitVec 8) := rfl
  rw [this, List.map_id]
theorem str_byt (s : ByteArray) : str (byt s) = s := by
  simp only [byt, str, List.map_map]
  have : (UInt8.ofBitVec ∘ UInt8.toBitVec) = (id : UInt8 → UInt8) := rfl
  rw [this, List.map_id]
theorem size_str (l : List (BitVec 8)) : (str l).size = l.length := by
  simp only [str, ByteArray.size, List.size_toArray, List.length_map]
theorem length_byt (s : ByteArray) : (byt s).length = s.size := by
  simp only [byt, List.length_map, ByteArray.size, Array.length_toList]
theorem byt_inj {a b : ByteArray} (h : byt a = byt b) : a = b := by rw [← str_byt a, h, str_byt]
theorem byt_append (a b : ByteArray) : byt (a ++ b) = byt a ++ byt b := by
  simp only [byt, ByteArray.data_append, Array.toList_append, List.map_append]
theorem str_append (a b : List (BitVec 8)) : str a ++ str b = str (a ++ b) := by
  apply byt_inj
  rw [byt_append, byt_str, byt_str, byt_str]
theorem byt_extract (s : ByteArray) (a b : Nat) : byt (s.extract a b) = ((byt s).drop a).take (b - a) := by
  have e : s = ByteArray.mk s.data.toList.toArray := rfl
  conv => lhs; rw [e, ByteArray.extract_mk]
  simp only [byt, List.map_take, List.map_drop]
theorem toList_beq (a b : ByteArray) : (a.toList == b.toList) = (byt a == byt b) := by
  rw [Bool.eq_iff_iff, beq_iff_eq, beq_iff_eq]
  constructor
  · intro h
    have : a = b := by
      rw [ByteArray.toList_eq, ByteArray.toList_eq] at h
      rw [← str_byt a, ← str_byt b]
      simp only [byt, h]
    rw [this]
  · intro h
    rw [byt_inj h]
/-- byte i: simp does not look behind the name -/
def gb (l : List (BitVec 8)) (i : Nat) : BitVec 8 := l.getD i 0#8
theorem getD_byt (s : ByteArray) (i : Nat) (h : i < s.size) : (s[i]'h).toBitVec = (byt s).getD i 0 := by
  have h' : i < s.data.toList.length := h
  simp only [byt, List.getD_eq_getElem?_getD, List.getElem?_map, List.getElem?_eq_getElem h', Option.map_some, Option.getD_some]
  rfl
/-- a string's byte: simp does not look behind the name -/
def strAt (t : TypeId) (s : ByteArray) (k : IntKind) (i : Int) : Sem Value := Instr.index t (.string s) (.int k i)
theorem index_strAt (t : TypeId) (s : ByteArray) (k : IntKind) (i : Int) : Instr.index t (.string s) (.int k i) = strAt t s k i := rfl
theorem run_strAt (P : Program) (w : World) (t : TypeId) (s : ByteArray) (k : IntKind) (i : Int) (h : P.underlying t = some .string) :
    (strAt t s k i).run P w =
      if 0 ≤ i ∧ i < s.size then .ok (U8 (gb (byt s) i.toNat)) w
      else (boundsPanic k i s.size .index).run P w := by
  unfold strAt
  rw [run_index_string w t s k i h]
  by_cases hi : 0 ≤ i ∧ i < s.size
  · rw [dif_pos hi, if_pos hi, show gb (byt s) i.toNat = (s[i.toNat]'(by omega)).toBitVec from (getD_byt s i.toNat (by omega)).symm]
    rfl
  · rw [dif_neg hi, if_neg hi]
attribute [go_sem] toList_beq byt_str size_str length_byt byt_append byt_extract index_strAt run_strAt

/-! ### rows of cells -/
/-- Block b is a row of cells of type t; its first n cells hold f, none of them frozen. -/
def Row (w : World) (b : Nat) (t : TypeId) (n : Nat) (f : Nat → Value) : Prop :=
  ∃ c lo hi, w.heap[b]? = some (.cells c t (lo, hi)) ∧ n ≤ c.size ∧ (∀ i, i < n → c[i]? = some (f i)) ∧ (n ≤ lo ∨ hi ≤ lo)
namespace Row
variable {w w' : World} {b : Nat} {t : TypeId} {n m : Nat} {f g : Nat → Value}
theorem cell (h : Row w b t n f) {i : Nat} (hi : i < n) : w.cell? ⟨b, i, none⟩ = some (f i) := by
  obtain ⟨c, lo, hi', hb, _, hc, _⟩ := h
  simp [World.cell?, hb, hc i hi]
theorem frozen (h : Row w b t n f) {i : Nat} (hi : i < n) : w.frozen? ⟨b, i, none⟩ = false := by
  obtain ⟨c, lo, hi', hb, _, hc, hz⟩ := h
  simp only [World.frozen?, hb]
  simp
  omega
theorem lt (h : Row w b t n f) : b < w.heap.size := by
  obtain ⟨c, lo, hi, hb, _, _⟩ := h
  exact (Array.getElem?_eq_some_iff.1 hb).1
theorem congr (h : Row w b t n f) (e : ∀ i, i < n → f i = g i) : Row w b t n g := by
  obtain ⟨c, lo, hi, hb, hn, hc, hz⟩ := h
  exact ⟨c, lo, hi, hb, hn, fun i hi => by rw [hc i hi, e i hi], hz⟩
theorem take (h : Row w b t n f) (hm : m ≤ n) : Row w b t m f := by
  obtain ⟨c, lo, hi, hb, hn, hc, hz⟩ := h
  exact ⟨c, lo, hi, hb, by omega, fun i hi => hc i (by omega), by omega⟩
theorem of_block (h : Row w b t n f) (e : w'.heap[b]? = w.heap[b]?) : Row w' b t n f := by
  obtain ⟨c, lo, hi, hb, r⟩ := h
  exact ⟨c, lo, hi, e.trans hb, r⟩
theorem set_ (h : Row w b t n f) (i : Nat) (v : Value) : Row (w.setCell ⟨b, i, none⟩ v) b t n (fun j => if j = i then v else f j) := by
  obtain ⟨c, lo, hi, hb, hn, hc, hz⟩ := h
  refine ⟨c.setIfInBounds i v, lo, hi, ?_, by simpa using hn, fun j hj => ?_, hz⟩
  · simp [World.setCell, Array.getElem?_modify, hb]
  · rw [Array.getElem?_setIfInBounds]
    by_cases e : j = i
    · subst e
      simp
      omega
    · rw [if_neg (fun h => e h.symm)]
      show c[j]? = some (if j = i then v else f j)
      rw [if_neg e]
      exact hc j hj
theorem other (h : Row w b t n f) {a : Addr} (ha : b ≠ a.block) (v : Value) : Row (w.setCell a v) b t n f := h.of_block (Below.heap_setCell w a v b ha)
theorem alloc (h : Row w b t n f) (o : Obj) : Row (w.alloc o) b t n f := h.of_block (Below.heap_alloc w o b h.lt)
theorem drew (h : Row w b t n f) : Row w.drew b t n f := h
theorem drewN (h : Row w b t n f) (k : Nat) : Row (w.drewN k) b t n f := h
theorem below {B : Nat} (h : Row w b t n f) (hb : Below B w w') (hB : b < B) : Row w' b t n f := h.of_block (hb.block b hB)
theorem grown {row : Option Nat} (h : Row w b t n f) (hg : w.grownBy w' row) (hr : some b ≠ row) : Row w' b t n f := h.of_block (hg.block b h.lt hr)
theorem ne_ {b' : Nat} {t' : TypeId} {n' : Nat} (h : Row w b t n f) (h' : Row w b' t' n' g) (hne : t ≠ t') : b ≠ b' := by
  rintro rfl
  obtain ⟨c, lo, hi, hb, _⟩ := h
  obtain ⟨c', lo', hi', hb', _⟩ := h'
  rw [hb] at hb'
  injection hb' with hb'
  injection hb' with _ ht
  exact hne ht
end Row
theorem Row.new (w : World) (c : Array Value) (t : TypeId) (f : Nat → Value) (hc : ∀ i, i < c.size → c[i]? = some (f i)) : Row (w.alloc (.cells c t)) w.heap.size t c.size f :=
  ⟨c, 0, 0, heap_alloc_new w _, Nat.le_refl _, hc, .inr (Nat.le_refl _)⟩
theorem Row.fresh {w : World} {c : Array Value} {t : TypeId} {n : Nat} {f : Nat → Value} (hn : c.size = n) (hc : ∀ i, i < n → c[i]? = some (f i)) : Row (w.alloc (.cells c t)) w.heap.size t n f := by
  subst hn
  exact Row.new w c t f hc
theorem all4 {p : Nat → Prop} (h0 : p 0) (h1 : p 1) (h2 : p 2) (h3 : p 3) : ∀ i, i < 4 → p i := by
  intro i hi
  match i, hi with
  | 0, _ => exact h0
  | 1, _ => exact h1
  | 2, _ => exact h2
  | 3, _ => exact h3
theorem Row.made (w : World) (z : Value) (n : Nat) (t : TypeId) : Row (w.alloc (.cells (madeCells #[z] n) t)) w.heap.size t n (fun _ => z) :=
  ⟨_, 0, 0, heap_alloc_new w _, by simp [size_madeCells], fun i hi => by simp [madeCells, hi, Nat.mod_one], .inr (Nat.le_refl _)⟩
/-- string(b), where b's cells are the bytes l -/
theorem run_string_of {P : Program} (w : World) (src dst e : TypeId) (b off cap n : Nat) (l : List (BitVec 8)) (hl : l.length = n) (hs : P.underlying src = some (.slice e)) (he : P.underlying e = some (.int .u8)) (hd : P.underlying dst = some .string)
    (hc : ∀ j, j < n → w.cell? ⟨b, off + j, none⟩ = some (U8 (gb l j))) :
    (convert src dst (.slice (some ⟨b, off, none⟩) n cap)).run P w = .ok (.string (str l)) w := by
  subst hl
  have h := run_convert_bytes_back (P := P) w src dst e ⟨b, off, none⟩ cap (l.map UInt8.ofBitVec) hs he hd (fun j hj => by
    have hj' : j < l.length := by simpa using hj
    rw [show (⟨b, off, none⟩ : Addr).add j = ⟨b, off + j, none⟩ from Addr.add_lit b off j, hc j hj']
    simp only [U8, gb, List.getD_eq_getElem?_getD, List.getElem?_eq_getElem hj', Option.getD_some, List.getElem_map]
    rfl)
  rw [List.length_map] at h
  exact h
end Go.Proofs.YtepogbfkmflooaaDoor
