/-
  Steps of a walk, part 7: shorter words for the steps. No conditions. Digests, plainly: what the reference's own way of reckoning comes to. No conditions.
-/
import Derived.Test.YtepogbfkmflooaaGreatDoorAesOnce
import Derived.Test.YtepogbfkmflooaaGreatDoorShaTab
namespace Go.Proofs.YtepogbfkmflooaaGreatDoor
open Go.RowKit
set_option linter.unusedSimpArgs false
set_option linter.unusedVariables false
theorem om {p : Prop} (h : p := by omega) : p := h
theorem kr {p : Prop} (h : p := by kernel_rfl) : p := h
theorem ro {p : Prop} (h : p := by first | rfl | omega) : p := h
theorem dv {p : Prop} (h : p := by first | with_reducible rfl | (with_reducible congr 1 <;> omega) | (with_reducible congr 2 <;> omega) | (with_reducible congr 3 <;> omega) | rfl) : p := h
theorem ng {α : Sort _} {c : Prop} [Decidable c] {a b d : α} (h : b = d) (hc : ¬ c := by omega) : (if c then a else b) = d := (if_neg hc).trans h
theorem pn {α : Sort _} {c : Prop} [Decidable c] {a b : α} (hc : c := by omega) : (if c then a else b) = a := if_pos hc
theorem pz {α : Sort _} {c : Prop} [Decidable c] {a b x : α} (hc : c := by omega) (h : a = x := by first | with_reducible rfl | (with_reducible congr 1 <;> omega) | (with_reducible congr 2 <;> omega) | (with_reducible congr 3 <;> omega) | rfl) : (if c then a else b) = x := (if_pos hc).trans h
section
variable {P : Program} {ops : Array Oper} {Q : Exit → Act → World → Prop} {w w' : World} {rest : List Oper} {n : Nat} {f : Nat → Value}
variable {ty : TypeId} {x y z : Operand} {v vx vy vz : Value} {t e : TypeId} {F G : Nat → Value}
theorem ei {k : Nat} {a : Int} (h : f k = .int .i64 a := by exact rfl) (ht : Nat.blt k n = true := by exact rfl) : Ev n f (.tmp k) (.int .i64 a) := Ev.t h ht
theorem es {k : Nat} {a : List (BitVec 8)} (h : f k = .string (str a) := by exact rfl) (ht : Nat.blt k n = true := by exact rfl) : Ev n f (.tmp k) (.string (str a)) := Ev.t h ht
theorem eb {k : Nat} {a : Bool} (h : f k = .bool a := by exact rfl) (ht : Nat.blt k n = true := by exact rfl) : Ev n f (.tmp k) (.bool a) := Ev.t h ht
theorem e8 {k : Nat} {a : BitVec 8} (h : f k = U8 a := by exact rfl) (ht : Nat.blt k n = true := by exact rfl) : Ev n f (.tmp k) (U8 a) := Ev.t h ht
theorem e3 {k : Nat} {a : BitVec 32} (h : f k = U32 a := by exact rfl) (ht : Nat.blt k n = true := by exact rfl) : Ev n f (.tmp k) (U32 a) := Ev.t h ht
theorem e6 {k : Nat} {a : BitVec 64} (h : f k = U64 a := by exact rfl) (ht : Nat.blt k n = true := by exact rfl) : Ev n f (.tmp k) (U64 a) := Ev.t h ht
theorem el {k : Nat} {a b c d : Nat} (h : f k = .slice (some ⟨a, b, none⟩) c d := by exact rfl) (ht : Nat.blt k n = true := by exact rfl) : Ev n f (.tmp k) (.slice (some ⟨a, b, none⟩) c d) := Ev.t h ht
theorem ea {k : Nat} {a : Nat} {b : Nat → Value} (h : f k = .agg (arr a b) := by exact rfl) (ht : Nat.blt k n = true := by exact rfl) : Ev n f (.tmp k) (.agg (arr a b)) := Ev.t h ht
theorem ex (v : Value) {k : Nat} (h : f k = v := by exact rfl) (ht : Nat.blt k n = true := by exact rfl) : Ev n f (.tmp k) v := Ev.t h ht
theorem ye {k i : Nat} {vs : Array Value} {v : Value} (h : f k = .tuple vs := by exact rfl) (hv : vs[i]? = some v := by exact rfl) (ht : Nat.blt k n = true := by exact rfl) : Yields P n f (.extract (.tmp k) i) ty w v := y_ext (Ev.t h ht) hv
theorem dt {p : Prop} [Decidable p] (h : p) : Value.bool (decide p) = .bool true := by rw [decide_eq_true h]
theorem df {p : Prop} [Decidable p] (h : ¬ p) : Value.bool (decide p) = .bool false := by rw [decide_eq_false h]
theorem wy {o : Oper} {j d : Nat} {b : Bool} (hg : o.guard = some (j, b)) (hj : (ops[j]?).bind (·.dst) = some d) (hv : Ev n f (.tmp d) (.bool b)) (hd : Nat.blt d n = true := by exact rfl) : Region.wanted o (yielded ops (fr n f).tmps) = true := want_yes hg hj hv hd
theorem wn {o : Oper} {j d : Nat} {b : Bool} (hg : o.guard = some (j, b)) (hj : (ops[j]?).bind (·.dst) = some d) (hv : Ev n f (.tmp d) (.bool (!b))) (hd : Nat.blt d n = true := by exact rfl) : Region.wanted o (yielded ops (fr n f).tmps) = false := want_no hg hj hv hd
theorem wu {o : Oper} {j d : Nat} {b : Bool} (hg : o.guard = some (j, b)) (hj : (ops[j]?).bind (·.dst) = some d) (hv : Ev n f (.tmp d) undef) (hd : Nat.blt d n = true := by exact rfl) : Region.wanted o (yielded ops (fr n f).tmps) = false := want_un hg hj hv hd
theorem Row.nb {w : World} {b g t m : Nat} {F : Nat → Value} (r : Row w g t m F) (h : b = w.heap.size) : g ≠ b := by have := r.lt; omega
theorem gb_ {b i j : Nat} (h : i ≤ j) (e : b = j) : i ≤ b := by omega
theorem ti {a : Int} {x c : Value} (h : x = .int .i64 a := by exact rfl) (h2 : .int .i64 a = c := by first | with_reducible rfl | (with_reducible congr 1 <;> omega) | (with_reducible congr 2 <;> omega) | (with_reducible congr 3 <;> omega) | rfl) : x = c := h.trans h2
theorem t8 {a : BitVec 8} {x c : Value} (h : x = U8 a := by exact rfl) (h2 : U8 a = c := by first | with_reducible rfl | (with_reducible congr 1 <;> omega) | (with_reducible congr 2 <;> omega) | (with_reducible congr 3 <;> omega) | rfl) : x = c := h.trans h2
theorem t3 {a : BitVec 32} {x c : Value} (h : x = U32 a := by exact rfl) (h2 : U32 a = c := by first | with_reducible rfl | (with_reducible congr 1 <;> omega) | (with_reducible congr 2 <;> omega) | (with_reducible congr 3 <;> omega) | rfl) : x = c := h.trans h2
theorem t6 {a : BitVec 64} {x c : Value} (h : x = U64 a := by exact rfl) (h2 : U64 a = c := by first | with_reducible rfl | (with_reducible congr 1 <;> omega) | (with_reducible congr 2 <;> omega) | (with_reducible congr 3 <;> omega) | rfl) : x = c := h.trans h2
end
section
variable {P : Program} {ops : Array Oper} {Q : Exit → Act → World → Prop} {w w' : World} {n : Nat} {f : Nat → Value} {ty : TypeId} {S : World → Prop} {D : Nat → Bool} {k : Nat} {listed : Array Bool}
theorem dp (i : Nat) {op : Op} {ty : TypeId} {d : Nat} {p : String} {aft : Array Edge} {v : Value} (hi : ops[i]? = some ⟨some d, op, ty, p, aft, none⟩) (hy : ∀ w, Yields P n f op ty w v) (h : anyD P ops Q S D k (listed.setIfInBounds i true) (fr n (up f d v)) w) 
    (hs : Region.noSelect ops = true := by kernel_rfl) (hf : Region.free .any ops listed i = true := by kernel_rfl) (hr : (Region.ready .any ops listed).contains i = true := by kernel_rfl) (hD : closedB ops listed = true := by kernel_rfl) (hQ : ∀ c a w, Q (.panic c) (a.put (some d) v) w → Q (.panic c) a w := by exact fun _ _ _ h => h) :
    anyD P ops Q S D (k + 1) listed (fr n f) w := d_pure i hi hs hf hr hD hQ hy h
end
end Go.Proofs.YtepogbfkmflooaaGreatDoor
namespace Go.Proofs.YtepogbfkmflooaaGreatDoor
open Go.RowKit
set_option linter.unusedSimpArgs false
set_option linter.unusedVariables false
namespace Sha
theorem trn_lt (s : Bool) (i : Nat) : trn s i < 64 := by
  by_cases h : i < 12
  · revert h; revert i; cases s <;> decide +kernel
  · unfold trn; rw [List.getD_eq_getElem?_getD, List.getElem?_eq_none (by cases s <;> (show 12 ≤ i; omega))]; decide
theorem trn_le (i : Nat) : trn true i ≤ 32 := by
  by_cases h : i < 12
  · revert h; revert i; decide +kernel
  · unfold trn; rw [List.getD_eq_getElem?_getD, List.getElem?_eq_none (by show 12 ≤ i; omega)]; decide
theorem sub_ofNat (m n : Nat) (hn : n ≤ m) (hm : m ≤ 64) : (BitVec.ofNat 64 m - BitVec.ofNat 64 n).toNat = m - n := by
  rw [BitVec.toNat_sub, BitVec.toNat_ofNat, BitVec.toNat_ofNat]
  omega
theorem w_lo_k (s : Bool) (p : Nat → BitVec 8) (i k : Nat) (hi : i < 16) (hk : k = wb s) : w s p i = bw (fun j => p (wb s * i + j)) k := by
  subst hk
  rw [w_eq]; unfold wstep; rw [if_pos hi]
theorem w_hi (s : Bool) (p : Nat → BitVec 8) (i : Nat) (hi : ¬ i < 16) : w s p i = wd s (((th s (w s p (i - 2)) 3 true + w s p (i - 7)) + th s (w s p (i - 15)) 0 true) + w s p (i - 16)) := by
  conv => lhs; rw [w_eq]; unfold wstep; rw [if_neg hi]
theorem rnd_row (s : Bool) (p : Nat → BitVec 8) (h : Nat → BitVec 64) (i j : Nat) (hj : j < 8) (T U : BitVec 64) (hT : T = t1 s (K s i) (w s p i) (vs s p h i)) (hU : U = t2 s (vs s p h i)) :
    (if j < 1 then U64 (wd s (T + U)) else if j < 2 then U64 (vs s p h i 0) else if j < 3 then U64 (vs s p h i 1) else if j < 4 then U64 (vs s p h i 2)
     else if j < 5 then U64 (wd s (vs s p h i 3 + T)) else if j < 6 then U64 (vs s p h i 4) else if j < 7 then U64 (vs s p h i 5) else U64 (vs s p h i 6)) = U64 (vs s p h (i + 1) j) := by
  subst hT; subst hU
  have : j = 0 ∨ j = 1 ∨ j = 2 ∨ j = 3 ∨ j = 4 ∨ j = 5 ∨ j = 6 ∨ j = 7 := by omega
  rcases this with h | h | h | h | h | h | h | h <;> subst h <;> rfl
theorem gb_full_lo (kind : Nat) (m : List (BitVec 8)) (j : Nat) (h : j < m.length) : gb (full kind m) j = gb m j := by
  unfold full; rw [gb_append, if_pos h]
theorem gb_full_hi (kind : Nat) (m : List (BitVec 8)) (i : Nat) (h : i < padl kind m.length) : gb (full kind m) (m.length + i) = pb kind m.length i := by
  unfold full; rw [gb_append, if_neg (by omega), show m.length + i - m.length = i from by omega, gb_pad _ _ _ h]
theorem full_80 (kind : Nat) (m : List (BitVec 8)) (j : Nat) (hj : j = m.length) : 128#8 = gb (full kind m) j := by
  subst hj
  have := gb_full_hi kind m 0 (by have := (padl_le kind m.length).1; omega)
  rw [Nat.add_zero] at this
  rw [this]; rfl
theorem full_0 (kind : Nat) (m : List (BitVec 8)) (j : Nat) (h : m.length < j) (h2 : j < m.length + padl kind m.length - 8) : 0#8 = gb (full kind m) j := by
  have := gb_full_hi kind m (j - m.length) (by omega)
  rw [show m.length + (j - m.length) = j from by omega] at this
  rw [this]
  unfold pb
  rw [if_neg (by omega), if_pos (by omega)]
theorem full_n (kind : Nat) (m : List (BitVec 8)) (i j : Nat) (hi : i < 8) (hj : j = m.length + (padl kind m.length - 8 + i)) :
    ((BitVec.ofNat 64 m.length * 8#64) >>> (56 - 8 * i)).setWidth 8 = gb (full kind m) j := by
  subst hj
  have hp := (padl_le kind m.length).1
  rw [gb_full_hi kind m _ (by omega)]
  unfold pb
  rw [if_neg (by omega), if_neg (by omega), show padl kind m.length - 8 + i - (padl kind m.length - 8) = i from by omega, Oct.gb_be _ _ _ hi, show 8 * (8 - 1 - i) = 56 - 8 * i from by omega]
  congr 2
  apply BitVec.eq_of_toNat_eq
  rw [BitVec.toNat_mul, BitVec.toNat_ofNat, BitVec.toNat_ofNat, BitVec.toNat_ofNat]
  omega
/-! ### the cells of a rule -/
def rrow (c0 c1 c2 c3 c4 : Value) (bg : Nat → BitVec 64) (tr : Nat → Value) : Nat → Value := fun j =>
  if j < 1 then c0 else if j < 2 then c1 else if j < 3 then c2 else if j < 4 then c3 else if j < 5 then c4 else if j < 13 then U64 (bg (j - 5)) else tr (j - 13)
section
variable (c0 c1 c2 c3 c4 v : Value) (bg bg' : Nat → BitVec 64) (tr : Nat → Value)
theorem rr_a (h : ∀ i, i < 8 → bg i = bg' i) (j : Nat) : rrow c0 c1 c2 c3 c4 bg tr j = rrow c0 c1 c2 c3 c4 bg' tr j := by
  unfold rrow
  by_cases e : j < 13
  · by_cases e5 : j < 5
    · simp only [e5, if_true]
    · rw [if_neg (by omega), if_neg (by omega), if_neg (by omega), if_neg (by omega), if_neg e5, if_pos e, if_neg (by omega), if_neg (by omega), if_neg (by omega), if_neg (by omega), if_neg e5, if_pos e, h _ (by omega)]
  · simp only [e, if_false]
theorem rr_k (j : Nat) : (if j = 4 then v else rrow c0 c1 c2 c3 c4 bg tr j) = rrow c0 c1 c2 c3 v bg tr j := by
  by_cases e : j = 4
  · subst e; rfl
  · rw [if_neg e]
    unfold rrow
    by_cases e4 : j < 4
    · simp only [e4, if_true]
    · by_cases e5 : j < 5
      · omega
      · simp only [e5, if_false]
theorem rr_g (i : Nat) (x : BitVec 64) (hi : i < 8) (h : ∀ k, k < 8 → (if k = i then x else bg k) = bg' k) (j : Nat) : (if j = 5 + i then U64 x else rrow c0 c1 c2 c3 c4 bg tr j) = rrow c0 c1 c2 c3 c4 bg' tr j := by
  by_cases e : j = 5 + i
  · subst e
    rw [if_pos rfl]
    unfold rrow
    rw [if_neg (by omega), if_neg (by omega), if_neg (by omega), if_neg (by omega), if_neg (by omega), if_pos (by omega), show 5 + i - 5 = i from by omega, ← h i hi, if_pos rfl]
  · rw [if_neg e]
    unfold rrow
    by_cases e13 : j < 13
    · by_cases e5 : j < 5
      · simp only [e5, if_true]
      · rw [if_neg (by omega), if_neg (by omega), if_neg (by omega), if_neg (by omega), if_neg e5, if_pos e13, if_neg (by omega), if_neg (by omega), if_neg (by omega), if_neg (by omega), if_neg e5, if_pos e13, ← h _ (by omega), if_neg (by omega)]
    · simp only [e13, if_false]
theorem rr_b (h : ∀ i, i < 8 → bg i = bg' i) (j : Nat) : (if j = 4 then v else rrow c0 c1 c2 c3 c4 bg tr j) = rrow c0 c1 c2 c3 v bg' tr j := (rr_k c0 c1 c2 c3 c4 v bg tr j).trans (rr_a c0 c1 c2 c3 v bg bg' tr h j)
theorem rr_d (i : Nat) (x : BitVec 64) (hi : i < 8) (h : ∀ k, k < 8 → (if k = i then x else bg k) = bg' k) (j : Nat) : (if j = 5 + i then U64 x else if j = 4 then v else rrow c0 c1 c2 c3 c4 bg tr j) = rrow c0 c1 c2 c3 v bg' tr j := by
  rw [rr_k]; exact rr_g c0 c1 c2 c3 v bg bg' tr i x hi h j
end
end Sha
end Go.Proofs.YtepogbfkmflooaaGreatDoor
