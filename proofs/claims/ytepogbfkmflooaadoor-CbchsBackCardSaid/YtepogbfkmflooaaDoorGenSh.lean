/-
  Steps of a walk, part 7: shorter words for the steps. No conditions.
-/
import Derived.Test.YtepogbfkmflooaaDoorLift
namespace Go.Proofs.YtepogbfkmflooaaDoor
open Go.RowKit
set_option linter.unusedSimpArgs false
set_option linter.unusedVariables false
theorem om {p : Prop} (h : p := by omega) : p := h
theorem kr {p : Prop} (h : p := by kernel_rfl) : p := h
theorem ro {p : Prop} (h : p := by first | rfl | omega) : p := h
theorem dv {p : Prop} (h : p := by first | with_reducible rfl | (with_reducible congr 1 <;> omega) | (with_reducible congr 2 <;> omega) | (with_reducible congr 3 <;> omega) | rfl) : p := h
theorem ng {α : Sort _} {c : Prop} [Decidable c] {a b d : α} (h : b = d) (hc : ¬ c := by omega) : (if c then a else b) = d := (if_neg hc).trans h
theorem pn {α : Sort _} {c : Prop} [Decidable c] {a b : α} (hc : c := by omega) : (if c then a else b) = a := if_pos hc
theorem pz {α : Sort _} {c : Prop} [Decidable c] {a b x : α} (hc : c := by omega) (h : a = x := by first | with_reducible rfl | (with_reducible congr 1 <;> omega) | (with_reducible congr 2 <;> omega) | (with_reducible congr 3 <;> omega) | rfl) : (if c then a else b) = x := (if_pos hc).trans h
section
variable {P : Program} {ops : Array Oper} {Q : Exit → Act → World → Prop} {w w' : World} {rest : List Oper} {n : Nat} {f : Nat → Value}
variable {ty : TypeId} {x y z : Operand} {v vx vy vz : Value} {t e : TypeId} {F G : Nat → Value}
theorem ei {k : Nat} {a : Int} (h : f k = .int .i64 a := by exact rfl) (ht : Nat.blt k n = true := by exact rfl) : Ev n f (.tmp k) (.int .i64 a) := Ev.t h ht
theorem es {k : Nat} {a : List (BitVec 8)} (h : f k = .string (str a) := by exact rfl) (ht : Nat.blt k n = true := by exact rfl) : Ev n f (.tmp k) (.string (str a)) := Ev.t h ht
theorem eb {k : Nat} {a : Bool} (h : f k = .bool a := by exact rfl) (ht : Nat.blt k n = true := by exact rfl) : Ev n f (.tmp k) (.bool a) := Ev.t h ht
theorem e8 {k : Nat} {a : BitVec 8} (h : f k = U8 a := by exact rfl) (ht : Nat.blt k n = true := by exact rfl) : Ev n f (.tmp k) (U8 a) := Ev.t h ht
theorem e3 {k : Nat} {a : BitVec 32} (h : f k = U32 a := by exact rfl) (ht : Nat.blt k n = true := by exact rfl) : Ev n f (.tmp k) (U32 a) := Ev.t h ht
theorem e6 {k : Nat} {a : BitVec 64} (h : f k = U64 a := by exact rfl) (ht : Nat.blt k n = true := by exact rfl) : Ev n f (.tmp k) (U64 a) := Ev.t h ht
theorem el {k : Nat} {a b c d : Nat} (h : f k = .slice (some ⟨a, b, none⟩) c d := by exact rfl) (ht : Nat.blt k n = true := by exact rfl) : Ev n f (.tmp k) (.slice (some ⟨a, b, none⟩) c d) := Ev.t h ht
theorem ea {k : Nat} {a : Nat} {b : Nat → Value} (h : f k = .agg (arr a b) := by exact rfl) (ht : Nat.blt k n = true := by exact rfl) : Ev n f (.tmp k) (.agg (arr a b)) := Ev.t h ht
theorem ex (v : Value) {k : Nat} (h : f k = v := by exact rfl) (ht : Nat.blt k n = true := by exact rfl) : Ev n f (.tmp k) v := Ev.t h ht
theorem ye {k i : Nat} {vs : Array Value} {v : Value} (h : f k = .tuple vs := by exact rfl) (hv : vs[i]? = some v := by exact rfl) (ht : Nat.blt k n = true := by exact rfl) : Yields P n f (.extract (.tmp k) i) ty w v := y_ext (Ev.t h ht) hv
theorem dt {p : Prop} [Decidable p] (h : p) : Value.bool (decide p) = .bool true := by rw [decide_eq_true h]
theorem df {p : Prop} [Decidable p] (h : ¬ p) : Value.bool (decide p) = .bool false := by rw [decide_eq_false h]
theorem wy {o : Oper} {j d : Nat} {b : Bool} (hg : o.guard = some (j, b)) (hj : (ops[j]?).bind (·.dst) = some d) (hv : Ev n f (.tmp d) (.bool b)) (hd : Nat.blt d n = true := by exact rfl) : Region.wanted o (yielded ops (fr n f).tmps) = true := want_yes hg hj hv hd
theorem wn {o : Oper} {j d : Nat} {b : Bool} (hg : o.guard = some (j, b)) (hj : (ops[j]?).bind (·.dst) = some d) (hv : Ev n f (.tmp d) (.bool (!b))) (hd : Nat.blt d n = true := by exact rfl) : Region.wanted o (yielded ops (fr n f).tmps) = false := want_no hg hj hv hd
theorem Row.nb {w : World} {b g t m : Nat} {F : Nat → Value} (r : Row w g t m F) (h : b = w.heap.size) : g ≠ b := by have := r.lt; omega
theorem gb_ {b i j : Nat} (h : i ≤ j) (e : b = j) : i ≤ b := by omega
theorem ti {a : Int} {x c : Value} (h : x = .int .i64 a := by exact rfl) (h2 : .int .i64 a = c := by first | with_reducible rfl | (with_reducible congr 1 <;> omega) | (with_reducible congr 2 <;> omega) | (with_reducible congr 3 <;> omega) | rfl) : x = c := h.trans h2
theorem t8 {a : BitVec 8} {x c : Value} (h : x = U8 a := by exact rfl) (h2 : U8 a = c := by first | with_reducible rfl | (with_reducible congr 1 <;> omega) | (with_reducible congr 2 <;> omega) | (with_reducible congr 3 <;> omega) | rfl) : x = c := h.trans h2
theorem t3 {a : BitVec 32} {x c : Value} (h : x = U32 a := by exact rfl) (h2 : U32 a = c := by first | with_reducible rfl | (with_reducible congr 1 <;> omega) | (with_reducible congr 2 <;> omega) | (with_reducible congr 3 <;> omega) | rfl) : x = c := h.trans h2
end
section
variable {P : Program} {ops : Array Oper} {Q : Exit → Act → World → Prop} {w w' : World} {n : Nat} {f : Nat → Value} {ty : TypeId} {S : World → Prop} {D : Nat → Bool} {k : Nat} {listed : Array Bool}
theorem dp (i : Nat) {op : Op} {ty : TypeId} {d : Nat} {p : String} {aft : Array Edge} {v : Value} (hi : ops[i]? = some ⟨some d, op, ty, p, aft, none⟩) (hy : ∀ w, Yields P n f op ty w v) (h : anyD P ops Q S D k (listed.setIfInBounds i true) (fr n (up f d v)) w) 
    (hs : Region.noSelect ops = true := by kernel_rfl) (hf : Region.free .any ops listed i = true := by kernel_rfl) (hr : (Region.ready .any ops listed).contains i = true := by kernel_rfl) (hD : closedB ops listed = true := by kernel_rfl) (hQ : ∀ c a w, Q (.panic c) (a.put (some d) v) w → Q (.panic c) a w := by exact fun _ _ _ h => h) :
    anyD P ops Q S D (k + 1) listed (fr n f) w := d_pure i hi hs hf hr hD hQ hy h
end
end Go.Proofs.YtepogbfkmflooaaDoor
