/-
  AES: behind the Once all is ready, whether it was or not. Conditions as each says. Steps of a walk, part 7: shorter words for the steps. No conditions.
-/
import Derived.Test.YtepogbfkmflooaaDoorAesOnce
import Derived.Test.YtepogbfkmflooaaDoorAesPrep
import Derived.Test.YtepogbfkmflooaaDoorAesNew
namespace Go.Proofs.YtepogbfkmflooaaDoor
open Go.RowKit
set_option linter.unusedSimpArgs false
set_option linter.unusedVariables false
theorem cip_start (L g i : Nat) (h : i < 517) : (if i = 258 then .int .i32 1 else ciph Aes.bk L g none i) = cipP L g (Aes.bt 0) (.slice none 0 0) i := by
  have hz : ∀ j, j < 256 → U8 (gb (Aes.bt 0) j) = .int .u8 0 := fun j hj => by
    rw [show gb (Aes.bt 0) j = 0#8 from Aes.gb_zeros j hj]; rfl
  rcases (by omega : i < 256 ∨ i = 256 ∨ i = 257 ∨ i = 258 ∨ i = 259 ∨ i = 516 ∨ (260 ≤ i ∧ i < 516)) with e | e | e | e | e | e | e
  · simp only [ciph, cipP, if_pos e, show ¬ i = 258 by omega, show ¬ i = 257 by omega, if_false]
  · subst e; rfl
  · subst e; rfl
  · subst e; rfl
  · subst e; rfl
  · subst e; rfl
  · simp only [ciph, cipP, show ¬ i = 256 by omega, show ¬ i = 257 by omega, show ¬ i = 258 by omega, show ¬ i = 259 by omega, show ¬ i < 256 by omega, e.2, if_false, if_true]
    rw [hz (i - 260) (by omega)]
    rfl
theorem cip_end (L g u i : Nat) (h : i < 517) : (if i = 258 then .int .i32 0 else if i = 257 then .int .u32 1 else cipP L g (Aes.bt 256) (.slice (some ⟨u, 0, none⟩) L L) i) = ciph Aes.bk L g (some u) i := by
  rcases (by omega : i < 256 ∨ i = 256 ∨ i = 257 ∨ i = 258 ∨ i = 259 ∨ i = 516 ∨ (260 ≤ i ∧ i < 516)) with e | e | e | e | e | e | e
  · simp only [ciph, cipP, if_pos e, show ¬ i = 258 by omega, show ¬ i = 257 by omega, if_false]
  · subst e; rfl
  · subst e; rfl
  · subst e; rfl
  · subst e; rfl
  · subst e; rfl
  · simp only [ciph, cipP, show ¬ i = 256 by omega, show ¬ i = 257 by omega, show ¬ i = 258 by omega, show ¬ i = 259 by omega, show ¬ i < 256 by omega, e.2, if_false, if_true]
    rw [Aes.gb_bt (i - 260) (by omega)]
    rfl
def Ready (w : World) (b : Nat) (W : List (BitVec 32)) (g u : Nat) : Prop :=
  u ≠ g ∧ Row w b 112 517 (ciph Aes.bk W.length g (some u)) ∧ Row w g 102 W.length (fun j => U32 (Aes.gw W j)) ∧ Row w u 102 W.length (fun j => U32 (Aes.gw (Aes.undo W) j))
theorem Ready.ciph {w : World} {b g u : Nat} {W : List (BitVec 32)} (h : Ready w b W g u) : CiphAt Aes.bk Aes.undo w b W :=
  ⟨g, some u, h.2.1, h.2.2.1, fun u' hu => by cases hu; exact ⟨h.1, h.2.2.2⟩⟩
theorem Ready.below {w w' : World} {b g u : Nat} {W : List (BitVec 32)} (h : Ready w b W g u) (hb : Below w.heap.size w w') : Ready w' b W g u :=
  ⟨h.1, h.2.1.below hb h.2.1.lt, h.2.2.1.below hb h.2.2.1.lt, h.2.2.2.below hb h.2.2.2.lt⟩
theorem do_c (B b R : Nat) (W : List (BitVec 32)) (w : World) (hL : W.length = 4 * (R + 1)) (hR1 : 1 ≤ R) (hR2 : R ≤ 20) (hB : B ≤ b) (h : CiphAt Aes.bk Aes.undo w b W) :
    Calls Tryd.prog 73 #[.pointer (some ⟨b, 257, none⟩), .func (.func 74) #[.pointer (some ⟨b, 0, none⟩)] #[]] w fun e w' => e = .returned (.tuple #[]) ∧
      w.grownBy w' (some b) ∧ ∃ g u, Ready w' b W g u := by
  obtain ⟨g, D, h1, h2, h3⟩ := h
  cases D with
  | some u =>
    refine (once_done b _ w (h1.cell (i := 257) (by omega))).mono ?_
    rintro e w' ⟨rfl, rfl⟩
    exact ⟨rfl, gr_refl _ _, g, u, (h3 u rfl).1, h1, h2, (h3 u rfl).2⟩
  | none =>
    have hbg : b ≠ g := h1.ne_ h2 (by decide)
    have hlt := h1.lt
    have r1 := (h1.set_ 258 (.int .i32 1)).congr (g := cipP W.length g (Aes.bt 0) (.slice none 0 0)) (fun i hi => cip_start _ _ _ hi)
    have r2 := h2.other (a := ⟨b, 258, none⟩) (fun h => hbg h.symm) (.int .i32 1)
    have hp := prepare_c B b g W.length R W (w.setCell ⟨b, 258, none⟩ (.int .i32 1)) rfl hL hR1 hR2 hB r1 r2
    refine (once_first b _ w (h1.cell (i := 257) (by omega)) (h1.cell (i := 258) (by omega)) (h1.frozen (i := 258) (by omega)) hp ?_).mono ?_
    · rintro w' ⟨a1, a2, a3, a4⟩
      exact ⟨a1.cell (i := 257) (by omega), a1.cell (i := 258) (by omega), a1.frozen (by omega), a1.frozen (by omega)⟩
    · rintro e w'' ⟨rfl, w', ⟨a1, a2, a3, a4⟩, rfl⟩
      have hs : (w.setCell ⟨b, 258, none⟩ (.int .i32 1)).heap.size = w.heap.size := by simp
      rw [hs] at a1 a3
      have hbu : w.heap.size ≠ b := by omega
      have hgu : w.heap.size ≠ g := fun h => by have := h2.lt; omega
      refine ⟨rfl, ?_, g, w.heap.size, hgu, ?_, ?_, ?_⟩
      · exact gr_set (gr_set (gr_drew (gr_trans (gr_set (gr_refl w b) (Or.inl rfl) _) a4)) (Or.inl rfl) _) (Or.inl rfl) _
      · exact ((a1.drew.set_ 257 _).set_ 258 _).congr (fun i hi => cip_end _ _ _ _ hi)
      · exact (a2.drew.other (fun h => hbg h.symm) _).other (fun h => hbg h.symm) _
      · exact (a3.drew.other hbu _).other hbu _
end Go.Proofs.YtepogbfkmflooaaDoor
namespace Go.Proofs.YtepogbfkmflooaaDoor
open Go.RowKit
set_option linter.unusedSimpArgs false
set_option linter.unusedVariables false
theorem om {p : Prop} (h : p := by omega) : p := h
theorem kr {p : Prop} (h : p := by kernel_rfl) : p := h
theorem ro {p : Prop} (h : p := by first | rfl | omega) : p := h
theorem dv {p : Prop} (h : p := by first | with_reducible rfl | (with_reducible congr 1 <;> omega) | (with_reducible congr 2 <;> omega) | (with_reducible congr 3 <;> omega) | rfl) : p := h
theorem ng {α : Sort _} {c : Prop} [Decidable c] {a b d : α} (h : b = d) (hc : ¬ c := by omega) : (if c then a else b) = d := (if_neg hc).trans h
theorem pn {α : Sort _} {c : Prop} [Decidable c] {a b : α} (hc : c := by omega) : (if c then a else b) = a := if_pos hc
theorem pz {α : Sort _} {c : Prop} [Decidable c] {a b x : α} (hc : c := by omega) (h : a = x := by first | with_reducible rfl | (with_reducible congr 1 <;> omega) | (with_reducible congr 2 <;> omega) | (with_reducible congr 3 <;> omega) | rfl) : (if c then a else b) = x := (if_pos hc).trans h
section
variable {P : Program} {ops : Array Oper} {Q : Exit → Act → World → Prop} {w w' : World} {rest : List Oper} {n : Nat} {f : Nat → Value}
variable {ty : TypeId} {x y z : Operand} {v vx vy vz : Value} {t e : TypeId} {F G : Nat → Value}
theorem ei {k : Nat} {a : Int} (h : f k = .int .i64 a := by exact rfl) (ht : Nat.blt k n = true := by exact rfl) : Ev n f (.tmp k) (.int .i64 a) := Ev.t h ht
theorem es {k : Nat} {a : List (BitVec 8)} (h : f k = .string (str a) := by exact rfl) (ht : Nat.blt k n = true := by exact rfl) : Ev n f (.tmp k) (.string (str a)) := Ev.t h ht
theorem eb {k : Nat} {a : Bool} (h : f k = .bool a := by exact rfl) (ht : Nat.blt k n = true := by exact rfl) : Ev n f (.tmp k) (.bool a) := Ev.t h ht
theorem e8 {k : Nat} {a : BitVec 8} (h : f k = U8 a := by exact rfl) (ht : Nat.blt k n = true := by exact rfl) : Ev n f (.tmp k) (U8 a) := Ev.t h ht
theorem e3 {k : Nat} {a : BitVec 32} (h : f k = U32 a := by exact rfl) (ht : Nat.blt k n = true := by exact rfl) : Ev n f (.tmp k) (U32 a) := Ev.t h ht
theorem e6 {k : Nat} {a : BitVec 64} (h : f k = U64 a := by exact rfl) (ht : Nat.blt k n = true := by exact rfl) : Ev n f (.tmp k) (U64 a) := Ev.t h ht
theorem el {k : Nat} {a b c d : Nat} (h : f k = .slice (some ⟨a, b, none⟩) c d := by exact rfl) (ht : Nat.blt k n = true := by exact rfl) : Ev n f (.tmp k) (.slice (some ⟨a, b, none⟩) c d) := Ev.t h ht
theorem ea {k : Nat} {a : Nat} {b : Nat → Value} (h : f k = .agg (arr a b) := by exact rfl) (ht : Nat.blt k n = true := by exact rfl) : Ev n f (.tmp k) (.agg (arr a b)) := Ev.t h ht
theorem ex (v : Value) {k : Nat} (h : f k = v := by exact rfl) (ht : Nat.blt k n = true := by exact rfl) : Ev n f (.tmp k) v := Ev.t h ht
theorem ye {k i : Nat} {vs : Array Value} {v : Value} (h : f k = .tuple vs := by exact rfl) (hv : vs[i]? = some v := by exact rfl) (ht : Nat.blt k n = true := by exact rfl) : Yields P n f (.extract (.tmp k) i) ty w v := y_ext (Ev.t h ht) hv
theorem dt {p : Prop} [Decidable p] (h : p) : Value.bool (decide p) = .bool true := by rw [decide_eq_true h]
theorem df {p : Prop} [Decidable p] (h : ¬ p) : Value.bool (decide p) = .bool false := by rw [decide_eq_false h]
theorem wy {o : Oper} {j d : Nat} {b : Bool} (hg : o.guard = some (j, b)) (hj : (ops[j]?).bind (·.dst) = some d) (hv : Ev n f (.tmp d) (.bool b)) (hd : Nat.blt d n = true := by exact rfl) : Region.wanted o (yielded ops (fr n f).tmps) = true := want_yes hg hj hv hd
theorem wn {o : Oper} {j d : Nat} {b : Bool} (hg : o.guard = some (j, b)) (hj : (ops[j]?).bind (·.dst) = some d) (hv : Ev n f (.tmp d) (.bool (!b))) (hd : Nat.blt d n = true := by exact rfl) : Region.wanted o (yielded ops (fr n f).tmps) = false := want_no hg hj hv hd
theorem Row.nb {w : World} {b g t m : Nat} {F : Nat → Value} (r : Row w g t m F) (h : b = w.heap.size) : g ≠ b := by have := r.lt; omega
theorem gb_ {b i j : Nat} (h : i ≤ j) (e : b = j) : i ≤ b := by omega
theorem ti {a : Int} {x c : Value} (h : x = .int .i64 a := by exact rfl) (h2 : .int .i64 a = c := by first | with_reducible rfl | (with_reducible congr 1 <;> omega) | (with_reducible congr 2 <;> omega) | (with_reducible congr 3 <;> omega) | rfl) : x = c := h.trans h2
theorem t8 {a : BitVec 8} {x c : Value} (h : x = U8 a := by exact rfl) (h2 : U8 a = c := by first | with_reducible rfl | (with_reducible congr 1 <;> omega) | (with_reducible congr 2 <;> omega) | (with_reducible congr 3 <;> omega) | rfl) : x = c := h.trans h2
theorem t3 {a : BitVec 32} {x c : Value} (h : x = U32 a := by exact rfl) (h2 : U32 a = c := by first | with_reducible rfl | (with_reducible congr 1 <;> omega) | (with_reducible congr 2 <;> omega) | (with_reducible congr 3 <;> omega) | rfl) : x = c := h.trans h2
theorem t6 {a : BitVec 64} {x c : Value} (h : x = U64 a := by exact rfl) (h2 : U64 a = c := by first | with_reducible rfl | (with_reducible congr 1 <;> omega) | (with_reducible congr 2 <;> omega) | (with_reducible congr 3 <;> omega) | rfl) : x = c := h.trans h2
end
section
variable {P : Program} {ops : Array Oper} {Q : Exit → Act → World → Prop} {w w' : World} {n : Nat} {f : Nat → Value} {ty : TypeId} {S : World → Prop} {D : Nat → Bool} {k : Nat} {listed : Array Bool}
theorem dp (i : Nat) {op : Op} {ty : TypeId} {d : Nat} {p : String} {aft : Array Edge} {v : Value} (hi : ops[i]? = some ⟨some d, op, ty, p, aft, none⟩) (hy : ∀ w, Yields P n f op ty w v) (h : anyD P ops Q S D k (listed.setIfInBounds i true) (fr n (up f d v)) w) 
    (hs : Region.noSelect ops = true := by kernel_rfl) (hf : Region.free .any ops listed i = true := by kernel_rfl) (hr : (Region.ready .any ops listed).contains i = true := by kernel_rfl) (hD : closedB ops listed = true := by kernel_rfl) (hQ : ∀ c a w, Q (.panic c) (a.put (some d) v) w → Q (.panic c) a w := by exact fun _ _ _ h => h) :
    anyD P ops Q S D (k + 1) listed (fr n f) w := d_pure i hi hs hf hr hD hQ hy h
end
end Go.Proofs.YtepogbfkmflooaaDoor
