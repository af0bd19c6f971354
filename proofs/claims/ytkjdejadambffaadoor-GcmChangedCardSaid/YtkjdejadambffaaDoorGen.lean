/-
  Steps of a walk, one law an operation: the frame is a function of the slots, each law names the operands' values. No conditions. Steps of a walk, part 2: values of operations on words and numbers, texts, memory, calls. No conditions. Steps of a walk, part 3: rows that grow by append. No conditions. A region whose order is open, walked so: what yields a value in every world of a class is taken first; what turns the world comes up in every order that is left. No conditions. Steps of a walk, part 5: copies out of texts, calls of function values, texts repeated. No conditions. Steps of a walk, part 6: a slice of some elements. No conditions. Steps of a walk, part 7: an element of an array's value. No conditions. Steps of a walk, part 7: shorter words for the steps. No conditions.
-/
import Derived.Test.YtkjdejadambffaaDoorWords
import Derived.Deep.LoopGhost
import Derived.IntWalk
import Derived.Laws.IdiomStrings
import Derived.Deep.OwnRows
import Derived.Conc.MuLone
import Derived.Maps.AppendAt
import Derived.Laws.MakeOwn
import Derived.OrdersHeld
import Derived.Lib.AppendStr
namespace Go.Proofs.YtkjdejadambffaaDoor
open Go.RowKit
set_option linter.unusedSimpArgs false
set_option linter.unusedVariables false
section
variable {P : Program} {ops : Array Oper} {Q : Exit → Act → World → Prop} {w : World} {rest : List Oper} {n : Nat} {f : Nat → Value}
/-- a cell's address -/
abbrev pt (b o : Nat) : Value := .pointer (some ⟨b, o, none⟩)
theorem etv {α : Type} {a b c : α} (h : a = b) (h2 : b = c := by first | with_reducible rfl | (with_reducible congr 1 <;> omega) | (with_reducible congr 2 <;> omega) | (with_reducible congr 3 <;> omega) | rfl) : a = c := h.trans h2
theorem iv {p : Prop} (h : p := by first | omega | with_reducible rfl | assumption | trivial | exact ⟨rfl, rfl⟩ | simp) : p := h
theorem Row.cg {w : World} {b : Nat} {t : TypeId} {n : Nat} {f g : Nat → Value} (h : Row w b t n f) (e : ∀ j, j < n → f j = g j := by intro j hj; (first | with_reducible rfl | (dsimp only; done) | ((try dsimp only); (repeat' split) <;> first | with_reducible rfl | (exfalso; omega) | (subst_vars; with_reducible rfl) | (subst_vars; simp only [Nat.add_sub_cancel_left, Nat.add_sub_cancel, Nat.sub_self, Nat.sub_zero]; done) | (with_reducible congr 1 <;> omega) | (with_reducible congr 2 <;> omega) | (with_reducible congr 3 <;> omega) | rfl | (subst_vars; rfl)))) : Row w b t n g := h.congr e
theorem oc {F : Nat → Value} {m : Nat} (h : ∀ j, j < m → (F j).oneCell' = true := by intro j _; first | rfl | exact U8.oneCell _ | exact U32.oneCell _ | exact U64.oneCell _ | ((try dsimp only); (repeat' split) <;> rfl)) : ∀ j, j < m → (F j).oneCell' = true := h
theorem oca {F : Nat → Value} (h : ∀ j, (F j).oneCell' = true := by intro j; first | exact U8.oneCell _ | exact U32.oneCell _ | exact U64.oneCell _ | rfl | ((try dsimp only); (repeat' split) <;> rfl)) : ∀ j, (F j).oneCell' = true := h
def up (f : Nat → Value) (d : Nat) (v : Value) : Nat → Value := fun i => bif Nat.beq i d then v else f i
def fr (n : Nat) (f : Nat → Value) : Act := ⟨((List.range n).map f).toArray, []⟩
def Ev (n : Nat) (f : Nat → Value) (x : Operand) (v : Value) : Prop := (fr n f).eval x = v
theorem Ev.t {t : Nat} {v : Value} (h : f t = v) (ht : Nat.blt t n = true) : Ev n f (.tmp t) v := by
  have ht' : t < n := by simpa using ht
  simp [Ev, fr, Act.eval, ht', h]
theorem Ev.c {v : Value} : Ev n f (.const v) v := rfl
theorem Ev.fn {k : FuncId} : Ev n f (.func k) (.func (.func k) #[] #[]) := rfl
theorem Ev.g {k : Nat} : Ev n f (.global k) (.pointer (some ⟨k, 0, none⟩)) := rfl
theorem ev (v : Value) {t : Nat} (h : f t = v) (ht : Nat.blt t n = true) : Ev n f (.tmp t) v := Ev.t h ht
theorem evc (v : Value) : Ev n f (.const v) v := rfl
theorem fr_put (d : Nat) (v : Value) : (fr n f).put (some d) v = fr n (up f d v) := by
  unfold fr Act.put
  simp only [Act.mk.injEq, and_true]
  apply Array.ext
  · simp
  · intro i h1 h2
    simp only [Array.getElem_setIfInBounds, List.getElem_toArray, List.getElem_map, List.getElem_range, up]
    by_cases e : d = i
    · subst e; simp
    · have e' : Nat.beq i d = false := by
        cases hb : Nat.beq i d with
        | false => rfl
        | true => exact absurd (Nat.eq_of_beq_eq_true hb).symm e
      simp [e, e']
theorem fr_entry (args : Array Value) (k : Nat) (h : args.size ≤ k) : (⟨args ++ Array.replicate (k - args.size) undef, []⟩ : Act) = fr k (fun i => args.getD i undef) := by
  unfold fr
  simp only [Act.mk.injEq, and_true]
  apply Array.ext
  · simp; omega
  · intro i h1 h2
    simp only [Array.getElem_append, List.getElem_toArray, List.getElem_map, List.getElem_range, Array.getElem_replicate, Array.getD]
    split <;> rfl
theorem enter {F : FuncId} {fn : Func} {c : Code} {args : Array Value} {R : Ending → World → Prop} (hf : P.funcs[F]? = some fn) (hb : fn.body = some c) (hn : fn.ntmps = n) (ha : Nat.ble args.size n = true)
    (h : c.wp P (bodyPost P fn R) (fr n (fun i => args.getD i undef)) w) : Calls P F args w R := by
  refine calls_of_wp hf hb ?_
  rw [hn, fr_entry args n (by simpa using ha)]
  exact h
/-! ### code -/
theorem then_n {next : Act → World → Prop} {a : Act} (h : next a w) : Exit.then next Q .normal a w := h
theorem then_x {next : Act → World → Prop} {a : Act} {i : Nat} (h : Q (.exit i) a w) : Exit.then next Q (.exit i) a w := h
theorem then_r {next : Act → World → Prop} {a : Act} (h : Q .ret a w) : Exit.then next Q .ret a w := h
theorem nt {ops : Array Oper} {next : Act → World → Prop} {a : Act} (h : next a w) : wpList P ops (Exit.then next Q) [] a w := wpList_nil (then_n h)
theorem sr {id : Nat} {l : List Oper} {y : Code} {a : Act} (h : wpList P l.toArray (Exit.then (y.wp P Q) Q) l a w) : (Code.seq (Code.region id l.toArray false) y).wp P Q a w := wp_seq (wp_region_lit h)
theorem ss {x y z : Code} {a : Act} (h : x.wp P (Exit.then (y.wp P (Exit.then (z.wp P Q) Q)) (Exit.then (z.wp P Q) Q)) a w) : (Code.seq (Code.seq x y) z).wp P Q a w := wp_seq (wp_seq h)
theorem inb_n {a : Act} {i : Nat} (h : Q .normal a w) : Exit.inBlock i Q .normal a w := h
theorem inb_r {a : Act} {i : Nat} (h : Q .ret a w) : Exit.inBlock i Q .ret a w := h
theorem inb_x {a : Act} {i : Nat} (h : Q .normal a w) : Exit.inBlock i Q (.exit i) a w := by simp only [Exit.inBlock, if_true]; exact h
theorem inb_y {a : Act} {i j : Nat} (hne : Nat.beq j i = false) (h : Q (.exit j) a w) : Exit.inBlock i Q (.exit j) a w := by
  have : j ≠ i := fun e => by subst e; simp at hne
  simp only [Exit.inBlock, if_neg this]; exact h
theorem c_if {c : Operand} {x y : Code} {p : Prop} [Decidable p] (hc : Ev n f c (.bool (decide p))) (ht : p → x.wp P Q (fr n f) w) (hf : ¬ p → y.wp P Q (fr n f) w) : (Code.cond c x y).wp P Q (fr n f) w := by
  by_cases h : p
  · exact wp_cond_true (hc.trans (by rw [decide_eq_true h])) (ht h)
  · exact wp_cond_false (hc.trans (by rw [decide_eq_false h])) (hf h)
theorem c_t {c : Operand} {x y : Code} {p : Prop} [Decidable p] (hc : Ev n f c (.bool (decide p))) (h : p) (ht : x.wp P Q (fr n f) w) : (Code.cond c x y).wp P Q (fr n f) w := wp_cond_true (hc.trans (by rw [decide_eq_true h])) ht
theorem c_f {c : Operand} {x y : Code} {p : Prop} [Decidable p] (hc : Ev n f c (.bool (decide p))) (h : ¬ p) (hf : y.wp P Q (fr n f) w) : (Code.cond c x y).wp P Q (fr n f) w := wp_cond_false (hc.trans (by rw [decide_eq_false h])) hf
theorem c_ifb {c : Operand} {x y : Code} {b : Bool} (hc : Ev n f c (.bool b)) (ht : b = true → x.wp P Q (fr n f) w) (hf : ¬ b = true → y.wp P Q (fr n f) w) : (Code.cond c x y).wp P Q (fr n f) w := by
  by_cases h : b = true
  · exact wp_cond_true (hc.trans (by rw [h])) (ht h)
  · exact wp_cond_false (hc.trans (by rw [Bool.eq_false_iff.2 h])) (hf h)
theorem c_tt {c : Operand} {x y : Code} (hc : Ev n f c (.bool true)) (ht : x.wp P Q (fr n f) w) : (Code.cond c x y).wp P Q (fr n f) w := wp_cond_true hc ht
theorem c_ff {c : Operand} {x y : Code} (hc : Ev n f c (.bool false)) (hf : y.wp P Q (fr n f) w) : (Code.cond c x y).wp P Q (fr n f) w := wp_cond_false hc hf
/-- a cut: what stands behind a piece of code is shown once -/
theorem c_cut {x y : Code} {a : Act} (R : Act → World → Prop) (hx : x.wp P (Exit.then R Q) a w) (hy : ∀ a w, R a w → y.wp P Q a w) : (Code.seq x y).wp P Q a w :=
  wp_seq (wp_mono hx (fun e a w h => by cases e <;> first | exact hy _ _ h | exact h))
theorem fin_ret1 {fn : Func} {R : Ending → World → Prop} {t : Nat} {v : Value} (hr : fn.results = #[.tmp t]) (hv : Ev n f (.tmp t) v) (h : R (.returned v) w) : bodyPost P fn R .ret (fr n f) w := by
  refine bodyPost_ret (results_tmp hr _ _ _) rfl ?_
  have : (fr n f).tmps.getD t undef = v := hv
  rw [this]; exact h
theorem fin_ret2 {fn : Func} {R : Ending → World → Prop} {t u : Nat} {v v' : Value} (hr : fn.results = #[.tmp t, .tmp u]) (hv : Ev n f (.tmp t) v) (hv' : Ev n f (.tmp u) v') (h : R (.returned (.tuple #[v, v'])) w) : bodyPost P fn R .ret (fr n f) w := by
  refine bodyPost_ret (results_tmp2 hr _ _ _) rfl ?_
  have e : (fr n f).tmps.getD t undef = v := hv
  have e' : (fr n f).tmps.getD u undef = v' := hv'
  rw [e, e']; exact h
theorem fin_ret3 {fn : Func} {R : Ending → World → Prop} {t u s : Nat} {v v' v'' : Value} (hr : fn.results = #[.tmp t, .tmp u, .tmp s]) (hv : Ev n f (.tmp t) v) (hv' : Ev n f (.tmp u) v') (hv'' : Ev n f (.tmp s) v'') (h : R (.returned (.tuple #[v, v', v''])) w) : bodyPost P fn R .ret (fr n f) w := by
  have e : (fr n f).tmps.getD t undef = v := hv
  have e' : (fr n f).tmps.getD u undef = v' := hv'
  have e'' : (fr n f).tmps.getD s undef = v'' := hv''
  refine bodyPost_ret (v := .tuple #[v, v', v'']) ?_ rfl h
  simp only [Array.getD_eq_getD_getElem?] at e e' e''
  simp [results, hr, e, e', e'']
theorem fin_ret0 {fn : Func} {R : Ending → World → Prop} (hr : fn.results = #[]) (h : R (.returned (.tuple #[])) w) : bodyPost P fn R .ret (fr n f) w :=
  bodyPost_ret (results_none hr _ _ _) rfl h
theorem fin_end0 {fn : Func} {R : Ending → World → Prop} (hr : fn.results = #[]) (h : R (.returned (.tuple #[])) w) : bodyPost P fn R .normal (fr n f) w :=
  bodyPost_end (results_none hr _ _ _) rfl h
theorem fin_arr {fn : Func} {R : Ending → World → Prop} {t g m : Nat} {ty : TypeId} {F : Nat → Value} (hr : fn.results = #[.cell t ty]) (hv : Ev n f (.tmp t) (.pointer (some ⟨g, 0, none⟩)))
    (hu : (P.underlying ty).map isAggD = some true) (hi : (P.info? ty).map (·.size) = some m) {e : TypeId} {k : Nat} (hc : Row w g e k F) (hm : m ≤ k) (h : R (.returned (.agg (arr m F))) w) : bodyPost P fn R .ret (fr n f) w :=
  bodyPost_ret (results_arr hr _ w g m F hv hu hi (fun j hj => hc.cell (by omega))) rfl h
/-! ### operations that yield a value and leave the world alone -/
def Yields (P : Program) (n : Nat) (f : Nat → Value) (op : Op) (ty : TypeId) (w : World) (v : Value) : Prop := (execOp (fr n f).eval ⟨none, op, ty, default, #[], none⟩).run P w = .ok (.value v) w
theorem w_val {op : Op} {ty : TypeId} {d : Nat} {p : String} {aft : Array Edge} {v : Value} (hy : Yields P n f op ty w v) (h : wpList P ops Q rest (fr n (up f d v)) w) : wpList P ops Q (⟨some d, op, ty, p, aft, none⟩ :: rest) (fr n f) w :=
  wpList_plain rfl fun K hK => by
    unfold Oper.wp
    have e : (execOp (fr n f).eval ⟨some d, op, ty, p, aft, none⟩).run P w = .ok (.value v) w := hy
    rw [e]
    simp only [Oper.upon, fr_put]
    exact hK _ _ h
theorem w_val_g {op : Op} {ty : TypeId} {d : Nat} {p : String} {aft : Array Edge} {g : Option (Nat × Bool)} {v : Value} (hw : Region.wanted ⟨some d, op, ty, p, aft, g⟩ (yielded ops (fr n f).tmps) = true) (hy : Yields P n f op ty w v) (h : wpList P ops Q rest (fr n (up f d v)) w) : wpList P ops Q (⟨some d, op, ty, p, aft, g⟩ :: rest) (fr n f) w :=
  wpList_step fun K hK => by
    rw [if_pos hw]
    unfold Oper.wp
    have e : (execOp (fr n f).eval ⟨some d, op, ty, p, aft, g⟩).run P w = .ok (.value v) w := hy
    rw [e]
    simp only [Oper.upon, fr_put]
    exact hK _ _ h
theorem w_skip {op : Op} {ty : TypeId} {d : Nat} {p : String} {aft : Array Edge} {g : Option (Nat × Bool)} (hw : Region.wanted ⟨some d, op, ty, p, aft, g⟩ (yielded ops (fr n f).tmps) = false) (h : wpList P ops Q rest (fr n (up f d undef)) w) : wpList P ops Q (⟨some d, op, ty, p, aft, g⟩ :: rest) (fr n f) w :=
  wpList_step fun K hK => by
    rw [if_neg (by rw [hw]; simp), fr_put]
    exact hK _ _ h
theorem w_unguard {op : Op} {d : Option Nat} {p : String} {aft : Array Edge} {g : Option (Nat × Bool)} {ty : TypeId} {a : Act} (hw : Region.wanted ⟨d, op, ty, p, aft, g⟩ (yielded ops a.tmps) = true) (h : wpList P ops Q (⟨d, op, ty, p, aft, none⟩ :: rest) a w) : wpList P ops Q (⟨d, op, ty, p, aft, g⟩ :: rest) a w := by
  unfold wpList at h ⊢
  rw [if_pos (by simp [Region.wanted])] at h
  rw [if_pos hw]
  exact h
theorem want_yes {o : Oper} {j d : Nat} {b : Bool} (hg : o.guard = some (j, b)) (hj : (ops[j]?).bind (·.dst) = some d) (hv : Ev n f (.tmp d) (.bool b)) (hd : Nat.blt d n = true) : Region.wanted o (yielded ops (fr n f).tmps) = true := by
  have hd' : d < n := by simpa using hd
  have e : f d = .bool b := by simpa [Ev, fr, Act.eval, hd'] using hv
  simp [Region.wanted, hg, yielded, hj, fr, hd', e]
theorem want_no {o : Oper} {j d : Nat} {b : Bool} (hg : o.guard = some (j, b)) (hj : (ops[j]?).bind (·.dst) = some d) (hv : Ev n f (.tmp d) (.bool (!b))) (hd : Nat.blt d n = true) : Region.wanted o (yielded ops (fr n f).tmps) = false := by
  have hd' : d < n := by simpa using hd
  have e : f d = .bool (!b) := by simpa [Ev, fr, Act.eval, hd'] using hv
  simp [Region.wanted, hg, yielded, hj, fr, hd', e]
theorem q_val {C : World → Prop} {L : Act → Prop} {op : Op} {ty : TypeId} {d : Nat} {p : String} {aft : Array Edge} {v : Value} (hy : ∀ w, C w → Yields P n f op ty w v) (h : wpQuiet P ops C L rest (fr n (up f d v))) : wpQuiet P ops C L (⟨some d, op, ty, p, aft, none⟩ :: rest) (fr n f) :=
  wpQuiet_step fun K hK => by
    rw [if_pos (by simp [Region.wanted])]
    refine ⟨v, fun w hw => ?_, ?_⟩
    · unfold Oper.quietAt
      have e : (execOp (fr n f).eval ⟨some d, op, ty, p, aft, none⟩).run P w = .ok (.value v) w := hy w hw
      rw [e]
      exact ⟨rfl, rfl⟩
    · rw [fr_put]; exact hK _ h
theorem q_val_g {C : World → Prop} {L : Act → Prop} {op : Op} {ty : TypeId} {d : Nat} {p : String} {aft : Array Edge} {g : Option (Nat × Bool)} {v : Value} (hw : Region.wanted ⟨some d, op, ty, p, aft, g⟩ (yielded ops (fr n f).tmps) = true) (hy : ∀ w, C w → Yields P n f op ty w v) (h : wpQuiet P ops C L rest (fr n (up f d v))) : wpQuiet P ops C L (⟨some d, op, ty, p, aft, g⟩ :: rest) (fr n f) :=
  wpQuiet_step fun K hK => by
    rw [if_pos hw]
    refine ⟨v, fun w hw => ?_, ?_⟩
    · unfold Oper.quietAt
      have e : (execOp (fr n f).eval ⟨some d, op, ty, p, aft, g⟩).run P w = .ok (.value v) w := hy w hw
      rw [e]
      exact ⟨rfl, rfl⟩
    · rw [fr_put]; exact hK _ h
theorem q_skip {C : World → Prop} {L : Act → Prop} {op : Op} {ty : TypeId} {d : Nat} {p : String} {aft : Array Edge} {g : Option (Nat × Bool)} (hw : Region.wanted ⟨some d, op, ty, p, aft, g⟩ (yielded ops (fr n f).tmps) = false) (h : wpQuiet P ops C L rest (fr n (up f d undef))) : wpQuiet P ops C L (⟨some d, op, ty, p, aft, g⟩ :: rest) (fr n f) :=
  wpQuiet_step fun K hK => by
    rw [if_neg (by rw [hw]; simp), fr_put]
    exact hK _ h
variable {ty : TypeId} {x y z : Operand} {v vx vy vz : Value}
theorem y_mv (h : Ev n f x v) : Yields P n f (.move x) ty w v := by
  have h' : (fr n f).eval x = v := h
  simp [Yields, execOp, h']
theorem y_as (h : Ev n f x v) : Yields P n f (.assign x) ty w v := by
  have h' : (fr n f).eval x = v := h
  simp [Yields, execOp, h']
theorem w_mv {ty : TypeId} {x : Operand} {v : Value} {d : Nat} {p : String} {aft : Array Edge} (h : Ev n f x v) (k : wpList P ops Q rest (fr n (up f d v)) w) : wpList P ops Q (⟨some d, .move x, ty, p, aft, none⟩ :: rest) (fr n f) w := w_val (y_mv h) k
theorem w_as {ty : TypeId} {x : Operand} {v : Value} {d : Nat} {p : String} {aft : Array Edge} (h : Ev n f x v) (k : wpList P ops Q rest (fr n (up f d v)) w) : wpList P ops Q (⟨some d, .assign x, ty, p, aft, none⟩ :: rest) (fr n f) w := w_val (y_as h) k
theorem q_mv {C : World → Prop} {L : Act → Prop} {ty : TypeId} {x : Operand} {v : Value} {d : Nat} {p : String} {aft : Array Edge} (h : Ev n f x v) (k : wpQuiet P ops C L rest (fr n (up f d v))) : wpQuiet P ops C L (⟨some d, .move x, ty, p, aft, none⟩ :: rest) (fr n f) := q_val (fun _ _ => y_mv h) k
theorem q_as {C : World → Prop} {L : Act → Prop} {ty : TypeId} {x : Operand} {v : Value} {d : Nat} {p : String} {aft : Array Edge} (h : Ev n f x v) (k : wpQuiet P ops C L rest (fr n (up f d v))) : wpQuiet P ops C L (⟨some d, .assign x, ty, p, aft, none⟩ :: rest) (fr n f) := q_val (fun _ _ => y_as h) k
theorem y_pick_t (hc : Ev n f x (.bool true)) (h : Ev n f y v) : Yields P n f (.pick x y z) ty w v := by
  have h' : (fr n f).eval y = v := h
  have hc' : (fr n f).eval x = .bool true := hc
  simp [Yields, execOp, h', hc', asBool]
theorem y_pick_f (hc : Ev n f x (.bool false)) (h : Ev n f z v) : Yields P n f (.pick x y z) ty w v := by
  have h' : (fr n f).eval z = v := h
  have hc' : (fr n f).eval x = .bool false := hc
  simp [Yields, execOp, h', hc', asBool]
theorem y_nc {a : Addr} (h : Ev n f x (.pointer (some a))) : Yields P n f (.nilCheck x) ty w (.pointer (some a)) := by
  have h' : (fr n f).eval x = .pointer (some a) := h
  simp [Yields, execOp, h']
def Bin (P : Program) (op : BinOp) (t : TypeId) (vx vy v : Value) : Prop := ∀ (X Y : Operand) (w : World), (do eqGuard op t X Y vx vy; binOp op t vx vy : Sem Value).run P w = .ok v w
theorem y_bin {op : BinOp} {t t2 : TypeId} (hx : Ev n f x vx) (hy : Ev n f y vy) (hb : Bin P op t vx vy v) : Yields P n f (.binOp op t x y t2) ty w v := by
  have h1 : (fr n f).eval x = vx := hx
  have h2 : (fr n f).eval y = vy := hy
  have h3 := hb x y w
  unfold Yields execOp
  simp only [h1, h2]
  rw [Sem.run_bind, h3]
  rfl
theorem y_un {op : UnOp} {t : TypeId} (hx : Ev n f x vx) (hb : (Op.unary op vx).run P w = .ok v w) : Yields P n f (.unOp op t x) ty w v := by
  have h1 : (fr n f).eval x = vx := hx
  unfold Yields execOp
  simp only [h1]
  rw [Sem.run_bind, hb]
  rfl
theorem y_conv {s d : TypeId} (hx : Ev n f x vx) (hb : (convert s d vx).run P w = .ok v w) : Yields P n f (.convert s d x) ty w v := by
  have h1 : (fr n f).eval x = vx := hx
  unfold Yields execOp
  simp only [h1]
  rw [Sem.run_bind, hb]
  rfl
theorem y_notp {t : TypeId} {p : Prop} [Decidable p] (hx : Ev n f x (.bool (decide p))) : Yields P n f (.unOp .not t x) ty w (.bool (decide (¬ p))) :=
  y_un hx (by rw [decide_not]; rfl)
theorem y_ext {i : Nat} {vs : Array Value} (hx : Ev n f x (.tuple vs)) (hi : vs[i]? = some v) : Yields P n f (.extract x i) ty w v := by
  have h1 : (fr n f).eval x = .tuple vs := hx
  unfold Yields execOp
  simp only [h1, Instr.extract, hi]
  rfl
theorem y_mkf {fn : Fn} {fs cs : Array Operand} {fv cv : Array Value} (h1 : fs.map (fr n f).eval = fv) (h2 : cs.map (fr n f).eval = cv) : Yields P n f (.makeFunc fn fs cs) ty w (.func fn fv cv) := by
  unfold Yields execOp
  simp only [h1, h2, Instr.makeFunc]
  rfl
theorem m0 : (#[] : Array Operand).map (fr n f).eval = #[] := by simp
variable {x1 x2 x3 x4 x5 x6 x7 x8 : Operand} {v1 v2 v3 v4 v5 v6 v7 v8 : Value}
theorem m1 (h1 : Ev n f x1 v1) : #[x1].map (fr n f).eval = #[v1] := by
  have e1 : (fr n f).eval x1 = v1 := h1
  simp [e1]
theorem m2 (h1 : Ev n f x1 v1) (h2 : Ev n f x2 v2) : #[x1, x2].map (fr n f).eval = #[v1, v2] := by
  have e1 : (fr n f).eval x1 = v1 := h1
  have e2 : (fr n f).eval x2 = v2 := h2
  simp [e1, e2]
theorem m3 (h1 : Ev n f x1 v1) (h2 : Ev n f x2 v2) (h3 : Ev n f x3 v3) : #[x1, x2, x3].map (fr n f).eval = #[v1, v2, v3] := by
  have e1 : (fr n f).eval x1 = v1 := h1
  have e2 : (fr n f).eval x2 = v2 := h2
  have e3 : (fr n f).eval x3 = v3 := h3
  simp [e1, e2, e3]
theorem m4 (h1 : Ev n f x1 v1) (h2 : Ev n f x2 v2) (h3 : Ev n f x3 v3) (h4 : Ev n f x4 v4) : #[x1, x2, x3, x4].map (fr n f).eval = #[v1, v2, v3, v4] := by
  have e1 : (fr n f).eval x1 = v1 := h1
  have e2 : (fr n f).eval x2 = v2 := h2
  have e3 : (fr n f).eval x3 = v3 := h3
  have e4 : (fr n f).eval x4 = v4 := h4
  simp [e1, e2, e3, e4]
theorem m5 (h1 : Ev n f x1 v1) (h2 : Ev n f x2 v2) (h3 : Ev n f x3 v3) (h4 : Ev n f x4 v4) (h5 : Ev n f x5 v5) : #[x1, x2, x3, x4, x5].map (fr n f).eval = #[v1, v2, v3, v4, v5] := by
  have e1 : (fr n f).eval x1 = v1 := h1
  have e2 : (fr n f).eval x2 = v2 := h2
  have e3 : (fr n f).eval x3 = v3 := h3
  have e4 : (fr n f).eval x4 = v4 := h4
  have e5 : (fr n f).eval x5 = v5 := h5
  simp [e1, e2, e3, e4, e5]
theorem m6 (h1 : Ev n f x1 v1) (h2 : Ev n f x2 v2) (h3 : Ev n f x3 v3) (h4 : Ev n f x4 v4) (h5 : Ev n f x5 v5) (h6 : Ev n f x6 v6) : #[x1, x2, x3, x4, x5, x6].map (fr n f).eval = #[v1, v2, v3, v4, v5, v6] := by
  have e1 : (fr n f).eval x1 = v1 := h1
  have e2 : (fr n f).eval x2 = v2 := h2
  have e3 : (fr n f).eval x3 = v3 := h3
  have e4 : (fr n f).eval x4 = v4 := h4
  have e5 : (fr n f).eval x5 = v5 := h5
  have e6 : (fr n f).eval x6 = v6 := h6
  simp [e1, e2, e3, e4, e5, e6]
/-! builtins that yield a value -/
theorem y_blt {b : Builtin} {args : Array Operand} {tys : Array TypeId} {vs : Array Value} (ha : args.map (fr n f).eval = vs) (hb : ∀ cs, (builtin b tys ty cs vs).run P w = .ok (.value v) w) : Yields P n f (.call ⟨.builtin b, args, tys⟩) ty w v := by
  unfold Yields execOp
  simp only [resolve, Sem.run_bind, Sem.run_pure, Result.andThen_ok, ha, invoke]
  exact hb _
theorem y_len_s {t : TypeId} {s : ByteArray} (hx : Ev n f x (.string s)) (ht : P.underlying t = some .string) : Yields P n f (.call ⟨.builtin .len, #[x], #[t]⟩) ty w (.int .i64 (s.size : Int)) :=
  y_blt (m1 hx) (fun cs => by simp [builtin, Builtin.len_, run_underlying ht, goInt])
theorem y_len {t : TypeId} {l : List (BitVec 8)} (hx : Ev n f x (.string (str l))) (ht : P.underlying t = some .string) : Yields P n f (.call ⟨.builtin .len, #[x], #[t]⟩) ty w (.int .i64 (l.length : Int)) := by
  have := y_len_s (ty := ty) (w := w) hx ht
  rwa [size_str] at this
theorem y_len_sl {t e : TypeId} {a : Option Addr} {k c : Nat} (hx : Ev n f x (.slice a k c)) (ht : P.underlying t = some (.slice e)) : Yields P n f (.call ⟨.builtin .len, #[x], #[t]⟩) ty w (.int .i64 (k : Int)) :=
  y_blt (m1 hx) (fun cs => by simp [builtin, Builtin.len_, run_underlying ht, goInt])
theorem y_min {t1 t2 : TypeId} {k : IntKind} {a b : Int} (hx : Ev n f x (.int k a)) (hy : Ev n f y (.int k b)) : Yields P n f (.call ⟨.builtin .min, #[x, y], #[t1, t2]⟩) ty w (.int k (min a b)) :=
  y_blt (m2 hx hy) (fun cs => by
    have e : (if b < a then b else a) = min a b := by omega
    simp [builtin, Builtin.min_, Builtin.min2, e])
theorem y_max {t1 t2 : TypeId} {k : IntKind} {a b : Int} (hx : Ev n f x (.int k a)) (hy : Ev n f y (.int k b)) : Yields P n f (.call ⟨.builtin .max, #[x, y], #[t1, t2]⟩) ty w (.int k (max a b)) :=
  y_blt (m2 hx hy) (fun cs => by
    have e : (if a < b then b else a) = max a b := by omega
    simp [builtin, Builtin.max_, Builtin.max2, e])
end
end Go.Proofs.YtkjdejadambffaaDoor
namespace Go.Proofs.YtkjdejadambffaaDoor
open Go.RowKit
set_option linter.unusedSimpArgs false
set_option linter.unusedVariables false
section
variable {P : Program} {ops : Array Oper} {Q : Exit → Act → World → Prop} {w : World} {rest : List Oper} {n : Nat} {f : Nat → Value}
variable {ty : TypeId} {x y z : Operand} {v vx vy vz : Value} {t : TypeId}
theorem guard_int {op : BinOp} {X Y : Operand} {k : IntKind} {a : Int} {b : Value} : eqGuard op t X Y (.int k a) b = pure () := by cases op <;> rfl
theorem guard_str {op : BinOp} {X Y : Operand} {a : ByteArray} {b : Value} : eqGuard op t X Y (.string a) b = pure () := by cases op <;> rfl
theorem guard_bool {op : BinOp} {X Y : Operand} {a : Bool} {b : Value} : eqGuard op t X Y (.bool a) b = pure () := by cases op <;> rfl
theorem guard_ptr {op : BinOp} {X Y : Operand} {a : Option Addr} {b : Value} : eqGuard op t X Y (.pointer a) b = pure () := by cases op <;> rfl
theorem guard_sl {op : BinOp} {X Y : Operand} {a : Option Addr} {m c : Nat} {b : Value} : eqGuard op t X Y (.slice a m c) b = pure () := by cases op <;> rfl
theorem bin_of {op : BinOp} (hg : ∀ X Y, eqGuard op t X Y vx vy = pure ()) (hb : ∀ w, (binOp op t vx vy).run P w = .ok v w) : Bin P op t vx vy v := by
  intro X Y w
  rw [hg X Y]
  exact hb w
theorem bin_int {op : BinOp} {k : IntKind} {a : Int} (hb : binOp op t (.int k a) vy = pure v) : Bin P op t (.int k a) vy v :=
  bin_of (fun _ _ => guard_int) (fun w => by rw [hb]; rfl)
/-! int -/
variable {a b : Int}
theorem b_add (h : -9223372036854775808 ≤ a + b ∧ a + b ≤ 9223372036854775807) : Bin P .add t (.int .i64 a) (.int .i64 b) (.int .i64 (a + b)) :=
  bin_int (by rw [binOp_add, Op.intArith, IntWalk.i64_in _ h])
theorem b_sub (h : -9223372036854775808 ≤ a - b ∧ a - b ≤ 9223372036854775807) : Bin P .sub t (.int .i64 a) (.int .i64 b) (.int .i64 (a - b)) :=
  bin_int (by rw [binOp_sub, Op.intArith, IntWalk.i64_in _ h])
theorem b_mul (h : -9223372036854775808 ≤ a * b ∧ a * b ≤ 9223372036854775807) : Bin P .mul t (.int .i64 a) (.int .i64 b) (.int .i64 (a * b)) :=
  bin_int (by rw [binOp_mul, Op.intArith, IntWalk.i64_in _ h])
theorem b_quo (h : 0 ≤ a ∧ a ≤ 9223372036854775807 ∧ 1 ≤ b) : Bin P .quo t (.int .i64 a) (.int .i64 b) (.int .i64 (a / b)) :=
  bin_int (by rw [binOp_quo, Op.intDiv, if_neg (by omega), IntWalk.i64_quo _ _ h])
theorem b_rem (h : 0 ≤ a ∧ 1 ≤ b) : Bin P .rem t (.int .i64 a) (.int .i64 b) (.int .i64 (a % b)) :=
  bin_int (by rw [binOp_rem, Op.intDiv, if_neg (by omega), IntWalk.rem_in _ _ h.1])
theorem b_shl {yk : IntKind} {c : Nat} (hc : b = (c : Int)) (hc2 : c ≤ 64) (h : -9223372036854775808 ≤ a * 2 ^ c ∧ a * 2 ^ c ≤ 9223372036854775807) : Bin P .shl t (.int .i64 a) (.int yk b) (.int .i64 (a * 2 ^ c)) :=
  bin_int (by
    subst hc
    have e : min c 64 = c := by omega
    rw [binOp_shl, Op.shift, if_neg (by omega)]
    simp only [Int.toNat_natCast, IntKind.bits, e]
    rw [IntWalk.i64_in _ h])
theorem b_shr {yk : IntKind} {c : Nat} (hc : b = (c : Int)) (hc2 : c ≤ 64) : Bin P .shr t (.int .i64 a) (.int yk b) (.int .i64 (a / 2 ^ c)) :=
  bin_int (by
    subst hc
    have e : min c 64 = c := by omega
    rw [binOp_shr, Op.shift, if_neg (by omega)]
    simp only [Int.toNat_natCast, IntKind.bits, e]
    rw [Int.fdiv_eq_ediv_of_nonneg _ (by exact Int.pow_nonneg (by decide))])
theorem b_lss {k : IntKind} : Bin P .lss t (.int k a) (.int k b) (.bool (decide (a < b))) := bin_int (by rw [binOp_lss])
theorem b_leq {k : IntKind} : Bin P .leq t (.int k a) (.int k b) (.bool (decide (a ≤ b))) := bin_int (by rw [binOp_leq])
theorem b_gtr {k : IntKind} : Bin P .gtr t (.int k a) (.int k b) (.bool (decide (b < a))) := bin_int (by rw [binOp_gtr])
theorem b_geq {k : IntKind} : Bin P .geq t (.int k a) (.int k b) (.bool (decide (b ≤ a))) := bin_int (by rw [binOp_geq])
theorem b_eql {k : IntKind} : Bin P .eql t (.int k a) (.int k b) (.bool (decide (a = b))) := bin_int (by rw [binOp_eql]; rfl)
theorem b_neq {k : IntKind} : Bin P .neq t (.int k a) (.int k b) (.bool (decide (a ≠ b))) := bin_int (by
  rw [binOp_neq]
  congr 2
  by_cases h : a = b <;> simp [h])
/-- bits of small numbers -/
theorem b_and {p q : Nat} (ha : a = (p : Int)) (hb : b = (q : Int)) (h1 : p < 9223372036854775808) (h2 : q < 9223372036854775808) : Bin P .and t (.int .i64 a) (.int .i64 b) (.int .i64 ((p &&& q : Nat) : Int)) :=
  bin_int (by
    subst ha hb
    rw [binOp_and]
    have h3 : p &&& q < 9223372036854775808 := Nat.lt_of_le_of_lt Nat.and_le_left h1
    have e : ((BitVec.ofInt 64 (p : Int)) &&& (BitVec.ofInt 64 (q : Int))).toNat = p &&& q := by
      simp only [BitVec.toNat_and, BitVec.toNat_ofInt]
      congr 1 <;> omega
    have e2 : ∀ m : Nat, m < 9223372036854775808 → IntKind.i64.wrap (m : Int) = m := fun m hm => IntWalk.i64_in _ (by omega)
    show pure (Value.int .i64 (IntKind.i64.wrap (((BitVec.ofInt 64 (p : Int)) &&& (BitVec.ofInt 64 (q : Int))).toNat : Int))) = _
    rw [e, e2 _ (by omega)])
theorem b_xor {p q : Nat} (ha : a = (p : Int)) (hb : b = (q : Int)) (h1 : p < 2 ^ 62) (h2 : q < 2 ^ 62) : Bin P .xor t (.int .i64 a) (.int .i64 b) (.int .i64 ((p ^^^ q : Nat) : Int)) :=
  bin_int (by
    subst ha hb
    rw [binOp_xor]
    have h3 : p ^^^ q < 2 ^ 62 := Nat.xor_lt_two_pow h1 h2
    have e : ((BitVec.ofInt 64 (p : Int)) ^^^ (BitVec.ofInt 64 (q : Int))).toNat = p ^^^ q := by
      simp only [BitVec.toNat_xor, BitVec.toNat_ofInt]
      congr 1 <;> omega
    have e2 : ∀ m : Nat, m < 9223372036854775808 → IntKind.i64.wrap (m : Int) = m := fun m hm => IntWalk.i64_in _ (by omega)
    show pure (Value.int .i64 (IntKind.i64.wrap (((BitVec.ofInt 64 (p : Int)) ^^^ (BitVec.ofInt 64 (q : Int))).toNat : Int))) = _
    rw [e, e2 _ (by omega)])
/-! U8 -/
variable {p8 q8 : BitVec 8}
theorem add8 : Bin P .add t (U8 p8) (U8 q8) (U8 (p8 + q8)) := bin_int (add_U8 t p8 q8)
theorem sub8 : Bin P .sub t (U8 p8) (U8 q8) (U8 (p8 - q8)) := bin_int (sub_U8 t p8 q8)
theorem mul8 : Bin P .mul t (U8 p8) (U8 q8) (U8 (p8 * q8)) := bin_int (mul_U8 t p8 q8)
theorem and8 : Bin P .and t (U8 p8) (U8 q8) (U8 (p8 &&& q8)) := bin_int (and_U8 t p8 q8)
theorem or8 : Bin P .or t (U8 p8) (U8 q8) (U8 (p8 ||| q8)) := bin_int (or_U8 t p8 q8)
theorem xor8 : Bin P .xor t (U8 p8) (U8 q8) (U8 (p8 ^^^ q8)) := bin_int (xor_U8 t p8 q8)
theorem andNot8 : Bin P .andNot t (U8 p8) (U8 q8) (U8 (p8 &&& ~~~q8)) := bin_int (andNot_U8 t p8 q8)
theorem lss8 : Bin P .lss t (U8 p8) (U8 q8) (.bool (decide (p8.toNat < q8.toNat))) := bin_int (lss_U8 t p8 q8)
theorem leq8 : Bin P .leq t (U8 p8) (U8 q8) (.bool (decide (p8.toNat ≤ q8.toNat))) := bin_int (leq_U8 t p8 q8)
theorem gtr8 : Bin P .gtr t (U8 p8) (U8 q8) (.bool (decide (q8.toNat < p8.toNat))) := bin_int (gtr_U8 t p8 q8)
theorem geq8 : Bin P .geq t (U8 p8) (U8 q8) (.bool (decide (q8.toNat ≤ p8.toNat))) := bin_int (geq_U8 t p8 q8)
theorem eql8 : Bin P .eql t (U8 p8) (U8 q8) (.bool (decide (p8 = q8))) := bin_int ((eql_U8 t p8 q8).trans (by congr 2))
theorem neq8 : Bin P .neq t (U8 p8) (U8 q8) (.bool (decide (p8 ≠ q8))) := bin_int ((neq_U8 t p8 q8).trans (by congr 2; by_cases h : p8 = q8 <;> simp [h]))
theorem shl8 {yk : IntKind} {c : Nat} (hc : b = (c : Int)) : Bin P .shl t (U8 p8) (.int yk b) (U8 (p8 <<< c)) := bin_int (by subst hc; exact shl_U8 t p8 yk c (by omega))
theorem shr8 {yk : IntKind} {c : Nat} (hc : b = (c : Int)) : Bin P .shr t (U8 p8) (.int yk b) (U8 (p8 >>> c)) := bin_int (by subst hc; exact shr_U8 t p8 yk c (by omega))
theorem quo8 (h : q8 ≠ 0) : Bin P .quo t (U8 p8) (U8 q8) (U8 (p8 / q8)) := bin_int (by
  have h0 : q8.toNat ≠ 0 := fun e => h (BitVec.eq_of_toNat_eq (by simpa using e))
  have h1 := p8.isLt
  have e : IntKind.u8.wrap ((p8.toNat : Int).tdiv (q8.toNat : Int)) = ((p8 / q8).toNat : Int) := by
    rw [IntWalk.u8_quo _ _ (by omega), BitVec.toNat_udiv]; rfl
  simp only [U8, binOp_quo, Op.intDiv]
  rw [if_neg (by omega), e])
theorem rem8 (h : q8 ≠ 0) : Bin P .rem t (U8 p8) (U8 q8) (U8 (p8 % q8)) := bin_int (by
  have h0 : q8.toNat ≠ 0 := fun e => h (BitVec.eq_of_toNat_eq (by simpa using e))
  simp only [U8, binOp_rem, Op.intDiv]
  rw [if_neg (by omega), IntWalk.rem_in _ _ (by omega), BitVec.toNat_umod]; rfl)
theorem y_not8 {t : TypeId} (hx : Ev n f x (U8 p8)) : Yields P n f (.unOp .xor t x) ty w (U8 (~~~p8)) := y_un hx (by rw [not_U8]; rfl)
/-! U32 -/
variable {p32 q32 : BitVec 32}
theorem add32 : Bin P .add t (U32 p32) (U32 q32) (U32 (p32 + q32)) := bin_int (add_U32 t p32 q32)
theorem sub32 : Bin P .sub t (U32 p32) (U32 q32) (U32 (p32 - q32)) := bin_int (sub_U32 t p32 q32)
theorem mul32 : Bin P .mul t (U32 p32) (U32 q32) (U32 (p32 * q32)) := bin_int (mul_U32 t p32 q32)
theorem and32 : Bin P .and t (U32 p32) (U32 q32) (U32 (p32 &&& q32)) := bin_int (and_U32 t p32 q32)
theorem or32 : Bin P .or t (U32 p32) (U32 q32) (U32 (p32 ||| q32)) := bin_int (or_U32 t p32 q32)
theorem xor32 : Bin P .xor t (U32 p32) (U32 q32) (U32 (p32 ^^^ q32)) := bin_int (xor_U32 t p32 q32)
theorem andNot32 : Bin P .andNot t (U32 p32) (U32 q32) (U32 (p32 &&& ~~~q32)) := bin_int (andNot_U32 t p32 q32)
theorem lss32 : Bin P .lss t (U32 p32) (U32 q32) (.bool (decide (p32.toNat < q32.toNat))) := bin_int (lss_U32 t p32 q32)
theorem leq32 : Bin P .leq t (U32 p32) (U32 q32) (.bool (decide (p32.toNat ≤ q32.toNat))) := bin_int (leq_U32 t p32 q32)
theorem gtr32 : Bin P .gtr t (U32 p32) (U32 q32) (.bool (decide (q32.toNat < p32.toNat))) := bin_int (gtr_U32 t p32 q32)
theorem geq32 : Bin P .geq t (U32 p32) (U32 q32) (.bool (decide (q32.toNat ≤ p32.toNat))) := bin_int (geq_U32 t p32 q32)
theorem eql32 : Bin P .eql t (U32 p32) (U32 q32) (.bool (decide (p32 = q32))) := bin_int ((eql_U32 t p32 q32).trans (by congr 2))
theorem neq32 : Bin P .neq t (U32 p32) (U32 q32) (.bool (decide (p32 ≠ q32))) := bin_int ((neq_U32 t p32 q32).trans (by congr 2; by_cases h : p32 = q32 <;> simp [h]))
theorem shl32 {yk : IntKind} {c : Nat} (hc : b = (c : Int)) : Bin P .shl t (U32 p32) (.int yk b) (U32 (p32 <<< c)) := bin_int (by subst hc; exact shl_U32 t p32 yk c (by omega))
theorem shr32 {yk : IntKind} {c : Nat} (hc : b = (c : Int)) : Bin P .shr t (U32 p32) (.int yk b) (U32 (p32 >>> c)) := bin_int (by subst hc; exact shr_U32 t p32 yk c (by omega))
theorem quo32 (h : q32 ≠ 0) : Bin P .quo t (U32 p32) (U32 q32) (U32 (p32 / q32)) := bin_int (by
  have h0 : q32.toNat ≠ 0 := fun e => h (BitVec.eq_of_toNat_eq (by simpa using e))
  have h1 := p32.isLt
  have e : IntKind.u32.wrap ((p32.toNat : Int).tdiv (q32.toNat : Int)) = ((p32 / q32).toNat : Int) := by
    rw [IntWalk.u32_quo _ _ (by omega), BitVec.toNat_udiv]; rfl
  simp only [U32, binOp_quo, Op.intDiv]
  rw [if_neg (by omega), e])
theorem rem32 (h : q32 ≠ 0) : Bin P .rem t (U32 p32) (U32 q32) (U32 (p32 % q32)) := bin_int (by
  have h0 : q32.toNat ≠ 0 := fun e => h (BitVec.eq_of_toNat_eq (by simpa using e))
  simp only [U32, binOp_rem, Op.intDiv]
  rw [if_neg (by omega), IntWalk.rem_in _ _ (by omega), BitVec.toNat_umod]; rfl)
theorem y_not32 {t : TypeId} (hx : Ev n f x (U32 p32)) : Yields P n f (.unOp .xor t x) ty w (U32 (~~~p32)) := y_un hx (by rw [not_U32]; rfl)
/-! U64 -/
variable {p64 q64 : BitVec 64}
theorem add64 : Bin P .add t (U64 p64) (U64 q64) (U64 (p64 + q64)) := bin_int (add_U64 t p64 q64)
theorem sub64 : Bin P .sub t (U64 p64) (U64 q64) (U64 (p64 - q64)) := bin_int (sub_U64 t p64 q64)
theorem mul64 : Bin P .mul t (U64 p64) (U64 q64) (U64 (p64 * q64)) := bin_int (mul_U64 t p64 q64)
theorem and64 : Bin P .and t (U64 p64) (U64 q64) (U64 (p64 &&& q64)) := bin_int (and_U64 t p64 q64)
theorem or64 : Bin P .or t (U64 p64) (U64 q64) (U64 (p64 ||| q64)) := bin_int (or_U64 t p64 q64)
theorem xor64 : Bin P .xor t (U64 p64) (U64 q64) (U64 (p64 ^^^ q64)) := bin_int (xor_U64 t p64 q64)
theorem andNot64 : Bin P .andNot t (U64 p64) (U64 q64) (U64 (p64 &&& ~~~q64)) := bin_int (andNot_U64 t p64 q64)
theorem lss64 : Bin P .lss t (U64 p64) (U64 q64) (.bool (decide (p64.toNat < q64.toNat))) := bin_int (lss_U64 t p64 q64)
theorem leq64 : Bin P .leq t (U64 p64) (U64 q64) (.bool (decide (p64.toNat ≤ q64.toNat))) := bin_int (leq_U64 t p64 q64)
theorem gtr64 : Bin P .gtr t (U64 p64) (U64 q64) (.bool (decide (q64.toNat < p64.toNat))) := bin_int (gtr_U64 t p64 q64)
theorem geq64 : Bin P .geq t (U64 p64) (U64 q64) (.bool (decide (q64.toNat ≤ p64.toNat))) := bin_int (geq_U64 t p64 q64)
theorem eql64 : Bin P .eql t (U64 p64) (U64 q64) (.bool (decide (p64 = q64))) := bin_int ((eql_U64 t p64 q64).trans (by congr 2))
theorem neq64 : Bin P .neq t (U64 p64) (U64 q64) (.bool (decide (p64 ≠ q64))) := bin_int ((neq_U64 t p64 q64).trans (by congr 2; by_cases h : p64 = q64 <;> simp [h]))
theorem shl64 {yk : IntKind} {c : Nat} (hc : b = (c : Int)) : Bin P .shl t (U64 p64) (.int yk b) (U64 (p64 <<< c)) := bin_int (by subst hc; exact shl_U64 t p64 yk c (by omega))
theorem shr64 {yk : IntKind} {c : Nat} (hc : b = (c : Int)) : Bin P .shr t (U64 p64) (.int yk b) (U64 (p64 >>> c)) := bin_int (by subst hc; exact shr_U64 t p64 yk c (by omega))
theorem quo64 (h : q64 ≠ 0) : Bin P .quo t (U64 p64) (U64 q64) (U64 (p64 / q64)) := bin_int (by
  have h0 : q64.toNat ≠ 0 := fun e => h (BitVec.eq_of_toNat_eq (by simpa using e))
  have h1 := p64.isLt
  have e : IntKind.u64.wrap ((p64.toNat : Int).tdiv (q64.toNat : Int)) = ((p64 / q64).toNat : Int) := by
    rw [IntWalk.u64_quo _ _ (by omega), BitVec.toNat_udiv]; rfl
  simp only [U64, binOp_quo, Op.intDiv]
  rw [if_neg (by omega), e])
theorem rem64 (h : q64 ≠ 0) : Bin P .rem t (U64 p64) (U64 q64) (U64 (p64 % q64)) := bin_int (by
  have h0 : q64.toNat ≠ 0 := fun e => h (BitVec.eq_of_toNat_eq (by simpa using e))
  simp only [U64, binOp_rem, Op.intDiv]
  rw [if_neg (by omega), IntWalk.rem_in _ _ (by omega), BitVec.toNat_umod]; rfl)
theorem y_not64 {t : TypeId} (hx : Ev n f x (U64 p64)) : Yields P n f (.unOp .xor t x) ty w (U64 (~~~p64)) := y_un hx (by rw [not_U64]; rfl)
/-! conversions -/
theorem cv_int {s d : TypeId} {k : IntKind} {c : Int} (k' : IntKind) (hs : (P.underlying s).isSome = true) (hd : P.underlying d = some (.int k')) : (convert s d (.int k c)).run P w = .ok (.int k' (k'.wrap c)) w := by
  obtain ⟨ds, hs'⟩ := Option.isSome_iff_exists.1 hs
  unfold convert
  rw [Sem.run_bind, run_underlying hs']
  simp only [Result.andThen_ok]
  rw [Sem.run_bind, run_underlying hd]
  simp only [Result.andThen_ok]
  rfl
theorem y_int_u8 {s d : TypeId} {kx : IntKind} (hx : Ev n f x (.int kx a)) (hs : (P.underlying s).isSome = true) (hd : P.underlying d = some (.int .u8)) : Yields P n f (.convert s d x) ty w (U8 (BitVec.ofInt 8 a)) :=
  y_conv hx (by rw [cv_int .u8 hs hd, wrap_u8]; rfl)
theorem y_nat_u8 {s d : TypeId} {kx : IntKind} {p : Nat} (hx : Ev n f x (.int kx a)) (hp : a = (p : Int)) (hs : (P.underlying s).isSome = true) (hd : P.underlying d = some (.int .u8)) : Yields P n f (.convert s d x) ty w (U8 (BitVec.ofNat 8 p)) := by
  subst hp
  have := y_int_u8 (ty := ty) (w := w) hx hs hd
  rwa [BitVec.ofInt_natCast] at this
theorem y_u8_i64 {s d : TypeId} (hx : Ev n f x (U8 p8)) (hs : (P.underlying s).isSome = true) (hd : P.underlying d = some (.int .i64)) (hlt : p8.toNat < 9223372036854775808) : Yields P n f (.convert s d x) ty w (.int .i64 (p8.toNat : Int)) :=
  y_conv hx (by
    have h1 := p8.isLt
    unfold U8; rw [cv_int .i64 hs hd, IntWalk.i64_in _ (by omega)])
theorem y_u8_u8 {s d : TypeId} (hx : Ev n f x (U8 p8)) (hs : (P.underlying s).isSome = true) (hd : P.underlying d = some (.int .u8)) : Yields P n f (.convert s d x) ty w (U8 (p8.setWidth 8)) :=
  y_conv hx (by
    unfold U8
    rw [cv_int .u8 hs hd, wrap_u8, BitVec.ofInt_natCast, BitVec.ofNat_toNat]
    try rfl)
theorem y_u8_u32 {s d : TypeId} (hx : Ev n f x (U8 p8)) (hs : (P.underlying s).isSome = true) (hd : P.underlying d = some (.int .u32)) : Yields P n f (.convert s d x) ty w (U32 (p8.setWidth 32)) :=
  y_conv hx (by
    unfold U8
    rw [cv_int .u32 hs hd, wrap_u32, BitVec.ofInt_natCast, BitVec.ofNat_toNat]
    try rfl)
theorem y_u8_u64 {s d : TypeId} (hx : Ev n f x (U8 p8)) (hs : (P.underlying s).isSome = true) (hd : P.underlying d = some (.int .u64)) : Yields P n f (.convert s d x) ty w (U64 (p8.setWidth 64)) :=
  y_conv hx (by
    unfold U8
    rw [cv_int .u64 hs hd, wrap_u64, BitVec.ofInt_natCast, BitVec.ofNat_toNat]
    try rfl)
theorem y_int_u32 {s d : TypeId} {kx : IntKind} (hx : Ev n f x (.int kx a)) (hs : (P.underlying s).isSome = true) (hd : P.underlying d = some (.int .u32)) : Yields P n f (.convert s d x) ty w (U32 (BitVec.ofInt 32 a)) :=
  y_conv hx (by rw [cv_int .u32 hs hd, wrap_u32]; rfl)
theorem y_nat_u32 {s d : TypeId} {kx : IntKind} {p : Nat} (hx : Ev n f x (.int kx a)) (hp : a = (p : Int)) (hs : (P.underlying s).isSome = true) (hd : P.underlying d = some (.int .u32)) : Yields P n f (.convert s d x) ty w (U32 (BitVec.ofNat 32 p)) := by
  subst hp
  have := y_int_u32 (ty := ty) (w := w) hx hs hd
  rwa [BitVec.ofInt_natCast] at this
theorem y_u32_i64 {s d : TypeId} (hx : Ev n f x (U32 p32)) (hs : (P.underlying s).isSome = true) (hd : P.underlying d = some (.int .i64)) (hlt : p32.toNat < 9223372036854775808) : Yields P n f (.convert s d x) ty w (.int .i64 (p32.toNat : Int)) :=
  y_conv hx (by
    have h1 := p32.isLt
    unfold U32; rw [cv_int .i64 hs hd, IntWalk.i64_in _ (by omega)])
theorem y_u32_u8 {s d : TypeId} (hx : Ev n f x (U32 p32)) (hs : (P.underlying s).isSome = true) (hd : P.underlying d = some (.int .u8)) : Yields P n f (.convert s d x) ty w (U8 (p32.setWidth 8)) :=
  y_conv hx (by
    unfold U32
    rw [cv_int .u8 hs hd, wrap_u8, BitVec.ofInt_natCast, BitVec.ofNat_toNat]
    try rfl)
theorem y_u32_u32 {s d : TypeId} (hx : Ev n f x (U32 p32)) (hs : (P.underlying s).isSome = true) (hd : P.underlying d = some (.int .u32)) : Yields P n f (.convert s d x) ty w (U32 (p32.setWidth 32)) :=
  y_conv hx (by
    unfold U32
    rw [cv_int .u32 hs hd, wrap_u32, BitVec.ofInt_natCast, BitVec.ofNat_toNat]
    try rfl)
theorem y_u32_u64 {s d : TypeId} (hx : Ev n f x (U32 p32)) (hs : (P.underlying s).isSome = true) (hd : P.underlying d = some (.int .u64)) : Yields P n f (.convert s d x) ty w (U64 (p32.setWidth 64)) :=
  y_conv hx (by
    unfold U32
    rw [cv_int .u64 hs hd, wrap_u64, BitVec.ofInt_natCast, BitVec.ofNat_toNat]
    try rfl)
theorem y_int_u64 {s d : TypeId} {kx : IntKind} (hx : Ev n f x (.int kx a)) (hs : (P.underlying s).isSome = true) (hd : P.underlying d = some (.int .u64)) : Yields P n f (.convert s d x) ty w (U64 (BitVec.ofInt 64 a)) :=
  y_conv hx (by rw [cv_int .u64 hs hd, wrap_u64]; rfl)
theorem y_nat_u64 {s d : TypeId} {kx : IntKind} {p : Nat} (hx : Ev n f x (.int kx a)) (hp : a = (p : Int)) (hs : (P.underlying s).isSome = true) (hd : P.underlying d = some (.int .u64)) : Yields P n f (.convert s d x) ty w (U64 (BitVec.ofNat 64 p)) := by
  subst hp
  have := y_int_u64 (ty := ty) (w := w) hx hs hd
  rwa [BitVec.ofInt_natCast] at this
theorem y_u64_i64 {s d : TypeId} (hx : Ev n f x (U64 p64)) (hs : (P.underlying s).isSome = true) (hd : P.underlying d = some (.int .i64)) (hlt : p64.toNat < 9223372036854775808) : Yields P n f (.convert s d x) ty w (.int .i64 (p64.toNat : Int)) :=
  y_conv hx (by
    have h1 := p64.isLt
    unfold U64; rw [cv_int .i64 hs hd, IntWalk.i64_in _ (by omega)])
theorem y_u64_u8 {s d : TypeId} (hx : Ev n f x (U64 p64)) (hs : (P.underlying s).isSome = true) (hd : P.underlying d = some (.int .u8)) : Yields P n f (.convert s d x) ty w (U8 (p64.setWidth 8)) :=
  y_conv hx (by
    unfold U64
    rw [cv_int .u8 hs hd, wrap_u8, BitVec.ofInt_natCast, BitVec.ofNat_toNat]
    try rfl)
theorem y_u64_u32 {s d : TypeId} (hx : Ev n f x (U64 p64)) (hs : (P.underlying s).isSome = true) (hd : P.underlying d = some (.int .u32)) : Yields P n f (.convert s d x) ty w (U32 (p64.setWidth 32)) :=
  y_conv hx (by
    unfold U64
    rw [cv_int .u32 hs hd, wrap_u32, BitVec.ofInt_natCast, BitVec.ofNat_toNat]
    try rfl)
theorem y_u64_u64 {s d : TypeId} (hx : Ev n f x (U64 p64)) (hs : (P.underlying s).isSome = true) (hd : P.underlying d = some (.int .u64)) : Yields P n f (.convert s d x) ty w (U64 (p64.setWidth 64)) :=
  y_conv hx (by
    unfold U64
    rw [cv_int .u64 hs hd, wrap_u64, BitVec.ofInt_natCast, BitVec.ofNat_toNat]
    try rfl)
theorem y_i64_i64 {s d : TypeId} (hx : Ev n f x (.int .i64 a)) (hs : (P.underlying s).isSome = true) (hd : P.underlying d = some (.int .i64)) (h : -9223372036854775808 ≤ a ∧ a ≤ 9223372036854775807) : Yields P n f (.convert s d x) ty w (.int .i64 a) :=
  y_conv hx (by rw [cv_int .i64 hs hd, IntWalk.i64_in _ h])
/-! bools -/
theorem run_equal_bool {p q : Bool} (ht : P.underlying t = some .bool) : (Op.equal t (.bool p) (.bool q)).run P w = .ok (p == q) w := by
  unfold Op.equal
  rw [show Op.maxDepth = 9999 + 1 from rfl, Op.equalIn]
  simp [Sem.run_bind, run_underlying ht]
theorem b_eqb {p q : Bool} (ht : P.underlying t = some .bool) : Bin P .eql t (.bool p) (.bool q) (.bool (p == q)) :=
  bin_of (fun _ _ => guard_bool) (fun w => by
    have e := run_equal_bool (w := w) (p := p) (q := q) ht
    simp [binOp, Sem.run_bind, e])
theorem b_neb {p q : Bool} (ht : P.underlying t = some .bool) : Bin P .neq t (.bool p) (.bool q) (.bool (!(p == q))) :=
  bin_of (fun _ _ => guard_bool) (fun w => by
    have e := run_equal_bool (w := w) (p := p) (q := q) ht
    simp [binOp, Sem.run_bind, e])
/-! nil -/
theorem b_eqp {p : Option Addr} (ht : P.underlying t = some (.pointer (P.pointee t))) : Bin P .eql t (.pointer p) (.pointer none) (.bool p.isNone) :=
  bin_of (fun _ _ => guard_ptr) (fun w => run_eql_pointer_nil w t p ht)
theorem b_nep {p : Option Addr} (ht : P.underlying t = some (.pointer (P.pointee t))) : Bin P .neq t (.pointer p) (.pointer none) (.bool (!p.isNone)) :=
  bin_of (fun _ _ => guard_ptr) (fun w => run_neq_pointer_nil w t p ht)
theorem y_not {t : TypeId} {p : Bool} (hx : Ev n f x (.bool p)) : Yields P n f (.unOp .not t x) ty w (.bool (!p)) := y_un hx rfl
/-! texts -/
theorem b_cat {p q : List (BitVec 8)} (h : p.length + q.length ≤ 9223372036854775807) : Bin P .add t (.string (str p)) (.string (str q)) (.string (str (p ++ q))) :=
  bin_of (fun _ _ => guard_str) (fun w => by
    rw [binOp_string_add, Op.stringOp]
    simp only [size_str]
    rw [if_neg (by simp only [IntKind.max, IntKind.bits, IntKind.signed]; simp; omega), str_append]
    rfl)
theorem b_eqs {p q : List (BitVec 8)} : Bin P .eql t (.string (str p)) (.string (str q)) (.bool (decide (p = q))) :=
  bin_of (fun _ _ => guard_str) (fun w => by
    rw [binOp_string_eql, toList_beq, byt_str, byt_str, show (p == q) = decide (p = q) from by rw [Bool.eq_iff_iff]; simp]
    rfl)
theorem b_nes {p q : List (BitVec 8)} : Bin P .neq t (.string (str p)) (.string (str q)) (.bool (decide (p ≠ q))) :=
  bin_of (fun _ _ => guard_str) (fun w => by
    rw [binOp_string_neq, toList_beq, byt_str, byt_str, show (!(p == q)) = decide (p ≠ q) from by rw [Bool.eq_iff_iff]; simp]
    rfl)
theorem y_idx {l : List (BitVec 8)} {k : IntKind} {i : Nat} (hx : Ev n f x (.string (str l))) (hy : Ev n f y (.int k a)) (ht : P.underlying t = some .string) (hi : a = (i : Int)) (hlt : i < l.length) : Yields P n f (.index t x y) ty w (U8 (gb l i)) := by
  have h1 : (fr n f).eval x = .string (str l) := hx
  have h2 : (fr n f).eval y = .int k a := hy
  subst hi
  unfold Yields execOp
  simp only [h1, h2]
  have e := run_strAt P w t (str l) k i ht
  rw [if_pos ⟨by omega, by rw [size_str]; omega⟩, byt_str, Int.toNat_natCast] at e
  rw [Sem.run_bind, index_strAt, e]
  rfl
theorem sb_ok {k : IntKind} {c : Nat} {m : Nat} {code : BoundsCode} (ha : a = (c : Int)) (h : c ≤ m) : (Instr.sliceBound (.int k a) m code).run P w = .ok c w := by
  subst ha
  have h0 : (0 : Int) ≤ c ∧ (c : Int) ≤ m := ⟨by omega, by omega⟩
  have h1 : c ≤ m := h
  simp [Instr.sliceBound, asIntOf, h1]
/-- bounds of a slice expression -/
def Bnd (P : Program) (isSlice : Bool) (len cap : Nat) (lo hi : Option Value) (l h : Nat) : Prop := ∀ w, (Instr.sliceBounds isSlice len cap lo hi none).run P w = .ok (l, h, cap) w
theorem bnd_lh {s : Bool} {len cap l h : Nat} {k k' : IntKind} {c : Int} (hl : a = (l : Int)) (hh : c = (h : Int)) (h1 : l ≤ h) (h2 : h ≤ cap) : Bnd P s len cap (some (.int k a)) (some (.int k' c)) l h := fun w => by
  cases s <;> simp [Instr.sliceBounds, Sem.run_bind, sb_ok hl h1, sb_ok hh h2]
theorem bnd_l {s : Bool} {len cap l : Nat} {k : IntKind} (hl : a = (l : Int)) (h1 : l ≤ len) : Bnd P s len cap (some (.int k a)) none l len := fun w => by
  cases s <;> simp [Instr.sliceBounds, Sem.run_bind, sb_ok hl h1]
theorem bnd_h {s : Bool} {len cap h : Nat} {k' : IntKind} {c : Int} (hh : c = (h : Int)) (h2 : h ≤ cap) : Bnd P s len cap none (some (.int k' c)) 0 h := fun w => by
  cases s <;> simp [Instr.sliceBounds, Sem.run_bind, sb_ok hh h2]
theorem bnd_ {s : Bool} {len cap : Nat} : Bnd P s len cap none none 0 len := fun w => by
  cases s <;> simp [Instr.sliceBounds, Sem.run_bind]
def evo (n : Nat) (f : Nat → Value) (x : Option Operand) (v : Option Value) : Prop := x.map (fr n f).eval = v
theorem evo.no : evo n f none none := rfl
theorem evo.s (h : Ev n f x v) : evo n f (some x) (some v) := congrArg some h
theorem str_extract (s : List (BitVec 8)) (l h : Nat) : (str s).extract l h = str ((s.drop l).take (h - l)) := by
  apply byt_inj
  rw [byt_extract, byt_str, byt_str]
theorem y_sls {s : List (BitVec 8)} {lo hi : Option Operand} {vl vh : Option Value} {l h : Nat} (hx : Ev n f x (.string (str s))) (hl : evo n f lo vl) (hh : evo n f hi vh) (ht : P.underlying t = some .string) (hb : Bnd P false s.length s.length vl vh l h) :
    Yields P n f (.slice t x lo hi none) ty w (.string (str ((s.drop l).take (h - l)))) := by
  have h1 : (fr n f).eval x = .string (str s) := hx
  have h2 : lo.map (fr n f).eval = vl := hl
  have h3 : hi.map (fr n f).eval = vh := hh
  have e := hb w
  unfold Yields execOp
  simp only [h1, h2, h3]
  simp [Instr.sliceAt, Instr.slice, Sem.run_bind, run_underlying ht, size_str, e, str_extract]
/-- a slice of a slice; of an array behind a pointer -/
theorem y_slv {e : TypeId} {g off len cap : Nat} {lo hi : Option Operand} {vl vh : Option Value} {l h : Nat} (hx : Ev n f x (.slice (some ⟨g, off, none⟩) len cap)) (hl : evo n f lo vl) (hh : evo n f hi vh) (ht : P.underlying t = some (.slice e))
    (hi1 : (P.info? e).map (·.size) = some 1) (hb : Bnd P true len cap vl vh l h) (hlt : l < cap) : Yields P n f (.slice t x lo hi none) ty w (.slice (some ⟨g, off + l, none⟩) (h - l) (cap - l)) := by
  have h1 : (fr n f).eval x = .slice (some ⟨g, off, none⟩) len cap := hx
  have h2 : lo.map (fr n f).eval = vl := hl
  have h3 : hi.map (fr n f).eval = vh := hh
  have e' := hb w
  obtain ⟨i, hq, hs⟩ := Option.map_eq_some_iff.1 hi1
  have hsz : (sizeOf e).run P w = .ok 1 w := by simp [sizeOf, typeInfo, hq, hs]
  unfold Yields execOp
  simp only [h1, h2, h3]
  simp [Instr.sliceAt, Instr.slice, Sem.run_bind, run_underlying ht, e', hsz, show ¬ cap = l from by omega, Addr.add_lit]
theorem y_slp {e : TypeId} {g off m : Nat} {lo hi : Option Operand} {vl vh : Option Value} {l h : Nat} (hx : Ev n f x (.pointer (some ⟨g, off, none⟩))) (hl : evo n f lo vl) (hh : evo n f hi vh) (ht : P.underlying t = some (.array m e))
    (hi1 : (P.info? e).map (·.size) = some 1) (hb : Bnd P false m m vl vh l h) (hlt : l < m) : Yields P n f (.slice t x lo hi none) ty w (.slice (some ⟨g, off + l, none⟩) (h - l) (m - l)) := by
  have h1 : (fr n f).eval x = .pointer (some ⟨g, off, none⟩) := hx
  have h2 : lo.map (fr n f).eval = vl := hl
  have h3 : hi.map (fr n f).eval = vh := hh
  have e' := hb w
  obtain ⟨i, hq, hs⟩ := Option.map_eq_some_iff.1 hi1
  have hsz : (sizeOf e).run P w = .ok 1 w := by simp [sizeOf, typeInfo, hq, hs]
  unfold Yields execOp
  simp only [h1, h2, h3]
  simp [Instr.sliceAt, Instr.sureAddr, Sem.run_bind, run_underlying ht, e', hsz, show ¬ m = l from by omega, Addr.add_lit]
/-! addresses -/
theorem y_ia {e : TypeId} {m g off i s : Nat} {k : IntKind} (hx : Ev n f x (.pointer (some ⟨g, off, none⟩))) (hy : Ev n f y (.int k a)) (ht : P.underlying t = some (.array m e)) (hs : (P.info? e).map (·.size) = some s)
    (hi : a = (i : Int)) (hlt : i < m) : Yields P n f (.indexAddr t x y) ty w (.pointer (some ⟨g, off + i * s, none⟩)) := by
  have h1 : (fr n f).eval x = .pointer (some ⟨g, off, none⟩) := hx
  have h2 : (fr n f).eval y = .int k a := hy
  subst hi
  obtain ⟨q, hq, hs⟩ := Option.map_eq_some_iff.1 hs
  have hsz : (sizeOf e).run P w = .ok s w := by simp [sizeOf, typeInfo, hq, hs]
  have h0 : (0 : Int) ≤ i ∧ (i : Int) < m := ⟨by omega, by omega⟩
  unfold Yields execOp
  simp only [h1, h2]
  simp [Instr.indexAt, Instr.sureAddr, asIntOf, Sem.run_bind, run_underlying ht, hsz, h0, hlt, Addr.add_lit]
theorem y_ia1 {e : TypeId} {m g off i : Nat} {k : IntKind} (hx : Ev n f x (.pointer (some ⟨g, off, none⟩))) (hy : Ev n f y (.int k a)) (ht : P.underlying t = some (.array m e)) (hs : (P.info? e).map (·.size) = some 1)
    (hi : a = (i : Int)) (hlt : i < m) : Yields P n f (.indexAddr t x y) ty w (.pointer (some ⟨g, off + i, none⟩)) := by
  have := y_ia (ty := ty) (w := w) hx hy ht hs hi hlt
  rwa [Nat.mul_one] at this
theorem y_is {e : TypeId} {m c g off i s : Nat} {k : IntKind} (hx : Ev n f x (.slice (some ⟨g, off, none⟩) m c)) (hy : Ev n f y (.int k a)) (ht : P.underlying t = some (.slice e)) (hs : (P.info? e).map (·.size) = some s)
    (hi : a = (i : Int)) (hlt : i < m) : Yields P n f (.indexAddr t x y) ty w (.pointer (some ⟨g, off + i * s, none⟩)) := by
  have h1 : (fr n f).eval x = .slice (some ⟨g, off, none⟩) m c := hx
  have h2 : (fr n f).eval y = .int k a := hy
  subst hi
  obtain ⟨q, hq, hs⟩ := Option.map_eq_some_iff.1 hs
  have hsz : (sizeOf e).run P w = .ok s w := by simp [sizeOf, typeInfo, hq, hs]
  have h0 : (0 : Int) ≤ i ∧ (i : Int) < m := ⟨by omega, by omega⟩
  unfold Yields execOp
  simp only [h1, h2]
  simp [Instr.indexAt, asIntOf, Sem.run_bind, run_underlying ht, hsz, h0, hlt, Addr.add_lit]
theorem y_is1 {e : TypeId} {m c g off i : Nat} {k : IntKind} (hx : Ev n f x (.slice (some ⟨g, off, none⟩) m c)) (hy : Ev n f y (.int k a)) (ht : P.underlying t = some (.slice e)) (hs : (P.info? e).map (·.size) = some 1)
    (hi : a = (i : Int)) (hlt : i < m) : Yields P n f (.indexAddr t x y) ty w (.pointer (some ⟨g, off + i, none⟩)) := by
  have := y_is (ty := ty) (w := w) hx hy ht hs hi hlt
  rwa [Nat.mul_one] at this
theorem y_fa {g off o : Nat} {i : Nat} (hx : Ev n f x (.pointer (some ⟨g, off, none⟩))) (hf : ∀ w, (Instr.fieldAt t (.pointer (some ⟨g, off, none⟩)) i).run P w = .ok (.pointer (some ⟨g, off + o, none⟩)) w) : Yields P n f (.fieldAddr t x i) ty w (.pointer (some ⟨g, off + o, none⟩)) := by
  have h1 : (fr n f).eval x = .pointer (some ⟨g, off, none⟩) := hx
  unfold Yields execOp
  simp only [h1]
  rw [Sem.run_bind, hf w]
  rfl
/-! loads -/
def scal : TypeDesc → Bool
  | .struct _ | .array _ _ => false
  | _ => true
theorem y_ld {g i : Nat} (hx : Ev n f x (.pointer (some ⟨g, i, none⟩))) (hu : (P.underlying t).map scal = some true) (hc : w.cell? ⟨g, i, none⟩ = some v) : Yields P n f (.load t x) ty w v := by
  have h1 : (fr n f).eval x = .pointer (some ⟨g, i, none⟩) := hx
  obtain ⟨d, h2, h3⟩ := Option.map_eq_some_iff.1 hu
  have hag : (isAgg t).run P w = .ok false w := by
    unfold isAgg
    rw [Sem.run_bind, run_underlying h2 w]
    cases d <;> simp_all [scal]
  unfold Yields execOp
  simp only [h1]
  simp [Instr.loadAt, Instr.sureAddr, loadVar, Sem.run_bind, hag, run_load, hc]
theorem y_lda {g off m : Nat} {F : Nat → Value} (hx : Ev n f x (.pointer (some ⟨g, off, none⟩))) (hu : (P.underlying t).map isAggD = some true) (hi : (P.info? t).map (·.size) = some m) (hc : ∀ j, j < m → w.cell? ⟨g, off + j, none⟩ = some (F j)) :
    Yields P n f (.load t x) ty w (.agg (arr m F)) := by
  have h1 : (fr n f).eval x = .pointer (some ⟨g, off, none⟩) := hx
  unfold Yields execOp
  simp only [h1]
  simp [Instr.loadAt, Instr.sureAddr, Sem.run_bind, run_loadVar_at w t g off m F hu hi hc]
/-- string(b) -/
theorem y_str {s d e : TypeId} {g off m c : Nat} {l : List (BitVec 8)} (hx : Ev n f x (.slice (some ⟨g, off, none⟩) m c)) (hl : l.length = m) (hs : P.underlying s = some (.slice e)) (he : P.underlying e = some (.int .u8)) (hd : P.underlying d = some .string)
    (hc : ∀ j, j < m → w.cell? ⟨g, off + j, none⟩ = some (U8 (gb l j))) : Yields P n f (.convert s d x) ty w (.string (str l)) :=
  y_conv hx (run_string_of w s d e g off c m l hl hs he hd hc)
theorem y_str0 {s d e : TypeId} {m c : Nat} (hx : Ev n f x (.slice none m c)) (hs : P.underlying s = some (.slice e)) (he : P.underlying e = some (.int .u8)) (hd : P.underlying d = some .string) : Yields P n f (.convert s d x) ty w (.string (str [])) :=
  y_conv hx (by simp [convert, Sem.run_bind, run_underlying hs, run_underlying he, run_underlying hd, Conv.bytesToString, str]; rfl)
theorem y_build {ps : Array (Nat × Operand)} {vs : Array (Nat × Value)} (hp : (ps.map fun (i, x) => (i, (fr n f).eval x)) = vs) (hb : ∀ w, (Instr.build t vs).run P w = .ok v w) : Yields P n f (.build t ps) ty w v := by
  unfold Yields execOp
  simp only [hp]
  rw [Sem.run_bind, hb w]
  rfl
/-! ### operations that turn the world -/
theorem w_st {p x : Operand} {pos : String} {aft : Array Edge} {g i : Nat} (hp : Ev n f p (.pointer (some ⟨g, i, none⟩))) (hx : Ev n f x v) (hone : v.oneCell' = true) (hcl : v.cells = #[v]) (hty : (P.info? t).map (·.size) = some 1)
    {e : TypeId} {m : Nat} {F : Nat → Value} (hr : Row w g e m F) (hi : i < m)
    (h : ∀ w', Row w' g e m (fun j => if j = i then v else F j) → w.grownBy w' (some g) → w'.heap.size = w.heap.size → wpList P ops Q rest (fr n f) w') :
    wpList P ops Q (⟨none, .store t p x, ty, pos, aft, none⟩ :: rest) (fr n f) w :=
  wpList_store_cell rfl rfl t p x rfl g i hp v hx hone hcl hty e m F hr hi h
theorem w_sta {p x : Operand} {pos : String} {aft : Array Edge} {g off k : Nat} {G : Nat → Value} (hp : Ev n f p (.pointer (some ⟨g, off, none⟩))) (hx : Ev n f x (.agg (arr k G))) (hone : ∀ j, j < k → (G j).oneCell' = true) (hty : (P.info? t).map (·.size) = some k)
    {e : TypeId} {m : Nat} {F : Nat → Value} (hr : Row w g e m F) (hi : off + k ≤ m)
    (h : ∀ w', Row w' g e m (fun j => if off ≤ j ∧ j < off + k then G (j - off) else F j) → w.grownBy w' (some g) → w'.heap.size = w.heap.size → wpList P ops Q rest (fr n f) w') :
    wpList P ops Q (⟨none, .store t p x, ty, pos, aft, none⟩ :: rest) (fr n f) w :=
  wpList_store_arr rfl rfl t p x rfl g off k hp G hx hty hone e m F hr hi h
/-- a step that makes a new block -/
theorem w_new {op : Op} {d : Nat} {p : String} {aft : Array Edge} {c : Array Value} {e : TypeId} {m : Nat} {F : Nat → Value} (hr : (execOp (fr n f).eval ⟨none, op, ty, default, #[], none⟩).run P w = .ok (.value v) (w.alloc (.cells c e)))
    (hc : c = arr m F) (h : ∀ w', Row w' w.heap.size e m F → Below w.heap.size w w' → wpList P ops Q rest (fr n (up f d v)) w') : wpList P ops Q (⟨some d, op, ty, p, aft, none⟩ :: rest) (fr n f) w :=
  wpList_plain rfl fun K hK => by
    unfold Oper.wp
    have e' : (execOp (fr n f).eval ⟨some d, op, ty, p, aft, none⟩).run P w = .ok (.value v) (w.alloc (.cells c e)) := hr
    rw [e']
    simp only [Oper.upon, fr_put]
    subst hc
    exact hK _ _ (h _ (Row.of_arr w e m F) ((Below.refl _ _).alloc (Nat.le_refl _) _))
theorem arr_one (v : Value) : #[v] = arr 1 (fun _ => v) := rfl
theorem w_alloc {e : TypeId} {d : Nat} {p : String} {aft : Array Edge} {m : Nat} {F : Nat → Value} (hz : (P.info? e).map (fun i => i.zero.map Value.cells) = some (some (arr m F)))
    (h : ∀ b w', b = w.heap.size → Row w' b e m F → Below w.heap.size w w' → wpList P ops Q rest (fr n (up f d (.pointer (some ⟨b, 0, none⟩)))) w') : wpList P ops Q (⟨some d, .alloc e, ty, p, aft, none⟩ :: rest) (fr n f) w := by
  obtain ⟨i, hi, hz⟩ := Option.map_eq_some_iff.1 hz
  obtain ⟨zv, hz1, hz2⟩ := Option.map_eq_some_iff.1 hz
  refine w_new (v := .pointer (some ⟨w.heap.size, 0, none⟩)) (c := zv.cells) (e := e) ?_ hz2 (fun w' => h _ w' rfl)
  have hzz : (zeroValue e).run P w = .ok zv w := by simp [zeroValue, typeInfo, hi, hz1]
  simp [execOp, Instr.alloc, Sem.run_bind, hzz, newVar, newRow, go_sem]
theorem w_box {e : TypeId} {d : Nat} {p : String} {aft : Array Edge} {m : Nat} {F : Nat → Value} (hx : Ev n f x v) (hc : v.cells = arr m F)
    (h : ∀ b w', b = w.heap.size → Row w' b e m F → Below w.heap.size w w' → wpList P ops Q rest (fr n (up f d (.pointer (some ⟨b, 0, none⟩)))) w') : wpList P ops Q (⟨some d, .box e x, ty, p, aft, none⟩ :: rest) (fr n f) w := by
  have h1 : (fr n f).eval x = v := hx
  refine w_new (v := .pointer (some ⟨w.heap.size, 0, none⟩)) (c := v.cells) (e := e) ?_ hc (fun w' => h _ w' rfl)
  have h2 : (Instr.box e v).run P w = .ok (.pointer (some ⟨w.heap.size, 0, none⟩)) (w.alloc (.cells v.cells e)) := by
    simp only [Instr.box, newVar, Sem.run_bind]
    generalize v.cells = cs
    simp [newRow, go_sem]
  unfold execOp
  simp only [h1]
  rw [Sem.run_bind, h2]
  rfl
theorem w_mks {e : TypeId} {d : Nat} {p : String} {aft : Array Edge} {m bytes : Nat} {zv : Value} {kl kc : IntKind} {b : Int} (hx : Ev n f x (.int kl a)) (hy : Ev n f y (.int kc b)) (hm : a = (m : Int)) (hm' : b = (m : Int))
    (ht : P.underlying t = some (.slice e)) (hinfo : (P.info? e).map (fun i => (i.zero, i.size, i.bytes)) = some (some zv, 1, bytes)) (hz1 : zv.cells = #[zv]) (hbytes : bytes * m ≤ 281474976710656) (h63 : m ≤ 9223372036854775807)
    (h : ∀ b w', b = w.heap.size → Row w' b e m (fun _ => zv) → Below w.heap.size w w' → wpList P ops Q rest (fr n (up f d (.slice (some ⟨b, 0, none⟩) m m))) w') : wpList P ops Q (⟨some d, .makeSlice t x y, ty, p, aft, none⟩ :: rest) (fr n f) w := by
  have h1 : (fr n f).eval x = .int kl a := hx
  have h2 : (fr n f).eval y = .int kc b := hy
  subst hm hm'
  have hr := run_make_row' (P := P) t e zv bytes ht hinfo hz1 kl kc m hbytes h63 w
  refine w_new (v := .slice (some ⟨w.heap.size, 0, none⟩) m m) (c := madeCells #[zv] m) (e := e) (m := m) (F := fun _ => zv) ?_ ?_ (fun w' => h _ w' rfl)
  · simp [execOp, h1, h2, Sem.run_bind, hr]
  · apply Array.ext_getElem?
    intro i
    by_cases hi : i < m
    · rw [arr_at _ _ _ hi]; simp [madeCells, hi, Nat.mod_one]
    · rw [Array.getElem?_eq_none (by simp [size_madeCells]; omega), Array.getElem?_eq_none (by rw [size_arr]; omega)]
theorem w_call {d : Nat} {p : String} {aft : Array Edge} {k : FuncId} {fn : Func} {c : Code} {args : Array Operand} {tys : Array TypeId} {vs : Array Value} {R : Ending → World → Prop} (hf : P.funcs[k]? = some fn) (hname : (fn.name == "runtime.NumGoroutine") = false) (hb : fn.body = some c)
    (ha : args.map (fr n f).eval = vs) (hc : Calls P k vs w R) (h : ∀ e w', R e w' → ∃ v, e = .returned v ∧ wpList P ops Q rest (fr n (up f d v)) w') : wpList P ops Q (⟨some d, .call ⟨.value (.func k), args, tys⟩, ty, p, aft, none⟩ :: rest) (fr n f) w :=
  wpList_plain rfl fun K hK => by
    unfold Oper.wp
    have e1 : (execOp (fr n f).eval ⟨some d, .call ⟨.value (.func k), args, tys⟩, ty, p, aft, none⟩).run P w = .ok (.enter k vs) w := by
      simp only [execOp, resolve, ha, Sem.run_bind, Deferred.ofValue, Act.eval, Sem.run_pure, Result.andThen_ok, invoke, Array.append_empty, Array.empty_append]
      exact MuLone.run_callFunc_enter hf hname hb _ _
    rw [e1]
    simp only [Oper.upon]
    refine hc.mono fun e w' he => ?_
    obtain ⟨v, rfl, h'⟩ := h e w' he
    show K ((fr n f).put (some d) v) w'
    rw [fr_put]
    exact hK _ _ h'
theorem w_call_ {p : String} {aft : Array Edge} {k : FuncId} {fn : Func} {c : Code} {args : Array Operand} {tys : Array TypeId} {vs : Array Value} {R : Ending → World → Prop} (hf : P.funcs[k]? = some fn) (hname : (fn.name == "runtime.NumGoroutine") = false) (hb : fn.body = some c)
    (ha : args.map (fr n f).eval = vs) (hc : Calls P k vs w R) (h : ∀ e w', R e w' → ∃ v, e = .returned v ∧ wpList P ops Q rest (fr n f) w') : wpList P ops Q (⟨none, .call ⟨.value (.func k), args, tys⟩, ty, p, aft, none⟩ :: rest) (fr n f) w :=
  wpList_plain rfl fun K hK => by
    unfold Oper.wp
    have e1 : (execOp (fr n f).eval ⟨none, .call ⟨.value (.func k), args, tys⟩, ty, p, aft, none⟩).run P w = .ok (.enter k vs) w := by
      simp only [execOp, resolve, ha, Sem.run_bind, Deferred.ofValue, Act.eval, Sem.run_pure, Result.andThen_ok, invoke, Array.append_empty, Array.empty_append]
      exact MuLone.run_callFunc_enter hf hname hb _ _
    rw [e1]
    simp only [Oper.upon]
    refine hc.mono fun e w' he => ?_
    obtain ⟨v, rfl, h'⟩ := h e w' he
    exact hK _ _ h'
/-- the class of worlds of a region that draws: nothing that is there now is turned -/
def Cls (w : World) : World → Prop := fun w' => Below w.heap.size w w'
theorem q_call {L : Act → Prop} {d : Nat} {p : String} {aft : Array Edge} {k : FuncId} {fn : Func} {c : Code} {args : Array Operand} {tys : Array TypeId} {vs : Array Value} (hf : P.funcs[k]? = some fn) (hname : (fn.name == "runtime.NumGoroutine") = false) (hb : fn.body = some c)
    (ha : args.map (fr n f).eval = vs) (hc : ∀ w', Below w.heap.size w w' → Calls P k vs w' (fun e w'' => e = .returned v ∧ Below w'.heap.size w' w''))
    (h : wpQuiet P ops (Cls w) L rest (fr n (up f d v))) : wpQuiet P ops (Cls w) L (⟨some d, .call ⟨.value (.func k), args, tys⟩, ty, p, aft, none⟩ :: rest) (fr n f) :=
  wpQuiet_step fun K hK => by
    rw [if_pos (by simp [Region.wanted])]
    refine ⟨v, fun w' hw => ?_, ?_⟩
    · unfold Oper.quietAt
      have e1 : (execOp (fr n f).eval ⟨some d, .call ⟨.value (.func k), args, tys⟩, ty, p, aft, none⟩).run P w' = .ok (.enter k vs) w' := by
        simp only [execOp, resolve, ha, Sem.run_bind, Deferred.ofValue, Act.eval, Sem.run_pure, Result.andThen_ok, invoke, Array.append_empty, Array.empty_append]
        exact MuLone.run_callFunc_enter hf hname hb _ _
      rw [e1]
      exact ⟨rfl, (hc w' hw).mono fun e w'' ⟨he, hb2⟩ => ⟨he, hw.trans (hb2.mono hw.size)⟩⟩
    · rw [fr_put]; exact hK _ h
theorem region_t {id : Nat} {a : Act} {l : List Oper} (k : Nat) (hm : P.follows .mixedOrders = true) (hB : Region.lexTailB .any l.toArray k = true)
    (h : wpQuiet P l.toArray (Cls w) (fun a' => ∀ w', Below w.heap.size w w' → wpList P l.toArray Q (l.drop k) a' w') (l.take k) a) : (Code.region id l.toArray true).wp P Q a w :=
  wp_region_tail (Cls w) k hm hB ⟨rfl, rfl, rfl, Nat.le_refl _, fun _ _ => rfl⟩ h
theorem region_q {id : Nat} {a : Act} {l : List Oper} (hm : P.follows .mixedOrders = true) (hB : Region.lexB .any l.toArray = true)
    (h : wpQuiet P l.toArray (Cls w) (fun a' => ∀ w', Below w.heap.size w w' → Q .normal a' w') l a) : (Code.region id l.toArray true).wp P Q a w :=
  wp_region_quiet (C := Cls w) hm hB ⟨rfl, rfl, rfl, Nat.le_refl _, fun _ _ => rfl⟩ h
theorem q_nil {L : Act → Prop} {C : World → Prop} {a : Act} (h : L a) : wpQuiet P ops C L [] a := h
theorem cls_cell {g i : Nat} (hc : w.cell? ⟨g, i, none⟩ = some v) (hg : g < w.heap.size) : ∀ w', Cls w w' → w'.cell? ⟨g, i, none⟩ = some v := fun w' h => (Below.cell (p := ⟨g, i, none⟩) h hg).trans hc
theorem Row.step {w' : World} {g : Nat} {e : TypeId} {m : Nat} {F : Nat → Value} (h : Row w g e m F) (hb : Below w.heap.size w w') : Row w' g e m F := h.below hb h.lt
theorem Row.val {g : Nat} {e : TypeId} {m i : Nat} {F : Nat → Value} (h : Row w g e m F) (hi : i < m) (he : F i = v) : w.cell? ⟨g, i, none⟩ = some v := by rw [h.cell hi, he]
theorem thenB {w0 w' : World} (h : Below w0.heap.size w0 w) (hb : Below w.heap.size w w') : Below w0.heap.size w0 w' := h.trans (hb.mono h.size)
theorem thenG {w0 w' : World} {g : Nat} (h : Below w0.heap.size w0 w) (hg : w.grownBy w' (some g)) (hle : w0.heap.size ≤ g) : Below w0.heap.size w0 w' := h.grown hg h.size (fun k e => by cases e; exact hle)
theorem grown_refl (w : World) (r : Option Nat) : w.grownBy w r := ⟨rfl, rfl, rfl, Nat.le_refl _, fun _ _ _ => rfl⟩
theorem grown_thenB {w0 w' : World} {r : Option Nat} (h : w0.grownBy w r) (hb : Below w.heap.size w w') : w0.grownBy w' r :=
  ⟨hb.os.trans h.os, hb.tape.trans h.tape, hb.output.trans h.output, Nat.le_trans h.size hb.size, fun k hk hne => (hb.block k (Nat.lt_of_lt_of_le hk h.size)).trans (h.block k hk hne)⟩
theorem grown_thenG {w0 w' : World} {g r : Nat} (h : w0.grownBy w (some r)) (hg : w.grownBy w' (some g)) (hle : w0.heap.size ≤ g ∨ g = r) : w0.grownBy w' (some r) :=
  ⟨hg.os.trans h.os, hg.tape.trans h.tape, hg.output.trans h.output, Nat.le_trans h.size hg.size, fun k hk hne => (hg.block k (Nat.lt_of_lt_of_le hk h.size) (fun e => by
    cases e
    rcases hle with hle | rfl
    · omega
    · exact hne rfl)).trans (h.block k hk hne)⟩
theorem below_of_grown {w w' : World} (h : w.grownBy w' none) : Below w.heap.size w w' := ⟨h.os, h.tape, h.output, h.size, fun k hk => h.block k hk (by simp)⟩
theorem grown_of_below {w w' : World} {r : Option Nat} (h : Below w.heap.size w w') : w.grownBy w' r := ⟨h.os, h.tape, h.output, h.size, fun k hk _ => h.block k hk⟩
/-- a loop: the relation bears a number that every round lowers -/
theorem c_loop {c : Code} {a : Act} (I : Nat → Act → World → Prop) (k : Nat) (h0 : I k a w) (round : ∀ k a w, I k a w → c.wp P (Exit.then (fun a' w' => ∃ k', k' < k ∧ I k' a' w') Q) a w) : (Code.loop c).wp P Q a w :=
  wp_loop_ghost I k h0 round
theorem y_off {op : Op} {g o o' : Nat} (h : Yields P n f op ty w (.pointer (some ⟨g, o, none⟩))) (e : o = o') : Yields P n f op ty w (.pointer (some ⟨g, o', none⟩)) := e ▸ h
theorem y_sloff {op : Op} {g o o' l c l' c' : Nat} (h : Yields P n f op ty w (.slice (some ⟨g, o, none⟩) l c)) (e : o = o') (e2 : (l, c) = (l', c')) : Yields P n f op ty w (.slice (some ⟨g, o', none⟩) l' c') := by
  cases e2; exact e ▸ h
theorem y_ia1z {e : TypeId} {m g i : Nat} {k : IntKind} (hx : Ev n f x (.pointer (some ⟨g, 0, none⟩))) (hy : Ev n f y (.int k a)) (ht : P.underlying t = some (.array m e)) (hs : (P.info? e).map (·.size) = some 1)
    (hi : a = (i : Int)) (hlt : i < m) : Yields P n f (.indexAddr t x y) ty w (.pointer (some ⟨g, i, none⟩)) := y_off (y_ia1 hx hy ht hs hi hlt) (Nat.zero_add i)
theorem y_is1z {e : TypeId} {m c g i : Nat} {k : IntKind} (hx : Ev n f x (.slice (some ⟨g, 0, none⟩) m c)) (hy : Ev n f y (.int k a)) (ht : P.underlying t = some (.slice e)) (hs : (P.info? e).map (·.size) = some 1)
    (hi : a = (i : Int)) (hlt : i < m) : Yields P n f (.indexAddr t x y) ty w (.pointer (some ⟨g, i, none⟩)) := y_off (y_is1 hx hy ht hs hi hlt) (Nat.zero_add i)
theorem y_slf {s : List (BitVec 8)} {lo : Option Operand} {vl : Option Value} {l : Nat} (hx : Ev n f x (.string (str s))) (hl : evo n f lo vl) (ht : P.underlying t = some .string) (hb : Bnd P false s.length s.length vl none l s.length) :
    Yields P n f (.slice t x lo none none) ty w (.string (str (s.drop l))) := by
  have := y_sls (ty := ty) (w := w) hx hl evo.no ht hb
  rwa [List.take_of_length_le (by simp)] at this
theorem y_slh {e : TypeId} {g off len cap h : Nat} {hi : Option Operand} {vh : Option Value} (hx : Ev n f x (.slice (some ⟨g, off, none⟩) len cap)) (hh : evo n f hi vh) (ht : P.underlying t = some (.slice e))
    (hb : Bnd P true len cap none vh 0 h) (hi1 : (P.info? e).map (·.size) = some 1) : Yields P n f (.slice t x none hi none) ty w (.slice (some ⟨g, off, none⟩) h cap) := by
  have h1 : (fr n f).eval x = .slice (some ⟨g, off, none⟩) len cap := hx
  have h3 : hi.map (fr n f).eval = vh := hh
  have e' := hb w
  obtain ⟨i, hq, hs⟩ := Option.map_eq_some_iff.1 hi1
  have hsz : (sizeOf e).run P w = .ok 1 w := by simp [sizeOf, typeInfo, hq, hs]
  unfold Yields execOp
  simp only [h1, h3]
  simp [Instr.sliceAt, Instr.slice, Sem.run_bind, run_underlying ht, e', hsz, Addr.add_lit]
theorem y_cvs {s d : TypeId} {l : ByteArray} (hx : Ev n f x (.string l)) (hs : P.underlying s = some .string) (hd : P.underlying d = some .string) : Yields P n f (.convert s d x) ty w (.string l) :=
  y_conv hx (by simp [convert, Sem.run_bind, run_underlying hs, run_underlying hd])
theorem y_same8 {s d : TypeId} (hx : Ev n f x (U8 p8)) (hs : (P.underlying s).isSome = true) (hd : P.underlying d = some (.int .u8)) : Yields P n f (.convert s d x) ty w (U8 p8) := by
  have := y_u8_u8 (ty := ty) (w := w) hx hs hd
  rwa [BitVec.setWidth_eq] at this
theorem y_same32 {s d : TypeId} (hx : Ev n f x (U32 p32)) (hs : (P.underlying s).isSome = true) (hd : P.underlying d = some (.int .u32)) : Yields P n f (.convert s d x) ty w (U32 p32) := by
  have := y_u32_u32 (ty := ty) (w := w) hx hs hd
  rwa [BitVec.setWidth_eq] at this
theorem y_same64 {s d : TypeId} (hx : Ev n f x (U64 p64)) (hs : (P.underlying s).isSome = true) (hd : P.underlying d = some (.int .u64)) : Yields P n f (.convert s d x) ty w (U64 p64) := by
  have := y_u64_u64 (ty := ty) (w := w) hx hs hd
  rwa [BitVec.setWidth_eq] at this
theorem Row.stepG {w' : World} {g b : Nat} {e : TypeId} {m : Nat} {F : Nat → Value} (h : Row w b e m F) (hg : w.grownBy w' (some g)) (hne : b ≠ g) : Row w' b e m F := h.grown hg (fun e => hne (by injection e))
theorem mp_cons {i : Nat} {x : Operand} {v : Value} {ps : List (Nat × Operand)} {vs : List (Nat × Value)} (h : Ev n f x v) (hr : (ps.toArray.map fun (i, x) => (i, (fr n f).eval x)) = vs.toArray) :
    ((((i, x) :: ps).toArray).map fun (i, x) => (i, (fr n f).eval x)) = ((i, v) :: vs).toArray := by
  have e : (fr n f).eval x = v := h
  simp only [List.map_toArray, List.map_cons, e]
  simp only [List.map_toArray] at hr
  have hr' := congrArg Array.toList hr
  simp only [Array.toList] at hr'
  rw [hr']
theorem mp0 : ((#[] : Array (Nat × Operand)).map fun (i, x) => (i, (fr n f).eval x)) = #[] := by simp
theorem grownCap_le (w : World) (m old e : Nat) : m ≤ grownCap w m old e := grownCap_ge w m old e
/-- []byte(s) -/
theorem w_bytes {s d' e : TypeId} {d : Nat} {p : String} {aft : Array Edge} {l : List (BitVec 8)} (hx : Ev n f x (.string (str l))) (hs : P.underlying s = some .string) (hd : P.underlying d' = some (.slice e)) (he : P.underlying e = some (.int .u8))
    (h : ∀ b c w', b = w.heap.size → l.length ≤ c → Row w' b e l.length (fun j => U8 (gb l j)) → Below w.heap.size w w' → wpList P ops Q rest (fr n (up f d (.slice (some ⟨b, 0, none⟩) l.length c))) w') :
    wpList P ops Q (⟨some d, .convert s d' x, ty, p, aft, none⟩ :: rest) (fr n f) w :=
  wpList_plain rfl fun K hK => by
    have h1 : (fr n f).eval x = .string (str l) := hx
    have hr := run_bytes_of_string (P := P) w s d' e (str l) hs hd he
    rw [size_str] at hr
    have hc := grownCap_le w l.length 0 e
    have hlt : ∀ i, i < l.length → (bytesRow (str l) (grownCap w l.length 0 e))[i]? = some (U8 (gb l i)) := fun i hi => by
      simp [bytesRow, str, hi, gb, U8, Array.getElem?_append]
    generalize grownCap w l.length 0 e = c at *
    unfold Oper.wp
    have e1 : (execOp (fr n f).eval ⟨some d, .convert s d' x, ty, p, aft, none⟩).run P w = .ok (.value (.slice (some ⟨w.heap.size, 0, none⟩) l.length c)) (w.drew.alloc (.cells (bytesRow (str l) c) e ((bytesRow (str l) c).size, (bytesRow (str l) c).size + 1))) := by
      unfold execOp
      simp only [h1]
      rw [Sem.run_bind, hr]
      rfl
    rw [e1]
    simp only [Oper.upon, fr_put]
    have hn : l.length ≤ (bytesRow (str l) c).size := by
      rcases Nat.eq_zero_or_pos l.length with h0 | h0
      · omega
      · have := hlt (l.length - 1) (by omega)
        have := (Array.getElem?_eq_some_iff.1 this).1
        omega
    refine hK _ _ (h _ c _ rfl hc ⟨_, _, _, heap_alloc_new w.drew _, hn, hlt, .inl hn⟩ ?_)
    exact ((Below.refl _ _).drew).alloc (Nat.le_refl _) _
end
end Go.Proofs.YtkjdejadambffaaDoor
namespace Go.Proofs.YtkjdejadambffaaDoor
open Go.RowKit
set_option linter.unusedSimpArgs false
set_option linter.unusedVariables false
section
variable {P : Program} {ops : Array Oper} {Q : Exit → Act → World → Prop} {w w' : World} {rest : List Oper} {n : Nat} {f : Nat → Value}
variable {ty : TypeId} {x y z : Operand} {v vx vy vz : Value} {t e : TypeId} {base size k : Nat} {F G : Nat → Value}
/-- the slice v of k elements owns its row; its cells are F's -/
def Own (w : World) (base : Nat) (e : TypeId) (size : Nat) (v : Value) (k : Nat) (F : Nat → Value) : Prop :=
  (v = .slice none 0 0 ∧ k = 0) ∨ ∃ g cap G, v = .slice (some ⟨g, 0, none⟩) k cap ∧ base ≤ g ∧ k ≤ cap ∧ cap ≤ maxLen ∧ Row w g e (cap * size) G ∧ ∀ j, j < k * size → G j = F j
namespace Own
theorem nil : Own w base e size (.slice none 0 0) 0 F := .inl ⟨rfl, rfl⟩
theorem congr (h : Own w base e size v k F) (hF : ∀ j, j < k * size → F j = G j) : Own w base e size v k G := by
  rcases h with h | ⟨g, cap, G', h1, h2, h3, h4, h5, h6⟩
  · exact .inl h
  · exact .inr ⟨g, cap, G', h1, h2, h3, h4, h5, fun j hj => (h6 j hj).trans (hF j hj)⟩
theorem cg (h : Own w base e size v k F) (hF : ∀ j, j < k * size → F j = G j := by intro j hj; (first | with_reducible rfl | (dsimp only; done) | ((try dsimp only); (repeat' split) <;> first | with_reducible rfl | (exfalso; omega) | (subst_vars; with_reducible rfl) | (subst_vars; simp only [Nat.add_sub_cancel_left, Nat.add_sub_cancel, Nat.sub_self, Nat.sub_zero]; done) | (with_reducible congr 1 <;> omega) | (with_reducible congr 2 <;> omega) | (with_reducible congr 3 <;> omega) | rfl | (subst_vars; rfl)))) : Own w base e size v k G := h.congr hF
theorem opened (h : Own w base e size v k F) (hk : 0 < k) : ∃ g cap, v = .slice (some ⟨g, 0, none⟩) k cap ∧ base ≤ g ∧ k ≤ cap ∧ v.ownBlock = some g ∧ Row w g e (k * size) F := by
  rcases h with ⟨_, h0⟩ | ⟨g, cap, G', hv, hb, hn, _, hr, hF⟩
  · omega
  · exact ⟨g, cap, hv, hb, hn, by rw [hv]; rfl, (hr.take (Nat.mul_le_mul_right _ hn)).congr hF⟩
theorem block_lt (h : Own w base e size v k F) : ∀ g, v.ownBlock = some g → g < w.heap.size ∧ base ≤ g := by
  intro g hg
  rcases h with ⟨hv, _⟩ | ⟨g', cap, G', hv, hb, _, _, hr, _⟩
  · rw [hv] at hg; simp [Value.ownBlock] at hg
  · rw [hv] at hg
    simp only [Value.ownBlock, Option.some.injEq] at hg
    subst hg
    exact ⟨hr.lt, hb⟩
theorem one (h : Own w base e size v k F) : v.oneCell' = true := by
  rcases h with ⟨hv, _⟩ | ⟨g', cap, cur, hv, _⟩ <;> rw [hv] <;> rfl
theorem cells (h : Own w base e size v k F) : v.cells = #[v] := by
  rcases h with ⟨hv, _⟩ | ⟨g', cap, cur, hv, _⟩ <;> rw [hv] <;> rfl
theorem apart (h : Own w base e size v k F) {b : Nat} (hb : w.heap.size ≤ b) : v.ownBlock ≠ some b := fun e => by have := (h.block_lt b e).1; omega
theorem apart0 (h : Own w base e size v k F) {b : Nat} (hb : b < base) : v.ownBlock ≠ some b := fun e => by have := (h.block_lt b e).2; omega
theorem stepO (h : Own w base e size v k F) {r : Option Nat} (hg : w.grownBy w' r) (hne : v.ownBlock = none ∨ v.ownBlock ≠ r) : Own w' base e size v k F := by
  rcases h with h | ⟨g, cap, G', hv, h2, h3, h4, h5, h6⟩
  · exact .inl h
  · refine .inr ⟨g, cap, G', hv, h2, h3, h4, h5.grown hg ?_, h6⟩
    subst hv
    simpa [Value.ownBlock] using hne
theorem step (h : Own w base e size v k F) (hb : Below w.heap.size w w') : Own w' base e size v k F :=
  h.stepO (r := none) (grown_of_below hb) (by
    cases hv : v.ownBlock with
    | none => exact .inl rfl
    | some g => exact .inr (by simp))
theorem stepG (h : Own w base e size v k F) {g : Nat} (hg : w.grownBy w' (some g)) (hne : v.ownBlock ≠ some g) : Own w' base e size v k F :=
  h.stepO hg (.inr hne)
/-- a new block -/
theorem fresh {cs : Array Value} {cap : Nat} (hs : cs.size = cap * size) (hk : k ≤ cap) (hm : cap ≤ maxLen) (hb : base ≤ w.heap.size) (hc : ∀ j, j < k * size → cs[j]? = some (F j)) :
    Own (w.drew.alloc (.cells cs e)) base e size (.slice (some ⟨w.heap.size, 0, none⟩) k cap) k F :=
  .inr ⟨w.heap.size, cap, fun j => cs.getD j undef, rfl, hb, hk, hm, Row.fresh (w := w.drew) hs (fun i hi => by
    have : i < cs.size := by omega
    simp [this]), fun j hj => by simp [Array.getD_eq_getD_getElem?, hc j hj]⟩
end Own
theorem Row.stepO {b m : Nat} (h : Row w b e m F) {r : Option Nat} (hg : w.grownBy w' r) (hne : r ≠ some b) : Row w' b e m F := h.grown hg (fun e => hne e.symm)
theorem thenO {w0 : World} {r : Option Nat} (h : Below w0.heap.size w0 w) (hg : w.grownBy w' r) (hle : ∀ g, r = some g → w0.heap.size ≤ g) : Below w0.heap.size w0 w' := h.grown hg h.size hle
theorem grown_thenO {w0 : World} {r s : Option Nat} (h : w0.grownBy w s) (hg : w.grownBy w' r) (hle : ∀ g, r = some g → w0.heap.size ≤ g) : w0.grownBy w' s :=
  ⟨hg.os.trans h.os, hg.tape.trans h.tape, hg.output.trans h.output, Nat.le_trans h.size hg.size, fun k hk hne => (hg.block k (Nat.lt_of_lt_of_le hk h.size) (fun e => by have := hle k e.symm; omega)).trans (h.block k hk hne)⟩
theorem no_new {v v' : Value} {b : Nat} (h : v.ownBlock ≠ some b) (hb : b < w.heap.size) (hv : v'.ownBlock = v.ownBlock ∨ v'.ownBlock = some w.heap.size) : v'.ownBlock ≠ some b := by
  rcases hv with e | e
  · rw [e]; exact h
  · rw [e]; intro e'; injection e' with e'; omega
theorem own_n {k' : Nat} (h : Own w base e size v k F) (hk : k = k') : Own w base e size v k' F := hk ▸ h
theorem sep_sym {u v : Value} (h : ∀ g, u.ownBlock = some g → v.ownBlock ≠ some g) : ∀ g, v.ownBlock = some g → u.ownBlock ≠ some g := fun g hv hu => h g hu hv
theorem sep_or {u v : Value} (h : ∀ g, u.ownBlock = some g → v.ownBlock ≠ some g) : u.ownBlock = none ∨ u.ownBlock ≠ v.ownBlock := by
  cases hu : u.ownBlock with
  | none => exact .inl rfl
  | some g => exact .inr (fun e => h g hu e.symm)
theorem sep_new {u v v' : Value} (h : ∀ g, u.ownBlock = some g → v.ownBlock ≠ some g) (ho : Own w base e size u k F) (hv : v'.ownBlock = v.ownBlock ∨ v'.ownBlock = some w.heap.size) : ∀ g, u.ownBlock = some g → v'.ownBlock ≠ some g := fun g hu => by
  rcases hv with e | e
  · rw [e]; exact h g hu
  · rw [e]; intro e'; injection e' with e'; have := (ho.block_lt g hu).1; omega
theorem y_len_own {tt ee : TypeId} {wo : World} (hx : Ev n f x v) (hown : Own wo base e size v k F) (ht : P.underlying tt = some (.slice ee)) : Yields P n f (.call ⟨.builtin .len, #[x], #[tt]⟩) ty w (.int .i64 (k : Int)) := by
  rcases hown with ⟨hv, h0⟩ | ⟨g, cap, cur, hv, _⟩
  · subst hv h0; exact y_len_sl hx ht
  · subst hv; exact y_len_sl hx ht
theorem y_strown {s' d' e' : TypeId} {l : List (BitVec 8)} (hx : Ev n f x v) (hown : Own w base e 1 v k F) (hl : l.length = k) (hc : ∀ j, j < k → F j = U8 (gb l j)) (hs : P.underlying s' = some (.slice e')) (he : P.underlying e' = some (.int .u8)) (hd : P.underlying d' = some .string) :
    Yields P n f (.convert s' d' x) ty w (.string (str l)) := by
  by_cases h0 : 0 < k
  · obtain ⟨g, cap, rfl, _, _, _, hr⟩ := hown.opened h0
    exact y_str hx hl hs he hd (fun j hj => by rw [Nat.zero_add, hr.cell (by omega), hc j hj])
  · obtain rfl : k = 0 := by omega
    have hnil : l = [] := List.eq_nil_of_length_eq_zero hl
    subst hnil
    rcases hown with ⟨rfl, _⟩ | ⟨g, cap, cur, rfl, _⟩
    · exact y_str0 hx hs he hd
    · exact y_str hx rfl hs he hd (fun j hj => by omega)
/-- T{x}: a slice of one element, in a block of its own -/
theorem w_bs1 {d : Nat} {p : String} {aft : Array Edge} {m : Nat} (hx : Ev n f x v) (hr : ∀ w, (Instr.buildSlice t 1 #[(0, v)]).run P w = .ok (.slice (some ⟨w.heap.size, 0, none⟩) 1 1) (w.alloc (.cells (arr m F) e)))
    (h : ∀ b w', b = w.heap.size → Row w' b e m F → Below w.heap.size w w' → wpList P ops Q rest (fr n (up f d (.slice (some ⟨b, 0, none⟩) 1 1))) w') : wpList P ops Q (⟨some d, .buildSlice t 1 #[(0, x)], ty, p, aft, none⟩ :: rest) (fr n f) w := by
  have h1 : (fr n f).eval x = v := hx
  refine w_new (v := .slice (some ⟨w.heap.size, 0, none⟩) 1 1) (c := arr m F) (e := e) ?_ rfl (fun w' => h _ w' rfl)
  unfold execOp
  simp only [h1, List.map_toArray, List.map_cons, List.map_nil]
  rw [Sem.run_bind, hr w]
  rfl
/-- cells stored behind what is there, in room -/
theorem store_room {g a m K : Nat} {et : TypeId} {N : Nat → Value} (hr : Row w g et K F) (hfit : a + m ≤ K) (hone : ∀ j, (N j).oneCell' = true) :
    ∃ w', (storeCells ⟨g, a, none⟩ ((List.range m).map N)).run P w = .ok () w' ∧ Row w' g et K (fun j => if a ≤ j ∧ j < a + m then N (j - a) else F j) ∧ w.grownBy w' (some g) := by
  have hst := run_storeCells_cells (P := P) g a ((List.range m).map N) 0 w
    (fun j hj => by simp at hj; rw [Nat.add_zero, hr.cell (by omega)]; rfl)
    (fun j hj => by simp at hj; rw [Nat.add_zero, hr.frozen (by omega)])
    (fun v hv => by
      obtain ⟨j, hj, rfl⟩ := List.mem_map.1 hv
      exact hone j)
  simp only [Nat.add_zero] at hst
  obtain ⟨h1, h2, h3, h4⟩ := setCells_rest g ((List.range m).map N) a w
  refine ⟨_, hst, (setCells_row et g K _ a w F hr).congr (fun j _ => ?_), ⟨h1, h2, h3, by omega, fun k hk hne => setCells_other g _ a w k (fun e => hne (by rw [e]))⟩⟩
  by_cases e : a ≤ j ∧ j < a + m
  · rw [if_pos (by simpa using e), if_pos e]
    simp [show j - a < m from by omega]
  · rw [if_neg (by simpa using e), if_neg e]
theorem run_app {g off m c bytes K : Nat} {et ty' : TypeId} {i : TypeInfo} {zv : Value} (ht : P.underlying t = some (.slice e)) (hi : P.info? e = some i) (hz : i.zero = some zv) (hs : i.size = size) (hb : i.bytes = bytes) (hzs : zv.cells.size = size)
    (hown : Own w base e size v k F) (hbase : base ≤ w.heap.size) (hr : Row w g et K G) (hfit : off + m * size ≤ K)
    (hone : ∀ j, (G j).oneCell' = true) (h63 : k + m ≤ maxLen) (hby : (k + m) * bytes ≤ 140737488355328) :
    ∃ v' w', (Builtin.append_ #[t, t] ty' #[v, .slice (some ⟨g, off, none⟩) m c]).run P w = .ok v' w' ∧
      Own w' base e size v' (k + m) (fun j => if j < k * size then F j else G (off + (j - k * size))) ∧ w.grownBy w' v.ownBlock ∧ (v'.ownBlock = v.ownBlock ∨ v'.ownBlock = some w.heap.size) := by
  subst hs; subst hb
  have hsmall : k + m ≤ 9223372036854775807 := by simp only [maxLen] at h63; omega
  have hnl : ((List.range (m * i.size)).map fun j => G (off + j)).length = m * i.size := by simp
  have hnews : ∀ j u, ((List.range (m * i.size)).map fun j => G (off + j))[j]? = some u → w.cell? ((⟨g, off, none⟩ : Addr).add j) = some u := fun j u hj => by
    have hj' : j < m * i.size := by have := (List.getElem?_eq_some_iff.1 hj).1; simpa using this
    simp [hj'] at hj
    rw [Addr.add_lit, hr.cell (by omega), hj]
  have hcap : ∀ old, grownCap w (k + m) old e ≤ maxLen ∧ k + m ≤ grownCap w (k + m) old e := fun old => ⟨grownCap_le_maxLen w (k + m) old e h63, grownCap_ge w (k + m) old e⟩
  rcases hown with ⟨rfl, rfl⟩ | ⟨b, cap, G', rfl, hbg, hnc, hcm, hr', hF⟩
  · by_cases hm : m = 0
    · subst hm
      refine ⟨.slice none 0 0, w, ?_, .inl ⟨rfl, rfl⟩, grown_refl _ _, .inl rfl⟩
      simp [Builtin.append_, run_underlying ht, sizeOf, typeInfo, hi, Builtin.lenOf, Builtin.firstCells, loadCells, loadCellsFrom]
    · have hrun := run_append_nil (P := P) w t ty' e i zv ht hi hz ⟨g, off, none⟩ m c _ hnl hnews (by omega) (by omega) (by have hb := hby; simp only [Nat.zero_add] at hb; omega)
      have hc := hcap 0
      simp only [Nat.zero_add] at hc
      refine ⟨_, _, hrun, ?_, ⟨rfl, rfl, rfl, by simp, fun k hk _ => Below.heap_alloc w.drew _ k hk⟩, .inr rfl⟩
      rw [Nat.zero_add]
      refine Own.fresh ?_ hc.2 hc.1 hbase (fun j hj => ?_)
      · simp only [Array.size_append, List.size_toArray, size_zeroCells, hzs, hnl, ← Nat.add_mul]
        congr 1
        omega
      · simp [Array.getElem?_append, hj]
  · by_cases hroom : k + m ≤ cap
    · have hle : k * i.size + m * i.size ≤ cap * i.size := by rw [← Nat.add_mul]; exact Nat.mul_le_mul_right _ hroom
      obtain ⟨w', hst, hrow, hg⟩ := store_room (P := P) (N := fun j => G (off + j)) hr' hle (fun j => hone _)
      have hf := run_firstCells_some (P := P) w i.size m ⟨g, off, none⟩ m c _ hnl hnews
      refine ⟨.slice (some ⟨b, 0, none⟩) (k + m) cap, w', ?_, .inr ⟨b, cap, _, rfl, hbg, hroom, hcm, hrow, fun j hj => ?_⟩, hg, .inl rfl⟩
      · simp [Builtin.append_, run_underlying ht, sizeOf, typeInfo, hi, Builtin.lenOf, hroom, hf, Addr.add_lit, hst]
      · rw [Nat.add_mul] at hj
        by_cases e1 : j < k * i.size
        · rw [if_neg (by omega), hF j e1]; exact (if_pos e1).symm
        · rw [if_pos (by omega)]; exact (if_neg e1).symm
    · have holds : ∀ j u, ((List.range (k * i.size)).map F)[j]? = some u → w.cell? ((⟨b, 0, none⟩ : Addr).add j) = some u := fun j u hj => by
        have hj' : j < k * i.size := by have := (List.getElem?_eq_some_iff.1 hj).1; simpa using this
        simp [hj'] at hj
        have hle : k * i.size ≤ cap * i.size := Nat.mul_le_mul_right _ hnc
        rw [Addr.add_lit, Nat.zero_add, hr'.cell (by omega), hF j hj', hj]
      have hrun := run_append_grow (P := P) w t ty' e i zv ht hi hz ⟨b, 0, none⟩ k cap ((List.range (k * i.size)).map F) (by simp) holds ⟨g, off, none⟩ m c _ hnl hnews (by omega) (by omega) (growslice_fits (by omega) hby)
      have hc := hcap cap
      refine ⟨_, _, hrun, Own.fresh ?_ hc.2 hc.1 hbase (fun j hj => ?_), ⟨rfl, rfl, rfl, by simp, fun k hk _ => Below.heap_alloc w.drew _ k hk⟩, .inr rfl⟩
      · simp only [Array.size_append, List.size_toArray, size_zeroCells, hzs, hnl, List.length_map, List.length_range, ← Nat.add_mul]
        congr 1
        omega
      · rw [Nat.add_mul] at hj
        by_cases e1 : j < k * i.size
        · rw [if_pos e1]
          have hj2 : j < k * i.size + m * i.size := hj
          simp [Array.getElem?_append, e1, hj2]
        · rw [if_neg e1]
          have hj2 : j < k * i.size + m * i.size := hj
          have hj3 : j - k * i.size < m * i.size := by omega
          simp [Array.getElem?_append, e1, hj2, hj3]
          rw [List.getElem_append_right (by simp; omega)]
          simp
theorem w_app {d : Nat} {p : String} {aft : Array Edge} {g off m c bytes K : Nat} {et : TypeId} (hx : Ev n f x v) (hy : Ev n f y (.slice (some ⟨g, off, none⟩) m c)) (ht : P.underlying t = some (.slice e))
    (hinfo : (P.info? e).map (fun i => (i.zero.map (·.cells.size), i.size, i.bytes)) = some (some size, size, bytes)) (hsz : 0 < size) (hown : Own w base e size v k F) (hbase : base ≤ w.heap.size) (hr : Row w g et K G) (hfit : off + m * size ≤ K)
    (hone : ∀ j, (G j).oneCell' = true) (h63 : k + m ≤ maxLen) (hby : (k + m) * bytes ≤ 140737488355328)
    (h : ∀ v' w', Own w' base e size v' (k + m) (fun j => if j < k * size then F j else G (off + (j - k * size))) → w.grownBy w' v.ownBlock → (v'.ownBlock = v.ownBlock ∨ v'.ownBlock = some w.heap.size) → wpList P ops Q rest (fr n (up f d v')) w') :
    wpList P ops Q (⟨some d, .call ⟨.builtin .append, #[x, y], #[t, t]⟩, ty, p, aft, none⟩ :: rest) (fr n f) w :=
  wpList_plain rfl fun K' hK => by
    obtain ⟨i, hi, hi2⟩ := Option.map_eq_some_iff.1 hinfo
    simp only [Prod.mk.injEq] at hi2
    obtain ⟨hz, hs, hb⟩ := hi2
    obtain ⟨zv, hz1, hz2⟩ := Option.map_eq_some_iff.1 hz
    obtain ⟨v', w', hrun, h1, h2, h3⟩ := run_app (P := P) (ty' := ty) (c := c) ht hi hz1 hs hb hz2 hown hbase hr hfit hone h63 hby
    unfold Oper.wp
    have e1 : (fr n f).eval x = v := hx
    have e2 : (fr n f).eval y = .slice (some ⟨g, off, none⟩) m c := hy
    have hrun' : (execOp (fr n f).eval ⟨some d, .call ⟨.builtin .append, #[x, y], #[t, t]⟩, ty, p, aft, none⟩).run P w = .ok (.value v') w' := by
      simp only [execOp, resolve, Sem.run_bind, Sem.run_pure, Result.andThen_ok, List.map_toArray, List.map_cons, List.map_nil, e1, e2, invoke, builtin, hrun]
    rw [hrun']
    simp only [Oper.upon, fr_put]
    exact hK _ _ (h v' w' h1 h2 h3)
/-- []byte(s), as a slice of the call's own -/
theorem w_bytes_own {s d' : TypeId} {d : Nat} {p : String} {aft : Array Edge} {l : List (BitVec 8)} (hx : Ev n f x (.string (str l))) (hs : P.underlying s = some .string) (hd : P.underlying d' = some (.slice e)) (he : P.underlying e = some (.int .u8)) (hl : l.length ≤ maxLen) (hbase : base ≤ w.heap.size)
    (h : ∀ v' w', Own w' base e 1 v' l.length (fun j => U8 (gb l j)) → v'.ownBlock = some w.heap.size → Below w.heap.size w w' → wpList P ops Q rest (fr n (up f d v')) w') :
    wpList P ops Q (⟨some d, .convert s d' x, ty, p, aft, none⟩ :: rest) (fr n f) w :=
  wpList_plain rfl fun K hK => by
    have h1 : (fr n f).eval x = .string (str l) := hx
    have hr := run_bytes_of_string (P := P) w s d' e (str l) hs hd he
    rw [size_str] at hr
    have hc := grownCap_ge w l.length 0 e
    have hcm := grownCap_le_maxLen w l.length 0 e hl
    generalize grownCap w l.length 0 e = c at *
    have hsz : (bytesRow (str l) c).size = c := by
      have h2 : (str l).size = l.length := size_str l
      unfold bytesRow
      rw [Array.size_append, Array.size_replicate, h2, Array.size_map]
      have h3 : (str l).data.size = l.length := h2
      omega
    have hlt : ∀ i, i < l.length → (bytesRow (str l) c)[i]? = some (U8 (gb l i)) := fun i hi => by
      simp [bytesRow, str, hi, gb, U8, Array.getElem?_append]
    unfold Oper.wp
    have e1 : (execOp (fr n f).eval ⟨some d, .convert s d' x, ty, p, aft, none⟩).run P w = .ok (.value (.slice (some ⟨w.heap.size, 0, none⟩) l.length c)) (w.drew.alloc (.cells (bytesRow (str l) c) e ((bytesRow (str l) c).size, (bytesRow (str l) c).size + 1))) := by
      unfold execOp
      simp only [h1]
      rw [Sem.run_bind, hr]
      rfl
    rw [e1]
    simp only [Oper.upon, fr_put]
    refine hK _ _ (h _ _ (.inr ⟨w.heap.size, c, fun j => (bytesRow (str l) c).getD j undef, rfl, hbase, hc, hcm, ⟨_, _, _, heap_alloc_new w.drew _, by omega, fun i hi => ?_, .inl (by omega)⟩, fun j hj => ?_⟩) rfl ?_)
    · have : i < (bytesRow (str l) c).size := by omega
      simp [this]
    · simp [Array.getD_eq_getD_getElem?, hlt j (by omega)]
    · exact ((Below.refl _ _).drew).alloc (Nat.le_refl _) _
/-- make([]T, 0, c), as a slice of the call's own -/
theorem w_mk0 {d : Nat} {p : String} {aft : Array Edge} {c bytes : Nat} {zv : Value} {kl kc : IntKind} {a b : Int} (hx : Ev n f x (.int kl a)) (hy : Ev n f y (.int kc b)) (ha : a = 0) (hb : b = (c : Int)) (ht : P.underlying t = some (.slice e))
    (hinfo : (P.info? e).map (fun i => (i.zero, i.size, i.bytes)) = some (some zv, size, bytes)) (hbytes : bytes * c ≤ 281474976710656) (h63 : c ≤ maxLen) (hbase : base ≤ w.heap.size)
    (h : ∀ v' w', Own w' base e size v' 0 F → v'.ownBlock = some w.heap.size → Below w.heap.size w w' → wpList P ops Q rest (fr n (up f d v')) w') : wpList P ops Q (⟨some d, .makeSlice t x y, ty, p, aft, none⟩ :: rest) (fr n f) w :=
  wpList_plain rfl fun K hK => by
    obtain ⟨i, hi, hi2⟩ := Option.map_eq_some_iff.1 hinfo
    simp only [Prod.mk.injEq] at hi2
    obtain ⟨hz, hs, hby⟩ := hi2
    have h1 : (fr n f).eval x = .int kl a := hx
    have h2 : (fr n f).eval y = .int kc b := hy
    subst ha hb hs hby
    have hc63 : (c : Int) ≤ 9223372036854775807 := by have := h63; simp only [maxLen] at this; omega
    have hr := run_make (P := P) w t e i zv ht hi hz kl kc 0 (c : Int) (by omega) (by omega) (by omega) hc63
    unfold Oper.wp
    have e1 : (execOp (fr n f).eval ⟨some d, .makeSlice t x y, ty, p, aft, none⟩).run P w = .ok (.value (.slice (some ⟨w.heap.size, 0, none⟩) 0 c)) (w.alloc (.cells (madeCells zv.cells (c * i.size)) e)) := by
      unfold execOp
      simp only [h1, h2]
      rw [Sem.run_bind, hr]
      rfl
    rw [e1]
    simp only [Oper.upon, fr_put]
    refine hK _ _ (h _ _ (.inr ⟨w.heap.size, c, fun j => (madeCells zv.cells (c * i.size)).getD j undef, rfl, hbase, Nat.zero_le _, h63, Row.fresh (by rw [size_madeCells]) (fun j hj => ?_), fun j hj => absurd hj (by omega)⟩) rfl (((Below.refl _ _)).alloc (Nat.le_refl _) _))
    have : j < (madeCells zv.cells (c * i.size)).size := by rw [size_madeCells]; exact hj
    simp [this]
end
end Go.Proofs.YtkjdejadambffaaDoor
namespace Go.Proofs.YtkjdejadambffaaDoor
open Go.RowKit
set_option linter.unusedSimpArgs false
set_option linter.unusedVariables false
section
variable {P : Program} {ops : Array Oper} {Q : Exit → Act → World → Prop} {S : World → Prop} {D : Nat → Bool}
/-- whatever order is picked from here on; behind each operation that is not one of D the world is one of the class -/
def anyD (P : Program) (ops : Array Oper) (Q : Exit → Act → World → Prop) (S : World → Prop) (D : Nat → Bool) : Nat → Array Bool → Act → World → Prop
  | 0, listed, a, w => Region.ready .any ops listed = [] ∧ Q .normal a w
  | k + 1, listed, a, w =>
    (Region.ready .any ops listed = [] → Q .normal a w) ∧
    ∀ i ∈ Region.ready .any ops listed, wpOp P ops Q i (fun a' w' => (D i = false → S w → S w') ∧ anyD P ops Q S D k (listed.setIfInBounds i true) a' w') a w
theorem anyD_any : ∀ (k : Nat) (listed : Array Bool) (a : Act) (w : World), anyD P ops Q S D k listed a w → wpAny P .any ops Q k listed a w
  | 0, _, _, _, h => h
  | k + 1, _, _, _, h => ⟨h.1, fun i hi => wpOp_mono (fun a' w' h' => anyD_any k _ a' w' h'.2) (h.2 i hi)⟩
/-- each operation of D waits for i; M: what waits for i, and i -/
def late (ops : Array Oper) (D M : Nat → Bool) (i : Nat) : Bool :=
  (List.range ops.size).all fun j => (!D j || M j) && (!M j || j == i || (match ops[j]? with
    | some o => o.after.any fun e => Region.binds .any e && (decide (e.on < j) && M e.on)
    | none => false))
/-- what is listed waits for nothing that is not -/
def closedB (ops : Array Oper) (listed : Array Bool) : Bool :=
  (List.range ops.size).all fun j => !listed.getD j false || (match ops[j]? with
    | some o => o.after.all fun e => !Region.binds .any e || listed.getD e.on false
    | none => true)
def Closed (ops : Array Oper) (listed : Array Bool) : Prop := ∀ (j : Nat) (o : Oper), ops[j]? = some o → listed.getD j false = true → ∀ e ∈ o.after, Region.binds .any e = true → listed.getD e.on false = true
theorem closed_of {listed : Array Bool} (h : closedB ops listed = true) : Closed ops listed := by
  intro j o ho hj e he hb
  have hlt : j < ops.size := (Array.getElem?_eq_some_iff.1 ho).1
  have h1 := List.all_eq_true.1 h j (List.mem_range.2 hlt)
  simp only [hj, ho, Bool.not_true, Bool.false_or] at h1
  have h2 := Array.all_eq_true_iff_forall_mem.1 h1 e he
  simpa [hb] using h2
theorem Closed.set {listed : Array Bool} (h : Closed ops listed) {i : Nat} (hi : i ∈ Region.ready .any ops listed) : Closed ops (listed.setIfInBounds i true) := by
  intro j o ho hj e he hb
  obtain ⟨hun, oi, hoi, hall⟩ := mem_ready.1 hi
  refine getD_set_true ?_
  by_cases e1 : i = j
  · subst e1
    rw [ho] at hoi
    cases hoi
    exact hall e he hb
  · rw [getD_set_ne false e1] at hj
    exact h j o ho hj e he hb
theorem late_chain {M : Nat → Bool} {i : Nat} (hl : late ops D M i = true) {listed : Array Bool} (hc : Closed ops listed) : ∀ j, j < ops.size → M j = true → listed.getD j false = true → listed.getD i false = true := by
  intro j
  induction j using Nat.strongRecOn with
  | _ j ih =>
    intro hlt hm hj
    have h1 := List.all_eq_true.1 hl j (List.mem_range.2 hlt)
    simp only [hm, Bool.not_true, Bool.false_or, Bool.or_true, Bool.true_and, Bool.or_eq_true, beq_iff_eq] at h1
    rcases h1 with h1 | h1
    · rw [← h1]; exact hj
    · cases ho : ops[j]? with
      | none => simp [ho] at h1
      | some o =>
        simp only [ho] at h1
        obtain ⟨e, he, h2⟩ := Array.any_eq_true'.1 h1
        simp only [Bool.and_eq_true, decide_eq_true_eq] at h2
        exact ih e.on h2.2.1 (by omega) h2.2.2 (hc j o ho hj e he h2.1)
theorem late_waits {M : Nat → Bool} {i : Nat} (hl : late ops D M i = true) (hDi : D i = false) {listed : Array Bool} (hi : listed.getD i true = false) (hc : Closed ops listed) {j : Nat} (hj : j ∈ Region.ready .any ops listed) : D j = false := by
  cases hd : D j with
  | false => rfl
  | true =>
    obtain ⟨hun, oj, hoj, hall⟩ := mem_ready.1 hj
    have hlt : j < ops.size := (Array.getElem?_eq_some_iff.1 hoj).1
    have h1 := List.all_eq_true.1 hl j (List.mem_range.2 hlt)
    simp only [hd, hoj, Bool.not_true, Bool.false_or, Bool.and_eq_true] at h1
    have hm : M j = true := h1.1
    simp only [hm, Bool.not_true, Bool.false_or, true_and, Bool.or_eq_true, beq_iff_eq] at h1
    rcases h1 with h1 | h1
    · subst h1; rw [hDi] at hd; cases hd
    · obtain ⟨e, he, h2⟩ := Array.any_eq_true'.1 h1
      simp only [Bool.and_eq_true, decide_eq_true_eq] at h2
      have h3 := late_chain hl hc e.on (by omega) h2.2.2 (hall e he h2.1)
      rw [getD_both hi] at h3
      cases h3
theorem anyD_load {i : Nat} {oi : Oper} {v : Value} {M : Nat → Bool} (hi : ops[i]? = some oi) (hsel : ∀ (j : Nat) (o : Oper) cs b, ops[j]? = some o → o.op ≠ .select cs b)
    (hQ : ∀ c a w, Q (.panic c) (a.put oi.dst v) w → Q (.panic c) a w) (hl : late ops D M i = true) (hDi : D i = false) :
    ∀ (k : Nat) (listed : Array Bool) (a : Act) (w : World),
      (∀ j oj, ops[j]? = some oj → j ≠ i → listed.getD j true = false → (∀ e ∈ oj.after, Region.binds .any e = true → e.on ≠ i) → oi.apart ops oj = true) →
      i ∈ Region.ready .any ops listed → Closed ops listed → YieldsIf P ops S oi v a → S w →
      anyD P ops Q S D k (listed.setIfInBounds i true) (a.put oi.dst v) w → anyD P ops Q S D (k + 1) listed a w := by
  intro k
  induction k with
  | zero =>
    intro listed a w _ hr _ hy hS H
    refine ⟨fun h => (by rw [h] at hr; cases hr), fun j hj => ?_⟩
    by_cases hji : j = i
    · subst hji; exact hy.wpOp hi hS ⟨fun _ h => h, H⟩
    · have := ready_mono hj hji
      rw [H.1] at this
      cases this
  | succ k ih =>
    intro listed a w hfree hr hD hy hS H
    refine ⟨fun h => (by rw [h] at hr; cases hr), fun j hj => ?_⟩
    have hun := (mem_ready.1 hr).1
    by_cases hji : j = i
    · subst hji; exact hy.wpOp hi hS ⟨fun _ h => h, H⟩
    · have h1 := H.2 j (ready_mono hj hji)
      obtain ⟨hjun, oj, hoj, hall⟩ := mem_ready.1 hj
      have hnot : ∀ e ∈ oj.after, Region.binds .any e = true → e.on ≠ i := fun e he hb heq => by
        have h1 := hall e he hb
        rw [heq, getD_both hun] at h1
        cases h1
      have h2 := wpOp_putIf hoj (hfree j oj hoj hji hjun hnot) (fun cs b => hsel i oi cs b hi) (fun cs b => hsel j oj cs b hoj) hQ hy h1
      have hfree' : ∀ m om, ops[m]? = some om → m ≠ i → (listed.setIfInBounds j true).getD m true = false →
          (∀ e ∈ om.after, Region.binds .any e = true → e.on ≠ i) → oi.apart ops om = true := fun m om hm hmi hun hno => by
        refine hfree m om hm hmi ?_ hno
        by_cases hjm : j = m
        · subst hjm; exact hjun
        · rw [getD_set_ne true hjm] at hun; exact hun
      refine wpOp_mono (fun a' w' h3 => ⟨h3.2.1, ih (listed.setIfInBounds j true) a' w' hfree' (ready_mono hr (Ne.symm hji)) (hD.set hj) h3.1 (h3.2.1 (late_waits hl hDi hun hD hj) hS) ?_⟩) h2
      rw [Array.setIfInBounds_comm _ _ hji]
      exact h3.2.2
theorem anyD_pure {i : Nat} {oi : Oper} {v : Value} (hi : ops[i]? = some oi) (hsel : ∀ (j : Nat) (o : Oper) cs b, ops[j]? = some o → o.op ≠ .select cs b)
    (hQ : ∀ c a w, Q (.panic c) (a.put oi.dst v) w → Q (.panic c) a w) :
    ∀ (k : Nat) (listed : Array Bool) (a : Act) (w : World),
      (∀ j oj, ops[j]? = some oj → j ≠ i → listed.getD j true = false → (∀ e ∈ oj.after, Region.binds .any e = true → e.on ≠ i) → oi.apart ops oj = true) →
      i ∈ Region.ready .any ops listed → Closed ops listed → YieldsIf P ops (fun _ => True) oi v a → (fun _ => True) w →
      anyD P ops Q S D k (listed.setIfInBounds i true) (a.put oi.dst v) w → anyD P ops Q S D (k + 1) listed a w := by
  intro k
  induction k with
  | zero =>
    intro listed a w _ hr _ hy hS H
    refine ⟨fun h => (by rw [h] at hr; cases hr), fun j hj => ?_⟩
    by_cases hji : j = i
    · subst hji; exact hy.wpOp hi hS ⟨fun _ h => h, H⟩
    · have := ready_mono hj hji
      rw [H.1] at this
      cases this
  | succ k ih =>
    intro listed a w hfree hr hD hy hS H
    refine ⟨fun h => (by rw [h] at hr; cases hr), fun j hj => ?_⟩
    have hun := (mem_ready.1 hr).1
    by_cases hji : j = i
    · subst hji; exact hy.wpOp hi hS ⟨fun _ h => h, H⟩
    · have h1 := H.2 j (ready_mono hj hji)
      obtain ⟨hjun, oj, hoj, hall⟩ := mem_ready.1 hj
      have hnot : ∀ e ∈ oj.after, Region.binds .any e = true → e.on ≠ i := fun e he hb heq => by
        have h1 := hall e he hb
        rw [heq, getD_both hun] at h1
        cases h1
      have h2 := wpOp_putIf hoj (hfree j oj hoj hji hjun hnot) (fun cs b => hsel i oi cs b hi) (fun cs b => hsel j oj cs b hoj) hQ hy h1
      have hfree' : ∀ m om, ops[m]? = some om → m ≠ i → (listed.setIfInBounds j true).getD m true = false →
          (∀ e ∈ om.after, Region.binds .any e = true → e.on ≠ i) → oi.apart ops om = true := fun m om hm hmi hun hno => by
        refine hfree m om hm hmi ?_ hno
        by_cases hjm : j = m
        · subst hjm; exact hjun
        · rw [getD_set_ne true hjm] at hun; exact hun
      refine wpOp_mono (fun a' w' h3 => ⟨h3.2.1, ih (listed.setIfInBounds j true) a' w' hfree' (ready_mono hr (Ne.symm hji)) (hD.set hj) h3.1 trivial ?_⟩) h2
      rw [Array.setIfInBounds_comm _ _ hji]
      exact h3.2.2
/-! the moves -/
variable {n k : Nat} {f : Nat → Value} {w : World} {listed : Array Bool} {i : Nat} {o : Oper}
theorem region_d {id : Nat} {a : Act} {l : List Oper} (S : World → Prop) (D : Nat → Bool) (m : Nat) (hm : P.follows .mixedOrders = true) (hs : l.length = m)
    (h : ∀ w', Below w.heap.size w w' → anyD P l.toArray Q S D m (Array.replicate m false) a w') : (Code.region id l.toArray true).wp P Q a w := by
  refine wp_region_any hm (anyD_any (S := S) (D := D) _ _ _ _ ?_)
  have e : l.toArray.size = m := by simpa using hs
  rw [e]
  exact h _ ⟨rfl, rfl, rfl, Nat.le_refl _, fun _ _ => rfl⟩
theorem region_dc {id : Nat} {a : Act} {l : List Oper} (D : Nat → Bool) (m : Nat) (hm : P.follows .mixedOrders = true) (hs : l.length = m)
    (h : ∀ w', Below w.heap.size w w' → anyD P l.toArray Q (Cls w') D m (Array.replicate m false) a w') : (Code.region id l.toArray true).wp P Q a w := by
  refine wp_region_any hm (anyD_any (S := Cls w.drew) (D := D) _ _ _ _ ?_)
  have e : l.toArray.size = m := by simpa using hs
  rw [e]
  exact h w.drew ⟨rfl, rfl, rfl, Nat.le_refl _, fun _ _ => rfl⟩
/-- number i is taken first: it yields its value in every world of the class -/
theorem d_take (i : Nat) (M : Nat → Bool) {op : Op} {ty : TypeId} {d : Nat} {p : String} {aft : Array Edge} {v : Value} (hi : ops[i]? = some ⟨some d, op, ty, p, aft, none⟩) (hs : Region.noSelect ops = true) (hf : Region.free .any ops listed i = true) (hr : (Region.ready .any ops listed).contains i = true)
    (hl : late ops D M i = true) (hD : closedB ops listed = true) (hDi : D i = false)
    (hQ : ∀ c a w, Q (.panic c) (a.put (some d) v) w → Q (.panic c) a w) (hS : S w) (hy : ∀ w, S w → Yields P n f op ty w v)
    (h : anyD P ops Q S D k (listed.setIfInBounds i true) (fr n (up f d v)) w) : anyD P ops Q S D (k + 1) listed (fr n f) w :=
  anyD_load hi (Region.noSelect_spec hs) hQ hl hDi k listed _ w (Region.free_spec hi hf) (by simpa using hr) (closed_of hD) (.inl ⟨rfl, hy⟩) hS (by rw [fr_put]; exact h)
/-- .. in every world -/
theorem d_pure (i : Nat) {op : Op} {ty : TypeId} {d : Nat} {p : String} {aft : Array Edge} {v : Value} (hi : ops[i]? = some ⟨some d, op, ty, p, aft, none⟩) (hs : Region.noSelect ops = true) (hf : Region.free .any ops listed i = true) (hr : (Region.ready .any ops listed).contains i = true)
    (hD : closedB ops listed = true)
    (hQ : ∀ c a w, Q (.panic c) (a.put (some d) v) w → Q (.panic c) a w) (hy : ∀ w, Yields P n f op ty w v)
    (h : anyD P ops Q S D k (listed.setIfInBounds i true) (fr n (up f d v)) w) : anyD P ops Q S D (k + 1) listed (fr n f) w :=
  anyD_pure hi (Region.noSelect_spec hs) hQ k listed _ w (Region.free_spec hi hf) (by simpa using hr) (closed_of hD) (.inl ⟨rfl, fun w _ => hy w⟩) trivial (by rw [fr_put]; exact h)
theorem wpOp_list {K : Act → World → Prop} {a : Act} (hi : ops[i]? = some o) (h : wpList P ops (Exit.then K Q) [o] a w) : wpOp P ops Q i K a w := by
  unfold wpOp
  simp only [hi]
  unfold wpList at h
  split
  · rename_i hw
    rw [if_pos hw] at h
    rcases h with h | ⟨h1, h2⟩
    · refine .inl ?_
      unfold Oper.wp at *
      generalize (execOp a.eval o).run P w = r at *
      cases r with
      | ok nx w' =>
        cases nx <;> simp only [Oper.upon] at h ⊢
        case value u => exact h
        case skip => exact h
        case defer d => exact h
        case enter f args =>
          refine Calls.mono h fun e w'' he => ?_
          cases e with
          | returned u => exact he
          | panicked c => exact he
          | outgrown => exact he
        case row row args => exact h
      | halt x w' =>
        cases x <;> simp only [Oper.upon] at h ⊢
        case panic u => exact h
    · exact .inr ⟨h1, h2⟩
  · rename_i hw
    rw [if_neg hw] at h
    exact h
theorem d_one (i : Nat) {a : Act} (hr : Region.ready .any ops listed = [i]) (hi : ops[i]? = some o)
    (h : wpList P ops (Exit.then (fun a' w' => (D i = false → S w → S w') ∧ anyD P ops Q S D k (listed.setIfInBounds i true) a' w') Q) [o] a w) : anyD P ops Q S D (k + 1) listed a w :=
  ⟨fun h0 => (by rw [hr] at h0; cases h0), fun j hj => by
    rw [hr, List.mem_singleton] at hj
    subst hj
    exact wpOp_list hi h⟩
theorem d_two (i j : Nat) {o' : Oper} {a : Act} (hr : Region.ready .any ops listed = [i, j]) (hi : ops[i]? = some o) (hj : ops[j]? = some o')
    (h : wpList P ops (Exit.then (fun a' w' => (D i = false → S w → S w') ∧ anyD P ops Q S D k (listed.setIfInBounds i true) a' w') Q) [o] a w)
    (h' : wpList P ops (Exit.then (fun a' w' => (D j = false → S w → S w') ∧ anyD P ops Q S D k (listed.setIfInBounds j true) a' w') Q) [o'] a w) : anyD P ops Q S D (k + 1) listed a w :=
  ⟨fun h0 => (by rw [hr] at h0; cases h0), fun m hm => by
    rw [hr] at hm
    simp only [List.mem_cons, List.not_mem_nil, or_false] at hm
    rcases hm with rfl | rfl
    · exact wpOp_list hi h
    · exact wpOp_list hj h'⟩
theorem d_three (i j m : Nat) {o' o'' : Oper} {a : Act} (hr : Region.ready .any ops listed = [i, j, m]) (hi : ops[i]? = some o) (hj : ops[j]? = some o') (hm : ops[m]? = some o'')
    (h : wpList P ops (Exit.then (fun a' w' => (D i = false → S w → S w') ∧ anyD P ops Q S D k (listed.setIfInBounds i true) a' w') Q) [o] a w)
    (h' : wpList P ops (Exit.then (fun a' w' => (D j = false → S w → S w') ∧ anyD P ops Q S D k (listed.setIfInBounds j true) a' w') Q) [o'] a w)
    (h'' : wpList P ops (Exit.then (fun a' w' => (D m = false → S w → S w') ∧ anyD P ops Q S D k (listed.setIfInBounds m true) a' w') Q) [o''] a w) : anyD P ops Q S D (k + 1) listed a w :=
  ⟨fun h0 => (by rw [hr] at h0; cases h0), fun q hq => by
    rw [hr] at hq
    simp only [List.mem_cons, List.not_mem_nil, or_false] at hq
    rcases hq with rfl | rfl | rfl
    · exact wpOp_list hi h
    · exact wpOp_list hj h'
    · exact wpOp_list hm h''⟩
theorem d_done {a : Act} (hr : Region.ready .any ops listed = []) (h : Q .normal a w) : anyD P ops Q S D k listed a w := by
  cases k with
  | zero => exact ⟨hr, h⟩
  | succ k => exact ⟨fun _ => h, by rw [hr]; simp⟩
end
end Go.Proofs.YtkjdejadambffaaDoor
namespace Go.Proofs.YtkjdejadambffaaDoor
open Go.RowKit
set_option linter.unusedSimpArgs false
set_option linter.unusedVariables false
section
variable {P : Program} {ops : Array Oper} {Q : Exit → Act → World → Prop} {w w' : World} {rest : List Oper} {n : Nat} {f : Nat → Value}
variable {ty : TypeId} {x y z : Operand} {v vx vy vz : Value} {t e : TypeId} {F G : Nat → Value}
theorem want_un {o : Oper} {j d : Nat} {b : Bool} {f : Nat → Value} (hg : o.guard = some (j, b)) (hj : (ops[j]?).bind (·.dst) = some d) (hv : Ev n f (.tmp d) undef) (hd : Nat.blt d n = true) : Region.wanted o (yielded ops (fr n f).tmps) = false := by
  have hd' : d < n := by simpa using hd
  have e : f d = undef := by simpa [Ev, fr, Act.eval, hd'] using hv
  simp [Region.wanted, hg, yielded, hj, fr, hd', e, undef]
theorem b_eqs_same {p : List (BitVec 8)} : Bin P .eql t (.string (str p)) (.string (str p)) (.bool true) := by
  have h := b_eqs (P := P) (t := t) (p := p) (q := p)
  rwa [show decide (p = p) = true from decide_eq_true rfl] at h
theorem b_nes_same {p : List (BitVec 8)} : Bin P .neq t (.string (str p)) (.string (str p)) (.bool false) := by
  have h := b_nes (P := P) (t := t) (p := p) (q := p)
  rwa [show decide (p ≠ p) = false from decide_eq_false (fun e => e rfl)] at h
theorem run_copys {t2 : TypeId} {g off m c K : Nat} {et : TypeId} {l : List (BitVec 8)} (ht : P.underlying t = some (.slice e)) (hsz : (P.info? e).map (·.size) = some 1) (hr : Row w g et K F) (hfit : off + m ≤ K) :
    ∃ w', (Builtin.copy_ #[t, t2] ty #[.slice (some ⟨g, off, none⟩) m c, .string (str l)]).run P w = .ok (.int .i64 ((min l.length m : Nat) : Int)) w' ∧
      Row w' g et K (fun j => if off ≤ j ∧ j < off + min l.length m then U8 (gb l (j - off)) else F j) ∧ w.grownBy w' (some g) ∧ w'.heap.size = w.heap.size := by
  obtain ⟨i, hi, hs⟩ := Option.map_eq_some_iff.1 hsz
  have hsize : (sizeOf e).run P w = .ok 1 w := by simp [sizeOf, typeInfo, hi, hs]
  have hcells : (((str l).extract 0 (min l.length m)).data.map fun b => Value.int .u8 b.toNat).toList = (List.range (min l.length m)).map fun j => U8 (gb l j) := by
    apply List.ext_getElem
    · simp [str]
    · intro j h1 h2
      have hj : j < min l.length m := by simpa using h2
      simp only [Array.getElem_toList, Array.getElem_map, List.getElem_map, List.getElem_range]
      have hj2 : j < l.length := by omega
      simp [str, ByteArray.extract, ByteArray.copySlice, gb, hj2, U8]
  have hst := run_storeCells_cells (P := P) g off ((List.range (min l.length m)).map fun j => U8 (gb l j)) 0 w
    (fun j hj => by simp at hj; rw [Nat.add_zero, hr.cell (by omega)]; rfl)
    (fun j hj => by simp at hj; rw [Nat.add_zero, hr.frozen (by omega)])
    (fun v hv => by
      obtain ⟨j, hj, rfl⟩ := List.mem_map.1 hv
      exact U8.oneCell _)
  simp only [Nat.add_zero] at hst
  obtain ⟨h1, h2, h3, h4⟩ := setCells_rest g ((List.range (min l.length m)).map fun j => U8 (gb l j)) off w
  refine ⟨_, ?_, (setCells_row et g K _ off w F hr).congr (fun j _ => ?_), ⟨h1, h2, h3, by omega, fun k hk hne => setCells_other g _ off w k (fun e => hne (by rw [e]))⟩, h4⟩
  · have hlen : (Builtin.lenOf (.string (str l))).run P w = .ok l.length w := by simp [Builtin.lenOf, size_str]
    have hfc : (Builtin.firstCells 1 (min l.length m) (.string (str l))).run P w = .ok (((str l).extract 0 (min l.length m)).data.map fun b => Value.int .u8 b.toNat) w := rfl
    generalize (((str l).extract 0 (min l.length m)).data.map fun b => Value.int .u8 b.toNat) = cells at hcells hfc
    have hmin : Nat.min l.length m = min l.length m := rfl
    unfold Builtin.copy_
    simp only [List.getElem?_toArray, List.getElem?_cons_zero, List.getElem?_cons_succ, Sem.run_bind, run_underlying ht, Result.andThen_ok, hlen, hsize, hmin, hfc, hcells, hst, Sem.run_pure, goInt]
  · by_cases e : off ≤ j ∧ j < off + min l.length m
    · rw [if_pos (by simpa using e), if_pos e]
      simp [show j - off < min l.length m from by omega]
    · rw [if_neg (by simpa using e), if_neg e]
theorem w_copys {d : Nat} {p : String} {aft : Array Edge} {t2 : TypeId} {g off m c K : Nat} {et : TypeId} {l : List (BitVec 8)} (hx : Ev n f x (.slice (some ⟨g, off, none⟩) m c)) (hy : Ev n f y (.string (str l))) (ht : P.underlying t = some (.slice e)) (hsz : (P.info? e).map (·.size) = some 1) (hr : Row w g et K F) (hfit : off + m ≤ K)
    (h : ∀ w', Row w' g et K (fun j => if off ≤ j ∧ j < off + min l.length m then U8 (gb l (j - off)) else F j) → w.grownBy w' (some g) → w'.heap.size = w.heap.size → wpList P ops Q rest (fr n (up f d (.int .i64 ((min l.length m : Nat) : Int)))) w') :
    wpList P ops Q (⟨some d, .call ⟨.builtin .copy, #[x, y], #[t, t2]⟩, ty, p, aft, none⟩ :: rest) (fr n f) w :=
  wpList_plain rfl fun K' hK => by
    obtain ⟨w', hrun, h1, h2, h3⟩ := run_copys (ty := ty) (t2 := t2) (c := c) (l := l) ht hsz hr hfit
    unfold Oper.wp
    have e1 : (fr n f).eval x = .slice (some ⟨g, off, none⟩) m c := hx
    have e2 : (fr n f).eval y = .string (str l) := hy
    have hrun' : (execOp (fr n f).eval ⟨some d, .call ⟨.builtin .copy, #[x, y], #[t, t2]⟩, ty, p, aft, none⟩).run P w = .ok (.value (.int .i64 ((min l.length m : Nat) : Int))) w' := by
      simp only [execOp, resolve, Sem.run_bind, Sem.run_pure, Result.andThen_ok, List.map_toArray, List.map_cons, List.map_nil, e1, e2, invoke, builtin, hrun]
    rw [hrun']
    simp only [Oper.upon, fr_put]
    exact hK _ _ (h w' h1 h2 h3)
theorem w_copys_ {p : String} {aft : Array Edge} {t2 : TypeId} {g off m c K : Nat} {et : TypeId} {l : List (BitVec 8)} (hx : Ev n f x (.slice (some ⟨g, off, none⟩) m c)) (hy : Ev n f y (.string (str l))) (ht : P.underlying t = some (.slice e)) (hsz : (P.info? e).map (·.size) = some 1) (hr : Row w g et K F) (hfit : off + m ≤ K)
    (h : ∀ w', Row w' g et K (fun j => if off ≤ j ∧ j < off + min l.length m then U8 (gb l (j - off)) else F j) → w.grownBy w' (some g) → w'.heap.size = w.heap.size → wpList P ops Q rest (fr n f) w') :
    wpList P ops Q (⟨none, .call ⟨.builtin .copy, #[x, y], #[t, t2]⟩, ty, p, aft, none⟩ :: rest) (fr n f) w :=
  wpList_plain rfl fun K' hK => by
    obtain ⟨w', hrun, h1, h2, h3⟩ := run_copys (ty := ty) (t2 := t2) (c := c) (l := l) ht hsz hr hfit
    unfold Oper.wp
    have e1 : (fr n f).eval x = .slice (some ⟨g, off, none⟩) m c := hx
    have e2 : (fr n f).eval y = .string (str l) := hy
    have hrun' : (execOp (fr n f).eval ⟨none, .call ⟨.builtin .copy, #[x, y], #[t, t2]⟩, ty, p, aft, none⟩).run P w = .ok (.value (.int .i64 ((min l.length m : Nat) : Int))) w' := by
      simp only [execOp, resolve, Sem.run_bind, Sem.run_pure, Result.andThen_ok, List.map_toArray, List.map_cons, List.map_nil, e1, e2, invoke, builtin, hrun]
    rw [hrun']
    simp only [Oper.upon, Act.put]
    exact hK _ _ (h w' h1 h2 h3)
theorem run_appends {base K0 : Nat} {tu ty' : TypeId} {i : TypeInfo} {v : Value} {l : List (BitVec 8)} (ht : P.underlying t = some (.slice e)) (hu : P.underlying tu = some .string) (hi : P.info? e = some i) (hz : i.zero = some (.int .u8 0)) (hs : i.size = 1) (hb : i.bytes = 1)
    (hown : Own w base e 1 v K0 F) (hbase : base ≤ w.heap.size) (h63 : K0 + l.length ≤ 140737488355328) :
    ∃ v' w', (Builtin.append_ #[t, tu] ty' #[v, .string (str l)]).run P w = .ok v' w' ∧ Own w' base e 1 v' (K0 + l.length) (fun j => if j < K0 * 1 then F j else U8 (gb l (0 + (j - K0 * 1)))) ∧ w.grownBy w' v.ownBlock ∧
      (v'.ownBlock = v.ownBlock ∨ v'.ownBlock = some w.heap.size) := by
  have hsz : (str l).size = l.length := size_str l
  have e4 : Lib.strCells (str l) = (List.range l.length).map fun j => U8 (gb l j) := by
    apply List.ext_getElem
    · rw [Lib.strCells_length, hsz]; simp
    · intro j h1 h2
      have hj : j < l.length := by simpa using h2
      simp [Lib.strCells, str, gb, hj, U8]
  have h63' : K0 + l.length ≤ maxLen := by unfold maxLen; omega
  have hcap : ∀ old, grownCap w (K0 + l.length) old e ≤ maxLen ∧ K0 + l.length ≤ grownCap w (K0 + l.length) old e := fun old => ⟨grownCap_le_maxLen w _ old e h63', grownCap_ge w _ old e⟩
  rcases hown with ⟨rfl, rfl⟩ | ⟨b, cap, G', rfl, hbg, hnc, hcm, hr', hF⟩
  · by_cases hm : l.length = 0
    · have hl0 : l = [] := List.eq_nil_of_length_eq_zero hm
      subst hl0
      obtain ⟨v', w', hr, h2, h3, h4⟩ := Lib.run_append_own_string (P := P) w base t tu ty' e i ht hu hi hz hs hb (.slice none 0 0) 0 _ (World.ownsRow_nil w base e 1) (str []) (by rw [hsz]; unfold maxLen; simp) (by rw [hsz]; simp) hbase
      rw [hsz] at h4
      have hv := h4.2 ⟨rfl, rfl⟩
      subst hv
      exact ⟨_, w', hr, .inl ⟨rfl, rfl⟩, h3, .inl rfl⟩
    · have hrun := run_append_nil_string (P := P) w t tu ty' e i (.int .u8 0) ht hu hi hz (str l) (by omega) (by omega) (by rw [hb]; omega)
      have hc := hcap 0
      simp only [Nat.zero_add] at hc
      have e5 : Array.map (fun b => Value.int .u8 b.toNat) (str l).data = (Lib.strCells (str l)).toArray := by
        apply Array.ext'
        simp [Lib.strCells]
      rw [hsz, e5, e4] at hrun
      refine ⟨_, _, hrun, ?_, ⟨rfl, rfl, rfl, by simp, fun k hk _ => Below.heap_alloc w.drew _ k hk⟩, .inr rfl⟩
      rw [Nat.zero_add]
      refine Own.fresh ?_ hc.2 hc.1 hbase (fun j hj => ?_)
      · simp only [Array.size_append, List.size_toArray, size_zeroCells, List.length_map, List.length_range]
        show l.length + (grownCap w l.length 0 e - l.length) * 1 = grownCap w l.length 0 e * 1
        omega
      · have hj' : j < l.length := by omega
        simp [Array.getElem?_append, hj']
  · by_cases hroom : K0 + l.length ≤ cap
    · obtain ⟨w', hst, hrow, hg⟩ := store_room (P := P) (a := K0) (m := l.length) (N := fun j => U8 (gb l j)) hr' (by omega) (fun j => U8.oneCell _)
      refine ⟨.slice (some ⟨b, 0, none⟩) (K0 + l.length) cap, w', ?_, .inr ⟨b, cap, _, rfl, hbg, hroom, hcm, hrow, fun j hj => ?_⟩, hg, .inl rfl⟩
      · have hf := Lib.run_firstCells_string (P := P) w 1 (str l)
        rw [← e4] at hst
        have hsz' : (str l).size = l.length := hsz
        rw [hsz] at hf
        simp [Builtin.append_, run_underlying ht, run_underlying hu, sizeOf, typeInfo, hi, hs, Builtin.lenOf, hsz, hroom, hf, Addr.add_lit, hst]
      · by_cases e1 : j < K0 * 1
        · rw [if_neg (by omega), hF j e1]; exact (if_pos e1).symm
        · rw [if_pos (by omega)]; refine Eq.trans ?_ (if_neg e1).symm; congr 2; omega
    · have holds : ∀ j u, ((List.range (K0 * 1)).map F)[j]? = some u → w.cell? ((⟨b, 0, none⟩ : Addr).add j) = some u := fun j u hj => by
        have hj' : j < K0 * 1 := by have := (List.getElem?_eq_some_iff.1 hj).1; simpa using this
        rw [List.getElem?_map, List.getElem?_range hj'] at hj
        rw [Addr.add_lit, Nat.zero_add, hr'.cell (by omega), hF j hj']
        exact hj
      have hrun := Lib.run_append_grow_string (P := P) w t tu ty' e i (.int .u8 0) ht hu hi hz ⟨b, 0, none⟩ K0 cap ((List.range (K0 * 1)).map F) (by rw [hs]; simp) holds (str l) (by omega) (by omega) (by rw [hb]; exact growslice_fits (by omega) (by omega))
      have hc := hcap cap
      rw [hsz, e4] at hrun
      refine ⟨_, _, hrun, Own.fresh ?_ hc.2 hc.1 hbase (fun j hj => ?_), ⟨rfl, rfl, rfl, by simp, fun k hk _ => Below.heap_alloc w.drew _ k hk⟩, .inr rfl⟩
      · simp only [Array.size_append, List.size_toArray, size_zeroCells, List.length_map, List.length_range]
        show K0 * 1 + l.length + (grownCap w (K0 + l.length) cap e - (K0 + l.length)) * 1 = grownCap w (K0 + l.length) cap e * 1
        omega
      · have hj' : j < K0 + l.length := by omega
        by_cases e1 : j < K0 * 1
        · rw [if_pos e1]
          have e2 : j < K0 := by omega
          simp [Array.getElem?_append, e2, hj']
        · rw [if_neg e1]
          have e2 : ¬ j < K0 := by omega
          have hj3 : j - K0 < l.length := by omega
          simp [Array.getElem?_append, e2, hj', hj3]
          rw [List.getElem_append_right (by simp; omega)]
          simp
theorem w_apps {d base K0 : Nat} {p : String} {aft : Array Edge} {tu : TypeId} {l : List (BitVec 8)} (hx : Ev n f x v) (hy : Ev n f y (.string (str l))) (ht : P.underlying t = some (.slice e)) (hu : P.underlying tu = some .string)
    (hinfo : (P.info? e).map (fun i => (i.zero, i.size, i.bytes)) = some (some (.int .u8 0), 1, 1)) (hown : Own w base e 1 v K0 F) (hbase : base ≤ w.heap.size) (h63 : K0 + l.length ≤ 140737488355328)
    (h : ∀ v' w', Own w' base e 1 v' (K0 + l.length) (fun j => if j < K0 * 1 then F j else U8 (gb l (0 + (j - K0 * 1)))) → w.grownBy w' v.ownBlock → (v'.ownBlock = v.ownBlock ∨ v'.ownBlock = some w.heap.size) → wpList P ops Q rest (fr n (up f d v')) w') :
    wpList P ops Q (⟨some d, .call ⟨.builtin .append, #[x, y], #[t, tu]⟩, ty, p, aft, none⟩ :: rest) (fr n f) w :=
  wpList_plain rfl fun K' hK => by
    obtain ⟨i, hi, hi2⟩ := Option.map_eq_some_iff.1 hinfo
    simp only [Prod.mk.injEq] at hi2
    obtain ⟨hz, hs, hb⟩ := hi2
    obtain ⟨v', w', hrun, h1, h2, h3⟩ := run_appends (P := P) (t := t) (ty' := ty) (l := l) ht hu hi hz hs hb hown hbase h63
    unfold Oper.wp
    have e1 : (fr n f).eval x = v := hx
    have e2 : (fr n f).eval y = .string (str l) := hy
    have hrun' : (execOp (fr n f).eval ⟨some d, .call ⟨.builtin .append, #[x, y], #[t, tu]⟩, ty, p, aft, none⟩).run P w = .ok (.value v') w' := by
      simp only [execOp, resolve, Sem.run_bind, Sem.run_pure, Result.andThen_ok, List.map_toArray, List.map_cons, List.map_nil, e1, e2, invoke, builtin, hrun]
    rw [hrun']
    simp only [Oper.upon, fr_put]
    exact hK _ _ (h v' w' h1 h2 h3)
theorem y_slnil {hi : Option Operand} (hx : Ev n f x (.slice none 0 0)) (hh : evo n f hi (some (.int .i64 0))) (ht : P.underlying t = some (.slice e)) (hi1 : (P.info? e).map (·.size) = some 1) :
    Yields P n f (.slice t x none hi none) ty w (.slice none 0 0) := by
  have h1 : (fr n f).eval x = .slice none 0 0 := hx
  have h3 : hi.map (fr n f).eval = some (.int .i64 0) := hh
  obtain ⟨i, hq, hs⟩ := Option.map_eq_some_iff.1 hi1
  have hsz : (sizeOf e).run P w = .ok 1 w := by simp [sizeOf, typeInfo, hq, hs]
  have e' := (bnd_h (P := P) (s := true) (k' := .i64) (c := (0 : Int)) (h := 0) (len := 0) (cap := 0) rfl (Nat.le_refl 0)) w
  unfold Yields execOp
  simp only [h1, h3]
  simp [Instr.sliceAt, Instr.slice, Sem.run_bind, run_underlying ht, hsz, e']
/-- a function value is called -/
theorem w_callv {d : Nat} {p : String} {aft : Array Edge} {k : FuncId} {fn : Func} {c : Code} {args : Array Operand} {tys : Array TypeId} {vs caps all : Array Value} {R : Ending → World → Prop} (hz : Ev n f z (.func (.func k) #[] caps)) (hf : P.funcs[k]? = some fn) (hname : (fn.name == "runtime.NumGoroutine") = false) (hb : fn.body = some c)
    (ha : args.map (fr n f).eval = vs) (hall : vs ++ caps = all) (hc : Calls P k all w R) (h : ∀ e w', R e w' → ∃ v, e = .returned v ∧ wpList P ops Q rest (fr n (up f d v)) w') : wpList P ops Q (⟨some d, .call ⟨.value z, args, tys⟩, ty, p, aft, none⟩ :: rest) (fr n f) w :=
  wpList_plain rfl fun K hK => by
    subst hall
    have hz' : (fr n f).eval z = .func (.func k) #[] caps := hz
    unfold Oper.wp
    have e1 : (execOp (fr n f).eval ⟨some d, .call ⟨.value z, args, tys⟩, ty, p, aft, none⟩).run P w = .ok (.enter k (vs ++ caps)) w := by
      simp only [execOp, resolve, ha, hz', Sem.run_bind, Deferred.ofValue, Sem.run_pure, Result.andThen_ok, invoke, Array.append_empty, Array.empty_append]
      exact MuLone.run_callFunc_enter hf hname hb _ _
    rw [e1]
    simp only [Oper.upon]
    refine hc.mono fun e w' he => ?_
    obtain ⟨v, rfl, h'⟩ := h e w' he
    show K ((fr n f).put (some d) v) w'
    rw [fr_put]
    exact hK _ _ h'
end
end Go.Proofs.YtkjdejadambffaaDoor
namespace Go.Proofs.YtkjdejadambffaaDoor
open Go.RowKit
set_option linter.unusedSimpArgs false
set_option linter.unusedVariables false
section
variable {P : Program} {ops : Array Oper} {Q : Exit → Act → World → Prop} {w w' : World} {rest : List Oper} {n : Nat} {f : Nat → Value}
variable {ty : TypeId} {x y z : Operand} {v vx vy vz : Value} {t e : TypeId} {F G : Nat → Value}
/-- T{x, y, ..}: a slice of some elements, in a block of its own -/
theorem w_bsn {d : Nat} {p : String} {aft : Array Edge} {m k : Nat} {ps : Array (Nat × Operand)} {vs : Array (Nat × Value)} (hp : (ps.map fun (i, x) => (i, (fr n f).eval x)) = vs)
    (hr : ∀ w, (Instr.buildSlice t k vs).run P w = .ok (.slice (some ⟨w.heap.size, 0, none⟩) k k) (w.alloc (.cells (arr m F) e)))
    (h : ∀ b w', b = w.heap.size → Row w' b e m F → Below w.heap.size w w' → wpList P ops Q rest (fr n (up f d (.slice (some ⟨b, 0, none⟩) k k))) w') : wpList P ops Q (⟨some d, .buildSlice t k ps, ty, p, aft, none⟩ :: rest) (fr n f) w := by
  refine w_new (v := .slice (some ⟨w.heap.size, 0, none⟩) k k) (c := arr m F) (e := e) ?_ rfl (fun w' => h _ w' rfl)
  unfold execOp
  simp only [hp]
  rw [Sem.run_bind, hr w]
  rfl
theorem q_unguard {C : World → Prop} {L : Act → Prop} {op : Op} {d : Option Nat} {p : String} {aft : Array Edge} {g : Option (Nat × Bool)} {a : Act} (hw : Region.wanted ⟨d, op, ty, p, aft, g⟩ (yielded ops a.tmps) = true) (h : wpQuiet P ops C L (⟨d, op, ty, p, aft, none⟩ :: rest) a) : wpQuiet P ops C L (⟨d, op, ty, p, aft, g⟩ :: rest) a := by
  unfold wpQuiet at h ⊢
  rw [if_pos (by simp [Region.wanted])] at h
  rw [if_pos hw]
  exact h
end
end Go.Proofs.YtkjdejadambffaaDoor
namespace Go.Proofs.YtkjdejadambffaaDoor
open Go.RowKit
set_option linter.unusedSimpArgs false
set_option linter.unusedVariables false
section
variable {P : Program} {w : World} {n : Nat} {f : Nat → Value}
variable {ty : TypeId} {x y : Operand} {v : Value} {t e : TypeId} {F : Nat → Value} {a : Int}
theorem y_idxa {m i : Nat} {k : IntKind} (hx : Ev n f x (.agg (arr m F))) (hy : Ev n f y (.int k a)) (ht : P.underlying t = some (.array m e)) (hu : (P.underlying e).map scal = some true) (hs : (P.info? e).map (·.size) = some 1) (hi : a = (i : Int)) (hlt : i < m) : Yields P n f (.index t x y) ty w (F i) := by
  have h1 : (fr n f).eval x = .agg (arr m F) := hx
  have h2 : (fr n f).eval y = .int k a := hy
  subst hi
  obtain ⟨d, h3, h4⟩ := Option.map_eq_some_iff.1 hu
  have hag : (isAgg e).run P w = .ok false w := by
    unfold isAgg
    rw [Sem.run_bind, run_underlying h3 w]
    cases d <;> simp_all [scal]
  obtain ⟨inf, h5, h6⟩ := Option.map_eq_some_iff.1 hs
  have hsz : (sizeOf e).run P w = .ok 1 w := by
    simp [sizeOf, typeInfo, Sem.run_bind, h5, h6]
  unfold Yields execOp
  simp only [h1, h2]
  have hlt' : (0 : Int) ≤ (i : Int) ∧ (i : Int) < (m : Int) := ⟨by omega, by omega⟩
  simp [Instr.index, asIntOf, Sem.run_bind, run_underlying ht, hlt, hsz, part, hag, arr_at _ _ _ hlt, go_sem]
end
end Go.Proofs.YtkjdejadambffaaDoor
namespace Go.Proofs.YtkjdejadambffaaDoor
open Go.RowKit
set_option linter.unusedSimpArgs false
set_option linter.unusedVariables false
section
variable {P : Program} {ops : Array Oper} {Q : Exit → Act → World → Prop} {w w' : World} {rest : List Oper} {n : Nat} {f : Nat → Value}
variable {ty : TypeId} {x y z : Operand} {v vx vy vz : Value} {t e : TypeId} {F G : Nat → Value}
theorem ei {k : Nat} {a : Int} (h : f k = .int .i64 a := by exact rfl) (ht : Nat.blt k n = true := by exact rfl) : Ev n f (.tmp k) (.int .i64 a) := Ev.t h ht
theorem es {k : Nat} {a : List (BitVec 8)} (h : f k = .string (str a) := by exact rfl) (ht : Nat.blt k n = true := by exact rfl) : Ev n f (.tmp k) (.string (str a)) := Ev.t h ht
theorem eb {k : Nat} {a : Bool} (h : f k = .bool a := by exact rfl) (ht : Nat.blt k n = true := by exact rfl) : Ev n f (.tmp k) (.bool a) := Ev.t h ht
theorem e8 {k : Nat} {a : BitVec 8} (h : f k = U8 a := by exact rfl) (ht : Nat.blt k n = true := by exact rfl) : Ev n f (.tmp k) (U8 a) := Ev.t h ht
theorem e3 {k : Nat} {a : BitVec 32} (h : f k = U32 a := by exact rfl) (ht : Nat.blt k n = true := by exact rfl) : Ev n f (.tmp k) (U32 a) := Ev.t h ht
theorem e6 {k : Nat} {a : BitVec 64} (h : f k = U64 a := by exact rfl) (ht : Nat.blt k n = true := by exact rfl) : Ev n f (.tmp k) (U64 a) := Ev.t h ht
theorem el {k : Nat} {a b c d : Nat} (h : f k = .slice (some ⟨a, b, none⟩) c d := by exact rfl) (ht : Nat.blt k n = true := by exact rfl) : Ev n f (.tmp k) (.slice (some ⟨a, b, none⟩) c d) := Ev.t h ht
theorem ea {k : Nat} {a : Nat} {b : Nat → Value} (h : f k = .agg (arr a b) := by exact rfl) (ht : Nat.blt k n = true := by exact rfl) : Ev n f (.tmp k) (.agg (arr a b)) := Ev.t h ht
theorem ex (v : Value) {k : Nat} (h : f k = v := by exact rfl) (ht : Nat.blt k n = true := by exact rfl) : Ev n f (.tmp k) v := Ev.t h ht
theorem ye {k i : Nat} {vs : Array Value} {v : Value} (h : f k = .tuple vs := by exact rfl) (hv : vs[i]? = some v := by exact rfl) (ht : Nat.blt k n = true := by exact rfl) : Yields P n f (.extract (.tmp k) i) ty w v := y_ext (Ev.t h ht) hv
theorem dt {p : Prop} [Decidable p] (h : p) : Value.bool (decide p) = .bool true := by rw [decide_eq_true h]
theorem df {p : Prop} [Decidable p] (h : ¬ p) : Value.bool (decide p) = .bool false := by rw [decide_eq_false h]
theorem wy {o : Oper} {j d : Nat} {b : Bool} (hg : o.guard = some (j, b)) (hj : (ops[j]?).bind (·.dst) = some d) (hv : Ev n f (.tmp d) (.bool b)) (hd : Nat.blt d n = true := by exact rfl) : Region.wanted o (yielded ops (fr n f).tmps) = true := want_yes hg hj hv hd
theorem wn {o : Oper} {j d : Nat} {b : Bool} (hg : o.guard = some (j, b)) (hj : (ops[j]?).bind (·.dst) = some d) (hv : Ev n f (.tmp d) (.bool (!b))) (hd : Nat.blt d n = true := by exact rfl) : Region.wanted o (yielded ops (fr n f).tmps) = false := want_no hg hj hv hd
theorem wu {o : Oper} {j d : Nat} {b : Bool} (hg : o.guard = some (j, b)) (hj : (ops[j]?).bind (·.dst) = some d) (hv : Ev n f (.tmp d) undef) (hd : Nat.blt d n = true := by exact rfl) : Region.wanted o (yielded ops (fr n f).tmps) = false := want_un hg hj hv hd
theorem Row.nb {w : World} {b g t m : Nat} {F : Nat → Value} (r : Row w g t m F) (h : b = w.heap.size) : g ≠ b := by have := r.lt; omega
theorem gb_ {b i j : Nat} (h : i ≤ j) (e : b = j) : i ≤ b := by omega
theorem ti {a : Int} {x c : Value} (h : x = .int .i64 a := by exact rfl) (h2 : .int .i64 a = c := by first | with_reducible rfl | (with_reducible congr 1 <;> omega) | (with_reducible congr 2 <;> omega) | (with_reducible congr 3 <;> omega) | rfl) : x = c := h.trans h2
theorem ts_ {a : List (BitVec 8)} {x c : Value} (h : x = .string (str a) := by exact rfl) (h2 : .string (str a) = c := by first | with_reducible rfl | (with_reducible congr 1 <;> omega) | (with_reducible congr 2 <;> omega) | (with_reducible congr 3 <;> omega) | rfl) : x = c := h.trans h2
theorem tb {a : Bool} {x c : Value} (h : x = .bool a := by exact rfl) (h2 : .bool a = c := by first | with_reducible rfl | (with_reducible congr 1 <;> omega) | (with_reducible congr 2 <;> omega) | (with_reducible congr 3 <;> omega) | rfl) : x = c := h.trans h2
theorem t8 {a : BitVec 8} {x c : Value} (h : x = U8 a := by exact rfl) (h2 : U8 a = c := by first | with_reducible rfl | (with_reducible congr 1 <;> omega) | (with_reducible congr 2 <;> omega) | (with_reducible congr 3 <;> omega) | rfl) : x = c := h.trans h2
theorem t3 {a : BitVec 32} {x c : Value} (h : x = U32 a := by exact rfl) (h2 : U32 a = c := by first | with_reducible rfl | (with_reducible congr 1 <;> omega) | (with_reducible congr 2 <;> omega) | (with_reducible congr 3 <;> omega) | rfl) : x = c := h.trans h2
theorem t6 {a : BitVec 64} {x c : Value} (h : x = U64 a := by exact rfl) (h2 : U64 a = c := by first | with_reducible rfl | (with_reducible congr 1 <;> omega) | (with_reducible congr 2 <;> omega) | (with_reducible congr 3 <;> omega) | rfl) : x = c := h.trans h2
end
section
variable {P : Program} {ops : Array Oper} {Q : Exit → Act → World → Prop} {w w' : World} {n : Nat} {f : Nat → Value} {ty : TypeId} {S : World → Prop} {D : Nat → Bool} {k : Nat} {listed : Array Bool}
theorem dp (i : Nat) {op : Op} {ty : TypeId} {d : Nat} {p : String} {aft : Array Edge} {v : Value} (hi : ops[i]? = some ⟨some d, op, ty, p, aft, none⟩) (hy : ∀ w, Yields P n f op ty w v) (h : anyD P ops Q S D k (listed.setIfInBounds i true) (fr n (up f d v)) w) 
    (hs : Region.noSelect ops = true := by kernel_rfl) (hf : Region.free .any ops listed i = true := by kernel_rfl) (hr : (Region.ready .any ops listed).contains i = true := by kernel_rfl) (hD : closedB ops listed = true := by kernel_rfl) (hQ : ∀ c a w, Q (.panic c) (a.put (some d) v) w → Q (.panic c) a w := by exact fun _ _ _ h => h) :
    anyD P ops Q S D (k + 1) listed (fr n f) w := d_pure i hi hs hf hr hD hQ hy h
end
end Go.Proofs.YtkjdejadambffaaDoor
