/-
  Steps of a walk, one law an operation: the frame is a function of the slots, each law names the operands' values. No conditions.
-/
import Derived.Test.YtdmbfimjbmfbaaaGreatDoorArr
import Derived.Deep.LoopGhost
namespace Go.Proofs.YtdmbfimjbmfbaaaGreatDoor
open Go.RowKit
set_option linter.unusedSimpArgs false
set_option linter.unusedVariables false
section
variable {P : Program} {ops : Array Oper} {Q : Exit → Act → World → Prop} {w : World} {rest : List Oper} {n : Nat} {f : Nat → Value}
/-- a cell's address -/
abbrev pt (b o : Nat) : Value := .pointer (some ⟨b, o, none⟩)
theorem etv {α : Type} {a b c : α} (h : a = b) (h2 : b = c := by first | with_reducible rfl | (with_reducible congr 1 <;> omega) | (with_reducible congr 2 <;> omega) | (with_reducible congr 3 <;> omega) | rfl) : a = c := h.trans h2
theorem iv {p : Prop} (h : p := by first | omega | with_reducible rfl | assumption | trivial | exact ⟨rfl, rfl⟩ | simp) : p := h
theorem Row.cg {w : World} {b : Nat} {t : TypeId} {n : Nat} {f g : Nat → Value} (h : Row w b t n f) (e : ∀ j, j < n → f j = g j := by intro j hj; (first | with_reducible rfl | (dsimp only; done) | ((try dsimp only); (repeat' split) <;> first | with_reducible rfl | (exfalso; omega) | (subst_vars; with_reducible rfl) | (subst_vars; simp only [Nat.add_sub_cancel_left, Nat.add_sub_cancel, Nat.sub_self, Nat.sub_zero]; done) | (with_reducible congr 1 <;> omega) | (with_reducible congr 2 <;> omega) | (with_reducible congr 3 <;> omega) | rfl | (subst_vars; rfl)))) : Row w b t n g := h.congr e
theorem oc {F : Nat → Value} {m : Nat} (h : ∀ j, j < m → (F j).oneCell' = true := by intro j _; first | rfl | exact U8.oneCell _ | exact U32.oneCell _ | exact U64.oneCell _ | ((try dsimp only); (repeat' split) <;> rfl)) : ∀ j, j < m → (F j).oneCell' = true := h
theorem oca {F : Nat → Value} (h : ∀ j, (F j).oneCell' = true := by intro j; first | exact U8.oneCell _ | exact U32.oneCell _ | exact U64.oneCell _ | rfl | ((try dsimp only); (repeat' split) <;> rfl)) : ∀ j, (F j).oneCell' = true := h
def up (f : Nat → Value) (d : Nat) (v : Value) : Nat → Value := fun i => bif Nat.beq i d then v else f i
def fr (n : Nat) (f : Nat → Value) : Act := ⟨((List.range n).map f).toArray, []⟩
def Ev (n : Nat) (f : Nat → Value) (x : Operand) (v : Value) : Prop := (fr n f).eval x = v
theorem Ev.t {t : Nat} {v : Value} (h : f t = v) (ht : Nat.blt t n = true) : Ev n f (.tmp t) v := by
  have ht' : t < n := by simpa using ht
  simp [Ev, fr, Act.eval, ht', h]
theorem Ev.c {v : Value} : Ev n f (.const v) v := rfl
theorem Ev.fn {k : FuncId} : Ev n f (.func k) (.func (.func k) #[] #[]) := rfl
theorem Ev.g {k : Nat} : Ev n f (.global k) (.pointer (some ⟨k, 0, none⟩)) := rfl
theorem evc (v : Value) : Ev n f (.const v) v := rfl
theorem fr_put (d : Nat) (v : Value) : (fr n f).put (some d) v = fr n (up f d v) := by
  unfold fr Act.put
  simp only [Act.mk.injEq, and_true]
  apply Array.ext
  · simp
  · intro i h1 h2
    simp only [Array.getElem_setIfInBounds, List.getElem_toArray, List.getElem_map, List.getElem_range, up]
    by_cases e : d = i
    · subst e; simp
    · have e' : Nat.beq i d = false := by
        cases hb : Nat.beq i d with
        | false => rfl
        | true => exact absurd (Nat.eq_of_beq_eq_true hb).symm e
      simp [e, e']
theorem fr_entry (args : Array Value) (k : Nat) (h : args.size ≤ k) : (⟨args ++ Array.replicate (k - args.size) undef, []⟩ : Act) = fr k (fun i => args.getD i undef) := by
  unfold fr
  simp only [Act.mk.injEq, and_true]
  apply Array.ext
  · simp; omega
  · intro i h1 h2
    simp only [Array.getElem_append, List.getElem_toArray, List.getElem_map, List.getElem_range, Array.getElem_replicate, Array.getD]
    split <;> rfl
theorem enter {F : FuncId} {fn : Func} {c : Code} {args : Array Value} {R : Ending → World → Prop} (hf : P.funcs[F]? = some fn) (hb : fn.body = some c) (hn : fn.ntmps = n) (ha : Nat.ble args.size n = true)
    (h : c.wp P (bodyPost P fn R) (fr n (fun i => args.getD i undef)) w) : Calls P F args w R := by
  refine calls_of_wp hf hb ?_
  rw [hn, fr_entry args n (by simpa using ha)]
  exact h
/-! ### code -/
theorem then_n {next : Act → World → Prop} {a : Act} (h : next a w) : Exit.then next Q .normal a w := h
theorem then_x {next : Act → World → Prop} {a : Act} {i : Nat} (h : Q (.exit i) a w) : Exit.then next Q (.exit i) a w := h
theorem then_r {next : Act → World → Prop} {a : Act} (h : Q .ret a w) : Exit.then next Q .ret a w := h
theorem nt {ops : Array Oper} {next : Act → World → Prop} {a : Act} (h : next a w) : wpList P ops (Exit.then next Q) [] a w := wpList_nil (then_n h)
theorem sr {id : Nat} {l : List Oper} {y : Code} {a : Act} (h : wpList P l.toArray (Exit.then (y.wp P Q) Q) l a w) : (Code.seq (Code.region id l.toArray false) y).wp P Q a w := wp_seq (wp_region_lit h)
theorem ss {x y z : Code} {a : Act} (h : x.wp P (Exit.then (y.wp P (Exit.then (z.wp P Q) Q)) (Exit.then (z.wp P Q) Q)) a w) : (Code.seq (Code.seq x y) z).wp P Q a w := wp_seq (wp_seq h)
theorem inb_n {a : Act} {i : Nat} (h : Q .normal a w) : Exit.inBlock i Q .normal a w := h
theorem inb_r {a : Act} {i : Nat} (h : Q .ret a w) : Exit.inBlock i Q .ret a w := h
theorem inb_x {a : Act} {i : Nat} (h : Q .normal a w) : Exit.inBlock i Q (.exit i) a w := by simp only [Exit.inBlock, if_true]; exact h
theorem c_if {c : Operand} {x y : Code} {p : Prop} [Decidable p] (hc : Ev n f c (.bool (decide p))) (ht : p → x.wp P Q (fr n f) w) (hf : ¬ p → y.wp P Q (fr n f) w) : (Code.cond c x y).wp P Q (fr n f) w := by
  by_cases h : p
  · exact wp_cond_true (hc.trans (by rw [decide_eq_true h])) (ht h)
  · exact wp_cond_false (hc.trans (by rw [decide_eq_false h])) (hf h)
theorem c_f {c : Operand} {x y : Code} {p : Prop} [Decidable p] (hc : Ev n f c (.bool (decide p))) (h : ¬ p) (hf : y.wp P Q (fr n f) w) : (Code.cond c x y).wp P Q (fr n f) w := wp_cond_false (hc.trans (by rw [decide_eq_false h])) hf
theorem c_ifb {c : Operand} {x y : Code} {b : Bool} (hc : Ev n f c (.bool b)) (ht : b = true → x.wp P Q (fr n f) w) (hf : ¬ b = true → y.wp P Q (fr n f) w) : (Code.cond c x y).wp P Q (fr n f) w := by
  by_cases h : b = true
  · exact wp_cond_true (hc.trans (by rw [h])) (ht h)
  · exact wp_cond_false (hc.trans (by rw [Bool.eq_false_iff.2 h])) (hf h)
theorem c_tt {c : Operand} {x y : Code} (hc : Ev n f c (.bool true)) (ht : x.wp P Q (fr n f) w) : (Code.cond c x y).wp P Q (fr n f) w := wp_cond_true hc ht
theorem c_ff {c : Operand} {x y : Code} (hc : Ev n f c (.bool false)) (hf : y.wp P Q (fr n f) w) : (Code.cond c x y).wp P Q (fr n f) w := wp_cond_false hc hf
/-- a cut: what stands behind a piece of code is shown once -/
theorem c_cut {x y : Code} {a : Act} (R : Act → World → Prop) (hx : x.wp P (Exit.then R Q) a w) (hy : ∀ a w, R a w → y.wp P Q a w) : (Code.seq x y).wp P Q a w :=
  wp_seq (wp_mono hx (fun e a w h => by cases e <;> first | exact hy _ _ h | exact h))
theorem fin_ret1 {fn : Func} {R : Ending → World → Prop} {t : Nat} {v : Value} (hr : fn.results = #[.tmp t]) (hv : Ev n f (.tmp t) v) (h : R (.returned v) w) : bodyPost P fn R .ret (fr n f) w := by
  refine bodyPost_ret (results_tmp hr _ _ _) rfl ?_
  have : (fr n f).tmps.getD t undef = v := hv
  rw [this]; exact h
theorem fin_ret2 {fn : Func} {R : Ending → World → Prop} {t u : Nat} {v v' : Value} (hr : fn.results = #[.tmp t, .tmp u]) (hv : Ev n f (.tmp t) v) (hv' : Ev n f (.tmp u) v') (h : R (.returned (.tuple #[v, v'])) w) : bodyPost P fn R .ret (fr n f) w := by
  refine bodyPost_ret (results_tmp2 hr _ _ _) rfl ?_
  have e : (fr n f).tmps.getD t undef = v := hv
  have e' : (fr n f).tmps.getD u undef = v' := hv'
  rw [e, e']; exact h
theorem fin_ret3 {fn : Func} {R : Ending → World → Prop} {t u s : Nat} {v v' v'' : Value} (hr : fn.results = #[.tmp t, .tmp u, .tmp s]) (hv : Ev n f (.tmp t) v) (hv' : Ev n f (.tmp u) v') (hv'' : Ev n f (.tmp s) v'') (h : R (.returned (.tuple #[v, v', v''])) w) : bodyPost P fn R .ret (fr n f) w := by
  have e : (fr n f).tmps.getD t undef = v := hv
  have e' : (fr n f).tmps.getD u undef = v' := hv'
  have e'' : (fr n f).tmps.getD s undef = v'' := hv''
  refine bodyPost_ret (v := .tuple #[v, v', v'']) ?_ rfl h
  simp only [Array.getD_eq_getD_getElem?] at e e' e''
  simp [results, hr, e, e', e'']
theorem fin_ret0 {fn : Func} {R : Ending → World → Prop} (hr : fn.results = #[]) (h : R (.returned (.tuple #[])) w) : bodyPost P fn R .ret (fr n f) w :=
  bodyPost_ret (results_none hr _ _ _) rfl h
theorem fin_end0 {fn : Func} {R : Ending → World → Prop} (hr : fn.results = #[]) (h : R (.returned (.tuple #[])) w) : bodyPost P fn R .normal (fr n f) w :=
  bodyPost_end (results_none hr _ _ _) rfl h
theorem fin_arr {fn : Func} {R : Ending → World → Prop} {t g m : Nat} {ty : TypeId} {F : Nat → Value} (hr : fn.results = #[.cell t ty]) (hv : Ev n f (.tmp t) (.pointer (some ⟨g, 0, none⟩)))
    (hu : (P.underlying ty).map isAggD = some true) (hi : (P.info? ty).map (·.size) = some m) {e : TypeId} {k : Nat} (hc : Row w g e k F) (hm : m ≤ k) (h : R (.returned (.agg (arr m F))) w) : bodyPost P fn R .ret (fr n f) w :=
  bodyPost_ret (results_arr hr _ w g m F hv hu hi (fun j hj => hc.cell (by omega))) rfl h
/-! ### operations that yield a value and leave the world alone -/
def Yields (P : Program) (n : Nat) (f : Nat → Value) (op : Op) (ty : TypeId) (w : World) (v : Value) : Prop := (execOp (fr n f).eval ⟨none, op, ty, default, #[], none⟩).run P w = .ok (.value v) w
theorem w_val {op : Op} {ty : TypeId} {d : Nat} {p : String} {aft : Array Edge} {v : Value} (hy : Yields P n f op ty w v) (h : wpList P ops Q rest (fr n (up f d v)) w) : wpList P ops Q (⟨some d, op, ty, p, aft, none⟩ :: rest) (fr n f) w :=
  wpList_plain rfl fun K hK => by
    unfold Oper.wp
    have e : (execOp (fr n f).eval ⟨some d, op, ty, p, aft, none⟩).run P w = .ok (.value v) w := hy
    rw [e]
    simp only [Oper.upon, fr_put]
    exact hK _ _ h
theorem w_val_g {op : Op} {ty : TypeId} {d : Nat} {p : String} {aft : Array Edge} {g : Option (Nat × Bool)} {v : Value} (hw : Region.wanted ⟨some d, op, ty, p, aft, g⟩ (yielded ops (fr n f).tmps) = true) (hy : Yields P n f op ty w v) (h : wpList P ops Q rest (fr n (up f d v)) w) : wpList P ops Q (⟨some d, op, ty, p, aft, g⟩ :: rest) (fr n f) w :=
  wpList_step fun K hK => by
    rw [if_pos hw]
    unfold Oper.wp
    have e : (execOp (fr n f).eval ⟨some d, op, ty, p, aft, g⟩).run P w = .ok (.value v) w := hy
    rw [e]
    simp only [Oper.upon, fr_put]
    exact hK _ _ h
theorem w_skip {op : Op} {ty : TypeId} {d : Nat} {p : String} {aft : Array Edge} {g : Option (Nat × Bool)} (hw : Region.wanted ⟨some d, op, ty, p, aft, g⟩ (yielded ops (fr n f).tmps) = false) (h : wpList P ops Q rest (fr n (up f d undef)) w) : wpList P ops Q (⟨some d, op, ty, p, aft, g⟩ :: rest) (fr n f) w :=
  wpList_step fun K hK => by
    rw [if_neg (by rw [hw]; simp), fr_put]
    exact hK _ _ h
theorem w_unguard {op : Op} {d : Option Nat} {p : String} {aft : Array Edge} {g : Option (Nat × Bool)} {ty : TypeId} {a : Act} (hw : Region.wanted ⟨d, op, ty, p, aft, g⟩ (yielded ops a.tmps) = true) (h : wpList P ops Q (⟨d, op, ty, p, aft, none⟩ :: rest) a w) : wpList P ops Q (⟨d, op, ty, p, aft, g⟩ :: rest) a w := by
  unfold wpList at h ⊢
  rw [if_pos (by simp [Region.wanted])] at h
  rw [if_pos hw]
  exact h
theorem want_yes {o : Oper} {j d : Nat} {b : Bool} (hg : o.guard = some (j, b)) (hj : (ops[j]?).bind (·.dst) = some d) (hv : Ev n f (.tmp d) (.bool b)) (hd : Nat.blt d n = true) : Region.wanted o (yielded ops (fr n f).tmps) = true := by
  have hd' : d < n := by simpa using hd
  have e : f d = .bool b := by simpa [Ev, fr, Act.eval, hd'] using hv
  simp [Region.wanted, hg, yielded, hj, fr, hd', e]
theorem want_no {o : Oper} {j d : Nat} {b : Bool} (hg : o.guard = some (j, b)) (hj : (ops[j]?).bind (·.dst) = some d) (hv : Ev n f (.tmp d) (.bool (!b))) (hd : Nat.blt d n = true) : Region.wanted o (yielded ops (fr n f).tmps) = false := by
  have hd' : d < n := by simpa using hd
  have e : f d = .bool (!b) := by simpa [Ev, fr, Act.eval, hd'] using hv
  simp [Region.wanted, hg, yielded, hj, fr, hd', e]
theorem q_val {C : World → Prop} {L : Act → Prop} {op : Op} {ty : TypeId} {d : Nat} {p : String} {aft : Array Edge} {v : Value} (hy : ∀ w, C w → Yields P n f op ty w v) (h : wpQuiet P ops C L rest (fr n (up f d v))) : wpQuiet P ops C L (⟨some d, op, ty, p, aft, none⟩ :: rest) (fr n f) :=
  wpQuiet_step fun K hK => by
    rw [if_pos (by simp [Region.wanted])]
    refine ⟨v, fun w hw => ?_, ?_⟩
    · unfold Oper.quietAt
      have e : (execOp (fr n f).eval ⟨some d, op, ty, p, aft, none⟩).run P w = .ok (.value v) w := hy w hw
      rw [e]
      exact ⟨rfl, rfl⟩
    · rw [fr_put]; exact hK _ h
theorem q_val_g {C : World → Prop} {L : Act → Prop} {op : Op} {ty : TypeId} {d : Nat} {p : String} {aft : Array Edge} {g : Option (Nat × Bool)} {v : Value} (hw : Region.wanted ⟨some d, op, ty, p, aft, g⟩ (yielded ops (fr n f).tmps) = true) (hy : ∀ w, C w → Yields P n f op ty w v) (h : wpQuiet P ops C L rest (fr n (up f d v))) : wpQuiet P ops C L (⟨some d, op, ty, p, aft, g⟩ :: rest) (fr n f) :=
  wpQuiet_step fun K hK => by
    rw [if_pos hw]
    refine ⟨v, fun w hw => ?_, ?_⟩
    · unfold Oper.quietAt
      have e : (execOp (fr n f).eval ⟨some d, op, ty, p, aft, g⟩).run P w = .ok (.value v) w := hy w hw
      rw [e]
      exact ⟨rfl, rfl⟩
    · rw [fr_put]; exact hK _ h
variable {ty : TypeId} {x y z : Operand} {v vx vy vz : Value}
theorem y_mv (h : Ev n f x v) : Yields P n f (.move x) ty w v := by
  have h' : (fr n f).eval x = v := h
  simp [Yields, execOp, h']
theorem y_as (h : Ev n f x v) : Yields P n f (.assign x) ty w v := by
  have h' : (fr n f).eval x = v := h
  simp [Yields, execOp, h']
theorem w_mv {ty : TypeId} {x : Operand} {v : Value} {d : Nat} {p : String} {aft : Array Edge} (h : Ev n f x v) (k : wpList P ops Q rest (fr n (up f d v)) w) : wpList P ops Q (⟨some d, .move x, ty, p, aft, none⟩ :: rest) (fr n f) w := w_val (y_mv h) k
theorem w_as {ty : TypeId} {x : Operand} {v : Value} {d : Nat} {p : String} {aft : Array Edge} (h : Ev n f x v) (k : wpList P ops Q rest (fr n (up f d v)) w) : wpList P ops Q (⟨some d, .assign x, ty, p, aft, none⟩ :: rest) (fr n f) w := w_val (y_as h) k
theorem q_mv {C : World → Prop} {L : Act → Prop} {ty : TypeId} {x : Operand} {v : Value} {d : Nat} {p : String} {aft : Array Edge} (h : Ev n f x v) (k : wpQuiet P ops C L rest (fr n (up f d v))) : wpQuiet P ops C L (⟨some d, .move x, ty, p, aft, none⟩ :: rest) (fr n f) := q_val (fun _ _ => y_mv h) k
theorem q_as {C : World → Prop} {L : Act → Prop} {ty : TypeId} {x : Operand} {v : Value} {d : Nat} {p : String} {aft : Array Edge} (h : Ev n f x v) (k : wpQuiet P ops C L rest (fr n (up f d v))) : wpQuiet P ops C L (⟨some d, .assign x, ty, p, aft, none⟩ :: rest) (fr n f) := q_val (fun _ _ => y_as h) k
theorem y_pick_t (hc : Ev n f x (.bool true)) (h : Ev n f y v) : Yields P n f (.pick x y z) ty w v := by
  have h' : (fr n f).eval y = v := h
  have hc' : (fr n f).eval x = .bool true := hc
  simp [Yields, execOp, h', hc', asBool]
theorem y_pick_f (hc : Ev n f x (.bool false)) (h : Ev n f z v) : Yields P n f (.pick x y z) ty w v := by
  have h' : (fr n f).eval z = v := h
  have hc' : (fr n f).eval x = .bool false := hc
  simp [Yields, execOp, h', hc', asBool]
theorem y_nc {a : Addr} (h : Ev n f x (.pointer (some a))) : Yields P n f (.nilCheck x) ty w (.pointer (some a)) := by
  have h' : (fr n f).eval x = .pointer (some a) := h
  simp [Yields, execOp, h']
def Bin (P : Program) (op : BinOp) (t : TypeId) (vx vy v : Value) : Prop := ∀ (X Y : Operand) (w : World), (do eqGuard op t X Y vx vy; binOp op t vx vy : Sem Value).run P w = .ok v w
theorem y_bin {op : BinOp} {t t2 : TypeId} (hx : Ev n f x vx) (hy : Ev n f y vy) (hb : Bin P op t vx vy v) : Yields P n f (.binOp op t x y t2) ty w v := by
  have h1 : (fr n f).eval x = vx := hx
  have h2 : (fr n f).eval y = vy := hy
  have h3 := hb x y w
  unfold Yields execOp
  simp only [h1, h2]
  rw [Sem.run_bind, h3]
  rfl
theorem y_un {op : UnOp} {t : TypeId} (hx : Ev n f x vx) (hb : (Op.unary op vx).run P w = .ok v w) : Yields P n f (.unOp op t x) ty w v := by
  have h1 : (fr n f).eval x = vx := hx
  unfold Yields execOp
  simp only [h1]
  rw [Sem.run_bind, hb]
  rfl
theorem y_conv {s d : TypeId} (hx : Ev n f x vx) (hb : (convert s d vx).run P w = .ok v w) : Yields P n f (.convert s d x) ty w v := by
  have h1 : (fr n f).eval x = vx := hx
  unfold Yields execOp
  simp only [h1]
  rw [Sem.run_bind, hb]
  rfl
theorem y_notp {t : TypeId} {p : Prop} [Decidable p] (hx : Ev n f x (.bool (decide p))) : Yields P n f (.unOp .not t x) ty w (.bool (decide (¬ p))) :=
  y_un hx (by rw [decide_not]; rfl)
theorem y_ext {i : Nat} {vs : Array Value} (hx : Ev n f x (.tuple vs)) (hi : vs[i]? = some v) : Yields P n f (.extract x i) ty w v := by
  have h1 : (fr n f).eval x = .tuple vs := hx
  unfold Yields execOp
  simp only [h1, Instr.extract, hi]
  rfl
theorem y_mkf {fn : Fn} {fs cs : Array Operand} {fv cv : Array Value} (h1 : fs.map (fr n f).eval = fv) (h2 : cs.map (fr n f).eval = cv) : Yields P n f (.makeFunc fn fs cs) ty w (.func fn fv cv) := by
  unfold Yields execOp
  simp only [h1, h2, Instr.makeFunc]
  rfl
theorem m0 : (#[] : Array Operand).map (fr n f).eval = #[] := by simp
variable {x1 x2 x3 x4 x5 x6 x7 x8 : Operand} {v1 v2 v3 v4 v5 v6 v7 v8 : Value}
theorem m1 (h1 : Ev n f x1 v1) : #[x1].map (fr n f).eval = #[v1] := by
  have e1 : (fr n f).eval x1 = v1 := h1
  simp [e1]
theorem m2 (h1 : Ev n f x1 v1) (h2 : Ev n f x2 v2) : #[x1, x2].map (fr n f).eval = #[v1, v2] := by
  have e1 : (fr n f).eval x1 = v1 := h1
  have e2 : (fr n f).eval x2 = v2 := h2
  simp [e1, e2]
theorem m3 (h1 : Ev n f x1 v1) (h2 : Ev n f x2 v2) (h3 : Ev n f x3 v3) : #[x1, x2, x3].map (fr n f).eval = #[v1, v2, v3] := by
  have e1 : (fr n f).eval x1 = v1 := h1
  have e2 : (fr n f).eval x2 = v2 := h2
  have e3 : (fr n f).eval x3 = v3 := h3
  simp [e1, e2, e3]
theorem m4 (h1 : Ev n f x1 v1) (h2 : Ev n f x2 v2) (h3 : Ev n f x3 v3) (h4 : Ev n f x4 v4) : #[x1, x2, x3, x4].map (fr n f).eval = #[v1, v2, v3, v4] := by
  have e1 : (fr n f).eval x1 = v1 := h1
  have e2 : (fr n f).eval x2 = v2 := h2
  have e3 : (fr n f).eval x3 = v3 := h3
  have e4 : (fr n f).eval x4 = v4 := h4
  simp [e1, e2, e3, e4]
theorem m5 (h1 : Ev n f x1 v1) (h2 : Ev n f x2 v2) (h3 : Ev n f x3 v3) (h4 : Ev n f x4 v4) (h5 : Ev n f x5 v5) : #[x1, x2, x3, x4, x5].map (fr n f).eval = #[v1, v2, v3, v4, v5] := by
  have e1 : (fr n f).eval x1 = v1 := h1
  have e2 : (fr n f).eval x2 = v2 := h2
  have e3 : (fr n f).eval x3 = v3 := h3
  have e4 : (fr n f).eval x4 = v4 := h4
  have e5 : (fr n f).eval x5 = v5 := h5
  simp [e1, e2, e3, e4, e5]
theorem m6 (h1 : Ev n f x1 v1) (h2 : Ev n f x2 v2) (h3 : Ev n f x3 v3) (h4 : Ev n f x4 v4) (h5 : Ev n f x5 v5) (h6 : Ev n f x6 v6) : #[x1, x2, x3, x4, x5, x6].map (fr n f).eval = #[v1, v2, v3, v4, v5, v6] := by
  have e1 : (fr n f).eval x1 = v1 := h1
  have e2 : (fr n f).eval x2 = v2 := h2
  have e3 : (fr n f).eval x3 = v3 := h3
  have e4 : (fr n f).eval x4 = v4 := h4
  have e5 : (fr n f).eval x5 = v5 := h5
  have e6 : (fr n f).eval x6 = v6 := h6
  simp [e1, e2, e3, e4, e5, e6]
/-! builtins that yield a value -/
theorem y_blt {b : Builtin} {args : Array Operand} {tys : Array TypeId} {vs : Array Value} (ha : args.map (fr n f).eval = vs) (hb : ∀ cs, (builtin b tys ty cs vs).run P w = .ok (.value v) w) : Yields P n f (.call ⟨.builtin b, args, tys⟩) ty w v := by
  unfold Yields execOp
  simp only [resolve, Sem.run_bind, Sem.run_pure, Result.andThen_ok, ha, invoke]
  exact hb _
theorem y_len_s {t : TypeId} {s : ByteArray} (hx : Ev n f x (.string s)) (ht : P.underlying t = some .string) : Yields P n f (.call ⟨.builtin .len, #[x], #[t]⟩) ty w (.int .i64 (s.size : Int)) :=
  y_blt (m1 hx) (fun cs => by simp [builtin, Builtin.len_, run_underlying ht, goInt])
theorem y_len {t : TypeId} {l : List (BitVec 8)} (hx : Ev n f x (.string (str l))) (ht : P.underlying t = some .string) : Yields P n f (.call ⟨.builtin .len, #[x], #[t]⟩) ty w (.int .i64 (l.length : Int)) := by
  have := y_len_s (ty := ty) (w := w) hx ht
  rwa [size_str] at this
theorem y_len_sl {t e : TypeId} {a : Option Addr} {k c : Nat} (hx : Ev n f x (.slice a k c)) (ht : P.underlying t = some (.slice e)) : Yields P n f (.call ⟨.builtin .len, #[x], #[t]⟩) ty w (.int .i64 (k : Int)) :=
  y_blt (m1 hx) (fun cs => by simp [builtin, Builtin.len_, run_underlying ht, goInt])
theorem y_min {t1 t2 : TypeId} {k : IntKind} {a b : Int} (hx : Ev n f x (.int k a)) (hy : Ev n f y (.int k b)) : Yields P n f (.call ⟨.builtin .min, #[x, y], #[t1, t2]⟩) ty w (.int k (min a b)) :=
  y_blt (m2 hx hy) (fun cs => by
    have e : (if b < a then b else a) = min a b := by omega
    simp [builtin, Builtin.min_, Builtin.min2, e])
end
end Go.Proofs.YtdmbfimjbmfbaaaGreatDoor
