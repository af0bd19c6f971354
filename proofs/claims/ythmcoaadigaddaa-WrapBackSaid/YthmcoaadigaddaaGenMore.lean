/-
  Steps of a walk, part 5: copies out of texts, calls of function values, texts repeated. No conditions.
-/
import Derived.Test.YthmcoaadigaddaaGenAny
namespace Go.Proofs.Ythmcoaadigaddaa
open Go.RowKit
set_option linter.unusedSimpArgs false
set_option linter.unusedVariables false
section
variable {P : Program} {ops : Array Oper} {Q : Exit → Act → World → Prop} {w w' : World} {rest : List Oper} {n : Nat} {f : Nat → Value}
variable {ty : TypeId} {x y z : Operand} {v vx vy vz : Value} {t e : TypeId} {F G : Nat → Value}
theorem want_un {o : Oper} {j d : Nat} {b : Bool} {f : Nat → Value} (hg : o.guard = some (j, b)) (hj : (ops[j]?).bind (·.dst) = some d) (hv : Ev n f (.tmp d) undef) (hd : Nat.blt d n = true) : Region.wanted o (yielded ops (fr n f).tmps) = false := by
  have hd' : d < n := by simpa using hd
  have e : f d = undef := by simpa [Ev, fr, Act.eval, hd'] using hv
  simp [Region.wanted, hg, yielded, hj, fr, hd', e, undef]
theorem b_eqs_same {p : List (BitVec 8)} : Bin P .eql t (.string (str p)) (.string (str p)) (.bool true) := by
  have h := b_eqs (P := P) (t := t) (p := p) (q := p)
  rwa [show decide (p = p) = true from decide_eq_true rfl] at h
theorem b_nes_same {p : List (BitVec 8)} : Bin P .neq t (.string (str p)) (.string (str p)) (.bool false) := by
  have h := b_nes (P := P) (t := t) (p := p) (q := p)
  rwa [show decide (p ≠ p) = false from decide_eq_false (fun e => e rfl)] at h
theorem run_copys {t2 : TypeId} {g off m c K : Nat} {et : TypeId} {l : List (BitVec 8)} (ht : P.underlying t = some (.slice e)) (hsz : (P.info? e).map (·.size) = some 1) (hr : Row w g et K F) (hfit : off + m ≤ K) :
    ∃ w', (Builtin.copy_ #[t, t2] ty #[.slice (some ⟨g, off, none⟩) m c, .string (str l)]).run P w = .ok (.int .i64 ((min l.length m : Nat) : Int)) w' ∧
      Row w' g et K (fun j => if off ≤ j ∧ j < off + min l.length m then U8 (gb l (j - off)) else F j) ∧ w.grownBy w' (some g) ∧ w'.heap.size = w.heap.size := by
  obtain ⟨i, hi, hs⟩ := Option.map_eq_some_iff.1 hsz
  have hsize : (sizeOf e).run P w = .ok 1 w := by simp [sizeOf, typeInfo, hi, hs]
  have hcells : (((str l).extract 0 (min l.length m)).data.map fun b => Value.int .u8 b.toNat).toList = (List.range (min l.length m)).map fun j => U8 (gb l j) := by
    apply List.ext_getElem
    · simp [str]
    · intro j h1 h2
      have hj : j < min l.length m := by simpa using h2
      simp only [Array.getElem_toList, Array.getElem_map, List.getElem_map, List.getElem_range]
      have hj2 : j < l.length := by omega
      simp [str, ByteArray.extract, ByteArray.copySlice, gb, hj2, U8]
  have hst := run_storeCells_cells (P := P) g off ((List.range (min l.length m)).map fun j => U8 (gb l j)) 0 w
    (fun j hj => by simp at hj; rw [Nat.add_zero, hr.cell (by omega)]; rfl)
    (fun j hj => by simp at hj; rw [Nat.add_zero, hr.frozen (by omega)])
    (fun v hv => by
      obtain ⟨j, hj, rfl⟩ := List.mem_map.1 hv
      exact U8.oneCell _)
  simp only [Nat.add_zero] at hst
  obtain ⟨h1, h2, h3, h4⟩ := setCells_rest g ((List.range (min l.length m)).map fun j => U8 (gb l j)) off w
  refine ⟨_, ?_, (setCells_row et g K _ off w F hr).congr (fun j _ => ?_), ⟨h1, h2, h3, by omega, fun k hk hne => setCells_other g _ off w k (fun e => hne (by rw [e]))⟩, h4⟩
  · have hlen : (Builtin.lenOf (.string (str l))).run P w = .ok l.length w := by simp [Builtin.lenOf, size_str]
    have hfc : (Builtin.firstCells 1 (min l.length m) (.string (str l))).run P w = .ok (((str l).extract 0 (min l.length m)).data.map fun b => Value.int .u8 b.toNat) w := rfl
    generalize (((str l).extract 0 (min l.length m)).data.map fun b => Value.int .u8 b.toNat) = cells at hcells hfc
    have hmin : Nat.min l.length m = min l.length m := rfl
    unfold Builtin.copy_
    simp only [List.getElem?_toArray, List.getElem?_cons_zero, List.getElem?_cons_succ, Sem.run_bind, run_underlying ht, Result.andThen_ok, hlen, hsize, hmin, hfc, hcells, hst, Sem.run_pure, goInt]
  · by_cases e : off ≤ j ∧ j < off + min l.length m
    · rw [if_pos (by simpa using e), if_pos e]
      simp [show j - off < min l.length m from by omega]
    · rw [if_neg (by simpa using e), if_neg e]
theorem w_copys {d : Nat} {p : String} {aft : Array Edge} {t2 : TypeId} {g off m c K : Nat} {et : TypeId} {l : List (BitVec 8)} (hx : Ev n f x (.slice (some ⟨g, off, none⟩) m c)) (hy : Ev n f y (.string (str l))) (ht : P.underlying t = some (.slice e)) (hsz : (P.info? e).map (·.size) = some 1) (hr : Row w g et K F) (hfit : off + m ≤ K)
    (h : ∀ w', Row w' g et K (fun j => if off ≤ j ∧ j < off + min l.length m then U8 (gb l (j - off)) else F j) → w.grownBy w' (some g) → w'.heap.size = w.heap.size → wpList P ops Q rest (fr n (up f d (.int .i64 ((min l.length m : Nat) : Int)))) w') :
    wpList P ops Q (⟨some d, .call ⟨.builtin .copy, #[x, y], #[t, t2]⟩, ty, p, aft, none⟩ :: rest) (fr n f) w :=
  wpList_plain rfl fun K' hK => by
    obtain ⟨w', hrun, h1, h2, h3⟩ := run_copys (ty := ty) (t2 := t2) (c := c) (l := l) ht hsz hr hfit
    unfold Oper.wp
    have e1 : (fr n f).eval x = .slice (some ⟨g, off, none⟩) m c := hx
    have e2 : (fr n f).eval y = .string (str l) := hy
    have hrun' : (execOp (fr n f).eval ⟨some d, .call ⟨.builtin .copy, #[x, y], #[t, t2]⟩, ty, p, aft, none⟩).run P w = .ok (.value (.int .i64 ((min l.length m : Nat) : Int))) w' := by
      simp only [execOp, resolve, Sem.run_bind, Sem.run_pure, Result.andThen_ok, List.map_toArray, List.map_cons, List.map_nil, e1, e2, invoke, builtin, hrun]
    rw [hrun']
    simp only [Oper.upon, fr_put]
    exact hK _ _ (h w' h1 h2 h3)
theorem w_copys_ {p : String} {aft : Array Edge} {t2 : TypeId} {g off m c K : Nat} {et : TypeId} {l : List (BitVec 8)} (hx : Ev n f x (.slice (some ⟨g, off, none⟩) m c)) (hy : Ev n f y (.string (str l))) (ht : P.underlying t = some (.slice e)) (hsz : (P.info? e).map (·.size) = some 1) (hr : Row w g et K F) (hfit : off + m ≤ K)
    (h : ∀ w', Row w' g et K (fun j => if off ≤ j ∧ j < off + min l.length m then U8 (gb l (j - off)) else F j) → w.grownBy w' (some g) → w'.heap.size = w.heap.size → wpList P ops Q rest (fr n f) w') :
    wpList P ops Q (⟨none, .call ⟨.builtin .copy, #[x, y], #[t, t2]⟩, ty, p, aft, none⟩ :: rest) (fr n f) w :=
  wpList_plain rfl fun K' hK => by
    obtain ⟨w', hrun, h1, h2, h3⟩ := run_copys (ty := ty) (t2 := t2) (c := c) (l := l) ht hsz hr hfit
    unfold Oper.wp
    have e1 : (fr n f).eval x = .slice (some ⟨g, off, none⟩) m c := hx
    have e2 : (fr n f).eval y = .string (str l) := hy
    have hrun' : (execOp (fr n f).eval ⟨none, .call ⟨.builtin .copy, #[x, y], #[t, t2]⟩, ty, p, aft, none⟩).run P w = .ok (.value (.int .i64 ((min l.length m : Nat) : Int))) w' := by
      simp only [execOp, resolve, Sem.run_bind, Sem.run_pure, Result.andThen_ok, List.map_toArray, List.map_cons, List.map_nil, e1, e2, invoke, builtin, hrun]
    rw [hrun']
    simp only [Oper.upon, Act.put]
    exact hK _ _ (h w' h1 h2 h3)
/-- a function value is called -/
theorem w_callv {d : Nat} {p : String} {aft : Array Edge} {k : FuncId} {fn : Func} {c : Code} {args : Array Operand} {tys : Array TypeId} {vs caps : Array Value} {R : Ending → World → Prop} (hz : Ev n f z (.func (.func k) #[] caps)) (hf : P.funcs[k]? = some fn) (hname : (fn.name == "runtime.NumGoroutine") = false) (hb : fn.body = some c)
    (ha : args.map (fr n f).eval = vs) (hc : Calls P k (vs ++ caps) w R) (h : ∀ e w', R e w' → ∃ v, e = .returned v ∧ wpList P ops Q rest (fr n (up f d v)) w') : wpList P ops Q (⟨some d, .call ⟨.value z, args, tys⟩, ty, p, aft, none⟩ :: rest) (fr n f) w :=
  wpList_plain rfl fun K hK => by
    have hz' : (fr n f).eval z = .func (.func k) #[] caps := hz
    unfold Oper.wp
    have e1 : (execOp (fr n f).eval ⟨some d, .call ⟨.value z, args, tys⟩, ty, p, aft, none⟩).run P w = .ok (.enter k (vs ++ caps)) w := by
      simp only [execOp, resolve, ha, hz', Sem.run_bind, Deferred.ofValue, Sem.run_pure, Result.andThen_ok, invoke, Array.append_empty, Array.empty_append]
      exact MuLone.run_callFunc_enter hf hname hb _ _
    rw [e1]
    simp only [Oper.upon]
    refine hc.mono fun e w' he => ?_
    obtain ⟨v, rfl, h'⟩ := h e w' he
    show K ((fr n f).put (some d) v) w'
    rw [fr_put]
    exact hK _ _ h'
end
end Go.Proofs.Ythmcoaadigaddaa
