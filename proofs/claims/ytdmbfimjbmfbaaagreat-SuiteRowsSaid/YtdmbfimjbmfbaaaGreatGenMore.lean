/-
  Steps of a walk, part 5: copies out of texts, calls of function values, texts repeated. No conditions.
-/
import Derived.Test.YtdmbfimjbmfbaaaGreatGenAny
import Derived.Lib.AppendStr
namespace Go.Proofs.YtdmbfimjbmfbaaaGreat
open Go.RowKit
set_option linter.unusedSimpArgs false
set_option linter.unusedVariables false
section
variable {P : Program} {ops : Array Oper} {Q : Exit → Act → World → Prop} {w w' : World} {rest : List Oper} {n : Nat} {f : Nat → Value}
variable {ty : TypeId} {x y z : Operand} {v vx vy vz : Value} {t e : TypeId} {F G : Nat → Value}
theorem b_eqs_same {p : List (BitVec 8)} : Bin P .eql t (.string (str p)) (.string (str p)) (.bool true) := by
  have h := b_eqs (P := P) (t := t) (p := p) (q := p)
  rwa [show decide (p = p) = true from decide_eq_true rfl] at h
/-- a function value is called -/
theorem w_callv {d : Nat} {p : String} {aft : Array Edge} {k : FuncId} {fn : Func} {c : Code} {args : Array Operand} {tys : Array TypeId} {vs caps all : Array Value} {R : Ending → World → Prop} (hz : Ev n f z (.func (.func k) #[] caps)) (hf : P.funcs[k]? = some fn) (hname : (fn.name == "runtime.NumGoroutine") = false) (hb : fn.body = some c)
    (ha : args.map (fr n f).eval = vs) (hall : vs ++ caps = all) (hc : Calls P k all w R) (h : ∀ e w', R e w' → ∃ v, e = .returned v ∧ wpList P ops Q rest (fr n (up f d v)) w') : wpList P ops Q (⟨some d, .call ⟨.value z, args, tys⟩, ty, p, aft, none⟩ :: rest) (fr n f) w :=
  wpList_plain rfl fun K hK => by
    subst hall
    have hz' : (fr n f).eval z = .func (.func k) #[] caps := hz
    unfold Oper.wp
    have e1 : (execOp (fr n f).eval ⟨some d, .call ⟨.value z, args, tys⟩, ty, p, aft, none⟩).run P w = .ok (.enter k (vs ++ caps)) w := by
      simp only [execOp, resolve, ha, hz', Sem.run_bind, Deferred.ofValue, Sem.run_pure, Result.andThen_ok, invoke, Array.append_empty, Array.empty_append]
      exact MuLone.run_callFunc_enter hf hname hb _ _
    rw [e1]
    simp only [Oper.upon]
    refine hc.mono fun e w' he => ?_
    obtain ⟨v, rfl, h'⟩ := h e w' he
    show K ((fr n f).put (some d) v) w'
    rw [fr_put]
    exact hK _ _ h'
end
end Go.Proofs.YtdmbfimjbmfbaaaGreat
