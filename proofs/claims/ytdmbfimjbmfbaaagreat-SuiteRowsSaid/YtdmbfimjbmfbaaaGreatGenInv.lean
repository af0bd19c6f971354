/-
  Steps of a walk, part 8: a value put into an interface, a method called through it. Conditions as each says.
-/
import Derived.Test.YtdmbfimjbmfbaaaGreatGenMore
import Derived.Test.YtdmbfimjbmfbaaaGreatGenSh
namespace Go.Proofs.YtdmbfimjbmfbaaaGreat
open Go.RowKit
set_option linter.unusedSimpArgs false
set_option linter.unusedVariables false
section
variable {P : Program} {ops : Array Oper} {Q : Exit → Act → World → Prop} {w w' : World} {rest : List Oper} {n : Nat} {f : Nat → Value} {ty : TypeId} {x z : Operand}
theorem w_inv {d : Nat} {p : String} {aft : Array Edge} {u : TypeId} {v rv : Value} {name : String} {k : FuncId} {fn : Func} {c : Code} {args : Array Operand} {tys : Array TypeId} {vs all : Array Value} {R : Ending → World → Prop} (hz : Ev n f z (.iface u v)) (hm : ∀ w, (method (P.types.size + Made.depth) u v name).run P w = .ok (k, rv) w)
    (hf : P.funcs[k]? = some fn) (hname : (fn.name == "runtime.NumGoroutine") = false) (hb : fn.body = some c)
    (ha : args.map (fr n f).eval = vs) (hall : #[rv] ++ vs = all) (hc : Calls P k all w R) (h : ∀ e w', R e w' → ∃ v, e = .returned v ∧ wpList P ops Q rest (fr n (up f d v)) w') : wpList P ops Q (⟨some d, .call ⟨.invoke z name, args, tys⟩, ty, p, aft, none⟩ :: rest) (fr n f) w :=
  wpList_plain rfl fun K hK => by
    subst hall
    have hz' : (fr n f).eval z = .iface u v := hz
    unfold Oper.wp
    have e1 : (execOp (fr n f).eval ⟨some d, .call ⟨.invoke z name, args, tys⟩, ty, p, aft, none⟩).run P w = .ok (.enter k (#[rv] ++ vs)) w := by
      have e0 : (#[Value.iface u v] ++ vs)[0]? = some (.iface u v) := by rw [Array.getElem?_append_left (by exact Nat.zero_lt_one)]; rfl
      have e2 : (#[Value.iface u v] ++ vs).extract 1 (#[Value.iface u v] ++ vs).size = vs := by
        obtain ⟨l⟩ := vs
        simp
      have e3 : (invoke (.fn (.method name) #[]) (#[Value.iface u v] ++ vs)).run P w = .ok (.enter k (#[rv] ++ vs)) w := by
        unfold invoke
        rw [e0]
        simp only [e2, callMethod, Sem.run_bind, run_program, Result.andThen_ok, hm w]
        exact MuLone.run_callFunc_enter hf hname hb _ _
      have e4 : (resolve (fr n f).eval ⟨.invoke z name, args, tys⟩ ty).run P w = .ok { target := .fn (.method name) #[], args := #[Value.iface u v] ++ vs } w := by
        unfold resolve
        simp only [ha, hz', Sem.run_pure]
      show ((resolve (fr n f).eval ⟨.invoke z name, args, tys⟩ ty).bind fun d => invoke d.target d.args).run P w = _
      exact (Sem.run_bind _ _ _ _).trans (by rw [e4]; exact e3)
    rw [e1]
    simp only [Oper.upon]
    refine hc.mono fun e w' he => ?_
    obtain ⟨v, rfl, h'⟩ := h e w' he
    show K ((fr n f).put (some d) v) w'
    rw [fr_put]
    exact hK _ _ h'
theorem y_mkif {u : TypeId} {v : Value} (h : Ev n f x v) (hc : P.concrete u = true := by kernel_rfl) : Yields P n f (.makeInterface u x) ty w (.iface u v) := by
  have h' : (fr n f).eval x = v := h
  unfold Yields execOp
  simp only [h']
  rw [Sem.run_bind, run_makeInterface w u v hc]
  rfl
end
end Go.Proofs.YtdmbfimjbmfbaaaGreat
