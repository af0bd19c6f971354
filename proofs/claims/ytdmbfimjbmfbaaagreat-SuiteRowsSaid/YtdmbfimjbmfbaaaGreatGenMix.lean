/-
  Steps of a walk, part 9: results of which one lies in memory; two equal structs of three numbers. Conditions as each says.
-/
import Derived.Test.YtdmbfimjbmfbaaaGreatRows
import Derived.Test.YtdmbfimjbmfbaaaGreatGenSh
import Derived.ProofKit
import Derived.Laws.StructEq
namespace Go.Proofs.YtdmbfimjbmfbaaaGreat
open Go.RowKit
set_option linter.unusedSimpArgs false
set_option linter.unusedVariables false
section
variable {P : Program} {w : World} {n : Nat} {f : Nat → Value}
theorem fin_ct {fn : Func} {R : Ending → World → Prop} {t u g m : Nat} {ty : TypeId} {F : Nat → Value} {v : Value} (hr : fn.results = #[.cell t ty, .tmp u]) (hv : Ev n f (.tmp t) (.pointer (some ⟨g, 0, none⟩))) (hv' : Ev n f (.tmp u) v)
    (hu : (P.underlying ty).map isAggD = some true) (hi : (P.info? ty).map (·.size) = some m) {e : TypeId} {k : Nat} (hc : Row w g e k F) (hm : m ≤ k) (h : R (.returned (.tuple #[.agg (arr m F), v])) w) : bodyPost P fn R .ret (fr n f) w := by
  have hp : (fr n f).tmps.getD t undef = .pointer (some ⟨g, 0, none⟩) := hv
  have e' : (fr n f).tmps.getD u undef = v := hv'
  refine bodyPost_ret (v := .tuple #[.agg (arr m F), v]) ?_ rfl h
  simp only [Array.getD_eq_getD_getElem?] at hp e'
  simp [results, hr, hp, e', asAddr, run_loadVar_at w ty g 0 m F hu hi (fun j hj => by rw [Nat.zero_add]; exact hc.cell om)]
theorem fin_tct {fn : Func} {R : Ending → World → Prop} {s t u g m : Nat} {ty : TypeId} {F : Nat → Value} {v v' : Value} (hr : fn.results = #[.tmp s, .cell t ty, .tmp u]) (hs : Ev n f (.tmp s) v') (hv : Ev n f (.tmp t) (.pointer (some ⟨g, 0, none⟩))) (hv' : Ev n f (.tmp u) v)
    (hu : (P.underlying ty).map isAggD = some true) (hi : (P.info? ty).map (·.size) = some m) {e : TypeId} {k : Nat} (hc : Row w g e k F) (hm : m ≤ k) (h : R (.returned (.tuple #[v', .agg (arr m F), v])) w) : bodyPost P fn R .ret (fr n f) w := by
  have hp : (fr n f).tmps.getD t undef = .pointer (some ⟨g, 0, none⟩) := hv
  have e' : (fr n f).tmps.getD u undef = v := hv'
  have e'' : (fr n f).tmps.getD s undef = v' := hs
  refine bodyPost_ret (v := .tuple #[v', .agg (arr m F), v]) ?_ rfl h
  simp only [Array.getD_eq_getD_getElem?] at hp e' e''
  simp [results, hr, hp, e', e'', asAddr, run_loadVar_at w ty g 0 m F hu hi (fun j hj => by rw [Nat.zero_add]; exact hc.cell om)]
end
theorem su_eq (a b c : Int) (w : World) : (binOp .eql 23 (.agg #[.int .i64 a, .int .i64 b, .int .i64 c]) (.agg #[.int .i64 a, .int .i64 b, .int .i64 c])).run Tryz.prog w = .ok (.bool true) w := by
  have ht : Tryz.prog.underlying 23 = some (.struct (Tryz.prog.fieldsOf 23)) := by kernel_rfl
  have hp : Tryz.prog.stoodInHeld 23 = false := by kernel_rfl
  have hf : (Tryz.prog.fieldsOf 23).toList.map (fun f : Field => (f.name != "_", f.offset, f.type)) = [(true, 0, 3), (true, 1, 3), (true, 2, 3)] := by kernel_rfl
  rw [run_eql_struct, show (10000 : Nat) = 9999 + 1 from rfl, run_equalIn_struct _ _ _ _ _ ht hp]
  generalize (Tryz.prog.fieldsOf 23).toList = l at hf
  have hA : ∀ w, (isAgg 3).run Tryz.prog w = .ok false w := fun w => by kernel_rfl
  rcases l with _ | ⟨x, _ | ⟨y, _ | ⟨z, _ | ⟨_, _⟩⟩⟩⟩ <;> simp only [List.map_cons, List.map_nil, List.cons.injEq, Prod.mk.injEq, reduceCtorEq, and_false, false_and, and_true] at hf
  obtain ⟨⟨n1, o1, t1⟩, ⟨n2, o2, t2⟩, ⟨n3, o3, t3⟩⟩ := hf
  simp only [Op.eqFields, o1, o2, o3, t1, t2, t3, part, Sem.run_bind, hA, run_equalIn_int _ _ _ _ _ _ _ Tryz.underlying3]
  simp [show x.name ≠ "_" from by simpa using n1, show y.name ≠ "_" from by simpa using n2, show z.name ≠ "_" from by simpa using n3, Sem.run_bind, hA, run_equalIn_int _ 9998 _ _ _ _ _ Tryz.underlying3]
theorem b_su {F G : Nat → Value} {a b c : Int} (f0 : F 0 = .int .i64 a) (f1 : F 1 = .int .i64 b) (f2 : F 2 = .int .i64 c) (g0 : G 0 = .int .i64 a) (g1 : G 1 = .int .i64 b) (g2 : G 2 = .int .i64 c) : Bin Tryz.prog .eql 23 (.agg (arr 3 F)) (.agg (arr 3 G)) (.bool true) := by
  have e1 : arr 3 F = #[.int .i64 a, .int .i64 b, .int .i64 c] := by simp [arr, List.range_succ, f0, f1, f2]
  have e2 : arr 3 G = #[.int .i64 a, .int .i64 b, .int .i64 c] := by simp [arr, List.range_succ, g0, g1, g2]
  rw [e1, e2]
  intro X Y w
  rw [Sem.run_bind, run_eqGuard_agg w .eql _ X Y _ _ kr, Result.andThen_ok]
  exact su_eq a b c w
end Go.Proofs.YtdmbfimjbmfbaaaGreat
