/-
  Steps of a walk, part 5: copies out of texts, calls of function values, texts repeated. No conditions.
-/
import Derived.Test.YthmcoaadigaddaaGenAny
import Derived.Lib.AppendStr
namespace Go.Proofs.Ythmcoaadigaddaa
open Go.RowKit
set_option linter.unusedSimpArgs false
set_option linter.unusedVariables false
section
variable {P : Program} {ops : Array Oper} {Q : Exit → Act → World → Prop} {w w' : World} {rest : List Oper} {n : Nat} {f : Nat → Value}
variable {ty : TypeId} {x y z : Operand} {v vx vy vz : Value} {t e : TypeId} {F G : Nat → Value}
theorem want_un {o : Oper} {j d : Nat} {b : Bool} {f : Nat → Value} (hg : o.guard = some (j, b)) (hj : (ops[j]?).bind (·.dst) = some d) (hv : Ev n f (.tmp d) undef) (hd : Nat.blt d n = true) : Region.wanted o (yielded ops (fr n f).tmps) = false := by
  have hd' : d < n := by simpa using hd
  have e : f d = undef := by simpa [Ev, fr, Act.eval, hd'] using hv
  simp [Region.wanted, hg, yielded, hj, fr, hd', e, undef]
theorem b_eqs_same {p : List (BitVec 8)} : Bin P .eql t (.string (str p)) (.string (str p)) (.bool true) := by
  have h := b_eqs (P := P) (t := t) (p := p) (q := p)
  rwa [show decide (p = p) = true from decide_eq_true rfl] at h
theorem b_nes_same {p : List (BitVec 8)} : Bin P .neq t (.string (str p)) (.string (str p)) (.bool false) := by
  have h := b_nes (P := P) (t := t) (p := p) (q := p)
  rwa [show decide (p ≠ p) = false from decide_eq_false (fun e => e rfl)] at h
theorem run_copys {t2 : TypeId} {g off m c K : Nat} {et : TypeId} {l : List (BitVec 8)} (ht : P.underlying t = some (.slice e)) (hsz : (P.info? e).map (·.size) = some 1) (hr : Row w g et K F) (hfit : off + m ≤ K) :
    ∃ w', (Builtin.copy_ #[t, t2] ty #[.slice (some ⟨g, off, none⟩) m c, .string (str l)]).run P w = .ok (.int .i64 ((min l.length m : Nat) : Int)) w' ∧
      Row w' g et K (fun j => if off ≤ j ∧ j < off + min l.length m then U8 (gb l (j - off)) else F j) ∧ w.grownBy w' (some g) ∧ w'.heap.size = w.heap.size := by
  obtain ⟨i, hi, hs⟩ := Option.map_eq_some_iff.1 hsz
  have hsize : (sizeOf e).run P w = .ok 1 w := by simp [sizeOf, typeInfo, hi, hs]
  have hcells : (((str l).extract 0 (min l.length m)).data.map fun b => Value.int .u8 b.toNat).toList = (List.range (min l.length m)).map fun j => U8 (gb l j) := by
    apply List.ext_getElem
    · simp [str]
    · intro j h1 h2
      have hj : j < min l.length m := by simpa using h2
      simp only [Array.getElem_toList, Array.getElem_map, List.getElem_map, List.getElem_range]
      have hj2 : j < l.length := by omega
      simp [str, ByteArray.extract, ByteArray.copySlice, gb, hj2, U8]
  have hst := run_storeCells_cells (P := P) g off ((List.range (min l.length m)).map fun j => U8 (gb l j)) 0 w
    (fun j hj => by simp at hj; rw [Nat.add_zero, hr.cell (by omega)]; rfl)
    (fun j hj => by simp at hj; rw [Nat.add_zero, hr.frozen (by omega)])
    (fun v hv => by
      obtain ⟨j, hj, rfl⟩ := List.mem_map.1 hv
      exact U8.oneCell _)
  simp only [Nat.add_zero] at hst
  obtain ⟨h1, h2, h3, h4⟩ := setCells_rest g ((List.range (min l.length m)).map fun j => U8 (gb l j)) off w
  refine ⟨_, ?_, (setCells_row et g K _ off w F hr).congr (fun j _ => ?_), ⟨h1, h2, h3, by omega, fun k hk hne => setCells_other g _ off w k (fun e => hne (by rw [e]))⟩, h4⟩
  · have hlen : (Builtin.lenOf (.string (str l))).run P w = .ok l.length w := by simp [Builtin.lenOf, size_str]
    have hfc : (Builtin.firstCells 1 (min l.length m) (.string (str l))).run P w = .ok (((str l).extract 0 (min l.length m)).data.map fun b => Value.int .u8 b.toNat) w := rfl
    generalize (((str l).extract 0 (min l.length m)).data.map fun b => Value.int .u8 b.toNat) = cells at hcells hfc
    have hmin : Nat.min l.length m = min l.length m := rfl
    unfold Builtin.copy_
    simp only [List.getElem?_toArray, List.getElem?_cons_zero, List.getElem?_cons_succ, Sem.run_bind, run_underlying ht, Result.andThen_ok, hlen, hsize, hmin, hfc, hcells, hst, Sem.run_pure, goInt]
  · by_cases e : off ≤ j ∧ j < off + min l.length m
    · rw [if_pos (by simpa using e), if_pos e]
      simp [show j - off < min l.length m from by omega]
    · rw [if_neg (by simpa using e), if_neg e]
theorem w_copys {d : Nat} {p : String} {aft : Array Edge} {t2 : TypeId} {g off m c K : Nat} {et : TypeId} {l : List (BitVec 8)} (hx : Ev n f x (.slice (some ⟨g, off, none⟩) m c)) (hy : Ev n f y (.string (str l))) (ht : P.underlying t = some (.slice e)) (hsz : (P.info? e).map (·.size) = some 1) (hr : Row w g et K F) (hfit : off + m ≤ K)
    (h : ∀ w', Row w' g et K (fun j => if off ≤ j ∧ j < off + min l.length m then U8 (gb l (j - off)) else F j) → w.grownBy w' (some g) → w'.heap.size = w.heap.size → wpList P ops Q rest (fr n (up f d (.int .i64 ((min l.length m : Nat) : Int)))) w') :
    wpList P ops Q (⟨some d, .call ⟨.builtin .copy, #[x, y], #[t, t2]⟩, ty, p, aft, none⟩ :: rest) (fr n f) w :=
  wpList_plain rfl fun K' hK => by
    obtain ⟨w', hrun, h1, h2, h3⟩ := run_copys (ty := ty) (t2 := t2) (c := c) (l := l) ht hsz hr hfit
    unfold Oper.wp
    have e1 : (fr n f).eval x = .slice (some ⟨g, off, none⟩) m c := hx
    have e2 : (fr n f).eval y = .string (str l) := hy
    have hrun' : (execOp (fr n f).eval ⟨some d, .call ⟨.builtin .copy, #[x, y], #[t, t2]⟩, ty, p, aft, none⟩).run P w = .ok (.value (.int .i64 ((min l.length m : Nat) : Int))) w' := by
      simp only [execOp, resolve, Sem.run_bind, Sem.run_pure, Result.andThen_ok, List.map_toArray, List.map_cons, List.map_nil, e1, e2, invoke, builtin, hrun]
    rw [hrun']
    simp only [Oper.upon, fr_put]
    exact hK _ _ (h w' h1 h2 h3)
theorem w_copys_ {p : String} {aft : Array Edge} {t2 : TypeId} {g off m c K : Nat} {et : TypeId} {l : List (BitVec 8)} (hx : Ev n f x (.slice (some ⟨g, off, none⟩) m c)) (hy : Ev n f y (.string (str l))) (ht : P.underlying t = some (.slice e)) (hsz : (P.info? e).map (·.size) = some 1) (hr : Row w g et K F) (hfit : off + m ≤ K)
    (h : ∀ w', Row w' g et K (fun j => if off ≤ j ∧ j < off + min l.length m then U8 (gb l (j - off)) else F j) → w.grownBy w' (some g) → w'.heap.size = w.heap.size → wpList P ops Q rest (fr n f) w') :
    wpList P ops Q (⟨none, .call ⟨.builtin .copy, #[x, y], #[t, t2]⟩, ty, p, aft, none⟩ :: rest) (fr n f) w :=
  wpList_plain rfl fun K' hK => by
    obtain ⟨w', hrun, h1, h2, h3⟩ := run_copys (ty := ty) (t2 := t2) (c := c) (l := l) ht hsz hr hfit
    unfold Oper.wp
    have e1 : (fr n f).eval x = .slice (some ⟨g, off, none⟩) m c := hx
    have e2 : (fr n f).eval y = .string (str l) := hy
    have hrun' : (execOp (fr n f).eval ⟨none, .call ⟨.builtin .copy, #[x, y], #[t, t2]⟩, ty, p, aft, none⟩).run P w = .ok (.value (.int .i64 ((min l.length m : Nat) : Int))) w' := by
      simp only [execOp, resolve, Sem.run_bind, Sem.run_pure, Result.andThen_ok, List.map_toArray, List.map_cons, List.map_nil, e1, e2, invoke, builtin, hrun]
    rw [hrun']
    simp only [Oper.upon, Act.put]
    exact hK _ _ (h w' h1 h2 h3)
theorem run_appends {base K0 : Nat} {tu ty' : TypeId} {i : TypeInfo} {v : Value} {l : List (BitVec 8)} (ht : P.underlying t = some (.slice e)) (hu : P.underlying tu = some .string) (hi : P.info? e = some i) (hz : i.zero = some (.int .u8 0)) (hs : i.size = 1) (hb : i.bytes = 1)
    (hown : Own w base e 1 v K0 F) (hbase : base ≤ w.heap.size) (h63 : K0 + l.length ≤ 140737488355328) :
    ∃ v' w', (Builtin.append_ #[t, tu] ty' #[v, .string (str l)]).run P w = .ok v' w' ∧ Own w' base e 1 v' (K0 + l.length) (fun j => if j < K0 * 1 then F j else U8 (gb l (0 + (j - K0 * 1)))) ∧ w.grownBy w' v.ownBlock ∧
      (v'.ownBlock = v.ownBlock ∨ v'.ownBlock = some w.heap.size) := by
  have hsz : (str l).size = l.length := size_str l
  obtain ⟨v', w', hr, h2, h3, h4⟩ := Lib.run_append_own_string (P := P) w base t tu ty' e i ht hu hi hz hs hb v K0 _ hown (str l) (by rw [hsz]; unfold maxLen; omega) (by rw [hsz]; omega) hbase
  rw [hsz] at h2 h4
  refine ⟨v', w', hr, ?_, h3, ?_⟩
  · unfold Own
    have e3 : ((List.range ((K0 + l.length) * 1)).map fun j => if j < K0 * 1 then F j else U8 (gb l (0 + (j - K0 * 1)))) = (List.range (K0 * 1)).map F ++ Lib.strCells (str l) := by
      have e4 : Lib.strCells (str l) = (List.range l.length).map fun j => U8 (gb l j) := by
        apply List.ext_getElem
        · rw [Lib.strCells_length, hsz]; simp
        · intro j h1 h2
          have hj : j < l.length := by simpa using h2
          simp [Lib.strCells, str, gb, hj, U8]
      rw [e4, Nat.add_mul, Nat.mul_one l.length, List.range_add, List.map_append, List.map_map]
      congr 1
      · exact List.map_congr_left (fun j hj => if_pos (List.mem_range.1 hj))
      · refine List.map_congr_left (fun j hj => ?_)
        simp only [Function.comp]
        rw [if_neg (by omega), Nat.add_sub_cancel_left, Nat.zero_add]
    rw [e3]
    exact h2
  · rcases hown.2 with ⟨rfl, rfl⟩ | ⟨g, cap, cur, rfl, hbg, hg, hnc, hcm, hcs, htake⟩
    · by_cases hm : l.length = 0
      · rw [h4.2 ⟨rfl, hm⟩]; exact Or.inl rfl
      · have hr2 := run_append_nil_string (P := P) w t tu ty' e i (.int .u8 0) ht hu hi hz (str l) (by omega) (by omega) (by rw [hb]; omega)
        rw [hr2] at hr
        cases hr
        exact Or.inr rfl
    · by_cases hroom : K0 + l.length ≤ cap
      · have hcs' : cur.size = cap := by simpa using hcs
        have hr2 := Lib.run_append_room_string (P := P) w t tu ty' e i ht hu hi hs g K0 cap cur hg (str l) (by omega) (by omega)
        rw [hr2] at hr
        cases hr
        exact Or.inl rfl
      · have hr2 := Lib.run_append_grow_string (P := P) w t tu ty' e i (.int .u8 0) ht hu hi hz ⟨g, 0, none⟩ K0 cap _ (by rw [hs]; simp) (World.ownsRow.cells hown (g := g) rfl) (str l) (by omega) (by omega) (by rw [hb]; exact growslice_fits (by omega) (by omega))
        rw [hr2] at hr
        cases hr
        exact Or.inr rfl
theorem w_apps {d base K0 : Nat} {p : String} {aft : Array Edge} {tu : TypeId} {l : List (BitVec 8)} (hx : Ev n f x v) (hy : Ev n f y (.string (str l))) (ht : P.underlying t = some (.slice e)) (hu : P.underlying tu = some .string)
    (hinfo : (P.info? e).map (fun i => (i.zero, i.size, i.bytes)) = some (some (.int .u8 0), 1, 1)) (hown : Own w base e 1 v K0 F) (hbase : base ≤ w.heap.size) (h63 : K0 + l.length ≤ 140737488355328)
    (h : ∀ v' w', Own w' base e 1 v' (K0 + l.length) (fun j => if j < K0 * 1 then F j else U8 (gb l (0 + (j - K0 * 1)))) → w.grownBy w' v.ownBlock → (v'.ownBlock = v.ownBlock ∨ v'.ownBlock = some w.heap.size) → wpList P ops Q rest (fr n (up f d v')) w') :
    wpList P ops Q (⟨some d, .call ⟨.builtin .append, #[x, y], #[t, tu]⟩, ty, p, aft, none⟩ :: rest) (fr n f) w :=
  wpList_plain rfl fun K' hK => by
    obtain ⟨i, hi, hi2⟩ := Option.map_eq_some_iff.1 hinfo
    simp only [Prod.mk.injEq] at hi2
    obtain ⟨hz, hs, hb⟩ := hi2
    obtain ⟨v', w', hrun, h1, h2, h3⟩ := run_appends (P := P) (t := t) (ty' := ty) (l := l) ht hu hi hz hs hb hown hbase h63
    unfold Oper.wp
    have e1 : (fr n f).eval x = v := hx
    have e2 : (fr n f).eval y = .string (str l) := hy
    have hrun' : (execOp (fr n f).eval ⟨some d, .call ⟨.builtin .append, #[x, y], #[t, tu]⟩, ty, p, aft, none⟩).run P w = .ok (.value v') w' := by
      simp only [execOp, resolve, Sem.run_bind, Sem.run_pure, Result.andThen_ok, List.map_toArray, List.map_cons, List.map_nil, e1, e2, invoke, builtin, hrun]
    rw [hrun']
    simp only [Oper.upon, fr_put]
    exact hK _ _ (h v' w' h1 h2 h3)
theorem y_slnil {hi : Option Operand} (hx : Ev n f x (.slice none 0 0)) (hh : evo n f hi (some (.int .i64 0))) (ht : P.underlying t = some (.slice e)) (hi1 : (P.info? e).map (·.size) = some 1) :
    Yields P n f (.slice t x none hi none) ty w (.slice none 0 0) := by
  have h1 : (fr n f).eval x = .slice none 0 0 := hx
  have h3 : hi.map (fr n f).eval = some (.int .i64 0) := hh
  obtain ⟨i, hq, hs⟩ := Option.map_eq_some_iff.1 hi1
  have hsz : (sizeOf e).run P w = .ok 1 w := by simp [sizeOf, typeInfo, hq, hs]
  have e' := (bnd_h (P := P) (s := true) (k' := .i64) (c := (0 : Int)) (h := 0) (len := 0) (cap := 0) rfl (Nat.le_refl 0)) w
  unfold Yields execOp
  simp only [h1, h3]
  simp [Instr.sliceAt, Instr.slice, Sem.run_bind, run_underlying ht, hsz, e']
/-- a function value is called -/
theorem w_callv {d : Nat} {p : String} {aft : Array Edge} {k : FuncId} {fn : Func} {c : Code} {args : Array Operand} {tys : Array TypeId} {vs caps all : Array Value} {R : Ending → World → Prop} (hz : Ev n f z (.func (.func k) #[] caps)) (hf : P.funcs[k]? = some fn) (hname : (fn.name == "runtime.NumGoroutine") = false) (hb : fn.body = some c)
    (ha : args.map (fr n f).eval = vs) (hall : vs ++ caps = all) (hc : Calls P k all w R) (h : ∀ e w', R e w' → ∃ v, e = .returned v ∧ wpList P ops Q rest (fr n (up f d v)) w') : wpList P ops Q (⟨some d, .call ⟨.value z, args, tys⟩, ty, p, aft, none⟩ :: rest) (fr n f) w :=
  wpList_plain rfl fun K hK => by
    subst hall
    have hz' : (fr n f).eval z = .func (.func k) #[] caps := hz
    unfold Oper.wp
    have e1 : (execOp (fr n f).eval ⟨some d, .call ⟨.value z, args, tys⟩, ty, p, aft, none⟩).run P w = .ok (.enter k (vs ++ caps)) w := by
      simp only [execOp, resolve, ha, hz', Sem.run_bind, Deferred.ofValue, Sem.run_pure, Result.andThen_ok, invoke, Array.append_empty, Array.empty_append]
      exact MuLone.run_callFunc_enter hf hname hb _ _
    rw [e1]
    simp only [Oper.upon]
    refine hc.mono fun e w' he => ?_
    obtain ⟨v, rfl, h'⟩ := h e w' he
    show K ((fr n f).put (some d) v) w'
    rw [fr_put]
    exact hK _ _ h'
end
end Go.Proofs.Ythmcoaadigaddaa
