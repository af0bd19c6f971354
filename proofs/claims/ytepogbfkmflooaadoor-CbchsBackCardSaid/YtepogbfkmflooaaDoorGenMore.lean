/-
  Steps of a walk, part 5: copies out of texts, calls of function values, texts repeated. No conditions.
-/
import Derived.Test.YtepogbfkmflooaaDoorGenAny
import Derived.Lib.AppendStr
namespace Go.Proofs.YtepogbfkmflooaaDoor
open Go.RowKit
set_option linter.unusedSimpArgs false
set_option linter.unusedVariables false
section
variable {P : Program} {ops : Array Oper} {Q : Exit → Act → World → Prop} {w w' : World} {rest : List Oper} {n : Nat} {f : Nat → Value}
variable {ty : TypeId} {x y z : Operand} {v vx vy vz : Value} {t e : TypeId} {F G : Nat → Value}
theorem b_eqs_same {p : List (BitVec 8)} : Bin P .eql t (.string (str p)) (.string (str p)) (.bool true) := by
  have h := b_eqs (P := P) (t := t) (p := p) (q := p)
  rwa [show decide (p = p) = true from decide_eq_true rfl] at h
theorem run_copys {t2 : TypeId} {g off m c K : Nat} {et : TypeId} {l : List (BitVec 8)} (ht : P.underlying t = some (.slice e)) (hsz : (P.info? e).map (·.size) = some 1) (hr : Row w g et K F) (hfit : off + m ≤ K) :
    ∃ w', (Builtin.copy_ #[t, t2] ty #[.slice (some ⟨g, off, none⟩) m c, .string (str l)]).run P w = .ok (.int .i64 ((min l.length m : Nat) : Int)) w' ∧
      Row w' g et K (fun j => if off ≤ j ∧ j < off + min l.length m then U8 (gb l (j - off)) else F j) ∧ w.grownBy w' (some g) ∧ w'.heap.size = w.heap.size := by
  obtain ⟨i, hi, hs⟩ := Option.map_eq_some_iff.1 hsz
  have hsize : (sizeOf e).run P w = .ok 1 w := by simp [sizeOf, typeInfo, hi, hs]
  have hcells : (((str l).extract 0 (min l.length m)).data.map fun b => Value.int .u8 b.toNat).toList = (List.range (min l.length m)).map fun j => U8 (gb l j) := by
    apply List.ext_getElem
    · simp [str]
    · intro j h1 h2
      have hj : j < min l.length m := by simpa using h2
      simp only [Array.getElem_toList, Array.getElem_map, List.getElem_map, List.getElem_range]
      have hj2 : j < l.length := by omega
      simp [str, ByteArray.extract, ByteArray.copySlice, gb, hj2, U8]
  have hst := run_storeCells_cells (P := P) g off ((List.range (min l.length m)).map fun j => U8 (gb l j)) 0 w
    (fun j hj => by simp at hj; rw [Nat.add_zero, hr.cell (by omega)]; rfl)
    (fun j hj => by simp at hj; rw [Nat.add_zero, hr.frozen (by omega)])
    (fun v hv => by
      obtain ⟨j, hj, rfl⟩ := List.mem_map.1 hv
      exact U8.oneCell _)
  simp only [Nat.add_zero] at hst
  obtain ⟨h1, h2, h3, h4⟩ := setCells_rest g ((List.range (min l.length m)).map fun j => U8 (gb l j)) off w
  refine ⟨_, ?_, (setCells_row et g K _ off w F hr).congr (fun j _ => ?_), ⟨h1, h2, h3, by omega, fun k hk hne => setCells_other g _ off w k (fun e => hne (by rw [e]))⟩, h4⟩
  · have hlen : (Builtin.lenOf (.string (str l))).run P w = .ok l.length w := by simp [Builtin.lenOf, size_str]
    have hfc : (Builtin.firstCells 1 (min l.length m) (.string (str l))).run P w = .ok (((str l).extract 0 (min l.length m)).data.map fun b => Value.int .u8 b.toNat) w := rfl
    generalize (((str l).extract 0 (min l.length m)).data.map fun b => Value.int .u8 b.toNat) = cells at hcells hfc
    have hmin : Nat.min l.length m = min l.length m := rfl
    unfold Builtin.copy_
    simp only [List.getElem?_toArray, List.getElem?_cons_zero, List.getElem?_cons_succ, Sem.run_bind, run_underlying ht, Result.andThen_ok, hlen, hsize, hmin, hfc, hcells, hst, Sem.run_pure, goInt]
  · by_cases e : off ≤ j ∧ j < off + min l.length m
    · rw [if_pos (by simpa using e), if_pos e]
      simp [show j - off < min l.length m from by omega]
    · rw [if_neg (by simpa using e), if_neg e]
theorem w_copys {d : Nat} {p : String} {aft : Array Edge} {t2 : TypeId} {g off m c K : Nat} {et : TypeId} {l : List (BitVec 8)} (hx : Ev n f x (.slice (some ⟨g, off, none⟩) m c)) (hy : Ev n f y (.string (str l))) (ht : P.underlying t = some (.slice e)) (hsz : (P.info? e).map (·.size) = some 1) (hr : Row w g et K F) (hfit : off + m ≤ K)
    (h : ∀ w', Row w' g et K (fun j => if off ≤ j ∧ j < off + min l.length m then U8 (gb l (j - off)) else F j) → w.grownBy w' (some g) → w'.heap.size = w.heap.size → wpList P ops Q rest (fr n (up f d (.int .i64 ((min l.length m : Nat) : Int)))) w') :
    wpList P ops Q (⟨some d, .call ⟨.builtin .copy, #[x, y], #[t, t2]⟩, ty, p, aft, none⟩ :: rest) (fr n f) w :=
  wpList_plain rfl fun K' hK => by
    obtain ⟨w', hrun, h1, h2, h3⟩ := run_copys (ty := ty) (t2 := t2) (c := c) (l := l) ht hsz hr hfit
    unfold Oper.wp
    have e1 : (fr n f).eval x = .slice (some ⟨g, off, none⟩) m c := hx
    have e2 : (fr n f).eval y = .string (str l) := hy
    have hrun' : (execOp (fr n f).eval ⟨some d, .call ⟨.builtin .copy, #[x, y], #[t, t2]⟩, ty, p, aft, none⟩).run P w = .ok (.value (.int .i64 ((min l.length m : Nat) : Int))) w' := by
      simp only [execOp, resolve, Sem.run_bind, Sem.run_pure, Result.andThen_ok, List.map_toArray, List.map_cons, List.map_nil, e1, e2, invoke, builtin, hrun]
    rw [hrun']
    simp only [Oper.upon, fr_put]
    exact hK _ _ (h w' h1 h2 h3)
theorem run_appends {base K0 : Nat} {tu ty' : TypeId} {i : TypeInfo} {v : Value} {l : List (BitVec 8)} (ht : P.underlying t = some (.slice e)) (hu : P.underlying tu = some .string) (hi : P.info? e = some i) (hz : i.zero = some (.int .u8 0)) (hs : i.size = 1) (hb : i.bytes = 1)
    (hown : Own w base e 1 v K0 F) (hbase : base ≤ w.heap.size) (h63 : K0 + l.length ≤ 140737488355328) :
    ∃ v' w', (Builtin.append_ #[t, tu] ty' #[v, .string (str l)]).run P w = .ok v' w' ∧ Own w' base e 1 v' (K0 + l.length) (fun j => if j < K0 * 1 then F j else U8 (gb l (0 + (j - K0 * 1)))) ∧ w.grownBy w' v.ownBlock ∧
      (v'.ownBlock = v.ownBlock ∨ v'.ownBlock = some w.heap.size) := by
  have hsz : (str l).size = l.length := size_str l
  have e4 : Lib.strCells (str l) = (List.range l.length).map fun j => U8 (gb l j) := by
    apply List.ext_getElem
    · rw [Lib.strCells_length, hsz]; simp
    · intro j h1 h2
      have hj : j < l.length := by simpa using h2
      simp [Lib.strCells, str, gb, hj, U8]
  have h63' : K0 + l.length ≤ maxLen := by unfold maxLen; omega
  have hcap : ∀ old, grownCap w (K0 + l.length) old e ≤ maxLen ∧ K0 + l.length ≤ grownCap w (K0 + l.length) old e := fun old => ⟨grownCap_le_maxLen w _ old e h63', grownCap_ge w _ old e⟩
  rcases hown with ⟨rfl, rfl⟩ | ⟨b, cap, G', rfl, hbg, hnc, hcm, hr', hF⟩
  · by_cases hm : l.length = 0
    · have hl0 : l = [] := List.eq_nil_of_length_eq_zero hm
      subst hl0
      obtain ⟨v', w', hr, h2, h3, h4⟩ := Lib.run_append_own_string (P := P) w base t tu ty' e i ht hu hi hz hs hb (.slice none 0 0) 0 _ (World.ownsRow_nil w base e 1) (str []) (by rw [hsz]; unfold maxLen; simp) (by rw [hsz]; simp) hbase
      rw [hsz] at h4
      have hv := h4.2 ⟨rfl, rfl⟩
      subst hv
      exact ⟨_, w', hr, .inl ⟨rfl, rfl⟩, h3, .inl rfl⟩
    · have hrun := run_append_nil_string (P := P) w t tu ty' e i (.int .u8 0) ht hu hi hz (str l) (by omega) (by omega) (by rw [hb]; omega)
      have hc := hcap 0
      simp only [Nat.zero_add] at hc
      have e5 : Array.map (fun b => Value.int .u8 b.toNat) (str l).data = (Lib.strCells (str l)).toArray := by
        apply Array.ext'
        simp [Lib.strCells]
      rw [hsz, e5, e4] at hrun
      refine ⟨_, _, hrun, ?_, ⟨rfl, rfl, rfl, by simp, fun k hk _ => Below.heap_alloc w.drew _ k hk⟩, .inr rfl⟩
      rw [Nat.zero_add]
      refine Own.fresh ?_ hc.2 hc.1 hbase (fun j hj => ?_)
      · simp only [Array.size_append, List.size_toArray, size_zeroCells, List.length_map, List.length_range]
        show l.length + (grownCap w l.length 0 e - l.length) * 1 = grownCap w l.length 0 e * 1
        omega
      · have hj' : j < l.length := by omega
        simp [Array.getElem?_append, hj']
  · by_cases hroom : K0 + l.length ≤ cap
    · obtain ⟨w', hst, hrow, hg⟩ := store_room (P := P) (a := K0) (m := l.length) (N := fun j => U8 (gb l j)) hr' (by omega) (fun j => U8.oneCell _)
      refine ⟨.slice (some ⟨b, 0, none⟩) (K0 + l.length) cap, w', ?_, .inr ⟨b, cap, _, rfl, hbg, hroom, hcm, hrow, fun j hj => ?_⟩, hg, .inl rfl⟩
      · have hf := Lib.run_firstCells_string (P := P) w 1 (str l)
        rw [← e4] at hst
        have hsz' : (str l).size = l.length := hsz
        rw [hsz] at hf
        simp [Builtin.append_, run_underlying ht, run_underlying hu, sizeOf, typeInfo, hi, hs, Builtin.lenOf, hsz, hroom, hf, Addr.add_lit, hst]
      · by_cases e1 : j < K0 * 1
        · rw [if_neg (by omega), hF j e1]; exact (if_pos e1).symm
        · rw [if_pos (by omega)]; refine Eq.trans ?_ (if_neg e1).symm; congr 2; omega
    · have holds : ∀ j u, ((List.range (K0 * 1)).map F)[j]? = some u → w.cell? ((⟨b, 0, none⟩ : Addr).add j) = some u := fun j u hj => by
        have hj' : j < K0 * 1 := by have := (List.getElem?_eq_some_iff.1 hj).1; simpa using this
        rw [List.getElem?_map, List.getElem?_range hj'] at hj
        rw [Addr.add_lit, Nat.zero_add, hr'.cell (by omega), hF j hj']
        exact hj
      have hrun := Lib.run_append_grow_string (P := P) w t tu ty' e i (.int .u8 0) ht hu hi hz ⟨b, 0, none⟩ K0 cap ((List.range (K0 * 1)).map F) (by rw [hs]; simp) holds (str l) (by omega) (by omega) (by rw [hb]; exact growslice_fits (by omega) (by omega))
      have hc := hcap cap
      rw [hsz, e4] at hrun
      refine ⟨_, _, hrun, Own.fresh ?_ hc.2 hc.1 hbase (fun j hj => ?_), ⟨rfl, rfl, rfl, by simp, fun k hk _ => Below.heap_alloc w.drew _ k hk⟩, .inr rfl⟩
      · simp only [Array.size_append, List.size_toArray, size_zeroCells, List.length_map, List.length_range]
        show K0 * 1 + l.length + (grownCap w (K0 + l.length) cap e - (K0 + l.length)) * 1 = grownCap w (K0 + l.length) cap e * 1
        omega
      · have hj' : j < K0 + l.length := by omega
        by_cases e1 : j < K0 * 1
        · rw [if_pos e1]
          have e2 : j < K0 := by omega
          simp [Array.getElem?_append, e2, hj']
        · rw [if_neg e1]
          have e2 : ¬ j < K0 := by omega
          have hj3 : j - K0 < l.length := by omega
          simp [Array.getElem?_append, e2, hj', hj3]
          rw [List.getElem_append_right (by simp; omega)]
          simp
theorem w_apps {d base K0 : Nat} {p : String} {aft : Array Edge} {tu : TypeId} {l : List (BitVec 8)} (hx : Ev n f x v) (hy : Ev n f y (.string (str l))) (ht : P.underlying t = some (.slice e)) (hu : P.underlying tu = some .string)
    (hinfo : (P.info? e).map (fun i => (i.zero, i.size, i.bytes)) = some (some (.int .u8 0), 1, 1)) (hown : Own w base e 1 v K0 F) (hbase : base ≤ w.heap.size) (h63 : K0 + l.length ≤ 140737488355328)
    (h : ∀ v' w', Own w' base e 1 v' (K0 + l.length) (fun j => if j < K0 * 1 then F j else U8 (gb l (0 + (j - K0 * 1)))) → w.grownBy w' v.ownBlock → (v'.ownBlock = v.ownBlock ∨ v'.ownBlock = some w.heap.size) → wpList P ops Q rest (fr n (up f d v')) w') :
    wpList P ops Q (⟨some d, .call ⟨.builtin .append, #[x, y], #[t, tu]⟩, ty, p, aft, none⟩ :: rest) (fr n f) w :=
  wpList_plain rfl fun K' hK => by
    obtain ⟨i, hi, hi2⟩ := Option.map_eq_some_iff.1 hinfo
    simp only [Prod.mk.injEq] at hi2
    obtain ⟨hz, hs, hb⟩ := hi2
    obtain ⟨v', w', hrun, h1, h2, h3⟩ := run_appends (P := P) (t := t) (ty' := ty) (l := l) ht hu hi hz hs hb hown hbase h63
    unfold Oper.wp
    have e1 : (fr n f).eval x = v := hx
    have e2 : (fr n f).eval y = .string (str l) := hy
    have hrun' : (execOp (fr n f).eval ⟨some d, .call ⟨.builtin .append, #[x, y], #[t, tu]⟩, ty, p, aft, none⟩).run P w = .ok (.value v') w' := by
      simp only [execOp, resolve, Sem.run_bind, Sem.run_pure, Result.andThen_ok, List.map_toArray, List.map_cons, List.map_nil, e1, e2, invoke, builtin, hrun]
    rw [hrun']
    simp only [Oper.upon, fr_put]
    exact hK _ _ (h v' w' h1 h2 h3)
end
end Go.Proofs.YtepogbfkmflooaaDoor
