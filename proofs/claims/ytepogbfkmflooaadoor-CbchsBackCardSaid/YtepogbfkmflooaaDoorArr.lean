/-
  Whole arrays read out of a row of cells and stored into one. No conditions.
-/
import Derived.Test.YtepogbfkmflooaaDoorQuiet
import Derived.Laws.IdiomCopy
namespace Go.Proofs.YtepogbfkmflooaaDoor
open Go.RowKit
set_option linter.unusedSimpArgs false
set_option linter.unusedVariables false
/-- an array's m values: simp does not look behind the name -/
def arr (m : Nat) (f : Nat → Value) : Array Value := ((List.range m).map f).toArray
theorem size_arr (m : Nat) (f : Nat → Value) : (arr m f).size = m := by simp [arr]
theorem arr_at (m : Nat) (f : Nat → Value) (i : Nat) (h : i < m) : (arr m f)[i]? = some (f i) := by simp [arr, h]
theorem Row.of_arr (w : World) (t : TypeId) (m : Nat) (f : Nat → Value) : Row (w.alloc (.cells (arr m f) t)) w.heap.size t m f :=
  Row.fresh (size_arr m f) (fun i hi => arr_at m f i hi)
section
variable {P : Program}
def isAggD : TypeDesc → Bool
  | .struct _ | .array _ _ => true
  | _ => false
theorem run_isAgg (w : World) (ty : TypeId) (hu : (P.underlying ty).map isAggD = some true) : (isAgg ty).run P w = .ok true w := by
  obtain ⟨d, h1, h2⟩ := Option.map_eq_some_iff.1 hu
  unfold isAgg
  rw [Sem.run_bind, run_underlying h1 w]
  cases d <;> simp_all [isAggD]
theorem run_loadVar_at (w : World) (ty : TypeId) (g off m : Nat) (f : Nat → Value) (hu : (P.underlying ty).map isAggD = some true) (hi : (P.info? ty).map (·.size) = some m)
    (hc : ∀ j, j < m → w.cell? ⟨g, off + j, none⟩ = some (f j)) : (loadVar ty ⟨g, off, none⟩).run P w = .ok (.agg (arr m f)) w := by
  have hl := run_loadCells (P := P) w ⟨g, off, none⟩ m f (fun j hj => by rw [Addr.add_lit]; exact hc j hj)
  cases hq : P.info? ty with
  | none => simp [hq] at hi
  | some i =>
    have hs : i.size = m := by simpa [hq] using hi
    have hsz : (sizeOf ty).run P w = .ok m w := by simp [sizeOf, typeInfo, hq, hs]
    have hag := run_isAgg (P := P) w ty hu
    simp [loadVar, Sem.run_bind, hag, hsz, hl, arr]
theorem wp_load_arr {o : Oper} {a : Act} {w : World} {K : Act → World → Prop} {Q : Exit → Act → World → Prop} (ty : TypeId) (x : Operand) (ho : o.op = .load ty x)
    (g off m : Nat) (hx : a.eval x = .pointer (some ⟨g, off, none⟩)) (f : Nat → Value) (hu : (P.underlying ty).map isAggD = some true) (hi : (P.info? ty).map (·.size) = some m)
    (hc : ∀ j, j < m → w.cell? ⟨g, off + j, none⟩ = some (f j)) (h : K (a.put o.dst (.agg (arr m f))) w) : o.wp P a w K Q := by
  unfold Oper.wp execOp
  simp only [ho, hx, Instr.loadAt, Instr.sureAddr, Sem.run_bind, Sem.run_pure, Result.andThen_ok, run_loadVar_at w ty g off m f hu hi hc]
  exact h
theorem wpList_load_arr {ops : Array Oper} {rest : List Oper} {o : Oper} {a : Act} {w : World} {Q : Exit → Act → World → Prop} (hgd : o.guard = none) (ty : TypeId) (x : Operand) (ho : o.op = .load ty x)
    (g off m : Nat) (hx : a.eval x = .pointer (some ⟨g, off, none⟩)) (f : Nat → Value) (hu : (P.underlying ty).map isAggD = some true) (hi : (P.info? ty).map (·.size) = some m)
    (hc : ∀ j, j < m → w.cell? ⟨g, off + j, none⟩ = some (f j)) (h : wpList P ops Q rest (a.put o.dst (.agg (arr m f))) w) : wpList P ops Q (o :: rest) a w :=
  wpList_plain hgd fun _ hK => wp_load_arr ty x ho g off m hx f hu hi hc (hK _ _ h)
theorem setCells_other (b : Nat) : ∀ (vs : List Value) (o : Nat) (w : World) (k : Nat), k ≠ b → (w.setCells b o vs).heap[k]? = w.heap[k]?
  | [], _, _, _, _ => rfl
  | v :: r, o, w, k, h => by rw [World.setCells, setCells_other b r (o + 1) _ k h, Below.heap_setCell _ _ _ _ h]
theorem setCells_rest (b : Nat) : ∀ (vs : List Value) (o : Nat) (w : World), (w.setCells b o vs).os = w.os ∧ (w.setCells b o vs).tape = w.tape ∧ (w.setCells b o vs).output = w.output ∧ (w.setCells b o vs).heap.size = w.heap.size
  | [], _, _ => ⟨rfl, rfl, rfl, rfl⟩
  | v :: r, o, w => by
    obtain ⟨h1, h2, h3, h4⟩ := setCells_rest b r (o + 1) (w.setCell ⟨b, o, none⟩ v)
    exact ⟨h1, h2, h3, by rw [World.setCells, h4]; simp [World.setCell]⟩
theorem setCells_row (t : TypeId) (b n : Nat) : ∀ (vs : List Value) (o : Nat) (w : World) (f : Nat → Value), Row w b t n f → Row (w.setCells b o vs) b t n (fun j => if o ≤ j ∧ j < o + vs.length then vs.getD (j - o) undef else f j)
  | [], o, w, f, h => h.congr (fun i _ => by rw [if_neg (by simp only [List.length_nil]; omega)])
  | v :: r, o, w, f, h => by
    refine (setCells_row t b n r (o + 1) _ _ (h.set_ o v)).congr (fun i hi => ?_)
    by_cases h1 : o + 1 ≤ i ∧ i < o + 1 + r.length
    · rw [if_pos h1, if_pos (by simp; omega), show i - o = i - (o + 1) + 1 from by omega]
      rfl
    · rw [if_neg h1]
      by_cases h2 : i = o
      · subst h2
        rw [if_pos rfl, if_pos (by simp)]
        simp
      · rw [if_neg h2, if_neg (by simp; omega)]
theorem run_storeVar_at (w : World) (ty t : TypeId) (g off m n : Nat) (h f : Nat → Value) (hi : (P.info? ty).map (·.size) = some m) (hone : ∀ j, j < m → (h j).oneCell' = true) (hr : Row w g t n f) (hn : off + m ≤ n) :
    (storeVar ty ⟨g, off, none⟩ (.agg (arr m h))).run P w = .ok () (w.setCells g off ((List.range m).map h)) := by
  have hst := run_storeCells_cells (P := P) g off ((List.range m).map h) 0 w
    (fun j hj => by simp at hj; rw [Nat.add_zero, hr.cell (by omega)]; rfl)
    (fun j hj => by simp at hj; rw [Nat.add_zero, hr.frozen (by omega)])
    (fun v hv => by
      obtain ⟨j, hj, rfl⟩ := List.mem_map.1 hv
      exact hone j (List.mem_range.1 hj))
  cases hq : P.info? ty with
  | none => simp [hq] at hi
  | some i =>
    have hs : i.size = m := by simpa [hq] using hi
    have hc : (Value.agg (arr m h)).cells = arr m h := rfl
    have hl : (arr m h).toList = (List.range m).map h := rfl
    have hsz : (sizeOf ty).run P w = .ok m w := by simp [sizeOf, typeInfo, hq, hs]
    simp only [Nat.add_zero] at hst
    simp [storeVar, Sem.run_bind, hsz, hc, size_arr, hl, hst]
theorem wp_store_arr {o : Oper} {a : Act} {w : World} {K : Act → World → Prop} {Q : Exit → Act → World → Prop} (ty : TypeId) (p x : Operand) (ho : o.op = .store ty p x)
    (g off m : Nat) (hp : a.eval p = .pointer (some ⟨g, off, none⟩)) (h : Nat → Value) (hx : a.eval x = .agg (arr m h)) (hi : (P.info? ty).map (·.size) = some m)
    (hone : ∀ j, j < m → (h j).oneCell' = true) (t : TypeId) (n : Nat) (f : Nat → Value) (hr : Row w g t n f) (hn : off + m ≤ n)
    (hK : ∀ w', Row w' g t n (fun j => if off ≤ j ∧ j < off + m then h (j - off) else f j) → w.grownBy w' (some g) → w'.heap.size = w.heap.size → K (a.put o.dst undef) w') : o.wp P a w K Q := by
  unfold Oper.wp execOp
  simp only [ho, hp, hx, Instr.storeAt, Instr.sureAddr, Sem.run_bind, Sem.run_pure, Result.andThen_ok, run_storeVar_at w ty t g off m n h f hi hone hr hn]
  obtain ⟨h1, h2, h3, h4⟩ := setCells_rest g ((List.range m).map h) off w
  refine hK _ ((setCells_row t g n _ off w f hr).congr (fun i _ => ?_)) ⟨h1, h2, h3, by omega, fun k hk hne => setCells_other g _ off w k (fun e => hne (by rw [e]))⟩ h4
  by_cases e : off ≤ i ∧ i < off + m
  · rw [if_pos (by simpa using e), if_pos e]
    simp [show i - off < m from by omega]
  · rw [if_neg (by simpa using e), if_neg e]
theorem wpList_store_arr {ops : Array Oper} {rest : List Oper} {o : Oper} {a : Act} {w : World} {Q : Exit → Act → World → Prop} (hgd : o.guard = none) (hd : o.dst = none) (ty : TypeId) (p x : Operand) (ho : o.op = .store ty p x)
    (g off m : Nat) (hp : a.eval p = .pointer (some ⟨g, off, none⟩)) (h : Nat → Value) (hx : a.eval x = .agg (arr m h)) (hi : (P.info? ty).map (·.size) = some m)
    (hone : ∀ j, j < m → (h j).oneCell' = true) (t : TypeId) (n : Nat) (f : Nat → Value) (hr : Row w g t n f) (hn : off + m ≤ n)
    (hK : ∀ w', Row w' g t n (fun j => if off ≤ j ∧ j < off + m then h (j - off) else f j) → w.grownBy w' (some g) → w'.heap.size = w.heap.size → wpList P ops Q rest a w') : wpList P ops Q (o :: rest) a w :=
  wpList_plain hgd fun _ hK' => wp_store_arr ty p x ho g off m hp h hx hi hone t n f hr hn (fun w' a1 a2 a3 => hK' _ _ (by rw [hd]; exact hK w' a1 a2 a3))
/-- a result that lies in memory, an array -/
theorem results_arr {fn : Func} {p : Tmp} {ty : TypeId} (h : fn.results = #[.cell p ty]) (tmps : Array Value) (w : World) (g m : Nat) (f : Nat → Value)
    (hp : tmps.getD p undef = .pointer (some ⟨g, 0, none⟩)) (hu : (P.underlying ty).map isAggD = some true) (hi : (P.info? ty).map (·.size) = some m)
    (hc : ∀ j, j < m → w.cell? ⟨g, j, none⟩ = some (f j)) : (results fn tmps).run P w = .ok (.agg (arr m f)) w := by
  have hp' : tmps[p]?.getD undef = .pointer (some ⟨g, 0, none⟩) := by simpa using hp
  simp [results, h, hp', asAddr, run_loadVar_at w ty g 0 m f hu hi (fun j hj => by rw [Nat.zero_add]; exact hc j hj)]
theorem wpList_build {ops : Array Oper} {rest : List Oper} {o : Oper} {a : Act} {w : World} {Q : Exit → Act → World → Prop} (hgd : o.guard = none) (t : TypeId) (k : Nat) (x : Operand) (ho : o.op = .build t #[(k, x)])
    (vx v : Value) (hx : a.eval x = vx) (hb : ∀ w, (Instr.build t #[(k, vx)]).run P w = .ok v w) (h : wpList P ops Q rest (a.put o.dst v) w) : wpList P ops Q (o :: rest) a w :=
  wpList_plain hgd fun _ hK => by
    unfold Oper.wp execOp
    simp only [ho, List.map_toArray, List.map_cons, List.map_nil, hx, Sem.run_bind, hb, Result.andThen_ok, Sem.run_pure]
    exact hK _ _ h
/-- one cell of a row stored, the world behind it by what is known of it alone -/
theorem wpList_store_cell {ops : Array Oper} {rest : List Oper} {o : Oper} {a : Act} {w : World} {Q : Exit → Act → World → Prop} (hgd : o.guard = none) (hd : o.dst = none) (ty : TypeId) (p x : Operand) (ho : o.op = .store ty p x)
    (g i : Nat) (hp : a.eval p = .pointer (some ⟨g, i, none⟩)) (v : Value) (hx : a.eval x = v) (hone : v.oneCell' = true) (hcl : v.cells = #[v]) (hty : (P.info? ty).map (·.size) = some 1)
    (t : TypeId) (n : Nat) (f : Nat → Value) (hr : Row w g t n f) (hi : i < n)
    (hK : ∀ w', Row w' g t n (fun j => if j = i then v else f j) → w.grownBy w' (some g) → w'.heap.size = w.heap.size → wpList P ops Q rest a w') : wpList P ops Q (o :: rest) a w :=
  wpList_plain hgd fun _ hK' => by
    cases hq : P.info? ty with
    | none => simp [hq] at hty
    | some j =>
      have hs : j.size = 1 := by simpa [hq] using hty
      have hsz : (sizeOf ty).run P w = .ok 1 w := by simp [sizeOf, typeInfo, hq, hs]
      have hst : (store ⟨g, i, none⟩ v).run P w = .ok () (w.setCell ⟨g, i, none⟩ v) := by
        rw [run_store P w ⟨g, i, none⟩ v _ hone, hr.cell hi]
        simp [hr.frozen hi]
      have hsc : (storeCells ⟨g, i, none⟩ [v]).run P w = .ok () (w.setCell ⟨g, i, none⟩ v) := by
        simp only [storeCells, Addr.add_zero', Sem.run_bind, hst, Result.andThen_ok, Sem.run_pure]
      have hsv : (storeVar ty ⟨g, i, none⟩ v).run P w = .ok () (w.setCell ⟨g, i, none⟩ v) := by
        simp [storeVar, Sem.run_bind, hsz, hcl, hsc]
      unfold Oper.wp execOp
      simp only [ho, hp, hx, Instr.storeAt, Instr.sureAddr, Sem.run_bind, Sem.run_pure, Result.andThen_ok, hsv]
      exact hK' _ _ (by rw [hd]; exact hK _ (hr.set_ i v) ⟨rfl, rfl, rfl, by simp [World.setCell], fun k _ hne => Below.heap_setCell w _ v k (fun e => hne (by rw [e]))⟩ (by simp [World.setCell]))
end
end Go.Proofs.YtepogbfkmflooaaDoor
