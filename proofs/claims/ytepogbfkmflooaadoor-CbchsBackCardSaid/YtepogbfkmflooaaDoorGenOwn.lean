/-
  Steps of a walk, part 3: rows that grow by append. No conditions.
-/
import Derived.Test.YtepogbfkmflooaaDoorGenOps
import Derived.Maps.AppendAt
import Derived.Laws.MakeOwn
namespace Go.Proofs.YtepogbfkmflooaaDoor
open Go.RowKit
set_option linter.unusedSimpArgs false
set_option linter.unusedVariables false
section
variable {P : Program} {ops : Array Oper} {Q : Exit → Act → World → Prop} {w w' : World} {rest : List Oper} {n : Nat} {f : Nat → Value}
variable {ty : TypeId} {x y z : Operand} {v vx vy vz : Value} {t e : TypeId} {base size k : Nat} {F G : Nat → Value}
/-- the slice v of k elements owns its row; its cells are F's -/
def Own (w : World) (base : Nat) (e : TypeId) (size : Nat) (v : Value) (k : Nat) (F : Nat → Value) : Prop :=
  (v = .slice none 0 0 ∧ k = 0) ∨ ∃ g cap G, v = .slice (some ⟨g, 0, none⟩) k cap ∧ base ≤ g ∧ k ≤ cap ∧ cap ≤ maxLen ∧ Row w g e (cap * size) G ∧ ∀ j, j < k * size → G j = F j
namespace Own
theorem congr (h : Own w base e size v k F) (hF : ∀ j, j < k * size → F j = G j) : Own w base e size v k G := by
  rcases h with h | ⟨g, cap, G', h1, h2, h3, h4, h5, h6⟩
  · exact .inl h
  · exact .inr ⟨g, cap, G', h1, h2, h3, h4, h5, fun j hj => (h6 j hj).trans (hF j hj)⟩
theorem cg (h : Own w base e size v k F) (hF : ∀ j, j < k * size → F j = G j := by intro j hj; (first | with_reducible rfl | (dsimp only; done) | ((try dsimp only); (repeat' split) <;> first | with_reducible rfl | (exfalso; omega) | (subst_vars; with_reducible rfl) | (subst_vars; simp only [Nat.add_sub_cancel_left, Nat.add_sub_cancel, Nat.sub_self, Nat.sub_zero]; done) | (with_reducible congr 1 <;> omega) | (with_reducible congr 2 <;> omega) | (with_reducible congr 3 <;> omega) | rfl | (subst_vars; rfl)))) : Own w base e size v k G := h.congr hF
theorem opened (h : Own w base e size v k F) (hk : 0 < k) : ∃ g cap, v = .slice (some ⟨g, 0, none⟩) k cap ∧ base ≤ g ∧ k ≤ cap ∧ v.ownBlock = some g ∧ Row w g e (k * size) F := by
  rcases h with ⟨_, h0⟩ | ⟨g, cap, G', hv, hb, hn, _, hr, hF⟩
  · omega
  · exact ⟨g, cap, hv, hb, hn, by rw [hv]; rfl, (hr.take (Nat.mul_le_mul_right _ hn)).congr hF⟩
theorem block_lt (h : Own w base e size v k F) : ∀ g, v.ownBlock = some g → g < w.heap.size ∧ base ≤ g := by
  intro g hg
  rcases h with ⟨hv, _⟩ | ⟨g', cap, G', hv, hb, _, _, hr, _⟩
  · rw [hv] at hg; simp [Value.ownBlock] at hg
  · rw [hv] at hg
    simp only [Value.ownBlock, Option.some.injEq] at hg
    subst hg
    exact ⟨hr.lt, hb⟩
theorem one (h : Own w base e size v k F) : v.oneCell' = true := by
  rcases h with ⟨hv, _⟩ | ⟨g', cap, cur, hv, _⟩ <;> rw [hv] <;> rfl
theorem cells (h : Own w base e size v k F) : v.cells = #[v] := by
  rcases h with ⟨hv, _⟩ | ⟨g', cap, cur, hv, _⟩ <;> rw [hv] <;> rfl
theorem apart (h : Own w base e size v k F) {b : Nat} (hb : w.heap.size ≤ b) : v.ownBlock ≠ some b := fun e => by have := (h.block_lt b e).1; omega
theorem stepO (h : Own w base e size v k F) {r : Option Nat} (hg : w.grownBy w' r) (hne : v.ownBlock = none ∨ v.ownBlock ≠ r) : Own w' base e size v k F := by
  rcases h with h | ⟨g, cap, G', hv, h2, h3, h4, h5, h6⟩
  · exact .inl h
  · refine .inr ⟨g, cap, G', hv, h2, h3, h4, h5.grown hg ?_, h6⟩
    subst hv
    simpa [Value.ownBlock] using hne
theorem step (h : Own w base e size v k F) (hb : Below w.heap.size w w') : Own w' base e size v k F :=
  h.stepO (r := none) (grown_of_below hb) (by
    cases hv : v.ownBlock with
    | none => exact .inl rfl
    | some g => exact .inr (by simp))
theorem stepG (h : Own w base e size v k F) {g : Nat} (hg : w.grownBy w' (some g)) (hne : v.ownBlock ≠ some g) : Own w' base e size v k F :=
  h.stepO hg (.inr hne)
/-- a new block -/
theorem fresh {cs : Array Value} {cap : Nat} (hs : cs.size = cap * size) (hk : k ≤ cap) (hm : cap ≤ maxLen) (hb : base ≤ w.heap.size) (hc : ∀ j, j < k * size → cs[j]? = some (F j)) :
    Own (w.drew.alloc (.cells cs e)) base e size (.slice (some ⟨w.heap.size, 0, none⟩) k cap) k F :=
  .inr ⟨w.heap.size, cap, fun j => cs.getD j undef, rfl, hb, hk, hm, Row.fresh (w := w.drew) hs (fun i hi => by
    have : i < cs.size := by omega
    simp [this]), fun j hj => by simp [Array.getD_eq_getD_getElem?, hc j hj]⟩
end Own
theorem Row.stepO {b m : Nat} (h : Row w b e m F) {r : Option Nat} (hg : w.grownBy w' r) (hne : r ≠ some b) : Row w' b e m F := h.grown hg (fun e => hne e.symm)
theorem thenO {w0 : World} {r : Option Nat} (h : Below w0.heap.size w0 w) (hg : w.grownBy w' r) (hle : ∀ g, r = some g → w0.heap.size ≤ g) : Below w0.heap.size w0 w' := h.grown hg h.size hle
theorem grown_thenO {w0 : World} {r s : Option Nat} (h : w0.grownBy w s) (hg : w.grownBy w' r) (hle : ∀ g, r = some g → w0.heap.size ≤ g) : w0.grownBy w' s :=
  ⟨hg.os.trans h.os, hg.tape.trans h.tape, hg.output.trans h.output, Nat.le_trans h.size hg.size, fun k hk hne => (hg.block k (Nat.lt_of_lt_of_le hk h.size) (fun e => by have := hle k e.symm; omega)).trans (h.block k hk hne)⟩
theorem own_n {k' : Nat} (h : Own w base e size v k F) (hk : k = k') : Own w base e size v k' F := hk ▸ h
theorem y_strown {s' d' e' : TypeId} {l : List (BitVec 8)} (hx : Ev n f x v) (hown : Own w base e 1 v k F) (hl : l.length = k) (hc : ∀ j, j < k → F j = U8 (gb l j)) (hs : P.underlying s' = some (.slice e')) (he : P.underlying e' = some (.int .u8)) (hd : P.underlying d' = some .string) :
    Yields P n f (.convert s' d' x) ty w (.string (str l)) := by
  by_cases h0 : 0 < k
  · obtain ⟨g, cap, rfl, _, _, _, hr⟩ := hown.opened h0
    exact y_str hx hl hs he hd (fun j hj => by rw [Nat.zero_add, hr.cell (by omega), hc j hj])
  · obtain rfl : k = 0 := by omega
    have hnil : l = [] := List.eq_nil_of_length_eq_zero hl
    subst hnil
    rcases hown with ⟨rfl, _⟩ | ⟨g, cap, cur, rfl, _⟩
    · exact y_str0 hx hs he hd
    · exact y_str hx rfl hs he hd (fun j hj => by omega)
/-- T{x}: a slice of one element, in a block of its own -/
theorem w_bs1 {d : Nat} {p : String} {aft : Array Edge} {m : Nat} (hx : Ev n f x v) (hr : ∀ w, (Instr.buildSlice t 1 #[(0, v)]).run P w = .ok (.slice (some ⟨w.heap.size, 0, none⟩) 1 1) (w.alloc (.cells (arr m F) e)))
    (h : ∀ b w', b = w.heap.size → Row w' b e m F → Below w.heap.size w w' → wpList P ops Q rest (fr n (up f d (.slice (some ⟨b, 0, none⟩) 1 1))) w') : wpList P ops Q (⟨some d, .buildSlice t 1 #[(0, x)], ty, p, aft, none⟩ :: rest) (fr n f) w := by
  have h1 : (fr n f).eval x = v := hx
  refine w_new (v := .slice (some ⟨w.heap.size, 0, none⟩) 1 1) (c := arr m F) (e := e) ?_ rfl (fun w' => h _ w' rfl)
  unfold execOp
  simp only [h1, List.map_toArray, List.map_cons, List.map_nil]
  rw [Sem.run_bind, hr w]
  rfl
/-- cells stored behind what is there, in room -/
theorem store_room {g a m K : Nat} {et : TypeId} {N : Nat → Value} (hr : Row w g et K F) (hfit : a + m ≤ K) (hone : ∀ j, (N j).oneCell' = true) :
    ∃ w', (storeCells ⟨g, a, none⟩ ((List.range m).map N)).run P w = .ok () w' ∧ Row w' g et K (fun j => if a ≤ j ∧ j < a + m then N (j - a) else F j) ∧ w.grownBy w' (some g) := by
  have hst := run_storeCells_cells (P := P) g a ((List.range m).map N) 0 w
    (fun j hj => by simp at hj; rw [Nat.add_zero, hr.cell (by omega)]; rfl)
    (fun j hj => by simp at hj; rw [Nat.add_zero, hr.frozen (by omega)])
    (fun v hv => by
      obtain ⟨j, hj, rfl⟩ := List.mem_map.1 hv
      exact hone j)
  simp only [Nat.add_zero] at hst
  obtain ⟨h1, h2, h3, h4⟩ := setCells_rest g ((List.range m).map N) a w
  refine ⟨_, hst, (setCells_row et g K _ a w F hr).congr (fun j _ => ?_), ⟨h1, h2, h3, by omega, fun k hk hne => setCells_other g _ a w k (fun e => hne (by rw [e]))⟩⟩
  by_cases e : a ≤ j ∧ j < a + m
  · rw [if_pos (by simpa using e), if_pos e]
    simp [show j - a < m from by omega]
  · rw [if_neg (by simpa using e), if_neg e]
/-- make([]T, 0, c), as a slice of the call's own -/
theorem w_mk0 {d : Nat} {p : String} {aft : Array Edge} {c bytes : Nat} {zv : Value} {kl kc : IntKind} {a b : Int} (hx : Ev n f x (.int kl a)) (hy : Ev n f y (.int kc b)) (ha : a = 0) (hb : b = (c : Int)) (ht : P.underlying t = some (.slice e))
    (hinfo : (P.info? e).map (fun i => (i.zero, i.size, i.bytes)) = some (some zv, size, bytes)) (hbytes : bytes * c ≤ 281474976710656) (h63 : c ≤ maxLen) (hbase : base ≤ w.heap.size)
    (h : ∀ v' w', Own w' base e size v' 0 F → v'.ownBlock = some w.heap.size → Below w.heap.size w w' → wpList P ops Q rest (fr n (up f d v')) w') : wpList P ops Q (⟨some d, .makeSlice t x y, ty, p, aft, none⟩ :: rest) (fr n f) w :=
  wpList_plain rfl fun K hK => by
    obtain ⟨i, hi, hi2⟩ := Option.map_eq_some_iff.1 hinfo
    simp only [Prod.mk.injEq] at hi2
    obtain ⟨hz, hs, hby⟩ := hi2
    have h1 : (fr n f).eval x = .int kl a := hx
    have h2 : (fr n f).eval y = .int kc b := hy
    subst ha hb hs hby
    have hc63 : (c : Int) ≤ 9223372036854775807 := by have := h63; simp only [maxLen] at this; omega
    have hr := run_make (P := P) w t e i zv ht hi hz kl kc 0 (c : Int) (by omega) (by omega) (by omega) hc63
    unfold Oper.wp
    have e1 : (execOp (fr n f).eval ⟨some d, .makeSlice t x y, ty, p, aft, none⟩).run P w = .ok (.value (.slice (some ⟨w.heap.size, 0, none⟩) 0 c)) (w.alloc (.cells (madeCells zv.cells (c * i.size)) e)) := by
      unfold execOp
      simp only [h1, h2]
      rw [Sem.run_bind, hr]
      rfl
    rw [e1]
    simp only [Oper.upon, fr_put]
    refine hK _ _ (h _ _ (.inr ⟨w.heap.size, c, fun j => (madeCells zv.cells (c * i.size)).getD j undef, rfl, hbase, Nat.zero_le _, h63, Row.fresh (by rw [size_madeCells]) (fun j hj => ?_), fun j hj => absurd hj (by omega)⟩) rfl (((Below.refl _ _)).alloc (Nat.le_refl _) _))
    have : j < (madeCells zv.cells (c * i.size)).size := by rw [size_madeCells]; exact hj
    simp [this]
end
end Go.Proofs.YtepogbfkmflooaaDoor
