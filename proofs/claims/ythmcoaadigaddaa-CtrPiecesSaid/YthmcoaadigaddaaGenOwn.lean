/-
  Steps of a walk, part 3: rows that grow by append. No conditions.
-/
import Derived.Test.YthmcoaadigaddaaGenOps
import Derived.Maps.AppendAt
namespace Go.Proofs.Ythmcoaadigaddaa
open Go.RowKit
set_option linter.unusedSimpArgs false
set_option linter.unusedVariables false
section
variable {P : Program} {ops : Array Oper} {Q : Exit → Act → World → Prop} {w w' : World} {rest : List Oper} {n : Nat} {f : Nat → Value}
variable {ty : TypeId} {x y z : Operand} {v vx vy vz : Value} {t e : TypeId} {base size k : Nat} {F G : Nat → Value}
/-- the slice v of k elements owns its row; its cells are F's -/
def Own (w : World) (base : Nat) (e : TypeId) (size : Nat) (v : Value) (k : Nat) (F : Nat → Value) : Prop := w.ownsRow base e size v k ((List.range (k * size)).map F)
namespace Own
theorem nil : Own w base e size (.slice none 0 0) 0 F := ⟨by simp, .inl ⟨rfl, rfl⟩⟩
theorem congr (h : Own w base e size v k F) (hF : ∀ j, j < k * size → F j = G j) : Own w base e size v k G := by
  unfold Own at *
  rwa [List.map_congr_left (g := G) (fun i hi => hF i (List.mem_range.1 hi))] at h
theorem opened (h : Own w base e size v k F) (hk : 0 < k) : ∃ g cap, v = .slice (some ⟨g, 0, none⟩) k cap ∧ base ≤ g ∧ k ≤ cap ∧ v.ownBlock = some g ∧ Row w g e (k * size) F := by
  rcases h.2 with ⟨_, h0⟩ | ⟨g, cap, cur, hv, hb, hh, hn, hc, hs, ht⟩
  · omega
  · refine ⟨g, cap, hv, hb, hn, by rw [hv]; rfl, cur, 0, 0, hh, ?_, fun i hi => ?_, .inr (Nat.le_refl _)⟩
    · rw [hs]; exact Nat.mul_le_mul_right _ hn
    · have h1 : (cur.toList.take (k * size))[i]? = some (F i) := by rw [ht]; simp [hi]
      rw [List.getElem?_take_of_lt hi] at h1
      simpa using h1
theorem block_lt (h : Own w base e size v k F) : ∀ g, v.ownBlock = some g → g < w.heap.size ∧ base ≤ g := by
  intro g hg
  rcases h.2 with ⟨hv, _⟩ | ⟨g', cap, cur, hv, hb, hh, _⟩
  · rw [hv] at hg; simp [Value.ownBlock] at hg
  · rw [hv] at hg
    simp only [Value.ownBlock, Option.some.injEq] at hg
    subst hg
    exact ⟨(Array.getElem?_eq_some_iff.1 hh).1, hb⟩
theorem one (h : Own w base e size v k F) : v.oneCell' = true := by
  rcases h.2 with ⟨hv, _⟩ | ⟨g', cap, cur, hv, _⟩ <;> rw [hv] <;> rfl
theorem cells (h : Own w base e size v k F) : v.cells = #[v] := by
  rcases h.2 with ⟨hv, _⟩ | ⟨g', cap, cur, hv, _⟩ <;> rw [hv] <;> rfl
theorem apart (h : Own w base e size v k F) {b : Nat} (hb : w.heap.size ≤ b) : v.ownBlock ≠ some b := fun e => by have := (h.block_lt b e).1; omega
theorem apart0 (h : Own w base e size v k F) {b : Nat} (hb : b < base) : v.ownBlock ≠ some b := fun e => by have := (h.block_lt b e).2; omega
theorem step (h : Own w base e size v k F) (hb : Below w.heap.size w w') : Own w' base e size v k F :=
  World.ownsRow.kept h (row := none) (grown_of_below hb) (by
    cases hv : v.ownBlock with
    | none => exact .inl rfl
    | some g => exact .inr (by simp))
theorem stepG (h : Own w base e size v k F) {g : Nat} (hg : w.grownBy w' (some g)) (hne : v.ownBlock ≠ some g) : Own w' base e size v k F :=
  World.ownsRow.kept h hg (.inr hne)
theorem stepO (h : Own w base e size v k F) {r : Option Nat} (hg : w.grownBy w' r) (hne : v.ownBlock = none ∨ v.ownBlock ≠ r) : Own w' base e size v k F :=
  World.ownsRow.kept h hg hne
end Own
theorem Row.stepO {b m : Nat} (h : Row w b e m F) {r : Option Nat} (hg : w.grownBy w' r) (hne : r ≠ some b) : Row w' b e m F := h.grown hg (fun e => hne e.symm)
theorem thenO {w0 : World} {r : Option Nat} (h : Below w0.heap.size w0 w) (hg : w.grownBy w' r) (hle : ∀ g, r = some g → w0.heap.size ≤ g) : Below w0.heap.size w0 w' := h.grown hg h.size hle
theorem grown_thenO {w0 : World} {r s : Option Nat} (h : w0.grownBy w s) (hg : w.grownBy w' r) (hle : ∀ g, r = some g → w0.heap.size ≤ g) : w0.grownBy w' s :=
  ⟨hg.os.trans h.os, hg.tape.trans h.tape, hg.output.trans h.output, Nat.le_trans h.size hg.size, fun k hk hne => (hg.block k (Nat.lt_of_lt_of_le hk h.size) (fun e => by have := hle k e.symm; omega)).trans (h.block k hk hne)⟩
theorem no_new {v v' : Value} {b : Nat} (h : v.ownBlock ≠ some b) (hb : b < w.heap.size) (hv : v'.ownBlock = v.ownBlock ∨ v'.ownBlock = some w.heap.size) : v'.ownBlock ≠ some b := by
  rcases hv with e | e
  · rw [e]; exact h
  · rw [e]; intro e'; injection e' with e'; omega
theorem own_n {k' : Nat} (h : Own w base e size v k F) (hk : k = k') : Own w base e size v k' F := hk ▸ h
theorem sep_sym {u v : Value} (h : ∀ g, u.ownBlock = some g → v.ownBlock ≠ some g) : ∀ g, v.ownBlock = some g → u.ownBlock ≠ some g := fun g hv hu => h g hu hv
theorem sep_or {u v : Value} (h : ∀ g, u.ownBlock = some g → v.ownBlock ≠ some g) : u.ownBlock = none ∨ u.ownBlock ≠ v.ownBlock := by
  cases hu : u.ownBlock with
  | none => exact .inl rfl
  | some g => exact .inr (fun e => h g hu e.symm)
theorem sep_new {u v v' : Value} (h : ∀ g, u.ownBlock = some g → v.ownBlock ≠ some g) (ho : Own w base e size u k F) (hv : v'.ownBlock = v.ownBlock ∨ v'.ownBlock = some w.heap.size) : ∀ g, u.ownBlock = some g → v'.ownBlock ≠ some g := fun g hu => by
  rcases hv with e | e
  · rw [e]; exact h g hu
  · rw [e]; intro e'; injection e' with e'; have := (ho.block_lt g hu).1; omega
theorem y_len_own {tt ee : TypeId} {wo : World} (hx : Ev n f x v) (hown : Own wo base e size v k F) (ht : P.underlying tt = some (.slice ee)) : Yields P n f (.call ⟨.builtin .len, #[x], #[tt]⟩) ty w (.int .i64 (k : Int)) := by
  rcases hown.2 with ⟨hv, h0⟩ | ⟨g, cap, cur, hv, _⟩
  · subst hv h0; exact y_len_sl hx ht
  · subst hv; exact y_len_sl hx ht
theorem y_strown {s' d' e' : TypeId} {l : List (BitVec 8)} (hx : Ev n f x v) (hown : Own w base e 1 v k F) (hl : l.length = k) (hc : ∀ j, j < k → F j = U8 (gb l j)) (hs : P.underlying s' = some (.slice e')) (he : P.underlying e' = some (.int .u8)) (hd : P.underlying d' = some .string) :
    Yields P n f (.convert s' d' x) ty w (.string (str l)) := by
  by_cases h0 : 0 < k
  · obtain ⟨g, cap, rfl, _, _, _, hr⟩ := hown.opened h0
    exact y_str hx hl hs he hd (fun j hj => by rw [Nat.zero_add, hr.cell (by omega), hc j hj])
  · obtain rfl : k = 0 := by omega
    have hnil : l = [] := List.eq_nil_of_length_eq_zero hl
    subst hnil
    rcases hown.2 with ⟨rfl, _⟩ | ⟨g, cap, cur, rfl, _⟩
    · exact y_str0 hx hs he hd
    · exact y_str hx rfl hs he hd (fun j hj => by omega)
/-- T{x}: a slice of one element, in a block of its own -/
theorem w_bs1 {d : Nat} {p : String} {aft : Array Edge} {m : Nat} (hx : Ev n f x v) (hr : ∀ w, (Instr.buildSlice t 1 #[(0, v)]).run P w = .ok (.slice (some ⟨w.heap.size, 0, none⟩) 1 1) (w.alloc (.cells (arr m F) e)))
    (h : ∀ b w', b = w.heap.size → Row w' b e m F → Below w.heap.size w w' → wpList P ops Q rest (fr n (up f d (.slice (some ⟨b, 0, none⟩) 1 1))) w') : wpList P ops Q (⟨some d, .buildSlice t 1 #[(0, x)], ty, p, aft, none⟩ :: rest) (fr n f) w := by
  have h1 : (fr n f).eval x = v := hx
  refine w_new (v := .slice (some ⟨w.heap.size, 0, none⟩) 1 1) (c := arr m F) (e := e) ?_ rfl (fun w' => h _ w' rfl)
  unfold execOp
  simp only [h1, List.map_toArray, List.map_cons, List.map_nil]
  rw [Sem.run_bind, hr w]
  rfl
theorem w_app {d : Nat} {p : String} {aft : Array Edge} {g off m c bytes K : Nat} {et : TypeId} (hx : Ev n f x v) (hy : Ev n f y (.slice (some ⟨g, off, none⟩) m c)) (ht : P.underlying t = some (.slice e))
    (hinfo : (P.info? e).map (fun i => (i.zero.map (·.cells.size), i.size, i.bytes)) = some (some size, size, bytes)) (hsz : 0 < size) (hown : Own w base e size v k F) (hbase : base ≤ w.heap.size) (hr : Row w g et K G) (hfit : off + m * size ≤ K)
    (hone : ∀ j, (G j).oneCell' = true) (h63 : k + m ≤ maxLen) (hby : (k + m) * bytes ≤ 140737488355328)
    (h : ∀ v' w', Own w' base e size v' (k + m) (fun j => if j < k * size then F j else G (off + (j - k * size))) → w.grownBy w' v.ownBlock → (v'.ownBlock = v.ownBlock ∨ v'.ownBlock = some w.heap.size) → wpList P ops Q rest (fr n (up f d v')) w') :
    wpList P ops Q (⟨some d, .call ⟨.builtin .append, #[x, y], #[t, t]⟩, ty, p, aft, none⟩ :: rest) (fr n f) w :=
  wpList_plain rfl fun K' hK => by
    obtain ⟨i, hi, hi2⟩ := Option.map_eq_some_iff.1 hinfo
    simp only [Prod.mk.injEq] at hi2
    obtain ⟨hz, hs, hb⟩ := hi2
    obtain ⟨zv, hz1, hz2⟩ := Option.map_eq_some_iff.1 hz
    obtain ⟨v', w', hrun, h1, h2, _, h3⟩ := run_append_own_at (P := P) (w := w) base t ty e i zv size bytes ht hi hz1 hs hb hz2 hsz v k _ hown ⟨g, off, none⟩ m c ((List.range (m * size)).map fun j => G (off + j)) (by simp)
      (fun j u hj => by
        have hj' : j < m * size := by
          have := (List.getElem?_eq_some_iff.1 hj).1; simpa using this
        simp [hj'] at hj
        rw [Addr.add_lit, hr.cell (by omega), hj])
      (fun u hu => by obtain ⟨j, _, rfl⟩ := List.mem_map.1 hu; exact hone _) h63 hby hbase
    unfold Oper.wp
    have e1 : (fr n f).eval x = v := hx
    have e2 : (fr n f).eval y = .slice (some ⟨g, off, none⟩) m c := hy
    have hrun' : (execOp (fr n f).eval ⟨some d, .call ⟨.builtin .append, #[x, y], #[t, t]⟩, ty, p, aft, none⟩).run P w = .ok (.value v') w' := by
      simp only [execOp, resolve, Sem.run_bind, Sem.run_pure, Result.andThen_ok, List.map_toArray, List.map_cons, List.map_nil, e1, e2, invoke, builtin, hrun]
    rw [hrun']
    simp only [Oper.upon, fr_put]
    refine hK _ _ (h v' w' ?_ h2 h3)
    unfold Own
    have e3 : ((List.range ((k + m) * size)).map fun j => if j < k * size then F j else G (off + (j - k * size))) = (List.range (k * size)).map F ++ (List.range (m * size)).map (fun j => G (off + j)) := by
      rw [Nat.add_mul, List.range_add, List.map_append, List.map_map]
      congr 1
      · exact List.map_congr_left (fun j hj => if_pos (List.mem_range.1 hj))
      · refine List.map_congr_left (fun j hj => ?_)
        simp only [Function.comp]
        rw [if_neg (by omega), Nat.add_sub_cancel_left]
    rw [e3]
    exact h1
end
end Go.Proofs.Ythmcoaadigaddaa
