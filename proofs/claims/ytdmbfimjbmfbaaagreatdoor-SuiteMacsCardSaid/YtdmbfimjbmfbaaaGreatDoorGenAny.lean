/-
  A region whose order is open, walked so: what yields a value in every world of a class is taken first; what turns the world comes up in every order that is left. No conditions.
-/
import Derived.Test.YtdmbfimjbmfbaaaGreatDoorGenOwn
import Derived.OrdersHeld
namespace Go.Proofs.YtdmbfimjbmfbaaaGreatDoor
open Go.RowKit
set_option linter.unusedSimpArgs false
set_option linter.unusedVariables false
section
variable {P : Program} {ops : Array Oper} {Q : Exit → Act → World → Prop} {S : World → Prop} {D : Nat → Bool}
/-- whatever order is picked from here on; behind each operation that is not one of D the world is one of the class -/
def anyD (P : Program) (ops : Array Oper) (Q : Exit → Act → World → Prop) (S : World → Prop) (D : Nat → Bool) : Nat → Array Bool → Act → World → Prop
  | 0, listed, a, w => Region.ready .any ops listed = [] ∧ Q .normal a w
  | k + 1, listed, a, w =>
    (Region.ready .any ops listed = [] → Q .normal a w) ∧
    ∀ i ∈ Region.ready .any ops listed, wpOp P ops Q i (fun a' w' => (D i = false → S w → S w') ∧ anyD P ops Q S D k (listed.setIfInBounds i true) a' w') a w
theorem anyD_any : ∀ (k : Nat) (listed : Array Bool) (a : Act) (w : World), anyD P ops Q S D k listed a w → wpAny P .any ops Q k listed a w
  | 0, _, _, _, h => h
  | k + 1, _, _, _, h => ⟨h.1, fun i hi => wpOp_mono (fun a' w' h' => anyD_any k _ a' w' h'.2) (h.2 i hi)⟩
/-- each operation of D waits for i; M: what waits for i, and i -/
def late (ops : Array Oper) (D M : Nat → Bool) (i : Nat) : Bool :=
  (List.range ops.size).all fun j => (!D j || M j) && (!M j || j == i || (match ops[j]? with
    | some o => o.after.any fun e => Region.binds .any e && (decide (e.on < j) && M e.on)
    | none => false))
/-- what is listed waits for nothing that is not -/
def closedB (ops : Array Oper) (listed : Array Bool) : Bool :=
  (List.range ops.size).all fun j => !listed.getD j false || (match ops[j]? with
    | some o => o.after.all fun e => !Region.binds .any e || listed.getD e.on false
    | none => true)
def Closed (ops : Array Oper) (listed : Array Bool) : Prop := ∀ (j : Nat) (o : Oper), ops[j]? = some o → listed.getD j false = true → ∀ e ∈ o.after, Region.binds .any e = true → listed.getD e.on false = true
theorem closed_of {listed : Array Bool} (h : closedB ops listed = true) : Closed ops listed := by
  intro j o ho hj e he hb
  have hlt : j < ops.size := (Array.getElem?_eq_some_iff.1 ho).1
  have h1 := List.all_eq_true.1 h j (List.mem_range.2 hlt)
  simp only [hj, ho, Bool.not_true, Bool.false_or] at h1
  have h2 := Array.all_eq_true_iff_forall_mem.1 h1 e he
  simpa [hb] using h2
theorem Closed.set {listed : Array Bool} (h : Closed ops listed) {i : Nat} (hi : i ∈ Region.ready .any ops listed) : Closed ops (listed.setIfInBounds i true) := by
  intro j o ho hj e he hb
  obtain ⟨hun, oi, hoi, hall⟩ := mem_ready.1 hi
  refine getD_set_true ?_
  by_cases e1 : i = j
  · subst e1
    rw [ho] at hoi
    cases hoi
    exact hall e he hb
  · rw [getD_set_ne false e1] at hj
    exact h j o ho hj e he hb
theorem late_chain {M : Nat → Bool} {i : Nat} (hl : late ops D M i = true) {listed : Array Bool} (hc : Closed ops listed) : ∀ j, j < ops.size → M j = true → listed.getD j false = true → listed.getD i false = true := by
  intro j
  induction j using Nat.strongRecOn with
  | _ j ih =>
    intro hlt hm hj
    have h1 := List.all_eq_true.1 hl j (List.mem_range.2 hlt)
    simp only [hm, Bool.not_true, Bool.false_or, Bool.or_true, Bool.true_and, Bool.or_eq_true, beq_iff_eq] at h1
    rcases h1 with h1 | h1
    · rw [← h1]; exact hj
    · cases ho : ops[j]? with
      | none => simp [ho] at h1
      | some o =>
        simp only [ho] at h1
        obtain ⟨e, he, h2⟩ := Array.any_eq_true'.1 h1
        simp only [Bool.and_eq_true, decide_eq_true_eq] at h2
        exact ih e.on h2.2.1 (by omega) h2.2.2 (hc j o ho hj e he h2.1)
theorem late_waits {M : Nat → Bool} {i : Nat} (hl : late ops D M i = true) (hDi : D i = false) {listed : Array Bool} (hi : listed.getD i true = false) (hc : Closed ops listed) {j : Nat} (hj : j ∈ Region.ready .any ops listed) : D j = false := by
  cases hd : D j with
  | false => rfl
  | true =>
    obtain ⟨hun, oj, hoj, hall⟩ := mem_ready.1 hj
    have hlt : j < ops.size := (Array.getElem?_eq_some_iff.1 hoj).1
    have h1 := List.all_eq_true.1 hl j (List.mem_range.2 hlt)
    simp only [hd, hoj, Bool.not_true, Bool.false_or, Bool.and_eq_true] at h1
    have hm : M j = true := h1.1
    simp only [hm, Bool.not_true, Bool.false_or, true_and, Bool.or_eq_true, beq_iff_eq] at h1
    rcases h1 with h1 | h1
    · subst h1; rw [hDi] at hd; cases hd
    · obtain ⟨e, he, h2⟩ := Array.any_eq_true'.1 h1
      simp only [Bool.and_eq_true, decide_eq_true_eq] at h2
      have h3 := late_chain hl hc e.on (by omega) h2.2.2 (hall e he h2.1)
      rw [getD_both hi] at h3
      cases h3
theorem anyD_load {i : Nat} {oi : Oper} {v : Value} {M : Nat → Bool} (hi : ops[i]? = some oi) (hsel : ∀ (j : Nat) (o : Oper) cs b, ops[j]? = some o → o.op ≠ .select cs b)
    (hQ : ∀ c a w, Q (.panic c) (a.put oi.dst v) w → Q (.panic c) a w) (hl : late ops D M i = true) (hDi : D i = false) :
    ∀ (k : Nat) (listed : Array Bool) (a : Act) (w : World),
      (∀ j oj, ops[j]? = some oj → j ≠ i → listed.getD j true = false → (∀ e ∈ oj.after, Region.binds .any e = true → e.on ≠ i) → oi.apart ops oj = true) →
      i ∈ Region.ready .any ops listed → Closed ops listed → YieldsIf P ops S oi v a → S w →
      anyD P ops Q S D k (listed.setIfInBounds i true) (a.put oi.dst v) w → anyD P ops Q S D (k + 1) listed a w := by
  intro k
  induction k with
  | zero =>
    intro listed a w _ hr _ hy hS H
    refine ⟨fun h => (by rw [h] at hr; cases hr), fun j hj => ?_⟩
    by_cases hji : j = i
    · subst hji; exact hy.wpOp hi hS ⟨fun _ h => h, H⟩
    · have := ready_mono hj hji
      rw [H.1] at this
      cases this
  | succ k ih =>
    intro listed a w hfree hr hD hy hS H
    refine ⟨fun h => (by rw [h] at hr; cases hr), fun j hj => ?_⟩
    have hun := (mem_ready.1 hr).1
    by_cases hji : j = i
    · subst hji; exact hy.wpOp hi hS ⟨fun _ h => h, H⟩
    · have h1 := H.2 j (ready_mono hj hji)
      obtain ⟨hjun, oj, hoj, hall⟩ := mem_ready.1 hj
      have hnot : ∀ e ∈ oj.after, Region.binds .any e = true → e.on ≠ i := fun e he hb heq => by
        have h1 := hall e he hb
        rw [heq, getD_both hun] at h1
        cases h1
      have h2 := wpOp_putIf hoj (hfree j oj hoj hji hjun hnot) (fun cs b => hsel i oi cs b hi) (fun cs b => hsel j oj cs b hoj) hQ hy h1
      have hfree' : ∀ m om, ops[m]? = some om → m ≠ i → (listed.setIfInBounds j true).getD m true = false →
          (∀ e ∈ om.after, Region.binds .any e = true → e.on ≠ i) → oi.apart ops om = true := fun m om hm hmi hun hno => by
        refine hfree m om hm hmi ?_ hno
        by_cases hjm : j = m
        · subst hjm; exact hjun
        · rw [getD_set_ne true hjm] at hun; exact hun
      refine wpOp_mono (fun a' w' h3 => ⟨h3.2.1, ih (listed.setIfInBounds j true) a' w' hfree' (ready_mono hr (Ne.symm hji)) (hD.set hj) h3.1 (h3.2.1 (late_waits hl hDi hun hD hj) hS) ?_⟩) h2
      rw [Array.setIfInBounds_comm _ _ hji]
      exact h3.2.2
theorem anyD_pure {i : Nat} {oi : Oper} {v : Value} (hi : ops[i]? = some oi) (hsel : ∀ (j : Nat) (o : Oper) cs b, ops[j]? = some o → o.op ≠ .select cs b)
    (hQ : ∀ c a w, Q (.panic c) (a.put oi.dst v) w → Q (.panic c) a w) :
    ∀ (k : Nat) (listed : Array Bool) (a : Act) (w : World),
      (∀ j oj, ops[j]? = some oj → j ≠ i → listed.getD j true = false → (∀ e ∈ oj.after, Region.binds .any e = true → e.on ≠ i) → oi.apart ops oj = true) →
      i ∈ Region.ready .any ops listed → Closed ops listed → YieldsIf P ops (fun _ => True) oi v a → (fun _ => True) w →
      anyD P ops Q S D k (listed.setIfInBounds i true) (a.put oi.dst v) w → anyD P ops Q S D (k + 1) listed a w := by
  intro k
  induction k with
  | zero =>
    intro listed a w _ hr _ hy hS H
    refine ⟨fun h => (by rw [h] at hr; cases hr), fun j hj => ?_⟩
    by_cases hji : j = i
    · subst hji; exact hy.wpOp hi hS ⟨fun _ h => h, H⟩
    · have := ready_mono hj hji
      rw [H.1] at this
      cases this
  | succ k ih =>
    intro listed a w hfree hr hD hy hS H
    refine ⟨fun h => (by rw [h] at hr; cases hr), fun j hj => ?_⟩
    have hun := (mem_ready.1 hr).1
    by_cases hji : j = i
    · subst hji; exact hy.wpOp hi hS ⟨fun _ h => h, H⟩
    · have h1 := H.2 j (ready_mono hj hji)
      obtain ⟨hjun, oj, hoj, hall⟩ := mem_ready.1 hj
      have hnot : ∀ e ∈ oj.after, Region.binds .any e = true → e.on ≠ i := fun e he hb heq => by
        have h1 := hall e he hb
        rw [heq, getD_both hun] at h1
        cases h1
      have h2 := wpOp_putIf hoj (hfree j oj hoj hji hjun hnot) (fun cs b => hsel i oi cs b hi) (fun cs b => hsel j oj cs b hoj) hQ hy h1
      have hfree' : ∀ m om, ops[m]? = some om → m ≠ i → (listed.setIfInBounds j true).getD m true = false →
          (∀ e ∈ om.after, Region.binds .any e = true → e.on ≠ i) → oi.apart ops om = true := fun m om hm hmi hun hno => by
        refine hfree m om hm hmi ?_ hno
        by_cases hjm : j = m
        · subst hjm; exact hjun
        · rw [getD_set_ne true hjm] at hun; exact hun
      refine wpOp_mono (fun a' w' h3 => ⟨h3.2.1, ih (listed.setIfInBounds j true) a' w' hfree' (ready_mono hr (Ne.symm hji)) (hD.set hj) h3.1 trivial ?_⟩) h2
      rw [Array.setIfInBounds_comm _ _ hji]
      exact h3.2.2
/-! the moves -/
variable {n k : Nat} {f : Nat → Value} {w : World} {listed : Array Bool} {i : Nat} {o : Oper}
theorem region_dc {id : Nat} {a : Act} {l : List Oper} (D : Nat → Bool) (m : Nat) (hm : P.follows .mixedOrders = true) (hs : l.length = m)
    (h : ∀ w', Below w.heap.size w w' → anyD P l.toArray Q (Cls w') D m (Array.replicate m false) a w') : (Code.region id l.toArray true).wp P Q a w := by
  refine wp_region_any hm (anyD_any (S := Cls w.drew) (D := D) _ _ _ _ ?_)
  have e : l.toArray.size = m := by simpa using hs
  rw [e]
  exact h w.drew ⟨rfl, rfl, rfl, Nat.le_refl _, fun _ _ => rfl⟩
/-- number i is taken first: it yields its value in every world of the class -/
theorem d_take (i : Nat) (M : Nat → Bool) {op : Op} {ty : TypeId} {d : Nat} {p : String} {aft : Array Edge} {v : Value} (hi : ops[i]? = some ⟨some d, op, ty, p, aft, none⟩) (hs : Region.noSelect ops = true) (hf : Region.free .any ops listed i = true) (hr : (Region.ready .any ops listed).contains i = true)
    (hl : late ops D M i = true) (hD : closedB ops listed = true) (hDi : D i = false)
    (hQ : ∀ c a w, Q (.panic c) (a.put (some d) v) w → Q (.panic c) a w) (hS : S w) (hy : ∀ w, S w → Yields P n f op ty w v)
    (h : anyD P ops Q S D k (listed.setIfInBounds i true) (fr n (up f d v)) w) : anyD P ops Q S D (k + 1) listed (fr n f) w :=
  anyD_load hi (Region.noSelect_spec hs) hQ hl hDi k listed _ w (Region.free_spec hi hf) (by simpa using hr) (closed_of hD) (.inl ⟨rfl, hy⟩) hS (by rw [fr_put]; exact h)
/-- .. in every world -/
theorem d_pure (i : Nat) {op : Op} {ty : TypeId} {d : Nat} {p : String} {aft : Array Edge} {v : Value} (hi : ops[i]? = some ⟨some d, op, ty, p, aft, none⟩) (hs : Region.noSelect ops = true) (hf : Region.free .any ops listed i = true) (hr : (Region.ready .any ops listed).contains i = true)
    (hD : closedB ops listed = true)
    (hQ : ∀ c a w, Q (.panic c) (a.put (some d) v) w → Q (.panic c) a w) (hy : ∀ w, Yields P n f op ty w v)
    (h : anyD P ops Q S D k (listed.setIfInBounds i true) (fr n (up f d v)) w) : anyD P ops Q S D (k + 1) listed (fr n f) w :=
  anyD_pure hi (Region.noSelect_spec hs) hQ k listed _ w (Region.free_spec hi hf) (by simpa using hr) (closed_of hD) (.inl ⟨rfl, fun w _ => hy w⟩) trivial (by rw [fr_put]; exact h)
theorem wpOp_list {K : Act → World → Prop} {a : Act} (hi : ops[i]? = some o) (h : wpList P ops (Exit.then K Q) [o] a w) : wpOp P ops Q i K a w := by
  unfold wpOp
  simp only [hi]
  unfold wpList at h
  split
  · rename_i hw
    rw [if_pos hw] at h
    rcases h with h | ⟨h1, h2⟩
    · refine .inl ?_
      unfold Oper.wp at *
      generalize (execOp a.eval o).run P w = r at *
      cases r with
      | ok nx w' =>
        cases nx <;> simp only [Oper.upon] at h ⊢
        case value u => exact h
        case skip => exact h
        case defer d => exact h
        case enter f args =>
          refine Calls.mono h fun e w'' he => ?_
          cases e with
          | returned u => exact he
          | panicked c => exact he
          | outgrown => exact he
        case row row args => exact h
      | halt x w' =>
        cases x <;> simp only [Oper.upon] at h ⊢
        case panic u => exact h
    · exact .inr ⟨h1, h2⟩
  · rename_i hw
    rw [if_neg hw] at h
    exact h
theorem d_one (i : Nat) {a : Act} (hr : Region.ready .any ops listed = [i]) (hi : ops[i]? = some o)
    (h : wpList P ops (Exit.then (fun a' w' => (D i = false → S w → S w') ∧ anyD P ops Q S D k (listed.setIfInBounds i true) a' w') Q) [o] a w) : anyD P ops Q S D (k + 1) listed a w :=
  ⟨fun h0 => (by rw [hr] at h0; cases h0), fun j hj => by
    rw [hr, List.mem_singleton] at hj
    subst hj
    exact wpOp_list hi h⟩
theorem d_two (i j : Nat) {o' : Oper} {a : Act} (hr : Region.ready .any ops listed = [i, j]) (hi : ops[i]? = some o) (hj : ops[j]? = some o')
    (h : wpList P ops (Exit.then (fun a' w' => (D i = false → S w → S w') ∧ anyD P ops Q S D k (listed.setIfInBounds i true) a' w') Q) [o] a w)
    (h' : wpList P ops (Exit.then (fun a' w' => (D j = false → S w → S w') ∧ anyD P ops Q S D k (listed.setIfInBounds j true) a' w') Q) [o'] a w) : anyD P ops Q S D (k + 1) listed a w :=
  ⟨fun h0 => (by rw [hr] at h0; cases h0), fun m hm => by
    rw [hr] at hm
    simp only [List.mem_cons, List.not_mem_nil, or_false] at hm
    rcases hm with rfl | rfl
    · exact wpOp_list hi h
    · exact wpOp_list hj h'⟩
theorem d_done {a : Act} (hr : Region.ready .any ops listed = []) (h : Q .normal a w) : anyD P ops Q S D k listed a w := by
  cases k with
  | zero => exact ⟨hr, h⟩
  | succ k => exact ⟨fun _ => h, by rw [hr]; simp⟩
end
end Go.Proofs.YtdmbfimjbmfbaaaGreatDoor
