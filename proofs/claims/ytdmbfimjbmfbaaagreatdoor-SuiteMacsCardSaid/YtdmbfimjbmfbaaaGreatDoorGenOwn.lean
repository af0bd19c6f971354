/-
  Steps of a walk, part 3: rows that grow by append. No conditions.
-/
import Derived.Test.YtdmbfimjbmfbaaaGreatDoorGenOps
import Derived.Maps.AppendAt
import Derived.Laws.MakeOwn
namespace Go.Proofs.YtdmbfimjbmfbaaaGreatDoor
open Go.RowKit
set_option linter.unusedSimpArgs false
set_option linter.unusedVariables false
section
variable {P : Program} {ops : Array Oper} {Q : Exit → Act → World → Prop} {w w' : World} {rest : List Oper} {n : Nat} {f : Nat → Value}
variable {ty : TypeId} {x y z : Operand} {v vx vy vz : Value} {t e : TypeId} {base size k : Nat} {F G : Nat → Value}
/-- the slice v of k elements owns its row; its cells are F's -/
def Own (w : World) (base : Nat) (e : TypeId) (size : Nat) (v : Value) (k : Nat) (F : Nat → Value) : Prop :=
  (v = .slice none 0 0 ∧ k = 0) ∨ ∃ g cap G, v = .slice (some ⟨g, 0, none⟩) k cap ∧ base ≤ g ∧ k ≤ cap ∧ cap ≤ maxLen ∧ Row w g e (cap * size) G ∧ ∀ j, j < k * size → G j = F j
namespace Own
theorem nil : Own w base e size (.slice none 0 0) 0 F := .inl ⟨rfl, rfl⟩
theorem congr (h : Own w base e size v k F) (hF : ∀ j, j < k * size → F j = G j) : Own w base e size v k G := by
  rcases h with h | ⟨g, cap, G', h1, h2, h3, h4, h5, h6⟩
  · exact .inl h
  · exact .inr ⟨g, cap, G', h1, h2, h3, h4, h5, fun j hj => (h6 j hj).trans (hF j hj)⟩
theorem cg (h : Own w base e size v k F) (hF : ∀ j, j < k * size → F j = G j := by intro j hj; (first | with_reducible rfl | (dsimp only; done) | ((try dsimp only); (repeat' split) <;> first | with_reducible rfl | (exfalso; omega) | (subst_vars; with_reducible rfl) | (subst_vars; simp only [Nat.add_sub_cancel_left, Nat.add_sub_cancel, Nat.sub_self, Nat.sub_zero]; done) | (with_reducible congr 1 <;> omega) | (with_reducible congr 2 <;> omega) | (with_reducible congr 3 <;> omega) | rfl | (subst_vars; rfl)))) : Own w base e size v k G := h.congr hF
theorem opened (h : Own w base e size v k F) (hk : 0 < k) : ∃ g cap, v = .slice (some ⟨g, 0, none⟩) k cap ∧ base ≤ g ∧ k ≤ cap ∧ v.ownBlock = some g ∧ Row w g e (k * size) F := by
  rcases h with ⟨_, h0⟩ | ⟨g, cap, G', hv, hb, hn, _, hr, hF⟩
  · omega
  · exact ⟨g, cap, hv, hb, hn, by rw [hv]; rfl, (hr.take (Nat.mul_le_mul_right _ hn)).congr hF⟩
theorem block_lt (h : Own w base e size v k F) : ∀ g, v.ownBlock = some g → g < w.heap.size ∧ base ≤ g := by
  intro g hg
  rcases h with ⟨hv, _⟩ | ⟨g', cap, G', hv, hb, _, _, hr, _⟩
  · rw [hv] at hg; simp [Value.ownBlock] at hg
  · rw [hv] at hg
    simp only [Value.ownBlock, Option.some.injEq] at hg
    subst hg
    exact ⟨hr.lt, hb⟩
theorem one (h : Own w base e size v k F) : v.oneCell' = true := by
  rcases h with ⟨hv, _⟩ | ⟨g', cap, cur, hv, _⟩ <;> rw [hv] <;> rfl
theorem cells (h : Own w base e size v k F) : v.cells = #[v] := by
  rcases h with ⟨hv, _⟩ | ⟨g', cap, cur, hv, _⟩ <;> rw [hv] <;> rfl
theorem apart (h : Own w base e size v k F) {b : Nat} (hb : w.heap.size ≤ b) : v.ownBlock ≠ some b := fun e => by have := (h.block_lt b e).1; omega
theorem stepO (h : Own w base e size v k F) {r : Option Nat} (hg : w.grownBy w' r) (hne : v.ownBlock = none ∨ v.ownBlock ≠ r) : Own w' base e size v k F := by
  rcases h with h | ⟨g, cap, G', hv, h2, h3, h4, h5, h6⟩
  · exact .inl h
  · refine .inr ⟨g, cap, G', hv, h2, h3, h4, h5.grown hg ?_, h6⟩
    subst hv
    simpa [Value.ownBlock] using hne
theorem step (h : Own w base e size v k F) (hb : Below w.heap.size w w') : Own w' base e size v k F :=
  h.stepO (r := none) (grown_of_below hb) (by
    cases hv : v.ownBlock with
    | none => exact .inl rfl
    | some g => exact .inr (by simp))
theorem stepG (h : Own w base e size v k F) {g : Nat} (hg : w.grownBy w' (some g)) (hne : v.ownBlock ≠ some g) : Own w' base e size v k F :=
  h.stepO hg (.inr hne)
/-- a new block -/
theorem fresh {cs : Array Value} {cap : Nat} (hs : cs.size = cap * size) (hk : k ≤ cap) (hm : cap ≤ maxLen) (hb : base ≤ w.heap.size) (hc : ∀ j, j < k * size → cs[j]? = some (F j)) :
    Own (w.drew.alloc (.cells cs e)) base e size (.slice (some ⟨w.heap.size, 0, none⟩) k cap) k F :=
  .inr ⟨w.heap.size, cap, fun j => cs.getD j undef, rfl, hb, hk, hm, Row.fresh (w := w.drew) hs (fun i hi => by
    have : i < cs.size := by omega
    simp [this]), fun j hj => by simp [Array.getD_eq_getD_getElem?, hc j hj]⟩
end Own
theorem Row.stepO {b m : Nat} (h : Row w b e m F) {r : Option Nat} (hg : w.grownBy w' r) (hne : r ≠ some b) : Row w' b e m F := h.grown hg (fun e => hne e.symm)
theorem thenO {w0 : World} {r : Option Nat} (h : Below w0.heap.size w0 w) (hg : w.grownBy w' r) (hle : ∀ g, r = some g → w0.heap.size ≤ g) : Below w0.heap.size w0 w' := h.grown hg h.size hle
theorem no_new {v v' : Value} {b : Nat} (h : v.ownBlock ≠ some b) (hb : b < w.heap.size) (hv : v'.ownBlock = v.ownBlock ∨ v'.ownBlock = some w.heap.size) : v'.ownBlock ≠ some b := by
  rcases hv with e | e
  · rw [e]; exact h
  · rw [e]; intro e'; injection e' with e'; omega
theorem own_n {k' : Nat} (h : Own w base e size v k F) (hk : k = k') : Own w base e size v k' F := hk ▸ h
theorem sep_sym {u v : Value} (h : ∀ g, u.ownBlock = some g → v.ownBlock ≠ some g) : ∀ g, v.ownBlock = some g → u.ownBlock ≠ some g := fun g hv hu => h g hu hv
theorem sep_or {u v : Value} (h : ∀ g, u.ownBlock = some g → v.ownBlock ≠ some g) : u.ownBlock = none ∨ u.ownBlock ≠ v.ownBlock := by
  cases hu : u.ownBlock with
  | none => exact .inl rfl
  | some g => exact .inr (fun e => h g hu e.symm)
theorem sep_new {u v v' : Value} (h : ∀ g, u.ownBlock = some g → v.ownBlock ≠ some g) (ho : Own w base e size u k F) (hv : v'.ownBlock = v.ownBlock ∨ v'.ownBlock = some w.heap.size) : ∀ g, u.ownBlock = some g → v'.ownBlock ≠ some g := fun g hu => by
  rcases hv with e | e
  · rw [e]; exact h g hu
  · rw [e]; intro e'; injection e' with e'; have := (ho.block_lt g hu).1; omega
theorem y_len_own {tt ee : TypeId} {wo : World} (hx : Ev n f x v) (hown : Own wo base e size v k F) (ht : P.underlying tt = some (.slice ee)) : Yields P n f (.call ⟨.builtin .len, #[x], #[tt]⟩) ty w (.int .i64 (k : Int)) := by
  rcases hown with ⟨hv, h0⟩ | ⟨g, cap, cur, hv, _⟩
  · subst hv h0; exact y_len_sl hx ht
  · subst hv; exact y_len_sl hx ht
theorem y_strown {s' d' e' : TypeId} {l : List (BitVec 8)} (hx : Ev n f x v) (hown : Own w base e 1 v k F) (hl : l.length = k) (hc : ∀ j, j < k → F j = U8 (gb l j)) (hs : P.underlying s' = some (.slice e')) (he : P.underlying e' = some (.int .u8)) (hd : P.underlying d' = some .string) :
    Yields P n f (.convert s' d' x) ty w (.string (str l)) := by
  by_cases h0 : 0 < k
  · obtain ⟨g, cap, rfl, _, _, _, hr⟩ := hown.opened h0
    exact y_str hx hl hs he hd (fun j hj => by rw [Nat.zero_add, hr.cell (by omega), hc j hj])
  · obtain rfl : k = 0 := by omega
    have hnil : l = [] := List.eq_nil_of_length_eq_zero hl
    subst hnil
    rcases hown with ⟨rfl, _⟩ | ⟨g, cap, cur, rfl, _⟩
    · exact y_str0 hx hs he hd
    · exact y_str hx rfl hs he hd (fun j hj => by omega)
/-- T{x}: a slice of one element, in a block of its own -/
theorem w_bs1 {d : Nat} {p : String} {aft : Array Edge} {m : Nat} (hx : Ev n f x v) (hr : ∀ w, (Instr.buildSlice t 1 #[(0, v)]).run P w = .ok (.slice (some ⟨w.heap.size, 0, none⟩) 1 1) (w.alloc (.cells (arr m F) e)))
    (h : ∀ b w', b = w.heap.size → Row w' b e m F → Below w.heap.size w w' → wpList P ops Q rest (fr n (up f d (.slice (some ⟨b, 0, none⟩) 1 1))) w') : wpList P ops Q (⟨some d, .buildSlice t 1 #[(0, x)], ty, p, aft, none⟩ :: rest) (fr n f) w := by
  have h1 : (fr n f).eval x = v := hx
  refine w_new (v := .slice (some ⟨w.heap.size, 0, none⟩) 1 1) (c := arr m F) (e := e) ?_ rfl (fun w' => h _ w' rfl)
  unfold execOp
  simp only [h1, List.map_toArray, List.map_cons, List.map_nil]
  rw [Sem.run_bind, hr w]
  rfl
/-- cells stored behind what is there, in room -/
theorem store_room {g a m K : Nat} {et : TypeId} {N : Nat → Value} (hr : Row w g et K F) (hfit : a + m ≤ K) (hone : ∀ j, (N j).oneCell' = true) :
    ∃ w', (storeCells ⟨g, a, none⟩ ((List.range m).map N)).run P w = .ok () w' ∧ Row w' g et K (fun j => if a ≤ j ∧ j < a + m then N (j - a) else F j) ∧ w.grownBy w' (some g) := by
  have hst := run_storeCells_cells (P := P) g a ((List.range m).map N) 0 w
    (fun j hj => by simp at hj; rw [Nat.add_zero, hr.cell (by omega)]; rfl)
    (fun j hj => by simp at hj; rw [Nat.add_zero, hr.frozen (by omega)])
    (fun v hv => by
      obtain ⟨j, hj, rfl⟩ := List.mem_map.1 hv
      exact hone j)
  simp only [Nat.add_zero] at hst
  obtain ⟨h1, h2, h3, h4⟩ := setCells_rest g ((List.range m).map N) a w
  refine ⟨_, hst, (setCells_row et g K _ a w F hr).congr (fun j _ => ?_), ⟨h1, h2, h3, by omega, fun k hk hne => setCells_other g _ a w k (fun e => hne (by rw [e]))⟩⟩
  by_cases e : a ≤ j ∧ j < a + m
  · rw [if_pos (by simpa using e), if_pos e]
    simp [show j - a < m from by omega]
  · rw [if_neg (by simpa using e), if_neg e]
theorem run_app {g off m c bytes K : Nat} {et ty' : TypeId} {i : TypeInfo} {zv : Value} (ht : P.underlying t = some (.slice e)) (hi : P.info? e = some i) (hz : i.zero = some zv) (hs : i.size = size) (hb : i.bytes = bytes) (hzs : zv.cells.size = size)
    (hown : Own w base e size v k F) (hbase : base ≤ w.heap.size) (hr : Row w g et K G) (hfit : off + m * size ≤ K)
    (hone : ∀ j, (G j).oneCell' = true) (h63 : k + m ≤ maxLen) (hby : (k + m) * bytes ≤ 140737488355328) :
    ∃ v' w', (Builtin.append_ #[t, t] ty' #[v, .slice (some ⟨g, off, none⟩) m c]).run P w = .ok v' w' ∧
      Own w' base e size v' (k + m) (fun j => if j < k * size then F j else G (off + (j - k * size))) ∧ w.grownBy w' v.ownBlock ∧ (v'.ownBlock = v.ownBlock ∨ v'.ownBlock = some w.heap.size) := by
  subst hs; subst hb
  have hsmall : k + m ≤ 9223372036854775807 := by simp only [maxLen] at h63; omega
  have hnl : ((List.range (m * i.size)).map fun j => G (off + j)).length = m * i.size := by simp
  have hnews : ∀ j u, ((List.range (m * i.size)).map fun j => G (off + j))[j]? = some u → w.cell? ((⟨g, off, none⟩ : Addr).add j) = some u := fun j u hj => by
    have hj' : j < m * i.size := by have := (List.getElem?_eq_some_iff.1 hj).1; simpa using this
    simp [hj'] at hj
    rw [Addr.add_lit, hr.cell (by omega), hj]
  have hcap : ∀ old, grownCap w (k + m) old e ≤ maxLen ∧ k + m ≤ grownCap w (k + m) old e := fun old => ⟨grownCap_le_maxLen w (k + m) old e h63, grownCap_ge w (k + m) old e⟩
  rcases hown with ⟨rfl, rfl⟩ | ⟨b, cap, G', rfl, hbg, hnc, hcm, hr', hF⟩
  · by_cases hm : m = 0
    · subst hm
      refine ⟨.slice none 0 0, w, ?_, .inl ⟨rfl, rfl⟩, grown_refl _ _, .inl rfl⟩
      simp [Builtin.append_, run_underlying ht, sizeOf, typeInfo, hi, Builtin.lenOf, Builtin.firstCells, loadCells, loadCellsFrom]
    · have hrun := run_append_nil (P := P) w t ty' e i zv ht hi hz ⟨g, off, none⟩ m c _ hnl hnews (by omega) (by omega) (by have hb := hby; simp only [Nat.zero_add] at hb; omega)
      have hc := hcap 0
      simp only [Nat.zero_add] at hc
      refine ⟨_, _, hrun, ?_, ⟨rfl, rfl, rfl, by simp, fun k hk _ => Below.heap_alloc w.drew _ k hk⟩, .inr rfl⟩
      rw [Nat.zero_add]
      refine Own.fresh ?_ hc.2 hc.1 hbase (fun j hj => ?_)
      · simp only [Array.size_append, List.size_toArray, size_zeroCells, hzs, hnl, ← Nat.add_mul]
        congr 1
        omega
      · simp [Array.getElem?_append, hj]
  · by_cases hroom : k + m ≤ cap
    · have hle : k * i.size + m * i.size ≤ cap * i.size := by rw [← Nat.add_mul]; exact Nat.mul_le_mul_right _ hroom
      obtain ⟨w', hst, hrow, hg⟩ := store_room (P := P) (N := fun j => G (off + j)) hr' hle (fun j => hone _)
      have hf := run_firstCells_some (P := P) w i.size m ⟨g, off, none⟩ m c _ hnl hnews
      refine ⟨.slice (some ⟨b, 0, none⟩) (k + m) cap, w', ?_, .inr ⟨b, cap, _, rfl, hbg, hroom, hcm, hrow, fun j hj => ?_⟩, hg, .inl rfl⟩
      · simp [Builtin.append_, run_underlying ht, sizeOf, typeInfo, hi, Builtin.lenOf, hroom, hf, Addr.add_lit, hst]
      · rw [Nat.add_mul] at hj
        by_cases e1 : j < k * i.size
        · rw [if_neg (by omega), hF j e1]; exact (if_pos e1).symm
        · rw [if_pos (by omega)]; exact (if_neg e1).symm
    · have holds : ∀ j u, ((List.range (k * i.size)).map F)[j]? = some u → w.cell? ((⟨b, 0, none⟩ : Addr).add j) = some u := fun j u hj => by
        have hj' : j < k * i.size := by have := (List.getElem?_eq_some_iff.1 hj).1; simpa using this
        simp [hj'] at hj
        have hle : k * i.size ≤ cap * i.size := Nat.mul_le_mul_right _ hnc
        rw [Addr.add_lit, Nat.zero_add, hr'.cell (by omega), hF j hj', hj]
      have hrun := run_append_grow (P := P) w t ty' e i zv ht hi hz ⟨b, 0, none⟩ k cap ((List.range (k * i.size)).map F) (by simp) holds ⟨g, off, none⟩ m c _ hnl hnews (by omega) (by omega) (growslice_fits (by omega) hby)
      have hc := hcap cap
      refine ⟨_, _, hrun, Own.fresh ?_ hc.2 hc.1 hbase (fun j hj => ?_), ⟨rfl, rfl, rfl, by simp, fun k hk _ => Below.heap_alloc w.drew _ k hk⟩, .inr rfl⟩
      · simp only [Array.size_append, List.size_toArray, size_zeroCells, hzs, hnl, List.length_map, List.length_range, ← Nat.add_mul]
        congr 1
        omega
      · rw [Nat.add_mul] at hj
        by_cases e1 : j < k * i.size
        · rw [if_pos e1]
          have hj2 : j < k * i.size + m * i.size := hj
          simp [Array.getElem?_append, e1, hj2]
        · rw [if_neg e1]
          have hj2 : j < k * i.size + m * i.size := hj
          have hj3 : j - k * i.size < m * i.size := by omega
          simp [Array.getElem?_append, e1, hj2, hj3]
          rw [List.getElem_append_right (by simp; omega)]
          simp
theorem w_app {d : Nat} {p : String} {aft : Array Edge} {g off m c bytes K : Nat} {et : TypeId} (hx : Ev n f x v) (hy : Ev n f y (.slice (some ⟨g, off, none⟩) m c)) (ht : P.underlying t = some (.slice e))
    (hinfo : (P.info? e).map (fun i => (i.zero.map (·.cells.size), i.size, i.bytes)) = some (some size, size, bytes)) (hsz : 0 < size) (hown : Own w base e size v k F) (hbase : base ≤ w.heap.size) (hr : Row w g et K G) (hfit : off + m * size ≤ K)
    (hone : ∀ j, (G j).oneCell' = true) (h63 : k + m ≤ maxLen) (hby : (k + m) * bytes ≤ 140737488355328)
    (h : ∀ v' w', Own w' base e size v' (k + m) (fun j => if j < k * size then F j else G (off + (j - k * size))) → w.grownBy w' v.ownBlock → (v'.ownBlock = v.ownBlock ∨ v'.ownBlock = some w.heap.size) → wpList P ops Q rest (fr n (up f d v')) w') :
    wpList P ops Q (⟨some d, .call ⟨.builtin .append, #[x, y], #[t, t]⟩, ty, p, aft, none⟩ :: rest) (fr n f) w :=
  wpList_plain rfl fun K' hK => by
    obtain ⟨i, hi, hi2⟩ := Option.map_eq_some_iff.1 hinfo
    simp only [Prod.mk.injEq] at hi2
    obtain ⟨hz, hs, hb⟩ := hi2
    obtain ⟨zv, hz1, hz2⟩ := Option.map_eq_some_iff.1 hz
    obtain ⟨v', w', hrun, h1, h2, h3⟩ := run_app (P := P) (ty' := ty) (c := c) ht hi hz1 hs hb hz2 hown hbase hr hfit hone h63 hby
    unfold Oper.wp
    have e1 : (fr n f).eval x = v := hx
    have e2 : (fr n f).eval y = .slice (some ⟨g, off, none⟩) m c := hy
    have hrun' : (execOp (fr n f).eval ⟨some d, .call ⟨.builtin .append, #[x, y], #[t, t]⟩, ty, p, aft, none⟩).run P w = .ok (.value v') w' := by
      simp only [execOp, resolve, Sem.run_bind, Sem.run_pure, Result.andThen_ok, List.map_toArray, List.map_cons, List.map_nil, e1, e2, invoke, builtin, hrun]
    rw [hrun']
    simp only [Oper.upon, fr_put]
    exact hK _ _ (h v' w' h1 h2 h3)
/-- []byte(s), as a slice of the call's own -/
theorem w_bytes_own {s d' : TypeId} {d : Nat} {p : String} {aft : Array Edge} {l : List (BitVec 8)} (hx : Ev n f x (.string (str l))) (hs : P.underlying s = some .string) (hd : P.underlying d' = some (.slice e)) (he : P.underlying e = some (.int .u8)) (hl : l.length ≤ maxLen) (hbase : base ≤ w.heap.size)
    (h : ∀ v' w', Own w' base e 1 v' l.length (fun j => U8 (gb l j)) → v'.ownBlock = some w.heap.size → Below w.heap.size w w' → wpList P ops Q rest (fr n (up f d v')) w') :
    wpList P ops Q (⟨some d, .convert s d' x, ty, p, aft, none⟩ :: rest) (fr n f) w :=
  wpList_plain rfl fun K hK => by
    have h1 : (fr n f).eval x = .string (str l) := hx
    have hr := run_bytes_of_string (P := P) w s d' e (str l) hs hd he
    rw [size_str] at hr
    have hc := grownCap_ge w l.length 0 e
    have hcm := grownCap_le_maxLen w l.length 0 e hl
    generalize grownCap w l.length 0 e = c at *
    have hsz : (bytesRow (str l) c).size = c := by
      have h2 : (str l).size = l.length := size_str l
      unfold bytesRow
      rw [Array.size_append, Array.size_replicate, h2, Array.size_map]
      have h3 : (str l).data.size = l.length := h2
      omega
    have hlt : ∀ i, i < l.length → (bytesRow (str l) c)[i]? = some (U8 (gb l i)) := fun i hi => by
      simp [bytesRow, str, hi, gb, U8, Array.getElem?_append]
    unfold Oper.wp
    have e1 : (execOp (fr n f).eval ⟨some d, .convert s d' x, ty, p, aft, none⟩).run P w = .ok (.value (.slice (some ⟨w.heap.size, 0, none⟩) l.length c)) (w.drew.alloc (.cells (bytesRow (str l) c) e ((bytesRow (str l) c).size, (bytesRow (str l) c).size + 1))) := by
      unfold execOp
      simp only [h1]
      rw [Sem.run_bind, hr]
      rfl
    rw [e1]
    simp only [Oper.upon, fr_put]
    refine hK _ _ (h _ _ (.inr ⟨w.heap.size, c, fun j => (bytesRow (str l) c).getD j undef, rfl, hbase, hc, hcm, ⟨_, _, _, heap_alloc_new w.drew _, by omega, fun i hi => ?_, .inl (by omega)⟩, fun j hj => ?_⟩) rfl ?_)
    · have : i < (bytesRow (str l) c).size := by omega
      simp [this]
    · simp [Array.getD_eq_getD_getElem?, hlt j (by omega)]
    · exact ((Below.refl _ _).drew).alloc (Nat.le_refl _) _
end
end Go.Proofs.YtdmbfimjbmfbaaaGreatDoor
