/-
  Whole arrays read out of a row of cells and stored into one. No conditions. Digests, plainly: words, rounds, blocks, what is filled up. No conditions.
-/
import Derived.Test.YtdmbfimjbmfbaaaGreatDoorQuiet
import Derived.Laws.IdiomCopy
import Derived.Test.YtdmbfimjbmfbaaaGreatDoorOct
namespace Go.Proofs.YtdmbfimjbmfbaaaGreatDoor
open Go.RowKit
set_option linter.unusedSimpArgs false
set_option linter.unusedVariables false
/-- an array's m values: simp does not look behind the name -/
def arr (m : Nat) (f : Nat → Value) : Array Value := ((List.range m).map f).toArray
theorem size_arr (m : Nat) (f : Nat → Value) : (arr m f).size = m := by simp [arr]
theorem arr_at (m : Nat) (f : Nat → Value) (i : Nat) (h : i < m) : (arr m f)[i]? = some (f i) := by simp [arr, h]
theorem arr_congr {m : Nat} {f g : Nat → Value} (h : ∀ i, i < m → f i = g i) : arr m f = arr m g := by
  unfold arr
  congr 1
  exact List.map_congr_left (fun i hi => h i (List.mem_range.1 hi))
theorem Row.of_arr (w : World) (t : TypeId) (m : Nat) (f : Nat → Value) : Row (w.alloc (.cells (arr m f) t)) w.heap.size t m f :=
  Row.fresh (size_arr m f) (fun i hi => arr_at m f i hi)
section
variable {P : Program}
def isAggD : TypeDesc → Bool
  | .struct _ | .array _ _ => true
  | _ => false
theorem run_isAgg (w : World) (ty : TypeId) (hu : (P.underlying ty).map isAggD = some true) : (isAgg ty).run P w = .ok true w := by
  obtain ⟨d, h1, h2⟩ := Option.map_eq_some_iff.1 hu
  unfold isAgg
  rw [Sem.run_bind, run_underlying h1 w]
  cases d <;> simp_all [isAggD]
theorem run_loadVar_at (w : World) (ty : TypeId) (g off m : Nat) (f : Nat → Value) (hu : (P.underlying ty).map isAggD = some true) (hi : (P.info? ty).map (·.size) = some m)
    (hc : ∀ j, j < m → w.cell? ⟨g, off + j, none⟩ = some (f j)) : (loadVar ty ⟨g, off, none⟩).run P w = .ok (.agg (arr m f)) w := by
  have hl := run_loadCells (P := P) w ⟨g, off, none⟩ m f (fun j hj => by rw [Addr.add_lit]; exact hc j hj)
  cases hq : P.info? ty with
  | none => simp [hq] at hi
  | some i =>
    have hs : i.size = m := by simpa [hq] using hi
    have hsz : (sizeOf ty).run P w = .ok m w := by simp [sizeOf, typeInfo, hq, hs]
    have hag := run_isAgg (P := P) w ty hu
    simp [loadVar, Sem.run_bind, hag, hsz, hl, arr]
theorem wp_load_arr {o : Oper} {a : Act} {w : World} {K : Act → World → Prop} {Q : Exit → Act → World → Prop} (ty : TypeId) (x : Operand) (ho : o.op = .load ty x)
    (g off m : Nat) (hx : a.eval x = .pointer (some ⟨g, off, none⟩)) (f : Nat → Value) (hu : (P.underlying ty).map isAggD = some true) (hi : (P.info? ty).map (·.size) = some m)
    (hc : ∀ j, j < m → w.cell? ⟨g, off + j, none⟩ = some (f j)) (h : K (a.put o.dst (.agg (arr m f))) w) : o.wp P a w K Q := by
  unfold Oper.wp execOp
  simp only [ho, hx, Instr.loadAt, Instr.sureAddr, Sem.run_bind, Sem.run_pure, Result.andThen_ok, run_loadVar_at w ty g off m f hu hi hc]
  exact h
theorem wpList_load_arr {ops : Array Oper} {rest : List Oper} {o : Oper} {a : Act} {w : World} {Q : Exit → Act → World → Prop} (hgd : o.guard = none) (ty : TypeId) (x : Operand) (ho : o.op = .load ty x)
    (g off m : Nat) (hx : a.eval x = .pointer (some ⟨g, off, none⟩)) (f : Nat → Value) (hu : (P.underlying ty).map isAggD = some true) (hi : (P.info? ty).map (·.size) = some m)
    (hc : ∀ j, j < m → w.cell? ⟨g, off + j, none⟩ = some (f j)) (h : wpList P ops Q rest (a.put o.dst (.agg (arr m f))) w) : wpList P ops Q (o :: rest) a w :=
  wpList_plain hgd fun _ hK => wp_load_arr ty x ho g off m hx f hu hi hc (hK _ _ h)
theorem setCells_other (b : Nat) : ∀ (vs : List Value) (o : Nat) (w : World) (k : Nat), k ≠ b → (w.setCells b o vs).heap[k]? = w.heap[k]?
  | [], _, _, _, _ => rfl
  | v :: r, o, w, k, h => by rw [World.setCells, setCells_other b r (o + 1) _ k h, Below.heap_setCell _ _ _ _ h]
theorem setCells_rest (b : Nat) : ∀ (vs : List Value) (o : Nat) (w : World), (w.setCells b o vs).os = w.os ∧ (w.setCells b o vs).tape = w.tape ∧ (w.setCells b o vs).output = w.output ∧ (w.setCells b o vs).heap.size = w.heap.size
  | [], _, _ => ⟨rfl, rfl, rfl, rfl⟩
  | v :: r, o, w => by
    obtain ⟨h1, h2, h3, h4⟩ := setCells_rest b r (o + 1) (w.setCell ⟨b, o, none⟩ v)
    exact ⟨h1, h2, h3, by rw [World.setCells, h4]; simp [World.setCell]⟩
theorem setCells_row (t : TypeId) (b n : Nat) : ∀ (vs : List Value) (o : Nat) (w : World) (f : Nat → Value), Row w b t n f → Row (w.setCells b o vs) b t n (fun j => if o ≤ j ∧ j < o + vs.length then vs.getD (j - o) undef else f j)
  | [], o, w, f, h => h.congr (fun i _ => by rw [if_neg (by simp only [List.length_nil]; omega)])
  | v :: r, o, w, f, h => by
    refine (setCells_row t b n r (o + 1) _ _ (h.set_ o v)).congr (fun i hi => ?_)
    by_cases h1 : o + 1 ≤ i ∧ i < o + 1 + r.length
    · rw [if_pos h1, if_pos (by simp; omega), show i - o = i - (o + 1) + 1 from by omega]
      rfl
    · rw [if_neg h1]
      by_cases h2 : i = o
      · subst h2
        rw [if_pos rfl, if_pos (by simp)]
        simp
      · rw [if_neg h2, if_neg (by simp; omega)]
theorem run_storeVar_at (w : World) (ty t : TypeId) (g off m n : Nat) (h f : Nat → Value) (hi : (P.info? ty).map (·.size) = some m) (hone : ∀ j, j < m → (h j).oneCell' = true) (hr : Row w g t n f) (hn : off + m ≤ n) :
    (storeVar ty ⟨g, off, none⟩ (.agg (arr m h))).run P w = .ok () (w.setCells g off ((List.range m).map h)) := by
  have hst := run_storeCells_cells (P := P) g off ((List.range m).map h) 0 w
    (fun j hj => by simp at hj; rw [Nat.add_zero, hr.cell (by omega)]; rfl)
    (fun j hj => by simp at hj; rw [Nat.add_zero, hr.frozen (by omega)])
    (fun v hv => by
      obtain ⟨j, hj, rfl⟩ := List.mem_map.1 hv
      exact hone j (List.mem_range.1 hj))
  cases hq : P.info? ty with
  | none => simp [hq] at hi
  | some i =>
    have hs : i.size = m := by simpa [hq] using hi
    have hc : (Value.agg (arr m h)).cells = arr m h := rfl
    have hl : (arr m h).toList = (List.range m).map h := rfl
    have hsz : (sizeOf ty).run P w = .ok m w := by simp [sizeOf, typeInfo, hq, hs]
    simp only [Nat.add_zero] at hst
    simp [storeVar, Sem.run_bind, hsz, hc, size_arr, hl, hst]
theorem wp_store_arr {o : Oper} {a : Act} {w : World} {K : Act → World → Prop} {Q : Exit → Act → World → Prop} (ty : TypeId) (p x : Operand) (ho : o.op = .store ty p x)
    (g off m : Nat) (hp : a.eval p = .pointer (some ⟨g, off, none⟩)) (h : Nat → Value) (hx : a.eval x = .agg (arr m h)) (hi : (P.info? ty).map (·.size) = some m)
    (hone : ∀ j, j < m → (h j).oneCell' = true) (t : TypeId) (n : Nat) (f : Nat → Value) (hr : Row w g t n f) (hn : off + m ≤ n)
    (hK : ∀ w', Row w' g t n (fun j => if off ≤ j ∧ j < off + m then h (j - off) else f j) → w.grownBy w' (some g) → w'.heap.size = w.heap.size → K (a.put o.dst undef) w') : o.wp P a w K Q := by
  unfold Oper.wp execOp
  simp only [ho, hp, hx, Instr.storeAt, Instr.sureAddr, Sem.run_bind, Sem.run_pure, Result.andThen_ok, run_storeVar_at w ty t g off m n h f hi hone hr hn]
  obtain ⟨h1, h2, h3, h4⟩ := setCells_rest g ((List.range m).map h) off w
  refine hK _ ((setCells_row t g n _ off w f hr).congr (fun i _ => ?_)) ⟨h1, h2, h3, by omega, fun k hk hne => setCells_other g _ off w k (fun e => hne (by rw [e]))⟩ h4
  by_cases e : off ≤ i ∧ i < off + m
  · rw [if_pos (by simpa using e), if_pos e]
    simp [show i - off < m from by omega]
  · rw [if_neg (by simpa using e), if_neg e]
theorem wpList_store_arr {ops : Array Oper} {rest : List Oper} {o : Oper} {a : Act} {w : World} {Q : Exit → Act → World → Prop} (hgd : o.guard = none) (hd : o.dst = none) (ty : TypeId) (p x : Operand) (ho : o.op = .store ty p x)
    (g off m : Nat) (hp : a.eval p = .pointer (some ⟨g, off, none⟩)) (h : Nat → Value) (hx : a.eval x = .agg (arr m h)) (hi : (P.info? ty).map (·.size) = some m)
    (hone : ∀ j, j < m → (h j).oneCell' = true) (t : TypeId) (n : Nat) (f : Nat → Value) (hr : Row w g t n f) (hn : off + m ≤ n)
    (hK : ∀ w', Row w' g t n (fun j => if off ≤ j ∧ j < off + m then h (j - off) else f j) → w.grownBy w' (some g) → w'.heap.size = w.heap.size → wpList P ops Q rest a w') : wpList P ops Q (o :: rest) a w :=
  wpList_plain hgd fun _ hK' => wp_store_arr ty p x ho g off m hp h hx hi hone t n f hr hn (fun w' a1 a2 a3 => hK' _ _ (by rw [hd]; exact hK w' a1 a2 a3))
/-- a result that lies in memory, an array -/
theorem results_arr {fn : Func} {p : Tmp} {ty : TypeId} (h : fn.results = #[.cell p ty]) (tmps : Array Value) (w : World) (g m : Nat) (f : Nat → Value)
    (hp : tmps.getD p undef = .pointer (some ⟨g, 0, none⟩)) (hu : (P.underlying ty).map isAggD = some true) (hi : (P.info? ty).map (·.size) = some m)
    (hc : ∀ j, j < m → w.cell? ⟨g, j, none⟩ = some (f j)) : (results fn tmps).run P w = .ok (.agg (arr m f)) w := by
  have hp' : tmps[p]?.getD undef = .pointer (some ⟨g, 0, none⟩) := by simpa using hp
  simp [results, h, hp', asAddr, run_loadVar_at w ty g 0 m f hu hi (fun j hj => by rw [Nat.zero_add]; exact hc j hj)]
theorem wpList_build {ops : Array Oper} {rest : List Oper} {o : Oper} {a : Act} {w : World} {Q : Exit → Act → World → Prop} (hgd : o.guard = none) (t : TypeId) (k : Nat) (x : Operand) (ho : o.op = .build t #[(k, x)])
    (vx v : Value) (hx : a.eval x = vx) (hb : ∀ w, (Instr.build t #[(k, vx)]).run P w = .ok v w) (h : wpList P ops Q rest (a.put o.dst v) w) : wpList P ops Q (o :: rest) a w :=
  wpList_plain hgd fun _ hK => by
    unfold Oper.wp execOp
    simp only [ho, List.map_toArray, List.map_cons, List.map_nil, hx, Sem.run_bind, hb, Result.andThen_ok, Sem.run_pure]
    exact hK _ _ h
/-- one cell of a row stored, the world behind it by what is known of it alone -/
theorem wpList_store_cell {ops : Array Oper} {rest : List Oper} {o : Oper} {a : Act} {w : World} {Q : Exit → Act → World → Prop} (hgd : o.guard = none) (hd : o.dst = none) (ty : TypeId) (p x : Operand) (ho : o.op = .store ty p x)
    (g i : Nat) (hp : a.eval p = .pointer (some ⟨g, i, none⟩)) (v : Value) (hx : a.eval x = v) (hone : v.oneCell' = true) (hcl : v.cells = #[v]) (hty : (P.info? ty).map (·.size) = some 1)
    (t : TypeId) (n : Nat) (f : Nat → Value) (hr : Row w g t n f) (hi : i < n)
    (hK : ∀ w', Row w' g t n (fun j => if j = i then v else f j) → w.grownBy w' (some g) → w'.heap.size = w.heap.size → wpList P ops Q rest a w') : wpList P ops Q (o :: rest) a w :=
  wpList_plain hgd fun _ hK' => by
    cases hq : P.info? ty with
    | none => simp [hq] at hty
    | some j =>
      have hs : j.size = 1 := by simpa [hq] using hty
      have hsz : (sizeOf ty).run P w = .ok 1 w := by simp [sizeOf, typeInfo, hq, hs]
      have hst : (store ⟨g, i, none⟩ v).run P w = .ok () (w.setCell ⟨g, i, none⟩ v) := by
        rw [run_store P w ⟨g, i, none⟩ v _ hone, hr.cell hi]
        simp [hr.frozen hi]
      have hsc : (storeCells ⟨g, i, none⟩ [v]).run P w = .ok () (w.setCell ⟨g, i, none⟩ v) := by
        simp only [storeCells, Addr.add_zero', Sem.run_bind, hst, Result.andThen_ok, Sem.run_pure]
      have hsv : (storeVar ty ⟨g, i, none⟩ v).run P w = .ok () (w.setCell ⟨g, i, none⟩ v) := by
        simp [storeVar, Sem.run_bind, hsz, hcl, hsc]
      unfold Oper.wp execOp
      simp only [ho, hp, hx, Instr.storeAt, Instr.sureAddr, Sem.run_bind, Sem.run_pure, Result.andThen_ok, hsv]
      exact hK' _ _ (by rw [hd]; exact hK _ (hr.set_ i v) ⟨rfl, rfl, rfl, by simp [World.setCell], fun k _ hne => Below.heap_setCell w _ v k (fun e => hne (by rw [e]))⟩ (by simp [World.setCell]))
end
end Go.Proofs.YtdmbfimjbmfbaaaGreatDoor
namespace Go.Proofs.YtdmbfimjbmfbaaaGreatDoor
open Go.RowKit
set_option linter.unusedSimpArgs false
set_option linter.unusedVariables false
namespace Sha
def kN : List Nat := [0x428a2f98d728ae22, 0x7137449123ef65cd, 0xb5c0fbcfec4d3b2f, 0xe9b5dba58189dbbc, 0x3956c25bf348b538, 0x59f111f1b605d019, 0x923f82a4af194f9b, 0xab1c5ed5da6d8118, 0xd807aa98a3030242, 0x12835b0145706fbe, 0x243185be4ee4b28c, 0x550c7dc3d5ffb4e2, 0x72be5d74f27b896f, 0x80deb1fe3b1696b1, 0x9bdc06a725c71235, 0xc19bf174cf692694, 0xe49b69c19ef14ad2, 0xefbe4786384f25e3, 0x0fc19dc68b8cd5b5, 0x240ca1cc77ac9c65, 0x2de92c6f592b0275, 0x4a7484aa6ea6e483, 0x5cb0a9dcbd41fbd4, 0x76f988da831153b5, 0x983e5152ee66dfab, 0xa831c66d2db43210, 0xb00327c898fb213f, 0xbf597fc7beef0ee4, 0xc6e00bf33da88fc2, 0xd5a79147930aa725, 0x06ca6351e003826f, 0x142929670a0e6e70, 0x27b70a8546d22ffc, 0x2e1b21385c26c926, 0x4d2c6dfc5ac42aed, 0x53380d139d95b3df, 0x650a73548baf63de, 0x766a0abb3c77b2a8, 0x81c2c92e47edaee6, 0x92722c851482353b, 0xa2bfe8a14cf10364, 0xa81a664bbc423001, 0xc24b8b70d0f89791, 0xc76c51a30654be30, 0xd192e819d6ef5218, 0xd69906245565a910, 0xf40e35855771202a, 0x106aa07032bbd1b8, 0x19a4c116b8d2d0c8, 0x1e376c085141ab53, 0x2748774cdf8eeb99, 0x34b0bcb5e19b48a8, 0x391c0cb3c5c95a63, 0x4ed8aa4ae3418acb, 0x5b9cca4f7763e373, 0x682e6ff3d6b2b8a3, 0x748f82ee5defb2fc, 0x78a5636f43172f60, 0x84c87814a1f0ab72, 0x8cc702081a6439ec, 0x90befffa23631e28, 0xa4506cebde82bde9, 0xbef9a3f7b2c67915, 0xc67178f2e372532b, 0xca273eceea26619c, 0xd186b8c721c0c207, 0xeada7dd6cde0eb1e, 0xf57d4f7fee6ed178, 0x06f067aa72176fba, 0x0a637dc5a2c898a6, 0x113f9804bef90dae, 0x1b710b35131c471b, 0x28db77f523047d84, 0x32caab7b40c72493, 0x3c9ebe0a15c9bebc, 0x431d67c49c100d4c, 0x4cc5d4becb3e42b6, 0x597f299cfc657e2a, 0x5fcb6fab3ad6faec, 0x6c44198c4a475817]
/-- the first bits of the square roots: of the first eight primes, and of the eight behind them -/
def rN : List Nat := [0x6a09e667f3bcc908, 0xbb67ae8584caa73b, 0x3c6ef372fe94f82b, 0xa54ff53a5f1d36f1, 0x510e527fade682d1, 0x9b05688c2b3e6c1f, 0x1f83d9abfb41bd6b, 0x5be0cd19137e2179, 0xcbbb9d5dc1059ed8, 0x629a292a367cd507, 0x9159015a3070dd17, 0x152fecd8f70e5939, 0x67332667ffc00b31, 0x8eb44a8768581511, 0xdb0c2e0d64f98fa7, 0x47b5481dbefa4fa4]
def sm (kind : Nat) : Bool := kind == 256
def bs (kind : Nat) : Nat := if sm kind then 64 else 128
def rounds (s : Bool) : Nat := if s then 64 else 80
/-- bytes of a word -/
def wb (s : Bool) : Nat := if s then 4 else 8
def ol (kind : Nat) : Nat := if kind = 256 then 32 else if kind = 384 then 48 else 64
def cut (s : Bool) (n : Nat) : Nat := if s then n / 2 ^ 32 else n
def K (s : Bool) (i : Nat) : BitVec 64 := BitVec.ofNat 64 (cut s (kN.getD i 0))
def H0 (kind : Nat) (i : Nat) : BitVec 64 := BitVec.ofNat 64 (cut (sm kind) (rN.getD ((if kind = 384 then 8 else 0) + i) 0))
def wd (s : Bool) (x : BitVec 64) : BitVec 64 := if s then x % 4294967296#64 else x
def tn (s : Bool) (x : BitVec 64) (n : Nat) : BitVec 64 := if s then (x >>> n ||| x <<< (32 - n)) % 4294967296#64 else x >>> n ||| x <<< (64 - n)
def trn (s : Bool) (i : Nat) : Nat := (if s then [7, 18, 3, 17, 19, 10, 2, 13, 22, 6, 11, 25] else [1, 8, 7, 19, 61, 6, 28, 34, 39, 14, 18, 41]).getD i 0
def th (s : Bool) (x : BitVec 64) (a : Nat) (sh : Bool) : BitVec 64 := (tn s x (trn s a) ^^^ tn s x (trn s (a + 1))) ^^^ (if sh then x >>> trn s (a + 2) else tn s x (trn s (a + 2)))
def bw (p : Nat → BitVec 8) : Nat → BitVec 64
  | 0 => 0#64
  | k + 1 => bw p k * 256#64 + (p k).setWidth 64
/-- a word of the plan, of the bytes p and of the words ahead of it -/
def wstep (s : Bool) (p : Nat → BitVec 8) (W : Nat → BitVec 64) (i : Nat) : BitVec 64 :=
  if i < 16 then bw (fun k => p (wb s * i + k)) (wb s) else wd s (((th s (W (i - 2)) 3 true + W (i - 7)) + th s (W (i - 15)) 0 true) + W (i - 16))
def wtab (s : Bool) (p : Nat → BitVec 8) : Nat → Nat → BitVec 64
  | 0 => fun _ => 0#64
  | n + 1 => fun j => if j = n then wstep s p (wtab s p n) n else wtab s p n j
def w (s : Bool) (p : Nat → BitVec 8) (i : Nat) : BitVec 64 := wtab s p (i + 1) i
theorem wtab_eq (s : Bool) (p : Nat → BitVec 8) : ∀ n j, j < n → wtab s p n j = w s p j
  | 0, j, h => absurd h (by omega)
  | n + 1, j, h => by
    by_cases e : j = n
    · subst e; rfl
    · rw [show wtab s p (n + 1) j = wtab s p n j from if_neg e]
      exact wtab_eq s p n j (by omega)
theorem wstep_congr (s : Bool) (p : Nat → BitVec 8) (V W : Nat → BitVec 64) (i : Nat) (h : ∀ j, j < i → V j = W j) : wstep s p V i = wstep s p W i := by
  unfold wstep
  by_cases e : i < 16
  · rw [if_pos e, if_pos e]
  · rw [if_neg e, if_neg e, h _ (by omega), h _ (by omega), h _ (by omega), h _ (by omega)]
theorem w_eq (s : Bool) (p : Nat → BitVec 8) (i : Nat) : w s p i = wstep s p (w s p) i := by
  show (if i = i then wstep s p (wtab s p i) i else _) = _
  rw [if_pos rfl]
  exact wstep_congr _ _ _ _ _ (fun j hj => wtab_eq s p i j hj)
/-- the two sums of a round -/
def t1 (s : Bool) (k x : BitVec 64) (v : Nat → BitVec 64) : BitVec 64 := (((v 7 + th s (v 4) 9 false) + ((v 4 &&& v 5) ^^^ (~~~ v 4 &&& v 6))) + k) + x
def t2 (s : Bool) (v : Nat → BitVec 64) : BitVec 64 := th s (v 0) 6 false + (((v 0 &&& v 1) ^^^ (v 0 &&& v 2)) ^^^ (v 1 &&& v 2))
def eight {α : Type} (a0 a1 a2 a3 a4 a5 a6 a7 : α) (j : Nat) : α := if j = 0 then a0 else if j = 1 then a1 else if j = 2 then a2 else if j = 3 then a3 else if j = 4 then a4 else if j = 5 then a5 else if j = 6 then a6 else a7
def rnd (s : Bool) (k x : BitVec 64) (v : Nat → BitVec 64) : Nat → BitVec 64 :=
  eight (wd s (t1 s k x v + t2 s v)) (v 0) (v 1) (v 2) (wd s (v 3 + t1 s k x v)) (v 4) (v 5) (v 6)
def vs (s : Bool) (p : Nat → BitVec 8) (h : Nat → BitVec 64) : Nat → Nat → BitVec 64
  | 0 => h
  | i + 1 => rnd s (K s i) (w s p i) (vs s p h i)
def comp (s : Bool) (p : Nat → BitVec 8) (h : Nat → BitVec 64) (j : Nat) : BitVec 64 := wd s (h j + vs s p h (rounds s) j)
/-- behind t blocks -/
def st (kind : Nat) (p : Nat → BitVec 8) : Nat → Nat → BitVec 64
  | 0 => H0 kind
  | t + 1 => comp (sm kind) (fun j => p (bs kind * t + j)) (st kind p t)
theorem bw_congr (p q : Nat → BitVec 8) (n : Nat) (h : ∀ j, j < n → p j = q j) : bw p n = bw q n := by
  induction n with
  | zero => rfl
  | succ n ih => show bw p n * 256#64 + _ = bw q n * 256#64 + _; rw [ih (fun j hj => h j (by omega)), h n (by omega)]
theorem wb_bs (kind : Nat) : bs kind = 16 * wb (sm kind) := by unfold bs wb; cases sm kind <;> rfl
theorem w_congr (s : Bool) (p q : Nat → BitVec 8) (h : ∀ j, j < 16 * wb s → p j = q j) : ∀ i, w s p i = w s q i := by
  intro i
  induction i using Nat.strongRecOn with
  | ind i ih =>
    rw [w_eq, w_eq, wstep_congr s p _ _ i ih]
    unfold wstep
    by_cases e : i < 16
    · rw [if_pos e, if_pos e]
      exact bw_congr _ _ _ (fun j hj => h _ (by have : wb s * i ≤ wb s * 15 := Nat.mul_le_mul_left _ (by omega); omega))
    · rw [if_neg e, if_neg e]
theorem vs_congr (s : Bool) (p q : Nat → BitVec 8) (h : Nat → BitVec 64) (e : ∀ j, j < 16 * wb s → p j = q j) : ∀ i, vs s p h i = vs s q h i
  | 0 => rfl
  | i + 1 => by show rnd _ _ _ _ = rnd _ _ _ _; rw [vs_congr s p q h e i, w_congr s p q e]
theorem comp_congr (s : Bool) (p q : Nat → BitVec 8) (h : Nat → BitVec 64) (e : ∀ j, j < 16 * wb s → p j = q j) : comp s p h = comp s q h := by
  funext j; unfold comp; rw [vs_congr s p q h e]
theorem st_congr (kind : Nat) (p q : Nat → BitVec 8) : ∀ t, (∀ j, j < bs kind * t → p j = q j) → st kind p t = st kind q t
  | 0, _ => rfl
  | t + 1, e => by
    have hm : bs kind * (t + 1) = bs kind * t + bs kind := Nat.mul_succ _ _
    show comp _ _ _ = comp _ _ _
    rw [st_congr kind p q t (fun j hj => e j (by omega))]
    exact comp_congr _ _ _ _ (fun j hj => e _ (by have := wb_bs kind; omega))
theorem bs_cases (kind : Nat) : (kind = 256 ∧ sm kind = true ∧ bs kind = 64) ∨ (kind ≠ 256 ∧ sm kind = false ∧ bs kind = 128) := by
  by_cases h : kind = 256
  · subst h; exact .inl ⟨rfl, rfl, rfl⟩
  · have : sm kind = false := by unfold sm; simpa using h
    exact .inr ⟨h, this, by unfold bs; rw [this]; rfl⟩
/-- the bytes that are put behind a text of n bytes -/
def padl (kind n : Nat) : Nat := (2 * bs kind - bs kind / 8 - 1 - n % bs kind) % bs kind + 1 + bs kind / 8
theorem padl_le (kind n : Nat) : 17 - 8 ≤ padl kind n ∧ padl kind n ≤ 145 ∧ (n + padl kind n) % bs kind = 0 := by
  unfold padl
  rcases bs_cases kind with ⟨_, _, h⟩ | ⟨_, _, h⟩ <;> rw [h] <;> omega
def pb (kind n i : Nat) : BitVec 8 := if i = 0 then 128#8 else if i < padl kind n - 8 then 0#8 else gb (Oct.be (BitVec.ofNat 64 (8 * n)) 8) (i - (padl kind n - 8))
def pad (kind n : Nat) : List (BitVec 8) := (List.range (padl kind n)).map (pb kind n)
theorem length_pad (kind n : Nat) : (pad kind n).length = padl kind n := by simp [pad]
theorem gb_pad (kind n i : Nat) (h : i < padl kind n) : gb (pad kind n) i = pb kind n i := gb_map _ _ _ h
/-- the digest's bytes, out of the words -/
def dg (kind : Nat) (h : Nat → BitVec 64) : List (BitVec 8) := (List.range (ol kind)).map fun j => (h (j / wb (sm kind)) >>> (8 * (wb (sm kind) - 1 - j % wb (sm kind)))).setWidth 8
def full (kind : Nat) (m : List (BitVec 8)) : List (BitVec 8) := m ++ pad kind m.length
def nb (kind : Nat) (m : List (BitVec 8)) : Nat := (m.length + padl kind m.length) / bs kind
def sum (kind : Nat) (m : List (BitVec 8)) : List (BitVec 8) := dg kind (st kind (gb (full kind m)) (nb kind m))
theorem length_sum (kind : Nat) (m : List (BitVec 8)) : (sum kind m).length = ol kind := by simp [sum, dg]
theorem length_full (kind : Nat) (m : List (BitVec 8)) : (full kind m).length = bs kind * nb kind m := by
  unfold full nb
  rw [List.length_append, length_pad]
  have := (padl_le kind m.length).2.2
  have hd := Nat.div_add_mod (m.length + padl kind m.length) (bs kind)
  omega
def Known (kind : Nat) : Prop := kind = 256 ∨ kind = 384 ∨ kind = 512
end Sha
end Go.Proofs.YtdmbfimjbmfbaaaGreatDoor
