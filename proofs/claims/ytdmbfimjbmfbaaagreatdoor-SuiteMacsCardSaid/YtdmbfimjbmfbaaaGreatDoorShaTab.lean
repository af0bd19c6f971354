/-
  Digests: the two tables as they lie in memory, the cells of a hash. No conditions.
-/
import Derived.Test.YtdmbfimjbmfbaaaGreatDoorShaFew
import Derived.Test.YtdmbfimjbmfbaaaGreatDoorGenMore
import Derived.Test.YtdmbfimjbmfbaaaGreatDoorGenOwn
namespace Go.Proofs.YtdmbfimjbmfbaaaGreatDoor
open Go.RowKit
set_option linter.unusedSimpArgs false
set_option linter.unusedVariables false
theorem cell_of_block {w w' : World} {b i : Nat} (e : w'.heap[b]? = w.heap[b]?) : w'.cell? ⟨b, i, none⟩ = w.cell? ⟨b, i, none⟩ := by
  simp only [World.cell?, e]
namespace Sha
def Tabs (w : World) : Prop := (∀ i, i < 64 → w.cell? ⟨0, i, none⟩ = some (U32 (k32 i))) ∧ (∀ i, i < 80 → w.cell? ⟨1, i, none⟩ = some (U64 (K false i))) ∧ 0 < w.heap.size ∧ 1 < w.heap.size
namespace Tabs
variable {w w' : World}
theorem small (h : Tabs w) {i : Nat} (hi : i < 64) : w.cell? ⟨0, i, none⟩ = some (U32 (k32 i)) := h.1 i hi
theorem great (h : Tabs w) {i : Nat} (hi : i < 80) : w.cell? ⟨1, i, none⟩ = some (U64 (K false i)) := h.2.1 i hi
theorem lt (h : Tabs w) : 0 < w.heap.size ∧ 1 < w.heap.size := h.2.2
theorem of_blocks (h : Tabs w) (hs : w.heap.size ≤ w'.heap.size) (h0 : w'.heap[(0 : Nat)]? = w.heap[(0 : Nat)]?) (h1 : w'.heap[(1 : Nat)]? = w.heap[(1 : Nat)]?) : Tabs w' :=
  ⟨fun i hi => (cell_of_block h0).trans (h.small hi), fun i hi => (cell_of_block h1).trans (h.great hi), Nat.lt_of_lt_of_le h.lt.1 hs, Nat.lt_of_lt_of_le h.lt.2 hs⟩
theorem below (h : Tabs w) (hb : Below w.heap.size w w') : Tabs w' := h.of_blocks hb.size (hb.block _ h.lt.1) (hb.block _ h.lt.2)
theorem grownO {r : Option Nat} (h : Tabs w) (hg : w.grownBy w' r) (ho : ∀ g, r = some g → g ≠ 0 ∧ g ≠ 1) : Tabs w' :=
  h.of_blocks hg.size (hg.block _ h.lt.1 (fun e => (ho _ e.symm).1 rfl)) (hg.block _ h.lt.2 (fun e => (ho _ e.symm).2 rfl))
theorem grown {g : Nat} (h : Tabs w) (hg : w.grownBy w' (some g)) (h0 : g ≠ 0) (h1 : g ≠ 1) : Tabs w' :=
  h.grownO hg (fun k e => by cases e; exact ⟨h0, h1⟩)
end Tabs
/-! ### the cells of a hash -/
def hrow (kd : Value) (hh : Nat → BitVec 64) (rr : Nat → BitVec 8) (n al : Value) : Nat → Value :=
  fun j => if j < 1 then kd else if j < 9 then U64 (hh (j - 1)) else if j < 137 then U8 (rr (j - 9)) else if j < 138 then n else al
theorem hrow_congr (kd : Value) (hh hh' : Nat → BitVec 64) (rr rr' : Nat → BitVec 8) (n al : Value) (j : Nat) (h : ∀ i, i < 8 → hh i = hh' i) (h' : ∀ i, i < 128 → rr i = rr' i) : hrow kd hh rr n al j = hrow kd hh' rr' n al j := by
  unfold hrow
  by_cases e1 : j < 1
  · rw [if_pos e1, if_pos e1]
  rw [if_neg e1, if_neg e1]
  by_cases e2 : j < 9
  · rw [if_pos e2, if_pos e2, h _ (by omega)]
  rw [if_neg e2, if_neg e2]
  by_cases e3 : j < 137
  · rw [if_pos e3, if_pos e3, h' _ (by omega)]
  rw [if_neg e3, if_neg e3]
theorem words_init (kd : Value) (hh C : Nat → BitVec 64) (rr : Nat → BitVec 8) (n al : Value) (j : Nat) : hrow kd hh rr n al j = hrow kd (fun i => if i < 0 then C i else hh i) rr n al j :=
  hrow_congr _ _ _ _ _ _ _ _ (fun i _ => (if_neg (Nat.not_lt_zero i)).symm) (fun _ _ => rfl)
theorem words_step (kd : Value) (hh C : Nat → BitVec 64) (rr : Nat → BitVec 8) (n al : Value) (x : BitVec 64) (k j : Nat) (hk : k < 8) (hx : x = C k) :
    (if j = 1 + k then U64 x else hrow kd (fun i => if i < k then C i else hh i) rr n al j) = hrow kd (fun i => if i < k + 1 then C i else hh i) rr n al j := by
  by_cases e : j = 1 + k
  · subst e
    rw [if_pos rfl, hx]
    unfold hrow
    rw [if_neg (by omega), if_pos (by omega), show 1 + k - 1 = k from by omega]
    exact congrArg U64 (if_pos (by omega)).symm
  · rw [if_neg e]
    unfold hrow
    by_cases e1 : j < 1
    · rw [if_pos e1, if_pos e1]
    rw [if_neg e1, if_neg e1]
    by_cases e2 : j < 9
    · rw [if_pos e2, if_pos e2]
      by_cases e3 : j - 1 < k
      · exact congrArg U64 ((if_pos e3).trans (if_pos (by omega)).symm)
      · exact congrArg U64 ((if_neg e3).trans (if_neg (by omega)).symm)
    rw [if_neg e2, if_neg e2]
theorem words_done (kd : Value) (hh C : Nat → BitVec 64) (rr : Nat → BitVec 8) (n al : Value) (j : Nat) {k : Nat} (hj : j < 139) (hk : 8 ≤ k) : hrow kd (fun i => if i < k then C i else hh i) rr n al j = hrow kd C rr n al j :=
  hrow_congr _ _ _ _ _ _ _ _ (fun i hi => if_pos (by omega)) (fun _ _ => rfl)
theorem words_of (kd : Value) (hh : Nat → BitVec 64) (rr : Nat → BitVec 8) (n al : Value) (j : Nat) (hj : j < 8) : hrow kd hh rr n al (1 + j) = U64 (hh j) := by
  unfold hrow
  rw [if_neg (by omega), if_pos (by omega), show 1 + j - 1 = j from by omega]
theorem new_row (kd : Value) (g : Nat → Value) (hh0 hh : Nat → BitVec 64) (rr : Nat → BitVec 8) (n al : Value) (j : Nat) (h : ∀ i, i < 8 → g i = U64 (hh i)) : (if 1 ≤ j ∧ j < 1 + 8 then g (j - 1) else hrow kd hh0 rr n al j) = hrow kd hh rr n al j := by
  by_cases e : 1 ≤ j ∧ j < 1 + 8
  · rw [if_pos e, h _ (by omega)]
    unfold hrow
    rw [if_neg (by omega), if_pos (by omega)]
  · rw [if_neg e]
    unfold hrow
    by_cases e1 : j < 1
    · rw [if_pos e1, if_pos e1]
    rw [if_neg e1, if_neg e1, if_neg (by omega : ¬ j < 9), if_neg (by omega : ¬ j < 9)]
/-- a stretch of the bytes kept, written anew -/
theorem rest_row (kd : Value) (hh : Nat → BitVec 64) (rr : Nat → BitVec 8) (n al : Value) (a k : Nat) (s : List (BitVec 8)) (j : Nat) (ha : a + k ≤ 128) :
    (if 9 + a ≤ j ∧ j < 9 + a + k then U8 (gb s (j - (9 + a))) else hrow kd hh rr n al j) = hrow kd hh (fun i => if a ≤ i ∧ i < a + k then gb s (i - a) else rr i) n al j := by
  unfold hrow
  by_cases e1 : j < 1
  · rw [if_pos e1, if_pos e1, if_neg (by omega)]
  rw [if_neg e1, if_neg e1]
  by_cases e2 : j < 9
  · rw [if_pos e2, if_pos e2, if_neg (by omega)]
  rw [if_neg e2, if_neg e2]
  by_cases e3 : j < 137
  · rw [if_pos e3, if_pos e3]
    by_cases e4 : 9 + a ≤ j ∧ j < 9 + a + k
    · rw [if_pos e4, show j - (9 + a) = j - 9 - a from by omega]
      exact congrArg U8 (if_pos (by omega)).symm
    · rw [if_neg e4]
      exact congrArg U8 (if_neg (by omega)).symm
  rw [if_neg e3, if_neg e3, if_neg (by omega : ¬ (9 + a ≤ j ∧ j < 9 + a + k))]
theorem num_row (kd : Value) (hh : Nat → BitVec 64) (rr : Nat → BitVec 8) (n n' n'' al : Value) (j : Nat) (hn : n' = n'') : (if j = 137 then n' else hrow kd hh rr n al j) = hrow kd hh rr n'' al j := by
  subst hn
  unfold hrow
  by_cases e : j = 137
  · subst e; simp
  rw [if_neg e]
  by_cases e3 : j < 137
  · simp [e3]
  rw [if_neg (by omega), if_neg (by omega), if_neg (by omega), if_neg (by omega), if_neg (by omega), if_neg (by omega), if_neg (by omega), if_neg (by omega)]
theorem all_row (kd : Value) (hh : Nat → BitVec 64) (rr : Nat → BitVec 8) (n al al' : Value) (j : Nat) (hj : j < 139) : (if j = 138 then al' else hrow kd hh rr n al j) = hrow kd hh rr n al' j := by
  unfold hrow
  by_cases e : j = 138
  · subst e; simp
  rw [if_neg e]
  by_cases e3 : j < 137
  · simp [e3]
  rw [if_neg (by omega), if_neg (by omega), if_neg (by omega), if_pos (by omega), if_neg (by omega), if_neg (by omega), if_neg (by omega), if_pos (by omega)]
theorem eight_row32 (rr : Nat → BitVec 8) (g : Nat → BitVec 32) (i j : Nat) (hj : j < 8) :
    (if j < 1 then U32 (((((v32 rr g i 7 + d32 (v32 rr g i 4)) + (v32 rr g i 6 ^^^ (v32 rr g i 4 &&& (v32 rr g i 5 ^^^ v32 rr g i 6)))) + k32 i) + w32 rr i) + (c32 (v32 rr g i 0) + ((v32 rr g i 0 &&& v32 rr g i 1) ||| (v32 rr g i 2 &&& (v32 rr g i 0 ||| v32 rr g i 1)))))
     else if j < 2 then U32 (v32 rr g i 0) else if j < 3 then U32 (v32 rr g i 1) else if j < 4 then U32 (v32 rr g i 2)
     else if j < 5 then U32 (v32 rr g i 3 + ((((v32 rr g i 7 + d32 (v32 rr g i 4)) + (v32 rr g i 6 ^^^ (v32 rr g i 4 &&& (v32 rr g i 5 ^^^ v32 rr g i 6)))) + k32 i) + w32 rr i))
     else if j < 6 then U32 (v32 rr g i 4) else if j < 7 then U32 (v32 rr g i 5) else U32 (v32 rr g i 6)) = U32 (v32 rr g (i + 1) j) := by
  have : j = 0 ∨ j = 1 ∨ j = 2 ∨ j = 3 ∨ j = 4 ∨ j = 5 ∨ j = 6 ∨ j = 7 := by omega
  rcases this with h | h | h | h | h | h | h | h <;> subst h <;> rfl
theorem eight_row64 (rr : Nat → BitVec 8) (g : Nat → BitVec 64) (i j : Nat) (hj : j < 8) :
    (if j < 1 then U64 (((((vs false rr g i 7 + d64 (vs false rr g i 4)) + (vs false rr g i 6 ^^^ (vs false rr g i 4 &&& (vs false rr g i 5 ^^^ vs false rr g i 6)))) + K false i) + w false rr i) + (c64 (vs false rr g i 0) + ((vs false rr g i 0 &&& vs false rr g i 1) ||| (vs false rr g i 2 &&& (vs false rr g i 0 ||| vs false rr g i 1)))))
     else if j < 2 then U64 (vs false rr g i 0) else if j < 3 then U64 (vs false rr g i 1) else if j < 4 then U64 (vs false rr g i 2)
     else if j < 5 then U64 (vs false rr g i 3 + ((((vs false rr g i 7 + d64 (vs false rr g i 4)) + (vs false rr g i 6 ^^^ (vs false rr g i 4 &&& (vs false rr g i 5 ^^^ vs false rr g i 6)))) + K false i) + w false rr i))
     else if j < 6 then U64 (vs false rr g i 4) else if j < 7 then U64 (vs false rr g i 5) else U64 (vs false rr g i 6)) = U64 (vs false rr g (i + 1) j) := by
  rw [vs64]
  have : j = 0 ∨ j = 1 ∨ j = 2 ∨ j = 3 ∨ j = 4 ∨ j = 5 ∨ j = 6 ∨ j = 7 := by omega
  rcases this with h | h | h | h | h | h | h | h <;> subst h <;> rfl
theorem bytes_init (rr : Nat → BitVec 8) (k j : Nat) : (if j < k then U64 (w false rr j) else U64 0#64) = (if j < k then U64 (w false rr j) else if j = k then U64 (bw (fun i => rr (8 * k + i)) 0) else U64 0#64) := by
  by_cases e : j < k
  · rw [if_pos e, if_pos e]
  · rw [if_neg e, if_neg e]
    by_cases e2 : j = k
    · rw [if_pos e2]; rfl
    · rw [if_neg e2]
theorem bytes_step (rr : Nat → BitVec 8) (k q j : Nat) : (if j = k then U64 (bw (fun i => rr (8 * k + i)) q <<< 8 ||| (rr (8 * k + q)).setWidth 64) else (if j < k then U64 (w false rr j) else if j = k then U64 (bw (fun i => rr (8 * k + i)) q) else U64 0#64)) =
    (if j < k then U64 (w false rr j) else if j = k then U64 (bw (fun i => rr (8 * k + i)) (q + 1)) else U64 0#64) := by
  by_cases e2 : j = k
  · rw [if_pos e2, if_neg (by omega), if_pos e2, bw_succ]
  · rw [if_neg e2, if_neg e2, if_neg e2]
theorem bytes_done (rr : Nat → BitVec 8) (k j : Nat) {q : Nat} (hk : k < 16) (hq : q = 8) : (if j < k then U64 (w false rr j) else if j = k then U64 (bw (fun i => rr (8 * k + i)) q) else U64 0#64) = (if j < k + 1 then U64 (w false rr j) else U64 0#64) := by
  subst hq
  by_cases e2 : j = k
  · subst e2
    rw [if_neg (by omega), if_pos rfl, if_pos (by omega), w_eq]
    unfold wstep
    rw [if_pos hk]; rfl
  · by_cases e : j < k
    · rw [if_pos e, if_pos (by omega)]
    · rw [if_neg e, if_neg e2, if_neg (by omega)]
/-! ### put -/
theorem put_init (kind B : Nat) (hB : bs kind = B) (m s : List (BitVec 8)) : st kind (gb m) (m.length / B) = st kind (gb (m ++ s)) ((m.length + 0) / B) := by
  refine st_congr kind _ _ _ (fun j hj => ?_)
  rw [hB] at hj
  have := Nat.mul_div_le m.length B
  rw [gb_append, if_pos (by omega)]
theorem put_kept (B c n k : Nat) (m s : List (BitVec 8)) (r : Nat → BitVec 8) (hn : n = (m.length + c) % B) (hr : ∀ j, j < n → r j = gb (m ++ s) (B * ((m.length + c) / B) + j)) :
    ∀ j, j < n + k → (if n ≤ j ∧ j < n + k then gb (s.drop c) (j - n) else r j) = gb (m ++ s) (B * ((m.length + c) / B) + j) := by
  intro j hj
  have hd := Nat.div_add_mod (m.length + c) B
  by_cases e : n ≤ j ∧ j < n + k
  · rw [if_pos e, gb_drop, gb_append, if_neg (by omega), show B * ((m.length + c) / B) + j - m.length = c + (j - n) from by omega]
  · rw [if_neg e]
    exact hr j (by omega)
theorem put_next (kind B c n k t : Nat) (hB : bs kind = B) (m s : List (BitVec 8)) (r : Nat → BitVec 8) (hn : n = (m.length + c) % B) (hr : ∀ j, j < n → r j = gb (m ++ s) (B * ((m.length + c) / B) + j)) (hk : n + k = B) (ht : t = (m.length + c) / B + 1) :
    comp (sm kind) (fun i => if n ≤ i ∧ i < n + k then gb (s.drop c) (i - n) else r i) (st kind (gb (m ++ s)) ((m.length + c) / B)) = st kind (gb (m ++ s)) t := by
  subst ht
  refine st_next kind _ _ _ (fun j hj => ?_)
  rw [hB] at hj ⊢
  exact put_kept B c n k m s r hn hr j (by omega)
/-! ### what is filled up, and the digest -/
theorem len_byte (n i : Nat) (hi : i < 8) : ((BitVec.ofNat 64 n <<< 3) >>> (8 * i)).setWidth 8 = gb (Oct.be (BitVec.ofNat 64 (8 * n)) 8) (7 - i) := by
  rw [Oct.gb_be _ _ _ (by omega), show 8 * (8 - 1 - (7 - i)) = 8 * i from by omega]
  congr 2
  apply BitVec.eq_of_toNat_eq
  rw [BitVec.toNat_shiftLeft, BitVec.toNat_ofNat, BitVec.toNat_ofNat, Nat.shiftLeft_eq]
  omega
theorem pad_row (kind n L j : Nat) (hL : L = padl kind n) (hj : j < L) :
    (if L ≤ j + 8 then U8 (gb (Oct.be (BitVec.ofNat 64 (8 * n)) 8) (j - (L - 8))) else if j = 0 then U8 128#8 else U8 0#8) = U8 (gb (pad kind n) j) := by
  subst hL
  have := (padl_le kind n).1
  rw [gb_pad _ _ _ hj]
  unfold pb
  by_cases e : padl kind n ≤ j + 8
  · rw [if_pos e, if_neg (by omega), if_neg (by omega)]
  · rw [if_neg e]
    by_cases e2 : j = 0
    · rw [if_pos e2, if_pos e2]
    · rw [if_neg e2, if_neg e2, if_pos (by omega)]
theorem top_byte (n : Nat) (h : n < 2 ^ 61) : ((BitVec.ofNat 64 n) >>> 61).setWidth 8 = 0#8 := by
  apply BitVec.eq_of_toNat_eq
  rw [BitVec.toNat_setWidth, BitVec.toNat_ushiftRight, BitVec.toNat_ofNat, Nat.shiftRight_eq_div_pow, Nat.div_eq_of_lt (by omega)]
  rfl
theorem pad_row2 (kind n L j : Nat) (x : BitVec 8) (hx : x = 0#8) (hL : L = padl kind n) (h128 : 17 ≤ L) (hj : j < L) :
    (if j = L - 9 then U8 x else if L ≤ j + 8 then U8 (gb (Oct.be (BitVec.ofNat 64 (8 * n)) 8) (j - (L - 8))) else if j = 0 then U8 128#8 else U8 0#8) = U8 (gb (pad kind n) j) := by
  rw [← pad_row kind n L j hL hj]
  by_cases e : j = L - 9
  · rw [if_pos e, if_neg (by omega), if_neg (by omega), hx]
  · rw [if_neg e]
theorem gb_sum (kind : Nat) (m : List (BitVec 8)) (j : Nat) (h : j < ol kind) : gb (sum kind m) j = (st kind (gb (full kind m)) (nb kind m) (j / wb (sm kind)) >>> (8 * (wb (sm kind) - 1 - j % wb (sm kind)))).setWidth 8 := gb_map _ _ _ h
theorem padl_eq (kind B n : Nat) (hB : bs kind = B) : padl kind n = (2 * B - B / 8 - 1 - n % B) % B + 1 + B / 8 := by subst hB; rfl
/-- a hash of kind 'kind' at block h that took m -/
def At (w : World) (h kind : Nat) (m : List (BitVec 8)) : Prop :=
  ∃ rr : Nat → BitVec 8, (∀ j, j < m.length % bs kind → rr j = gb m (bs kind * (m.length / bs kind) + j)) ∧
    Row w h 139 139 (hrow (.int .i64 (kind : Int)) (st kind (gb m) (m.length / bs kind)) rr (.int .i64 ((m.length % bs kind : Nat) : Int)) (U64 (BitVec.ofNat 64 m.length)))
namespace At
variable {w w' : World} {h kind : Nat} {m : List (BitVec 8)}
theorem lt (a : At w h kind m) : h < w.heap.size := by obtain ⟨rr, _, r⟩ := a; exact r.lt
theorem below (a : At w h kind m) (hb : Below w.heap.size w w') : At w' h kind m := by obtain ⟨rr, e, r⟩ := a; exact ⟨rr, e, r.step hb⟩
theorem grownO {g : Option Nat} (a : At w h kind m) (hg : w.grownBy w' g) (hne : g ≠ some h) : At w' h kind m := by obtain ⟨rr, e, r⟩ := a; exact ⟨rr, e, r.stepO hg hne⟩
theorem grown {g : Nat} (a : At w h kind m) (hg : w.grownBy w' (some g)) (hne : g ≠ h) : At w' h kind m := a.grownO hg (fun e => hne (Option.some.inj e))
theorem of (K B n : Nat) (hB : bs K = B) (x : List (BitVec 8)) (hn : x.length = n) (rr : Nat → BitVec 8) (hr : ∀ j, j < n % B → rr j = gb x (B * (n / B) + j))
    (r : Row w h 139 139 (hrow (.int .i64 (K : Int)) (st K (gb x) (n / B)) rr (.int .i64 ((n % B : Nat) : Int)) (U64 (BitVec.ofNat 64 n)))) : At w h K x := by
  subst hn; subst hB; exact ⟨rr, hr, r⟩
end At
end Sha
end Go.Proofs.YtdmbfimjbmfbaaaGreatDoor
