/-
  Keys wrapped by keys, plainly. Conditions as each says. Steps of a walk, part 8: a value put into an interface, a method called through it. Conditions as each says. Structs of texts, numbers and bytes as arguments. No conditions.
-/
import Derived.Test.YtdmbfimjbmfbaaaGreatDoorOct
import Derived.Test.YtdmbfimjbmfbaaaGreatDoorAesBackPlain
import Derived.Test.YtdmbfimjbmfbaaaGreatDoorAesExpand
import Derived.Test.YtdmbfimjbmfbaaaGreatDoorGenMore
import Derived.Test.YtdmbfimjbmfbaaaGreatDoorGenSh
import Derived.ChangeArms
import Derived.ProofKit
namespace Go.Proofs.YtdmbfimjbmfbaaaGreatDoor
namespace Aes
theorem enc_len (key s : List (BitVec 8)) (hk : okKey key.length) : (enc (words key) s).length = 16 := by
  obtain ⟨R, h1, h2, _⟩ := words_len key hk
  exact length_enc _ _ R h1 h2
theorem dec_enc' (key s : List (BitVec 8)) (hk : okKey key.length) (hs : s.length = 16) : dec (words key) (enc (words key) s) = s := by
  obtain ⟨R, h1, h2, _⟩ := words_len key hk
  exact dec_enc _ R h1 h2 s hs
end Aes
namespace Wr
def iv : List (BitVec 8) := [166#8, 166#8, 166#8, 166#8, 166#8, 166#8, 166#8, 166#8]
def no (t : Nat) : List (BitVec 8) := Oct.be (BitVec.ofNat 64 t) 8
/-- the value and the halves behind t steps -/
def A (key text : List (BitVec 8)) : Nat → List (BitVec 8) × List (BitVec 8)
  | 0 => (iv, text)
  | t + 1 => (Oct.xor ((Aes.enc (Aes.words key) ((A key text t).1 ++ (A key text t).2.take 8)).take 8) (no (t + 1)), (A key text t).2.drop 8 ++ (Aes.enc (Aes.words key) ((A key text t).1 ++ (A key text t).2.take 8)).drop 8)
def a (key text : List (BitVec 8)) (t : Nat) : List (BitVec 8) := (A key text t).1
def q (key text : List (BitVec 8)) (t : Nat) : List (BitVec 8) := (A key text t).2
theorem a_succ (key text : List (BitVec 8)) (t : Nat) : a key text (t + 1) = Oct.xor ((Aes.enc (Aes.words key) (a key text t ++ (q key text t).take 8)).take 8) (no (t + 1)) := rfl
theorem q_succ (key text : List (BitVec 8)) (t : Nat) : q key text (t + 1) = (q key text t).drop 8 ++ (Aes.enc (Aes.words key) (a key text t ++ (q key text t).take 8)).drop 8 := rfl
theorem len_no (t : Nat) : (no t).length = 8 := Oct.length_be _ _
theorem len_a (key text : List (BitVec 8)) (hk : Aes.okKey key.length) (t : Nat) : (a key text t).length = 8 := by
  cases t with
  | zero => rfl
  | succ t => rw [a_succ, Oct.length_xor, List.length_take, Aes.enc_len _ _ hk, len_no]; rfl
theorem len_q (key text : List (BitVec 8)) (hk : Aes.okKey key.length) (h8 : 8 ≤ text.length) (t : Nat) : (q key text t).length = text.length := by
  induction t with
  | zero => rfl
  | succ t ih => rw [q_succ, List.length_append, List.length_drop, List.length_drop, Aes.enc_len _ _ hk, ih]; omega
/-! the way back -/
/-- the value and the halves when u steps are taken back, of T -/
def B (key v r : List (BitVec 8)) (T : Nat) : Nat → List (BitVec 8) × List (BitVec 8)
  | 0 => (v, r)
  | u + 1 => ((Aes.dec (Aes.words key) (Oct.xor (B key v r T u).1 (no (T - u)) ++ (B key v r T u).2.drop ((B key v r T u).2.length - 8))).take 8,
      (Aes.dec (Aes.words key) (Oct.xor (B key v r T u).1 (no (T - u)) ++ (B key v r T u).2.drop ((B key v r T u).2.length - 8))).drop 8 ++ (B key v r T u).2.take ((B key v r T u).2.length - 8))
def b (key v r : List (BitVec 8)) (T u : Nat) : List (BitVec 8) := (B key v r T u).1
def c (key v r : List (BitVec 8)) (T u : Nat) : List (BitVec 8) := (B key v r T u).2
theorem b_succ (key v r : List (BitVec 8)) (T u : Nat) : b key v r T (u + 1) = (Aes.dec (Aes.words key) (Oct.xor (b key v r T u) (no (T - u)) ++ (c key v r T u).drop ((c key v r T u).length - 8))).take 8 := rfl
theorem c_succ (key v r : List (BitVec 8)) (T u : Nat) : c key v r T (u + 1) = (Aes.dec (Aes.words key) (Oct.xor (b key v r T u) (no (T - u)) ++ (c key v r T u).drop ((c key v r T u).length - 8))).drop 8 ++ (c key v r T u).take ((c key v r T u).length - 8) := rfl
/-- what was wrapped is unwrapped -/
theorem back (key text : List (BitVec 8)) (hk : Aes.okKey key.length) (h8 : 8 ≤ text.length) (T : Nat) : ∀ u, u ≤ T → b key (a key text T) (q key text T) T u = a key text (T - u) ∧ c key (a key text T) (q key text T) T u = q key text (T - u) := by
  intro u
  induction u with
  | zero => intro _; exact ⟨rfl, rfl⟩
  | succ u ih =>
    intro hu
    obtain ⟨h1, h2⟩ := ih (by omega)
    obtain ⟨t, ht⟩ : ∃ t, T - u = t + 1 := ⟨T - u - 1, by omega⟩
    have ht' : T - (u + 1) = t := by omega
    have la := len_a key text hk t
    have lq := len_q key text hk h8
    have le := Aes.enc_len key (a key text t ++ (q key text t).take 8) hk
    rw [b_succ, c_succ, h1, h2, ht, ht', lq]
    have e1 : Oct.xor (a key text (t + 1)) (no (t + 1)) = (Aes.enc (Aes.words key) (a key text t ++ (q key text t).take 8)).take 8 := by
      rw [a_succ]
      exact Oct.xor_xor _ _ (by rw [List.length_take, len_no]; omega)
    have e2 : (q key text (t + 1)).drop (text.length - 8) = (Aes.enc (Aes.words key) (a key text t ++ (q key text t).take 8)).drop 8 := by
      rw [q_succ, List.drop_append, List.length_drop, lq, Nat.sub_self, List.drop_zero, List.drop_eq_nil_of_le (by rw [List.length_drop, lq]; exact Nat.le_refl _), List.nil_append]
    have e3 : (q key text (t + 1)).take (text.length - 8) = (q key text t).drop 8 := by
      rw [q_succ, List.take_append_of_le_length (by rw [List.length_drop, lq]; exact Nat.le_refl _), List.take_of_length_le (by rw [List.length_drop, lq]; exact Nat.le_refl _)]
    rw [e1, e2, e3, List.take_append_drop, Aes.dec_enc' key _ hk (by rw [List.length_append, List.length_take, la, lq]; omega)]
    constructor
    · rw [List.take_append_of_le_length (by omega), List.take_of_length_le (by omega)]
    · rw [List.drop_append, la, Nat.sub_self, List.drop_zero, List.drop_eq_nil_of_le (by omega), List.nil_append, List.take_append_drop]
def wk : List (BitVec 8) := [0#8, 1#8, 2#8, 3#8, 4#8, 5#8, 6#8, 7#8, 8#8, 9#8, 10#8, 11#8, 12#8, 13#8, 14#8, 15#8]
def wt : List (BitVec 8) := [0#8, 17#8, 34#8, 51#8, 68#8, 85#8, 102#8, 119#8, 136#8, 153#8, 170#8, 187#8, 204#8, 221#8, 238#8, 255#8]
def wo : List (BitVec 8) := [31#8, 166#8, 139#8, 10#8, 129#8, 18#8, 180#8, 71#8]
end Wr
end Go.Proofs.YtdmbfimjbmfbaaaGreatDoor
namespace Go.Proofs.YtdmbfimjbmfbaaaGreatDoor
open Go.RowKit
set_option linter.unusedSimpArgs false
set_option linter.unusedVariables false
section
variable {P : Program} {ops : Array Oper} {Q : Exit → Act → World → Prop} {w w' : World} {rest : List Oper} {n : Nat} {f : Nat → Value} {ty : TypeId} {x z : Operand}
theorem w_inv {d : Nat} {p : String} {aft : Array Edge} {u : TypeId} {v rv : Value} {name : String} {k : FuncId} {fn : Func} {c : Code} {args : Array Operand} {tys : Array TypeId} {vs all : Array Value} {R : Ending → World → Prop} (hz : Ev n f z (.iface u v)) (hm : ∀ w, (method (P.types.size + Made.depth) u v name).run P w = .ok (k, rv) w)
    (hf : P.funcs[k]? = some fn) (hname : (fn.name == "runtime.NumGoroutine") = false) (hb : fn.body = some c)
    (ha : args.map (fr n f).eval = vs) (hall : #[rv] ++ vs = all) (hc : Calls P k all w R) (h : ∀ e w', R e w' → ∃ v, e = .returned v ∧ wpList P ops Q rest (fr n (up f d v)) w') : wpList P ops Q (⟨some d, .call ⟨.invoke z name, args, tys⟩, ty, p, aft, none⟩ :: rest) (fr n f) w :=
  wpList_plain rfl fun K hK => by
    subst hall
    have hz' : (fr n f).eval z = .iface u v := hz
    unfold Oper.wp
    have e1 : (execOp (fr n f).eval ⟨some d, .call ⟨.invoke z name, args, tys⟩, ty, p, aft, none⟩).run P w = .ok (.enter k (#[rv] ++ vs)) w := by
      have e0 : (#[Value.iface u v] ++ vs)[0]? = some (.iface u v) := by rw [Array.getElem?_append_left (by exact Nat.zero_lt_one)]; rfl
      have e2 : (#[Value.iface u v] ++ vs).extract 1 (#[Value.iface u v] ++ vs).size = vs := by
        obtain ⟨l⟩ := vs
        simp
      have e3 : (invoke (.fn (.method name) #[]) (#[Value.iface u v] ++ vs)).run P w = .ok (.enter k (#[rv] ++ vs)) w := by
        unfold invoke
        rw [e0]
        simp only [e2, callMethod, Sem.run_bind, run_program, Result.andThen_ok, hm w]
        exact MuLone.run_callFunc_enter hf hname hb _ _
      have e4 : (resolve (fr n f).eval ⟨.invoke z name, args, tys⟩ ty).run P w = .ok { target := .fn (.method name) #[], args := #[Value.iface u v] ++ vs } w := by
        unfold resolve
        simp only [ha, hz', Sem.run_pure]
      show ((resolve (fr n f).eval ⟨.invoke z name, args, tys⟩ ty).bind fun d => invoke d.target d.args).run P w = _
      exact (Sem.run_bind _ _ _ _).trans (by rw [e4]; exact e3)
    rw [e1]
    simp only [Oper.upon]
    refine hc.mono fun e w' he => ?_
    obtain ⟨v, rfl, h'⟩ := h e w' he
    show K ((fr n f).put (some d) v) w'
    rw [fr_put]
    exact hK _ _ h'
theorem y_mkif {u : TypeId} {v : Value} (h : Ev n f x v) (hc : P.concrete u = true := by kernel_rfl) : Yields P n f (.makeInterface u x) ty w (.iface u v) := by
  have h' : (fr n f).eval x = v := h
  unfold Yields execOp
  simp only [h']
  rw [Sem.run_bind, run_makeInterface w u v hc]
  rfl
end
end Go.Proofs.YtdmbfimjbmfbaaaGreatDoor
namespace Go.Proofs.YtdmbfimjbmfbaaaGreatDoor
open Go.RowKit Go.WideShapes Go.ChangeShapes
theorem sized_at {H : Type} {P : Program} {ts : List TypeId} {ds : List (DataW H)} (h : (DataW.weightsEach P ts ds).all (· ≤ reachBytes) = true) {j n : Nat} {t : TypeId} {d : DataW H} (ht : ts[j]? = some t) (hd : ds[j]? = some d) (hn : n ∈ d.weights P t) : n ≤ reachBytes := by
  have := List.all_eq_true.1 h n (DataW.weights_mem_each ht hd n hn)
  simpa using this
section
variable {H : Type} {enc : TypeId × Value → H} {P : Program} {w : World} {base : Nat} {sp : Nat → Bool} {held : Bool}
theorem open_isss {t : TypeId} {f0 f1 f2 f3 : Field} {v : Value} {d : DataW H} {ps : List MemPlace} (he : P.underlying t = some (.struct #[f0, f1, f2, f3])) (ce : P.cellsOf t = 4) (ho : f0.offset = 0 ∧ f1.offset = 1 ∧ f2.offset = 2 ∧ f3.offset = 3) (hc : P.cellsOf f0.type = 1 ∧ P.cellsOf f1.type = 1 ∧ P.cellsOf f2.type = 1 ∧ P.cellsOf f3.type = 1)
    (u0 : P.underlying f0.type = some (.int .i64)) (u1 : P.underlying f1.type = some .string) (u2 : P.underlying f2.type = some .string) (u3 : P.underlying f3.type = some .string) (hd : DataW.Trod enc P w base sp held t v d ps) :
    ∃ (a0 : Int) (a1 : ByteArray) (a2 : ByteArray) (a3 : ByteArray), v = .agg #[.int .i64 a0, .string a1, .string a2, .string a3] ∧ d = .agg [.lit (.int .i64 a0), .lit (.string a1.data.toList), .lit (.string a2.data.toList), .lit (.string a3.data.toList)] ∧ ps = [] ∧ a1.data.toList.length ∈ d.weights P t ∧ a2.data.toList.length ∈ d.weights P t ∧ a3.data.toList.length ∈ d.weights P t ∧ (Lit.int .i64 a0).wf = true := by
  obtain ⟨fuel, hf⟩ := hd
  obtain ⟨xs, k, _, hx, hl, hxl, hfs⟩ := DataW.trod_struct he hf
  rw [ce] at hl
  obtain ⟨o0, o1, o2, o3⟩ := ho
  obtain ⟨c0, c1, c2, c3⟩ := hc
  obtain ⟨cs, hcs⟩ : ∃ cs, v.cells.toList = cs := ⟨_, rfl⟩
  rw [hcs] at hl hfs
  match xs, hxl, cs, hl with
  | [y0, y1, y2, y3], _, [v0, v1, v2, v3], _ =>
    have g0 := hfs 0 f0 rfl
    have g1 := hfs 1 f1 rfl
    have g2 := hfs 2 f2 rfl
    have g3 := hfs 3 f3 rfl
    simp [o0, o1, o2, o3, c0, c1, c2, c3] at g0 g1 g2 g3
    obtain ⟨a0, e0, q0, z0⟩ := DataW.trod_int u0 g0
    obtain ⟨a1, e1, q1, z1⟩ := DataW.trod_string u1 g1
    obtain ⟨a2, e2, q2, z2⟩ := DataW.trod_string u2 g2
    obtain ⟨a3, e3, q3, z3⟩ := DataW.trod_string u3 g3
    simp only [List.cons.injEq, and_true] at e0 e1 e2 e3
    subst e0 e1 e2 e3 q0 q1 q2 q3
    simp only [Prod.mk.injEq] at hx
    obtain ⟨hx1, hx2⟩ := hx
    subst hx1
    refine ⟨a0, a1, a2, a3, ?_, rfl, hx2, by simp [DataW.weights, DataW.weightsEach, he], by simp [DataW.weights, DataW.weightsEach, he], by simp [DataW.weights, DataW.weightsEach, he], z0⟩
    cases v with
    | agg a =>
      have ha : a.toList = [.int .i64 a0, .string a1, .string a2, .string a3] := hcs
      rw [show a = #[.int .i64 a0, .string a1, .string a2, .string a3] from by rw [← Array.toList_inj, ha]]
    | _ => simp [Value.cells] at hcs
end
end Go.Proofs.YtdmbfimjbmfbaaaGreatDoor
