/-
  Keys wrapped by keys, plainly. Conditions as each says.
-/
import Derived.Test.YtdmbfimjbmfbaaaGreatOct
import Derived.Test.YtdmbfimjbmfbaaaGreatAesBackPlain
import Derived.Test.YtdmbfimjbmfbaaaGreatAesNew
import Derived.Test.YtdmbfimjbmfbaaaGreatLiftPair
namespace Go.Proofs.YtdmbfimjbmfbaaaGreat
namespace Aes
theorem enc_len (key s : List (BitVec 8)) (hk : okKey key.length) : (enc (words key) s).length = 16 := by
  obtain ⟨R, h1, h2, _⟩ := words_len key hk
  exact length_enc _ _ R h1 h2
theorem dec_enc' (key s : List (BitVec 8)) (hk : okKey key.length) (hs : s.length = 16) : dec (words key) (enc (words key) s) = s := by
  obtain ⟨R, h1, h2, _⟩ := words_len key hk
  exact dec_enc _ R h1 h2 s hs
end Aes
namespace Wr
def iv : List (BitVec 8) := [166#8, 166#8, 166#8, 166#8, 166#8, 166#8, 166#8, 166#8]
def no (t : Nat) : List (BitVec 8) := Oct.be (BitVec.ofNat 64 t) 8
/-- the value and the halves behind t steps -/
def A (key text : List (BitVec 8)) : Nat → List (BitVec 8) × List (BitVec 8)
  | 0 => (iv, text)
  | t + 1 => (Oct.xor ((Aes.enc (Aes.words key) ((A key text t).1 ++ (A key text t).2.take 8)).take 8) (no (t + 1)), (A key text t).2.drop 8 ++ (Aes.enc (Aes.words key) ((A key text t).1 ++ (A key text t).2.take 8)).drop 8)
def a (key text : List (BitVec 8)) (t : Nat) : List (BitVec 8) := (A key text t).1
def q (key text : List (BitVec 8)) (t : Nat) : List (BitVec 8) := (A key text t).2
theorem a_succ (key text : List (BitVec 8)) (t : Nat) : a key text (t + 1) = Oct.xor ((Aes.enc (Aes.words key) (a key text t ++ (q key text t).take 8)).take 8) (no (t + 1)) := rfl
theorem q_succ (key text : List (BitVec 8)) (t : Nat) : q key text (t + 1) = (q key text t).drop 8 ++ (Aes.enc (Aes.words key) (a key text t ++ (q key text t).take 8)).drop 8 := rfl
theorem len_no (t : Nat) : (no t).length = 8 := Oct.length_be _ _
theorem len_a (key text : List (BitVec 8)) (hk : Aes.okKey key.length) (t : Nat) : (a key text t).length = 8 := by
  cases t with
  | zero => rfl
  | succ t => rw [a_succ, Oct.length_xor, List.length_take, Aes.enc_len _ _ hk, len_no]; rfl
theorem len_q (key text : List (BitVec 8)) (hk : Aes.okKey key.length) (h8 : 8 ≤ text.length) (t : Nat) : (q key text t).length = text.length := by
  induction t with
  | zero => rfl
  | succ t ih => rw [q_succ, List.length_append, List.length_drop, List.length_drop, Aes.enc_len _ _ hk, ih]; omega
/-! the way back -/
/-- the value and the halves when u steps are taken back, of T -/
def B (key v r : List (BitVec 8)) (T : Nat) : Nat → List (BitVec 8) × List (BitVec 8)
  | 0 => (v, r)
  | u + 1 => ((Aes.dec (Aes.words key) (Oct.xor (B key v r T u).1 (no (T - u)) ++ (B key v r T u).2.drop ((B key v r T u).2.length - 8))).take 8,
      (Aes.dec (Aes.words key) (Oct.xor (B key v r T u).1 (no (T - u)) ++ (B key v r T u).2.drop ((B key v r T u).2.length - 8))).drop 8 ++ (B key v r T u).2.take ((B key v r T u).2.length - 8))
def b (key v r : List (BitVec 8)) (T u : Nat) : List (BitVec 8) := (B key v r T u).1
def c (key v r : List (BitVec 8)) (T u : Nat) : List (BitVec 8) := (B key v r T u).2
theorem b_succ (key v r : List (BitVec 8)) (T u : Nat) : b key v r T (u + 1) = (Aes.dec (Aes.words key) (Oct.xor (b key v r T u) (no (T - u)) ++ (c key v r T u).drop ((c key v r T u).length - 8))).take 8 := rfl
theorem c_succ (key v r : List (BitVec 8)) (T u : Nat) : c key v r T (u + 1) = (Aes.dec (Aes.words key) (Oct.xor (b key v r T u) (no (T - u)) ++ (c key v r T u).drop ((c key v r T u).length - 8))).drop 8 ++ (c key v r T u).take ((c key v r T u).length - 8) := rfl
/-- what was wrapped is unwrapped -/
theorem back (key text : List (BitVec 8)) (hk : Aes.okKey key.length) (h8 : 8 ≤ text.length) (T : Nat) : ∀ u, u ≤ T → b key (a key text T) (q key text T) T u = a key text (T - u) ∧ c key (a key text T) (q key text T) T u = q key text (T - u) := by
  intro u
  induction u with
  | zero => intro _; exact ⟨rfl, rfl⟩
  | succ u ih =>
    intro hu
    obtain ⟨h1, h2⟩ := ih (by omega)
    obtain ⟨t, ht⟩ : ∃ t, T - u = t + 1 := ⟨T - u - 1, by omega⟩
    have ht' : T - (u + 1) = t := by omega
    have la := len_a key text hk t
    have lq := len_q key text hk h8
    have le := Aes.enc_len key (a key text t ++ (q key text t).take 8) hk
    rw [b_succ, c_succ, h1, h2, ht, ht', lq]
    have e1 : Oct.xor (a key text (t + 1)) (no (t + 1)) = (Aes.enc (Aes.words key) (a key text t ++ (q key text t).take 8)).take 8 := by
      rw [a_succ]
      exact Oct.xor_xor _ _ (by rw [List.length_take, len_no]; omega)
    have e2 : (q key text (t + 1)).drop (text.length - 8) = (Aes.enc (Aes.words key) (a key text t ++ (q key text t).take 8)).drop 8 := by
      rw [q_succ, List.drop_append, List.length_drop, lq, Nat.sub_self, List.drop_zero, List.drop_eq_nil_of_le (by rw [List.length_drop, lq]; exact Nat.le_refl _), List.nil_append]
    have e3 : (q key text (t + 1)).take (text.length - 8) = (q key text t).drop 8 := by
      rw [q_succ, List.take_append_of_le_length (by rw [List.length_drop, lq]; exact Nat.le_refl _), List.take_of_length_le (by rw [List.length_drop, lq]; exact Nat.le_refl _)]
    rw [e1, e2, e3, List.take_append_drop, Aes.dec_enc' key _ hk (by rw [List.length_append, List.length_take, la, lq]; omega)]
    constructor
    · rw [List.take_append_of_le_length (by omega), List.take_of_length_le (by omega)]
    · rw [List.drop_append, la, Nat.sub_self, List.drop_zero, List.drop_eq_nil_of_le (by omega), List.nil_append, List.take_append_drop]
def wk : List (BitVec 8) := [0#8, 1#8, 2#8, 3#8, 4#8, 5#8, 6#8, 7#8, 8#8, 9#8, 10#8, 11#8, 12#8, 13#8, 14#8, 15#8]
def wt : List (BitVec 8) := [0#8, 17#8, 34#8, 51#8, 68#8, 85#8, 102#8, 119#8, 136#8, 153#8, 170#8, 187#8, 204#8, 221#8, 238#8, 255#8]
def wo : List (BitVec 8) := [31#8, 166#8, 139#8, 10#8, 129#8, 18#8, 180#8, 71#8]
end Wr
end Go.Proofs.YtdmbfimjbmfbaaaGreat
