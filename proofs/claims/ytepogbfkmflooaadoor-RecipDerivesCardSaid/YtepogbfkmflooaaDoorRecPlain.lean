/-
  Keys that are locked by two chains, plainly. Conditions as each says.
-/
import Derived.Test.YtepogbfkmflooaaDoorCbcPlain
namespace Go.Proofs.YtepogbfkmflooaaDoor
open Go.RowKit
set_option linter.unusedSimpArgs false
set_option linter.unusedVariables false
namespace Rc
abbrev L8 := List (BitVec 8)
open Cb
def fl (n : Nat) : Nat := if n + 4 < 32 then 28 - n else (16 - (n + 4) % 16) % 16
theorem fl_le (n : Nat) : fl n ≤ 28 := by unfold fl; split <;> omega
def ff : L8 := [255#8, 255#8, 255#8]
def first (t : L8) : L8 := [BitVec.ofNat 8 t.length, ~~~(gb t 0), ~~~(gb t 1), ~~~(gb t 2)]
def pre (t f : L8) : L8 := (first t ++ t) ++ f
theorem pre_len (t f : L8) : (pre t f).length = 4 + t.length + f.length := by simp [pre, first]; omega
theorem pre_mod (t f : L8) (h3 : 3 ≤ t.length) (h255 : t.length ≤ 255) (hf : f.length = fl t.length) : (pre t f).length % 16 = 0 ∧ 32 ≤ (pre t f).length ∧ (pre t f).length ≤ 272 := by
  rw [pre_len, hf]; unfold fl; split <;> omega
theorem xor_ff (t : L8) (h3 : 3 ≤ t.length) : Oct.xor t ff = [~~~(gb t 0), ~~~(gb t 1), ~~~(gb t 2)] := by
  have hx : ∀ x : BitVec 8, x ^^^ 255#8 = ~~~x := fun x => BitVec.xor_allOnes
  have hl : (Oct.xor t ff).length = 3 := by rw [Oct.length_xor]; show min t.length 3 = 3; omega
  refine gb_ext hl (fun i hi => ?_)
  rw [hl] at hi
  rw [Oct.gb_xor _ _ _ (by show i < min t.length 3; omega)]
  rcases (show i = 0 ∨ i = 1 ∨ i = 2 by omega) with rfl | rfl | rfl <;> exact hx _
def tail (s : L8) : L8 := s.drop (s.length - 16)
def lock (key iv t f : L8) : L8 := chain key (tail (chain key iv (pre t f))) (chain key iv (pre t f))
/-- the block that the outer chain began with -/
def lst (key s : L8) : L8 := Oct.xor (Aes.dec (Aes.words key) (bk s (s.length / 16 - 1))) (bk s (s.length / 16 - 2))
theorem lst_len (key s : L8) (h : 32 ≤ s.length) : (lst key s).length = 16 := by
  unfold lst
  rw [Oct.length_xor, dec_len, bk_len _ _ (by omega)]; rfl
def opn (key iv s : L8) : L8 := unchain key iv (unchain key (lst key s) s)
theorem opn_len (key iv s : L8) : (opn key iv s).length = s.length := by unfold opn; rw [unchain_len, unchain_len]
theorem unchain_one (key iv s : L8) (hi : iv.length = 16) (hs : s.length = 16) : unchain key iv s = Oct.xor (Aes.dec (Aes.words key) s) iv := by
  have h0 : bk s 0 = s := by unfold bk; rw [Nat.mul_zero, List.drop_zero, List.take_of_length_le (by omega)]
  refine gb_ext (by rw [unchain_len, Oct.length_xor, dec_len, hi, hs]; rfl) (fun j hj => ?_)
  rw [unchain_len, hs] at hj
  rw [gb_unchain _ _ _ _ (by omega), show j / 16 = 0 from by omega, show j % 16 = j from by omega]
  unfold un
  rw [bk_cat _ _ _ hi, bk_cat0 _ _ hi, h0]
theorem last_eq (key s : L8) (n : Nat) (hn : s.length = n + 16) (hm : s.length % 16 = 0) (h : 32 ≤ s.length) : unchain key ((s.drop (n - 16)).take (n - (n - 16))) (s.drop n) = lst key s := by
  have e1 : (s.drop (n - 16)).take (n - (n - 16)) = bk s (s.length / 16 - 2) := by
    unfold bk
    rw [show n - (n - 16) = 16 from by omega, show 16 * (s.length / 16 - 2) = n - 16 from by omega]
  have e2 : s.drop n = bk s (s.length / 16 - 1) := by
    unfold bk
    rw [show 16 * (s.length / 16 - 1) = n from by omega, List.take_of_length_le (by rw [List.length_drop]; omega)]
  rw [unchain_one _ _ _ (by rw [e1, bk_len _ _ (by omega)]) (by rw [List.length_drop]; omega), e1, e2]
  rfl
theorem un_eq (key s : L8) (t : Nat) (hm : s.length % 16 = 0) (h : 32 ≤ s.length) (ht : 16 * t + 16 ≤ s.length) :
    un key (lst key s) s t = Oct.xor (Aes.dec (Aes.words key) (bk s t)) (if 0 < t then bk s (t - 1) else lst key s) := by
  have hl := lst_len key s h
  unfold un
  rw [bk_cat _ _ _ hl]
  cases t with
  | zero => rw [bk_cat0 _ _ hl, if_neg (by omega)]
  | succ t => rw [bk_cat _ _ _ hl, if_pos (by omega), Nat.add_sub_cancel]
theorem inner_eq (key s : L8) (n : Nat) (hn : s.length = n + 16) (hm : s.length % 16 = 0) (h : 32 ≤ s.length) : unchain key (lst key s) (s.take n) ++ lst key s = unchain key (lst key s) s := by
  have hl := lst_len key s h
  have ht : (s.take n).length = n := by rw [List.length_take]; omega
  have hb : ∀ t, 16 * t + 16 ≤ n → bk (s.take n) t = bk s t := fun t h => by
    unfold bk
    rw [List.drop_take, List.take_take, show min 16 (n - 16 * t) = 16 from by omega]
  have hlast : un key (lst key s) s (s.length / 16 - 1) = lst key s := by
    rw [un_eq key s _ hm h (by omega), if_pos (by omega)]
    unfold lst
    rw [show s.length / 16 - 1 - 1 = s.length / 16 - 2 from by omega]
  refine gb_ext (by rw [List.length_append, unchain_len, unchain_len, ht, hl]; omega) (fun j hj => ?_)
  rw [List.length_append, unchain_len, ht, hl] at hj
  rw [gb_append, unchain_len, ht]
  by_cases e : j < n
  · rw [if_pos e, gb_unchain _ _ _ _ (by omega), gb_unchain _ _ _ _ (by omega)]
    have hbb : bk (lst key s ++ s.take n) (j / 16) = bk (lst key s ++ s) (j / 16) := by
      generalize hq : j / 16 = q
      cases q with
      | zero => rw [bk_cat0 _ _ hl, bk_cat0 _ _ hl]
      | succ q => rw [bk_cat _ _ _ hl, bk_cat _ _ _ hl, hb q (by omega)]
    unfold un
    rw [bk_cat _ _ _ hl, bk_cat _ _ _ hl, hb _ (by omega), hbb]
  · rw [if_neg e, gb_unchain _ _ _ _ (by omega), show j / 16 = s.length / 16 - 1 from by omega, hlast, show j % 16 = j - n from by omega]
/-- is what came out a locked key? -/
def kn (s : L8) : Nat := (gb s 0).toNat
def A (s : L8) : L8 := (s.drop 1).take 3
def B (s : L8) : L8 := (s.drop 4).take 3
theorem three (a b : L8) (ha : a.length = 3) (hb : b.length = 3) : Oct.xor a b = ff ↔ Oct.xor b ff = a := by
  have hf : ff.length = 3 := rfl
  constructor
  · intro h; rw [← h, Oct.xor_comm]; rw [Oct.xor_xor _ _ (by omega)]
  · intro h; rw [← h, Oct.xor_comm b ff]; rw [Oct.xor_xor _ _ (by omega)]
theorem drop_chain (key iv s : L8) (hs : s.length % 16 = 0) (h : 16 ≤ s.length) : tail (chain key iv s) = bk (chain key iv s) (s.length / 16 - 1) := by
  unfold tail bk
  rw [chain_len, show 16 * (s.length / 16 - 1) = s.length - 16 from by omega, List.take_of_length_le (by rw [List.length_drop, chain_len]; omega)]
theorem tail_len (s : L8) (h : 16 ≤ s.length) : (tail s).length = 16 := by unfold tail; rw [List.length_drop]; omega
theorem lst_chain (key v s : L8) (hk : Aes.okKey key.length) (hv : v.length = 16) (hm : s.length % 16 = 0) (h : 32 ≤ s.length) : lst key (chain key v s) = bk s (s.length / 16 - 1) := by
  have hc := chain_len key v s
  have hu := unchain_chain key v s hk hv hm
  have ht := un_len key v (chain key v s) (s.length / 16 - 1) hv (by omega)
  have e : un key v (chain key v s) (s.length / 16 - 1) = bk s (s.length / 16 - 1) := by
    refine gb_ext (by rw [ht, bk_len _ _ (by omega)]) (fun j hj => ?_)
    rw [ht] at hj
    rw [gb_bk _ _ _ hj]
    have hg := gb_unchain key v (chain key v s) (16 * (s.length / 16 - 1) + j) (by omega)
    rw [hu, show (16 * (s.length / 16 - 1) + j) / 16 = s.length / 16 - 1 from by omega, show (16 * (s.length / 16 - 1) + j) % 16 = j from by omega] at hg
    exact hg.symm
  rw [← e]
  unfold lst un
  rw [hc, bk_cat _ _ _ hv]
  obtain ⟨q, hq⟩ : ∃ q, s.length / 16 - 1 = q + 1 := ⟨s.length / 16 - 2, by omega⟩
  rw [hq, bk_cat _ _ _ hv, show s.length / 16 - 2 = q from by omega]
/-- what is locked comes back -/
theorem opn_lock (key iv t f : L8) (hk : Aes.okKey key.length) (hi : iv.length = 16) (h3 : 3 ≤ t.length) (h255 : t.length ≤ 255) (hf : f.length = fl t.length) : opn key iv (lock key iv t f) = pre t f := by
  obtain ⟨h1, h2, _⟩ := pre_mod t f h3 h255 hf
  have hc := chain_len key iv (pre t f)
  have hl : lst key (lock key iv t f) = tail (chain key iv (pre t f)) := by
    unfold lock
    rw [lst_chain key _ _ hk (tail_len _ (by omega)) (by omega) (by omega), drop_chain key iv _ h1 (by omega), hc]
  unfold opn
  rw [hl]
  unfold lock
  rw [unchain_chain key _ _ hk (tail_len _ (by omega)) (by omega), unchain_chain key iv _ hk hi h1]
theorem lock_len (key iv t f : L8) : (lock key iv t f).length = 4 + t.length + f.length := by unfold lock; rw [chain_len, chain_len, pre_len]
theorem pre_kn (t f : L8) (h255 : t.length ≤ 255) : kn (pre t f) = t.length := by
  show (BitVec.ofNat 8 t.length).toNat = t.length
  rw [BitVec.toNat_ofNat]; omega
theorem pre_text (t f : L8) : ((pre t f).drop 4).take t.length = t := by
  show ((t ++ f).take t.length) = t
  exact List.take_left ..
theorem pre_A (t f : L8) : A (pre t f) = [~~~(gb t 0), ~~~(gb t 1), ~~~(gb t 2)] := rfl
theorem pre_B (t f : L8) (h3 : 3 ≤ t.length) : B (pre t f) = t.take 3 := by
  show (t ++ f).take 3 = t.take 3
  exact List.take_append_of_le_length h3
theorem pre_AB (t f : L8) (h3 : 3 ≤ t.length) : Oct.xor (A (pre t f)) (B (pre t f)) = ff := by
  rw [three _ _ rfl (by rw [pre_B t f h3, List.length_take]; omega), pre_A, pre_B t f h3, xor_ff _ (by rw [List.length_take]; omega), gb_take _ _ _ (by omega), gb_take _ _ _ (by omega), gb_take _ _ _ (by omega)]
def n256 : L8 := [80#8, 66#8, 69#8, 83#8, 50#8, 45#8, 72#8, 83#8, 50#8, 53#8, 54#8, 43#8, 65#8, 49#8, 50#8, 56#8, 75#8, 87#8]
def n384 : L8 := [80#8, 66#8, 69#8, 83#8, 50#8, 45#8, 72#8, 83#8, 51#8, 56#8, 52#8, 43#8, 65#8, 49#8, 57#8, 50#8, 75#8, 87#8]
def n512 : L8 := [80#8, 66#8, 69#8, 83#8, 50#8, 45#8, 72#8, 83#8, 53#8, 49#8, 50#8, 43#8, 65#8, 50#8, 53#8, 54#8, 75#8, 87#8]
def wf : L8 := [102#8, 105#8, 108#8, 108#8, 101#8, 100#8, 32#8, 117#8, 112#8, 32#8, 105#8, 116#8]
end Rc
end Go.Proofs.YtepogbfkmflooaaDoor
