/-
  Texts that are sealed by a chain and a counter, plainly. Conditions as each says.
-/
import Derived.Test.YtjdcpejcnmpiaaaCbcPlain
import Derived.Test.YtjdcpejcnmpiaaaCtrPlain
namespace Go.Proofs.Ytjdcpejcnmpiaaa
open Go.RowKit
set_option linter.unusedSimpArgs false
set_option linter.unusedVariables false
namespace Cm
abbrev L8 := List (BitVec 8)
def num (n q : Nat) : L8 := Oct.be (BitVec.ofNat 64 n) q
theorem num_len (n q : Nat) : (num n q).length = q := Oct.length_be _ _
def zq (q : Nat) : L8 := List.replicate q 0#8
theorem zq_len (q : Nat) : (zq q).length = q := List.length_replicate
theorem gb_num (n q j : Nat) (h : j < q) : gb (num n q) j = BitVec.ofNat 8 (n % 2 ^ 64 / 256 ^ (q - 1 - j)) := by
  unfold num
  rw [Oct.gb_be _ _ _ h]
  apply BitVec.eq_of_toNat_eq
  rw [BitVec.toNat_setWidth, BitVec.toNat_ushiftRight, BitVec.toNat_ofNat, BitVec.toNat_ofNat, Nat.shiftRight_eq_div_pow, show (256 : Nat) = 2 ^ 8 from rfl, ← Nat.pow_mul]
theorem num_zero (q : Nat) : num 0 q = zq q := by
  refine gb_ext (by rw [num_len, zq_len]) (fun j hj => ?_)
  rw [num_len] at hj
  rw [gb_num _ _ _ hj, Nat.zero_mod, Nat.zero_div]
  exact (gb_rep q j).symm
theorem cy_zeros (q n : Nat) : ∀ k, Oct.cy (zq q) n k = n / 256 ^ k
  | 0 => by simp [Oct.cy]
  | k + 1 => by
    show (Oct.cy (zq q) n k + (gb (zq q) _).toNat) / 256 = _
    rw [cy_zeros q n k, show gb (zq q) ((zq q).length - 1 - k) = 0#8 from gb_rep _ _, show (0#8).toNat = 0 from rfl, Nat.add_zero, Nat.div_div_eq_div_mul, Nat.pow_succ]
theorem add_zeros (q n : Nat) (hn : n < 2 ^ 64) : Oct.add (zq q) n = num n q := by
  refine gb_ext (by rw [Oct.length_add, zq_len, num_len]) (fun j hj => ?_)
  rw [Oct.length_add, zq_len] at hj
  rw [Oct.gb_add _ _ _ (by rw [zq_len]; exact hj), gb_num _ _ _ hj, cy_zeros, zq_len, show gb (zq q) j = 0#8 from gb_rep _ _, show (0#8).toNat = 0 from rfl, Nat.add_zero, Nat.mod_eq_of_lt hn]
def cnt (nonce : L8) (q i : Nat) : L8 := ([BitVec.ofNat 8 (q - 1)] ++ nonce) ++ num i q
theorem cnt_len (nonce : L8) (q i : Nat) (hq : nonce.length + q = 15) : (cnt nonce q i).length = 16 := by
  unfold cnt
  simp only [List.length_append, List.length_cons, List.length_nil, num_len]; omega
theorem cnt0 (nonce : L8) (q : Nat) : ([BitVec.ofNat 8 (q - 1)] ++ nonce) ++ List.replicate q 0#8 = cnt nonce q 0 := by
  unfold cnt
  rw [num_zero]; rfl
theorem nx_cnt (nonce : L8) (q n : Nat) (hq : nonce.length + q = 15) (hn : n < 2 ^ 64) : Ct.nx (cnt nonce q 0) q n = cnt nonce q n := by
  have hl : ([BitVec.ofNat 8 (q - 1)] ++ nonce).length = 16 - q := by simp only [List.length_append, List.length_cons, List.length_nil]; omega
  unfold Ct.nx cnt
  rw [← hl, List.take_left, List.drop_left, num_zero, add_zeros q n hn]
theorem nx_cnt1 (nonce : L8) (q t : Nat) (hq : nonce.length + q = 15) (hn : t + 1 < 2 ^ 64) : Ct.nx (cnt nonce q 1) q t = cnt nonce q (t + 1) := by
  rw [← nx_cnt nonce q 1 hq (by decide), Ct.nx_add _ _ _ _ (cnt_len nonce q 0 hq), nx_cnt nonce q (1 + t) hq (by omega), Nat.add_comm]
/-- what stands ahead of the text -/
def bes (aad : L8) : L8 := if aad.length = 0 then [] else if aad.length < 65280 then Cb.z (num aad.length 2 ++ aad) else Cb.z (([255#8, 254#8] ++ num aad.length 4) ++ aad)
theorem bes_mod (aad : L8) : (bes aad).length % 16 = 0 ∧ (bes aad).length ≤ aad.length + 21 := by
  unfold bes
  split
  · exact ⟨rfl, by simp⟩
  · split
    · have h : (Cb.z (num aad.length 2 ++ aad)).length = (num aad.length 2 ++ aad).length + (16 - (num aad.length 2 ++ aad).length % 16) % 16 := Cb.z_len _
      rw [h, List.length_append, num_len]; omega
    · have h : (Cb.z (([255#8, 254#8] ++ num aad.length 4) ++ aad)).length = (([255#8, 254#8] ++ num aad.length 4) ++ aad).length + (16 - (([255#8, 254#8] ++ num aad.length 4) ++ aad).length % 16) % 16 := Cb.z_len _
      have h2 : (([255#8, 254#8] ++ num aad.length 4) ++ aad).length = 6 + aad.length := by simp only [List.length_append, List.length_cons, List.length_nil, num_len]
      rw [h, h2]; omega
theorem zn_le (n : Nat) : Cb.zn n ≤ 15 := by unfold Cb.zn; omega
def fst (q : Nat) (aad : L8) (size : Nat) : Nat := 8 * ((size - 2) / 2) + q - 1 + (if aad.length = 0 then 0 else 64)
def head (nonce aad : L8) (n q size : Nat) : L8 := ([BitVec.ofNat 8 (fst q aad size)] ++ nonce) ++ num n q
theorem head_len (nonce aad : L8) (n q size : Nat) (hq : nonce.length + q = 15) : (head nonce aad n q size).length = 16 := by
  unfold head
  simp only [List.length_append, List.length_cons, List.length_nil, num_len]; omega
def all (nonce aad text : L8) (q size : Nat) : L8 := (head nonce aad text.length q size ++ bes aad) ++ text
theorem all_len (nonce aad text : L8) (q size : Nat) (hq : nonce.length + q = 15) : (all nonce aad text q size).length = 16 + (bes aad).length + text.length := by
  unfold all
  rw [List.length_append, List.length_append, head_len _ _ _ _ _ hq]
theorem z_app (a b : L8) (h : a.length % 16 = 0) : Cb.z (a ++ b) = a ++ Cb.z b := by
  unfold Cb.z Cb.zn
  rw [List.append_assoc, List.length_append, show (16 - (a.length + b.length) % 16) % 16 = (16 - b.length % 16) % 16 from by omega]
theorem z_all (nonce aad text : L8) (q size : Nat) (hq : nonce.length + q = 15) : Cb.z (all nonce aad text q size) = (head nonce aad text.length q size ++ bes aad) ++ Cb.z text := by
  have := bes_mod aad
  unfold all
  exact z_app _ _ (by rw [List.length_append, head_len _ _ _ _ _ hq]; omega)
def tg (key nonce aad text : L8) (q size : Nat) : L8 := (Ct.x key (cnt nonce q 0) q (Cb.mac key (all nonce aad text q size))).take size
theorem mac_len (key s : L8) (hk : Aes.okKey key.length) : (Cb.mac key s).length = 16 := Cb.ch_len key Cb.zero16 (Cb.z s) hk rfl _
theorem tg_len (key nonce aad text : L8) (q size : Nat) (hk : Aes.okKey key.length) (hs : size ≤ 16) : (tg key nonce aad text q size).length = size := by
  unfold tg
  rw [List.length_take, Ct.length_x, mac_len _ _ hk]; omega
theorem x16 (key s m : L8) (d : Nat) (hk : Aes.okKey key.length) (hm : m.length = 16) : Ct.x key s d m = Oct.xor m (Aes.enc (Aes.words key) s) := by
  have he := Cb.enc_len key s hk
  refine gb_ext (by rw [Ct.length_x, Oct.length_xor, he, hm]; rfl) (fun j hj => ?_)
  rw [Ct.length_x, hm] at hj
  rw [Ct.gb_x _ _ _ _ _ (by omega), Oct.gb_xor _ _ _ (by omega)]
  unfold Ct.ks
  rw [show j / 16 = 0 from by omega, Ct.nx_zero, show j % 16 = j from by omega]
theorem tag_eq (key nonce aad text : L8) (q size t : Nat) (hk : Aes.okKey key.length) (ht : t = (Cb.z (all nonce aad text q size)).length / 16) :
    (Oct.xor (Cb.ch key Cb.zero16 (Cb.z (all nonce aad text q size)) t) (Aes.enc (Aes.words key) (cnt nonce q 0))).take size = tg key nonce aad text q size := by
  unfold tg
  rw [x16 key _ _ _ hk (mac_len _ _ hk), ht, Cb.z_blocks]
  rfl
def xr (key nonce text : L8) (q : Nat) : L8 := Ct.x key (cnt nonce q 1) q text
theorem xr_len (key nonce text : L8) (q : Nat) : (xr key nonce text q).length = text.length := Ct.length_x _ _ _ _
theorem xor_stream (key s text : L8) (d n : Nat) (h : text.length ≤ n) : Oct.xor text (Ct.stream key s d n) = Ct.x key s d text := by
  refine gb_ext (by rw [Oct.length_xor, Ct.length_stream, Ct.length_x]; omega) (fun j hj => ?_)
  rw [Oct.length_xor, Ct.length_stream] at hj
  rw [Oct.gb_xor _ _ _ (by rw [Ct.length_stream]; omega), Ct.gb_stream _ _ _ _ _ (by omega), Ct.gb_x _ _ _ _ _ (by omega)]
theorem ks_at (key nonce : L8) (q t j : Nat) (hq : nonce.length + q = 15) (hn : t + 1 < 2 ^ 64) (hj : j / 16 = t) : Ct.ks key (cnt nonce q 1) q j = gb (Aes.enc (Aes.words key) (cnt nonce q (t + 1))) (j % 16) := by
  unfold Ct.ks
  rw [hj, nx_cnt1 nonce q t hq hn]
def sealed (key nonce aad text : L8) (q size : Nat) : L8 := xr key nonce text q ++ tg key nonce aad text q size
def Fit (n : Nat) (nonce : L8) : Prop := n ≤ 70000 ∧ (nonce.length < 13 ∨ n < 65536)
instance (n : Nat) (nonce : L8) : Decidable (Fit n nonce) := inferInstanceAs (Decidable (_ ∧ _))
theorem pow_ge (q : Nat) (h : 3 ≤ q) : 16777216 ≤ 2 ^ (8 * q) := by
  have : (2 : Nat) ^ 24 ≤ 2 ^ (8 * q) := Nat.pow_le_pow_right (by decide) (by omega)
  exact Nat.le_trans (by decide) this
theorem fit_lt (n q : Nat) (nonce : L8) (hq : nonce.length + q = 15) (h2 : 2 ≤ q) (hf : Fit n nonce) : n < 2 ^ (8 * q) := by
  obtain ⟨h1, h3⟩ := hf
  by_cases e : q = 2
  · subst e
    show n < 65536
    omega
  · have := pow_ge q (by omega)
    omega
theorem shr_zero (n q : Nat) (h : n < 2 ^ (8 * q)) : (BitVec.ofNat 64 n) >>> (8 * q) = 0#64 := by
  apply BitVec.eq_of_toNat_eq
  rw [BitVec.toNat_ushiftRight, BitVec.toNat_ofNat, Nat.shiftRight_eq_div_pow]
  exact Nat.div_eq_of_lt (Nat.lt_of_le_of_lt (Nat.mod_le _ _) h)
def sizes (j : Nat) : Nat := if j = 0 then 0 else if j = 1 then 65279 else if j = 2 then 65280 else if j = 3 then 65281 else if j = 4 then 65535 else if j = 5 then 65536 else if j = 6 then 70000 else 70001
theorem sizes_le (j : Nat) : sizes j ≤ 70001 := by unfold sizes; (repeat' split) <;> omega
def gz (x : BitVec 8) : L8 := List.replicate (sizes (x % 8#8).toNat) 0#8
theorem gz_len (x : BitVec 8) : (gz x).length = sizes (x % 8#8).toNat := List.length_replicate
theorem gz_le (x : BitVec 8) : (gz x).length ≤ 70001 := by rw [gz_len]; exact sizes_le _
def wk : L8 := [64#8, 65#8, 66#8, 67#8, 68#8, 69#8, 70#8, 71#8, 72#8, 73#8, 74#8, 75#8, 76#8, 77#8, 78#8, 79#8]
def wn : L8 := [16#8, 17#8, 18#8, 19#8, 20#8, 21#8, 22#8]
def wa : L8 := [0#8, 1#8, 2#8, 3#8, 4#8, 5#8, 6#8, 7#8]
def wt : L8 := [32#8, 33#8, 34#8, 35#8]
def wo : L8 := [113#8, 98#8, 1#8, 91#8, 77#8, 172#8, 37#8, 93#8]
theorem wakes : sealed wk wn wa wt 8 4 = wo := by decide +kernel
end Cm
end Go.Proofs.Ytjdcpejcnmpiaaa
