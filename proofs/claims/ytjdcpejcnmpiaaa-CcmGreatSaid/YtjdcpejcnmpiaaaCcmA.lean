/-
  Numbers, counters, what is beside, what is wrong: by the program. Conditions as each says.
-/
import Derived.Test.YtjdcpejcnmpiaaaRows
import Derived.Test.YtjdcpejcnmpiaaaGenMore
import Derived.Test.YtjdcpejcnmpiaaaGenSl
import Derived.Test.YtjdcpejcnmpiaaaOctW
import Derived.Test.YtjdcpejcnmpiaaaCcmPlain
import Derived.Test.YtjdcpejcnmpiaaaRep
import Derived.Test.YtjdcpejcnmpiaaaGenSh
import Derived.ProofKit
namespace Go.Proofs.Ytjdcpejcnmpiaaa
open Go.RowKit
set_option linter.unusedSimpArgs false
set_option linter.unusedVariables false
set_option maxRecDepth 100000
set_option maxHeartbeats 1000000
namespace CcmAT
theorem mixed : Try.prog.follows .mixedOrders = true := by kernel_rfl
theorem so3 : (Try.prog.underlying 3).isSome = true := by rw [Try.underlying3]; rfl
end CcmAT
theorem cmNumber (n q : Nat) (h1 : 1 ≤ q) (h8 : q ≤ 8) (hn : n < 2 ^ (8 * q)) (hm : n ≤ 1000000) (w0 : World) : Calls Try.prog 96 #[.int .i64 ((n : Nat) : Int), .int .i64 ((q : Nat) : Int)] w0 fun e w' => e = .returned (.string (str (Cm.num n q))) ∧ Below w0.heap.size w0 w' := by
 refine enter (n := 16) Try.func96 rfl rfl rfl ?_
 have hk : Below w0.heap.size w0 w0 := Below.refl _ _
 refine sr ?_
 refine w_as (evc (.string (str ([] : List (BitVec 8))))) ?_
 refine nt ?_
 refine sr ?_
 refine w_mv ei ?_
 refine w_val (y_nat_u64 (p := n) ei (by omega) CcmAT.so3 Try.underlying129) ?_
 refine w_mv ei ?_
 refine w_val (v := .int .i64 (min ((q : Nat) : Int) 8)) (y_min ei Ev.c) ?_
 refine w_call (Try.func115) (by kernel_rfl) rfl (m2 e6 (ex (.int .i64 ((q : Nat) : Int)) (Eq.trans (b := .int .i64 (min ((q : Nat) : Int) 8)) rfl (by congr 1; omega)))) (put_c (BitVec.ofNat 64 n) q h1 h8 (fun _ => Cm.shr_zero n q hn) w0) ?_
 rintro _ w1 ⟨rfl, hb2⟩
 refine ⟨_, rfl, ?_⟩
 replace hk := thenB hk hb2
 refine w_mv (ex (.tuple #[.string (str (Cm.num n q)), .int .i64 0])) ?_
 refine w_val ye ?_
 refine w_val ye ?_
 refine w_as es ?_
 refine w_as ei ?_
 refine nt ?_
 refine sr ?_
 refine w_mv es ?_
 refine w_as es ?_
 refine nt ?_
 refine wp_ret ?_
 refine fin_ret1 rfl es ?_
 exact ⟨rfl, hk⟩

theorem cmCounter (nonce : List (BitVec 8)) (q : Nat) (hq : nonce.length + q = 15) (h2 : 2 ≤ q) (h8 : q ≤ 8) (w0 : World) : Calls Try.prog 94 #[.string (str nonce)] w0 fun e w' => e = .returned (.string (str (Cm.cnt nonce q 0))) ∧ Below w0.heap.size w0 w' := by
 refine enter (n := 17) Try.func94 rfl rfl rfl ?_
 have hk : Below w0.heap.size w0 w0 := Below.refl _ _
 refine sr ?_
 refine w_as (evc (.string (str ([] : List (BitVec 8))))) ?_
 refine nt ?_
 refine sr ?_
 refine w_mv es ?_
 refine w_val (y_len es Try.underlying9) ?_
 refine w_val (y_bin Ev.c ei (b_sub (by omega))) ?_
 refine w_as ei ?_
 refine nt ?_
 refine wp_seq ?_
 refine region_dc (Nat.testBit 0) 11 CcmAT.mixed rfl ?_
 intro w1 hb2
 replace hk := thenB hk hb2
 have hS : Cls w1 w1 := Below.refl _ _
 refine dp 0 rfl (fun w' => y_mv (ex (.int .i64 ((q : Nat) : Int)) (Eq.trans (b := .int .i64 (15 - ((nonce.length : Nat) : Int))) rfl (by congr 1; omega)))) ?_
 refine dp (v := .int .i64 (((q : Nat) : Int) - 1)) 1 rfl (fun w' => y_bin ei Ev.c (b_sub (by omega))) ?_
 refine dp (v := U8 (BitVec.ofNat 8 (q - 1))) 2 rfl (fun w' => y_nat_u8 (p := (q - 1)) ei (by omega) CcmAT.so3 Try.underlying5) ?_
 refine dp 5 rfl (fun w' => y_mv es) ?_
 refine dp 7 rfl (fun w' => y_mv (ex (.int .i64 ((q : Nat) : Int)) (Eq.trans (b := .int .i64 (15 - ((nonce.length : Nat) : Int))) rfl (by congr 1; omega)))) ?_
 refine d_two 3 8 (by kernel_rfl) rfl rfl ?_ ?_
 ·skip
  refine w_bs1 (m := 1) (e := 5) (F := fun j => U8 (BitVec.ofNat 8 (q - 1))) e8 (fun w => by kernel_rfl) ?_
  intro b_10 w3 hbe_b_10 r_b_10 hb4
  have ge_b_10 : w0.heap.size ≤ b_10 := by have := hk.size; omega
  clear hbe_b_10
  replace hk := thenB hk hb4
  replace hS := thenB hS hb4
  refine wpList_nil ?_
  refine then_n ⟨fun _ h => thenB h (by assumption), ?_⟩
  refine d_two 4 8 (by kernel_rfl) rfl rfl ?_ ?_
  ·skip
   refine w_val (y_str (l := [BitVec.ofNat 8 (q - 1)]) el (by rfl) Try.underlying54 Try.underlying5 Try.underlying9 (fun j hj => (r_b_10.val (by omega) (by (obtain rfl : j = 0 := (by omega)); rfl)))) ?_
   refine wpList_nil ?_
   refine then_n ⟨fun _ h => h, ?_⟩
   refine dp (v := .string (str (([BitVec.ofNat 8 (q - 1)]) ++ nonce))) 6 rfl (fun w' => y_bin es es (b_cat (by simp only [List.length_append, List.length_cons, List.length_nil, Cm.num_len, List.length_replicate]; omega))) ?_
   refine d_one 8 (by kernel_rfl) rfl ?_
   refine w_call (Try.func52) (by kernel_rfl) rfl (m2 (evc (.string (str ([0#8])))) ei) (rep_c 0#8 q (by omega) w3) ?_
   rintro _ w5 ⟨rfl, hb6⟩
   refine ⟨_, rfl, ?_⟩
   replace r_b_10 := r_b_10.step hb6
   replace hk := thenB hk hb6
   replace hS := thenB hS hb6
   refine wpList_nil ?_
   refine then_n ⟨fun _ h => thenB h (by assumption), ?_⟩
   refine dp (v := .string (str ((([BitVec.ofNat 8 (q - 1)]) ++ nonce) ++ (List.replicate q 0#8)))) 9 rfl (fun w' => y_bin es es (b_cat (by simp only [List.length_append, List.length_cons, List.length_nil, Cm.num_len, List.length_replicate]; omega))) ?_
   refine dp 10 rfl (fun w' => y_as es) ?_
   refine d_done (by kernel_rfl) ?_
   clear hS
   refine then_n ?_
   refine wp_ret ?_
   refine fin_ret1 rfl es ?_
   refine ⟨congrArg Ending.returned ?_, hk⟩
   show (.string (str ((([BitVec.ofNat 8 (q - 1)]) ++ nonce) ++ (List.replicate q 0#8))) : Value) = .string (str (Cm.cnt nonce q 0))
   rw [Cm.cnt0]
  ·skip
   refine w_call (Try.func52) (by kernel_rfl) rfl (m2 (evc (.string (str ([0#8])))) ei) (rep_c 0#8 q (by omega) w3) ?_
   rintro _ w7 ⟨rfl, hb8⟩
   refine ⟨_, rfl, ?_⟩
   replace r_b_10 := r_b_10.step hb8
   replace hk := thenB hk hb8
   replace hS := thenB hS hb8
   refine wpList_nil ?_
   refine then_n ⟨fun _ h => thenB h (by assumption), ?_⟩
   refine d_one 4 (by kernel_rfl) rfl ?_
   refine w_val (y_str (l := [BitVec.ofNat 8 (q - 1)]) el (by rfl) Try.underlying54 Try.underlying5 Try.underlying9 (fun j hj => (r_b_10.val (by omega) (by (obtain rfl : j = 0 := (by omega)); rfl)))) ?_
   refine wpList_nil ?_
   refine then_n ⟨fun _ h => h, ?_⟩
   refine dp (v := .string (str (([BitVec.ofNat 8 (q - 1)]) ++ nonce))) 6 rfl (fun w' => y_bin es es (b_cat (by simp only [List.length_append, List.length_cons, List.length_nil, Cm.num_len, List.length_replicate]; omega))) ?_
   refine dp (v := .string (str ((([BitVec.ofNat 8 (q - 1)]) ++ nonce) ++ (List.replicate q 0#8)))) 9 rfl (fun w' => y_bin es es (b_cat (by simp only [List.length_append, List.length_cons, List.length_nil, Cm.num_len, List.length_replicate]; omega))) ?_
   refine dp 10 rfl (fun w' => y_as es) ?_
   refine d_done (by kernel_rfl) ?_
   clear hS
   refine then_n ?_
   refine wp_ret ?_
   refine fin_ret1 rfl es ?_
   refine ⟨congrArg Ending.returned ?_, hk⟩
   show (.string (str ((([BitVec.ofNat 8 (q - 1)]) ++ nonce) ++ (List.replicate q 0#8))) : Value) = .string (str (Cm.cnt nonce q 0))
   rw [Cm.cnt0]
 ·skip
  refine w_call (Try.func52) (by kernel_rfl) rfl (m2 (evc (.string (str ([0#8])))) ei) (rep_c 0#8 q (by omega) w1) ?_
  rintro _ w9 ⟨rfl, hb10⟩
  refine ⟨_, rfl, ?_⟩
  replace hk := thenB hk hb10
  replace hS := thenB hS hb10
  refine wpList_nil ?_
  refine then_n ⟨fun _ h => thenB h (by assumption), ?_⟩
  refine d_one 3 (by kernel_rfl) rfl ?_
  refine w_bs1 (m := 1) (e := 5) (F := fun j => U8 (BitVec.ofNat 8 (q - 1))) e8 (fun w => by kernel_rfl) ?_
  intro b_10 w11 hbe_b_10 r_b_10 hb12
  have ge_b_10 : w0.heap.size ≤ b_10 := by have := hk.size; omega
  clear hbe_b_10
  replace hk := thenB hk hb12
  replace hS := thenB hS hb12
  refine wpList_nil ?_
  refine then_n ⟨fun _ h => thenB h (by assumption), ?_⟩
  refine d_one 4 (by kernel_rfl) rfl ?_
  refine w_val (y_str (l := [BitVec.ofNat 8 (q - 1)]) el (by rfl) Try.underlying54 Try.underlying5 Try.underlying9 (fun j hj => (r_b_10.val (by omega) (by (obtain rfl : j = 0 := (by omega)); rfl)))) ?_
  refine wpList_nil ?_
  refine then_n ⟨fun _ h => h, ?_⟩
  refine dp (v := .string (str (([BitVec.ofNat 8 (q - 1)]) ++ nonce))) 6 rfl (fun w' => y_bin es es (b_cat (by simp only [List.length_append, List.length_cons, List.length_nil, Cm.num_len, List.length_replicate]; omega))) ?_
  refine dp (v := .string (str ((([BitVec.ofNat 8 (q - 1)]) ++ nonce) ++ (List.replicate q 0#8)))) 9 rfl (fun w' => y_bin es es (b_cat (by simp only [List.length_append, List.length_cons, List.length_nil, Cm.num_len, List.length_replicate]; omega))) ?_
  refine dp 10 rfl (fun w' => y_as es) ?_
  refine d_done (by kernel_rfl) ?_
  clear hS
  refine then_n ?_
  refine wp_ret ?_
  refine fin_ret1 rfl es ?_
  refine ⟨congrArg Ending.returned ?_, hk⟩
  show (.string (str ((([BitVec.ofNat 8 (q - 1)]) ++ nonce) ++ (List.replicate q 0#8))) : Value) = .string (str (Cm.cnt nonce q 0))
  rw [Cm.cnt0]

theorem cmBeside (aad : List (BitVec 8)) (ha : aad.length ≤ 70000) (w0 : World) : Calls Try.prog 97 #[.string (str aad)] w0 fun e w' => e = .returned (.string (str (Cm.bes aad))) ∧ Below w0.heap.size w0 w' := by
 have hzn : ∀ s : List (BitVec 8), Cb.zn s.length ≤ 15 := fun s => by unfold Cb.zn; omega
 refine enter (n := 30) Try.func97 rfl rfl rfl ?_
 have hk : Below w0.heap.size w0 w0 := Below.refl _ _
 refine sr ?_
 refine w_as (evc (.string (str ([] : List (BitVec 8))))) ?_
 refine nt ?_
 refine sr ?_
 refine w_as (evc (.string (str ([] : List (BitVec 8))))) ?_
 refine nt ?_
 refine wp_seq ?_
 refine sr ?_
 refine w_mv es ?_
 refine w_val (y_len es Try.underlying9) ?_
 refine w_as ei ?_
 refine nt ?_
 refine wp_block ?_
 refine sr ?_
 refine w_mv ei ?_
 refine w_val (y_bin ei Ev.c b_eql) ?_
 refine w_as eb ?_
 refine nt ?_
 refine c_if (p := ((aad.length : Nat) : Int) = 0) eb (fun hc1 => ?_) (fun hc1 => ?_)
 ·skip
  refine sr ?_
  refine w_as (evc (.string (str ([] : List (BitVec 8))))) ?_
  refine nt ?_
  refine wp_ret ?_
  refine inb_r ?_
  refine then_r ?_
  refine fin_ret1 rfl es ?_
  refine ⟨congrArg Ending.returned ?_, hk⟩
  show (.string (str ([] : List (BitVec 8))) : Value) = .string (str (Cm.bes aad))
  unfold Cm.bes
  first | (rw [if_pos (by omega)]) | (rw [if_neg (by omega), if_pos (by omega)]; rfl) | (rw [if_neg (by omega), if_neg (by omega)]; rfl)
 ·skip
  refine sr ?_
  refine w_mv ei ?_
  refine w_val (y_bin ei Ev.c b_lss) ?_
  refine w_as eb ?_
  refine nt ?_
  refine c_if (p := ((aad.length : Nat) : Int) < 65280) eb (fun hc2 => ?_) (fun hc2 => ?_)
  ·skip
   refine wp_region_lit ?_
   refine w_mv ei ?_
   refine w_call (Try.func96) (by kernel_rfl) rfl (m2 ei Ev.c) (cmNumber aad.length 2 (by omega) (by omega) (by first | (show aad.length < 65536; omega) | (show aad.length < 4294967296; omega)) (by omega) w0) ?_
   rintro _ w3 ⟨rfl, hb4⟩
   refine ⟨_, rfl, ?_⟩
   replace hk := thenB hk hb4
   refine w_mv es ?_
   refine w_val (y_bin es es (b_cat (by simp only [Cb.zn, List.length_append, List.length_cons, List.length_nil, Cm.num_len, List.length_replicate]; omega))) ?_
   refine w_as es ?_
   refine wpList_nil ?_
   refine inb_n ?_
   refine then_n ?_
   refine sr ?_
   refine w_mv es ?_
   refine w_mv es ?_
   refine w_val (y_len es Try.underlying9) ?_
   refine w_val (y_bin ei Ev.c (b_rem (by omega))) ?_
   refine w_val (y_bin Ev.c ei (b_sub (by omega))) ?_
   refine w_val (y_bin ei Ev.c (b_rem (by omega))) ?_
   refine w_call (Try.func52) (by kernel_rfl) rfl (m2 (evc (.string (str ([0#8])))) (ex (.int .i64 (((Cb.zn ((Cm.num aad.length 2) ++ aad).length) : Nat) : Int)) (Eq.trans (b := .int .i64 ((16 - (((((Cm.num aad.length 2) ++ aad).length : Nat) : Int) % 16)) % 16)) rfl (by exact congrArg (Value.int .i64) (by unfold Cb.zn; simp only [List.length_append, List.length_cons, List.length_nil, Cm.num_len, List.length_replicate]; omega))))) (rep_c 0#8 (Cb.zn ((Cm.num aad.length 2) ++ aad).length) (Nat.le_trans (Cm.zn_le _) (by decide)) w3) ?_
   rintro _ w5 ⟨rfl, hb6⟩
   refine ⟨_, rfl, ?_⟩
   replace hk := thenB hk hb6
   refine w_val (y_bin es es (b_cat (by simp only [Cb.zn, List.length_append, List.length_cons, List.length_nil, Cm.num_len, List.length_replicate]; omega))) ?_
   refine w_as es ?_
   refine nt ?_
   refine wp_ret ?_
   refine fin_ret1 rfl es ?_
   refine ⟨congrArg Ending.returned ?_, hk⟩
   show (.string (str (((Cm.num aad.length 2) ++ aad) ++ (List.replicate (Cb.zn ((Cm.num aad.length 2) ++ aad).length) 0#8))) : Value) = .string (str (Cm.bes aad))
   unfold Cm.bes
   first | (rw [if_pos (by omega)]) | (rw [if_neg (by omega), if_pos (by omega)]; rfl) | (rw [if_neg (by omega), if_neg (by omega)]; rfl)
  ·skip
   refine wp_region_lit ?_
   refine w_mv ei ?_
   refine w_call (Try.func96) (by kernel_rfl) rfl (m2 ei Ev.c) (cmNumber aad.length 4 (by omega) (by omega) (by first | (show aad.length < 65536; omega) | (show aad.length < 4294967296; omega)) (by omega) w0) ?_
   rintro _ w7 ⟨rfl, hb8⟩
   refine ⟨_, rfl, ?_⟩
   replace hk := thenB hk hb8
   refine w_val (y_bin (evc (.string (str ([255#8, 254#8])))) es (b_cat (by simp only [Cb.zn, List.length_append, List.length_cons, List.length_nil, Cm.num_len, List.length_replicate]; omega))) ?_
   refine w_mv es ?_
   refine w_val (y_bin es es (b_cat (by simp only [Cb.zn, List.length_append, List.length_cons, List.length_nil, Cm.num_len, List.length_replicate]; omega))) ?_
   refine w_as es ?_
   refine wpList_nil ?_
   refine inb_n ?_
   refine then_n ?_
   refine sr ?_
   refine w_mv es ?_
   refine w_mv es ?_
   refine w_val (y_len es Try.underlying9) ?_
   refine w_val (y_bin ei Ev.c (b_rem (by omega))) ?_
   refine w_val (y_bin Ev.c ei (b_sub (by omega))) ?_
   refine w_val (y_bin ei Ev.c (b_rem (by omega))) ?_
   refine w_call (Try.func52) (by kernel_rfl) rfl (m2 (evc (.string (str ([0#8])))) (ex (.int .i64 (((Cb.zn ((([255#8, 254#8]) ++ (Cm.num aad.length 4)) ++ aad).length) : Nat) : Int)) (Eq.trans (b := .int .i64 ((16 - (((((([255#8, 254#8]) ++ (Cm.num aad.length 4)) ++ aad).length : Nat) : Int) % 16)) % 16)) rfl (by exact congrArg (Value.int .i64) (by unfold Cb.zn; simp only [List.length_append, List.length_cons, List.length_nil, Cm.num_len, List.length_replicate]; omega))))) (rep_c 0#8 (Cb.zn ((([255#8, 254#8]) ++ (Cm.num aad.length 4)) ++ aad).length) (Nat.le_trans (Cm.zn_le _) (by decide)) w7) ?_
   rintro _ w9 ⟨rfl, hb10⟩
   refine ⟨_, rfl, ?_⟩
   replace hk := thenB hk hb10
   refine w_val (y_bin es es (b_cat (by simp only [Cb.zn, List.length_append, List.length_cons, List.length_nil, Cm.num_len, List.length_replicate]; omega))) ?_
   refine w_as es ?_
   refine nt ?_
   refine wp_ret ?_
   refine fin_ret1 rfl es ?_
   refine ⟨congrArg Ending.returned ?_, hk⟩
   show (.string (str (((([255#8, 254#8]) ++ (Cm.num aad.length 4)) ++ aad) ++ (List.replicate (Cb.zn ((([255#8, 254#8]) ++ (Cm.num aad.length 4)) ++ aad).length) 0#8))) : Value) = .string (str (Cm.bes aad))
   unfold Cm.bes
   first | (rw [if_pos (by omega)]) | (rw [if_neg (by omega), if_pos (by omega)]; rfl) | (rw [if_neg (by omega), if_neg (by omega)]; rfl)

theorem cmFits (n : Nat) (nonce : List (BitVec 8)) (hl : n ≤ 1000000000000000) (w0 : World) : Calls Try.prog 70 #[.int .i64 ((n : Nat) : Int), .string (str nonce)] w0 fun e w' => e = .returned (.bool (decide (Cm.Fit n nonce))) ∧ Below w0.heap.size w0 w' := by
 refine enter (n := 16) Try.func70 rfl rfl rfl ?_
 have hk : Below w0.heap.size w0 w0 := Below.refl _ _
 refine sr ?_
 refine w_as Ev.c ?_
 refine nt ?_
 refine sr ?_
 refine w_mv ei ?_
 refine w_val (y_bin ei Ev.c b_leq) ?_
 refine w_mv eb ?_
 by_cases hc1 : ((n : Nat) : Int) ≤ 70000
 ·skip
  refine w_val_g (v := .string (str nonce)) (wy rfl rfl (eb (dt hc1))) (y_mv es) ?_
  refine w_val_g (wy rfl rfl (eb (dt hc1))) (y_len es Try.underlying9) ?_
  refine w_val_g (wy rfl rfl (eb (dt hc1))) (y_bin ei Ev.c b_lss) ?_
  refine w_val_g (v := .bool (decide (((nonce.length : Nat) : Int) < 13))) (wy rfl rfl (eb (dt hc1))) (y_mv eb) ?_
  by_cases hc2 : ((nonce.length : Nat) : Int) < 13
  ·skip
   with_reducible refine w_skip ?_ ?_
   exact wn rfl rfl (eb (dt hc2))
   with_reducible refine w_skip ?_ ?_
   exact wn rfl rfl (eb (dt hc2))
   refine w_val_g (wy rfl rfl (eb (dt hc1))) (y_pick_t (eb (dt hc2)) Ev.c) ?_
   refine w_val (y_pick_t (eb (dt hc1)) eb) ?_
   refine w_as eb ?_
   refine nt ?_
   refine wp_ret ?_
   refine fin_ret1 rfl eb ?_
   refine ⟨congrArg Ending.returned ?_, hk⟩
   show (.bool true : Value) = .bool (decide (Cm.Fit n nonce))
   first | (rw [decide_eq_true (show Cm.Fit n nonce from ⟨by omega, by omega⟩)]) | (rw [decide_eq_false (show ¬ Cm.Fit n nonce from fun h => by have h1 := h.1; have h2 := h.2; omega)]) | (exact congrArg Value.bool (decide_eq_decide.2 ⟨fun h => ⟨by omega, by omega⟩, fun h => by have h1 := h.1; have h2 := h.2; omega⟩))
  ·skip
   refine w_val_g (v := .int .i64 ((n : Nat) : Int)) (wy rfl rfl (eb (df hc2))) (y_mv ei) ?_
   refine w_val_g (wy rfl rfl (eb (df hc2))) (y_bin ei Ev.c b_lss) ?_
   refine w_val_g (wy rfl rfl (eb (dt hc1))) (y_pick_f (eb (df hc2)) eb) ?_
   refine w_val (y_pick_t (eb (dt hc1)) eb) ?_
   refine w_as eb ?_
   refine nt ?_
   refine wp_ret ?_
   refine fin_ret1 rfl eb ?_
   refine ⟨congrArg Ending.returned ?_, hk⟩
   show (.bool (decide (((n : Nat) : Int) < 65536)) : Value) = .bool (decide (Cm.Fit n nonce))
   first | (rw [decide_eq_true (show Cm.Fit n nonce from ⟨by omega, by omega⟩)]) | (rw [decide_eq_false (show ¬ Cm.Fit n nonce from fun h => by have h1 := h.1; have h2 := h.2; omega)]) | (exact congrArg Value.bool (decide_eq_decide.2 ⟨fun h => ⟨by omega, by omega⟩, fun h => by have h1 := h.1; have h2 := h.2; omega⟩))
 ·skip
  with_reducible refine w_skip ?_ ?_
  exact wn rfl rfl (eb (df hc1))
  with_reducible refine w_skip ?_ ?_
  exact wn rfl rfl (eb (df hc1))
  with_reducible refine w_skip ?_ ?_
  exact wn rfl rfl (eb (df hc1))
  with_reducible refine w_skip ?_ ?_
  exact wn rfl rfl (eb (df hc1))
  with_reducible refine w_skip ?_ ?_
  exact wu rfl rfl (ex undef)
  with_reducible refine w_skip ?_ ?_
  exact wu rfl rfl (ex undef)
  with_reducible refine w_skip ?_ ?_
  exact wn rfl rfl (eb (df hc1))
  refine w_val (y_pick_f (eb (df hc1)) Ev.c) ?_
  refine w_as eb ?_
  refine nt ?_
  refine wp_ret ?_
  refine fin_ret1 rfl eb ?_
  refine ⟨congrArg Ending.returned ?_, hk⟩
  show (.bool false : Value) = .bool (decide (Cm.Fit n nonce))
  first | (rw [decide_eq_true (show Cm.Fit n nonce from ⟨by omega, by omega⟩)]) | (rw [decide_eq_false (show ¬ Cm.Fit n nonce from fun h => by have h1 := h.1; have h2 := h.2; omega)]) | (exact congrArg Value.bool (decide_eq_decide.2 ⟨fun h => ⟨by omega, by omega⟩, fun h => by have h1 := h.1; have h2 := h.2; omega⟩))

theorem cmWrong_k (key nonce aad : List (BitVec 8)) (size : Int) (hok : ¬ Aes.okKey key.length) (w0 : World) : Calls Try.prog 69 #[.string (str key), .string (str nonce), .string (str aad), .int .i64 size] w0 fun e w' => e = .returned (.int .i64 3) ∧ Below w0.heap.size w0 w' := by
 refine enter (n := 41) Try.func69 rfl rfl rfl ?_
 have hk : Below w0.heap.size w0 w0 := Below.refl _ _
 refine sr ?_
 refine w_as Ev.c ?_
 refine nt ?_
 refine wp_seq ?_
 refine sr ?_
 refine w_mv es ?_
 refine w_call (Try.func62) (by kernel_rfl) rfl (m1 es) (new_l_no key w0 hok) ?_
 rintro _ _ ⟨rfl, rfl⟩
 refine ⟨_, rfl, ?_⟩
 refine w_mv (ex (.tuple #[.pointer none, .int .i64 3])) ?_
 refine w_val ye ?_
 refine w_val ye ?_
 refine w_as (ex (.pointer none)) ?_
 refine w_as ei ?_
 refine nt ?_
 refine sr ?_
 refine w_mv ei ?_
 refine w_val (y_bin ei Ev.c b_neq) ?_
 refine nt ?_
 refine c_tt eb ?_
 refine sr ?_
 refine w_mv ei ?_
 refine w_as ei ?_
 refine nt ?_
 refine wp_ret ?_
 refine then_r ?_
 refine fin_ret1 rfl ei ?_
 exact ⟨rfl, hk⟩

theorem cmWrong_n (key nonce aad : List (BitVec 8)) (size : Int) (hok : Aes.okKey key.length) (hn : ¬ (7 ≤ nonce.length ∧ nonce.length ≤ 13)) (w0 : World) : Calls Try.prog 69 #[.string (str key), .string (str nonce), .string (str aad), .int .i64 size] w0 fun e w' => e = .returned (.int .i64 4) ∧ Below w0.heap.size w0 w' := by
 refine enter (n := 41) Try.func69 rfl rfl rfl ?_
 have hk : Below w0.heap.size w0 w0 := Below.refl _ _
 refine sr ?_
 refine w_as Ev.c ?_
 refine nt ?_
 refine wp_seq ?_
 refine sr ?_
 refine w_mv es ?_
 refine w_call (Try.func62) (by kernel_rfl) rfl (m1 es) (new_l key w0 hok) ?_
 rintro _ w1 ⟨p, rfl, hge_p, hc, hb_p⟩
 refine ⟨_, rfl, ?_⟩
 have ge_p : w0.heap.size ≤ p := by have := hk.size; omega
 replace hk := thenB hk hb_p
 refine w_mv (ex (.tuple #[pt p 0, .int .i64 0])) ?_
 refine w_val ye ?_
 refine w_val ye ?_
 refine w_as (ex (pt p 0)) ?_
 refine w_as ei ?_
 refine nt ?_
 refine sr ?_
 refine w_mv ei ?_
 refine w_val (y_bin ei Ev.c b_neq) ?_
 refine nt ?_
 refine c_ff eb ?_
 refine wp_skip ?_
 refine then_n ?_
 refine wp_seq ?_
 refine sr ?_
 refine w_mv es ?_
 refine w_val (y_len es Try.underlying9) ?_
 refine w_val (y_bin ei Ev.c b_lss) ?_
 refine w_mv eb ?_
 by_cases hc2 : ((nonce.length : Nat) : Int) < 7
 ·skip
  with_reducible refine w_skip ?_ ?_
  exact wn rfl rfl (eb (dt hc2))
  with_reducible refine w_skip ?_ ?_
  exact wn rfl rfl (eb (dt hc2))
  with_reducible refine w_skip ?_ ?_
  exact wn rfl rfl (eb (dt hc2))
  refine w_val (y_pick_t (eb (dt hc2)) Ev.c) ?_
  refine nt ?_
  refine c_tt eb ?_
  refine sr ?_
  refine w_as Ev.c ?_
  refine nt ?_
  refine wp_ret ?_
  refine then_r ?_
  refine fin_ret1 rfl ei ?_
  exact ⟨rfl, hk⟩
 ·skip
  refine w_val_g (v := .string (str nonce)) (wy rfl rfl (eb (df hc2))) (y_mv es) ?_
  refine w_val_g (wy rfl rfl (eb (df hc2))) (y_len es Try.underlying9) ?_
  refine w_val_g (wy rfl rfl (eb (df hc2))) (y_bin ei Ev.c b_gtr) ?_
  refine w_val (y_pick_f (eb (df hc2)) eb) ?_
  refine nt ?_
  refine c_if (p := 13 < ((nonce.length : Nat) : Int)) eb (fun hc3 => ?_) (fun hc3 => ?_)
  ·skip
   refine sr ?_
   refine w_as Ev.c ?_
   refine nt ?_
   refine wp_ret ?_
   refine then_r ?_
   refine fin_ret1 rfl ei ?_
   exact ⟨rfl, hk⟩
  ·skip
   refine wp_skip ?_
   refine then_n ?_
   refine ss ?_
   exfalso; omega

theorem cmWrong_t (key nonce aad : List (BitVec 8)) (size : Int) (hok : Aes.okKey key.length) (hn : 7 ≤ nonce.length ∧ nonce.length ≤ 13) (ht : ¬ (4 ≤ size ∧ size ≤ 16 ∧ size % 2 = 0)) (w0 : World) : Calls Try.prog 69 #[.string (str key), .string (str nonce), .string (str aad), .int .i64 size] w0 fun e w' => e = .returned (.int .i64 5) ∧ Below w0.heap.size w0 w' := by
 refine enter (n := 41) Try.func69 rfl rfl rfl ?_
 have hk : Below w0.heap.size w0 w0 := Below.refl _ _
 refine sr ?_
 refine w_as Ev.c ?_
 refine nt ?_
 refine wp_seq ?_
 refine sr ?_
 refine w_mv es ?_
 refine w_call (Try.func62) (by kernel_rfl) rfl (m1 es) (new_l key w0 hok) ?_
 rintro _ w1 ⟨p, rfl, hge_p, hc, hb_p⟩
 refine ⟨_, rfl, ?_⟩
 have ge_p : w0.heap.size ≤ p := by have := hk.size; omega
 replace hk := thenB hk hb_p
 refine w_mv (ex (.tuple #[pt p 0, .int .i64 0])) ?_
 refine w_val ye ?_
 refine w_val ye ?_
 refine w_as (ex (pt p 0)) ?_
 refine w_as ei ?_
 refine nt ?_
 refine sr ?_
 refine w_mv ei ?_
 refine w_val (y_bin ei Ev.c b_neq) ?_
 refine nt ?_
 refine c_ff eb ?_
 refine wp_skip ?_
 refine then_n ?_
 refine wp_seq ?_
 refine sr ?_
 refine w_mv es ?_
 refine w_val (y_len es Try.underlying9) ?_
 refine w_val (y_bin ei Ev.c b_lss) ?_
 refine w_mv eb ?_
 by_cases hc2 : ((nonce.length : Nat) : Int) < 7
 ·skip
  with_reducible refine w_skip ?_ ?_
  exact wn rfl rfl (eb (dt hc2))
  with_reducible refine w_skip ?_ ?_
  exact wn rfl rfl (eb (dt hc2))
  with_reducible refine w_skip ?_ ?_
  exact wn rfl rfl (eb (dt hc2))
  refine w_val (y_pick_t (eb (dt hc2)) Ev.c) ?_
  refine nt ?_
  refine c_tt eb ?_
  refine sr ?_
  refine w_as Ev.c ?_
  refine nt ?_
  refine wp_ret ?_
  refine then_r ?_
  refine fin_ret1 rfl ei ?_
  refine ⟨congrArg Ending.returned ?_, hk⟩
  show (.int .i64 4 : Value) = .int .i64 5
  first | with_reducible rfl | (with_reducible congr 1 <;> omega) | (with_reducible congr 2 <;> omega) | (with_reducible congr 3 <;> omega) | rfl
 ·skip
  refine w_val_g (v := .string (str nonce)) (wy rfl rfl (eb (df hc2))) (y_mv es) ?_
  refine w_val_g (wy rfl rfl (eb (df hc2))) (y_len es Try.underlying9) ?_
  refine w_val_g (wy rfl rfl (eb (df hc2))) (y_bin ei Ev.c b_gtr) ?_
  refine w_val (y_pick_f (eb (df hc2)) eb) ?_
  refine nt ?_
  refine c_if (p := 13 < ((nonce.length : Nat) : Int)) eb (fun hc3 => ?_) (fun hc3 => ?_)
  ·skip
   refine sr ?_
   refine w_as Ev.c ?_
   refine nt ?_
   refine wp_ret ?_
   refine then_r ?_
   refine fin_ret1 rfl ei ?_
   refine ⟨congrArg Ending.returned ?_, hk⟩
   show (.int .i64 4 : Value) = .int .i64 5
   first | with_reducible rfl | (with_reducible congr 1 <;> omega) | (with_reducible congr 2 <;> omega) | (with_reducible congr 3 <;> omega) | rfl
  ·skip
   refine wp_skip ?_
   refine then_n ?_
   refine wp_seq ?_
   refine sr ?_
   refine w_mv ei ?_
   refine nt ?_
   refine wp_block ?_
   refine wp_seq ?_
   refine wp_block ?_
   refine wp_block ?_
   refine wp_block ?_
   refine ss ?_
   refine sr ?_
   refine w_val (y_bin ei Ev.c b_eql) ?_
   refine w_as eb ?_
   refine nt ?_
   have hc4 : ¬ (size = 4) := by omega
   refine c_f (p := size = 4) eb hc4 ?_
   refine wp_skip ?_
   refine then_n ?_
   refine ss ?_
   refine sr ?_
   refine w_val (y_bin ei Ev.c b_eql) ?_
   refine w_as eb ?_
   refine nt ?_
   have hc5 : ¬ (size = 6) := by omega
   refine c_f (p := size = 6) eb hc5 ?_
   refine sr ?_
   refine w_val (y_bin ei Ev.c b_eql) ?_
   refine w_as eb ?_
   refine nt ?_
   have hc6 : ¬ (size = 8) := by omega
   refine c_f (p := size = 8) eb hc6 ?_
   refine wp_region_lit ?_
   refine w_val (y_bin ei Ev.c b_eql) ?_
   refine w_as eb ?_
   refine nt ?_
   have hc7 : ¬ (size = 10) := by omega
   refine c_f (p := size = 10) eb hc7 ?_
   refine wp_skip ?_
   refine then_n ?_
   refine wp_seq ?_
   refine sr ?_
   refine w_val (y_bin ei Ev.c b_eql) ?_
   refine w_as eb ?_
   refine nt ?_
   have hc8 : ¬ (size = 12) := by omega
   refine c_f (p := size = 12) eb hc8 ?_
   refine sr ?_
   refine w_val (y_bin ei Ev.c b_eql) ?_
   refine w_as eb ?_
   refine nt ?_
   have hc9 : ¬ (size = 14) := by omega
   refine c_f (p := size = 14) eb hc9 ?_
   refine wp_region_lit ?_
   refine w_val (y_bin ei Ev.c b_eql) ?_
   refine w_as eb ?_
   refine nt ?_
   have hc10 : ¬ (size = 16) := by omega
   refine c_f (p := size = 16) eb hc10 ?_
   refine wp_skip ?_
   refine then_n ?_
   refine wp_exit ?_
   refine inb_y rfl ?_
   refine inb_y rfl ?_
   refine inb_y rfl ?_
   refine then_x ?_
   refine inb_x ?_
   refine then_n ?_
   refine sr ?_
   refine w_as Ev.c ?_
   refine nt ?_
   refine wp_ret ?_
   refine fin_ret1 rfl ei ?_
   exact ⟨rfl, hk⟩

theorem cmWrong_a (key nonce aad : List (BitVec 8)) (size : Nat) (hok : Aes.okKey key.length) (hn : 7 ≤ nonce.length ∧ nonce.length ≤ 13) (h4 : 4 ≤ size) (h16 : size ≤ 16) (hev : size % 2 = 0) (ha : 70000 < aad.length) (w0 : World) : Calls Try.prog 69 #[.string (str key), .string (str nonce), .string (str aad), .int .i64 ((size : Nat) : Int)] w0 fun e w' => e = .returned (.int .i64 6) ∧ Below w0.heap.size w0 w' := by
 refine enter (n := 41) Try.func69 rfl rfl rfl ?_
 have hk : Below w0.heap.size w0 w0 := Below.refl _ _
 refine sr ?_
 refine w_as Ev.c ?_
 refine nt ?_
 refine wp_seq ?_
 refine sr ?_
 refine w_mv es ?_
 refine w_call (Try.func62) (by kernel_rfl) rfl (m1 es) (new_l key w0 hok) ?_
 rintro _ w1 ⟨p, rfl, hge_p, hc, hb_p⟩
 refine ⟨_, rfl, ?_⟩
 have ge_p : w0.heap.size ≤ p := by have := hk.size; omega
 replace hk := thenB hk hb_p
 refine w_mv (ex (.tuple #[pt p 0, .int .i64 0])) ?_
 refine w_val ye ?_
 refine w_val ye ?_
 refine w_as (ex (pt p 0)) ?_
 refine w_as ei ?_
 refine nt ?_
 refine sr ?_
 refine w_mv ei ?_
 refine w_val (y_bin ei Ev.c b_neq) ?_
 refine nt ?_
 refine c_ff eb ?_
 refine wp_skip ?_
 refine then_n ?_
 refine wp_seq ?_
 refine sr ?_
 refine w_mv es ?_
 refine w_val (y_len es Try.underlying9) ?_
 refine w_val (y_bin ei Ev.c b_lss) ?_
 refine w_mv eb ?_
 by_cases hc2 : ((nonce.length : Nat) : Int) < 7
 ·skip
  with_reducible refine w_skip ?_ ?_
  exact wn rfl rfl (eb (dt hc2))
  with_reducible refine w_skip ?_ ?_
  exact wn rfl rfl (eb (dt hc2))
  with_reducible refine w_skip ?_ ?_
  exact wn rfl rfl (eb (dt hc2))
  refine w_val (y_pick_t (eb (dt hc2)) Ev.c) ?_
  refine nt ?_
  refine c_tt eb ?_
  refine wp_seq ?_
  exfalso; omega
 ·skip
  refine w_val_g (v := .string (str nonce)) (wy rfl rfl (eb (df hc2))) (y_mv es) ?_
  refine w_val_g (wy rfl rfl (eb (df hc2))) (y_len es Try.underlying9) ?_
  refine w_val_g (wy rfl rfl (eb (df hc2))) (y_bin ei Ev.c b_gtr) ?_
  refine w_val (y_pick_f (eb (df hc2)) eb) ?_
  refine nt ?_
  refine c_if (p := 13 < ((nonce.length : Nat) : Int)) eb (fun hc3 => ?_) (fun hc3 => ?_)
  ·skip
   refine wp_seq ?_
   exfalso; omega
  ·skip
   refine wp_skip ?_
   refine then_n ?_
   refine wp_seq ?_
   refine sr ?_
   refine w_mv ei ?_
   refine nt ?_
   refine wp_block ?_
   refine wp_seq ?_
   refine wp_block ?_
   refine wp_block ?_
   refine wp_block ?_
   refine ss ?_
   refine sr ?_
   refine w_val (y_bin ei Ev.c b_eql) ?_
   refine w_as eb ?_
   refine nt ?_
   refine c_if (p := ((size : Nat) : Int) = 4) eb (fun hc4 => ?_) (fun hc4 => ?_)
   ·skip
    refine wp_exit ?_
    refine then_x ?_
    refine then_x ?_
    refine inb_x ?_
    refine inb_n ?_
    refine inb_n ?_
    refine then_n ?_
    refine ss ?_
    refine sr ?_
    refine w_mv es ?_
    refine w_val (y_len es Try.underlying9) ?_
    refine w_val (y_bin ei Ev.c b_gtr) ?_
    refine nt ?_
    have hc5 : 70000 < ((aad.length : Nat) : Int) := by omega
    refine c_t (p := 70000 < ((aad.length : Nat) : Int)) eb hc5 ?_
    refine sr ?_
    refine w_as Ev.c ?_
    refine nt ?_
    refine wp_ret ?_
    refine then_r ?_
    refine then_r ?_
    refine inb_r ?_
    refine then_r ?_
    refine fin_ret1 rfl ei ?_
    exact ⟨rfl, hk⟩
   ·skip
    refine wp_skip ?_
    refine then_n ?_
    refine ss ?_
    refine sr ?_
    refine w_val (y_bin ei Ev.c b_eql) ?_
    refine w_as eb ?_
    refine nt ?_
    refine c_if (p := ((size : Nat) : Int) = 6) eb (fun hc6 => ?_) (fun hc6 => ?_)
    ·skip
     refine wp_skip ?_
     refine then_n ?_
     refine c_tt (eb (dt hc6)) ?_
     refine wp_exit ?_
     refine then_x ?_
     refine then_x ?_
     refine inb_y rfl ?_
     refine inb_x ?_
     refine inb_n ?_
     refine then_n ?_
     refine ss ?_
     refine sr ?_
     refine w_mv es ?_
     refine w_val (y_len es Try.underlying9) ?_
     refine w_val (y_bin ei Ev.c b_gtr) ?_
     refine nt ?_
     have hc7 : 70000 < ((aad.length : Nat) : Int) := by omega
     refine c_t (p := 70000 < ((aad.length : Nat) : Int)) eb hc7 ?_
     refine sr ?_
     refine w_as Ev.c ?_
     refine nt ?_
     refine wp_ret ?_
     refine then_r ?_
     refine then_r ?_
     refine inb_r ?_
     refine then_r ?_
     refine fin_ret1 rfl ei ?_
     exact ⟨rfl, hk⟩
    ·skip
     refine sr ?_
     refine w_val (y_bin ei Ev.c b_eql) ?_
     refine w_as eb ?_
     refine nt ?_
     refine c_if (p := ((size : Nat) : Int) = 8) eb (fun hc8 => ?_) (fun hc8 => ?_)
     ·skip
      refine wp_skip ?_
      refine then_n ?_
      refine c_tt (eb (dt hc8)) ?_
      refine wp_exit ?_
      refine then_x ?_
      refine then_x ?_
      refine inb_y rfl ?_
      refine inb_x ?_
      refine inb_n ?_
      refine then_n ?_
      refine ss ?_
      refine sr ?_
      refine w_mv es ?_
      refine w_val (y_len es Try.underlying9) ?_
      refine w_val (y_bin ei Ev.c b_gtr) ?_
      refine nt ?_
      have hc9 : 70000 < ((aad.length : Nat) : Int) := by omega
      refine c_t (p := 70000 < ((aad.length : Nat) : Int)) eb hc9 ?_
      refine sr ?_
      refine w_as Ev.c ?_
      refine nt ?_
      refine wp_ret ?_
      refine then_r ?_
      refine then_r ?_
      refine inb_r ?_
      refine then_r ?_
      refine fin_ret1 rfl ei ?_
      exact ⟨rfl, hk⟩
     ·skip
      refine wp_region_lit ?_
      refine w_val (y_bin ei Ev.c b_eql) ?_
      refine w_as eb ?_
      refine nt ?_
      refine c_if (p := ((size : Nat) : Int) = 10) eb (fun hc10 => ?_) (fun hc10 => ?_)
      ·skip
       refine wp_exit ?_
       refine then_x ?_
       refine then_x ?_
       refine inb_y rfl ?_
       refine inb_x ?_
       refine inb_n ?_
       refine then_n ?_
       refine ss ?_
       refine sr ?_
       refine w_mv es ?_
       refine w_val (y_len es Try.underlying9) ?_
       refine w_val (y_bin ei Ev.c b_gtr) ?_
       refine nt ?_
       have hc11 : 70000 < ((aad.length : Nat) : Int) := by omega
       refine c_t (p := 70000 < ((aad.length : Nat) : Int)) eb hc11 ?_
       refine sr ?_
       refine w_as Ev.c ?_
       refine nt ?_
       refine wp_ret ?_
       refine then_r ?_
       refine then_r ?_
       refine inb_r ?_
       refine then_r ?_
       refine fin_ret1 rfl ei ?_
       exact ⟨rfl, hk⟩
      ·skip
       refine wp_skip ?_
       refine then_n ?_
       refine wp_seq ?_
       refine sr ?_
       refine w_val (y_bin ei Ev.c b_eql) ?_
       refine w_as eb ?_
       refine nt ?_
       refine c_if (p := ((size : Nat) : Int) = 12) eb (fun hc12 => ?_) (fun hc12 => ?_)
       ·skip
        refine wp_skip ?_
        refine then_n ?_
        refine c_tt (eb (dt hc12)) ?_
        refine wp_exit ?_
        refine then_x ?_
        refine inb_y rfl ?_
        refine inb_y rfl ?_
        refine inb_x ?_
        refine then_n ?_
        refine ss ?_
        refine sr ?_
        refine w_mv es ?_
        refine w_val (y_len es Try.underlying9) ?_
        refine w_val (y_bin ei Ev.c b_gtr) ?_
        refine nt ?_
        have hc13 : 70000 < ((aad.length : Nat) : Int) := by omega
        refine c_t (p := 70000 < ((aad.length : Nat) : Int)) eb hc13 ?_
        refine sr ?_
        refine w_as Ev.c ?_
        refine nt ?_
        refine wp_ret ?_
        refine then_r ?_
        refine then_r ?_
        refine inb_r ?_
        refine then_r ?_
        refine fin_ret1 rfl ei ?_
        exact ⟨rfl, hk⟩
       ·skip
        refine sr ?_
        refine w_val (y_bin ei Ev.c b_eql) ?_
        refine w_as eb ?_
        refine nt ?_
        refine c_if (p := ((size : Nat) : Int) = 14) eb (fun hc14 => ?_) (fun hc14 => ?_)
        ·skip
         refine wp_skip ?_
         refine then_n ?_
         refine c_tt (eb (dt hc14)) ?_
         refine wp_exit ?_
         refine then_x ?_
         refine inb_y rfl ?_
         refine inb_y rfl ?_
         refine inb_x ?_
         refine then_n ?_
         refine ss ?_
         refine sr ?_
         refine w_mv es ?_
         refine w_val (y_len es Try.underlying9) ?_
         refine w_val (y_bin ei Ev.c b_gtr) ?_
         refine nt ?_
         have hc15 : 70000 < ((aad.length : Nat) : Int) := by omega
         refine c_t (p := 70000 < ((aad.length : Nat) : Int)) eb hc15 ?_
         refine sr ?_
         refine w_as Ev.c ?_
         refine nt ?_
         refine wp_ret ?_
         refine then_r ?_
         refine then_r ?_
         refine inb_r ?_
         refine then_r ?_
         refine fin_ret1 rfl ei ?_
         exact ⟨rfl, hk⟩
        ·skip
         refine wp_region_lit ?_
         refine w_val (y_bin ei Ev.c b_eql) ?_
         refine w_as eb ?_
         refine nt ?_
         refine c_if (p := ((size : Nat) : Int) = 16) eb (fun hc16 => ?_) (fun hc16 => ?_)
         ·skip
          refine wp_exit ?_
          refine then_x ?_
          refine inb_y rfl ?_
          refine inb_y rfl ?_
          refine inb_x ?_
          refine then_n ?_
          refine ss ?_
          refine sr ?_
          refine w_mv es ?_
          refine w_val (y_len es Try.underlying9) ?_
          refine w_val (y_bin ei Ev.c b_gtr) ?_
          refine nt ?_
          have hc17 : 70000 < ((aad.length : Nat) : Int) := by omega
          refine c_t (p := 70000 < ((aad.length : Nat) : Int)) eb hc17 ?_
          refine sr ?_
          refine w_as Ev.c ?_
          refine nt ?_
          refine wp_ret ?_
          refine then_r ?_
          refine then_r ?_
          refine inb_r ?_
          refine then_r ?_
          refine fin_ret1 rfl ei ?_
          exact ⟨rfl, hk⟩
         ·skip
          refine wp_skip ?_
          refine then_n ?_
          refine wp_exit ?_
          refine inb_y rfl ?_
          refine inb_y rfl ?_
          refine inb_y rfl ?_
          refine then_x ?_
          refine inb_x ?_
          refine then_n ?_
          refine wp_seq ?_
          exfalso; omega

theorem cmWrong_y (key nonce aad : List (BitVec 8)) (size : Nat) (hok : Aes.okKey key.length) (hn : 7 ≤ nonce.length ∧ nonce.length ≤ 13) (h4 : 4 ≤ size) (h16 : size ≤ 16) (hev : size % 2 = 0) (ha : aad.length ≤ 70000) (w0 : World) : Calls Try.prog 69 #[.string (str key), .string (str nonce), .string (str aad), .int .i64 ((size : Nat) : Int)] w0 fun e w' => e = .returned (.int .i64 0) ∧ Below w0.heap.size w0 w' := by
 refine enter (n := 41) Try.func69 rfl rfl rfl ?_
 have hk : Below w0.heap.size w0 w0 := Below.refl _ _
 refine sr ?_
 refine w_as Ev.c ?_
 refine nt ?_
 refine wp_seq ?_
 refine sr ?_
 refine w_mv es ?_
 refine w_call (Try.func62) (by kernel_rfl) rfl (m1 es) (new_l key w0 hok) ?_
 rintro _ w1 ⟨p, rfl, hge_p, hc, hb_p⟩
 refine ⟨_, rfl, ?_⟩
 have ge_p : w0.heap.size ≤ p := by have := hk.size; omega
 replace hk := thenB hk hb_p
 refine w_mv (ex (.tuple #[pt p 0, .int .i64 0])) ?_
 refine w_val ye ?_
 refine w_val ye ?_
 refine w_as (ex (pt p 0)) ?_
 refine w_as ei ?_
 refine nt ?_
 refine sr ?_
 refine w_mv ei ?_
 refine w_val (y_bin ei Ev.c b_neq) ?_
 refine nt ?_
 refine c_ff eb ?_
 refine wp_skip ?_
 refine then_n ?_
 refine wp_seq ?_
 refine sr ?_
 refine w_mv es ?_
 refine w_val (y_len es Try.underlying9) ?_
 refine w_val (y_bin ei Ev.c b_lss) ?_
 refine w_mv eb ?_
 by_cases hc2 : ((nonce.length : Nat) : Int) < 7
 ·skip
  with_reducible refine w_skip ?_ ?_
  exact wn rfl rfl (eb (dt hc2))
  with_reducible refine w_skip ?_ ?_
  exact wn rfl rfl (eb (dt hc2))
  with_reducible refine w_skip ?_ ?_
  exact wn rfl rfl (eb (dt hc2))
  refine w_val (y_pick_t (eb (dt hc2)) Ev.c) ?_
  refine nt ?_
  refine c_tt eb ?_
  refine wp_seq ?_
  exfalso; omega
 ·skip
  refine w_val_g (v := .string (str nonce)) (wy rfl rfl (eb (df hc2))) (y_mv es) ?_
  refine w_val_g (wy rfl rfl (eb (df hc2))) (y_len es Try.underlying9) ?_
  refine w_val_g (wy rfl rfl (eb (df hc2))) (y_bin ei Ev.c b_gtr) ?_
  refine w_val (y_pick_f (eb (df hc2)) eb) ?_
  refine nt ?_
  refine c_if (p := 13 < ((nonce.length : Nat) : Int)) eb (fun hc3 => ?_) (fun hc3 => ?_)
  ·skip
   refine wp_seq ?_
   exfalso; omega
  ·skip
   refine wp_skip ?_
   refine then_n ?_
   refine wp_seq ?_
   refine sr ?_
   refine w_mv ei ?_
   refine nt ?_
   refine wp_block ?_
   refine wp_seq ?_
   refine wp_block ?_
   refine wp_block ?_
   refine wp_block ?_
   refine ss ?_
   refine sr ?_
   refine w_val (y_bin ei Ev.c b_eql) ?_
   refine w_as eb ?_
   refine nt ?_
   refine c_if (p := ((size : Nat) : Int) = 4) eb (fun hc4 => ?_) (fun hc4 => ?_)
   ·skip
    refine wp_exit ?_
    refine then_x ?_
    refine then_x ?_
    refine inb_x ?_
    refine inb_n ?_
    refine inb_n ?_
    refine then_n ?_
    refine ss ?_
    refine sr ?_
    refine w_mv es ?_
    refine w_val (y_len es Try.underlying9) ?_
    refine w_val (y_bin ei Ev.c b_gtr) ?_
    refine nt ?_
    have hc5 : ¬ (70000 < ((aad.length : Nat) : Int)) := by omega
    refine c_f (p := 70000 < ((aad.length : Nat) : Int)) eb hc5 ?_
    refine wp_skip ?_
    refine then_n ?_
    refine sr ?_
    refine w_as Ev.c ?_
    refine nt ?_
    refine wp_ret ?_
    refine then_r ?_
    refine inb_r ?_
    refine then_r ?_
    refine fin_ret1 rfl ei ?_
    exact ⟨rfl, hk⟩
   ·skip
    refine wp_skip ?_
    refine then_n ?_
    refine ss ?_
    refine sr ?_
    refine w_val (y_bin ei Ev.c b_eql) ?_
    refine w_as eb ?_
    refine nt ?_
    refine c_if (p := ((size : Nat) : Int) = 6) eb (fun hc6 => ?_) (fun hc6 => ?_)
    ·skip
     refine wp_skip ?_
     refine then_n ?_
     refine c_tt (eb (dt hc6)) ?_
     refine wp_exit ?_
     refine then_x ?_
     refine then_x ?_
     refine inb_y rfl ?_
     refine inb_x ?_
     refine inb_n ?_
     refine then_n ?_
     refine ss ?_
     refine sr ?_
     refine w_mv es ?_
     refine w_val (y_len es Try.underlying9) ?_
     refine w_val (y_bin ei Ev.c b_gtr) ?_
     refine nt ?_
     have hc7 : ¬ (70000 < ((aad.length : Nat) : Int)) := by omega
     refine c_f (p := 70000 < ((aad.length : Nat) : Int)) eb hc7 ?_
     refine wp_skip ?_
     refine then_n ?_
     refine sr ?_
     refine w_as Ev.c ?_
     refine nt ?_
     refine wp_ret ?_
     refine then_r ?_
     refine inb_r ?_
     refine then_r ?_
     refine fin_ret1 rfl ei ?_
     exact ⟨rfl, hk⟩
    ·skip
     refine sr ?_
     refine w_val (y_bin ei Ev.c b_eql) ?_
     refine w_as eb ?_
     refine nt ?_
     refine c_if (p := ((size : Nat) : Int) = 8) eb (fun hc8 => ?_) (fun hc8 => ?_)
     ·skip
      refine wp_skip ?_
      refine then_n ?_
      refine c_tt (eb (dt hc8)) ?_
      refine wp_exit ?_
      refine then_x ?_
      refine then_x ?_
      refine inb_y rfl ?_
      refine inb_x ?_
      refine inb_n ?_
      refine then_n ?_
      refine ss ?_
      refine sr ?_
      refine w_mv es ?_
      refine w_val (y_len es Try.underlying9) ?_
      refine w_val (y_bin ei Ev.c b_gtr) ?_
      refine nt ?_
      have hc9 : ¬ (70000 < ((aad.length : Nat) : Int)) := by omega
      refine c_f (p := 70000 < ((aad.length : Nat) : Int)) eb hc9 ?_
      refine wp_skip ?_
      refine then_n ?_
      refine sr ?_
      refine w_as Ev.c ?_
      refine nt ?_
      refine wp_ret ?_
      refine then_r ?_
      refine inb_r ?_
      refine then_r ?_
      refine fin_ret1 rfl ei ?_
      exact ⟨rfl, hk⟩
     ·skip
      refine wp_region_lit ?_
      refine w_val (y_bin ei Ev.c b_eql) ?_
      refine w_as eb ?_
      refine nt ?_
      refine c_if (p := ((size : Nat) : Int) = 10) eb (fun hc10 => ?_) (fun hc10 => ?_)
      ·skip
       refine wp_exit ?_
       refine then_x ?_
       refine then_x ?_
       refine inb_y rfl ?_
       refine inb_x ?_
       refine inb_n ?_
       refine then_n ?_
       refine ss ?_
       refine sr ?_
       refine w_mv es ?_
       refine w_val (y_len es Try.underlying9) ?_
       refine w_val (y_bin ei Ev.c b_gtr) ?_
       refine nt ?_
       have hc11 : ¬ (70000 < ((aad.length : Nat) : Int)) := by omega
       refine c_f (p := 70000 < ((aad.length : Nat) : Int)) eb hc11 ?_
       refine wp_skip ?_
       refine then_n ?_
       refine sr ?_
       refine w_as Ev.c ?_
       refine nt ?_
       refine wp_ret ?_
       refine then_r ?_
       refine inb_r ?_
       refine then_r ?_
       refine fin_ret1 rfl ei ?_
       exact ⟨rfl, hk⟩
      ·skip
       refine wp_skip ?_
       refine then_n ?_
       refine wp_seq ?_
       refine sr ?_
       refine w_val (y_bin ei Ev.c b_eql) ?_
       refine w_as eb ?_
       refine nt ?_
       refine c_if (p := ((size : Nat) : Int) = 12) eb (fun hc12 => ?_) (fun hc12 => ?_)
       ·skip
        refine wp_skip ?_
        refine then_n ?_
        refine c_tt (eb (dt hc12)) ?_
        refine wp_exit ?_
        refine then_x ?_
        refine inb_y rfl ?_
        refine inb_y rfl ?_
        refine inb_x ?_
        refine then_n ?_
        refine ss ?_
        refine sr ?_
        refine w_mv es ?_
        refine w_val (y_len es Try.underlying9) ?_
        refine w_val (y_bin ei Ev.c b_gtr) ?_
        refine nt ?_
        have hc13 : ¬ (70000 < ((aad.length : Nat) : Int)) := by omega
        refine c_f (p := 70000 < ((aad.length : Nat) : Int)) eb hc13 ?_
        refine wp_skip ?_
        refine then_n ?_
        refine sr ?_
        refine w_as Ev.c ?_
        refine nt ?_
        refine wp_ret ?_
        refine then_r ?_
        refine inb_r ?_
        refine then_r ?_
        refine fin_ret1 rfl ei ?_
        exact ⟨rfl, hk⟩
       ·skip
        refine sr ?_
        refine w_val (y_bin ei Ev.c b_eql) ?_
        refine w_as eb ?_
        refine nt ?_
        refine c_if (p := ((size : Nat) : Int) = 14) eb (fun hc14 => ?_) (fun hc14 => ?_)
        ·skip
         refine wp_skip ?_
         refine then_n ?_
         refine c_tt (eb (dt hc14)) ?_
         refine wp_exit ?_
         refine then_x ?_
         refine inb_y rfl ?_
         refine inb_y rfl ?_
         refine inb_x ?_
         refine then_n ?_
         refine ss ?_
         refine sr ?_
         refine w_mv es ?_
         refine w_val (y_len es Try.underlying9) ?_
         refine w_val (y_bin ei Ev.c b_gtr) ?_
         refine nt ?_
         have hc15 : ¬ (70000 < ((aad.length : Nat) : Int)) := by omega
         refine c_f (p := 70000 < ((aad.length : Nat) : Int)) eb hc15 ?_
         refine wp_skip ?_
         refine then_n ?_
         refine sr ?_
         refine w_as Ev.c ?_
         refine nt ?_
         refine wp_ret ?_
         refine then_r ?_
         refine inb_r ?_
         refine then_r ?_
         refine fin_ret1 rfl ei ?_
         exact ⟨rfl, hk⟩
        ·skip
         refine wp_region_lit ?_
         refine w_val (y_bin ei Ev.c b_eql) ?_
         refine w_as eb ?_
         refine nt ?_
         refine c_if (p := ((size : Nat) : Int) = 16) eb (fun hc16 => ?_) (fun hc16 => ?_)
         ·skip
          refine wp_exit ?_
          refine then_x ?_
          refine inb_y rfl ?_
          refine inb_y rfl ?_
          refine inb_x ?_
          refine then_n ?_
          refine ss ?_
          refine sr ?_
          refine w_mv es ?_
          refine w_val (y_len es Try.underlying9) ?_
          refine w_val (y_bin ei Ev.c b_gtr) ?_
          refine nt ?_
          have hc17 : ¬ (70000 < ((aad.length : Nat) : Int)) := by omega
          refine c_f (p := 70000 < ((aad.length : Nat) : Int)) eb hc17 ?_
          refine wp_skip ?_
          refine then_n ?_
          refine sr ?_
          refine w_as Ev.c ?_
          refine nt ?_
          refine wp_ret ?_
          refine then_r ?_
          refine inb_r ?_
          refine then_r ?_
          refine fin_ret1 rfl ei ?_
          exact ⟨rfl, hk⟩
         ·skip
          refine wp_skip ?_
          refine then_n ?_
          refine wp_exit ?_
          refine inb_y rfl ?_
          refine inb_y rfl ?_
          refine inb_y rfl ?_
          refine then_x ?_
          refine inb_x ?_
          refine then_n ?_
          refine wp_seq ?_
          exfalso; omega
end Go.Proofs.Ytjdcpejcnmpiaaa
