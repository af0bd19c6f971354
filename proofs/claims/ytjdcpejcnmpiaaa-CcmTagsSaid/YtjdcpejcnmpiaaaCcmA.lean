/-
  Numbers, counters, what is beside, what is wrong: by the program. Conditions as each says.
-/
import Derived.Test.YtjdcpejcnmpiaaaRows
import Derived.Test.YtjdcpejcnmpiaaaGenMore
import Derived.Test.YtjdcpejcnmpiaaaGenSl
import Derived.Test.YtjdcpejcnmpiaaaOctW
import Derived.Test.YtjdcpejcnmpiaaaCcmPlain
import Derived.Test.YtjdcpejcnmpiaaaRep
import Derived.ProofKit
namespace Go.Proofs.Ytjdcpejcnmpiaaa
open Go.RowKit
set_option linter.unusedSimpArgs false
set_option linter.unusedVariables false
namespace CcmAT
theorem mixed : Try.prog.follows .mixedOrders = true := by kernel_rfl
theorem so3 : (Try.prog.underlying 3).isSome = true := by rw [Try.underlying3]; rfl
end CcmAT
set_option maxRecDepth 100000 in
set_option maxHeartbeats 1000000 in
theorem cmNumber (n q : Nat) (h1 : 1 ≤ q) (h8 : q ≤ 8) (hn : n < 2 ^ (8 * q)) (hm : n ≤ 1000000) (w0 : World) : Calls Try.prog 96 #[.int .i64 ((n : Nat) : Int), .int .i64 ((q : Nat) : Int)] w0 fun e w' => e = .returned (.string (str (Cm.num n q))) ∧ Below w0.heap.size w0 w' := by
 refine enter (n := 16) Try.func96 rfl rfl rfl ?_
 have hk : Below w0.heap.size w0 w0 := Below.refl _ _
 refine sr ?_
 refine w_as (evc (.string (str ([] : List (BitVec 8))))) ?_
 refine nt ?_
 refine sr ?_
 refine w_mv (ev (.int .i64 ((n : Nat) : Int)) rfl rfl) ?_
 refine w_val (y_nat_u64 (p := n) (ev (.int .i64 ((n : Nat) : Int)) rfl rfl) (by omega) CcmAT.so3 Try.underlying129) ?_
 refine w_mv (ev (.int .i64 ((q : Nat) : Int)) rfl rfl) ?_
 refine w_val (v := .int .i64 (min ((q : Nat) : Int) 8)) (y_min (ev (.int .i64 ((q : Nat) : Int)) rfl rfl) (evc (.int .i64 8))) ?_
 refine w_call (Try.func115) (by kernel_rfl) rfl (m2 (ev (U64 (BitVec.ofNat 64 n)) rfl rfl) (ev (.int .i64 ((q : Nat) : Int)) (Eq.trans (b := .int .i64 (min ((q : Nat) : Int) 8)) rfl (by congr 1; omega)) rfl)) (put_c (BitVec.ofNat 64 n) q h1 h8 (fun _ => Cm.shr_zero n q hn) w0) ?_
 rintro _ w1 ⟨rfl, hb2⟩
 refine ⟨_, rfl, ?_⟩
 replace hk := thenB hk hb2
 refine w_mv (ev (.tuple #[.string (str (Cm.num n q)), .int .i64 0]) rfl rfl) ?_
 refine w_val (y_ext (v := .string (str (Cm.num n q))) (ev (.tuple #[.string (str (Cm.num n q)), .int .i64 0]) rfl rfl) rfl) ?_
 refine w_val (y_ext (v := .int .i64 0) (ev (.tuple #[.string (str (Cm.num n q)), .int .i64 0]) rfl rfl) rfl) ?_
 refine w_as (ev (.string (str (Cm.num n q))) rfl rfl) ?_
 refine w_as (ev (.int .i64 0) rfl rfl) ?_
 refine nt ?_
 refine sr ?_
 refine w_mv (ev (.string (str (Cm.num n q))) rfl rfl) ?_
 refine w_as (ev (.string (str (Cm.num n q))) rfl rfl) ?_
 refine nt ?_
 refine wp_ret ?_
 refine fin_ret1 rfl (ev (.string (str (Cm.num n q))) rfl rfl) ?_
 exact ⟨rfl, hk⟩

set_option maxRecDepth 100000 in
set_option maxHeartbeats 1000000 in
theorem cmCounter (nonce : List (BitVec 8)) (q : Nat) (hq : nonce.length + q = 15) (h2 : 2 ≤ q) (h8 : q ≤ 8) (w0 : World) : Calls Try.prog 94 #[.string (str nonce)] w0 fun e w' => e = .returned (.string (str (Cm.cnt nonce q 0))) ∧ Below w0.heap.size w0 w' := by
 refine enter (n := 17) Try.func94 rfl rfl rfl ?_
 have hk : Below w0.heap.size w0 w0 := Below.refl _ _
 refine sr ?_
 refine w_as (evc (.string (str ([] : List (BitVec 8))))) ?_
 refine nt ?_
 refine sr ?_
 refine w_mv (ev (.string (str nonce)) rfl rfl) ?_
 refine w_val (y_len (ev (.string (str nonce)) rfl rfl) Try.underlying9) ?_
 refine w_val (y_bin (evc (.int .i64 15)) (ev (.int .i64 ((nonce.length : Nat) : Int)) rfl rfl) (b_sub (by omega))) ?_
 refine w_as (ev (.int .i64 (15 - ((nonce.length : Nat) : Int))) rfl rfl) ?_
 refine nt ?_
 refine wp_seq ?_
 refine region_dc (Nat.testBit 0) 11 CcmAT.mixed rfl ?_
 intro w1 hb2
 replace hk := thenB hk hb2
 have hS : Cls w1 w1 := Below.refl _ _
 refine d_pure (v := .int .i64 ((q : Nat) : Int)) 0 rfl (by kernel_rfl) (by kernel_rfl) (by kernel_rfl) (by kernel_rfl) (fun _ _ _ h => h) (fun w' => y_mv (ev (.int .i64 ((q : Nat) : Int)) (Eq.trans (b := .int .i64 (15 - ((nonce.length : Nat) : Int))) rfl (by congr 1; omega)) rfl)) ?_
 refine d_pure (v := .int .i64 (((q : Nat) : Int) - 1)) 1 rfl (by kernel_rfl) (by kernel_rfl) (by kernel_rfl) (by kernel_rfl) (fun _ _ _ h => h) (fun w' => y_bin (ev (.int .i64 ((q : Nat) : Int)) rfl rfl) (evc (.int .i64 1)) (b_sub (by omega))) ?_
 refine d_pure (v := U8 (BitVec.ofNat 8 (q - 1))) 2 rfl (by kernel_rfl) (by kernel_rfl) (by kernel_rfl) (by kernel_rfl) (fun _ _ _ h => h) (fun w' => y_nat_u8 (p := (q - 1)) (ev (.int .i64 (((q : Nat) : Int) - 1)) rfl rfl) (by omega) CcmAT.so3 Try.underlying5) ?_
 refine d_pure (v := .string (str nonce)) 5 rfl (by kernel_rfl) (by kernel_rfl) (by kernel_rfl) (by kernel_rfl) (fun _ _ _ h => h) (fun w' => y_mv (ev (.string (str nonce)) rfl rfl)) ?_
 refine d_pure (v := .int .i64 ((q : Nat) : Int)) 7 rfl (by kernel_rfl) (by kernel_rfl) (by kernel_rfl) (by kernel_rfl) (fun _ _ _ h => h) (fun w' => y_mv (ev (.int .i64 ((q : Nat) : Int)) (Eq.trans (b := .int .i64 (15 - ((nonce.length : Nat) : Int))) rfl (by congr 1; omega)) rfl)) ?_
 refine d_two 3 8 (by kernel_rfl) rfl rfl ?_ ?_
 ·skip
  refine w_bs1 (m := 1) (e := 5) (F := fun j => U8 (BitVec.ofNat 8 (q - 1))) (ev (U8 (BitVec.ofNat 8 (q - 1))) rfl rfl) (fun w => by kernel_rfl) ?_
  intro b_10 w3 hbe_b_10 r_b_10 hb4
  have ge_b_10 : w0.heap.size ≤ b_10 := by have := hk.size; omega
  clear hbe_b_10
  replace hk := thenB hk hb4
  replace hS := thenB hS hb4
  refine wpList_nil ?_
  refine then_n ⟨fun _ h => thenB h (by assumption), ?_⟩
  refine d_two 4 8 (by kernel_rfl) rfl rfl ?_ ?_
  ·skip
   refine w_val (y_str (l := [BitVec.ofNat 8 (q - 1)]) (ev (.slice (some ⟨b_10, 0, none⟩) 1 1) rfl rfl) (by rfl) Try.underlying54 Try.underlying5 Try.underlying9 (fun j hj => (r_b_10.val (by omega) (by (obtain rfl : j = 0 := (by omega)); rfl)))) ?_
   refine wpList_nil ?_
   refine then_n ⟨fun _ h => h, ?_⟩
   refine d_pure (v := .string (str (([BitVec.ofNat 8 (q - 1)]) ++ nonce))) 6 rfl (by kernel_rfl) (by kernel_rfl) (by kernel_rfl) (by kernel_rfl) (fun _ _ _ h => h) (fun w' => y_bin (ev (.string (str ([BitVec.ofNat 8 (q - 1)]))) rfl rfl) (ev (.string (str nonce)) rfl rfl) (b_cat (by simp only [List.length_append, List.length_cons, List.length_nil, Cm.num_len, List.length_replicate]; omega))) ?_
   refine d_one 8 (by kernel_rfl) rfl ?_
   refine w_call (Try.func52) (by kernel_rfl) rfl (m2 (evc (.string (str ([0#8])))) (ev (.int .i64 ((q : Nat) : Int)) rfl rfl)) (rep_c 0#8 q (by omega) w3) ?_
   rintro _ w5 ⟨rfl, hb6⟩
   refine ⟨_, rfl, ?_⟩
   replace r_b_10 := r_b_10.step hb6
   replace hk := thenB hk hb6
   replace hS := thenB hS hb6
   refine wpList_nil ?_
   refine then_n ⟨fun _ h => thenB h (by assumption), ?_⟩
   refine d_pure (v := .string (str ((([BitVec.ofNat 8 (q - 1)]) ++ nonce) ++ (List.replicate q 0#8)))) 9 rfl (by kernel_rfl) (by kernel_rfl) (by kernel_rfl) (by kernel_rfl) (fun _ _ _ h => h) (fun w' => y_bin (ev (.string (str (([BitVec.ofNat 8 (q - 1)]) ++ nonce))) rfl rfl) (ev (.string (str (List.replicate q 0#8))) rfl rfl) (b_cat (by simp only [List.length_append, List.length_cons, List.length_nil, Cm.num_len, List.length_replicate]; omega))) ?_
   refine d_pure (v := .string (str ((([BitVec.ofNat 8 (q - 1)]) ++ nonce) ++ (List.replicate q 0#8)))) 10 rfl (by kernel_rfl) (by kernel_rfl) (by kernel_rfl) (by kernel_rfl) (fun _ _ _ h => h) (fun w' => y_as (ev (.string (str ((([BitVec.ofNat 8 (q - 1)]) ++ nonce) ++ (List.replicate q 0#8)))) rfl rfl)) ?_
   refine d_done (by kernel_rfl) ?_
   clear hS
   refine then_n ?_
   refine wp_ret ?_
   refine fin_ret1 rfl (ev (.string (str ((([BitVec.ofNat 8 (q - 1)]) ++ nonce) ++ (List.replicate q 0#8)))) rfl rfl) ?_
   refine ⟨congrArg Ending.returned ?_, hk⟩
   show (.string (str ((([BitVec.ofNat 8 (q - 1)]) ++ nonce) ++ (List.replicate q 0#8))) : Value) = .string (str (Cm.cnt nonce q 0))
   rw [Cm.cnt0]
  ·skip
   refine w_call (Try.func52) (by kernel_rfl) rfl (m2 (evc (.string (str ([0#8])))) (ev (.int .i64 ((q : Nat) : Int)) rfl rfl)) (rep_c 0#8 q (by omega) w3) ?_
   rintro _ w7 ⟨rfl, hb8⟩
   refine ⟨_, rfl, ?_⟩
   replace r_b_10 := r_b_10.step hb8
   replace hk := thenB hk hb8
   replace hS := thenB hS hb8
   refine wpList_nil ?_
   refine then_n ⟨fun _ h => thenB h (by assumption), ?_⟩
   refine d_one 4 (by kernel_rfl) rfl ?_
   refine w_val (y_str (l := [BitVec.ofNat 8 (q - 1)]) (ev (.slice (some ⟨b_10, 0, none⟩) 1 1) rfl rfl) (by rfl) Try.underlying54 Try.underlying5 Try.underlying9 (fun j hj => (r_b_10.val (by omega) (by (obtain rfl : j = 0 := (by omega)); rfl)))) ?_
   refine wpList_nil ?_
   refine then_n ⟨fun _ h => h, ?_⟩
   refine d_pure (v := .string (str (([BitVec.ofNat 8 (q - 1)]) ++ nonce))) 6 rfl (by kernel_rfl) (by kernel_rfl) (by kernel_rfl) (by kernel_rfl) (fun _ _ _ h => h) (fun w' => y_bin (ev (.string (str ([BitVec.ofNat 8 (q - 1)]))) rfl rfl) (ev (.string (str nonce)) rfl rfl) (b_cat (by simp only [List.length_append, List.length_cons, List.length_nil, Cm.num_len, List.length_replicate]; omega))) ?_
   refine d_pure (v := .string (str ((([BitVec.ofNat 8 (q - 1)]) ++ nonce) ++ (List.replicate q 0#8)))) 9 rfl (by kernel_rfl) (by kernel_rfl) (by kernel_rfl) (by kernel_rfl) (fun _ _ _ h => h) (fun w' => y_bin (ev (.string (str (([BitVec.ofNat 8 (q - 1)]) ++ nonce))) rfl rfl) (ev (.string (str (List.replicate q 0#8))) rfl rfl) (b_cat (by simp only [List.length_append, List.length_cons, List.length_nil, Cm.num_len, List.length_replicate]; omega))) ?_
   refine d_pure (v := .string (str ((([BitVec.ofNat 8 (q - 1)]) ++ nonce) ++ (List.replicate q 0#8)))) 10 rfl (by kernel_rfl) (by kernel_rfl) (by kernel_rfl) (by kernel_rfl) (fun _ _ _ h => h) (fun w' => y_as (ev (.string (str ((([BitVec.ofNat 8 (q - 1)]) ++ nonce) ++ (List.replicate q 0#8)))) rfl rfl)) ?_
   refine d_done (by kernel_rfl) ?_
   clear hS
   refine then_n ?_
   refine wp_ret ?_
   refine fin_ret1 rfl (ev (.string (str ((([BitVec.ofNat 8 (q - 1)]) ++ nonce) ++ (List.replicate q 0#8)))) rfl rfl) ?_
   refine ⟨congrArg Ending.returned ?_, hk⟩
   show (.string (str ((([BitVec.ofNat 8 (q - 1)]) ++ nonce) ++ (List.replicate q 0#8))) : Value) = .string (str (Cm.cnt nonce q 0))
   rw [Cm.cnt0]
 ·skip
  refine w_call (Try.func52) (by kernel_rfl) rfl (m2 (evc (.string (str ([0#8])))) (ev (.int .i64 ((q : Nat) : Int)) rfl rfl)) (rep_c 0#8 q (by omega) w1) ?_
  rintro _ w9 ⟨rfl, hb10⟩
  refine ⟨_, rfl, ?_⟩
  replace hk := thenB hk hb10
  replace hS := thenB hS hb10
  refine wpList_nil ?_
  refine then_n ⟨fun _ h => thenB h (by assumption), ?_⟩
  refine d_one 3 (by kernel_rfl) rfl ?_
  refine w_bs1 (m := 1) (e := 5) (F := fun j => U8 (BitVec.ofNat 8 (q - 1))) (ev (U8 (BitVec.ofNat 8 (q - 1))) rfl rfl) (fun w => by kernel_rfl) ?_
  intro b_10 w11 hbe_b_10 r_b_10 hb12
  have ge_b_10 : w0.heap.size ≤ b_10 := by have := hk.size; omega
  clear hbe_b_10
  replace hk := thenB hk hb12
  replace hS := thenB hS hb12
  refine wpList_nil ?_
  refine then_n ⟨fun _ h => thenB h (by assumption), ?_⟩
  refine d_one 4 (by kernel_rfl) rfl ?_
  refine w_val (y_str (l := [BitVec.ofNat 8 (q - 1)]) (ev (.slice (some ⟨b_10, 0, none⟩) 1 1) rfl rfl) (by rfl) Try.underlying54 Try.underlying5 Try.underlying9 (fun j hj => (r_b_10.val (by omega) (by (obtain rfl : j = 0 := (by omega)); rfl)))) ?_
  refine wpList_nil ?_
  refine then_n ⟨fun _ h => h, ?_⟩
  refine d_pure (v := .string (str (([BitVec.ofNat 8 (q - 1)]) ++ nonce))) 6 rfl (by kernel_rfl) (by kernel_rfl) (by kernel_rfl) (by kernel_rfl) (fun _ _ _ h => h) (fun w' => y_bin (ev (.string (str ([BitVec.ofNat 8 (q - 1)]))) rfl rfl) (ev (.string (str nonce)) rfl rfl) (b_cat (by simp only [List.length_append, List.length_cons, List.length_nil, Cm.num_len, List.length_replicate]; omega))) ?_
  refine d_pure (v := .string (str ((([BitVec.ofNat 8 (q - 1)]) ++ nonce) ++ (List.replicate q 0#8)))) 9 rfl (by kernel_rfl) (by kernel_rfl) (by kernel_rfl) (by kernel_rfl) (fun _ _ _ h => h) (fun w' => y_bin (ev (.string (str (([BitVec.ofNat 8 (q - 1)]) ++ nonce))) rfl rfl) (ev (.string (str (List.replicate q 0#8))) rfl rfl) (b_cat (by simp only [List.length_append, List.length_cons, List.length_nil, Cm.num_len, List.length_replicate]; omega))) ?_
  refine d_pure (v := .string (str ((([BitVec.ofNat 8 (q - 1)]) ++ nonce) ++ (List.replicate q 0#8)))) 10 rfl (by kernel_rfl) (by kernel_rfl) (by kernel_rfl) (by kernel_rfl) (fun _ _ _ h => h) (fun w' => y_as (ev (.string (str ((([BitVec.ofNat 8 (q - 1)]) ++ nonce) ++ (List.replicate q 0#8)))) rfl rfl)) ?_
  refine d_done (by kernel_rfl) ?_
  clear hS
  refine then_n ?_
  refine wp_ret ?_
  refine fin_ret1 rfl (ev (.string (str ((([BitVec.ofNat 8 (q - 1)]) ++ nonce) ++ (List.replicate q 0#8)))) rfl rfl) ?_
  refine ⟨congrArg Ending.returned ?_, hk⟩
  show (.string (str ((([BitVec.ofNat 8 (q - 1)]) ++ nonce) ++ (List.replicate q 0#8))) : Value) = .string (str (Cm.cnt nonce q 0))
  rw [Cm.cnt0]

set_option maxRecDepth 100000 in
set_option maxHeartbeats 1000000 in
theorem cmBeside (aad : List (BitVec 8)) (ha : aad.length ≤ 70000) (w0 : World) : Calls Try.prog 97 #[.string (str aad)] w0 fun e w' => e = .returned (.string (str (Cm.bes aad))) ∧ Below w0.heap.size w0 w' := by
 have hzn : ∀ s : List (BitVec 8), Cb.zn s.length ≤ 15 := fun s => by unfold Cb.zn; omega
 refine enter (n := 30) Try.func97 rfl rfl rfl ?_
 have hk : Below w0.heap.size w0 w0 := Below.refl _ _
 refine sr ?_
 refine w_as (evc (.string (str ([] : List (BitVec 8))))) ?_
 refine nt ?_
 refine sr ?_
 refine w_as (evc (.string (str ([] : List (BitVec 8))))) ?_
 refine nt ?_
 refine wp_seq ?_
 refine sr ?_
 refine w_mv (ev (.string (str aad)) rfl rfl) ?_
 refine w_val (y_len (ev (.string (str aad)) rfl rfl) Try.underlying9) ?_
 refine w_as (ev (.int .i64 ((aad.length : Nat) : Int)) rfl rfl) ?_
 refine nt ?_
 refine wp_block ?_
 refine sr ?_
 refine w_mv (ev (.int .i64 ((aad.length : Nat) : Int)) rfl rfl) ?_
 refine w_val (y_bin (ev (.int .i64 ((aad.length : Nat) : Int)) rfl rfl) (evc (.int .i64 0)) b_eql) ?_
 refine w_as (ev (.bool (decide (((aad.length : Nat) : Int) = 0))) rfl rfl) ?_
 refine nt ?_
 refine c_if (p := ((aad.length : Nat) : Int) = 0) (ev (.bool (decide (((aad.length : Nat) : Int) = 0))) rfl rfl) (fun hc1 => ?_) (fun hc1 => ?_)
 ·skip
  refine sr ?_
  refine w_as (evc (.string (str ([] : List (BitVec 8))))) ?_
  refine nt ?_
  refine wp_ret ?_
  refine inb_r ?_
  refine then_r ?_
  refine fin_ret1 rfl (ev (.string (str ([] : List (BitVec 8)))) rfl rfl) ?_
  refine ⟨congrArg Ending.returned ?_, hk⟩
  show (.string (str ([] : List (BitVec 8))) : Value) = .string (str (Cm.bes aad))
  unfold Cm.bes
  first | (rw [if_pos (by omega)]) | (rw [if_neg (by omega), if_pos (by omega)]; rfl) | (rw [if_neg (by omega), if_neg (by omega)]; rfl)
 ·skip
  refine sr ?_
  refine w_mv (ev (.int .i64 ((aad.length : Nat) : Int)) rfl rfl) ?_
  refine w_val (y_bin (ev (.int .i64 ((aad.length : Nat) : Int)) rfl rfl) (evc (.int .i64 65280)) b_lss) ?_
  refine w_as (ev (.bool (decide (((aad.length : Nat) : Int) < 65280))) rfl rfl) ?_
  refine nt ?_
  refine c_if (p := ((aad.length : Nat) : Int) < 65280) (ev (.bool (decide (((aad.length : Nat) : Int) < 65280))) rfl rfl) (fun hc2 => ?_) (fun hc2 => ?_)
  ·skip
   refine wp_region_lit ?_
   refine w_mv (ev (.int .i64 ((aad.length : Nat) : Int)) rfl rfl) ?_
   refine w_call (Try.func96) (by kernel_rfl) rfl (m2 (ev (.int .i64 ((aad.length : Nat) : Int)) rfl rfl) (evc (.int .i64 2))) (cmNumber aad.length 2 (by omega) (by omega) (by first | (show aad.length < 65536; omega) | (show aad.length < 4294967296; omega)) (by omega) w0) ?_
   rintro _ w3 ⟨rfl, hb4⟩
   refine ⟨_, rfl, ?_⟩
   replace hk := thenB hk hb4
   refine w_mv (ev (.string (str aad)) rfl rfl) ?_
   refine w_val (y_bin (ev (.string (str (Cm.num aad.length 2))) rfl rfl) (ev (.string (str aad)) rfl rfl) (b_cat (by simp only [Cb.zn, List.length_append, List.length_cons, List.length_nil, Cm.num_len, List.length_replicate]; omega))) ?_
   refine w_as (ev (.string (str ((Cm.num aad.length 2) ++ aad))) rfl rfl) ?_
   refine wpList_nil ?_
   refine inb_n ?_
   refine then_n ?_
   refine sr ?_
   refine w_mv (ev (.string (str ((Cm.num aad.length 2) ++ aad))) rfl rfl) ?_
   refine w_mv (ev (.string (str ((Cm.num aad.length 2) ++ aad))) rfl rfl) ?_
   refine w_val (y_len (ev (.string (str ((Cm.num aad.length 2) ++ aad))) rfl rfl) Try.underlying9) ?_
   refine w_val (y_bin (ev (.int .i64 ((((Cm.num aad.length 2) ++ aad).length : Nat) : Int)) rfl rfl) (evc (.int .i64 16)) (b_rem (by omega))) ?_
   refine w_val (y_bin (evc (.int .i64 16)) (ev (.int .i64 (((((Cm.num aad.length 2) ++ aad).length : Nat) : Int) % 16)) rfl rfl) (b_sub (by omega))) ?_
   refine w_val (y_bin (ev (.int .i64 (16 - (((((Cm.num aad.length 2) ++ aad).length : Nat) : Int) % 16))) rfl rfl) (evc (.int .i64 16)) (b_rem (by omega))) ?_
   refine w_call (Try.func52) (by kernel_rfl) rfl (m2 (evc (.string (str ([0#8])))) (ev (.int .i64 (((Cb.zn ((Cm.num aad.length 2) ++ aad).length) : Nat) : Int)) (Eq.trans (b := .int .i64 ((16 - (((((Cm.num aad.length 2) ++ aad).length : Nat) : Int) % 16)) % 16)) rfl (by exact congrArg (Value.int .i64) (by unfold Cb.zn; simp only [List.length_append, List.length_cons, List.length_nil, Cm.num_len, List.length_replicate]; omega))) rfl)) (rep_c 0#8 (Cb.zn ((Cm.num aad.length 2) ++ aad).length) (Nat.le_trans (Cm.zn_le _) (by decide)) w3) ?_
   rintro _ w5 ⟨rfl, hb6⟩
   refine ⟨_, rfl, ?_⟩
   replace hk := thenB hk hb6
   refine w_val (y_bin (ev (.string (str ((Cm.num aad.length 2) ++ aad))) rfl rfl) (ev (.string (str (List.replicate (Cb.zn ((Cm.num aad.length 2) ++ aad).length) 0#8))) rfl rfl) (b_cat (by simp only [Cb.zn, List.length_append, List.length_cons, List.length_nil, Cm.num_len, List.length_replicate]; omega))) ?_
   refine w_as (ev (.string (str (((Cm.num aad.length 2) ++ aad) ++ (List.replicate (Cb.zn ((Cm.num aad.length 2) ++ aad).length) 0#8)))) rfl rfl) ?_
   refine nt ?_
   refine wp_ret ?_
   refine fin_ret1 rfl (ev (.string (str (((Cm.num aad.length 2) ++ aad) ++ (List.replicate (Cb.zn ((Cm.num aad.length 2) ++ aad).length) 0#8)))) rfl rfl) ?_
   refine ⟨congrArg Ending.returned ?_, hk⟩
   show (.string (str (((Cm.num aad.length 2) ++ aad) ++ (List.replicate (Cb.zn ((Cm.num aad.length 2) ++ aad).length) 0#8))) : Value) = .string (str (Cm.bes aad))
   unfold Cm.bes
   first | (rw [if_pos (by omega)]) | (rw [if_neg (by omega), if_pos (by omega)]; rfl) | (rw [if_neg (by omega), if_neg (by omega)]; rfl)
  ·skip
   refine wp_region_lit ?_
   refine w_mv (ev (.int .i64 ((aad.length : Nat) : Int)) rfl rfl) ?_
   refine w_call (Try.func96) (by kernel_rfl) rfl (m2 (ev (.int .i64 ((aad.length : Nat) : Int)) rfl rfl) (evc (.int .i64 4))) (cmNumber aad.length 4 (by omega) (by omega) (by first | (show aad.length < 65536; omega) | (show aad.length < 4294967296; omega)) (by omega) w0) ?_
   rintro _ w7 ⟨rfl, hb8⟩
   refine ⟨_, rfl, ?_⟩
   replace hk := thenB hk hb8
   refine w_val (y_bin (evc (.string (str ([255#8, 254#8])))) (ev (.string (str (Cm.num aad.length 4))) rfl rfl) (b_cat (by simp only [Cb.zn, List.length_append, List.length_cons, List.length_nil, Cm.num_len, List.length_replicate]; omega))) ?_
   refine w_mv (ev (.string (str aad)) rfl rfl) ?_
   refine w_val (y_bin (ev (.string (str (([255#8, 254#8]) ++ (Cm.num aad.length 4)))) rfl rfl) (ev (.string (str aad)) rfl rfl) (b_cat (by simp only [Cb.zn, List.length_append, List.length_cons, List.length_nil, Cm.num_len, List.length_replicate]; omega))) ?_
   refine w_as (ev (.string (str ((([255#8, 254#8]) ++ (Cm.num aad.length 4)) ++ aad))) rfl rfl) ?_
   refine wpList_nil ?_
   refine inb_n ?_
   refine then_n ?_
   refine sr ?_
   refine w_mv (ev (.string (str ((([255#8, 254#8]) ++ (Cm.num aad.length 4)) ++ aad))) rfl rfl) ?_
   refine w_mv (ev (.string (str ((([255#8, 254#8]) ++ (Cm.num aad.length 4)) ++ aad))) rfl rfl) ?_
   refine w_val (y_len (ev (.string (str ((([255#8, 254#8]) ++ (Cm.num aad.length 4)) ++ aad))) rfl rfl) Try.underlying9) ?_
   refine w_val (y_bin (ev (.int .i64 ((((([255#8, 254#8]) ++ (Cm.num aad.length 4)) ++ aad).length : Nat) : Int)) rfl rfl) (evc (.int .i64 16)) (b_rem (by omega))) ?_
   refine w_val (y_bin (evc (.int .i64 16)) (ev (.int .i64 (((((([255#8, 254#8]) ++ (Cm.num aad.length 4)) ++ aad).length : Nat) : Int) % 16)) rfl rfl) (b_sub (by omega))) ?_
   refine w_val (y_bin (ev (.int .i64 (16 - (((((([255#8, 254#8]) ++ (Cm.num aad.length 4)) ++ aad).length : Nat) : Int) % 16))) rfl rfl) (evc (.int .i64 16)) (b_rem (by omega))) ?_
   refine w_call (Try.func52) (by kernel_rfl) rfl (m2 (evc (.string (str ([0#8])))) (ev (.int .i64 (((Cb.zn ((([255#8, 254#8]) ++ (Cm.num aad.length 4)) ++ aad).length) : Nat) : Int)) (Eq.trans (b := .int .i64 ((16 - (((((([255#8, 254#8]) ++ (Cm.num aad.length 4)) ++ aad).length : Nat) : Int) % 16)) % 16)) rfl (by exact congrArg (Value.int .i64) (by unfold Cb.zn; simp only [List.length_append, List.length_cons, List.length_nil, Cm.num_len, List.length_replicate]; omega))) rfl)) (rep_c 0#8 (Cb.zn ((([255#8, 254#8]) ++ (Cm.num aad.length 4)) ++ aad).length) (Nat.le_trans (Cm.zn_le _) (by decide)) w7) ?_
   rintro _ w9 ⟨rfl, hb10⟩
   refine ⟨_, rfl, ?_⟩
   replace hk := thenB hk hb10
   refine w_val (y_bin (ev (.string (str ((([255#8, 254#8]) ++ (Cm.num aad.length 4)) ++ aad))) rfl rfl) (ev (.string (str (List.replicate (Cb.zn ((([255#8, 254#8]) ++ (Cm.num aad.length 4)) ++ aad).length) 0#8))) rfl rfl) (b_cat (by simp only [Cb.zn, List.length_append, List.length_cons, List.length_nil, Cm.num_len, List.length_replicate]; omega))) ?_
   refine w_as (ev (.string (str (((([255#8, 254#8]) ++ (Cm.num aad.length 4)) ++ aad) ++ (List.replicate (Cb.zn ((([255#8, 254#8]) ++ (Cm.num aad.length 4)) ++ aad).length) 0#8)))) rfl rfl) ?_
   refine nt ?_
   refine wp_ret ?_
   refine fin_ret1 rfl (ev (.string (str (((([255#8, 254#8]) ++ (Cm.num aad.length 4)) ++ aad) ++ (List.replicate (Cb.zn ((([255#8, 254#8]) ++ (Cm.num aad.length 4)) ++ aad).length) 0#8)))) rfl rfl) ?_
   refine ⟨congrArg Ending.returned ?_, hk⟩
   show (.string (str (((([255#8, 254#8]) ++ (Cm.num aad.length 4)) ++ aad) ++ (List.replicate (Cb.zn ((([255#8, 254#8]) ++ (Cm.num aad.length 4)) ++ aad).length) 0#8))) : Value) = .string (str (Cm.bes aad))
   unfold Cm.bes
   first | (rw [if_pos (by omega)]) | (rw [if_neg (by omega), if_pos (by omega)]; rfl) | (rw [if_neg (by omega), if_neg (by omega)]; rfl)

set_option maxRecDepth 100000 in
set_option maxHeartbeats 1000000 in
theorem cmFits (n : Nat) (nonce : List (BitVec 8)) (hl : n ≤ 1000000000000000) (w0 : World) : Calls Try.prog 70 #[.int .i64 ((n : Nat) : Int), .string (str nonce)] w0 fun e w' => e = .returned (.bool (decide (Cm.Fit n nonce))) ∧ Below w0.heap.size w0 w' := by
 refine enter (n := 16) Try.func70 rfl rfl rfl ?_
 have hk : Below w0.heap.size w0 w0 := Below.refl _ _
 refine sr ?_
 refine w_as (evc (.bool false)) ?_
 refine nt ?_
 refine sr ?_
 refine w_mv (ev (.int .i64 ((n : Nat) : Int)) rfl rfl) ?_
 refine w_val (y_bin (ev (.int .i64 ((n : Nat) : Int)) rfl rfl) (evc (.int .i64 70000)) b_leq) ?_
 refine w_mv (ev (.bool (decide (((n : Nat) : Int) ≤ 70000))) rfl rfl) ?_
 by_cases hc1 : ((n : Nat) : Int) ≤ 70000
 ·skip
  refine w_val_g (v := .string (str nonce)) (want_yes (j := 2) rfl rfl (ev (.bool true) (Eq.trans (b := .bool (decide (((n : Nat) : Int) ≤ 70000))) rfl (by rw [decide_eq_true hc1])) rfl) rfl) (y_mv (ev (.string (str nonce)) rfl rfl)) ?_
  refine w_val_g (want_yes (j := 2) rfl rfl (ev (.bool true) (Eq.trans (b := .bool (decide (((n : Nat) : Int) ≤ 70000))) rfl (by rw [decide_eq_true hc1])) rfl) rfl) (y_len (ev (.string (str nonce)) rfl rfl) Try.underlying9) ?_
  refine w_val_g (want_yes (j := 2) rfl rfl (ev (.bool true) (Eq.trans (b := .bool (decide (((n : Nat) : Int) ≤ 70000))) rfl (by rw [decide_eq_true hc1])) rfl) rfl) (y_bin (ev (.int .i64 ((nonce.length : Nat) : Int)) rfl rfl) (evc (.int .i64 13)) b_lss) ?_
  refine w_val_g (v := .bool (decide (((nonce.length : Nat) : Int) < 13))) (want_yes (j := 2) rfl rfl (ev (.bool true) (Eq.trans (b := .bool (decide (((n : Nat) : Int) ≤ 70000))) rfl (by rw [decide_eq_true hc1])) rfl) rfl) (y_mv (ev (.bool (decide (((nonce.length : Nat) : Int) < 13))) rfl rfl)) ?_
  by_cases hc2 : ((nonce.length : Nat) : Int) < 13
  ·skip
   first | with_reducible refine w_skip ?_ ?_ | refine w_skip ?_ ?_
   · exact want_no (j := 6) rfl rfl (ev (.bool true) (Eq.trans (b := .bool (decide (((nonce.length : Nat) : Int) < 13))) rfl (by rw [decide_eq_true hc2])) rfl) rfl
   first | with_reducible refine w_skip ?_ ?_ | refine w_skip ?_ ?_
   · exact want_no (j := 6) rfl rfl (ev (.bool true) (Eq.trans (b := .bool (decide (((nonce.length : Nat) : Int) < 13))) rfl (by rw [decide_eq_true hc2])) rfl) rfl
   refine w_val_g (want_yes (j := 2) rfl rfl (ev (.bool true) (Eq.trans (b := .bool (decide (((n : Nat) : Int) ≤ 70000))) rfl (by rw [decide_eq_true hc1])) rfl) rfl) (y_pick_t (ev (.bool true) (Eq.trans (b := .bool (decide (((nonce.length : Nat) : Int) < 13))) rfl (by rw [decide_eq_true hc2])) rfl) (evc (.bool true))) ?_
   refine w_val (y_pick_t (ev (.bool true) (Eq.trans (b := .bool (decide (((n : Nat) : Int) ≤ 70000))) rfl (by rw [decide_eq_true hc1])) rfl) (ev (.bool true) rfl rfl)) ?_
   refine w_as (ev (.bool true) rfl rfl) ?_
   refine nt ?_
   refine wp_ret ?_
   refine fin_ret1 rfl (ev (.bool true) rfl rfl) ?_
   refine ⟨congrArg Ending.returned ?_, hk⟩
   show (.bool true : Value) = .bool (decide (Cm.Fit n nonce))
   first | (rw [decide_eq_true (show Cm.Fit n nonce from ⟨by omega, by omega⟩)]) | (rw [decide_eq_false (show ¬ Cm.Fit n nonce from fun h => by have h1 := h.1; have h2 := h.2; omega)]) | (exact congrArg Value.bool (decide_eq_decide.2 ⟨fun h => ⟨by omega, by omega⟩, fun h => by have h1 := h.1; have h2 := h.2; omega⟩))
  ·skip
   refine w_val_g (v := .int .i64 ((n : Nat) : Int)) (want_yes (j := 6) rfl rfl (ev (.bool false) (Eq.trans (b := .bool (decide (((nonce.length : Nat) : Int) < 13))) rfl (by rw [decide_eq_false hc2])) rfl) rfl) (y_mv (ev (.int .i64 ((n : Nat) : Int)) rfl rfl)) ?_
   refine w_val_g (want_yes (j := 6) rfl rfl (ev (.bool false) (Eq.trans (b := .bool (decide (((nonce.length : Nat) : Int) < 13))) rfl (by rw [decide_eq_false hc2])) rfl) rfl) (y_bin (ev (.int .i64 ((n : Nat) : Int)) rfl rfl) (evc (.int .i64 65536)) b_lss) ?_
   refine w_val_g (want_yes (j := 2) rfl rfl (ev (.bool true) (Eq.trans (b := .bool (decide (((n : Nat) : Int) ≤ 70000))) rfl (by rw [decide_eq_true hc1])) rfl) rfl) (y_pick_f (ev (.bool false) (Eq.trans (b := .bool (decide (((nonce.length : Nat) : Int) < 13))) rfl (by rw [decide_eq_false hc2])) rfl) (ev (.bool (decide (((n : Nat) : Int) < 65536))) rfl rfl)) ?_
   refine w_val (y_pick_t (ev (.bool true) (Eq.trans (b := .bool (decide (((n : Nat) : Int) ≤ 70000))) rfl (by rw [decide_eq_true hc1])) rfl) (ev (.bool (decide (((n : Nat) : Int) < 65536))) rfl rfl)) ?_
   refine w_as (ev (.bool (decide (((n : Nat) : Int) < 65536))) rfl rfl) ?_
   refine nt ?_
   refine wp_ret ?_
   refine fin_ret1 rfl (ev (.bool (decide (((n : Nat) : Int) < 65536))) rfl rfl) ?_
   refine ⟨congrArg Ending.returned ?_, hk⟩
   show (.bool (decide (((n : Nat) : Int) < 65536)) : Value) = .bool (decide (Cm.Fit n nonce))
   first | (rw [decide_eq_true (show Cm.Fit n nonce from ⟨by omega, by omega⟩)]) | (rw [decide_eq_false (show ¬ Cm.Fit n nonce from fun h => by have h1 := h.1; have h2 := h.2; omega)]) | (exact congrArg Value.bool (decide_eq_decide.2 ⟨fun h => ⟨by omega, by omega⟩, fun h => by have h1 := h.1; have h2 := h.2; omega⟩))
 ·skip
  first | with_reducible refine w_skip ?_ ?_ | refine w_skip ?_ ?_
  · exact want_no (j := 2) rfl rfl (ev (.bool false) (Eq.trans (b := .bool (decide (((n : Nat) : Int) ≤ 70000))) rfl (by rw [decide_eq_false hc1])) rfl) rfl
  first | with_reducible refine w_skip ?_ ?_ | refine w_skip ?_ ?_
  · exact want_no (j := 2) rfl rfl (ev (.bool false) (Eq.trans (b := .bool (decide (((n : Nat) : Int) ≤ 70000))) rfl (by rw [decide_eq_false hc1])) rfl) rfl
  first | with_reducible refine w_skip ?_ ?_ | refine w_skip ?_ ?_
  · exact want_no (j := 2) rfl rfl (ev (.bool false) (Eq.trans (b := .bool (decide (((n : Nat) : Int) ≤ 70000))) rfl (by rw [decide_eq_false hc1])) rfl) rfl
  first | with_reducible refine w_skip ?_ ?_ | refine w_skip ?_ ?_
  · exact want_no (j := 2) rfl rfl (ev (.bool false) (Eq.trans (b := .bool (decide (((n : Nat) : Int) ≤ 70000))) rfl (by rw [decide_eq_false hc1])) rfl) rfl
  first | with_reducible refine w_skip ?_ ?_ | refine w_skip ?_ ?_
  · exact want_un (j := 6) rfl rfl (ev undef rfl rfl) rfl
  first | with_reducible refine w_skip ?_ ?_ | refine w_skip ?_ ?_
  · exact want_un (j := 6) rfl rfl (ev undef rfl rfl) rfl
  first | with_reducible refine w_skip ?_ ?_ | refine w_skip ?_ ?_
  · exact want_no (j := 2) rfl rfl (ev (.bool false) (Eq.trans (b := .bool (decide (((n : Nat) : Int) ≤ 70000))) rfl (by rw [decide_eq_false hc1])) rfl) rfl
  refine w_val (y_pick_f (ev (.bool false) (Eq.trans (b := .bool (decide (((n : Nat) : Int) ≤ 70000))) rfl (by rw [decide_eq_false hc1])) rfl) (evc (.bool false))) ?_
  refine w_as (ev (.bool false) rfl rfl) ?_
  refine nt ?_
  refine wp_ret ?_
  refine fin_ret1 rfl (ev (.bool false) rfl rfl) ?_
  refine ⟨congrArg Ending.returned ?_, hk⟩
  show (.bool false : Value) = .bool (decide (Cm.Fit n nonce))
  first | (rw [decide_eq_true (show Cm.Fit n nonce from ⟨by omega, by omega⟩)]) | (rw [decide_eq_false (show ¬ Cm.Fit n nonce from fun h => by have h1 := h.1; have h2 := h.2; omega)]) | (exact congrArg Value.bool (decide_eq_decide.2 ⟨fun h => ⟨by omega, by omega⟩, fun h => by have h1 := h.1; have h2 := h.2; omega⟩))

set_option maxRecDepth 100000 in
set_option maxHeartbeats 1000000 in
theorem cmWrong_k (key nonce aad : List (BitVec 8)) (size : Int) (hok : ¬ Aes.okKey key.length) (w0 : World) : Calls Try.prog 69 #[.string (str key), .string (str nonce), .string (str aad), .int .i64 size] w0 fun e w' => e = .returned (.int .i64 3) ∧ Below w0.heap.size w0 w' := by
 refine enter (n := 41) Try.func69 rfl rfl rfl ?_
 have hk : Below w0.heap.size w0 w0 := Below.refl _ _
 refine sr ?_
 refine w_as (evc (.int .i64 0)) ?_
 refine nt ?_
 refine wp_seq ?_
 refine sr ?_
 refine w_mv (ev (.string (str key)) rfl rfl) ?_
 refine w_call (Try.func62) (by kernel_rfl) rfl (m1 (ev (.string (str key)) rfl rfl)) (new_l_no key w0 hok) ?_
 rintro _ _ ⟨rfl, rfl⟩
 refine ⟨_, rfl, ?_⟩
 refine w_mv (ev (.tuple #[.pointer none, .int .i64 3]) rfl rfl) ?_
 refine w_val (y_ext (v := .pointer none) (ev (.tuple #[.pointer none, .int .i64 3]) rfl rfl) rfl) ?_
 refine w_val (y_ext (v := .int .i64 3) (ev (.tuple #[.pointer none, .int .i64 3]) rfl rfl) rfl) ?_
 refine w_as (ev (.pointer none) rfl rfl) ?_
 refine w_as (ev (.int .i64 3) rfl rfl) ?_
 refine nt ?_
 refine sr ?_
 refine w_mv (ev (.int .i64 3) rfl rfl) ?_
 refine w_val (y_bin (ev (.int .i64 3) rfl rfl) (evc (.int .i64 0)) b_neq) ?_
 refine nt ?_
 refine c_tt (ev (.bool true) rfl rfl) ?_
 refine sr ?_
 refine w_mv (ev (.int .i64 3) rfl rfl) ?_
 refine w_as (ev (.int .i64 3) rfl rfl) ?_
 refine nt ?_
 refine wp_ret ?_
 refine then_r ?_
 refine fin_ret1 rfl (ev (.int .i64 3) rfl rfl) ?_
 exact ⟨rfl, hk⟩

set_option maxRecDepth 100000 in
set_option maxHeartbeats 1000000 in
theorem cmWrong_n (key nonce aad : List (BitVec 8)) (size : Int) (hok : Aes.okKey key.length) (hn : ¬ (7 ≤ nonce.length ∧ nonce.length ≤ 13)) (w0 : World) : Calls Try.prog 69 #[.string (str key), .string (str nonce), .string (str aad), .int .i64 size] w0 fun e w' => e = .returned (.int .i64 4) ∧ Below w0.heap.size w0 w' := by
 refine enter (n := 41) Try.func69 rfl rfl rfl ?_
 have hk : Below w0.heap.size w0 w0 := Below.refl _ _
 refine sr ?_
 refine w_as (evc (.int .i64 0)) ?_
 refine nt ?_
 refine wp_seq ?_
 refine sr ?_
 refine w_mv (ev (.string (str key)) rfl rfl) ?_
 refine w_call (Try.func62) (by kernel_rfl) rfl (m1 (ev (.string (str key)) rfl rfl)) (new_l key w0 hok) ?_
 rintro _ w1 ⟨p, rfl, hge_p, hc, hb_p⟩
 refine ⟨_, rfl, ?_⟩
 have ge_p : w0.heap.size ≤ p := by have := hk.size; omega
 replace hk := thenB hk hb_p
 refine w_mv (ev (.tuple #[pt p 0, .int .i64 0]) rfl rfl) ?_
 refine w_val (y_ext (v := pt p 0) (ev (.tuple #[pt p 0, .int .i64 0]) rfl rfl) rfl) ?_
 refine w_val (y_ext (v := .int .i64 0) (ev (.tuple #[pt p 0, .int .i64 0]) rfl rfl) rfl) ?_
 refine w_as (ev (pt p 0) rfl rfl) ?_
 refine w_as (ev (.int .i64 0) rfl rfl) ?_
 refine nt ?_
 refine sr ?_
 refine w_mv (ev (.int .i64 0) rfl rfl) ?_
 refine w_val (y_bin (ev (.int .i64 0) rfl rfl) (evc (.int .i64 0)) b_neq) ?_
 refine nt ?_
 refine c_ff (ev (.bool false) rfl rfl) ?_
 refine wp_skip ?_
 refine then_n ?_
 refine wp_seq ?_
 refine sr ?_
 refine w_mv (ev (.string (str nonce)) rfl rfl) ?_
 refine w_val (y_len (ev (.string (str nonce)) rfl rfl) Try.underlying9) ?_
 refine w_val (y_bin (ev (.int .i64 ((nonce.length : Nat) : Int)) rfl rfl) (evc (.int .i64 7)) b_lss) ?_
 refine w_mv (ev (.bool (decide (((nonce.length : Nat) : Int) < 7))) rfl rfl) ?_
 by_cases hc2 : ((nonce.length : Nat) : Int) < 7
 ·skip
  first | with_reducible refine w_skip ?_ ?_ | refine w_skip ?_ ?_
  · exact want_no (j := 3) rfl rfl (ev (.bool true) (Eq.trans (b := .bool (decide (((nonce.length : Nat) : Int) < 7))) rfl (by rw [decide_eq_true hc2])) rfl) rfl
  first | with_reducible refine w_skip ?_ ?_ | refine w_skip ?_ ?_
  · exact want_no (j := 3) rfl rfl (ev (.bool true) (Eq.trans (b := .bool (decide (((nonce.length : Nat) : Int) < 7))) rfl (by rw [decide_eq_true hc2])) rfl) rfl
  first | with_reducible refine w_skip ?_ ?_ | refine w_skip ?_ ?_
  · exact want_no (j := 3) rfl rfl (ev (.bool true) (Eq.trans (b := .bool (decide (((nonce.length : Nat) : Int) < 7))) rfl (by rw [decide_eq_true hc2])) rfl) rfl
  refine w_val (y_pick_t (ev (.bool true) (Eq.trans (b := .bool (decide (((nonce.length : Nat) : Int) < 7))) rfl (by rw [decide_eq_true hc2])) rfl) (evc (.bool true))) ?_
  refine nt ?_
  refine c_tt (ev (.bool true) rfl rfl) ?_
  refine sr ?_
  refine w_as (evc (.int .i64 4)) ?_
  refine nt ?_
  refine wp_ret ?_
  refine then_r ?_
  refine fin_ret1 rfl (ev (.int .i64 4) rfl rfl) ?_
  exact ⟨rfl, hk⟩
 ·skip
  refine w_val_g (v := .string (str nonce)) (want_yes (j := 3) rfl rfl (ev (.bool false) (Eq.trans (b := .bool (decide (((nonce.length : Nat) : Int) < 7))) rfl (by rw [decide_eq_false hc2])) rfl) rfl) (y_mv (ev (.string (str nonce)) rfl rfl)) ?_
  refine w_val_g (want_yes (j := 3) rfl rfl (ev (.bool false) (Eq.trans (b := .bool (decide (((nonce.length : Nat) : Int) < 7))) rfl (by rw [decide_eq_false hc2])) rfl) rfl) (y_len (ev (.string (str nonce)) rfl rfl) Try.underlying9) ?_
  refine w_val_g (want_yes (j := 3) rfl rfl (ev (.bool false) (Eq.trans (b := .bool (decide (((nonce.length : Nat) : Int) < 7))) rfl (by rw [decide_eq_false hc2])) rfl) rfl) (y_bin (ev (.int .i64 ((nonce.length : Nat) : Int)) rfl rfl) (evc (.int .i64 13)) b_gtr) ?_
  refine w_val (y_pick_f (ev (.bool false) (Eq.trans (b := .bool (decide (((nonce.length : Nat) : Int) < 7))) rfl (by rw [decide_eq_false hc2])) rfl) (ev (.bool (decide (13 < ((nonce.length : Nat) : Int)))) rfl rfl)) ?_
  refine nt ?_
  refine c_if (p := 13 < ((nonce.length : Nat) : Int)) (ev (.bool (decide (13 < ((nonce.length : Nat) : Int)))) rfl rfl) (fun hc3 => ?_) (fun hc3 => ?_)
  ·skip
   refine sr ?_
   refine w_as (evc (.int .i64 4)) ?_
   refine nt ?_
   refine wp_ret ?_
   refine then_r ?_
   refine fin_ret1 rfl (ev (.int .i64 4) rfl rfl) ?_
   exact ⟨rfl, hk⟩
  ·skip
   refine wp_skip ?_
   refine then_n ?_
   refine ss ?_
   exfalso; omega

set_option maxRecDepth 100000 in
set_option maxHeartbeats 1000000 in
theorem cmWrong_t (key nonce aad : List (BitVec 8)) (size : Int) (hok : Aes.okKey key.length) (hn : 7 ≤ nonce.length ∧ nonce.length ≤ 13) (ht : ¬ (4 ≤ size ∧ size ≤ 16 ∧ size % 2 = 0)) (w0 : World) : Calls Try.prog 69 #[.string (str key), .string (str nonce), .string (str aad), .int .i64 size] w0 fun e w' => e = .returned (.int .i64 5) ∧ Below w0.heap.size w0 w' := by
 refine enter (n := 41) Try.func69 rfl rfl rfl ?_
 have hk : Below w0.heap.size w0 w0 := Below.refl _ _
 refine sr ?_
 refine w_as (evc (.int .i64 0)) ?_
 refine nt ?_
 refine wp_seq ?_
 refine sr ?_
 refine w_mv (ev (.string (str key)) rfl rfl) ?_
 refine w_call (Try.func62) (by kernel_rfl) rfl (m1 (ev (.string (str key)) rfl rfl)) (new_l key w0 hok) ?_
 rintro _ w1 ⟨p, rfl, hge_p, hc, hb_p⟩
 refine ⟨_, rfl, ?_⟩
 have ge_p : w0.heap.size ≤ p := by have := hk.size; omega
 replace hk := thenB hk hb_p
 refine w_mv (ev (.tuple #[pt p 0, .int .i64 0]) rfl rfl) ?_
 refine w_val (y_ext (v := pt p 0) (ev (.tuple #[pt p 0, .int .i64 0]) rfl rfl) rfl) ?_
 refine w_val (y_ext (v := .int .i64 0) (ev (.tuple #[pt p 0, .int .i64 0]) rfl rfl) rfl) ?_
 refine w_as (ev (pt p 0) rfl rfl) ?_
 refine w_as (ev (.int .i64 0) rfl rfl) ?_
 refine nt ?_
 refine sr ?_
 refine w_mv (ev (.int .i64 0) rfl rfl) ?_
 refine w_val (y_bin (ev (.int .i64 0) rfl rfl) (evc (.int .i64 0)) b_neq) ?_
 refine nt ?_
 refine c_ff (ev (.bool false) rfl rfl) ?_
 refine wp_skip ?_
 refine then_n ?_
 refine wp_seq ?_
 refine sr ?_
 refine w_mv (ev (.string (str nonce)) rfl rfl) ?_
 refine w_val (y_len (ev (.string (str nonce)) rfl rfl) Try.underlying9) ?_
 refine w_val (y_bin (ev (.int .i64 ((nonce.length : Nat) : Int)) rfl rfl) (evc (.int .i64 7)) b_lss) ?_
 refine w_mv (ev (.bool (decide (((nonce.length : Nat) : Int) < 7))) rfl rfl) ?_
 by_cases hc2 : ((nonce.length : Nat) : Int) < 7
 ·skip
  first | with_reducible refine w_skip ?_ ?_ | refine w_skip ?_ ?_
  · exact want_no (j := 3) rfl rfl (ev (.bool true) (Eq.trans (b := .bool (decide (((nonce.length : Nat) : Int) < 7))) rfl (by rw [decide_eq_true hc2])) rfl) rfl
  first | with_reducible refine w_skip ?_ ?_ | refine w_skip ?_ ?_
  · exact want_no (j := 3) rfl rfl (ev (.bool true) (Eq.trans (b := .bool (decide (((nonce.length : Nat) : Int) < 7))) rfl (by rw [decide_eq_true hc2])) rfl) rfl
  first | with_reducible refine w_skip ?_ ?_ | refine w_skip ?_ ?_
  · exact want_no (j := 3) rfl rfl (ev (.bool true) (Eq.trans (b := .bool (decide (((nonce.length : Nat) : Int) < 7))) rfl (by rw [decide_eq_true hc2])) rfl) rfl
  refine w_val (y_pick_t (ev (.bool true) (Eq.trans (b := .bool (decide (((nonce.length : Nat) : Int) < 7))) rfl (by rw [decide_eq_true hc2])) rfl) (evc (.bool true))) ?_
  refine nt ?_
  refine c_tt (ev (.bool true) rfl rfl) ?_
  refine sr ?_
  refine w_as (evc (.int .i64 4)) ?_
  refine nt ?_
  refine wp_ret ?_
  refine then_r ?_
  refine fin_ret1 rfl (ev (.int .i64 4) rfl rfl) ?_
  refine ⟨congrArg Ending.returned ?_, hk⟩
  show (.int .i64 4 : Value) = .int .i64 5
  first | with_reducible rfl | (with_reducible congr 1 <;> omega) | (with_reducible congr 2 <;> omega) | (with_reducible congr 3 <;> omega) | rfl
 ·skip
  refine w_val_g (v := .string (str nonce)) (want_yes (j := 3) rfl rfl (ev (.bool false) (Eq.trans (b := .bool (decide (((nonce.length : Nat) : Int) < 7))) rfl (by rw [decide_eq_false hc2])) rfl) rfl) (y_mv (ev (.string (str nonce)) rfl rfl)) ?_
  refine w_val_g (want_yes (j := 3) rfl rfl (ev (.bool false) (Eq.trans (b := .bool (decide (((nonce.length : Nat) : Int) < 7))) rfl (by rw [decide_eq_false hc2])) rfl) rfl) (y_len (ev (.string (str nonce)) rfl rfl) Try.underlying9) ?_
  refine w_val_g (want_yes (j := 3) rfl rfl (ev (.bool false) (Eq.trans (b := .bool (decide (((nonce.length : Nat) : Int) < 7))) rfl (by rw [decide_eq_false hc2])) rfl) rfl) (y_bin (ev (.int .i64 ((nonce.length : Nat) : Int)) rfl rfl) (evc (.int .i64 13)) b_gtr) ?_
  refine w_val (y_pick_f (ev (.bool false) (Eq.trans (b := .bool (decide (((nonce.length : Nat) : Int) < 7))) rfl (by rw [decide_eq_false hc2])) rfl) (ev (.bool (decide (13 < ((nonce.length : Nat) : Int)))) rfl rfl)) ?_
  refine nt ?_
  refine c_if (p := 13 < ((nonce.length : Nat) : Int)) (ev (.bool (decide (13 < ((nonce.length : Nat) : Int)))) rfl rfl) (fun hc3 => ?_) (fun hc3 => ?_)
  ·skip
   refine sr ?_
   refine w_as (evc (.int .i64 4)) ?_
   refine nt ?_
   refine wp_ret ?_
   refine then_r ?_
   refine fin_ret1 rfl (ev (.int .i64 4) rfl rfl) ?_
   refine ⟨congrArg Ending.returned ?_, hk⟩
   show (.int .i64 4 : Value) = .int .i64 5
   first | with_reducible rfl | (with_reducible congr 1 <;> omega) | (with_reducible congr 2 <;> omega) | (with_reducible congr 3 <;> omega) | rfl
  ·skip
   refine wp_skip ?_
   refine then_n ?_
   refine wp_seq ?_
   refine sr ?_
   refine w_mv (ev (.int .i64 size) rfl rfl) ?_
   refine nt ?_
   refine wp_block ?_
   refine wp_seq ?_
   refine wp_block ?_
   refine wp_block ?_
   refine wp_block ?_
   refine ss ?_
   refine sr ?_
   refine w_val (y_bin (ev (.int .i64 size) rfl rfl) (evc (.int .i64 4)) b_eql) ?_
   refine w_as (ev (.bool (decide (size = 4))) rfl rfl) ?_
   refine nt ?_
   have hc4 : ¬ (size = 4) := by omega
   refine c_f (p := size = 4) (ev (.bool (decide (size = 4))) rfl rfl) hc4 ?_
   refine wp_skip ?_
   refine then_n ?_
   refine ss ?_
   refine sr ?_
   refine w_val (y_bin (ev (.int .i64 size) rfl rfl) (evc (.int .i64 6)) b_eql) ?_
   refine w_as (ev (.bool (decide (size = 6))) rfl rfl) ?_
   refine nt ?_
   have hc5 : ¬ (size = 6) := by omega
   refine c_f (p := size = 6) (ev (.bool (decide (size = 6))) rfl rfl) hc5 ?_
   refine sr ?_
   refine w_val (y_bin (ev (.int .i64 size) rfl rfl) (evc (.int .i64 8)) b_eql) ?_
   refine w_as (ev (.bool (decide (size = 8))) rfl rfl) ?_
   refine nt ?_
   have hc6 : ¬ (size = 8) := by omega
   refine c_f (p := size = 8) (ev (.bool (decide (size = 8))) rfl rfl) hc6 ?_
   refine wp_region_lit ?_
   refine w_val (y_bin (ev (.int .i64 size) rfl rfl) (evc (.int .i64 10)) b_eql) ?_
   refine w_as (ev (.bool (decide (size = 10))) rfl rfl) ?_
   refine nt ?_
   have hc7 : ¬ (size = 10) := by omega
   refine c_f (p := size = 10) (ev (.bool (decide (size = 10))) rfl rfl) hc7 ?_
   refine wp_skip ?_
   refine then_n ?_
   refine wp_seq ?_
   refine sr ?_
   refine w_val (y_bin (ev (.int .i64 size) rfl rfl) (evc (.int .i64 12)) b_eql) ?_
   refine w_as (ev (.bool (decide (size = 12))) rfl rfl) ?_
   refine nt ?_
   have hc8 : ¬ (size = 12) := by omega
   refine c_f (p := size = 12) (ev (.bool (decide (size = 12))) rfl rfl) hc8 ?_
   refine sr ?_
   refine w_val (y_bin (ev (.int .i64 size) rfl rfl) (evc (.int .i64 14)) b_eql) ?_
   refine w_as (ev (.bool (decide (size = 14))) rfl rfl) ?_
   refine nt ?_
   have hc9 : ¬ (size = 14) := by omega
   refine c_f (p := size = 14) (ev (.bool (decide (size = 14))) rfl rfl) hc9 ?_
   refine wp_region_lit ?_
   refine w_val (y_bin (ev (.int .i64 size) rfl rfl) (evc (.int .i64 16)) b_eql) ?_
   refine w_as (ev (.bool (decide (size = 16))) rfl rfl) ?_
   refine nt ?_
   have hc10 : ¬ (size = 16) := by omega
   refine c_f (p := size = 16) (ev (.bool (decide (size = 16))) rfl rfl) hc10 ?_
   refine wp_skip ?_
   refine then_n ?_
   refine wp_exit ?_
   refine inb_y rfl ?_
   refine inb_y rfl ?_
   refine inb_y rfl ?_
   refine then_x ?_
   refine inb_x ?_
   refine then_n ?_
   refine sr ?_
   refine w_as (evc (.int .i64 5)) ?_
   refine nt ?_
   refine wp_ret ?_
   refine fin_ret1 rfl (ev (.int .i64 5) rfl rfl) ?_
   exact ⟨rfl, hk⟩

set_option maxRecDepth 100000 in
set_option maxHeartbeats 1000000 in
theorem cmWrong_a (key nonce aad : List (BitVec 8)) (size : Nat) (hok : Aes.okKey key.length) (hn : 7 ≤ nonce.length ∧ nonce.length ≤ 13) (h4 : 4 ≤ size) (h16 : size ≤ 16) (hev : size % 2 = 0) (ha : 70000 < aad.length) (w0 : World) : Calls Try.prog 69 #[.string (str key), .string (str nonce), .string (str aad), .int .i64 ((size : Nat) : Int)] w0 fun e w' => e = .returned (.int .i64 6) ∧ Below w0.heap.size w0 w' := by
 refine enter (n := 41) Try.func69 rfl rfl rfl ?_
 have hk : Below w0.heap.size w0 w0 := Below.refl _ _
 refine sr ?_
 refine w_as (evc (.int .i64 0)) ?_
 refine nt ?_
 refine wp_seq ?_
 refine sr ?_
 refine w_mv (ev (.string (str key)) rfl rfl) ?_
 refine w_call (Try.func62) (by kernel_rfl) rfl (m1 (ev (.string (str key)) rfl rfl)) (new_l key w0 hok) ?_
 rintro _ w1 ⟨p, rfl, hge_p, hc, hb_p⟩
 refine ⟨_, rfl, ?_⟩
 have ge_p : w0.heap.size ≤ p := by have := hk.size; omega
 replace hk := thenB hk hb_p
 refine w_mv (ev (.tuple #[pt p 0, .int .i64 0]) rfl rfl) ?_
 refine w_val (y_ext (v := pt p 0) (ev (.tuple #[pt p 0, .int .i64 0]) rfl rfl) rfl) ?_
 refine w_val (y_ext (v := .int .i64 0) (ev (.tuple #[pt p 0, .int .i64 0]) rfl rfl) rfl) ?_
 refine w_as (ev (pt p 0) rfl rfl) ?_
 refine w_as (ev (.int .i64 0) rfl rfl) ?_
 refine nt ?_
 refine sr ?_
 refine w_mv (ev (.int .i64 0) rfl rfl) ?_
 refine w_val (y_bin (ev (.int .i64 0) rfl rfl) (evc (.int .i64 0)) b_neq) ?_
 refine nt ?_
 refine c_ff (ev (.bool false) rfl rfl) ?_
 refine wp_skip ?_
 refine then_n ?_
 refine wp_seq ?_
 refine sr ?_
 refine w_mv (ev (.string (str nonce)) rfl rfl) ?_
 refine w_val (y_len (ev (.string (str nonce)) rfl rfl) Try.underlying9) ?_
 refine w_val (y_bin (ev (.int .i64 ((nonce.length : Nat) : Int)) rfl rfl) (evc (.int .i64 7)) b_lss) ?_
 refine w_mv (ev (.bool (decide (((nonce.length : Nat) : Int) < 7))) rfl rfl) ?_
 by_cases hc2 : ((nonce.length : Nat) : Int) < 7
 ·skip
  first | with_reducible refine w_skip ?_ ?_ | refine w_skip ?_ ?_
  · exact want_no (j := 3) rfl rfl (ev (.bool true) (Eq.trans (b := .bool (decide (((nonce.length : Nat) : Int) < 7))) rfl (by rw [decide_eq_true hc2])) rfl) rfl
  first | with_reducible refine w_skip ?_ ?_ | refine w_skip ?_ ?_
  · exact want_no (j := 3) rfl rfl (ev (.bool true) (Eq.trans (b := .bool (decide (((nonce.length : Nat) : Int) < 7))) rfl (by rw [decide_eq_true hc2])) rfl) rfl
  first | with_reducible refine w_skip ?_ ?_ | refine w_skip ?_ ?_
  · exact want_no (j := 3) rfl rfl (ev (.bool true) (Eq.trans (b := .bool (decide (((nonce.length : Nat) : Int) < 7))) rfl (by rw [decide_eq_true hc2])) rfl) rfl
  refine w_val (y_pick_t (ev (.bool true) (Eq.trans (b := .bool (decide (((nonce.length : Nat) : Int) < 7))) rfl (by rw [decide_eq_true hc2])) rfl) (evc (.bool true))) ?_
  refine nt ?_
  refine c_tt (ev (.bool true) rfl rfl) ?_
  refine wp_seq ?_
  exfalso; omega
 ·skip
  refine w_val_g (v := .string (str nonce)) (want_yes (j := 3) rfl rfl (ev (.bool false) (Eq.trans (b := .bool (decide (((nonce.length : Nat) : Int) < 7))) rfl (by rw [decide_eq_false hc2])) rfl) rfl) (y_mv (ev (.string (str nonce)) rfl rfl)) ?_
  refine w_val_g (want_yes (j := 3) rfl rfl (ev (.bool false) (Eq.trans (b := .bool (decide (((nonce.length : Nat) : Int) < 7))) rfl (by rw [decide_eq_false hc2])) rfl) rfl) (y_len (ev (.string (str nonce)) rfl rfl) Try.underlying9) ?_
  refine w_val_g (want_yes (j := 3) rfl rfl (ev (.bool false) (Eq.trans (b := .bool (decide (((nonce.length : Nat) : Int) < 7))) rfl (by rw [decide_eq_false hc2])) rfl) rfl) (y_bin (ev (.int .i64 ((nonce.length : Nat) : Int)) rfl rfl) (evc (.int .i64 13)) b_gtr) ?_
  refine w_val (y_pick_f (ev (.bool false) (Eq.trans (b := .bool (decide (((nonce.length : Nat) : Int) < 7))) rfl (by rw [decide_eq_false hc2])) rfl) (ev (.bool (decide (13 < ((nonce.length : Nat) : Int)))) rfl rfl)) ?_
  refine nt ?_
  refine c_if (p := 13 < ((nonce.length : Nat) : Int)) (ev (.bool (decide (13 < ((nonce.length : Nat) : Int)))) rfl rfl) (fun hc3 => ?_) (fun hc3 => ?_)
  ·skip
   refine wp_seq ?_
   exfalso; omega
  ·skip
   refine wp_skip ?_
   refine then_n ?_
   refine wp_seq ?_
   refine sr ?_
   refine w_mv (ev (.int .i64 ((size : Nat) : Int)) rfl rfl) ?_
   refine nt ?_
   refine wp_block ?_
   refine wp_seq ?_
   refine wp_block ?_
   refine wp_block ?_
   refine wp_block ?_
   refine ss ?_
   refine sr ?_
   refine w_val (y_bin (ev (.int .i64 ((size : Nat) : Int)) rfl rfl) (evc (.int .i64 4)) b_eql) ?_
   refine w_as (ev (.bool (decide (((size : Nat) : Int) = 4))) rfl rfl) ?_
   refine nt ?_
   refine c_if (p := ((size : Nat) : Int) = 4) (ev (.bool (decide (((size : Nat) : Int) = 4))) rfl rfl) (fun hc4 => ?_) (fun hc4 => ?_)
   ·skip
    refine wp_exit ?_
    refine then_x ?_
    refine then_x ?_
    refine inb_x ?_
    refine inb_n ?_
    refine inb_n ?_
    refine then_n ?_
    refine ss ?_
    refine sr ?_
    refine w_mv (ev (.string (str aad)) rfl rfl) ?_
    refine w_val (y_len (ev (.string (str aad)) rfl rfl) Try.underlying9) ?_
    refine w_val (y_bin (ev (.int .i64 ((aad.length : Nat) : Int)) rfl rfl) (evc (.int .i64 70000)) b_gtr) ?_
    refine nt ?_
    have hc5 : 70000 < ((aad.length : Nat) : Int) := by omega
    refine c_t (p := 70000 < ((aad.length : Nat) : Int)) (ev (.bool (decide (70000 < ((aad.length : Nat) : Int)))) rfl rfl) hc5 ?_
    refine sr ?_
    refine w_as (evc (.int .i64 6)) ?_
    refine nt ?_
    refine wp_ret ?_
    refine then_r ?_
    refine then_r ?_
    refine inb_r ?_
    refine then_r ?_
    refine fin_ret1 rfl (ev (.int .i64 6) rfl rfl) ?_
    exact ⟨rfl, hk⟩
   ·skip
    refine wp_skip ?_
    refine then_n ?_
    refine ss ?_
    refine sr ?_
    refine w_val (y_bin (ev (.int .i64 ((size : Nat) : Int)) rfl rfl) (evc (.int .i64 6)) b_eql) ?_
    refine w_as (ev (.bool (decide (((size : Nat) : Int) = 6))) rfl rfl) ?_
    refine nt ?_
    refine c_if (p := ((size : Nat) : Int) = 6) (ev (.bool (decide (((size : Nat) : Int) = 6))) rfl rfl) (fun hc6 => ?_) (fun hc6 => ?_)
    ·skip
     refine wp_skip ?_
     refine then_n ?_
     refine c_tt (ev (.bool true) (Eq.trans (b := .bool (decide (((size : Nat) : Int) = 6))) rfl (by rw [decide_eq_true hc6])) rfl) ?_
     refine wp_exit ?_
     refine then_x ?_
     refine then_x ?_
     refine inb_y rfl ?_
     refine inb_x ?_
     refine inb_n ?_
     refine then_n ?_
     refine ss ?_
     refine sr ?_
     refine w_mv (ev (.string (str aad)) rfl rfl) ?_
     refine w_val (y_len (ev (.string (str aad)) rfl rfl) Try.underlying9) ?_
     refine w_val (y_bin (ev (.int .i64 ((aad.length : Nat) : Int)) rfl rfl) (evc (.int .i64 70000)) b_gtr) ?_
     refine nt ?_
     have hc7 : 70000 < ((aad.length : Nat) : Int) := by omega
     refine c_t (p := 70000 < ((aad.length : Nat) : Int)) (ev (.bool (decide (70000 < ((aad.length : Nat) : Int)))) rfl rfl) hc7 ?_
     refine sr ?_
     refine w_as (evc (.int .i64 6)) ?_
     refine nt ?_
     refine wp_ret ?_
     refine then_r ?_
     refine then_r ?_
     refine inb_r ?_
     refine then_r ?_
     refine fin_ret1 rfl (ev (.int .i64 6) rfl rfl) ?_
     exact ⟨rfl, hk⟩
    ·skip
     refine sr ?_
     refine w_val (y_bin (ev (.int .i64 ((size : Nat) : Int)) rfl rfl) (evc (.int .i64 8)) b_eql) ?_
     refine w_as (ev (.bool (decide (((size : Nat) : Int) = 8))) rfl rfl) ?_
     refine nt ?_
     refine c_if (p := ((size : Nat) : Int) = 8) (ev (.bool (decide (((size : Nat) : Int) = 8))) rfl rfl) (fun hc8 => ?_) (fun hc8 => ?_)
     ·skip
      refine wp_skip ?_
      refine then_n ?_
      refine c_tt (ev (.bool true) (Eq.trans (b := .bool (decide (((size : Nat) : Int) = 8))) rfl (by rw [decide_eq_true hc8])) rfl) ?_
      refine wp_exit ?_
      refine then_x ?_
      refine then_x ?_
      refine inb_y rfl ?_
      refine inb_x ?_
      refine inb_n ?_
      refine then_n ?_
      refine ss ?_
      refine sr ?_
      refine w_mv (ev (.string (str aad)) rfl rfl) ?_
      refine w_val (y_len (ev (.string (str aad)) rfl rfl) Try.underlying9) ?_
      refine w_val (y_bin (ev (.int .i64 ((aad.length : Nat) : Int)) rfl rfl) (evc (.int .i64 70000)) b_gtr) ?_
      refine nt ?_
      have hc9 : 70000 < ((aad.length : Nat) : Int) := by omega
      refine c_t (p := 70000 < ((aad.length : Nat) : Int)) (ev (.bool (decide (70000 < ((aad.length : Nat) : Int)))) rfl rfl) hc9 ?_
      refine sr ?_
      refine w_as (evc (.int .i64 6)) ?_
      refine nt ?_
      refine wp_ret ?_
      refine then_r ?_
      refine then_r ?_
      refine inb_r ?_
      refine then_r ?_
      refine fin_ret1 rfl (ev (.int .i64 6) rfl rfl) ?_
      exact ⟨rfl, hk⟩
     ·skip
      refine wp_region_lit ?_
      refine w_val (y_bin (ev (.int .i64 ((size : Nat) : Int)) rfl rfl) (evc (.int .i64 10)) b_eql) ?_
      refine w_as (ev (.bool (decide (((size : Nat) : Int) = 10))) rfl rfl) ?_
      refine nt ?_
      refine c_if (p := ((size : Nat) : Int) = 10) (ev (.bool (decide (((size : Nat) : Int) = 10))) rfl rfl) (fun hc10 => ?_) (fun hc10 => ?_)
      ·skip
       refine wp_exit ?_
       refine then_x ?_
       refine then_x ?_
       refine inb_y rfl ?_
       refine inb_x ?_
       refine inb_n ?_
       refine then_n ?_
       refine ss ?_
       refine sr ?_
       refine w_mv (ev (.string (str aad)) rfl rfl) ?_
       refine w_val (y_len (ev (.string (str aad)) rfl rfl) Try.underlying9) ?_
       refine w_val (y_bin (ev (.int .i64 ((aad.length : Nat) : Int)) rfl rfl) (evc (.int .i64 70000)) b_gtr) ?_
       refine nt ?_
       have hc11 : 70000 < ((aad.length : Nat) : Int) := by omega
       refine c_t (p := 70000 < ((aad.length : Nat) : Int)) (ev (.bool (decide (70000 < ((aad.length : Nat) : Int)))) rfl rfl) hc11 ?_
       refine sr ?_
       refine w_as (evc (.int .i64 6)) ?_
       refine nt ?_
       refine wp_ret ?_
       refine then_r ?_
       refine then_r ?_
       refine inb_r ?_
       refine then_r ?_
       refine fin_ret1 rfl (ev (.int .i64 6) rfl rfl) ?_
       exact ⟨rfl, hk⟩
      ·skip
       refine wp_skip ?_
       refine then_n ?_
       refine wp_seq ?_
       refine sr ?_
       refine w_val (y_bin (ev (.int .i64 ((size : Nat) : Int)) rfl rfl) (evc (.int .i64 12)) b_eql) ?_
       refine w_as (ev (.bool (decide (((size : Nat) : Int) = 12))) rfl rfl) ?_
       refine nt ?_
       refine c_if (p := ((size : Nat) : Int) = 12) (ev (.bool (decide (((size : Nat) : Int) = 12))) rfl rfl) (fun hc12 => ?_) (fun hc12 => ?_)
       ·skip
        refine wp_skip ?_
        refine then_n ?_
        refine c_tt (ev (.bool true) (Eq.trans (b := .bool (decide (((size : Nat) : Int) = 12))) rfl (by rw [decide_eq_true hc12])) rfl) ?_
        refine wp_exit ?_
        refine then_x ?_
        refine inb_y rfl ?_
        refine inb_y rfl ?_
        refine inb_x ?_
        refine then_n ?_
        refine ss ?_
        refine sr ?_
        refine w_mv (ev (.string (str aad)) rfl rfl) ?_
        refine w_val (y_len (ev (.string (str aad)) rfl rfl) Try.underlying9) ?_
        refine w_val (y_bin (ev (.int .i64 ((aad.length : Nat) : Int)) rfl rfl) (evc (.int .i64 70000)) b_gtr) ?_
        refine nt ?_
        have hc13 : 70000 < ((aad.length : Nat) : Int) := by omega
        refine c_t (p := 70000 < ((aad.length : Nat) : Int)) (ev (.bool (decide (70000 < ((aad.length : Nat) : Int)))) rfl rfl) hc13 ?_
        refine sr ?_
        refine w_as (evc (.int .i64 6)) ?_
        refine nt ?_
        refine wp_ret ?_
        refine then_r ?_
        refine then_r ?_
        refine inb_r ?_
        refine then_r ?_
        refine fin_ret1 rfl (ev (.int .i64 6) rfl rfl) ?_
        exact ⟨rfl, hk⟩
       ·skip
        refine sr ?_
        refine w_val (y_bin (ev (.int .i64 ((size : Nat) : Int)) rfl rfl) (evc (.int .i64 14)) b_eql) ?_
        refine w_as (ev (.bool (decide (((size : Nat) : Int) = 14))) rfl rfl) ?_
        refine nt ?_
        refine c_if (p := ((size : Nat) : Int) = 14) (ev (.bool (decide (((size : Nat) : Int) = 14))) rfl rfl) (fun hc14 => ?_) (fun hc14 => ?_)
        ·skip
         refine wp_skip ?_
         refine then_n ?_
         refine c_tt (ev (.bool true) (Eq.trans (b := .bool (decide (((size : Nat) : Int) = 14))) rfl (by rw [decide_eq_true hc14])) rfl) ?_
         refine wp_exit ?_
         refine then_x ?_
         refine inb_y rfl ?_
         refine inb_y rfl ?_
         refine inb_x ?_
         refine then_n ?_
         refine ss ?_
         refine sr ?_
         refine w_mv (ev (.string (str aad)) rfl rfl) ?_
         refine w_val (y_len (ev (.string (str aad)) rfl rfl) Try.underlying9) ?_
         refine w_val (y_bin (ev (.int .i64 ((aad.length : Nat) : Int)) rfl rfl) (evc (.int .i64 70000)) b_gtr) ?_
         refine nt ?_
         have hc15 : 70000 < ((aad.length : Nat) : Int) := by omega
         refine c_t (p := 70000 < ((aad.length : Nat) : Int)) (ev (.bool (decide (70000 < ((aad.length : Nat) : Int)))) rfl rfl) hc15 ?_
         refine sr ?_
         refine w_as (evc (.int .i64 6)) ?_
         refine nt ?_
         refine wp_ret ?_
         refine then_r ?_
         refine then_r ?_
         refine inb_r ?_
         refine then_r ?_
         refine fin_ret1 rfl (ev (.int .i64 6) rfl rfl) ?_
         exact ⟨rfl, hk⟩
        ·skip
         refine wp_region_lit ?_
         refine w_val (y_bin (ev (.int .i64 ((size : Nat) : Int)) rfl rfl) (evc (.int .i64 16)) b_eql) ?_
         refine w_as (ev (.bool (decide (((size : Nat) : Int) = 16))) rfl rfl) ?_
         refine nt ?_
         refine c_if (p := ((size : Nat) : Int) = 16) (ev (.bool (decide (((size : Nat) : Int) = 16))) rfl rfl) (fun hc16 => ?_) (fun hc16 => ?_)
         ·skip
          refine wp_exit ?_
          refine then_x ?_
          refine inb_y rfl ?_
          refine inb_y rfl ?_
          refine inb_x ?_
          refine then_n ?_
          refine ss ?_
          refine sr ?_
          refine w_mv (ev (.string (str aad)) rfl rfl) ?_
          refine w_val (y_len (ev (.string (str aad)) rfl rfl) Try.underlying9) ?_
          refine w_val (y_bin (ev (.int .i64 ((aad.length : Nat) : Int)) rfl rfl) (evc (.int .i64 70000)) b_gtr) ?_
          refine nt ?_
          have hc17 : 70000 < ((aad.length : Nat) : Int) := by omega
          refine c_t (p := 70000 < ((aad.length : Nat) : Int)) (ev (.bool (decide (70000 < ((aad.length : Nat) : Int)))) rfl rfl) hc17 ?_
          refine sr ?_
          refine w_as (evc (.int .i64 6)) ?_
          refine nt ?_
          refine wp_ret ?_
          refine then_r ?_
          refine then_r ?_
          refine inb_r ?_
          refine then_r ?_
          refine fin_ret1 rfl (ev (.int .i64 6) rfl rfl) ?_
          exact ⟨rfl, hk⟩
         ·skip
          refine wp_skip ?_
          refine then_n ?_
          refine wp_exit ?_
          refine inb_y rfl ?_
          refine inb_y rfl ?_
          refine inb_y rfl ?_
          refine then_x ?_
          refine inb_x ?_
          refine then_n ?_
          refine wp_seq ?_
          exfalso; omega

set_option maxRecDepth 100000 in
set_option maxHeartbeats 1000000 in
theorem cmWrong_y (key nonce aad : List (BitVec 8)) (size : Nat) (hok : Aes.okKey key.length) (hn : 7 ≤ nonce.length ∧ nonce.length ≤ 13) (h4 : 4 ≤ size) (h16 : size ≤ 16) (hev : size % 2 = 0) (ha : aad.length ≤ 70000) (w0 : World) : Calls Try.prog 69 #[.string (str key), .string (str nonce), .string (str aad), .int .i64 ((size : Nat) : Int)] w0 fun e w' => e = .returned (.int .i64 0) ∧ Below w0.heap.size w0 w' := by
 refine enter (n := 41) Try.func69 rfl rfl rfl ?_
 have hk : Below w0.heap.size w0 w0 := Below.refl _ _
 refine sr ?_
 refine w_as (evc (.int .i64 0)) ?_
 refine nt ?_
 refine wp_seq ?_
 refine sr ?_
 refine w_mv (ev (.string (str key)) rfl rfl) ?_
 refine w_call (Try.func62) (by kernel_rfl) rfl (m1 (ev (.string (str key)) rfl rfl)) (new_l key w0 hok) ?_
 rintro _ w1 ⟨p, rfl, hge_p, hc, hb_p⟩
 refine ⟨_, rfl, ?_⟩
 have ge_p : w0.heap.size ≤ p := by have := hk.size; omega
 replace hk := thenB hk hb_p
 refine w_mv (ev (.tuple #[pt p 0, .int .i64 0]) rfl rfl) ?_
 refine w_val (y_ext (v := pt p 0) (ev (.tuple #[pt p 0, .int .i64 0]) rfl rfl) rfl) ?_
 refine w_val (y_ext (v := .int .i64 0) (ev (.tuple #[pt p 0, .int .i64 0]) rfl rfl) rfl) ?_
 refine w_as (ev (pt p 0) rfl rfl) ?_
 refine w_as (ev (.int .i64 0) rfl rfl) ?_
 refine nt ?_
 refine sr ?_
 refine w_mv (ev (.int .i64 0) rfl rfl) ?_
 refine w_val (y_bin (ev (.int .i64 0) rfl rfl) (evc (.int .i64 0)) b_neq) ?_
 refine nt ?_
 refine c_ff (ev (.bool false) rfl rfl) ?_
 refine wp_skip ?_
 refine then_n ?_
 refine wp_seq ?_
 refine sr ?_
 refine w_mv (ev (.string (str nonce)) rfl rfl) ?_
 refine w_val (y_len (ev (.string (str nonce)) rfl rfl) Try.underlying9) ?_
 refine w_val (y_bin (ev (.int .i64 ((nonce.length : Nat) : Int)) rfl rfl) (evc (.int .i64 7)) b_lss) ?_
 refine w_mv (ev (.bool (decide (((nonce.length : Nat) : Int) < 7))) rfl rfl) ?_
 by_cases hc2 : ((nonce.length : Nat) : Int) < 7
 ·skip
  first | with_reducible refine w_skip ?_ ?_ | refine w_skip ?_ ?_
  · exact want_no (j := 3) rfl rfl (ev (.bool true) (Eq.trans (b := .bool (decide (((nonce.length : Nat) : Int) < 7))) rfl (by rw [decide_eq_true hc2])) rfl) rfl
  first | with_reducible refine w_skip ?_ ?_ | refine w_skip ?_ ?_
  · exact want_no (j := 3) rfl rfl (ev (.bool true) (Eq.trans (b := .bool (decide (((nonce.length : Nat) : Int) < 7))) rfl (by rw [decide_eq_true hc2])) rfl) rfl
  first | with_reducible refine w_skip ?_ ?_ | refine w_skip ?_ ?_
  · exact want_no (j := 3) rfl rfl (ev (.bool true) (Eq.trans (b := .bool (decide (((nonce.length : Nat) : Int) < 7))) rfl (by rw [decide_eq_true hc2])) rfl) rfl
  refine w_val (y_pick_t (ev (.bool true) (Eq.trans (b := .bool (decide (((nonce.length : Nat) : Int) < 7))) rfl (by rw [decide_eq_true hc2])) rfl) (evc (.bool true))) ?_
  refine nt ?_
  refine c_tt (ev (.bool true) rfl rfl) ?_
  refine wp_seq ?_
  exfalso; omega
 ·skip
  refine w_val_g (v := .string (str nonce)) (want_yes (j := 3) rfl rfl (ev (.bool false) (Eq.trans (b := .bool (decide (((nonce.length : Nat) : Int) < 7))) rfl (by rw [decide_eq_false hc2])) rfl) rfl) (y_mv (ev (.string (str nonce)) rfl rfl)) ?_
  refine w_val_g (want_yes (j := 3) rfl rfl (ev (.bool false) (Eq.trans (b := .bool (decide (((nonce.length : Nat) : Int) < 7))) rfl (by rw [decide_eq_false hc2])) rfl) rfl) (y_len (ev (.string (str nonce)) rfl rfl) Try.underlying9) ?_
  refine w_val_g (want_yes (j := 3) rfl rfl (ev (.bool false) (Eq.trans (b := .bool (decide (((nonce.length : Nat) : Int) < 7))) rfl (by rw [decide_eq_false hc2])) rfl) rfl) (y_bin (ev (.int .i64 ((nonce.length : Nat) : Int)) rfl rfl) (evc (.int .i64 13)) b_gtr) ?_
  refine w_val (y_pick_f (ev (.bool false) (Eq.trans (b := .bool (decide (((nonce.length : Nat) : Int) < 7))) rfl (by rw [decide_eq_false hc2])) rfl) (ev (.bool (decide (13 < ((nonce.length : Nat) : Int)))) rfl rfl)) ?_
  refine nt ?_
  refine c_if (p := 13 < ((nonce.length : Nat) : Int)) (ev (.bool (decide (13 < ((nonce.length : Nat) : Int)))) rfl rfl) (fun hc3 => ?_) (fun hc3 => ?_)
  ·skip
   refine wp_seq ?_
   exfalso; omega
  ·skip
   refine wp_skip ?_
   refine then_n ?_
   refine wp_seq ?_
   refine sr ?_
   refine w_mv (ev (.int .i64 ((size : Nat) : Int)) rfl rfl) ?_
   refine nt ?_
   refine wp_block ?_
   refine wp_seq ?_
   refine wp_block ?_
   refine wp_block ?_
   refine wp_block ?_
   refine ss ?_
   refine sr ?_
   refine w_val (y_bin (ev (.int .i64 ((size : Nat) : Int)) rfl rfl) (evc (.int .i64 4)) b_eql) ?_
   refine w_as (ev (.bool (decide (((size : Nat) : Int) = 4))) rfl rfl) ?_
   refine nt ?_
   refine c_if (p := ((size : Nat) : Int) = 4) (ev (.bool (decide (((size : Nat) : Int) = 4))) rfl rfl) (fun hc4 => ?_) (fun hc4 => ?_)
   ·skip
    refine wp_exit ?_
    refine then_x ?_
    refine then_x ?_
    refine inb_x ?_
    refine inb_n ?_
    refine inb_n ?_
    refine then_n ?_
    refine ss ?_
    refine sr ?_
    refine w_mv (ev (.string (str aad)) rfl rfl) ?_
    refine w_val (y_len (ev (.string (str aad)) rfl rfl) Try.underlying9) ?_
    refine w_val (y_bin (ev (.int .i64 ((aad.length : Nat) : Int)) rfl rfl) (evc (.int .i64 70000)) b_gtr) ?_
    refine nt ?_
    have hc5 : ¬ (70000 < ((aad.length : Nat) : Int)) := by omega
    refine c_f (p := 70000 < ((aad.length : Nat) : Int)) (ev (.bool (decide (70000 < ((aad.length : Nat) : Int)))) rfl rfl) hc5 ?_
    refine wp_skip ?_
    refine then_n ?_
    refine sr ?_
    refine w_as (evc (.int .i64 0)) ?_
    refine nt ?_
    refine wp_ret ?_
    refine then_r ?_
    refine inb_r ?_
    refine then_r ?_
    refine fin_ret1 rfl (ev (.int .i64 0) rfl rfl) ?_
    exact ⟨rfl, hk⟩
   ·skip
    refine wp_skip ?_
    refine then_n ?_
    refine ss ?_
    refine sr ?_
    refine w_val (y_bin (ev (.int .i64 ((size : Nat) : Int)) rfl rfl) (evc (.int .i64 6)) b_eql) ?_
    refine w_as (ev (.bool (decide (((size : Nat) : Int) = 6))) rfl rfl) ?_
    refine nt ?_
    refine c_if (p := ((size : Nat) : Int) = 6) (ev (.bool (decide (((size : Nat) : Int) = 6))) rfl rfl) (fun hc6 => ?_) (fun hc6 => ?_)
    ·skip
     refine wp_skip ?_
     refine then_n ?_
     refine c_tt (ev (.bool true) (Eq.trans (b := .bool (decide (((size : Nat) : Int) = 6))) rfl (by rw [decide_eq_true hc6])) rfl) ?_
     refine wp_exit ?_
     refine then_x ?_
     refine then_x ?_
     refine inb_y rfl ?_
     refine inb_x ?_
     refine inb_n ?_
     refine then_n ?_
     refine ss ?_
     refine sr ?_
     refine w_mv (ev (.string (str aad)) rfl rfl) ?_
     refine w_val (y_len (ev (.string (str aad)) rfl rfl) Try.underlying9) ?_
     refine w_val (y_bin (ev (.int .i64 ((aad.length : Nat) : Int)) rfl rfl) (evc (.int .i64 70000)) b_gtr) ?_
     refine nt ?_
     have hc7 : ¬ (70000 < ((aad.length : Nat) : Int)) := by omega
     refine c_f (p := 70000 < ((aad.length : Nat) : Int)) (ev (.bool (decide (70000 < ((aad.length : Nat) : Int)))) rfl rfl) hc7 ?_
     refine wp_skip ?_
     refine then_n ?_
     refine sr ?_
     refine w_as (evc (.int .i64 0)) ?_
     refine nt ?_
     refine wp_ret ?_
     refine then_r ?_
     refine inb_r ?_
     refine then_r ?_
     refine fin_ret1 rfl (ev (.int .i64 0) rfl rfl) ?_
     exact ⟨rfl, hk⟩
    ·skip
     refine sr ?_
     refine w_val (y_bin (ev (.int .i64 ((size : Nat) : Int)) rfl rfl) (evc (.int .i64 8)) b_eql) ?_
     refine w_as (ev (.bool (decide (((size : Nat) : Int) = 8))) rfl rfl) ?_
     refine nt ?_
     refine c_if (p := ((size : Nat) : Int) = 8) (ev (.bool (decide (((size : Nat) : Int) = 8))) rfl rfl) (fun hc8 => ?_) (fun hc8 => ?_)
     ·skip
      refine wp_skip ?_
      refine then_n ?_
      refine c_tt (ev (.bool true) (Eq.trans (b := .bool (decide (((size : Nat) : Int) = 8))) rfl (by rw [decide_eq_true hc8])) rfl) ?_
      refine wp_exit ?_
      refine then_x ?_
      refine then_x ?_
      refine inb_y rfl ?_
      refine inb_x ?_
      refine inb_n ?_
      refine then_n ?_
      refine ss ?_
      refine sr ?_
      refine w_mv (ev (.string (str aad)) rfl rfl) ?_
      refine w_val (y_len (ev (.string (str aad)) rfl rfl) Try.underlying9) ?_
      refine w_val (y_bin (ev (.int .i64 ((aad.length : Nat) : Int)) rfl rfl) (evc (.int .i64 70000)) b_gtr) ?_
      refine nt ?_
      have hc9 : ¬ (70000 < ((aad.length : Nat) : Int)) := by omega
      refine c_f (p := 70000 < ((aad.length : Nat) : Int)) (ev (.bool (decide (70000 < ((aad.length : Nat) : Int)))) rfl rfl) hc9 ?_
      refine wp_skip ?_
      refine then_n ?_
      refine sr ?_
      refine w_as (evc (.int .i64 0)) ?_
      refine nt ?_
      refine wp_ret ?_
      refine then_r ?_
      refine inb_r ?_
      refine then_r ?_
      refine fin_ret1 rfl (ev (.int .i64 0) rfl rfl) ?_
      exact ⟨rfl, hk⟩
     ·skip
      refine wp_region_lit ?_
      refine w_val (y_bin (ev (.int .i64 ((size : Nat) : Int)) rfl rfl) (evc (.int .i64 10)) b_eql) ?_
      refine w_as (ev (.bool (decide (((size : Nat) : Int) = 10))) rfl rfl) ?_
      refine nt ?_
      refine c_if (p := ((size : Nat) : Int) = 10) (ev (.bool (decide (((size : Nat) : Int) = 10))) rfl rfl) (fun hc10 => ?_) (fun hc10 => ?_)
      ·skip
       refine wp_exit ?_
       refine then_x ?_
       refine then_x ?_
       refine inb_y rfl ?_
       refine inb_x ?_
       refine inb_n ?_
       refine then_n ?_
       refine ss ?_
       refine sr ?_
       refine w_mv (ev (.string (str aad)) rfl rfl) ?_
       refine w_val (y_len (ev (.string (str aad)) rfl rfl) Try.underlying9) ?_
       refine w_val (y_bin (ev (.int .i64 ((aad.length : Nat) : Int)) rfl rfl) (evc (.int .i64 70000)) b_gtr) ?_
       refine nt ?_
       have hc11 : ¬ (70000 < ((aad.length : Nat) : Int)) := by omega
       refine c_f (p := 70000 < ((aad.length : Nat) : Int)) (ev (.bool (decide (70000 < ((aad.length : Nat) : Int)))) rfl rfl) hc11 ?_
       refine wp_skip ?_
       refine then_n ?_
       refine sr ?_
       refine w_as (evc (.int .i64 0)) ?_
       refine nt ?_
       refine wp_ret ?_
       refine then_r ?_
       refine inb_r ?_
       refine then_r ?_
       refine fin_ret1 rfl (ev (.int .i64 0) rfl rfl) ?_
       exact ⟨rfl, hk⟩
      ·skip
       refine wp_skip ?_
       refine then_n ?_
       refine wp_seq ?_
       refine sr ?_
       refine w_val (y_bin (ev (.int .i64 ((size : Nat) : Int)) rfl rfl) (evc (.int .i64 12)) b_eql) ?_
       refine w_as (ev (.bool (decide (((size : Nat) : Int) = 12))) rfl rfl) ?_
       refine nt ?_
       refine c_if (p := ((size : Nat) : Int) = 12) (ev (.bool (decide (((size : Nat) : Int) = 12))) rfl rfl) (fun hc12 => ?_) (fun hc12 => ?_)
       ·skip
        refine wp_skip ?_
        refine then_n ?_
        refine c_tt (ev (.bool true) (Eq.trans (b := .bool (decide (((size : Nat) : Int) = 12))) rfl (by rw [decide_eq_true hc12])) rfl) ?_
        refine wp_exit ?_
        refine then_x ?_
        refine inb_y rfl ?_
        refine inb_y rfl ?_
        refine inb_x ?_
        refine then_n ?_
        refine ss ?_
        refine sr ?_
        refine w_mv (ev (.string (str aad)) rfl rfl) ?_
        refine w_val (y_len (ev (.string (str aad)) rfl rfl) Try.underlying9) ?_
        refine w_val (y_bin (ev (.int .i64 ((aad.length : Nat) : Int)) rfl rfl) (evc (.int .i64 70000)) b_gtr) ?_
        refine nt ?_
        have hc13 : ¬ (70000 < ((aad.length : Nat) : Int)) := by omega
        refine c_f (p := 70000 < ((aad.length : Nat) : Int)) (ev (.bool (decide (70000 < ((aad.length : Nat) : Int)))) rfl rfl) hc13 ?_
        refine wp_skip ?_
        refine then_n ?_
        refine sr ?_
        refine w_as (evc (.int .i64 0)) ?_
        refine nt ?_
        refine wp_ret ?_
        refine then_r ?_
        refine inb_r ?_
        refine then_r ?_
        refine fin_ret1 rfl (ev (.int .i64 0) rfl rfl) ?_
        exact ⟨rfl, hk⟩
       ·skip
        refine sr ?_
        refine w_val (y_bin (ev (.int .i64 ((size : Nat) : Int)) rfl rfl) (evc (.int .i64 14)) b_eql) ?_
        refine w_as (ev (.bool (decide (((size : Nat) : Int) = 14))) rfl rfl) ?_
        refine nt ?_
        refine c_if (p := ((size : Nat) : Int) = 14) (ev (.bool (decide (((size : Nat) : Int) = 14))) rfl rfl) (fun hc14 => ?_) (fun hc14 => ?_)
        ·skip
         refine wp_skip ?_
         refine then_n ?_
         refine c_tt (ev (.bool true) (Eq.trans (b := .bool (decide (((size : Nat) : Int) = 14))) rfl (by rw [decide_eq_true hc14])) rfl) ?_
         refine wp_exit ?_
         refine then_x ?_
         refine inb_y rfl ?_
         refine inb_y rfl ?_
         refine inb_x ?_
         refine then_n ?_
         refine ss ?_
         refine sr ?_
         refine w_mv (ev (.string (str aad)) rfl rfl) ?_
         refine w_val (y_len (ev (.string (str aad)) rfl rfl) Try.underlying9) ?_
         refine w_val (y_bin (ev (.int .i64 ((aad.length : Nat) : Int)) rfl rfl) (evc (.int .i64 70000)) b_gtr) ?_
         refine nt ?_
         have hc15 : ¬ (70000 < ((aad.length : Nat) : Int)) := by omega
         refine c_f (p := 70000 < ((aad.length : Nat) : Int)) (ev (.bool (decide (70000 < ((aad.length : Nat) : Int)))) rfl rfl) hc15 ?_
         refine wp_skip ?_
         refine then_n ?_
         refine sr ?_
         refine w_as (evc (.int .i64 0)) ?_
         refine nt ?_
         refine wp_ret ?_
         refine then_r ?_
         refine inb_r ?_
         refine then_r ?_
         refine fin_ret1 rfl (ev (.int .i64 0) rfl rfl) ?_
         exact ⟨rfl, hk⟩
        ·skip
         refine wp_region_lit ?_
         refine w_val (y_bin (ev (.int .i64 ((size : Nat) : Int)) rfl rfl) (evc (.int .i64 16)) b_eql) ?_
         refine w_as (ev (.bool (decide (((size : Nat) : Int) = 16))) rfl rfl) ?_
         refine nt ?_
         refine c_if (p := ((size : Nat) : Int) = 16) (ev (.bool (decide (((size : Nat) : Int) = 16))) rfl rfl) (fun hc16 => ?_) (fun hc16 => ?_)
         ·skip
          refine wp_exit ?_
          refine then_x ?_
          refine inb_y rfl ?_
          refine inb_y rfl ?_
          refine inb_x ?_
          refine then_n ?_
          refine ss ?_
          refine sr ?_
          refine w_mv (ev (.string (str aad)) rfl rfl) ?_
          refine w_val (y_len (ev (.string (str aad)) rfl rfl) Try.underlying9) ?_
          refine w_val (y_bin (ev (.int .i64 ((aad.length : Nat) : Int)) rfl rfl) (evc (.int .i64 70000)) b_gtr) ?_
          refine nt ?_
          have hc17 : ¬ (70000 < ((aad.length : Nat) : Int)) := by omega
          refine c_f (p := 70000 < ((aad.length : Nat) : Int)) (ev (.bool (decide (70000 < ((aad.length : Nat) : Int)))) rfl rfl) hc17 ?_
          refine wp_skip ?_
          refine then_n ?_
          refine sr ?_
          refine w_as (evc (.int .i64 0)) ?_
          refine nt ?_
          refine wp_ret ?_
          refine then_r ?_
          refine inb_r ?_
          refine then_r ?_
          refine fin_ret1 rfl (ev (.int .i64 0) rfl rfl) ?_
          exact ⟨rfl, hk⟩
         ·skip
          refine wp_skip ?_
          refine then_n ?_
          refine wp_exit ?_
          refine inb_y rfl ?_
          refine inb_y rfl ?_
          refine inb_y rfl ?_
          refine then_x ?_
          refine inb_x ?_
          refine then_n ?_
          refine wp_seq ?_
          exfalso; omega
end Go.Proofs.Ytjdcpejcnmpiaaa
