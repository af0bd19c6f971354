/-
  Tags and what is joined, by the program. Conditions as each says.
-/
import Derived.Test.YtjdcpejcnmpiaaaRows
import Derived.Test.YtjdcpejcnmpiaaaCcmA
import Derived.Test.YtjdcpejcnmpiaaaCbcM
import Derived.Test.YtjdcpejcnmpiaaaCtrC
import Derived.Test.YtjdcpejcnmpiaaaGenSh
import Derived.ProofKit
namespace Go.Proofs.Ytjdcpejcnmpiaaa
open Go.RowKit
set_option linter.unusedSimpArgs false
set_option linter.unusedVariables false
set_option maxRecDepth 100000
set_option maxHeartbeats 1000000
namespace CcmBT
theorem mixed : Try.prog.follows .mixedOrders = true := by kernel_rfl
theorem so3 : (Try.prog.underlying 3).isSome = true := by rw [Try.underlying3]; rfl
end CcmBT
theorem cmTag (key nonce aad text : List (BitVec 8)) (q : Nat) (hq : nonce.length + q = 15) (h2 : 2 ≤ q) (h8 : q ≤ 8) (size : Nat) (h4 : 4 ≤ size) (h16 : size ≤ 16) (hev : size % 2 = 0) (hok : Aes.okKey key.length) (ha : aad.length ≤ 70000) (hf : Cm.Fit text.length nonce) (hs : aad.length + text.length ≤ 139960) (w0 : World) : Calls Try.prog 72 #[.string (str key), .string (str nonce), .string (str aad), .string (str text), .int .i64 ((size : Nat) : Int)] w0 fun e w' => e = .returned (.string (str (Cm.tg key nonce aad text q size))) ∧ Below w0.heap.size w0 w' := by
 have hnl : text.length < 2 ^ (8 * q) := Cm.fit_lt text.length q nonce hq h2 hf
 have hbm := Cm.bes_mod aad
 have hf1 := hf.1
 refine enter (n := 64) Try.func72 rfl rfl rfl ?_
 have hk : Below w0.heap.size w0 w0 := Below.refl _ _
 refine sr ?_
 refine w_as (evc (.string (str ([] : List (BitVec 8))))) ?_
 refine nt ?_
 refine sr ?_
 refine w_mv es ?_
 refine w_val (y_len es Try.underlying9) ?_
 refine w_val (y_bin Ev.c ei (b_sub (by omega))) ?_
 refine w_as ei ?_
 refine nt ?_
 refine sr ?_
 refine w_mv ei ?_
 refine w_val (y_bin ei Ev.c (b_sub (by omega))) ?_
 refine w_val (y_bin ei Ev.c (b_quo (by omega))) ?_
 refine w_val (y_bin Ev.c ei (b_mul (by omega))) ?_
 refine w_mv (ex (.int .i64 ((q : Nat) : Int)) (Eq.trans (b := .int .i64 (15 - ((nonce.length : Nat) : Int))) rfl (by congr 1; omega))) ?_
 refine w_val (y_bin ei ei (b_add (by omega))) ?_
 refine w_val (y_bin ei Ev.c (b_sub (by omega))) ?_
 refine w_as ei ?_
 refine nt ?_
 refine wp_seq ?_
 refine sr ?_
 refine w_mv es ?_
 refine w_val (y_bin es (evc (.string (str ([] : List (BitVec 8))))) b_nes) ?_
 refine nt ?_
 refine c_if (p := aad ≠ ([] : List (BitVec 8))) eb (fun hc1 => ?_) (fun hc1 => ?_)
 ·skip
  refine wp_region_lit ?_
  refine w_mv ei ?_
  refine w_val (y_bin ei Ev.c (b_add (by omega))) ?_
  refine w_as ei ?_
  refine nt ?_
  refine c_cut (fun aN wl => ∃ f2, aN = fr 64 f2 ∧ f2 0 = .string (str key) ∧ f2 1 = .string (str nonce) ∧ f2 2 = .string (str aad) ∧ f2 3 = .string (str text) ∧ f2 4 = .int .i64 ((size : Nat) : Int) ∧ f2 10 = .string (str ([] : List (BitVec 8))) ∧ f2 11 = .int .i64 ((q : Nat) : Int) ∧ f2 13 = .string (str (Cb.mac key (Cm.all nonce aad text q size))) ∧ Below w0.heap.size w0 wl) ?_ ?_
  ·skip
   have hat : 0 < aad.length := List.length_pos_iff.2 hc1
   refine region_dc (Nat.testBit 0) 23 CcmBT.mixed rfl ?_
   intro w4 hb5
   replace hk := thenB hk hb5
   have hS : Cls w4 w4 := Below.refl _ _
   refine dp 0 rfl (fun w' => y_mv es) ?_
   refine dp 1 rfl (fun w' => y_mv (ex (.int .i64 (((Cm.fst q aad size) : Nat) : Int)) (Eq.trans (b := .int .i64 ((((8 * ((((size : Nat) : Int) - 2) / 2)) + ((q : Nat) : Int)) - 1) + 64)) rfl (by exact congrArg (Value.int .i64) (by unfold Cm.fst; split <;> omega))))) ?_
   refine dp (v := U8 (BitVec.ofNat 8 (Cm.fst q aad size))) 2 rfl (fun w' => y_nat_u8 (p := (Cm.fst q aad size)) ei (by omega) CcmBT.so3 Try.underlying5) ?_
   refine dp 5 rfl (fun w' => y_mv es) ?_
   refine dp 7 rfl (fun w' => y_mv es) ?_
   refine dp (v := .int .i64 ((text.length : Nat) : Int)) 8 rfl (fun w' => y_len es Try.underlying9) ?_
   refine dp 9 rfl (fun w' => y_mv (ex (.int .i64 ((q : Nat) : Int)) (Eq.trans (b := .int .i64 (15 - ((nonce.length : Nat) : Int))) rfl (by congr 1; omega)))) ?_
   refine dp 12 rfl (fun w' => y_mv es) ?_
   refine dp 15 rfl (fun w' => y_mv es) ?_
   refine d_two 3 10 (by kernel_rfl) rfl rfl ?_ ?_
   ·skip
    refine w_bs1 (m := 1) (e := 5) (F := fun j => U8 (BitVec.ofNat 8 (Cm.fst q aad size))) e8 (fun w => by kernel_rfl) ?_
    intro b_35 w6 hbe_b_35 r_b_35 hb7
    have ge_b_35 : w0.heap.size ≤ b_35 := by have := hk.size; omega
    clear hbe_b_35
    replace hk := thenB hk hb7
    replace hS := thenB hS hb7
    refine wpList_nil ?_
    refine then_n ⟨fun _ h => thenB h (by assumption), ?_⟩
    refine d_two 4 10 (by kernel_rfl) rfl rfl ?_ ?_
    ·skip
     refine w_val (y_str (l := [BitVec.ofNat 8 (Cm.fst q aad size)]) el (by rfl) Try.underlying54 Try.underlying5 Try.underlying9 (fun j hj => (r_b_35.val (by omega) (by (obtain rfl : j = 0 := (by omega)); rfl)))) ?_
     refine wpList_nil ?_
     refine then_n ⟨fun _ h => h, ?_⟩
     refine dp (v := .string (str (([BitVec.ofNat 8 (Cm.fst q aad size)]) ++ nonce))) 6 rfl (fun w' => y_bin es es (b_cat (by simp only [List.length_append, List.length_cons, List.length_nil, Cm.num_len, List.length_replicate]; omega))) ?_
     refine d_one 10 (by kernel_rfl) rfl ?_
     refine w_call (Try.func96) (by kernel_rfl) rfl (m2 ei ei) (cmNumber text.length q (by omega) h8 hnl (by omega) w6) ?_
     rintro _ w8 ⟨rfl, hb9⟩
     refine ⟨_, rfl, ?_⟩
     replace r_b_35 := r_b_35.step hb9
     replace hk := thenB hk hb9
     replace hS := thenB hS hb9
     refine wpList_nil ?_
     refine then_n ⟨fun _ h => thenB h (by assumption), ?_⟩
     refine dp (v := .string (str ((([BitVec.ofNat 8 (Cm.fst q aad size)]) ++ nonce) ++ (Cm.num text.length q)))) 11 rfl (fun w' => y_bin es es (b_cat (by simp only [List.length_append, List.length_cons, List.length_nil, Cm.num_len, List.length_replicate]; omega))) ?_
     refine d_one 13 (by kernel_rfl) rfl ?_
     refine w_call (Try.func97) (by kernel_rfl) rfl (m1 es) (cmBeside aad ha w8) ?_
     rintro _ w10 ⟨rfl, hb11⟩
     refine ⟨_, rfl, ?_⟩
     replace r_b_35 := r_b_35.step hb11
     replace hk := thenB hk hb11
     replace hS := thenB hS hb11
     refine wpList_nil ?_
     refine then_n ⟨fun _ h => thenB h (by assumption), ?_⟩
     refine dp (v := .string (str (((([BitVec.ofNat 8 (Cm.fst q aad size)]) ++ nonce) ++ (Cm.num text.length q)) ++ (Cm.bes aad)))) 14 rfl (fun w' => y_bin es es (b_cat (by simp only [List.length_append, List.length_cons, List.length_nil, Cm.num_len, List.length_replicate]; omega))) ?_
     refine dp (v := .string (str ((((([BitVec.ofNat 8 (Cm.fst q aad size)]) ++ nonce) ++ (Cm.num text.length q)) ++ (Cm.bes aad)) ++ text))) 16 rfl (fun w' => y_bin es es (b_cat (by simp only [List.length_append, List.length_cons, List.length_nil, Cm.num_len, List.length_replicate]; omega))) ?_
     refine d_one 17 (by kernel_rfl) rfl ?_
     refine w_call (Try.func32) (by kernel_rfl) rfl (m2 es es) (mac_y key hok (Cm.all nonce aad text q size) (by rw [Cm.all_len _ _ _ _ _ hq]; omega) w10) ?_
     rintro _ w12 ⟨rfl, hb13⟩
     refine ⟨_, rfl, ?_⟩
     replace r_b_35 := r_b_35.step hb13
     replace hk := thenB hk hb13
     replace hS := thenB hS hb13
     refine wpList_nil ?_
     refine then_n ⟨fun _ h => thenB h (by assumption), ?_⟩
     refine dp 18 rfl (fun w' => y_mv (ex (.tuple #[.string (str (Cb.mac key (Cm.all nonce aad text q size))), .int .i64 0]))) ?_
     refine dp (v := .string (str (Cb.mac key (Cm.all nonce aad text q size)))) 19 rfl (fun w' => y_ext (v := .string (str (Cb.mac key (Cm.all nonce aad text q size)))) (ex (.tuple #[.string (str (Cb.mac key (Cm.all nonce aad text q size))), .int .i64 0])) rfl) ?_
     refine dp (v := .int .i64 0) 20 rfl (fun w' => y_ext (v := .int .i64 0) (ex (.tuple #[.string (str (Cb.mac key (Cm.all nonce aad text q size))), .int .i64 0])) rfl) ?_
     refine dp 21 rfl (fun w' => y_as es) ?_
     refine dp 22 rfl (fun w' => y_as ei) ?_
     refine d_done (by kernel_rfl) ?_
     clear hS
     exact then_n ⟨_, rfl, rfl, rfl, rfl, rfl, rfl, rfl, (Eq.trans (b := .int .i64 (15 - ((nonce.length : Nat) : Int))) rfl (by congr 1; omega)), rfl, hk⟩
    ·skip
     refine w_call (Try.func96) (by kernel_rfl) rfl (m2 ei ei) (cmNumber text.length q (by omega) h8 hnl (by omega) w6) ?_
     rintro _ w14 ⟨rfl, hb15⟩
     refine ⟨_, rfl, ?_⟩
     replace r_b_35 := r_b_35.step hb15
     replace hk := thenB hk hb15
     replace hS := thenB hS hb15
     refine wpList_nil ?_
     refine then_n ⟨fun _ h => thenB h (by assumption), ?_⟩
     refine d_two 4 13 (by kernel_rfl) rfl rfl ?_ ?_
     ·skip
      refine w_val (y_str (l := [BitVec.ofNat 8 (Cm.fst q aad size)]) el (by rfl) Try.underlying54 Try.underlying5 Try.underlying9 (fun j hj => (r_b_35.val (by omega) (by (obtain rfl : j = 0 := (by omega)); rfl)))) ?_
      refine wpList_nil ?_
      refine then_n ⟨fun _ h => h, ?_⟩
      refine dp (v := .string (str (([BitVec.ofNat 8 (Cm.fst q aad size)]) ++ nonce))) 6 rfl (fun w' => y_bin es es (b_cat (by simp only [List.length_append, List.length_cons, List.length_nil, Cm.num_len, List.length_replicate]; omega))) ?_
      refine dp (v := .string (str ((([BitVec.ofNat 8 (Cm.fst q aad size)]) ++ nonce) ++ (Cm.num text.length q)))) 11 rfl (fun w' => y_bin es es (b_cat (by simp only [List.length_append, List.length_cons, List.length_nil, Cm.num_len, List.length_replicate]; omega))) ?_
      refine d_one 13 (by kernel_rfl) rfl ?_
      refine w_call (Try.func97) (by kernel_rfl) rfl (m1 es) (cmBeside aad ha w14) ?_
      rintro _ w16 ⟨rfl, hb17⟩
      refine ⟨_, rfl, ?_⟩
      replace r_b_35 := r_b_35.step hb17
      replace hk := thenB hk hb17
      replace hS := thenB hS hb17
      refine wpList_nil ?_
      refine then_n ⟨fun _ h => thenB h (by assumption), ?_⟩
      refine dp (v := .string (str (((([BitVec.ofNat 8 (Cm.fst q aad size)]) ++ nonce) ++ (Cm.num text.length q)) ++ (Cm.bes aad)))) 14 rfl (fun w' => y_bin es es (b_cat (by simp only [List.length_append, List.length_cons, List.length_nil, Cm.num_len, List.length_replicate]; omega))) ?_
      refine dp (v := .string (str ((((([BitVec.ofNat 8 (Cm.fst q aad size)]) ++ nonce) ++ (Cm.num text.length q)) ++ (Cm.bes aad)) ++ text))) 16 rfl (fun w' => y_bin es es (b_cat (by simp only [List.length_append, List.length_cons, List.length_nil, Cm.num_len, List.length_replicate]; omega))) ?_
      refine d_one 17 (by kernel_rfl) rfl ?_
      refine w_call (Try.func32) (by kernel_rfl) rfl (m2 es es) (mac_y key hok (Cm.all nonce aad text q size) (by rw [Cm.all_len _ _ _ _ _ hq]; omega) w16) ?_
      rintro _ w18 ⟨rfl, hb19⟩
      refine ⟨_, rfl, ?_⟩
      replace r_b_35 := r_b_35.step hb19
      replace hk := thenB hk hb19
      replace hS := thenB hS hb19
      refine wpList_nil ?_
      refine then_n ⟨fun _ h => thenB h (by assumption), ?_⟩
      refine dp 18 rfl (fun w' => y_mv (ex (.tuple #[.string (str (Cb.mac key (Cm.all nonce aad text q size))), .int .i64 0]))) ?_
      refine dp (v := .string (str (Cb.mac key (Cm.all nonce aad text q size)))) 19 rfl (fun w' => y_ext (v := .string (str (Cb.mac key (Cm.all nonce aad text q size)))) (ex (.tuple #[.string (str (Cb.mac key (Cm.all nonce aad text q size))), .int .i64 0])) rfl) ?_
      refine dp (v := .int .i64 0) 20 rfl (fun w' => y_ext (v := .int .i64 0) (ex (.tuple #[.string (str (Cb.mac key (Cm.all nonce aad text q size))), .int .i64 0])) rfl) ?_
      refine dp 21 rfl (fun w' => y_as es) ?_
      refine dp 22 rfl (fun w' => y_as ei) ?_
      refine d_done (by kernel_rfl) ?_
      clear hS
      exact then_n ⟨_, rfl, rfl, rfl, rfl, rfl, rfl, rfl, (Eq.trans (b := .int .i64 (15 - ((nonce.length : Nat) : Int))) rfl (by congr 1; omega)), rfl, hk⟩
     ·skip
      refine w_call (Try.func97) (by kernel_rfl) rfl (m1 es) (cmBeside aad ha w14) ?_
      rintro _ w20 ⟨rfl, hb21⟩
      refine ⟨_, rfl, ?_⟩
      replace r_b_35 := r_b_35.step hb21
      replace hk := thenB hk hb21
      replace hS := thenB hS hb21
      refine wpList_nil ?_
      refine then_n ⟨fun _ h => thenB h (by assumption), ?_⟩
      refine d_one 4 (by kernel_rfl) rfl ?_
      refine w_val (y_str (l := [BitVec.ofNat 8 (Cm.fst q aad size)]) el (by rfl) Try.underlying54 Try.underlying5 Try.underlying9 (fun j hj => (r_b_35.val (by omega) (by (obtain rfl : j = 0 := (by omega)); rfl)))) ?_
      refine wpList_nil ?_
      refine then_n ⟨fun _ h => h, ?_⟩
      refine dp (v := .string (str (([BitVec.ofNat 8 (Cm.fst q aad size)]) ++ nonce))) 6 rfl (fun w' => y_bin es es (b_cat (by simp only [List.length_append, List.length_cons, List.length_nil, Cm.num_len, List.length_replicate]; omega))) ?_
      refine dp (v := .string (str ((([BitVec.ofNat 8 (Cm.fst q aad size)]) ++ nonce) ++ (Cm.num text.length q)))) 11 rfl (fun w' => y_bin es es (b_cat (by simp only [List.length_append, List.length_cons, List.length_nil, Cm.num_len, List.length_replicate]; omega))) ?_
      refine dp (v := .string (str (((([BitVec.ofNat 8 (Cm.fst q aad size)]) ++ nonce) ++ (Cm.num text.length q)) ++ (Cm.bes aad)))) 14 rfl (fun w' => y_bin es es (b_cat (by simp only [List.length_append, List.length_cons, List.length_nil, Cm.num_len, List.length_replicate]; omega))) ?_
      refine dp (v := .string (str ((((([BitVec.ofNat 8 (Cm.fst q aad size)]) ++ nonce) ++ (Cm.num text.length q)) ++ (Cm.bes aad)) ++ text))) 16 rfl (fun w' => y_bin es es (b_cat (by simp only [List.length_append, List.length_cons, List.length_nil, Cm.num_len, List.length_replicate]; omega))) ?_
      refine d_one 17 (by kernel_rfl) rfl ?_
      refine w_call (Try.func32) (by kernel_rfl) rfl (m2 es es) (mac_y key hok (Cm.all nonce aad text q size) (by rw [Cm.all_len _ _ _ _ _ hq]; omega) w20) ?_
      rintro _ w22 ⟨rfl, hb23⟩
      refine ⟨_, rfl, ?_⟩
      replace r_b_35 := r_b_35.step hb23
      replace hk := thenB hk hb23
      replace hS := thenB hS hb23
      refine wpList_nil ?_
      refine then_n ⟨fun _ h => thenB h (by assumption), ?_⟩
      refine dp 18 rfl (fun w' => y_mv (ex (.tuple #[.string (str (Cb.mac key (Cm.all nonce aad text q size))), .int .i64 0]))) ?_
      refine dp (v := .string (str (Cb.mac key (Cm.all nonce aad text q size)))) 19 rfl (fun w' => y_ext (v := .string (str (Cb.mac key (Cm.all nonce aad text q size)))) (ex (.tuple #[.string (str (Cb.mac key (Cm.all nonce aad text q size))), .int .i64 0])) rfl) ?_
      refine dp (v := .int .i64 0) 20 rfl (fun w' => y_ext (v := .int .i64 0) (ex (.tuple #[.string (str (Cb.mac key (Cm.all nonce aad text q size))), .int .i64 0])) rfl) ?_
      refine dp 21 rfl (fun w' => y_as es) ?_
      refine dp 22 rfl (fun w' => y_as ei) ?_
      refine d_done (by kernel_rfl) ?_
      clear hS
      exact then_n ⟨_, rfl, rfl, rfl, rfl, rfl, rfl, rfl, (Eq.trans (b := .int .i64 (15 - ((nonce.length : Nat) : Int))) rfl (by congr 1; omega)), rfl, hk⟩
   ·skip
    refine w_call (Try.func96) (by kernel_rfl) rfl (m2 ei ei) (cmNumber text.length q (by omega) h8 hnl (by omega) w4) ?_
    rintro _ w24 ⟨rfl, hb25⟩
    refine ⟨_, rfl, ?_⟩
    replace hk := thenB hk hb25
    replace hS := thenB hS hb25
    refine wpList_nil ?_
    refine then_n ⟨fun _ h => thenB h (by assumption), ?_⟩
    refine d_two 3 13 (by kernel_rfl) rfl rfl ?_ ?_
    ·skip
     refine w_bs1 (m := 1) (e := 5) (F := fun j => U8 (BitVec.ofNat 8 (Cm.fst q aad size))) e8 (fun w => by kernel_rfl) ?_
     intro b_35 w26 hbe_b_35 r_b_35 hb27
     have ge_b_35 : w0.heap.size ≤ b_35 := by have := hk.size; omega
     clear hbe_b_35
     replace hk := thenB hk hb27
     replace hS := thenB hS hb27
     refine wpList_nil ?_
     refine then_n ⟨fun _ h => thenB h (by assumption), ?_⟩
     refine d_two 4 13 (by kernel_rfl) rfl rfl ?_ ?_
     ·skip
      refine w_val (y_str (l := [BitVec.ofNat 8 (Cm.fst q aad size)]) el (by rfl) Try.underlying54 Try.underlying5 Try.underlying9 (fun j hj => (r_b_35.val (by omega) (by (obtain rfl : j = 0 := (by omega)); rfl)))) ?_
      refine wpList_nil ?_
      refine then_n ⟨fun _ h => h, ?_⟩
      refine dp (v := .string (str (([BitVec.ofNat 8 (Cm.fst q aad size)]) ++ nonce))) 6 rfl (fun w' => y_bin es es (b_cat (by simp only [List.length_append, List.length_cons, List.length_nil, Cm.num_len, List.length_replicate]; omega))) ?_
      refine dp (v := .string (str ((([BitVec.ofNat 8 (Cm.fst q aad size)]) ++ nonce) ++ (Cm.num text.length q)))) 11 rfl (fun w' => y_bin es es (b_cat (by simp only [List.length_append, List.length_cons, List.length_nil, Cm.num_len, List.length_replicate]; omega))) ?_
      refine d_one 13 (by kernel_rfl) rfl ?_
      refine w_call (Try.func97) (by kernel_rfl) rfl (m1 es) (cmBeside aad ha w26) ?_
      rintro _ w28 ⟨rfl, hb29⟩
      refine ⟨_, rfl, ?_⟩
      replace r_b_35 := r_b_35.step hb29
      replace hk := thenB hk hb29
      replace hS := thenB hS hb29
      refine wpList_nil ?_
      refine then_n ⟨fun _ h => thenB h (by assumption), ?_⟩
      refine dp (v := .string (str (((([BitVec.ofNat 8 (Cm.fst q aad size)]) ++ nonce) ++ (Cm.num text.length q)) ++ (Cm.bes aad)))) 14 rfl (fun w' => y_bin es es (b_cat (by simp only [List.length_append, List.length_cons, List.length_nil, Cm.num_len, List.length_replicate]; omega))) ?_
      refine dp (v := .string (str ((((([BitVec.ofNat 8 (Cm.fst q aad size)]) ++ nonce) ++ (Cm.num text.length q)) ++ (Cm.bes aad)) ++ text))) 16 rfl (fun w' => y_bin es es (b_cat (by simp only [List.length_append, List.length_cons, List.length_nil, Cm.num_len, List.length_replicate]; omega))) ?_
      refine d_one 17 (by kernel_rfl) rfl ?_
      refine w_call (Try.func32) (by kernel_rfl) rfl (m2 es es) (mac_y key hok (Cm.all nonce aad text q size) (by rw [Cm.all_len _ _ _ _ _ hq]; omega) w28) ?_
      rintro _ w30 ⟨rfl, hb31⟩
      refine ⟨_, rfl, ?_⟩
      replace r_b_35 := r_b_35.step hb31
      replace hk := thenB hk hb31
      replace hS := thenB hS hb31
      refine wpList_nil ?_
      refine then_n ⟨fun _ h => thenB h (by assumption), ?_⟩
      refine dp 18 rfl (fun w' => y_mv (ex (.tuple #[.string (str (Cb.mac key (Cm.all nonce aad text q size))), .int .i64 0]))) ?_
      refine dp (v := .string (str (Cb.mac key (Cm.all nonce aad text q size)))) 19 rfl (fun w' => y_ext (v := .string (str (Cb.mac key (Cm.all nonce aad text q size)))) (ex (.tuple #[.string (str (Cb.mac key (Cm.all nonce aad text q size))), .int .i64 0])) rfl) ?_
      refine dp (v := .int .i64 0) 20 rfl (fun w' => y_ext (v := .int .i64 0) (ex (.tuple #[.string (str (Cb.mac key (Cm.all nonce aad text q size))), .int .i64 0])) rfl) ?_
      refine dp 21 rfl (fun w' => y_as es) ?_
      refine dp 22 rfl (fun w' => y_as ei) ?_
      refine d_done (by kernel_rfl) ?_
      clear hS
      exact then_n ⟨_, rfl, rfl, rfl, rfl, rfl, rfl, rfl, (Eq.trans (b := .int .i64 (15 - ((nonce.length : Nat) : Int))) rfl (by congr 1; omega)), rfl, hk⟩
     ·skip
      refine w_call (Try.func97) (by kernel_rfl) rfl (m1 es) (cmBeside aad ha w26) ?_
      rintro _ w32 ⟨rfl, hb33⟩
      refine ⟨_, rfl, ?_⟩
      replace r_b_35 := r_b_35.step hb33
      replace hk := thenB hk hb33
      replace hS := thenB hS hb33
      refine wpList_nil ?_
      refine then_n ⟨fun _ h => thenB h (by assumption), ?_⟩
      refine d_one 4 (by kernel_rfl) rfl ?_
      refine w_val (y_str (l := [BitVec.ofNat 8 (Cm.fst q aad size)]) el (by rfl) Try.underlying54 Try.underlying5 Try.underlying9 (fun j hj => (r_b_35.val (by omega) (by (obtain rfl : j = 0 := (by omega)); rfl)))) ?_
      refine wpList_nil ?_
      refine then_n ⟨fun _ h => h, ?_⟩
      refine dp (v := .string (str (([BitVec.ofNat 8 (Cm.fst q aad size)]) ++ nonce))) 6 rfl (fun w' => y_bin es es (b_cat (by simp only [List.length_append, List.length_cons, List.length_nil, Cm.num_len, List.length_replicate]; omega))) ?_
      refine dp (v := .string (str ((([BitVec.ofNat 8 (Cm.fst q aad size)]) ++ nonce) ++ (Cm.num text.length q)))) 11 rfl (fun w' => y_bin es es (b_cat (by simp only [List.length_append, List.length_cons, List.length_nil, Cm.num_len, List.length_replicate]; omega))) ?_
      refine dp (v := .string (str (((([BitVec.ofNat 8 (Cm.fst q aad size)]) ++ nonce) ++ (Cm.num text.length q)) ++ (Cm.bes aad)))) 14 rfl (fun w' => y_bin es es (b_cat (by simp only [List.length_append, List.length_cons, List.length_nil, Cm.num_len, List.length_replicate]; omega))) ?_
      refine dp (v := .string (str ((((([BitVec.ofNat 8 (Cm.fst q aad size)]) ++ nonce) ++ (Cm.num text.length q)) ++ (Cm.bes aad)) ++ text))) 16 rfl (fun w' => y_bin es es (b_cat (by simp only [List.length_append, List.length_cons, List.length_nil, Cm.num_len, List.length_replicate]; omega))) ?_
      refine d_one 17 (by kernel_rfl) rfl ?_
      refine w_call (Try.func32) (by kernel_rfl) rfl (m2 es es) (mac_y key hok (Cm.all nonce aad text q size) (by rw [Cm.all_len _ _ _ _ _ hq]; omega) w32) ?_
      rintro _ w34 ⟨rfl, hb35⟩
      refine ⟨_, rfl, ?_⟩
      replace r_b_35 := r_b_35.step hb35
      replace hk := thenB hk hb35
      replace hS := thenB hS hb35
      refine wpList_nil ?_
      refine then_n ⟨fun _ h => thenB h (by assumption), ?_⟩
      refine dp 18 rfl (fun w' => y_mv (ex (.tuple #[.string (str (Cb.mac key (Cm.all nonce aad text q size))), .int .i64 0]))) ?_
      refine dp (v := .string (str (Cb.mac key (Cm.all nonce aad text q size)))) 19 rfl (fun w' => y_ext (v := .string (str (Cb.mac key (Cm.all nonce aad text q size)))) (ex (.tuple #[.string (str (Cb.mac key (Cm.all nonce aad text q size))), .int .i64 0])) rfl) ?_
      refine dp (v := .int .i64 0) 20 rfl (fun w' => y_ext (v := .int .i64 0) (ex (.tuple #[.string (str (Cb.mac key (Cm.all nonce aad text q size))), .int .i64 0])) rfl) ?_
      refine dp 21 rfl (fun w' => y_as es) ?_
      refine dp 22 rfl (fun w' => y_as ei) ?_
      refine d_done (by kernel_rfl) ?_
      clear hS
      exact then_n ⟨_, rfl, rfl, rfl, rfl, rfl, rfl, rfl, (Eq.trans (b := .int .i64 (15 - ((nonce.length : Nat) : Int))) rfl (by congr 1; omega)), rfl, hk⟩
    ·skip
     refine w_call (Try.func97) (by kernel_rfl) rfl (m1 es) (cmBeside aad ha w24) ?_
     rintro _ w36 ⟨rfl, hb37⟩
     refine ⟨_, rfl, ?_⟩
     replace hk := thenB hk hb37
     replace hS := thenB hS hb37
     refine wpList_nil ?_
     refine then_n ⟨fun _ h => thenB h (by assumption), ?_⟩
     refine d_one 3 (by kernel_rfl) rfl ?_
     refine w_bs1 (m := 1) (e := 5) (F := fun j => U8 (BitVec.ofNat 8 (Cm.fst q aad size))) e8 (fun w => by kernel_rfl) ?_
     intro b_35 w38 hbe_b_35 r_b_35 hb39
     have ge_b_35 : w0.heap.size ≤ b_35 := by have := hk.size; omega
     clear hbe_b_35
     replace hk := thenB hk hb39
     replace hS := thenB hS hb39
     refine wpList_nil ?_
     refine then_n ⟨fun _ h => thenB h (by assumption), ?_⟩
     refine d_one 4 (by kernel_rfl) rfl ?_
     refine w_val (y_str (l := [BitVec.ofNat 8 (Cm.fst q aad size)]) el (by rfl) Try.underlying54 Try.underlying5 Try.underlying9 (fun j hj => (r_b_35.val (by omega) (by (obtain rfl : j = 0 := (by omega)); rfl)))) ?_
     refine wpList_nil ?_
     refine then_n ⟨fun _ h => h, ?_⟩
     refine dp (v := .string (str (([BitVec.ofNat 8 (Cm.fst q aad size)]) ++ nonce))) 6 rfl (fun w' => y_bin es es (b_cat (by simp only [List.length_append, List.length_cons, List.length_nil, Cm.num_len, List.length_replicate]; omega))) ?_
     refine dp (v := .string (str ((([BitVec.ofNat 8 (Cm.fst q aad size)]) ++ nonce) ++ (Cm.num text.length q)))) 11 rfl (fun w' => y_bin es es (b_cat (by simp only [List.length_append, List.length_cons, List.length_nil, Cm.num_len, List.length_replicate]; omega))) ?_
     refine dp (v := .string (str (((([BitVec.ofNat 8 (Cm.fst q aad size)]) ++ nonce) ++ (Cm.num text.length q)) ++ (Cm.bes aad)))) 14 rfl (fun w' => y_bin es es (b_cat (by simp only [List.length_append, List.length_cons, List.length_nil, Cm.num_len, List.length_replicate]; omega))) ?_
     refine dp (v := .string (str ((((([BitVec.ofNat 8 (Cm.fst q aad size)]) ++ nonce) ++ (Cm.num text.length q)) ++ (Cm.bes aad)) ++ text))) 16 rfl (fun w' => y_bin es es (b_cat (by simp only [List.length_append, List.length_cons, List.length_nil, Cm.num_len, List.length_replicate]; omega))) ?_
     refine d_one 17 (by kernel_rfl) rfl ?_
     refine w_call (Try.func32) (by kernel_rfl) rfl (m2 es es) (mac_y key hok (Cm.all nonce aad text q size) (by rw [Cm.all_len _ _ _ _ _ hq]; omega) w38) ?_
     rintro _ w40 ⟨rfl, hb41⟩
     refine ⟨_, rfl, ?_⟩
     replace r_b_35 := r_b_35.step hb41
     replace hk := thenB hk hb41
     replace hS := thenB hS hb41
     refine wpList_nil ?_
     refine then_n ⟨fun _ h => thenB h (by assumption), ?_⟩
     refine dp 18 rfl (fun w' => y_mv (ex (.tuple #[.string (str (Cb.mac key (Cm.all nonce aad text q size))), .int .i64 0]))) ?_
     refine dp (v := .string (str (Cb.mac key (Cm.all nonce aad text q size)))) 19 rfl (fun w' => y_ext (v := .string (str (Cb.mac key (Cm.all nonce aad text q size)))) (ex (.tuple #[.string (str (Cb.mac key (Cm.all nonce aad text q size))), .int .i64 0])) rfl) ?_
     refine dp (v := .int .i64 0) 20 rfl (fun w' => y_ext (v := .int .i64 0) (ex (.tuple #[.string (str (Cb.mac key (Cm.all nonce aad text q size))), .int .i64 0])) rfl) ?_
     refine dp 21 rfl (fun w' => y_as es) ?_
     refine dp 22 rfl (fun w' => y_as ei) ?_
     refine d_done (by kernel_rfl) ?_
     clear hS
     exact then_n ⟨_, rfl, rfl, rfl, rfl, rfl, rfl, rfl, (Eq.trans (b := .int .i64 (15 - ((nonce.length : Nat) : Int))) rfl (by congr 1; omega)), rfl, hk⟩
  ·skip
   clear hk
   rintro _ w42 ⟨f2, rfl, t3_s0, t3_s1, t3_s2, t3_s3, t3_s4, t3_s10, t3_s11, t3_s13, hk⟩
   refine sr ?_
   refine w_mv (es t3_s0) ?_
   refine w_mv (es t3_s1) ?_
   refine w_call (Try.func94) (by kernel_rfl) rfl (m1 es) (cmCounter nonce q hq h2 h8 w42) ?_
   rintro _ w43 ⟨rfl, hb44⟩
   refine ⟨_, rfl, ?_⟩
   replace hk := thenB hk hb44
   refine w_mv (ei t3_s11) ?_
   refine w_mv (es t3_s13) ?_
   refine w_call (Try.func95) (by kernel_rfl) rfl (m4 es es ei es) (ctrXor_y key (Cb.mac key (Cm.all nonce aad text q size)) hok (Cm.cnt nonce q 0) q (Cm.cnt_len _ _ _ hq) (by omega) (by omega) (by rw [Cm.mac_len _ _ hok]; decide) w43) ?_
   rintro _ w45 ⟨rfl, hb46⟩
   refine ⟨_, rfl, ?_⟩
   replace hk := thenB hk hb46
   refine w_mv (ex (.tuple #[.string (str (Ct.x key (Cm.cnt nonce q 0) q (Cb.mac key (Cm.all nonce aad text q size)))), .int .i64 0])) ?_
   refine w_val ye ?_
   refine w_val ye ?_
   refine w_as es ?_
   refine w_as ei ?_
   refine nt ?_
   refine wp_seq ?_
   have hxl : (Ct.x key (Cm.cnt nonce q 0) q (Cb.mac key (Cm.all nonce aad text q size))).length = 16 := by rw [Ct.length_x, Cm.mac_len _ _ hok]
   refine wp_region_lit ?_
   refine w_mv es ?_
   refine w_mv (ei t3_s4) ?_
   refine w_val (v := .string (str ((Ct.x key (Cm.cnt nonce q 0) q (Cb.mac key (Cm.all nonce aad text q size))).take size))) (y_sls (ex (.string (str (Ct.x key (Cm.cnt nonce q 0) q (Cb.mac key (Cm.all nonce aad text q size)))))) evo.no (evo.s ei) Try.underlying9 (bnd_h (h := size) (by omega) (by rw [hxl]; omega))) ?_
   refine w_as es ?_
   refine nt ?_
   refine wp_ret ?_
   refine fin_ret1 rfl es ?_
   refine ⟨congrArg Ending.returned ?_, hk⟩
   show (.string (str ((Ct.x key (Cm.cnt nonce q 0) q (Cb.mac key (Cm.all nonce aad text q size))).take size)) : Value) = .string (str (Cm.tg key nonce aad text q size))
   first | with_reducible rfl | (with_reducible congr 1 <;> omega) | (with_reducible congr 2 <;> omega) | (with_reducible congr 3 <;> omega) | rfl
 ·skip
  refine wp_skip ?_
  refine then_n ?_
  refine c_cut (fun aN wl => ∃ f47, aN = fr 64 f47 ∧ f47 0 = .string (str key) ∧ f47 1 = .string (str nonce) ∧ f47 2 = .string (str aad) ∧ f47 3 = .string (str text) ∧ f47 4 = .int .i64 ((size : Nat) : Int) ∧ f47 10 = .string (str ([] : List (BitVec 8))) ∧ f47 11 = .int .i64 ((q : Nat) : Int) ∧ f47 13 = .string (str (Cb.mac key (Cm.all nonce aad text q size))) ∧ Below w0.heap.size w0 wl) ?_ ?_
  ·skip
   have hat : aad.length = 0 := by rw [Decidable.not_not.1 hc1]; rfl
   refine region_dc (Nat.testBit 0) 23 CcmBT.mixed rfl ?_
   intro w49 hb50
   replace hk := thenB hk hb50
   have hS : Cls w49 w49 := Below.refl _ _
   refine dp 0 rfl (fun w' => y_mv es) ?_
   refine dp 1 rfl (fun w' => y_mv (ex (.int .i64 (((Cm.fst q aad size) : Nat) : Int)) (Eq.trans (b := .int .i64 (((8 * ((((size : Nat) : Int) - 2) / 2)) + ((q : Nat) : Int)) - 1)) rfl (by exact congrArg (Value.int .i64) (by unfold Cm.fst; split <;> omega))))) ?_
   refine dp (v := U8 (BitVec.ofNat 8 (Cm.fst q aad size))) 2 rfl (fun w' => y_nat_u8 (p := (Cm.fst q aad size)) ei (by omega) CcmBT.so3 Try.underlying5) ?_
   refine dp 5 rfl (fun w' => y_mv es) ?_
   refine dp 7 rfl (fun w' => y_mv es) ?_
   refine dp (v := .int .i64 ((text.length : Nat) : Int)) 8 rfl (fun w' => y_len es Try.underlying9) ?_
   refine dp 9 rfl (fun w' => y_mv (ex (.int .i64 ((q : Nat) : Int)) (Eq.trans (b := .int .i64 (15 - ((nonce.length : Nat) : Int))) rfl (by congr 1; omega)))) ?_
   refine dp 12 rfl (fun w' => y_mv es) ?_
   refine dp 15 rfl (fun w' => y_mv es) ?_
   refine d_two 3 10 (by kernel_rfl) rfl rfl ?_ ?_
   ·skip
    refine w_bs1 (m := 1) (e := 5) (F := fun j => U8 (BitVec.ofNat 8 (Cm.fst q aad size))) e8 (fun w => by kernel_rfl) ?_
    intro b_35 w51 hbe_b_35 r_b_35 hb52
    have ge_b_35 : w0.heap.size ≤ b_35 := by have := hk.size; omega
    clear hbe_b_35
    replace hk := thenB hk hb52
    replace hS := thenB hS hb52
    refine wpList_nil ?_
    refine then_n ⟨fun _ h => thenB h (by assumption), ?_⟩
    refine d_two 4 10 (by kernel_rfl) rfl rfl ?_ ?_
    ·skip
     refine w_val (y_str (l := [BitVec.ofNat 8 (Cm.fst q aad size)]) el (by rfl) Try.underlying54 Try.underlying5 Try.underlying9 (fun j hj => (r_b_35.val (by omega) (by (obtain rfl : j = 0 := (by omega)); rfl)))) ?_
     refine wpList_nil ?_
     refine then_n ⟨fun _ h => h, ?_⟩
     refine dp (v := .string (str (([BitVec.ofNat 8 (Cm.fst q aad size)]) ++ nonce))) 6 rfl (fun w' => y_bin es es (b_cat (by simp only [List.length_append, List.length_cons, List.length_nil, Cm.num_len, List.length_replicate]; omega))) ?_
     refine d_one 10 (by kernel_rfl) rfl ?_
     refine w_call (Try.func96) (by kernel_rfl) rfl (m2 ei ei) (cmNumber text.length q (by omega) h8 hnl (by omega) w51) ?_
     rintro _ w53 ⟨rfl, hb54⟩
     refine ⟨_, rfl, ?_⟩
     replace r_b_35 := r_b_35.step hb54
     replace hk := thenB hk hb54
     replace hS := thenB hS hb54
     refine wpList_nil ?_
     refine then_n ⟨fun _ h => thenB h (by assumption), ?_⟩
     refine dp (v := .string (str ((([BitVec.ofNat 8 (Cm.fst q aad size)]) ++ nonce) ++ (Cm.num text.length q)))) 11 rfl (fun w' => y_bin es es (b_cat (by simp only [List.length_append, List.length_cons, List.length_nil, Cm.num_len, List.length_replicate]; omega))) ?_
     refine d_one 13 (by kernel_rfl) rfl ?_
     refine w_call (Try.func97) (by kernel_rfl) rfl (m1 es) (cmBeside aad ha w53) ?_
     rintro _ w55 ⟨rfl, hb56⟩
     refine ⟨_, rfl, ?_⟩
     replace r_b_35 := r_b_35.step hb56
     replace hk := thenB hk hb56
     replace hS := thenB hS hb56
     refine wpList_nil ?_
     refine then_n ⟨fun _ h => thenB h (by assumption), ?_⟩
     refine dp (v := .string (str (((([BitVec.ofNat 8 (Cm.fst q aad size)]) ++ nonce) ++ (Cm.num text.length q)) ++ (Cm.bes aad)))) 14 rfl (fun w' => y_bin es es (b_cat (by simp only [List.length_append, List.length_cons, List.length_nil, Cm.num_len, List.length_replicate]; omega))) ?_
     refine dp (v := .string (str ((((([BitVec.ofNat 8 (Cm.fst q aad size)]) ++ nonce) ++ (Cm.num text.length q)) ++ (Cm.bes aad)) ++ text))) 16 rfl (fun w' => y_bin es es (b_cat (by simp only [List.length_append, List.length_cons, List.length_nil, Cm.num_len, List.length_replicate]; omega))) ?_
     refine d_one 17 (by kernel_rfl) rfl ?_
     refine w_call (Try.func32) (by kernel_rfl) rfl (m2 es es) (mac_y key hok (Cm.all nonce aad text q size) (by rw [Cm.all_len _ _ _ _ _ hq]; omega) w55) ?_
     rintro _ w57 ⟨rfl, hb58⟩
     refine ⟨_, rfl, ?_⟩
     replace r_b_35 := r_b_35.step hb58
     replace hk := thenB hk hb58
     replace hS := thenB hS hb58
     refine wpList_nil ?_
     refine then_n ⟨fun _ h => thenB h (by assumption), ?_⟩
     refine dp 18 rfl (fun w' => y_mv (ex (.tuple #[.string (str (Cb.mac key (Cm.all nonce aad text q size))), .int .i64 0]))) ?_
     refine dp (v := .string (str (Cb.mac key (Cm.all nonce aad text q size)))) 19 rfl (fun w' => y_ext (v := .string (str (Cb.mac key (Cm.all nonce aad text q size)))) (ex (.tuple #[.string (str (Cb.mac key (Cm.all nonce aad text q size))), .int .i64 0])) rfl) ?_
     refine dp (v := .int .i64 0) 20 rfl (fun w' => y_ext (v := .int .i64 0) (ex (.tuple #[.string (str (Cb.mac key (Cm.all nonce aad text q size))), .int .i64 0])) rfl) ?_
     refine dp 21 rfl (fun w' => y_as es) ?_
     refine dp 22 rfl (fun w' => y_as ei) ?_
     refine d_done (by kernel_rfl) ?_
     clear hS
     exact then_n ⟨_, rfl, rfl, rfl, rfl, rfl, rfl, rfl, (Eq.trans (b := .int .i64 (15 - ((nonce.length : Nat) : Int))) rfl (by congr 1; omega)), rfl, hk⟩
    ·skip
     refine w_call (Try.func96) (by kernel_rfl) rfl (m2 ei ei) (cmNumber text.length q (by omega) h8 hnl (by omega) w51) ?_
     rintro _ w59 ⟨rfl, hb60⟩
     refine ⟨_, rfl, ?_⟩
     replace r_b_35 := r_b_35.step hb60
     replace hk := thenB hk hb60
     replace hS := thenB hS hb60
     refine wpList_nil ?_
     refine then_n ⟨fun _ h => thenB h (by assumption), ?_⟩
     refine d_two 4 13 (by kernel_rfl) rfl rfl ?_ ?_
     ·skip
      refine w_val (y_str (l := [BitVec.ofNat 8 (Cm.fst q aad size)]) el (by rfl) Try.underlying54 Try.underlying5 Try.underlying9 (fun j hj => (r_b_35.val (by omega) (by (obtain rfl : j = 0 := (by omega)); rfl)))) ?_
      refine wpList_nil ?_
      refine then_n ⟨fun _ h => h, ?_⟩
      refine dp (v := .string (str (([BitVec.ofNat 8 (Cm.fst q aad size)]) ++ nonce))) 6 rfl (fun w' => y_bin es es (b_cat (by simp only [List.length_append, List.length_cons, List.length_nil, Cm.num_len, List.length_replicate]; omega))) ?_
      refine dp (v := .string (str ((([BitVec.ofNat 8 (Cm.fst q aad size)]) ++ nonce) ++ (Cm.num text.length q)))) 11 rfl (fun w' => y_bin es es (b_cat (by simp only [List.length_append, List.length_cons, List.length_nil, Cm.num_len, List.length_replicate]; omega))) ?_
      refine d_one 13 (by kernel_rfl) rfl ?_
      refine w_call (Try.func97) (by kernel_rfl) rfl (m1 es) (cmBeside aad ha w59) ?_
      rintro _ w61 ⟨rfl, hb62⟩
      refine ⟨_, rfl, ?_⟩
      replace r_b_35 := r_b_35.step hb62
      replace hk := thenB hk hb62
      replace hS := thenB hS hb62
      refine wpList_nil ?_
      refine then_n ⟨fun _ h => thenB h (by assumption), ?_⟩
      refine dp (v := .string (str (((([BitVec.ofNat 8 (Cm.fst q aad size)]) ++ nonce) ++ (Cm.num text.length q)) ++ (Cm.bes aad)))) 14 rfl (fun w' => y_bin es es (b_cat (by simp only [List.length_append, List.length_cons, List.length_nil, Cm.num_len, List.length_replicate]; omega))) ?_
      refine dp (v := .string (str ((((([BitVec.ofNat 8 (Cm.fst q aad size)]) ++ nonce) ++ (Cm.num text.length q)) ++ (Cm.bes aad)) ++ text))) 16 rfl (fun w' => y_bin es es (b_cat (by simp only [List.length_append, List.length_cons, List.length_nil, Cm.num_len, List.length_replicate]; omega))) ?_
      refine d_one 17 (by kernel_rfl) rfl ?_
      refine w_call (Try.func32) (by kernel_rfl) rfl (m2 es es) (mac_y key hok (Cm.all nonce aad text q size) (by rw [Cm.all_len _ _ _ _ _ hq]; omega) w61) ?_
      rintro _ w63 ⟨rfl, hb64⟩
      refine ⟨_, rfl, ?_⟩
      replace r_b_35 := r_b_35.step hb64
      replace hk := thenB hk hb64
      replace hS := thenB hS hb64
      refine wpList_nil ?_
      refine then_n ⟨fun _ h => thenB h (by assumption), ?_⟩
      refine dp 18 rfl (fun w' => y_mv (ex (.tuple #[.string (str (Cb.mac key (Cm.all nonce aad text q size))), .int .i64 0]))) ?_
      refine dp (v := .string (str (Cb.mac key (Cm.all nonce aad text q size)))) 19 rfl (fun w' => y_ext (v := .string (str (Cb.mac key (Cm.all nonce aad text q size)))) (ex (.tuple #[.string (str (Cb.mac key (Cm.all nonce aad text q size))), .int .i64 0])) rfl) ?_
      refine dp (v := .int .i64 0) 20 rfl (fun w' => y_ext (v := .int .i64 0) (ex (.tuple #[.string (str (Cb.mac key (Cm.all nonce aad text q size))), .int .i64 0])) rfl) ?_
      refine dp 21 rfl (fun w' => y_as es) ?_
      refine dp 22 rfl (fun w' => y_as ei) ?_
      refine d_done (by kernel_rfl) ?_
      clear hS
      exact then_n ⟨_, rfl, rfl, rfl, rfl, rfl, rfl, rfl, (Eq.trans (b := .int .i64 (15 - ((nonce.length : Nat) : Int))) rfl (by congr 1; omega)), rfl, hk⟩
     ·skip
      refine w_call (Try.func97) (by kernel_rfl) rfl (m1 es) (cmBeside aad ha w59) ?_
      rintro _ w65 ⟨rfl, hb66⟩
      refine ⟨_, rfl, ?_⟩
      replace r_b_35 := r_b_35.step hb66
      replace hk := thenB hk hb66
      replace hS := thenB hS hb66
      refine wpList_nil ?_
      refine then_n ⟨fun _ h => thenB h (by assumption), ?_⟩
      refine d_one 4 (by kernel_rfl) rfl ?_
      refine w_val (y_str (l := [BitVec.ofNat 8 (Cm.fst q aad size)]) el (by rfl) Try.underlying54 Try.underlying5 Try.underlying9 (fun j hj => (r_b_35.val (by omega) (by (obtain rfl : j = 0 := (by omega)); rfl)))) ?_
      refine wpList_nil ?_
      refine then_n ⟨fun _ h => h, ?_⟩
      refine dp (v := .string (str (([BitVec.ofNat 8 (Cm.fst q aad size)]) ++ nonce))) 6 rfl (fun w' => y_bin es es (b_cat (by simp only [List.length_append, List.length_cons, List.length_nil, Cm.num_len, List.length_replicate]; omega))) ?_
      refine dp (v := .string (str ((([BitVec.ofNat 8 (Cm.fst q aad size)]) ++ nonce) ++ (Cm.num text.length q)))) 11 rfl (fun w' => y_bin es es (b_cat (by simp only [List.length_append, List.length_cons, List.length_nil, Cm.num_len, List.length_replicate]; omega))) ?_
      refine dp (v := .string (str (((([BitVec.ofNat 8 (Cm.fst q aad size)]) ++ nonce) ++ (Cm.num text.length q)) ++ (Cm.bes aad)))) 14 rfl (fun w' => y_bin es es (b_cat (by simp only [List.length_append, List.length_cons, List.length_nil, Cm.num_len, List.length_replicate]; omega))) ?_
      refine dp (v := .string (str ((((([BitVec.ofNat 8 (Cm.fst q aad size)]) ++ nonce) ++ (Cm.num text.length q)) ++ (Cm.bes aad)) ++ text))) 16 rfl (fun w' => y_bin es es (b_cat (by simp only [List.length_append, List.length_cons, List.length_nil, Cm.num_len, List.length_replicate]; omega))) ?_
      refine d_one 17 (by kernel_rfl) rfl ?_
      refine w_call (Try.func32) (by kernel_rfl) rfl (m2 es es) (mac_y key hok (Cm.all nonce aad text q size) (by rw [Cm.all_len _ _ _ _ _ hq]; omega) w65) ?_
      rintro _ w67 ⟨rfl, hb68⟩
      refine ⟨_, rfl, ?_⟩
      replace r_b_35 := r_b_35.step hb68
      replace hk := thenB hk hb68
      replace hS := thenB hS hb68
      refine wpList_nil ?_
      refine then_n ⟨fun _ h => thenB h (by assumption), ?_⟩
      refine dp 18 rfl (fun w' => y_mv (ex (.tuple #[.string (str (Cb.mac key (Cm.all nonce aad text q size))), .int .i64 0]))) ?_
      refine dp (v := .string (str (Cb.mac key (Cm.all nonce aad text q size)))) 19 rfl (fun w' => y_ext (v := .string (str (Cb.mac key (Cm.all nonce aad text q size)))) (ex (.tuple #[.string (str (Cb.mac key (Cm.all nonce aad text q size))), .int .i64 0])) rfl) ?_
      refine dp (v := .int .i64 0) 20 rfl (fun w' => y_ext (v := .int .i64 0) (ex (.tuple #[.string (str (Cb.mac key (Cm.all nonce aad text q size))), .int .i64 0])) rfl) ?_
      refine dp 21 rfl (fun w' => y_as es) ?_
      refine dp 22 rfl (fun w' => y_as ei) ?_
      refine d_done (by kernel_rfl) ?_
      clear hS
      exact then_n ⟨_, rfl, rfl, rfl, rfl, rfl, rfl, rfl, (Eq.trans (b := .int .i64 (15 - ((nonce.length : Nat) : Int))) rfl (by congr 1; omega)), rfl, hk⟩
   ·skip
    refine w_call (Try.func96) (by kernel_rfl) rfl (m2 ei ei) (cmNumber text.length q (by omega) h8 hnl (by omega) w49) ?_
    rintro _ w69 ⟨rfl, hb70⟩
    refine ⟨_, rfl, ?_⟩
    replace hk := thenB hk hb70
    replace hS := thenB hS hb70
    refine wpList_nil ?_
    refine then_n ⟨fun _ h => thenB h (by assumption), ?_⟩
    refine d_two 3 13 (by kernel_rfl) rfl rfl ?_ ?_
    ·skip
     refine w_bs1 (m := 1) (e := 5) (F := fun j => U8 (BitVec.ofNat 8 (Cm.fst q aad size))) e8 (fun w => by kernel_rfl) ?_
     intro b_35 w71 hbe_b_35 r_b_35 hb72
     have ge_b_35 : w0.heap.size ≤ b_35 := by have := hk.size; omega
     clear hbe_b_35
     replace hk := thenB hk hb72
     replace hS := thenB hS hb72
     refine wpList_nil ?_
     refine then_n ⟨fun _ h => thenB h (by assumption), ?_⟩
     refine d_two 4 13 (by kernel_rfl) rfl rfl ?_ ?_
     ·skip
      refine w_val (y_str (l := [BitVec.ofNat 8 (Cm.fst q aad size)]) el (by rfl) Try.underlying54 Try.underlying5 Try.underlying9 (fun j hj => (r_b_35.val (by omega) (by (obtain rfl : j = 0 := (by omega)); rfl)))) ?_
      refine wpList_nil ?_
      refine then_n ⟨fun _ h => h, ?_⟩
      refine dp (v := .string (str (([BitVec.ofNat 8 (Cm.fst q aad size)]) ++ nonce))) 6 rfl (fun w' => y_bin es es (b_cat (by simp only [List.length_append, List.length_cons, List.length_nil, Cm.num_len, List.length_replicate]; omega))) ?_
      refine dp (v := .string (str ((([BitVec.ofNat 8 (Cm.fst q aad size)]) ++ nonce) ++ (Cm.num text.length q)))) 11 rfl (fun w' => y_bin es es (b_cat (by simp only [List.length_append, List.length_cons, List.length_nil, Cm.num_len, List.length_replicate]; omega))) ?_
      refine d_one 13 (by kernel_rfl) rfl ?_
      refine w_call (Try.func97) (by kernel_rfl) rfl (m1 es) (cmBeside aad ha w71) ?_
      rintro _ w73 ⟨rfl, hb74⟩
      refine ⟨_, rfl, ?_⟩
      replace r_b_35 := r_b_35.step hb74
      replace hk := thenB hk hb74
      replace hS := thenB hS hb74
      refine wpList_nil ?_
      refine then_n ⟨fun _ h => thenB h (by assumption), ?_⟩
      refine dp (v := .string (str (((([BitVec.ofNat 8 (Cm.fst q aad size)]) ++ nonce) ++ (Cm.num text.length q)) ++ (Cm.bes aad)))) 14 rfl (fun w' => y_bin es es (b_cat (by simp only [List.length_append, List.length_cons, List.length_nil, Cm.num_len, List.length_replicate]; omega))) ?_
      refine dp (v := .string (str ((((([BitVec.ofNat 8 (Cm.fst q aad size)]) ++ nonce) ++ (Cm.num text.length q)) ++ (Cm.bes aad)) ++ text))) 16 rfl (fun w' => y_bin es es (b_cat (by simp only [List.length_append, List.length_cons, List.length_nil, Cm.num_len, List.length_replicate]; omega))) ?_
      refine d_one 17 (by kernel_rfl) rfl ?_
      refine w_call (Try.func32) (by kernel_rfl) rfl (m2 es es) (mac_y key hok (Cm.all nonce aad text q size) (by rw [Cm.all_len _ _ _ _ _ hq]; omega) w73) ?_
      rintro _ w75 ⟨rfl, hb76⟩
      refine ⟨_, rfl, ?_⟩
      replace r_b_35 := r_b_35.step hb76
      replace hk := thenB hk hb76
      replace hS := thenB hS hb76
      refine wpList_nil ?_
      refine then_n ⟨fun _ h => thenB h (by assumption), ?_⟩
      refine dp 18 rfl (fun w' => y_mv (ex (.tuple #[.string (str (Cb.mac key (Cm.all nonce aad text q size))), .int .i64 0]))) ?_
      refine dp (v := .string (str (Cb.mac key (Cm.all nonce aad text q size)))) 19 rfl (fun w' => y_ext (v := .string (str (Cb.mac key (Cm.all nonce aad text q size)))) (ex (.tuple #[.string (str (Cb.mac key (Cm.all nonce aad text q size))), .int .i64 0])) rfl) ?_
      refine dp (v := .int .i64 0) 20 rfl (fun w' => y_ext (v := .int .i64 0) (ex (.tuple #[.string (str (Cb.mac key (Cm.all nonce aad text q size))), .int .i64 0])) rfl) ?_
      refine dp 21 rfl (fun w' => y_as es) ?_
      refine dp 22 rfl (fun w' => y_as ei) ?_
      refine d_done (by kernel_rfl) ?_
      clear hS
      exact then_n ⟨_, rfl, rfl, rfl, rfl, rfl, rfl, rfl, (Eq.trans (b := .int .i64 (15 - ((nonce.length : Nat) : Int))) rfl (by congr 1; omega)), rfl, hk⟩
     ·skip
      refine w_call (Try.func97) (by kernel_rfl) rfl (m1 es) (cmBeside aad ha w71) ?_
      rintro _ w77 ⟨rfl, hb78⟩
      refine ⟨_, rfl, ?_⟩
      replace r_b_35 := r_b_35.step hb78
      replace hk := thenB hk hb78
      replace hS := thenB hS hb78
      refine wpList_nil ?_
      refine then_n ⟨fun _ h => thenB h (by assumption), ?_⟩
      refine d_one 4 (by kernel_rfl) rfl ?_
      refine w_val (y_str (l := [BitVec.ofNat 8 (Cm.fst q aad size)]) el (by rfl) Try.underlying54 Try.underlying5 Try.underlying9 (fun j hj => (r_b_35.val (by omega) (by (obtain rfl : j = 0 := (by omega)); rfl)))) ?_
      refine wpList_nil ?_
      refine then_n ⟨fun _ h => h, ?_⟩
      refine dp (v := .string (str (([BitVec.ofNat 8 (Cm.fst q aad size)]) ++ nonce))) 6 rfl (fun w' => y_bin es es (b_cat (by simp only [List.length_append, List.length_cons, List.length_nil, Cm.num_len, List.length_replicate]; omega))) ?_
      refine dp (v := .string (str ((([BitVec.ofNat 8 (Cm.fst q aad size)]) ++ nonce) ++ (Cm.num text.length q)))) 11 rfl (fun w' => y_bin es es (b_cat (by simp only [List.length_append, List.length_cons, List.length_nil, Cm.num_len, List.length_replicate]; omega))) ?_
      refine dp (v := .string (str (((([BitVec.ofNat 8 (Cm.fst q aad size)]) ++ nonce) ++ (Cm.num text.length q)) ++ (Cm.bes aad)))) 14 rfl (fun w' => y_bin es es (b_cat (by simp only [List.length_append, List.length_cons, List.length_nil, Cm.num_len, List.length_replicate]; omega))) ?_
      refine dp (v := .string (str ((((([BitVec.ofNat 8 (Cm.fst q aad size)]) ++ nonce) ++ (Cm.num text.length q)) ++ (Cm.bes aad)) ++ text))) 16 rfl (fun w' => y_bin es es (b_cat (by simp only [List.length_append, List.length_cons, List.length_nil, Cm.num_len, List.length_replicate]; omega))) ?_
      refine d_one 17 (by kernel_rfl) rfl ?_
      refine w_call (Try.func32) (by kernel_rfl) rfl (m2 es es) (mac_y key hok (Cm.all nonce aad text q size) (by rw [Cm.all_len _ _ _ _ _ hq]; omega) w77) ?_
      rintro _ w79 ⟨rfl, hb80⟩
      refine ⟨_, rfl, ?_⟩
      replace r_b_35 := r_b_35.step hb80
      replace hk := thenB hk hb80
      replace hS := thenB hS hb80
      refine wpList_nil ?_
      refine then_n ⟨fun _ h => thenB h (by assumption), ?_⟩
      refine dp 18 rfl (fun w' => y_mv (ex (.tuple #[.string (str (Cb.mac key (Cm.all nonce aad text q size))), .int .i64 0]))) ?_
      refine dp (v := .string (str (Cb.mac key (Cm.all nonce aad text q size)))) 19 rfl (fun w' => y_ext (v := .string (str (Cb.mac key (Cm.all nonce aad text q size)))) (ex (.tuple #[.string (str (Cb.mac key (Cm.all nonce aad text q size))), .int .i64 0])) rfl) ?_
      refine dp (v := .int .i64 0) 20 rfl (fun w' => y_ext (v := .int .i64 0) (ex (.tuple #[.string (str (Cb.mac key (Cm.all nonce aad text q size))), .int .i64 0])) rfl) ?_
      refine dp 21 rfl (fun w' => y_as es) ?_
      refine dp 22 rfl (fun w' => y_as ei) ?_
      refine d_done (by kernel_rfl) ?_
      clear hS
      exact then_n ⟨_, rfl, rfl, rfl, rfl, rfl, rfl, rfl, (Eq.trans (b := .int .i64 (15 - ((nonce.length : Nat) : Int))) rfl (by congr 1; omega)), rfl, hk⟩
    ·skip
     refine w_call (Try.func97) (by kernel_rfl) rfl (m1 es) (cmBeside aad ha w69) ?_
     rintro _ w81 ⟨rfl, hb82⟩
     refine ⟨_, rfl, ?_⟩
     replace hk := thenB hk hb82
     replace hS := thenB hS hb82
     refine wpList_nil ?_
     refine then_n ⟨fun _ h => thenB h (by assumption), ?_⟩
     refine d_one 3 (by kernel_rfl) rfl ?_
     refine w_bs1 (m := 1) (e := 5) (F := fun j => U8 (BitVec.ofNat 8 (Cm.fst q aad size))) e8 (fun w => by kernel_rfl) ?_
     intro b_35 w83 hbe_b_35 r_b_35 hb84
     have ge_b_35 : w0.heap.size ≤ b_35 := by have := hk.size; omega
     clear hbe_b_35
     replace hk := thenB hk hb84
     replace hS := thenB hS hb84
     refine wpList_nil ?_
     refine then_n ⟨fun _ h => thenB h (by assumption), ?_⟩
     refine d_one 4 (by kernel_rfl) rfl ?_
     refine w_val (y_str (l := [BitVec.ofNat 8 (Cm.fst q aad size)]) el (by rfl) Try.underlying54 Try.underlying5 Try.underlying9 (fun j hj => (r_b_35.val (by omega) (by (obtain rfl : j = 0 := (by omega)); rfl)))) ?_
     refine wpList_nil ?_
     refine then_n ⟨fun _ h => h, ?_⟩
     refine dp (v := .string (str (([BitVec.ofNat 8 (Cm.fst q aad size)]) ++ nonce))) 6 rfl (fun w' => y_bin es es (b_cat (by simp only [List.length_append, List.length_cons, List.length_nil, Cm.num_len, List.length_replicate]; omega))) ?_
     refine dp (v := .string (str ((([BitVec.ofNat 8 (Cm.fst q aad size)]) ++ nonce) ++ (Cm.num text.length q)))) 11 rfl (fun w' => y_bin es es (b_cat (by simp only [List.length_append, List.length_cons, List.length_nil, Cm.num_len, List.length_replicate]; omega))) ?_
     refine dp (v := .string (str (((([BitVec.ofNat 8 (Cm.fst q aad size)]) ++ nonce) ++ (Cm.num text.length q)) ++ (Cm.bes aad)))) 14 rfl (fun w' => y_bin es es (b_cat (by simp only [List.length_append, List.length_cons, List.length_nil, Cm.num_len, List.length_replicate]; omega))) ?_
     refine dp (v := .string (str ((((([BitVec.ofNat 8 (Cm.fst q aad size)]) ++ nonce) ++ (Cm.num text.length q)) ++ (Cm.bes aad)) ++ text))) 16 rfl (fun w' => y_bin es es (b_cat (by simp only [List.length_append, List.length_cons, List.length_nil, Cm.num_len, List.length_replicate]; omega))) ?_
     refine d_one 17 (by kernel_rfl) rfl ?_
     refine w_call (Try.func32) (by kernel_rfl) rfl (m2 es es) (mac_y key hok (Cm.all nonce aad text q size) (by rw [Cm.all_len _ _ _ _ _ hq]; omega) w83) ?_
     rintro _ w85 ⟨rfl, hb86⟩
     refine ⟨_, rfl, ?_⟩
     replace r_b_35 := r_b_35.step hb86
     replace hk := thenB hk hb86
     replace hS := thenB hS hb86
     refine wpList_nil ?_
     refine then_n ⟨fun _ h => thenB h (by assumption), ?_⟩
     refine dp 18 rfl (fun w' => y_mv (ex (.tuple #[.string (str (Cb.mac key (Cm.all nonce aad text q size))), .int .i64 0]))) ?_
     refine dp (v := .string (str (Cb.mac key (Cm.all nonce aad text q size)))) 19 rfl (fun w' => y_ext (v := .string (str (Cb.mac key (Cm.all nonce aad text q size)))) (ex (.tuple #[.string (str (Cb.mac key (Cm.all nonce aad text q size))), .int .i64 0])) rfl) ?_
     refine dp (v := .int .i64 0) 20 rfl (fun w' => y_ext (v := .int .i64 0) (ex (.tuple #[.string (str (Cb.mac key (Cm.all nonce aad text q size))), .int .i64 0])) rfl) ?_
     refine dp 21 rfl (fun w' => y_as es) ?_
     refine dp 22 rfl (fun w' => y_as ei) ?_
     refine d_done (by kernel_rfl) ?_
     clear hS
     exact then_n ⟨_, rfl, rfl, rfl, rfl, rfl, rfl, rfl, (Eq.trans (b := .int .i64 (15 - ((nonce.length : Nat) : Int))) rfl (by congr 1; omega)), rfl, hk⟩
  ·skip
   clear hk
   rintro _ w87 ⟨f47, rfl, t48_s0, t48_s1, t48_s2, t48_s3, t48_s4, t48_s10, t48_s11, t48_s13, hk⟩
   refine sr ?_
   refine w_mv (es t48_s0) ?_
   refine w_mv (es t48_s1) ?_
   refine w_call (Try.func94) (by kernel_rfl) rfl (m1 es) (cmCounter nonce q hq h2 h8 w87) ?_
   rintro _ w88 ⟨rfl, hb89⟩
   refine ⟨_, rfl, ?_⟩
   replace hk := thenB hk hb89
   refine w_mv (ei t48_s11) ?_
   refine w_mv (es t48_s13) ?_
   refine w_call (Try.func95) (by kernel_rfl) rfl (m4 es es ei es) (ctrXor_y key (Cb.mac key (Cm.all nonce aad text q size)) hok (Cm.cnt nonce q 0) q (Cm.cnt_len _ _ _ hq) (by omega) (by omega) (by rw [Cm.mac_len _ _ hok]; decide) w88) ?_
   rintro _ w90 ⟨rfl, hb91⟩
   refine ⟨_, rfl, ?_⟩
   replace hk := thenB hk hb91
   refine w_mv (ex (.tuple #[.string (str (Ct.x key (Cm.cnt nonce q 0) q (Cb.mac key (Cm.all nonce aad text q size)))), .int .i64 0])) ?_
   refine w_val ye ?_
   refine w_val ye ?_
   refine w_as es ?_
   refine w_as ei ?_
   refine nt ?_
   refine wp_seq ?_
   have hxl : (Ct.x key (Cm.cnt nonce q 0) q (Cb.mac key (Cm.all nonce aad text q size))).length = 16 := by rw [Ct.length_x, Cm.mac_len _ _ hok]
   refine wp_region_lit ?_
   refine w_mv es ?_
   refine w_mv (ei t48_s4) ?_
   refine w_val (v := .string (str ((Ct.x key (Cm.cnt nonce q 0) q (Cb.mac key (Cm.all nonce aad text q size))).take size))) (y_sls (ex (.string (str (Ct.x key (Cm.cnt nonce q 0) q (Cb.mac key (Cm.all nonce aad text q size)))))) evo.no (evo.s ei) Try.underlying9 (bnd_h (h := size) (by omega) (by rw [hxl]; omega))) ?_
   refine w_as es ?_
   refine nt ?_
   refine wp_ret ?_
   refine fin_ret1 rfl es ?_
   refine ⟨congrArg Ending.returned ?_, hk⟩
   show (.string (str ((Ct.x key (Cm.cnt nonce q 0) q (Cb.mac key (Cm.all nonce aad text q size))).take size)) : Value) = .string (str (Cm.tg key nonce aad text q size))
   first | with_reducible rfl | (with_reducible congr 1 <;> omega) | (with_reducible congr 2 <;> omega) | (with_reducible congr 3 <;> omega) | rfl

theorem cmXor (key nonce text : List (BitVec 8)) (q : Nat) (hq : nonce.length + q = 15) (h2 : 2 ≤ q) (h8 : q ≤ 8) (hok : Aes.okKey key.length) (ht : text.length ≤ 70000) (w0 : World) : Calls Try.prog 71 #[.string (str key), .string (str nonce), .string (str text)] w0 fun e w' => e = .returned (.string (str (Cm.xr key nonce text q))) ∧ Below w0.heap.size w0 w' := by
 refine enter (n := 31) Try.func71 rfl rfl rfl ?_
 have hk : Below w0.heap.size w0 w0 := Below.refl _ _
 refine sr ?_
 refine w_as (evc (.string (str ([] : List (BitVec 8))))) ?_
 refine nt ?_
 refine sr ?_
 refine w_mv es ?_
 refine w_val (y_len es Try.underlying9) ?_
 refine w_val (y_bin Ev.c ei (b_sub (by omega))) ?_
 refine w_as ei ?_
 refine nt ?_
 refine sr ?_
 refine w_mv es ?_
 refine w_call (Try.func94) (by kernel_rfl) rfl (m1 es) (cmCounter nonce q hq h2 h8 w0) ?_
 rintro _ w1 ⟨rfl, hb2⟩
 refine ⟨_, rfl, ?_⟩
 replace hk := thenB hk hb2
 refine w_mv (ex (.int .i64 ((q : Nat) : Int)) (Eq.trans (b := .int .i64 (15 - ((nonce.length : Nat) : Int))) rfl (by congr 1; omega))) ?_
 refine w_call (Try.func93) (by kernel_rfl) rfl (m3 es ei (evc (U64 (1#64)))) (next_y (Cm.cnt nonce q 0) q (Cm.cnt_len _ _ _ hq) (by omega) (by omega) 1 (by omega) w1) ?_
 rintro _ w3 ⟨rfl, hb4⟩
 refine ⟨_, rfl, ?_⟩
 replace hk := thenB hk hb4
 refine w_mv (ex (.tuple #[.string (str (Ct.nx (Cm.cnt nonce q 0) q 1)), .int .i64 0])) ?_
 refine w_val ye ?_
 refine w_val ye ?_
 refine w_as es ?_
 refine w_as ei ?_
 refine nt ?_
 refine sr ?_
 refine w_mv es ?_
 refine w_mv (ex (.string (str (Cm.cnt nonce q 1))) (Eq.trans (b := .string (str (Ct.nx (Cm.cnt nonce q 0) q 1))) rfl (by rw [Cm.nx_cnt nonce q 1 hq (by decide)]))) ?_
 refine w_mv (ex (.int .i64 ((q : Nat) : Int)) (Eq.trans (b := .int .i64 (15 - ((nonce.length : Nat) : Int))) rfl (by congr 1; omega))) ?_
 refine w_mv es ?_
 refine w_call (Try.func95) (by kernel_rfl) rfl (m4 es es ei es) (ctrXor_y key text hok (Cm.cnt nonce q 1) q (Cm.cnt_len _ _ _ hq) (by omega) (by omega) (by omega) w3) ?_
 rintro _ w5 ⟨rfl, hb6⟩
 refine ⟨_, rfl, ?_⟩
 replace hk := thenB hk hb6
 refine w_mv (ex (.tuple #[.string (str (Ct.x key (Cm.cnt nonce q 1) q text)), .int .i64 0])) ?_
 refine w_val ye ?_
 refine w_val ye ?_
 refine w_as es ?_
 refine w_as ei ?_
 refine nt ?_
 refine sr ?_
 refine w_mv es ?_
 refine w_as es ?_
 refine nt ?_
 refine wp_ret ?_
 refine fin_ret1 rfl es ?_
 refine ⟨congrArg Ending.returned ?_, hk⟩
 show (.string (str (Ct.x key (Cm.cnt nonce q 1) q text)) : Value) = .string (str (Cm.xr key nonce text q))
 first | with_reducible rfl | (with_reducible congr 1 <;> omega) | (with_reducible congr 2 <;> omega) | (with_reducible congr 3 <;> omega) | rfl
end Go.Proofs.Ytjdcpejcnmpiaaa
