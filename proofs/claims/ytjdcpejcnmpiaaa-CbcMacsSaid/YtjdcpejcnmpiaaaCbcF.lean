/-
  Chains of blocks: the last block alone. Conditions as each says.
-/
import Derived.Test.YtjdcpejcnmpiaaaRows
import Derived.Test.YtjdcpejcnmpiaaaCbcD
import Derived.ProofKit
namespace Go.Proofs.Ytjdcpejcnmpiaaa
open Go.RowKit
set_option linter.unusedSimpArgs false
set_option linter.unusedVariables false
namespace CbcFT
theorem mixed : Try.prog.follows .mixedOrders = true := by kernel_rfl
theorem sc5 : (Try.prog.underlying 5).map scal = some true := by rw [Try.underlying5]; rfl
theorem sc9 : (Try.prog.underlying 9).map scal = some true := by rw [Try.underlying9]; rfl
theorem so3 : (Try.prog.underlying 3).isSome = true := by rw [Try.underlying3]; rfl
theorem so5 : (Try.prog.underlying 5).isSome = true := by rw [Try.underlying5]; rfl
theorem sz5 : (Try.prog.info? 5).map (·.size) = some 1 := by kernel_rfl
theorem sz9 : (Try.prog.info? 9).map (·.size) = some 1 := by kernel_rfl
end CbcFT
set_option maxRecDepth 100000 in
set_option maxHeartbeats 1000000 in
theorem mac_k (key : List (BitVec 8)) (hok : ¬ Aes.okKey key.length) (text : List (BitVec 8)) (w0 : World) : Calls Try.prog 32 #[.string (str key), .string (str text)] w0 fun e w' => e = .returned (.tuple #[.string (str ([] : List (BitVec 8))), .int .i64 3]) ∧ Below w0.heap.size w0 w' := by
 refine enter (n := 61) Try.func32 rfl rfl rfl ?_
 have hk : Below w0.heap.size w0 w0 := Below.refl _ _
 refine sr ?_
 refine w_as (evc (.string (str ([] : List (BitVec 8))))) ?_
 refine w_as (evc (.int .i64 0)) ?_
 refine nt ?_
 refine sr ?_
 refine w_mv (ev (.string (str key)) rfl rfl) ?_
 refine w_call (Try.func62) (by kernel_rfl) rfl (m1 (ev (.string (str key)) rfl rfl)) (new_l_no key w0 hok) ?_
 rintro _ _ ⟨rfl, rfl⟩
 refine ⟨_, rfl, ?_⟩
 refine w_mv (ev (.tuple #[.pointer none, .int .i64 3]) rfl rfl) ?_
 refine w_val (y_ext (v := .pointer none) (ev (.tuple #[.pointer none, .int .i64 3]) rfl rfl) rfl) ?_
 refine w_val (y_ext (v := .int .i64 3) (ev (.tuple #[.pointer none, .int .i64 3]) rfl rfl) rfl) ?_
 refine w_as (ev (.pointer none) rfl rfl) ?_
 refine w_as (ev (.int .i64 3) rfl rfl) ?_
 refine nt ?_
 refine wp_seq ?_
 refine sr ?_
 refine w_mv (ev (.int .i64 3) rfl rfl) ?_
 refine w_val (y_bin (ev (.int .i64 3) rfl rfl) (evc (.int .i64 0)) b_neq) ?_
 refine nt ?_
 refine c_tt (ev (.bool true) rfl rfl) ?_
 refine sr ?_
 refine w_mv (ev (.int .i64 3) rfl rfl) ?_
 refine w_as (evc (.string (str ([] : List (BitVec 8))))) ?_
 refine w_as (ev (.int .i64 3) rfl rfl) ?_
 refine nt ?_
 refine wp_ret ?_
 refine then_r ?_
 refine fin_ret2 rfl (ev (.string (str ([] : List (BitVec 8)))) rfl rfl) (ev (.int .i64 3) rfl rfl) ?_
 exact ⟨rfl, hk⟩

set_option maxRecDepth 100000 in
set_option maxHeartbeats 1000000 in
theorem mac_z (key : List (BitVec 8)) (hok : Aes.okKey key.length) (text : List (BitVec 8)) (hz : 140000 < text.length) (w0 : World) : Calls Try.prog 32 #[.string (str key), .string (str text)] w0 fun e w' => e = .returned (.tuple #[.string (str ([] : List (BitVec 8))), .int .i64 6]) ∧ Below w0.heap.size w0 w' := by
 refine enter (n := 61) Try.func32 rfl rfl rfl ?_
 have hk : Below w0.heap.size w0 w0 := Below.refl _ _
 refine sr ?_
 refine w_as (evc (.string (str ([] : List (BitVec 8))))) ?_
 refine w_as (evc (.int .i64 0)) ?_
 refine nt ?_
 refine sr ?_
 refine w_mv (ev (.string (str key)) rfl rfl) ?_
 refine w_call (Try.func62) (by kernel_rfl) rfl (m1 (ev (.string (str key)) rfl rfl)) (new_l key w0 hok) ?_
 rintro _ w1 ⟨p, rfl, hge_p, hc, hb_p⟩
 refine ⟨_, rfl, ?_⟩
 have ge_p : w0.heap.size ≤ p := by have := hk.size; omega
 replace hk := thenB hk hb_p
 refine w_mv (ev (.tuple #[pt p 0, .int .i64 0]) rfl rfl) ?_
 refine w_val (y_ext (v := pt p 0) (ev (.tuple #[pt p 0, .int .i64 0]) rfl rfl) rfl) ?_
 refine w_val (y_ext (v := .int .i64 0) (ev (.tuple #[pt p 0, .int .i64 0]) rfl rfl) rfl) ?_
 refine w_as (ev (pt p 0) rfl rfl) ?_
 refine w_as (ev (.int .i64 0) rfl rfl) ?_
 refine nt ?_
 refine wp_seq ?_
 refine sr ?_
 refine w_mv (ev (.int .i64 0) rfl rfl) ?_
 refine w_val (y_bin (ev (.int .i64 0) rfl rfl) (evc (.int .i64 0)) b_neq) ?_
 refine nt ?_
 refine c_ff (ev (.bool false) rfl rfl) ?_
 refine wp_skip ?_
 refine then_n ?_
 refine wp_seq ?_
 refine sr ?_
 refine w_mv (ev (.string (str text)) rfl rfl) ?_
 refine w_val (y_len (ev (.string (str text)) rfl rfl) Try.underlying9) ?_
 refine w_val (y_bin (ev (.int .i64 ((text.length : Nat) : Int)) rfl rfl) (evc (.int .i64 140000)) b_gtr) ?_
 refine nt ?_
 have hc2 : 140000 < ((text.length : Nat) : Int) := by omega
 refine c_t (p := 140000 < ((text.length : Nat) : Int)) (ev (.bool (decide (140000 < ((text.length : Nat) : Int)))) rfl rfl) hc2 ?_
 refine sr ?_
 refine w_as (evc (.string (str ([] : List (BitVec 8))))) ?_
 refine w_as (evc (.int .i64 6)) ?_
 refine nt ?_
 refine wp_ret ?_
 refine then_r ?_
 refine fin_ret2 rfl (ev (.string (str ([] : List (BitVec 8)))) rfl rfl) (ev (.int .i64 6) rfl rfl) ?_
 exact ⟨rfl, hk⟩

set_option maxRecDepth 100000 in
set_option maxHeartbeats 1000000 in
theorem refMac_k (key : List (BitVec 8)) (hok : ¬ Aes.okKey key.length) (text : List (BitVec 8)) (w0 : World) : Calls Try.prog 33 #[.string (str key), .string (str text)] w0 fun e w' => e = .returned (.tuple #[.string (str ([] : List (BitVec 8))), .int .i64 3]) ∧ Below w0.heap.size w0 w' := by
 refine enter (n := 48) Try.func33 rfl rfl rfl ?_
 have hk : Below w0.heap.size w0 w0 := Below.refl _ _
 refine sr ?_
 refine w_as (evc (.string (str ([] : List (BitVec 8))))) ?_
 refine w_as (evc (.int .i64 0)) ?_
 refine nt ?_
 refine wp_seq ?_
 refine sr ?_
 refine w_mv (ev (.string (str key)) rfl rfl) ?_
 refine w_call (Try.func64) (by kernel_rfl) rfl (m1 (ev (.string (str key)) rfl rfl)) (right_l_no key w0 hok) ?_
 rintro _ _ ⟨rfl, rfl⟩
 refine ⟨_, rfl, ?_⟩
 refine w_val (y_not (ev (.bool false) rfl rfl)) ?_
 refine nt ?_
 refine c_tt (ev (.bool true) rfl rfl) ?_
 refine sr ?_
 refine w_as (evc (.string (str ([] : List (BitVec 8))))) ?_
 refine w_as (evc (.int .i64 3)) ?_
 refine nt ?_
 refine wp_ret ?_
 refine then_r ?_
 refine fin_ret2 rfl (ev (.string (str ([] : List (BitVec 8)))) rfl rfl) (ev (.int .i64 3) rfl rfl) ?_
 exact ⟨rfl, hk⟩

set_option maxRecDepth 100000 in
set_option maxHeartbeats 1000000 in
theorem refMac_z (key : List (BitVec 8)) (hok : Aes.okKey key.length) (text : List (BitVec 8)) (hz : 140000 < text.length) (w0 : World) : Calls Try.prog 33 #[.string (str key), .string (str text)] w0 fun e w' => e = .returned (.tuple #[.string (str ([] : List (BitVec 8))), .int .i64 6]) ∧ Below w0.heap.size w0 w' := by
 refine enter (n := 48) Try.func33 rfl rfl rfl ?_
 have hk : Below w0.heap.size w0 w0 := Below.refl _ _
 refine sr ?_
 refine w_as (evc (.string (str ([] : List (BitVec 8))))) ?_
 refine w_as (evc (.int .i64 0)) ?_
 refine nt ?_
 refine wp_seq ?_
 refine sr ?_
 refine w_mv (ev (.string (str key)) rfl rfl) ?_
 refine w_call (Try.func64) (by kernel_rfl) rfl (m1 (ev (.string (str key)) rfl rfl)) (right_l key w0 hok) ?_
 rintro _ _ ⟨rfl, rfl⟩
 refine ⟨_, rfl, ?_⟩
 refine w_val (y_not (ev (.bool true) rfl rfl)) ?_
 refine nt ?_
 refine c_ff (ev (.bool false) rfl rfl) ?_
 refine wp_skip ?_
 refine then_n ?_
 refine wp_seq ?_
 refine sr ?_
 refine w_mv (ev (.string (str text)) rfl rfl) ?_
 refine w_val (y_len (ev (.string (str text)) rfl rfl) Try.underlying9) ?_
 refine w_val (y_bin (ev (.int .i64 ((text.length : Nat) : Int)) rfl rfl) (evc (.int .i64 140000)) b_gtr) ?_
 refine nt ?_
 have hc2 : 140000 < ((text.length : Nat) : Int) := by omega
 refine c_t (p := 140000 < ((text.length : Nat) : Int)) (ev (.bool (decide (140000 < ((text.length : Nat) : Int)))) rfl rfl) hc2 ?_
 refine sr ?_
 refine w_as (evc (.string (str ([] : List (BitVec 8))))) ?_
 refine w_as (evc (.int .i64 6)) ?_
 refine nt ?_
 refine wp_ret ?_
 refine then_r ?_
 refine fin_ret2 rfl (ev (.string (str ([] : List (BitVec 8)))) rfl rfl) (ev (.int .i64 6) rfl rfl) ?_
 exact ⟨rfl, hk⟩

set_option maxRecDepth 100000 in
set_option maxHeartbeats 1000000 in
theorem mac_y (key : List (BitVec 8)) (hok : Aes.okKey key.length) (text : List (BitVec 8)) (hz : text.length ≤ 140000) (w0 : World) : Calls Try.prog 32 #[.string (str key), .string (str text)] w0 fun e w' => e = .returned (.tuple #[.string (str (Cb.mac key text)), .int .i64 0]) ∧ Below w0.heap.size w0 w' := by
 have hle := fun t => Cb.ch_len key Cb.zero16 (Cb.z text) hok rfl t
 have hzl : (Cb.z text).length = text.length + (16 - text.length % 16) % 16 := Cb.z_len text
 refine enter (n := 61) Try.func32 rfl rfl rfl ?_
 have hk : Below w0.heap.size w0 w0 := Below.refl _ _
 refine sr ?_
 refine w_as (evc (.string (str ([] : List (BitVec 8))))) ?_
 refine w_as (evc (.int .i64 0)) ?_
 refine nt ?_
 refine sr ?_
 refine w_mv (ev (.string (str key)) rfl rfl) ?_
 refine w_call (Try.func62) (by kernel_rfl) rfl (m1 (ev (.string (str key)) rfl rfl)) (new_l key w0 hok) ?_
 rintro _ w1 ⟨p, rfl, hge_p, hc, hb_p⟩
 refine ⟨_, rfl, ?_⟩
 have ge_p : w0.heap.size ≤ p := by have := hk.size; omega
 replace hk := thenB hk hb_p
 refine w_mv (ev (.tuple #[pt p 0, .int .i64 0]) rfl rfl) ?_
 refine w_val (y_ext (v := pt p 0) (ev (.tuple #[pt p 0, .int .i64 0]) rfl rfl) rfl) ?_
 refine w_val (y_ext (v := .int .i64 0) (ev (.tuple #[pt p 0, .int .i64 0]) rfl rfl) rfl) ?_
 refine w_as (ev (pt p 0) rfl rfl) ?_
 refine w_as (ev (.int .i64 0) rfl rfl) ?_
 refine nt ?_
 refine wp_seq ?_
 refine sr ?_
 refine w_mv (ev (.int .i64 0) rfl rfl) ?_
 refine w_val (y_bin (ev (.int .i64 0) rfl rfl) (evc (.int .i64 0)) b_neq) ?_
 refine nt ?_
 refine c_ff (ev (.bool false) rfl rfl) ?_
 refine wp_skip ?_
 refine then_n ?_
 refine wp_seq ?_
 refine sr ?_
 refine w_mv (ev (.string (str text)) rfl rfl) ?_
 refine w_val (y_len (ev (.string (str text)) rfl rfl) Try.underlying9) ?_
 refine w_val (y_bin (ev (.int .i64 ((text.length : Nat) : Int)) rfl rfl) (evc (.int .i64 140000)) b_gtr) ?_
 refine nt ?_
 have hc2 : ¬ (140000 < ((text.length : Nat) : Int)) := by omega
 refine c_f (p := 140000 < ((text.length : Nat) : Int)) (ev (.bool (decide (140000 < ((text.length : Nat) : Int)))) rfl rfl) hc2 ?_
 refine wp_skip ?_
 refine then_n ?_
 refine sr ?_
 refine w_alloc (m := 16) (F := fun j => U8 (0#8)) (by kernel_rfl) ?_
 intro b_x w3 hbe_b_x r_b_x hb4
 have ge_b_x : w0.heap.size ≤ b_x := by have := hk.size; omega
 clear hbe_b_x
 replace hk := thenB hk hb4
 replace hc := hc.below hb4
 refine nt ?_
 refine wp_seq ?_
 refine sr ?_
 refine w_as (evc (.int .i64 0)) ?_
 refine nt ?_
 refine wp_block ?_
 refine c_loop (fun dN aN wl => ∃ (t : Nat), dN = (text.length + 16 - 16 * t) ∧ ∃ f5, aN = fr 61 f5 ∧ (16 * t < text.length + 16) ∧ f5 0 = .string (str key) ∧ f5 1 = .string (str text) ∧ f5 4 = .string (str ([] : List (BitVec 8))) ∧ f5 5 = .int .i64 0 ∧ f5 6 = pt p 0 ∧ f5 7 = .int .i64 0 ∧ f5 8 = pt b_x 0 ∧ f5 9 = .int .i64 (((16 * t) : Nat) : Int) ∧ Row wl b_x 73 16 (fun j => U8 (gb (Cb.ch key Cb.zero16 (Cb.z text) t) j)) ∧ CiphAt Aes.bk Aes.undo wl p (Aes.words key) ∧ Below w0.heap.size w0 wl) (text.length + 16 - 16 * 0) ?_ ?_
 · exact ⟨0, rfl, _, rfl, iv, rfl, rfl, rfl, rfl, rfl, rfl, rfl, (etv (b := .int .i64 0) rfl), (r_b_x.congr (fun j hj => by exact congrArg U8 (gb_rep 16 j).symm)), hc, hk⟩
 ·skip
  clear r_b_x hc hk
  rintro _ _ w6 ⟨t, rfl, f5, rfl, i1_0, s1_0, s1_1, s1_4, s1_5, s1_6, s1_7, s1_8, s1_9, r_b_x, hc, hk⟩
  refine wp_seq ?_
  refine sr ?_
  refine w_mv (ev (.int .i64 (((16 * t) : Nat) : Int)) s1_9 rfl) ?_
  refine w_mv (ev (.string (str text)) s1_1 rfl) ?_
  refine w_val (y_len (ev (.string (str text)) rfl rfl) Try.underlying9) ?_
  refine w_val (y_bin (ev (.int .i64 (((16 * t) : Nat) : Int)) rfl rfl) (ev (.int .i64 ((text.length : Nat) : Int)) rfl rfl) b_lss) ?_
  refine nt ?_
  refine c_if (p := (((16 * t) : Nat) : Int) < ((text.length : Nat) : Int)) (ev (.bool (decide ((((16 * t) : Nat) : Int) < ((text.length : Nat) : Int)))) rfl rfl) (fun hc7 => ?_) (fun hc7 => ?_)
  ·skip
   refine wp_skip ?_
   refine then_n ?_
   refine wp_seq ?_
   refine wp_block ?_
   refine wp_seq ?_
   refine sr ?_
   refine w_mv (ev (.string (str text)) s1_1 rfl) ?_
   refine w_val (y_len (ev (.string (str text)) rfl rfl) Try.underlying9) ?_
   refine w_mv (ev (.int .i64 (((16 * t) : Nat) : Int)) s1_9 rfl) ?_
   refine w_val (y_bin (ev (.int .i64 ((text.length : Nat) : Int)) rfl rfl) (ev (.int .i64 (((16 * t) : Nat) : Int)) rfl rfl) (b_sub (by omega))) ?_
   refine w_val (v := .int .i64 (min 16 (((text.length : Nat) : Int) - (((16 * t) : Nat) : Int)))) (y_min (evc (.int .i64 16)) (ev (.int .i64 (((text.length : Nat) : Int) - (((16 * t) : Nat) : Int))) rfl rfl)) ?_
   refine w_mv (evc (.int .i64 0)) ?_
   refine nt ?_
   refine wp_block ?_
   refine c_loop (fun dN aN wl => ∃ (k : Nat), dN = (16 - k) ∧ ∃ f8, aN = fr 61 f8 ∧ (k ≤ 16) ∧ (16 * t + k ≤ text.length) ∧ f8 0 = .string (str key) ∧ f8 1 = .string (str text) ∧ f8 4 = .string (str ([] : List (BitVec 8))) ∧ f8 5 = .int .i64 0 ∧ f8 6 = pt p 0 ∧ f8 7 = .int .i64 0 ∧ f8 8 = pt b_x 0 ∧ f8 9 = .int .i64 (((16 * t) : Nat) : Int) ∧ f8 34 = .int .i64 (min 16 (((text.length : Nat) : Int) - (((16 * t) : Nat) : Int))) ∧ f8 35 = .int .i64 ((k : Nat) : Int) ∧ Row wl b_x 73 16 (fun j => if j < k then (fun j => U8 (gb (Cb.ch key Cb.zero16 (Cb.z text) t) j ^^^ gb text (16 * t + j))) j else (fun j => U8 (gb (Cb.ch key Cb.zero16 (Cb.z text) t) j)) j) ∧ CiphAt Aes.bk Aes.undo wl p (Aes.words key) ∧ Below w0.heap.size w0 wl) (16 - 0) ?_ ?_
   · exact ⟨0, rfl, _, rfl, iv, iv, s1_0, s1_1, s1_4, s1_5, s1_6, s1_7, s1_8, s1_9, rfl, (etv (b := .int .i64 0) rfl), (r_b_x.congr (fun j hj => by (try dsimp only); rw [if_neg (by omega)])), hc, hk⟩
   ·skip
    clear r_b_x hc hk
    rintro _ _ w9 ⟨k, rfl, f8, rfl, i2_0, i2_1, s2_0, s2_1, s2_4, s2_5, s2_6, s2_7, s2_8, s2_9, s2_34, s2_35, r_b_x, hc, hk⟩
    refine sr ?_
    refine w_val (y_bin (ev (.int .i64 ((k : Nat) : Int)) s2_35 rfl) (ev (.int .i64 (min 16 (((text.length : Nat) : Int) - (((16 * t) : Nat) : Int)))) s2_34 rfl) b_lss) ?_
    refine nt ?_
    refine wp_seq ?_
    refine c_if (p := ((k : Nat) : Int) < (min 16 (((text.length : Nat) : Int) - (((16 * t) : Nat) : Int)))) (ev (.bool (decide (((k : Nat) : Int) < (min 16 (((text.length : Nat) : Int) - (((16 * t) : Nat) : Int)))))) rfl rfl) (fun hc10 => ?_) (fun hc10 => ?_)
    ·skip
     refine wp_skip ?_
     refine then_n ?_
     refine wp_seq ?_
     refine wp_block ?_
     refine sr ?_
     refine w_mv (ev (.int .i64 ((k : Nat) : Int)) s2_35 rfl) ?_
     refine w_as (ev (.int .i64 ((k : Nat) : Int)) rfl rfl) ?_
     refine nt ?_
     refine region_t 10 CbcFT.mixed (by kernel_rfl) ?_
     simp only [List.take_succ_cons, List.take_zero, List.drop_succ_cons, List.drop_zero]
     refine q_mv (ev (.int .i64 ((k : Nat) : Int)) rfl rfl) ?_
     refine q_val (fun w' hw' => y_ia1z (i := k) (ev (pt b_x 0) s2_8 rfl) (ev (.int .i64 ((k : Nat) : Int)) rfl rfl) Try.underlying73 CbcFT.sz5 (by omega) (by omega)) ?_
     refine q_val (v := U8 (gb (Cb.ch key Cb.zero16 (Cb.z text) t) k)) (fun w' hw' => y_ld (ev (pt b_x k) rfl rfl) CbcFT.sc5 (cls_cell (r_b_x.val (by omega) ((if_neg (by omega)).trans rfl)) r_b_x.lt w' hw')) ?_
     refine q_mv (ev (.string (str text)) s2_1 rfl) ?_
     refine q_mv (ev (.int .i64 (((16 * t) : Nat) : Int)) s2_9 rfl) ?_
     refine q_mv (ev (.int .i64 ((k : Nat) : Int)) rfl rfl) ?_
     refine q_val (fun w' hw' => y_bin (ev (.int .i64 (((16 * t) : Nat) : Int)) rfl rfl) (ev (.int .i64 ((k : Nat) : Int)) rfl rfl) (b_add (by omega))) ?_
     refine q_val (v := U8 (gb text ((16 * t) + k))) (fun w' hw' => y_idx (ev (.string (str text)) rfl rfl) (ev (.int .i64 ((((16 * t) : Nat) : Int) + ((k : Nat) : Int))) rfl rfl) Try.underlying9 (by omega) (by omega)) ?_
     refine q_val (fun w' hw' => y_bin (ev (U8 (gb (Cb.ch key Cb.zero16 (Cb.z text) t) k)) rfl rfl) (ev (U8 (gb text ((16 * t) + k))) rfl rfl) xor8) ?_
     refine q_val (fun w' hw' => y_ia1z (i := k) (ev (pt b_x 0) s2_8 rfl) (ev (.int .i64 ((k : Nat) : Int)) rfl rfl) Try.underlying73 CbcFT.sz5 (by omega) (by omega)) ?_
     refine q_nil ?_
     intro w11 hb12
     replace r_b_x := r_b_x.step hb12
     replace hk := thenB hk hb12
     replace hc := hc.below hb12
     have hx_hc := CiphAt.onward hc r_b_x (by decide) (by decide)
     refine w_st (v := U8 ((gb (Cb.ch key Cb.zero16 (Cb.z text) t) k) ^^^ (gb text ((16 * t) + k)))) (ev (pt b_x k) rfl rfl) (ev (U8 ((gb (Cb.ch key Cb.zero16 (Cb.z text) t) k) ^^^ (gb text ((16 * t) + k)))) rfl rfl) rfl rfl CbcFT.sz5 r_b_x (by omega) ?_
     clear r_b_x; intro w13 r_b_x hg14 _
     replace hk := thenG hk hg14 (by omega)
     replace hc := hx_hc _ hg14
     refine wpList_nil ?_
     refine inb_n ?_
     refine then_n ?_
     refine wp_region_lit ?_
     refine w_val (y_bin (ev (.int .i64 ((k : Nat) : Int)) s2_35 rfl) (evc (.int .i64 1)) (b_add (by omega))) ?_
     refine w_mv (ev (.int .i64 (((k : Nat) : Int) + 1)) rfl rfl) ?_
     refine wpList_nil ?_
     exact then_n ⟨_, (by omega), k + 1, rfl, _, rfl, iv, iv, s2_0, s2_1, s2_4, s2_5, s2_6, s2_7, s2_8, s2_9, s2_34, (etv (b := .int .i64 (((k : Nat) : Int) + 1)) rfl), (r_b_x.congr (fun j hj => by (try dsimp only); by_cases e : j = k; (rw [if_pos e, if_pos (by omega), e]); (rw [if_neg e]; by_cases e2 : j < k; (rw [if_pos e2, if_pos (by omega)]); (rw [if_neg e2, if_neg (by omega)])))), hc, hk⟩
    ·skip
     refine wp_exit ?_
     refine then_x ?_
     have hxl : (Oct.xor (Cb.ch key Cb.zero16 (Cb.z text) t) (Cb.bk (Cb.z text) t)).length = 16 := by rw [Oct.length_xor, hle, Cb.bk_len _ _ (by omega)]; rfl
     have hE : (Aes.enc (Aes.words key) (Oct.xor (Cb.ch key Cb.zero16 (Cb.z text) t) (Cb.bk (Cb.z text) t))).length = 16 := Cb.enc_len key _ hok
     replace r_b_x := r_b_x.congr (g := fun j => U8 (gb (Oct.xor (Cb.ch key Cb.zero16 (Cb.z text) t) (Cb.bk (Cb.z text) t)) j)) (fun j hj => by (try dsimp only); rw [Cb.mac_step key text t k j hok hj (by omega) (by omega)]; split <;> rfl)
     refine then_x ?_
     refine inb_x ?_
     refine then_n ?_
     refine sr ?_
     refine w_mv (ev (pt p 0) s2_6 rfl) ?_
     refine w_val (v := .slice (some ⟨b_x, 0, none⟩) 16 16) (y_sloff (y_slp (ev (pt b_x 0) s2_8 rfl) evo.no evo.no Try.underlying73 CbcFT.sz5 bnd_ (by omega)) (by first | rfl | omega) rfl) ?_
     refine w_val (y_str (l := Oct.xor (Cb.ch key Cb.zero16 (Cb.z text) t) (Cb.bk (Cb.z text) t)) (ev (.slice (some ⟨b_x, 0, none⟩) 16 16) rfl rfl) (by first | rfl | assumption | (simp; omega) | omega) Try.underlying54 Try.underlying5 Try.underlying9 (fun j hj => by rw [Nat.zero_add]; exact (r_b_x.cell (by omega)))) ?_
     refine w_call (Try.func63) (by kernel_rfl) rfl (m2 (ev (pt p 0) rfl rfl) (ev (.string (str (Oct.xor (Cb.ch key Cb.zero16 (Cb.z text) t) (Cb.bk (Cb.z text) t)))) rfl rfl)) (enc_l p key (Oct.xor (Cb.ch key Cb.zero16 (Cb.z text) t) (Cb.bk (Cb.z text) t)) w9 hok hc hxl) ?_
     rintro _ w15 ⟨rfl, hb16⟩
     refine ⟨_, rfl, ?_⟩
     replace r_b_x := r_b_x.step hb16
     replace hk := thenB hk hb16
     replace hc := hc.below hb16
     refine w_mv (ev (.tuple #[.string (str (Aes.enc (Aes.words key) (Oct.xor (Cb.ch key Cb.zero16 (Cb.z text) t) (Cb.bk (Cb.z text) t)))), .int .i64 0]) rfl rfl) ?_
     refine w_val (y_ext (v := .string (str (Aes.enc (Aes.words key) (Oct.xor (Cb.ch key Cb.zero16 (Cb.z text) t) (Cb.bk (Cb.z text) t))))) (ev (.tuple #[.string (str (Aes.enc (Aes.words key) (Oct.xor (Cb.ch key Cb.zero16 (Cb.z text) t) (Cb.bk (Cb.z text) t)))), .int .i64 0]) rfl rfl) rfl) ?_
     refine w_val (y_ext (v := .int .i64 0) (ev (.tuple #[.string (str (Aes.enc (Aes.words key) (Oct.xor (Cb.ch key Cb.zero16 (Cb.z text) t) (Cb.bk (Cb.z text) t)))), .int .i64 0]) rfl rfl) rfl) ?_
     refine w_as (ev (.string (str (Aes.enc (Aes.words key) (Oct.xor (Cb.ch key Cb.zero16 (Cb.z text) t) (Cb.bk (Cb.z text) t))))) rfl rfl) ?_
     refine w_as (ev (.int .i64 0) rfl rfl) ?_
     refine nt ?_
     refine wp_region_lit ?_
     refine w_val (v := .slice (some ⟨b_x, 0, none⟩) 16 16) (y_sloff (y_slp (ev (pt b_x 0) s2_8 rfl) evo.no evo.no Try.underlying73 CbcFT.sz5 bnd_ (by omega)) (by first | rfl | omega) rfl) ?_
     refine w_mv (ev (.string (str (Aes.enc (Aes.words key) (Oct.xor (Cb.ch key Cb.zero16 (Cb.z text) t) (Cb.bk (Cb.z text) t))))) rfl rfl) ?_
     have hx_hc := CiphAt.onward hc r_b_x (by decide) (by decide)
     refine w_copys (l := Aes.enc (Aes.words key) (Oct.xor (Cb.ch key Cb.zero16 (Cb.z text) t) (Cb.bk (Cb.z text) t))) (ev (.slice (some ⟨b_x, 0, none⟩) 16 16) rfl rfl) (ev (.string (str (Aes.enc (Aes.words key) (Oct.xor (Cb.ch key Cb.zero16 (Cb.z text) t) (Cb.bk (Cb.z text) t))))) rfl rfl) Try.underlying54 CbcFT.sz5 r_b_x (by omega) ?_
     clear r_b_x; intro w17 r_b_x hg18 _
     replace hk := thenG hk hg18 (by omega)
     replace hc := hx_hc _ hg18
     refine wpList_nil ?_
     refine inb_n ?_
     refine then_n ?_
     refine wp_region_lit ?_
     refine w_mv (ev (.int .i64 (((16 * t) : Nat) : Int)) s2_9 rfl) ?_
     refine w_val (y_bin (ev (.int .i64 (((16 * t) : Nat) : Int)) rfl rfl) (evc (.int .i64 16)) (b_add (by omega))) ?_
     refine w_as (ev (.int .i64 ((((16 * t) : Nat) : Int) + 16)) rfl rfl) ?_
     refine wpList_nil ?_
     exact then_n ⟨_, (by omega), t + 1, rfl, _, rfl, iv, s2_0, s2_1, s2_4, s2_5, s2_6, s2_7, s2_8, (etv (b := .int .i64 ((((16 * t) : Nat) : Int) + 16)) rfl), (r_b_x.congr (fun j hj => by (try dsimp only); rw [if_pos (by omega), Nat.sub_zero]; rfl)), hc, hk⟩
  ·skip
   refine wp_exit ?_
   refine then_x ?_
   refine then_x ?_
   refine inb_x ?_
   refine then_n ?_
   refine wp_seq ?_
   have hxl := hle t
   refine wp_region_lit ?_
   refine w_val (v := .slice (some ⟨b_x, 0, none⟩) 16 16) (y_sloff (y_slp (ev (pt b_x 0) s1_8 rfl) evo.no evo.no Try.underlying73 CbcFT.sz5 bnd_ (by omega)) (by first | rfl | omega) rfl) ?_
   refine w_val (y_str (l := Cb.ch key Cb.zero16 (Cb.z text) t) (ev (.slice (some ⟨b_x, 0, none⟩) 16 16) rfl rfl) (by first | rfl | assumption | (simp; omega) | omega) Try.underlying54 Try.underlying5 Try.underlying9 (fun j hj => by rw [Nat.zero_add]; exact (r_b_x.cell (by omega)))) ?_
   refine w_as (ev (.string (str (Cb.ch key Cb.zero16 (Cb.z text) t))) rfl rfl) ?_
   refine w_as (evc (.int .i64 0)) ?_
   refine nt ?_
   refine wp_ret ?_
   refine fin_ret2 rfl (ev (.string (str (Cb.ch key Cb.zero16 (Cb.z text) t))) rfl rfl) (ev (.int .i64 0) rfl rfl) ?_
   refine ⟨congrArg Ending.returned ?_, hk⟩
   show (.tuple #[.string (str (Cb.ch key Cb.zero16 (Cb.z text) t)), .int .i64 0] : Value) = .tuple #[.string (str (Cb.mac key text)), .int .i64 0]
   rw [show t = (text.length + 15) / 16 from by omega]; rfl

set_option maxRecDepth 100000 in
set_option maxHeartbeats 1000000 in
theorem refMac_0 (key : List (BitVec 8)) (hok : Aes.okKey key.length) (text : List (BitVec 8)) (h0 : text.length = 0) (w0 : World) : Calls Try.prog 33 #[.string (str key), .string (str text)] w0 fun e w' => e = .returned (.tuple #[.string (str (Cb.mac key text)), .int .i64 0]) ∧ Below w0.heap.size w0 w' := by
 have hle := fun t => Cb.ch_len key Cb.zero16 (Cb.z text) hok rfl t
 have hzl : (Cb.z text).length = text.length + (16 - text.length % 16) % 16 := Cb.z_len text
 refine enter (n := 48) Try.func33 rfl rfl rfl ?_
 have hk : Below w0.heap.size w0 w0 := Below.refl _ _
 refine sr ?_
 refine w_as (evc (.string (str ([] : List (BitVec 8))))) ?_
 refine w_as (evc (.int .i64 0)) ?_
 refine nt ?_
 refine wp_seq ?_
 refine sr ?_
 refine w_mv (ev (.string (str key)) rfl rfl) ?_
 refine w_call (Try.func64) (by kernel_rfl) rfl (m1 (ev (.string (str key)) rfl rfl)) (right_l key w0 hok) ?_
 rintro _ _ ⟨rfl, rfl⟩
 refine ⟨_, rfl, ?_⟩
 refine w_val (y_not (ev (.bool true) rfl rfl)) ?_
 refine nt ?_
 refine c_ff (ev (.bool false) rfl rfl) ?_
 refine wp_skip ?_
 refine then_n ?_
 refine wp_seq ?_
 refine sr ?_
 refine w_mv (ev (.string (str text)) rfl rfl) ?_
 refine w_val (y_len (ev (.string (str text)) rfl rfl) Try.underlying9) ?_
 refine w_val (y_bin (ev (.int .i64 ((text.length : Nat) : Int)) rfl rfl) (evc (.int .i64 140000)) b_gtr) ?_
 refine nt ?_
 have hc2 : ¬ (140000 < ((text.length : Nat) : Int)) := by omega
 refine c_f (p := 140000 < ((text.length : Nat) : Int)) (ev (.bool (decide (140000 < ((text.length : Nat) : Int)))) rfl rfl) hc2 ?_
 refine wp_skip ?_
 refine then_n ?_
 refine sr ?_
 refine w_mv (ev (.string (str text)) rfl rfl) ?_
 refine w_bytes_own (ev (.string (str text)) rfl rfl) Try.underlying9 Try.underlying54 Try.underlying5 (by simp only [maxLen]; omega) hk.size ?_
 intro v3 w4 o_v3 hv6 hb5
 replace hk := thenB hk hb5
 refine w_as (ev v3 rfl rfl) ?_
 refine nt ?_
 refine wp_seq ?_
 refine wp_block ?_
 refine c_loop (fun dN aN wl => ∃ (m : Nat) (vo : Value), dN = (16 - m) ∧ ∃ f7, aN = fr 48 f7 ∧ (m ≤ (16 - text.length % 16) % 16) ∧ f7 0 = .string (str key) ∧ f7 1 = .string (str text) ∧ f7 4 = .string (str ([] : List (BitVec 8))) ∧ f7 5 = .int .i64 0 ∧ f7 6 = vo ∧ Own wl w0.heap.size 5 1 vo (text.length + m) (fun j => U8 (gb text j)) ∧ Below w0.heap.size w0 wl) (16 - 0) ?_ ?_
 · exact ⟨0, v3, rfl, _, rfl, iv, rfl, rfl, rfl, rfl, (etv (b := v3) rfl), (own_n (o_v3.cg) (by omega)), hk⟩
 ·skip
  clear o_v3 hk
  rintro _ _ w8 ⟨m, vo, rfl, f7, rfl, i1_0, s1_0, s1_1, s1_4, s1_5, s1_6, o_vo, hk⟩
  refine wp_seq ?_
  refine sr ?_
  refine w_mv (ev vo s1_6 rfl) ?_
  refine w_val (v := .int .i64 (((text.length + m) : Nat) : Int)) (y_len_own (ev vo rfl rfl) o_vo Try.underlying54) ?_
  refine w_val (y_bin (ev (.int .i64 (((text.length + m) : Nat) : Int)) rfl rfl) (evc (.int .i64 16)) (b_rem (by omega))) ?_
  refine w_val (y_bin (ev (.int .i64 ((((text.length + m) : Nat) : Int) % 16)) rfl rfl) (evc (.int .i64 0)) b_neq) ?_
  refine nt ?_
  refine c_if (p := ((((text.length + m) : Nat) : Int) % 16) ≠ 0) (ev (.bool (decide (((((text.length + m) : Nat) : Int) % 16) ≠ 0))) rfl rfl) (fun hc9 => ?_) (fun hc9 => ?_)
  ·skip
   refine wp_skip ?_
   refine then_n ?_
   refine wp_block ?_
   refine wp_region_lit ?_
   refine w_mv (ev vo s1_6 rfl) ?_
   refine w_bs1 (m := 1) (e := 5) (F := fun j => U8 (0#8)) (evc (U8 (0#8))) (fun w => by kernel_rfl) ?_
   intro b_24 w10 hbe_b_24 r_b_24 hb11
   have no_vo_b_24 : vo.ownBlock ≠ some b_24 := o_vo.apart (by omega)
   have ge_b_24 : w0.heap.size ≤ b_24 := by have := hk.size; omega
   clear hbe_b_24
   replace o_vo := o_vo.step hb11
   replace hk := thenB hk hb11
   refine w_app (k := (text.length + m)) (m := 1) (size := 1) (bytes := 1) (ev vo rfl rfl) (ev (.slice (some ⟨b_24, 0, none⟩) 1 1) rfl rfl) Try.underlying54 (by kernel_rfl) (by decide) o_vo hk.size r_b_24 (by omega) oca (by simp only [maxLen]; omega) (by omega) ?_
   intro v12 w13 o_v12 hg14 hv15
   have no_v12_b_24 := no_new no_vo_b_24 r_b_24.lt hv15
   replace r_b_24 := r_b_24.stepO hg14 no_vo_b_24
   replace hk := thenO hk hg14 (fun g e => (o_vo.block_lt g e).2)
   clear o_vo
   refine w_as (ev v12 rfl rfl) ?_
   refine wpList_nil ?_
   refine inb_n ?_
   exact then_n ⟨_, (by omega), m + 1, v12, rfl, _, rfl, iv, s1_0, s1_1, s1_4, s1_5, rfl, (own_n (o_v12.congr (fun j hj => by (try dsimp only); by_cases e : j < (text.length + m) * 1; (rw [if_pos e]); (rw [if_neg e, gb_out text j (by omega)]))) (by omega)), hk⟩
  ·skip
   refine wp_exit ?_
   refine then_x ?_
   refine then_x ?_
   refine inb_x ?_
   refine then_n ?_
   refine sr ?_
   refine w_mv (ev (.string (str key)) s1_0 rfl) ?_
   refine w_call (Try.func56) (by kernel_rfl) rfl (m1 (ev (.string (str key)) rfl rfl)) (refNew_l key w8 hok) ?_
   rintro _ w16 ⟨bx, g, cap, rfl, hbn, hge_bx, hge_g, r_bx, r_g⟩
   refine ⟨_, rfl, ?_⟩
   have no_vo_bx : vo.ownBlock ≠ some bx := o_vo.apart (by omega)
   have ge_bx : w0.heap.size ≤ bx := by have := hk.size; omega
   have no_vo_g : vo.ownBlock ≠ some g := o_vo.apart (by omega)
   have ge_g : w0.heap.size ≤ g := by have := hk.size; omega
   replace o_vo := o_vo.step hbn
   replace hk := thenB hk hbn
   refine w_as (ev (pt bx 0) rfl rfl) ?_
   refine nt ?_
   refine sr ?_
   refine w_mks (m := 16) (bytes := 1) (zv := U8 (0#8)) (evc (.int .i64 16)) (evc (.int .i64 16)) (by omega) (by omega) Try.underlying54 (by kernel_rfl) rfl (by omega) (by omega) ?_
   intro b_28 w17 hbe_b_28 r_b_28 hb18
   have ne_bx_b_28 : bx ≠ b_28 := by have := r_bx.lt; omega
   have ne_g_b_28 : g ≠ b_28 := by have := r_g.lt; omega
   have no_vo_b_28 : vo.ownBlock ≠ some b_28 := o_vo.apart (by omega)
   have ge_b_28 : w0.heap.size ≤ b_28 := by have := hk.size; omega
   clear hbe_b_28
   replace o_vo := o_vo.step hb18
   replace r_bx := r_bx.step hb18
   replace r_g := r_g.step hb18
   replace hk := thenB hk hb18
   refine w_val (y_str (l := Cb.zero16) (ev (.slice (some ⟨b_28, 0, none⟩) 16 16) rfl rfl) (by rfl) Try.underlying54 Try.underlying5 Try.underlying9 (fun j hj => (r_b_28.val (by omega) (by exact congrArg U8 (gb_rep 16 _).symm)))) ?_
   refine w_as (ev (.string (str Cb.zero16)) rfl rfl) ?_
   refine nt ?_
   refine sr ?_
   refine w_mv (ev vo s1_6 rfl) ?_
   refine w_val (v := .string (str (Cb.z text))) (y_strown (l := Cb.z text) (ev vo rfl rfl) o_vo  (by exact (by rw [hzl]; omega)) (fun j hj => by exact (by rw [Cb.gb_z])) Try.underlying54 Try.underlying5 Try.underlying9) ?_
   refine w_call (Try.func57) (by kernel_rfl) rfl (m1 (ev (.string (str (Cb.z text))) rfl rfl)) (refBlocks_0 (Cb.z text) (by omega) w17) ?_
   rintro _ w19 ⟨rfl, hb20⟩
   refine ⟨_, rfl, ?_⟩
   replace o_vo := o_vo.step hb20
   replace r_bx := r_bx.step hb20
   replace r_g := r_g.step hb20
   replace r_b_28 := r_b_28.step hb20
   replace hk := thenB hk hb20
   refine w_as (ev (.slice none 0 0) rfl rfl) ?_
   refine nt ?_
   refine wp_seq ?_
   refine sr ?_
   refine w_as (evc (.int .i64 0)) ?_
   refine nt ?_
   refine wp_block ?_
   clear o_vo
   refine c_loop (fun dN aN wl => dN = 0 ∧ ∃ f21, aN = fr 48 f21 ∧ f21 0 = .string (str key) ∧ f21 1 = .string (str text) ∧ f21 4 = .string (str ([] : List (BitVec 8))) ∧ f21 5 = .int .i64 0 ∧ f21 6 = vo ∧ f21 7 = pt bx 0 ∧ f21 8 = .string (str Cb.zero16) ∧ f21 9 = .slice none 0 0 ∧ f21 10 = .int .i64 0 ∧ Row wl bx 99 513 (fun j => if j < 256 then U8 (Aes.sb j) else if j < 512 then U8 (Aes.bk (j - 256)) else .slice (some ⟨g, 0, none⟩) ((Aes.words key).length) cap) ∧ Row wl g 102 ((Aes.words key).length * 4) (fun j => U8 (Aes.byteOf (Aes.gw (Aes.words key) (j / 4)) (j % 4))) ∧ Below w0.heap.size w0 wl) 0 ?_ ?_
   · exact ⟨rfl, _, rfl, s1_0, s1_1, s1_4, s1_5, s1_6, rfl, rfl, rfl, rfl, r_bx, r_g, hk⟩
   ·skip
    clear r_bx r_g hk
    clear r_b_28
    rintro _ _ w22 ⟨rfl, f21, rfl, s2_0, s2_1, s2_4, s2_5, s2_6, s2_7, s2_8, s2_9, s2_10, r_bx, r_g, hk⟩
    refine wp_seq ?_
    refine sr ?_
    refine w_mv (ev (.int .i64 0) s2_10 rfl) ?_
    refine w_mv (ev (.slice none 0 0) s2_9 rfl) ?_
    refine w_val (v := .int .i64 0) (y_len_sl (ev (.slice none 0 0) rfl rfl) Try.underlying68) ?_
    refine w_val (y_bin (ev (.int .i64 0) rfl rfl) (ev (.int .i64 0) rfl rfl) b_lss) ?_
    refine nt ?_
    refine c_ff (ev (.bool false) rfl rfl) ?_
    refine wp_exit ?_
    refine then_x ?_
    refine then_x ?_
    refine inb_x ?_
    refine then_n ?_
    refine sr ?_
    refine w_mv (ev (.string (str Cb.zero16)) s2_8 rfl) ?_
    refine w_as (ev (.string (str Cb.zero16)) rfl rfl) ?_
    refine w_as (evc (.int .i64 0)) ?_
    refine nt ?_
    refine wp_ret ?_
    refine fin_ret2 rfl (ev (.string (str Cb.zero16)) rfl rfl) (ev (.int .i64 0) rfl rfl) ?_
    refine ⟨congrArg Ending.returned ?_, hk⟩
    show (.tuple #[.string (str Cb.zero16), .int .i64 0] : Value) = .tuple #[.string (str (Cb.mac key text)), .int .i64 0]
    unfold Cb.mac; rw [h0]; rfl

set_option maxRecDepth 100000 in
set_option maxHeartbeats 1000000 in
theorem refMac_y (key : List (BitVec 8)) (hok : Aes.okKey key.length) (text : List (BitVec 8)) (h0 : 0 < text.length) (hz : text.length ≤ 140000) (w0 : World) : Calls Try.prog 33 #[.string (str key), .string (str text)] w0 fun e w' => e = .returned (.tuple #[.string (str (Cb.mac key text)), .int .i64 0]) ∧ Below w0.heap.size w0 w' := by
 have hle := fun t => Cb.ch_len key Cb.zero16 (Cb.z text) hok rfl t
 have hzl : (Cb.z text).length = text.length + (16 - text.length % 16) % 16 := Cb.z_len text
 refine enter (n := 48) Try.func33 rfl rfl rfl ?_
 have hk : Below w0.heap.size w0 w0 := Below.refl _ _
 refine sr ?_
 refine w_as (evc (.string (str ([] : List (BitVec 8))))) ?_
 refine w_as (evc (.int .i64 0)) ?_
 refine nt ?_
 refine wp_seq ?_
 refine sr ?_
 refine w_mv (ev (.string (str key)) rfl rfl) ?_
 refine w_call (Try.func64) (by kernel_rfl) rfl (m1 (ev (.string (str key)) rfl rfl)) (right_l key w0 hok) ?_
 rintro _ _ ⟨rfl, rfl⟩
 refine ⟨_, rfl, ?_⟩
 refine w_val (y_not (ev (.bool true) rfl rfl)) ?_
 refine nt ?_
 refine c_ff (ev (.bool false) rfl rfl) ?_
 refine wp_skip ?_
 refine then_n ?_
 refine wp_seq ?_
 refine sr ?_
 refine w_mv (ev (.string (str text)) rfl rfl) ?_
 refine w_val (y_len (ev (.string (str text)) rfl rfl) Try.underlying9) ?_
 refine w_val (y_bin (ev (.int .i64 ((text.length : Nat) : Int)) rfl rfl) (evc (.int .i64 140000)) b_gtr) ?_
 refine nt ?_
 have hc2 : ¬ (140000 < ((text.length : Nat) : Int)) := by omega
 refine c_f (p := 140000 < ((text.length : Nat) : Int)) (ev (.bool (decide (140000 < ((text.length : Nat) : Int)))) rfl rfl) hc2 ?_
 refine wp_skip ?_
 refine then_n ?_
 refine sr ?_
 refine w_mv (ev (.string (str text)) rfl rfl) ?_
 refine w_bytes_own (ev (.string (str text)) rfl rfl) Try.underlying9 Try.underlying54 Try.underlying5 (by simp only [maxLen]; omega) hk.size ?_
 intro v3 w4 o_v3 hv6 hb5
 replace hk := thenB hk hb5
 refine w_as (ev v3 rfl rfl) ?_
 refine nt ?_
 refine wp_seq ?_
 refine wp_block ?_
 refine c_loop (fun dN aN wl => ∃ (m : Nat) (vo : Value), dN = (16 - m) ∧ ∃ f7, aN = fr 48 f7 ∧ (m ≤ (16 - text.length % 16) % 16) ∧ f7 0 = .string (str key) ∧ f7 1 = .string (str text) ∧ f7 4 = .string (str ([] : List (BitVec 8))) ∧ f7 5 = .int .i64 0 ∧ f7 6 = vo ∧ Own wl w0.heap.size 5 1 vo (text.length + m) (fun j => U8 (gb text j)) ∧ Below w0.heap.size w0 wl) (16 - 0) ?_ ?_
 · exact ⟨0, v3, rfl, _, rfl, iv, rfl, rfl, rfl, rfl, (etv (b := v3) rfl), (own_n (o_v3.cg) (by omega)), hk⟩
 ·skip
  clear o_v3 hk
  rintro _ _ w8 ⟨m, vo, rfl, f7, rfl, i1_0, s1_0, s1_1, s1_4, s1_5, s1_6, o_vo, hk⟩
  refine wp_seq ?_
  refine sr ?_
  refine w_mv (ev vo s1_6 rfl) ?_
  refine w_val (v := .int .i64 (((text.length + m) : Nat) : Int)) (y_len_own (ev vo rfl rfl) o_vo Try.underlying54) ?_
  refine w_val (y_bin (ev (.int .i64 (((text.length + m) : Nat) : Int)) rfl rfl) (evc (.int .i64 16)) (b_rem (by omega))) ?_
  refine w_val (y_bin (ev (.int .i64 ((((text.length + m) : Nat) : Int) % 16)) rfl rfl) (evc (.int .i64 0)) b_neq) ?_
  refine nt ?_
  refine c_if (p := ((((text.length + m) : Nat) : Int) % 16) ≠ 0) (ev (.bool (decide (((((text.length + m) : Nat) : Int) % 16) ≠ 0))) rfl rfl) (fun hc9 => ?_) (fun hc9 => ?_)
  ·skip
   refine wp_skip ?_
   refine then_n ?_
   refine wp_block ?_
   refine wp_region_lit ?_
   refine w_mv (ev vo s1_6 rfl) ?_
   refine w_bs1 (m := 1) (e := 5) (F := fun j => U8 (0#8)) (evc (U8 (0#8))) (fun w => by kernel_rfl) ?_
   intro b_24 w10 hbe_b_24 r_b_24 hb11
   have no_vo_b_24 : vo.ownBlock ≠ some b_24 := o_vo.apart (by omega)
   have ge_b_24 : w0.heap.size ≤ b_24 := by have := hk.size; omega
   clear hbe_b_24
   replace o_vo := o_vo.step hb11
   replace hk := thenB hk hb11
   refine w_app (k := (text.length + m)) (m := 1) (size := 1) (bytes := 1) (ev vo rfl rfl) (ev (.slice (some ⟨b_24, 0, none⟩) 1 1) rfl rfl) Try.underlying54 (by kernel_rfl) (by decide) o_vo hk.size r_b_24 (by omega) oca (by simp only [maxLen]; omega) (by omega) ?_
   intro v12 w13 o_v12 hg14 hv15
   have no_v12_b_24 := no_new no_vo_b_24 r_b_24.lt hv15
   replace r_b_24 := r_b_24.stepO hg14 no_vo_b_24
   replace hk := thenO hk hg14 (fun g e => (o_vo.block_lt g e).2)
   clear o_vo
   refine w_as (ev v12 rfl rfl) ?_
   refine wpList_nil ?_
   refine inb_n ?_
   exact then_n ⟨_, (by omega), m + 1, v12, rfl, _, rfl, iv, s1_0, s1_1, s1_4, s1_5, rfl, (own_n (o_v12.congr (fun j hj => by (try dsimp only); by_cases e : j < (text.length + m) * 1; (rw [if_pos e]); (rw [if_neg e, gb_out text j (by omega)]))) (by omega)), hk⟩
  ·skip
   refine wp_exit ?_
   refine then_x ?_
   refine then_x ?_
   refine inb_x ?_
   refine then_n ?_
   refine sr ?_
   refine w_mv (ev (.string (str key)) s1_0 rfl) ?_
   refine w_call (Try.func56) (by kernel_rfl) rfl (m1 (ev (.string (str key)) rfl rfl)) (refNew_l key w8 hok) ?_
   rintro _ w16 ⟨bx, g, cap, rfl, hbn, hge_bx, hge_g, r_bx, r_g⟩
   refine ⟨_, rfl, ?_⟩
   have no_vo_bx : vo.ownBlock ≠ some bx := o_vo.apart (by omega)
   have ge_bx : w0.heap.size ≤ bx := by have := hk.size; omega
   have no_vo_g : vo.ownBlock ≠ some g := o_vo.apart (by omega)
   have ge_g : w0.heap.size ≤ g := by have := hk.size; omega
   replace o_vo := o_vo.step hbn
   replace hk := thenB hk hbn
   refine w_as (ev (pt bx 0) rfl rfl) ?_
   refine nt ?_
   refine sr ?_
   refine w_mks (m := 16) (bytes := 1) (zv := U8 (0#8)) (evc (.int .i64 16)) (evc (.int .i64 16)) (by omega) (by omega) Try.underlying54 (by kernel_rfl) rfl (by omega) (by omega) ?_
   intro b_28 w17 hbe_b_28 r_b_28 hb18
   have ne_bx_b_28 : bx ≠ b_28 := by have := r_bx.lt; omega
   have ne_g_b_28 : g ≠ b_28 := by have := r_g.lt; omega
   have no_vo_b_28 : vo.ownBlock ≠ some b_28 := o_vo.apart (by omega)
   have ge_b_28 : w0.heap.size ≤ b_28 := by have := hk.size; omega
   clear hbe_b_28
   replace o_vo := o_vo.step hb18
   replace r_bx := r_bx.step hb18
   replace r_g := r_g.step hb18
   replace hk := thenB hk hb18
   refine w_val (y_str (l := Cb.zero16) (ev (.slice (some ⟨b_28, 0, none⟩) 16 16) rfl rfl) (by rfl) Try.underlying54 Try.underlying5 Try.underlying9 (fun j hj => (r_b_28.val (by omega) (by exact congrArg U8 (gb_rep 16 _).symm)))) ?_
   refine w_as (ev (.string (str Cb.zero16)) rfl rfl) ?_
   refine nt ?_
   refine sr ?_
   refine w_mv (ev vo s1_6 rfl) ?_
   refine w_val (v := .string (str (Cb.z text))) (y_strown (l := Cb.z text) (ev vo rfl rfl) o_vo  (by exact (by rw [hzl]; omega)) (fun j hj => by exact (by rw [Cb.gb_z])) Try.underlying54 Try.underlying5 Try.underlying9) ?_
   refine w_call (Try.func57) (by kernel_rfl) rfl (m1 (ev (.string (str (Cb.z text))) rfl rfl)) (refBlocks_y (Cb.z text) (by omega) (by omega) w17) ?_
   rintro _ w19 ⟨lb, capl, rfl, hge_lb, r_lb, hbl⟩
   refine ⟨_, rfl, ?_⟩
   have ne_bx_lb : bx ≠ lb := by have := r_bx.lt; omega
   have ne_g_lb : g ≠ lb := by have := r_g.lt; omega
   have ne_b_28_lb : b_28 ≠ lb := by have := r_b_28.lt; omega
   have no_vo_lb : vo.ownBlock ≠ some lb := o_vo.apart (by omega)
   have ge_lb : w0.heap.size ≤ lb := by have := hk.size; omega
   replace o_vo := o_vo.step hbl
   replace r_bx := r_bx.step hbl
   replace r_g := r_g.step hbl
   replace r_b_28 := r_b_28.step hbl
   replace hk := thenB hk hbl
   refine w_as (ev (.slice (some ⟨lb, 0, none⟩) ((Cb.z text).length / 16) capl) rfl rfl) ?_
   refine nt ?_
   refine wp_seq ?_
   refine sr ?_
   refine w_as (evc (.int .i64 0)) ?_
   refine nt ?_
   refine wp_block ?_
   clear o_vo
   refine c_loop (fun dN aN wl => ∃ (t : Nat), dN = ((Cb.z text).length / 16 - t) ∧ ∃ f20, aN = fr 48 f20 ∧ (t ≤ (Cb.z text).length / 16) ∧ f20 0 = .string (str key) ∧ f20 1 = .string (str text) ∧ f20 4 = .string (str ([] : List (BitVec 8))) ∧ f20 5 = .int .i64 0 ∧ f20 6 = vo ∧ f20 7 = pt bx 0 ∧ f20 8 = .string (str (Cb.ch key Cb.zero16 (Cb.z text) t)) ∧ f20 9 = .slice (some ⟨lb, 0, none⟩) ((Cb.z text).length / 16) capl ∧ f20 10 = .int .i64 ((t : Nat) : Int) ∧ Row wl bx 99 513 (fun j => if j < 256 then U8 (Aes.sb j) else if j < 512 then U8 (Aes.bk (j - 256)) else .slice (some ⟨g, 0, none⟩) ((Aes.words key).length) cap) ∧ Row wl g 102 ((Aes.words key).length * 4) (fun j => U8 (Aes.byteOf (Aes.gw (Aes.words key) (j / 4)) (j % 4))) ∧ Row wl b_28 5 16 (fun j => U8 (0#8)) ∧ Row wl lb 9 ((Cb.z text).length / 16 * 1) (fun j => .string (str (Cb.bk (Cb.z text) j))) ∧ Below w0.heap.size w0 wl) ((Cb.z text).length / 16 - 0) ?_ ?_
   · exact ⟨0, rfl, _, rfl, iv, s1_0, s1_1, s1_4, s1_5, s1_6, rfl, (Eq.trans (b := .string (str Cb.zero16)) rfl (by rfl)), rfl, (Eq.trans (b := .int .i64 0) rfl (by rfl)), r_bx, r_g, r_b_28, r_lb, hk⟩
   ·skip
    clear r_bx r_g r_b_28 r_lb hk
    rintro _ _ w21 ⟨t, rfl, f20, rfl, i2_0, s2_0, s2_1, s2_4, s2_5, s2_6, s2_7, s2_8, s2_9, s2_10, r_bx, r_g, r_b_28, r_lb, hk⟩
    refine wp_seq ?_
    refine sr ?_
    refine w_mv (ev (.int .i64 ((t : Nat) : Int)) s2_10 rfl) ?_
    refine w_mv (ev (.slice (some ⟨lb, 0, none⟩) ((Cb.z text).length / 16) capl) s2_9 rfl) ?_
    refine w_val (v := .int .i64 ((((Cb.z text).length / 16) : Nat) : Int)) (y_len_sl (ev (.slice (some ⟨lb, 0, none⟩) ((Cb.z text).length / 16) capl) rfl rfl) Try.underlying68) ?_
    refine w_val (y_bin (ev (.int .i64 ((t : Nat) : Int)) rfl rfl) (ev (.int .i64 ((((Cb.z text).length / 16) : Nat) : Int)) rfl rfl) b_lss) ?_
    refine nt ?_
    refine c_if (p := ((t : Nat) : Int) < ((((Cb.z text).length / 16) : Nat) : Int)) (ev (.bool (decide (((t : Nat) : Int) < ((((Cb.z text).length / 16) : Nat) : Int)))) rfl rfl) (fun hc22 => ?_) (fun hc22 => ?_)
    ·skip
     refine wp_skip ?_
     refine then_n ?_
     refine wp_seq ?_
     refine wp_block ?_
     refine wp_region_lit ?_
     refine w_mv (ev (pt bx 0) s2_7 rfl) ?_
     refine w_mv (ev (.string (str (Cb.ch key Cb.zero16 (Cb.z text) t))) s2_8 rfl) ?_
     refine w_mv (ev (.slice (some ⟨lb, 0, none⟩) ((Cb.z text).length / 16) capl) s2_9 rfl) ?_
     refine w_mv (ev (.int .i64 ((t : Nat) : Int)) s2_10 rfl) ?_
     refine w_val (y_is1z (i := t) (ev (.slice (some ⟨lb, 0, none⟩) ((Cb.z text).length / 16) capl) rfl rfl) (ev (.int .i64 ((t : Nat) : Int)) rfl rfl) Try.underlying68 CbcFT.sz9 (by omega) (by omega)) ?_
     refine w_val (v := .string (str (Cb.bk (Cb.z text) t))) (y_ld (ev (pt lb t) rfl rfl) CbcFT.sc9 (r_lb.val (by omega) rfl)) ?_
     refine w_call (Try.func59) (by kernel_rfl) rfl (m2 (ev (.string (str (Cb.ch key Cb.zero16 (Cb.z text) t))) rfl rfl) (ev (.string (str (Cb.bk (Cb.z text) t))) rfl rfl)) (refXor_c (Cb.ch key Cb.zero16 (Cb.z text) t) (Cb.bk (Cb.z text) t) (by rw [hle]; omega) w21) ?_
     rintro _ w23 ⟨rfl, hb24⟩
     refine ⟨_, rfl, ?_⟩
     replace r_bx := r_bx.step hb24
     replace r_g := r_g.step hb24
     replace r_b_28 := r_b_28.step hb24
     replace r_lb := r_lb.step hb24
     replace hk := thenB hk hb24
     refine w_call (Try.func58) (by kernel_rfl) rfl (m2 (ev (pt bx 0) rfl rfl) (ev (.string (str (Oct.xor (Cb.ch key Cb.zero16 (Cb.z text) t) (Cb.bk (Cb.z text) t)))) rfl rfl)) (refEnc_l bx g cap key (Oct.xor (Cb.ch key Cb.zero16 (Cb.z text) t) (Cb.bk (Cb.z text) t)) w23 hok (by rw [Oct.length_xor, hle, Cb.bk_len _ _ (by omega)]; rfl) r_bx r_g) ?_
     rintro _ w25 ⟨rfl, hb26⟩
     refine ⟨_, rfl, ?_⟩
     replace r_bx := r_bx.step hb26
     replace r_g := r_g.step hb26
     replace r_b_28 := r_b_28.step hb26
     replace r_lb := r_lb.step hb26
     replace hk := thenB hk hb26
     refine w_as (ev (.string (str (Aes.enc (Aes.words key) (Oct.xor (Cb.ch key Cb.zero16 (Cb.z text) t) (Cb.bk (Cb.z text) t))))) rfl rfl) ?_
     refine wpList_nil ?_
     refine inb_n ?_
     refine then_n ?_
     refine wp_region_lit ?_
     refine w_mv (ev (.int .i64 ((t : Nat) : Int)) s2_10 rfl) ?_
     refine w_val (y_bin (ev (.int .i64 ((t : Nat) : Int)) rfl rfl) (evc (.int .i64 1)) (b_add (by omega))) ?_
     refine w_as (ev (.int .i64 (((t : Nat) : Int) + 1)) rfl rfl) ?_
     refine wpList_nil ?_
     exact then_n ⟨_, (by omega), t + 1, rfl, _, rfl, iv, s2_0, s2_1, s2_4, s2_5, s2_6, s2_7, (Eq.trans (b := .string (str (Aes.enc (Aes.words key) (Oct.xor (Cb.ch key Cb.zero16 (Cb.z text) t) (Cb.bk (Cb.z text) t))))) rfl (by rfl)), s2_9, (etv (b := .int .i64 (((t : Nat) : Int) + 1)) rfl), r_bx, r_g, r_b_28, r_lb, hk⟩
    ·skip
     refine wp_exit ?_
     refine then_x ?_
     refine then_x ?_
     refine inb_x ?_
     refine then_n ?_
     refine sr ?_
     refine w_mv (ev (.string (str (Cb.ch key Cb.zero16 (Cb.z text) t))) s2_8 rfl) ?_
     refine w_as (ev (.string (str (Cb.ch key Cb.zero16 (Cb.z text) t))) rfl rfl) ?_
     refine w_as (evc (.int .i64 0)) ?_
     refine nt ?_
     refine wp_ret ?_
     refine fin_ret2 rfl (ev (.string (str (Cb.ch key Cb.zero16 (Cb.z text) t))) rfl rfl) (ev (.int .i64 0) rfl rfl) ?_
     refine ⟨congrArg Ending.returned ?_, hk⟩
     show (.tuple #[.string (str (Cb.ch key Cb.zero16 (Cb.z text) t)), .int .i64 0] : Value) = .tuple #[.string (str (Cb.mac key text)), .int .i64 0]
     rw [show t = (text.length + 15) / 16 from by omega]; rfl
end Go.Proofs.Ytjdcpejcnmpiaaa
