/-
  Chains of blocks: the program's inner functions. Conditions as each says.
-/
import Derived.Test.YtjdcpejcnmpiaaaRows
import Derived.Test.YtjdcpejcnmpiaaaCbcA
import Derived.Test.YtjdcpejcnmpiaaaOctW
import Derived.ProofKit
namespace Go.Proofs.Ytjdcpejcnmpiaaa
open Go.RowKit
set_option linter.unusedSimpArgs false
set_option linter.unusedVariables false
namespace CbcBT
theorem mixed : Try.prog.follows .mixedOrders = true := by kernel_rfl
theorem so3 : (Try.prog.underlying 3).isSome = true := by rw [Try.underlying3]; rfl
theorem so5 : (Try.prog.underlying 5).isSome = true := by rw [Try.underlying5]; rfl
end CbcBT
set_option maxRecDepth 100000 in
set_option maxHeartbeats 1000000 in
theorem ready_k (key vi : List (BitVec 8)) (hok : ¬ Aes.okKey key.length) (w0 : World) : Calls Try.prog 53 #[.string (str key), .string (str vi)] w0 fun e w' => e = .returned (.tuple #[.pointer none, .int .i64 3]) ∧ Below w0.heap.size w0 w' := by
 refine enter (n := 20) Try.func53 rfl rfl rfl ?_
 have hk : Below w0.heap.size w0 w0 := Below.refl _ _
 refine sr ?_
 refine w_as (evc (.pointer none)) ?_
 refine w_as (evc (.int .i64 0)) ?_
 refine nt ?_
 refine sr ?_
 refine w_mv (ev (.string (str key)) rfl rfl) ?_
 refine w_call (Try.func62) (by kernel_rfl) rfl (m1 (ev (.string (str key)) rfl rfl)) (new_l_no key w0 hok) ?_
 rintro _ _ ⟨rfl, rfl⟩
 refine ⟨_, rfl, ?_⟩
 refine w_mv (ev (.tuple #[.pointer none, .int .i64 3]) rfl rfl) ?_
 refine w_val (y_ext (v := .pointer none) (ev (.tuple #[.pointer none, .int .i64 3]) rfl rfl) rfl) ?_
 refine w_val (y_ext (v := .int .i64 3) (ev (.tuple #[.pointer none, .int .i64 3]) rfl rfl) rfl) ?_
 refine w_as (ev (.pointer none) rfl rfl) ?_
 refine w_as (ev (.int .i64 3) rfl rfl) ?_
 refine nt ?_
 refine wp_seq ?_
 refine sr ?_
 refine w_mv (ev (.int .i64 3) rfl rfl) ?_
 refine w_val (y_bin (ev (.int .i64 3) rfl rfl) (evc (.int .i64 0)) b_neq) ?_
 refine nt ?_
 refine c_tt (ev (.bool true) rfl rfl) ?_
 refine sr ?_
 refine w_mv (ev (.int .i64 3) rfl rfl) ?_
 refine w_as (evc (.pointer none)) ?_
 refine w_as (ev (.int .i64 3) rfl rfl) ?_
 refine nt ?_
 refine wp_ret ?_
 refine then_r ?_
 refine fin_ret2 rfl (ev (.pointer none) rfl rfl) (ev (.int .i64 3) rfl rfl) ?_
 exact ⟨rfl, hk⟩

set_option maxRecDepth 100000 in
set_option maxHeartbeats 1000000 in
theorem ready_i (key vi : List (BitVec 8)) (hok : Aes.okKey key.length) (hiv : vi.length ≠ 16) (w0 : World) : Calls Try.prog 53 #[.string (str key), .string (str vi)] w0 fun e w' => e = .returned (.tuple #[.pointer none, .int .i64 4]) ∧ Below w0.heap.size w0 w' := by
 refine enter (n := 20) Try.func53 rfl rfl rfl ?_
 have hk : Below w0.heap.size w0 w0 := Below.refl _ _
 refine sr ?_
 refine w_as (evc (.pointer none)) ?_
 refine w_as (evc (.int .i64 0)) ?_
 refine nt ?_
 refine sr ?_
 refine w_mv (ev (.string (str key)) rfl rfl) ?_
 refine w_call (Try.func62) (by kernel_rfl) rfl (m1 (ev (.string (str key)) rfl rfl)) (new_l key w0 hok) ?_
 rintro _ w1 ⟨p, rfl, hge_p, hc, hb_p⟩
 refine ⟨_, rfl, ?_⟩
 have ge_p : w0.heap.size ≤ p := by have := hk.size; omega
 replace hk := thenB hk hb_p
 refine w_mv (ev (.tuple #[pt p 0, .int .i64 0]) rfl rfl) ?_
 refine w_val (y_ext (v := pt p 0) (ev (.tuple #[pt p 0, .int .i64 0]) rfl rfl) rfl) ?_
 refine w_val (y_ext (v := .int .i64 0) (ev (.tuple #[pt p 0, .int .i64 0]) rfl rfl) rfl) ?_
 refine w_as (ev (pt p 0) rfl rfl) ?_
 refine w_as (ev (.int .i64 0) rfl rfl) ?_
 refine nt ?_
 refine wp_seq ?_
 refine sr ?_
 refine w_mv (ev (.int .i64 0) rfl rfl) ?_
 refine w_val (y_bin (ev (.int .i64 0) rfl rfl) (evc (.int .i64 0)) b_neq) ?_
 refine nt ?_
 refine c_ff (ev (.bool false) rfl rfl) ?_
 refine wp_skip ?_
 refine then_n ?_
 refine wp_seq ?_
 refine sr ?_
 refine w_mv (ev (.string (str vi)) rfl rfl) ?_
 refine w_val (y_len (ev (.string (str vi)) rfl rfl) Try.underlying9) ?_
 refine w_val (y_bin (ev (.int .i64 ((vi.length : Nat) : Int)) rfl rfl) (evc (.int .i64 16)) b_neq) ?_
 refine nt ?_
 have hc2 : ((vi.length : Nat) : Int) ≠ 16 := by omega
 refine c_t (p := ((vi.length : Nat) : Int) ≠ 16) (ev (.bool (decide (((vi.length : Nat) : Int) ≠ 16))) rfl rfl) hc2 ?_
 refine sr ?_
 refine w_as (evc (.pointer none)) ?_
 refine w_as (evc (.int .i64 4)) ?_
 refine nt ?_
 refine wp_ret ?_
 refine then_r ?_
 refine fin_ret2 rfl (ev (.pointer none) rfl rfl) (ev (.int .i64 4) rfl rfl) ?_
 exact ⟨rfl, hk⟩

set_option maxRecDepth 100000 in
set_option maxHeartbeats 1000000 in
theorem ready_y (key vi : List (BitVec 8)) (hok : Aes.okKey key.length) (hiv : vi.length = 16) (w0 : World) : Calls Try.prog 53 #[.string (str key), .string (str vi)] w0 fun e w' => ∃ b, e = .returned (.tuple #[.pointer (some ⟨b, 0, none⟩), .int .i64 0]) ∧ w0.heap.size ≤ b ∧ CiphAt Aes.bk Aes.undo w' b (Aes.words key) ∧ Below w0.heap.size w0 w' := by
 refine enter (n := 20) Try.func53 rfl rfl rfl ?_
 have hk : Below w0.heap.size w0 w0 := Below.refl _ _
 refine sr ?_
 refine w_as (evc (.pointer none)) ?_
 refine w_as (evc (.int .i64 0)) ?_
 refine nt ?_
 refine sr ?_
 refine w_mv (ev (.string (str key)) rfl rfl) ?_
 refine w_call (Try.func62) (by kernel_rfl) rfl (m1 (ev (.string (str key)) rfl rfl)) (new_l key w0 hok) ?_
 rintro _ w1 ⟨p, rfl, hge_p, hc, hb_p⟩
 refine ⟨_, rfl, ?_⟩
 have ge_p : w0.heap.size ≤ p := by have := hk.size; omega
 replace hk := thenB hk hb_p
 refine w_mv (ev (.tuple #[pt p 0, .int .i64 0]) rfl rfl) ?_
 refine w_val (y_ext (v := pt p 0) (ev (.tuple #[pt p 0, .int .i64 0]) rfl rfl) rfl) ?_
 refine w_val (y_ext (v := .int .i64 0) (ev (.tuple #[pt p 0, .int .i64 0]) rfl rfl) rfl) ?_
 refine w_as (ev (pt p 0) rfl rfl) ?_
 refine w_as (ev (.int .i64 0) rfl rfl) ?_
 refine nt ?_
 refine wp_seq ?_
 refine sr ?_
 refine w_mv (ev (.int .i64 0) rfl rfl) ?_
 refine w_val (y_bin (ev (.int .i64 0) rfl rfl) (evc (.int .i64 0)) b_neq) ?_
 refine nt ?_
 refine c_ff (ev (.bool false) rfl rfl) ?_
 refine wp_skip ?_
 refine then_n ?_
 refine wp_seq ?_
 refine sr ?_
 refine w_mv (ev (.string (str vi)) rfl rfl) ?_
 refine w_val (y_len (ev (.string (str vi)) rfl rfl) Try.underlying9) ?_
 refine w_val (y_bin (ev (.int .i64 ((vi.length : Nat) : Int)) rfl rfl) (evc (.int .i64 16)) b_neq) ?_
 refine nt ?_
 have hc2 : ¬ (((vi.length : Nat) : Int) ≠ 16) := by omega
 refine c_f (p := ((vi.length : Nat) : Int) ≠ 16) (ev (.bool (decide (((vi.length : Nat) : Int) ≠ 16))) rfl rfl) hc2 ?_
 refine wp_skip ?_
 refine then_n ?_
 refine sr ?_
 refine w_mv (ev (pt p 0) rfl rfl) ?_
 refine w_as (ev (pt p 0) rfl rfl) ?_
 refine w_as (evc (.int .i64 0)) ?_
 refine nt ?_
 refine wp_ret ?_
 refine fin_ret2 rfl (ev (pt p 0) rfl rfl) (ev (.int .i64 0) rfl rfl) ?_
 exact ⟨p, rfl, ge_p, hc, hk⟩

set_option maxRecDepth 100000 in
set_option maxHeartbeats 1000000 in
theorem refWrong_k (key vi : List (BitVec 8)) (hok : ¬ Aes.okKey key.length) (w0 : World) : Calls Try.prog 55 #[.string (str key), .string (str vi)] w0 fun e w' => e = .returned (.int .i64 3) ∧ Below w0.heap.size w0 w' := by
 refine enter (n := 11) Try.func55 rfl rfl rfl ?_
 have hk : Below w0.heap.size w0 w0 := Below.refl _ _
 refine sr ?_
 refine w_as (evc (.int .i64 0)) ?_
 refine nt ?_
 refine wp_seq ?_
 refine sr ?_
 refine w_mv (ev (.string (str key)) rfl rfl) ?_
 refine w_call (Try.func64) (by kernel_rfl) rfl (m1 (ev (.string (str key)) rfl rfl)) (right_l_no key w0 hok) ?_
 rintro _ _ ⟨rfl, rfl⟩
 refine ⟨_, rfl, ?_⟩
 refine w_val (y_not (ev (.bool false) rfl rfl)) ?_
 refine nt ?_
 refine c_tt (ev (.bool true) rfl rfl) ?_
 refine sr ?_
 refine w_as (evc (.int .i64 3)) ?_
 refine nt ?_
 refine wp_ret ?_
 refine then_r ?_
 refine fin_ret1 rfl (ev (.int .i64 3) rfl rfl) ?_
 exact ⟨rfl, hk⟩

set_option maxRecDepth 100000 in
set_option maxHeartbeats 1000000 in
theorem refWrong_i (key vi : List (BitVec 8)) (hok : Aes.okKey key.length) (hiv : vi.length ≠ 16) (w0 : World) : Calls Try.prog 55 #[.string (str key), .string (str vi)] w0 fun e w' => e = .returned (.int .i64 4) ∧ Below w0.heap.size w0 w' := by
 refine enter (n := 11) Try.func55 rfl rfl rfl ?_
 have hk : Below w0.heap.size w0 w0 := Below.refl _ _
 refine sr ?_
 refine w_as (evc (.int .i64 0)) ?_
 refine nt ?_
 refine wp_seq ?_
 refine sr ?_
 refine w_mv (ev (.string (str key)) rfl rfl) ?_
 refine w_call (Try.func64) (by kernel_rfl) rfl (m1 (ev (.string (str key)) rfl rfl)) (right_l key w0 hok) ?_
 rintro _ _ ⟨rfl, rfl⟩
 refine ⟨_, rfl, ?_⟩
 refine w_val (y_not (ev (.bool true) rfl rfl)) ?_
 refine nt ?_
 refine c_ff (ev (.bool false) rfl rfl) ?_
 refine wp_skip ?_
 refine then_n ?_
 refine wp_seq ?_
 refine sr ?_
 refine w_mv (ev (.string (str vi)) rfl rfl) ?_
 refine w_val (y_len (ev (.string (str vi)) rfl rfl) Try.underlying9) ?_
 refine w_val (y_bin (ev (.int .i64 ((vi.length : Nat) : Int)) rfl rfl) (evc (.int .i64 16)) b_neq) ?_
 refine nt ?_
 have hc2 : ((vi.length : Nat) : Int) ≠ 16 := by omega
 refine c_t (p := ((vi.length : Nat) : Int) ≠ 16) (ev (.bool (decide (((vi.length : Nat) : Int) ≠ 16))) rfl rfl) hc2 ?_
 refine sr ?_
 refine w_as (evc (.int .i64 4)) ?_
 refine nt ?_
 refine wp_ret ?_
 refine then_r ?_
 refine fin_ret1 rfl (ev (.int .i64 4) rfl rfl) ?_
 exact ⟨rfl, hk⟩

set_option maxRecDepth 100000 in
set_option maxHeartbeats 1000000 in
theorem refWrong_y (key vi : List (BitVec 8)) (hok : Aes.okKey key.length) (hiv : vi.length = 16) (w0 : World) : Calls Try.prog 55 #[.string (str key), .string (str vi)] w0 fun e w' => e = .returned (.int .i64 0) ∧ Below w0.heap.size w0 w' := by
 refine enter (n := 11) Try.func55 rfl rfl rfl ?_
 have hk : Below w0.heap.size w0 w0 := Below.refl _ _
 refine sr ?_
 refine w_as (evc (.int .i64 0)) ?_
 refine nt ?_
 refine wp_seq ?_
 refine sr ?_
 refine w_mv (ev (.string (str key)) rfl rfl) ?_
 refine w_call (Try.func64) (by kernel_rfl) rfl (m1 (ev (.string (str key)) rfl rfl)) (right_l key w0 hok) ?_
 rintro _ _ ⟨rfl, rfl⟩
 refine ⟨_, rfl, ?_⟩
 refine w_val (y_not (ev (.bool true) rfl rfl)) ?_
 refine nt ?_
 refine c_ff (ev (.bool false) rfl rfl) ?_
 refine wp_skip ?_
 refine then_n ?_
 refine wp_seq ?_
 refine sr ?_
 refine w_mv (ev (.string (str vi)) rfl rfl) ?_
 refine w_val (y_len (ev (.string (str vi)) rfl rfl) Try.underlying9) ?_
 refine w_val (y_bin (ev (.int .i64 ((vi.length : Nat) : Int)) rfl rfl) (evc (.int .i64 16)) b_neq) ?_
 refine nt ?_
 have hc2 : ¬ (((vi.length : Nat) : Int) ≠ 16) := by omega
 refine c_f (p := ((vi.length : Nat) : Int) ≠ 16) (ev (.bool (decide (((vi.length : Nat) : Int) ≠ 16))) rfl rfl) hc2 ?_
 refine wp_skip ?_
 refine then_n ?_
 refine sr ?_
 refine w_as (evc (.int .i64 0)) ?_
 refine nt ?_
 refine wp_ret ?_
 refine fin_ret1 rfl (ev (.int .i64 0) rfl rfl) ?_
 exact ⟨rfl, hk⟩

set_option maxRecDepth 100000 in
set_option maxHeartbeats 1000000 in
theorem chain_l (p : Nat) (key vi : List (BitVec 8)) (hok : Aes.okKey key.length) (hiv : vi.length = 16) (text : List (BitVec 8)) (ht : text.length % 16 = 0) (hl : text.length ≤ 70016) (w0 : World) (hc : CiphAt Aes.bk Aes.undo w0 p (Aes.words key)) : Calls Try.prog 54 #[pt p 0, .string (str vi), .string (str text)] w0 fun e w' => e = .returned (.string (str (Cb.chain key vi text))) ∧ Below w0.heap.size w0 w' := by
 have hle := fun t => Cb.ch_len key vi text hok hiv t
 refine enter (n := 35) Try.func54 rfl rfl rfl ?_
 have hk : Below w0.heap.size w0 w0 := Below.refl _ _
 refine sr ?_
 refine w_as (evc (.string (str ([] : List (BitVec 8))))) ?_
 refine nt ?_
 refine sr ?_
 refine w_mv (ev (.string (str text)) rfl rfl) ?_
 refine w_val (y_len (ev (.string (str text)) rfl rfl) Try.underlying9) ?_
 refine w_mk0 (c := text.length) (bytes := 1) (size := 1) (zv := U8 (0#8)) (F := fun _ => undef) (evc (.int .i64 0)) (ev (.int .i64 ((text.length : Nat) : Int)) rfl rfl) rfl rfl Try.underlying54 (by kernel_rfl) (by omega) (by simp only [maxLen]; omega) hk.size ?_
 intro v1 w2 o_v1 hv4 hb3
 replace hk := thenB hk hb3
 replace hc := hc.below hb3
 refine w_as (ev v1 rfl rfl) ?_
 refine nt ?_
 refine wp_seq ?_
 refine sr ?_
 refine w_as (evc (.int .i64 0)) ?_
 refine nt ?_
 refine wp_block ?_
 refine c_loop (fun dN aN wl => ∃ (t : Nat) (vo : Value), dN = (text.length - 16 * t) ∧ ∃ f5, aN = fr 35 f5 ∧ (16 * t ≤ text.length) ∧ f5 0 = pt p 0 ∧ f5 1 = .string (str (Cb.ch key vi text t)) ∧ f5 2 = .string (str text) ∧ f5 6 = .string (str ([] : List (BitVec 8))) ∧ f5 7 = vo ∧ f5 8 = .int .i64 (((16 * t) : Nat) : Int) ∧ Own wl w0.heap.size 5 1 vo (16 * t) (fun j => U8 (gb (Cb.ch key vi text (j / 16 + 1)) (j % 16))) ∧ CiphAt Aes.bk Aes.undo wl p (Aes.words key) ∧ Below w0.heap.size w0 wl) (text.length - 16 * 0) ?_ ?_
 · exact ⟨0, v1, rfl, _, rfl, iv, rfl, (Eq.trans (b := .string (str vi)) rfl (by rfl)), rfl, rfl, (etv (b := v1) rfl), (etv (b := .int .i64 0) rfl), (own_n (o_v1.cg) (by omega)), hc, hk⟩
 ·skip
  clear o_v1 hc hk
  rintro _ _ w6 ⟨t, vo, rfl, f5, rfl, i1_0, s1_0, s1_1, s1_2, s1_6, s1_7, s1_8, o_vo, hc, hk⟩
  have hE : (Aes.enc (Aes.words key) (Oct.xor (Cb.ch key vi text t) ((text.drop (16 * t)).take (16 * t + 16 - 16 * t)))).length = 16 := Cb.enc_len key _ hok
  refine wp_seq ?_
  refine sr ?_
  refine w_mv (ev (.int .i64 (((16 * t) : Nat) : Int)) s1_8 rfl) ?_
  refine w_mv (ev (.string (str text)) s1_2 rfl) ?_
  refine w_val (y_len (ev (.string (str text)) rfl rfl) Try.underlying9) ?_
  refine w_val (y_bin (ev (.int .i64 (((16 * t) : Nat) : Int)) rfl rfl) (ev (.int .i64 ((text.length : Nat) : Int)) rfl rfl) b_lss) ?_
  refine nt ?_
  refine c_if (p := (((16 * t) : Nat) : Int) < ((text.length : Nat) : Int)) (ev (.bool (decide ((((16 * t) : Nat) : Int) < ((text.length : Nat) : Int)))) rfl rfl) (fun hc7 => ?_) (fun hc7 => ?_)
  ·skip
   refine wp_skip ?_
   refine then_n ?_
   refine wp_seq ?_
   refine wp_block ?_
   refine sr ?_
   refine w_mv (ev (pt p 0) s1_0 rfl) ?_
   refine w_mv (ev (.string (str (Cb.ch key vi text t))) s1_1 rfl) ?_
   refine w_mv (ev (.string (str text)) s1_2 rfl) ?_
   refine w_mv (ev (.int .i64 (((16 * t) : Nat) : Int)) s1_8 rfl) ?_
   refine w_mv (ev (.int .i64 (((16 * t) : Nat) : Int)) s1_8 rfl) ?_
   refine w_val (y_bin (ev (.int .i64 (((16 * t) : Nat) : Int)) rfl rfl) (evc (.int .i64 16)) (b_add (by omega))) ?_
   refine w_val (v := .string (str ((text.drop (16 * t)).take (((16 * t) + 16) - (16 * t))))) (y_sls (ev (.string (str text)) rfl rfl) (evo.s (ev (.int .i64 (((16 * t) : Nat) : Int)) rfl rfl)) (evo.s (ev (.int .i64 ((((16 * t) : Nat) : Int) + 16)) rfl rfl)) Try.underlying9 (bnd_lh (l := (16 * t)) (h := ((16 * t) + 16)) (by omega) (by omega) (by omega) (by omega))) ?_
   refine w_call (Try.func68) (by kernel_rfl) rfl (m2 (ev (.string (str (Cb.ch key vi text t))) rfl rfl) (ev (.string (str ((text.drop (16 * t)).take (((16 * t) + 16) - (16 * t))))) rfl rfl)) (xor_c (Cb.ch key vi text t) ((text.drop (16 * t)).take (((16 * t) + 16) - (16 * t))) (by (try simp only [hle, List.length_take, List.length_drop, Cb.dec_len]); omega) w6) ?_
   rintro _ w8 ⟨rfl, hb9⟩
   refine ⟨_, rfl, ?_⟩
   replace o_vo := o_vo.step hb9
   replace hk := thenB hk hb9
   replace hc := hc.below hb9
   refine w_call (Try.func63) (by kernel_rfl) rfl (m2 (ev (pt p 0) rfl rfl) (ev (.string (str (Oct.xor (Cb.ch key vi text t) ((text.drop (16 * t)).take (((16 * t) + 16) - (16 * t)))))) rfl rfl)) (enc_l p key (Oct.xor (Cb.ch key vi text t) ((text.drop (16 * t)).take (((16 * t) + 16) - (16 * t)))) w8 hok hc (by simp only [Oct.length_xor, List.length_take, List.length_drop, hle]; omega)) ?_
   rintro _ w10 ⟨rfl, hb11⟩
   refine ⟨_, rfl, ?_⟩
   replace o_vo := o_vo.step hb11
   replace hk := thenB hk hb11
   replace hc := hc.below hb11
   refine w_mv (ev (.tuple #[.string (str (Aes.enc (Aes.words key) (Oct.xor (Cb.ch key vi text t) ((text.drop (16 * t)).take (((16 * t) + 16) - (16 * t)))))), .int .i64 0]) rfl rfl) ?_
   refine w_val (y_ext (v := .string (str (Aes.enc (Aes.words key) (Oct.xor (Cb.ch key vi text t) ((text.drop (16 * t)).take (((16 * t) + 16) - (16 * t))))))) (ev (.tuple #[.string (str (Aes.enc (Aes.words key) (Oct.xor (Cb.ch key vi text t) ((text.drop (16 * t)).take (((16 * t) + 16) - (16 * t)))))), .int .i64 0]) rfl rfl) rfl) ?_
   refine w_val (y_ext (v := .int .i64 0) (ev (.tuple #[.string (str (Aes.enc (Aes.words key) (Oct.xor (Cb.ch key vi text t) ((text.drop (16 * t)).take (((16 * t) + 16) - (16 * t)))))), .int .i64 0]) rfl rfl) rfl) ?_
   refine w_as (ev (.string (str (Aes.enc (Aes.words key) (Oct.xor (Cb.ch key vi text t) ((text.drop (16 * t)).take (((16 * t) + 16) - (16 * t))))))) rfl rfl) ?_
   refine nt ?_
   refine wp_region_lit ?_
   refine w_mv (ev vo s1_7 rfl) ?_
   refine w_mv (ev (.string (str (Aes.enc (Aes.words key) (Oct.xor (Cb.ch key vi text t) ((text.drop (16 * t)).take (((16 * t) + 16) - (16 * t))))))) rfl rfl) ?_
   refine w_apps (K0 := (16 * t)) (l := Aes.enc (Aes.words key) (Oct.xor (Cb.ch key vi text t) ((text.drop (16 * t)).take (((16 * t) + 16) - (16 * t))))) (ev vo rfl rfl) (ev (.string (str (Aes.enc (Aes.words key) (Oct.xor (Cb.ch key vi text t) ((text.drop (16 * t)).take (((16 * t) + 16) - (16 * t))))))) rfl rfl) Try.underlying54 Try.underlying9 (by kernel_rfl) o_vo hk.size (by omega) ?_
   intro v12 w13 o_v12 hg14 hv15
   replace hk := thenO hk hg14 (fun g e => (o_vo.block_lt g e).2)
   replace hc := CiphAt.onwardO hc o_vo (by decide) (by decide) _ hg14
   clear o_vo
   refine w_as (ev v12 rfl rfl) ?_
   refine wpList_nil ?_
   refine inb_n ?_
   refine then_n ?_
   refine wp_region_lit ?_
   refine w_mv (ev (.int .i64 (((16 * t) : Nat) : Int)) s1_8 rfl) ?_
   refine w_val (y_bin (ev (.int .i64 (((16 * t) : Nat) : Int)) rfl rfl) (evc (.int .i64 16)) (b_add (by omega))) ?_
   refine w_as (ev (.int .i64 ((((16 * t) : Nat) : Int) + 16)) rfl rfl) ?_
   refine wpList_nil ?_
   exact then_n ⟨_, (by omega), t + 1, v12, rfl, _, rfl, iv, s1_0, (Eq.trans (b := .string (str (Aes.enc (Aes.words key) (Oct.xor (Cb.ch key vi text t) ((text.drop (16 * t)).take (((16 * t) + 16) - (16 * t))))))) rfl (by exact congrArg (fun l => Value.string (str l)) (Cb.ch_at key vi text t _ (by omega)))), s1_2, s1_6, rfl, (etv (b := .int .i64 ((((16 * t) : Nat) : Int) + 16)) rfl), (own_n (o_v12.congr (fun j hj => by (try dsimp only); by_cases e : j < 16 * t * 1; (rw [if_pos e]); (rw [if_neg e, Cb.ch_at key vi text t _ (by omega), show j / 16 = t from by omega, show j % 16 = 0 + (j - 16 * t * 1) from by omega]))) (by omega)), hc, hk⟩
  ·skip
   refine wp_exit ?_
   refine then_x ?_
   refine then_x ?_
   refine inb_x ?_
   refine then_n ?_
   refine sr ?_
   refine w_mv (ev vo s1_7 rfl) ?_
   refine w_val (v := .string (str (Cb.chain key vi text))) (y_strown (l := Cb.chain key vi text) (ev vo rfl rfl) o_vo  (by exact (by rw [Cb.chain_len]; omega)) (fun j hj => by exact (by rw [Cb.gb_chain _ _ _ _ (by omega)])) Try.underlying54 Try.underlying5 Try.underlying9) ?_
   refine w_as (ev (.string (str (Cb.chain key vi text))) rfl rfl) ?_
   refine nt ?_
   refine wp_ret ?_
   refine fin_ret1 rfl (ev (.string (str (Cb.chain key vi text))) rfl rfl) ?_
   exact ⟨rfl, hk⟩

set_option maxRecDepth 100000 in
set_option maxHeartbeats 1000000 in
theorem unchain_l (p : Nat) (key vi : List (BitVec 8)) (hok : Aes.okKey key.length) (hiv : vi.length = 16) (text : List (BitVec 8)) (ht : text.length % 16 = 0) (hl : text.length ≤ 70016) (w0 : World) (hc : CiphAt Aes.bk Aes.undo w0 p (Aes.words key)) : Calls Try.prog 60 #[pt p 0, .string (str vi), .string (str text)] w0 fun e w' => e = .returned (.string (str (Cb.unchain key vi text))) ∧ w0.grownBy w' (some p) ∧ CiphAt Aes.bk Aes.undo w' p (Aes.words key) := by
 refine enter (n := 40) Try.func60 rfl rfl rfl ?_
 have hk : w0.grownBy w0 (some p) := grown_refl _ _
 refine sr ?_
 refine w_as (evc (.string (str ([] : List (BitVec 8))))) ?_
 refine nt ?_
 refine sr ?_
 refine w_mv (ev (.string (str text)) rfl rfl) ?_
 refine w_val (y_len (ev (.string (str text)) rfl rfl) Try.underlying9) ?_
 refine w_mk0 (c := text.length) (bytes := 1) (size := 1) (zv := U8 (0#8)) (F := fun _ => undef) (evc (.int .i64 0)) (ev (.int .i64 ((text.length : Nat) : Int)) rfl rfl) rfl rfl Try.underlying54 (by kernel_rfl) (by omega) (by simp only [maxLen]; omega) hk.size ?_
 intro v1 w2 o_v1 hv4 hb3
 replace hk := grown_thenB hk hb3
 replace hc := hc.below hb3
 refine w_as (ev v1 rfl rfl) ?_
 refine nt ?_
 refine wp_seq ?_
 refine sr ?_
 refine w_as (evc (.int .i64 0)) ?_
 refine nt ?_
 refine wp_block ?_
 refine c_loop (fun dN aN wl => ∃ (t : Nat) (vo : Value), dN = (text.length - 16 * t) ∧ ∃ f5, aN = fr 40 f5 ∧ (16 * t ≤ text.length) ∧ f5 0 = pt p 0 ∧ f5 1 = .string (str (Cb.bk (vi ++ text) t)) ∧ f5 2 = .string (str text) ∧ f5 6 = .string (str ([] : List (BitVec 8))) ∧ f5 7 = vo ∧ f5 8 = .int .i64 (((16 * t) : Nat) : Int) ∧ Own wl w0.heap.size 5 1 vo (16 * t) (fun j => U8 (gb (Cb.un key vi text (j / 16)) (j % 16))) ∧ CiphAt Aes.bk Aes.undo wl p (Aes.words key) ∧ w0.grownBy wl (some p)) (text.length - 16 * 0) ?_ ?_
 · exact ⟨0, v1, rfl, _, rfl, iv, rfl, (Eq.trans (b := .string (str vi)) rfl (by exact congrArg (fun l => Value.string (str l)) (Cb.bk_cat0 _ _ hiv).symm)), rfl, rfl, (etv (b := v1) rfl), (etv (b := .int .i64 0) rfl), (own_n (o_v1.cg) (by omega)), hc, hk⟩
 ·skip
  clear o_v1 hc hk
  rintro _ _ w6 ⟨t, vo, rfl, f5, rfl, i1_0, s1_0, s1_1, s1_2, s1_6, s1_7, s1_8, o_vo, hc, hk⟩
  have hbl : (Cb.bk (vi ++ text) t).length = 16 := Cb.bk_len _ _ (by rw [List.length_append]; omega)
  have hE : 16 * t + 16 ≤ text.length → (Oct.xor (Aes.dec (Aes.words key) ((text.drop (16 * t)).take (16 * t + 16 - 16 * t))) (Cb.bk (vi ++ text) t)).length = 16 := fun _ => by rw [Oct.length_xor, Cb.dec_len, hbl]; rfl
  refine wp_seq ?_
  refine sr ?_
  refine w_mv (ev (.int .i64 (((16 * t) : Nat) : Int)) s1_8 rfl) ?_
  refine w_mv (ev (.string (str text)) s1_2 rfl) ?_
  refine w_val (y_len (ev (.string (str text)) rfl rfl) Try.underlying9) ?_
  refine w_val (y_bin (ev (.int .i64 (((16 * t) : Nat) : Int)) rfl rfl) (ev (.int .i64 ((text.length : Nat) : Int)) rfl rfl) b_lss) ?_
  refine nt ?_
  refine c_if (p := (((16 * t) : Nat) : Int) < ((text.length : Nat) : Int)) (ev (.bool (decide ((((16 * t) : Nat) : Int) < ((text.length : Nat) : Int)))) rfl rfl) (fun hc7 => ?_) (fun hc7 => ?_)
  ·skip
   refine wp_skip ?_
   refine then_n ?_
   refine wp_seq ?_
   refine wp_block ?_
   refine sr ?_
   refine w_mv (ev (.string (str text)) s1_2 rfl) ?_
   refine w_mv (ev (.int .i64 (((16 * t) : Nat) : Int)) s1_8 rfl) ?_
   refine w_mv (ev (.int .i64 (((16 * t) : Nat) : Int)) s1_8 rfl) ?_
   refine w_val (y_bin (ev (.int .i64 (((16 * t) : Nat) : Int)) rfl rfl) (evc (.int .i64 16)) (b_add (by omega))) ?_
   refine w_val (v := .string (str ((text.drop (16 * t)).take (((16 * t) + 16) - (16 * t))))) (y_sls (ev (.string (str text)) rfl rfl) (evo.s (ev (.int .i64 (((16 * t) : Nat) : Int)) rfl rfl)) (evo.s (ev (.int .i64 ((((16 * t) : Nat) : Int) + 16)) rfl rfl)) Try.underlying9 (bnd_lh (l := (16 * t)) (h := ((16 * t) + 16)) (by omega) (by omega) (by omega) (by omega))) ?_
   refine w_as (ev (.string (str ((text.drop (16 * t)).take (((16 * t) + 16) - (16 * t))))) rfl rfl) ?_
   refine nt ?_
   refine sr ?_
   refine w_mv (ev (pt p 0) s1_0 rfl) ?_
   refine w_mv (ev (.string (str ((text.drop (16 * t)).take (((16 * t) + 16) - (16 * t))))) rfl rfl) ?_
   have no_vo_p : vo.ownBlock ≠ some p := CiphAt.ne_own hc o_vo (by decide)
   have hw_ := hc
   refine w_call (Try.func85) (by kernel_rfl) rfl (m2 (ev (pt p 0) rfl rfl) (ev (.string (str ((text.drop (16 * t)).take (((16 * t) + 16) - (16 * t))))) rfl rfl)) (dec_g p key ((text.drop (16 * t)).take (((16 * t) + 16) - (16 * t))) w6 hok hw_ (by simp only [List.length_take, List.length_drop]; omega)) ?_
   rintro _ w8 ⟨rfl, hgd, hc⟩
   refine ⟨_, rfl, ?_⟩
   replace o_vo := o_vo.stepG hgd no_vo_p
   replace hk := grown_thenG hk hgd (by omega)
   refine w_mv (ev (.tuple #[.string (str (Aes.dec (Aes.words key) ((text.drop (16 * t)).take (((16 * t) + 16) - (16 * t))))), .int .i64 0]) rfl rfl) ?_
   refine w_val (y_ext (v := .string (str (Aes.dec (Aes.words key) ((text.drop (16 * t)).take (((16 * t) + 16) - (16 * t)))))) (ev (.tuple #[.string (str (Aes.dec (Aes.words key) ((text.drop (16 * t)).take (((16 * t) + 16) - (16 * t))))), .int .i64 0]) rfl rfl) rfl) ?_
   refine w_val (y_ext (v := .int .i64 0) (ev (.tuple #[.string (str (Aes.dec (Aes.words key) ((text.drop (16 * t)).take (((16 * t) + 16) - (16 * t))))), .int .i64 0]) rfl rfl) rfl) ?_
   refine w_as (ev (.string (str (Aes.dec (Aes.words key) ((text.drop (16 * t)).take (((16 * t) + 16) - (16 * t)))))) rfl rfl) ?_
   refine w_as (ev (.int .i64 0) rfl rfl) ?_
   refine nt ?_
   refine sr ?_
   refine w_mv (ev vo s1_7 rfl) ?_
   refine w_mv (ev (.string (str (Aes.dec (Aes.words key) ((text.drop (16 * t)).take (((16 * t) + 16) - (16 * t)))))) rfl rfl) ?_
   refine w_mv (ev (.string (str (Cb.bk (vi ++ text) t))) s1_1 rfl) ?_
   refine w_call (Try.func68) (by kernel_rfl) rfl (m2 (ev (.string (str (Aes.dec (Aes.words key) ((text.drop (16 * t)).take (((16 * t) + 16) - (16 * t)))))) rfl rfl) (ev (.string (str (Cb.bk (vi ++ text) t))) rfl rfl)) (xor_c (Aes.dec (Aes.words key) ((text.drop (16 * t)).take (((16 * t) + 16) - (16 * t)))) (Cb.bk (vi ++ text) t) (by rw [Cb.dec_len]; omega) w8) ?_
   rintro _ w9 ⟨rfl, hb10⟩
   refine ⟨_, rfl, ?_⟩
   replace o_vo := o_vo.step hb10
   replace hk := grown_thenB hk hb10
   replace hc := hc.below hb10
   refine w_apps (K0 := (16 * t)) (l := Oct.xor (Aes.dec (Aes.words key) ((text.drop (16 * t)).take (((16 * t) + 16) - (16 * t)))) (Cb.bk (vi ++ text) t)) (ev vo rfl rfl) (ev (.string (str (Oct.xor (Aes.dec (Aes.words key) ((text.drop (16 * t)).take (((16 * t) + 16) - (16 * t)))) (Cb.bk (vi ++ text) t)))) rfl rfl) Try.underlying54 Try.underlying9 (by kernel_rfl) o_vo hk.size (by omega) ?_
   intro v11 w12 o_v11 hg13 hv14
   replace hk := grown_thenO hk hg13 (fun g e => (o_vo.block_lt g e).2)
   replace hc := CiphAt.onwardO hc o_vo (by decide) (by decide) _ hg13
   clear o_vo
   refine w_as (ev v11 rfl rfl) ?_
   refine nt ?_
   refine wp_region_lit ?_
   refine w_mv (ev (.string (str ((text.drop (16 * t)).take (((16 * t) + 16) - (16 * t))))) rfl rfl) ?_
   refine w_as (ev (.string (str ((text.drop (16 * t)).take (((16 * t) + 16) - (16 * t))))) rfl rfl) ?_
   refine wpList_nil ?_
   refine inb_n ?_
   refine then_n ?_
   refine wp_region_lit ?_
   refine w_mv (ev (.int .i64 (((16 * t) : Nat) : Int)) s1_8 rfl) ?_
   refine w_val (y_bin (ev (.int .i64 (((16 * t) : Nat) : Int)) rfl rfl) (evc (.int .i64 16)) (b_add (by omega))) ?_
   refine w_as (ev (.int .i64 ((((16 * t) : Nat) : Int) + 16)) rfl rfl) ?_
   refine wpList_nil ?_
   exact then_n ⟨_, (by omega), t + 1, v11, rfl, _, rfl, iv, s1_0, (Eq.trans (b := .string (str ((text.drop (16 * t)).take (((16 * t) + 16) - (16 * t))))) rfl (by exact congrArg (fun l => Value.string (str l)) ((Cb.bk_at text t _ (by omega)).trans (Cb.bk_cat _ _ _ hiv).symm))), s1_2, s1_6, rfl, (etv (b := .int .i64 ((((16 * t) : Nat) : Int) + 16)) rfl), (own_n (o_v11.congr (fun j hj => by (try dsimp only); by_cases e : j < 16 * t * 1; (rw [if_pos e]); (rw [if_neg e, Cb.bk_at text t _ (by omega), ← Cb.bk_cat vi text t hiv, show j / 16 = t from by omega, show j % 16 = 0 + (j - 16 * t * 1) from by omega]; rfl))) (by omega)), hc, hk⟩
  ·skip
   refine wp_exit ?_
   refine then_x ?_
   refine then_x ?_
   refine inb_x ?_
   refine then_n ?_
   refine sr ?_
   refine w_mv (ev vo s1_7 rfl) ?_
   refine w_val (v := .string (str (Cb.unchain key vi text))) (y_strown (l := Cb.unchain key vi text) (ev vo rfl rfl) o_vo  (by exact (by rw [Cb.unchain_len]; omega)) (fun j hj => by exact (by rw [Cb.gb_unchain _ _ _ _ (by omega)])) Try.underlying54 Try.underlying5 Try.underlying9) ?_
   refine w_as (ev (.string (str (Cb.unchain key vi text))) rfl rfl) ?_
   refine nt ?_
   refine wp_ret ?_
   refine fin_ret1 rfl (ev (.string (str (Cb.unchain key vi text))) rfl rfl) ?_
   refine ⟨congrArg Ending.returned ?_, hk, hc⟩
   show (.string (str (Cb.unchain key vi text)) : Value) = .string (str (Cb.unchain key vi text))
   rfl
end Go.Proofs.Ytjdcpejcnmpiaaa
