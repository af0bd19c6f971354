/-
  Chains of blocks: the reference's blocks. Conditions as each says.
-/
import Derived.Test.YtjdcpejcnmpiaaaRows
import Derived.Test.YtjdcpejcnmpiaaaCbcB
import Derived.ProofKit
namespace Go.Proofs.Ytjdcpejcnmpiaaa
open Go.RowKit
set_option linter.unusedSimpArgs false
set_option linter.unusedVariables false
namespace CbcCT
theorem mixed : Try.prog.follows .mixedOrders = true := by kernel_rfl
theorem so3 : (Try.prog.underlying 3).isSome = true := by rw [Try.underlying3]; rfl
theorem so5 : (Try.prog.underlying 5).isSome = true := by rw [Try.underlying5]; rfl
end CbcCT
set_option maxRecDepth 100000 in
set_option maxHeartbeats 1000000 in
theorem refBlocks_0 (s : List (BitVec 8)) (h : s.length < 16) (w0 : World) : Calls Try.prog 57 #[.string (str s)] w0 fun e w' => e = .returned (.slice none 0 0) ∧ Below w0.heap.size w0 w' := by
 refine enter (n := 21) Try.func57 rfl rfl rfl ?_
 have hk : Below w0.heap.size w0 w0 := Below.refl _ _
 refine sr ?_
 refine w_as (evc (.slice none 0 0)) ?_
 refine nt ?_
 refine sr ?_
 refine w_as (evc (.slice none 0 0)) ?_
 refine nt ?_
 refine wp_seq ?_
 refine sr ?_
 refine w_as (evc (.int .i64 0)) ?_
 refine nt ?_
 refine wp_block ?_
 refine c_loop (fun dN aN wl => dN = 0 ∧ ∃ f1, aN = fr 21 f1 ∧ f1 0 = .string (str s) ∧ f1 2 = .slice none 0 0 ∧ f1 3 = .slice none 0 0 ∧ f1 4 = .int .i64 0 ∧ Below w0.heap.size w0 wl) 0 ?_ ?_
 · exact ⟨rfl, _, rfl, rfl, rfl, rfl, rfl, hk⟩
 ·skip
  clear hk
  rintro _ _ w2 ⟨rfl, f1, rfl, s1_0, s1_2, s1_3, s1_4, hk⟩
  refine wp_seq ?_
  refine sr ?_
  refine w_mv (ev (.int .i64 0) s1_4 rfl) ?_
  refine w_val (y_bin (ev (.int .i64 0) rfl rfl) (evc (.int .i64 16)) (b_add (by omega))) ?_
  refine w_mv (ev (.string (str s)) s1_0 rfl) ?_
  refine w_val (y_len (ev (.string (str s)) rfl rfl) Try.underlying9) ?_
  refine w_val (y_bin (ev (.int .i64 16) rfl rfl) (ev (.int .i64 ((s.length : Nat) : Int)) rfl rfl) b_leq) ?_
  refine nt ?_
  have hc3 : ¬ (16 ≤ ((s.length : Nat) : Int)) := by omega
  refine c_f (p := 16 ≤ ((s.length : Nat) : Int)) (ev (.bool (decide (16 ≤ ((s.length : Nat) : Int)))) rfl rfl) hc3 ?_
  refine wp_exit ?_
  refine then_x ?_
  refine then_x ?_
  refine inb_x ?_
  refine then_n ?_
  refine sr ?_
  refine w_mv (ev (.slice none 0 0) s1_3 rfl) ?_
  refine w_as (ev (.slice none 0 0) rfl rfl) ?_
  refine nt ?_
  refine wp_ret ?_
  refine fin_ret1 rfl (ev (.slice none 0 0) rfl rfl) ?_
  exact ⟨rfl, hk⟩

set_option maxRecDepth 100000 in
set_option maxHeartbeats 1000000 in
theorem refBlocks_y (s : List (BitVec 8)) (h : 16 ≤ s.length) (hs : s.length ≤ 1000000) (w0 : World) : Calls Try.prog 57 #[.string (str s)] w0 fun e w' => ∃ g cap, e = .returned (.slice (some ⟨g, 0, none⟩) (s.length / 16) cap) ∧ w0.heap.size ≤ g ∧ Row w' g 9 (s.length / 16 * 1) (fun j => .string (str (Cb.bk s j))) ∧ Below w0.heap.size w0 w' := by
 refine enter (n := 21) Try.func57 rfl rfl rfl ?_
 have hk : Below w0.heap.size w0 w0 := Below.refl _ _
 refine sr ?_
 refine w_as (evc (.slice none 0 0)) ?_
 refine nt ?_
 refine sr ?_
 refine w_as (evc (.slice none 0 0)) ?_
 refine nt ?_
 refine wp_seq ?_
 refine sr ?_
 refine w_as (evc (.int .i64 0)) ?_
 refine nt ?_
 refine wp_block ?_
 refine c_loop (fun dN aN wl => ∃ (i : Nat) (vo : Value), dN = (s.length - 16 * i) ∧ ∃ f1, aN = fr 21 f1 ∧ (16 * i ≤ s.length) ∧ f1 0 = .string (str s) ∧ f1 2 = .slice none 0 0 ∧ f1 3 = vo ∧ f1 4 = .int .i64 (((16 * i) : Nat) : Int) ∧ Own wl w0.heap.size 9 1 vo i (fun j => .string (str (Cb.bk s j))) ∧ Below w0.heap.size w0 wl) (s.length - 16 * 0) ?_ ?_
 · exact ⟨0, (.slice none 0 0), rfl, _, rfl, iv, rfl, rfl, (etv (b := .slice none 0 0) rfl), (etv (b := .int .i64 0) rfl), Own.nil, hk⟩
 ·skip
  clear hk
  rintro _ _ w2 ⟨i, vo, rfl, f1, rfl, i1_0, s1_0, s1_2, s1_3, s1_4, o_vo, hk⟩
  refine wp_seq ?_
  refine sr ?_
  refine w_mv (ev (.int .i64 (((16 * i) : Nat) : Int)) s1_4 rfl) ?_
  refine w_val (y_bin (ev (.int .i64 (((16 * i) : Nat) : Int)) rfl rfl) (evc (.int .i64 16)) (b_add (by omega))) ?_
  refine w_mv (ev (.string (str s)) s1_0 rfl) ?_
  refine w_val (y_len (ev (.string (str s)) rfl rfl) Try.underlying9) ?_
  refine w_val (y_bin (ev (.int .i64 ((((16 * i) : Nat) : Int) + 16)) rfl rfl) (ev (.int .i64 ((s.length : Nat) : Int)) rfl rfl) b_leq) ?_
  refine nt ?_
  refine c_if (p := ((((16 * i) : Nat) : Int) + 16) ≤ ((s.length : Nat) : Int)) (ev (.bool (decide (((((16 * i) : Nat) : Int) + 16) ≤ ((s.length : Nat) : Int)))) rfl rfl) (fun hc3 => ?_) (fun hc3 => ?_)
  ·skip
   refine wp_skip ?_
   refine then_n ?_
   refine wp_seq ?_
   refine wp_block ?_
   refine wp_region_lit ?_
   refine w_mv (ev vo s1_3 rfl) ?_
   refine w_mv (ev (.string (str s)) s1_0 rfl) ?_
   refine w_mv (ev (.int .i64 (((16 * i) : Nat) : Int)) s1_4 rfl) ?_
   refine w_mv (ev (.int .i64 (((16 * i) : Nat) : Int)) s1_4 rfl) ?_
   refine w_val (y_bin (ev (.int .i64 (((16 * i) : Nat) : Int)) rfl rfl) (evc (.int .i64 16)) (b_add (by omega))) ?_
   refine w_val (v := .string (str ((s.drop (16 * i)).take (((16 * i) + 16) - (16 * i))))) (y_sls (ev (.string (str s)) rfl rfl) (evo.s (ev (.int .i64 (((16 * i) : Nat) : Int)) rfl rfl)) (evo.s (ev (.int .i64 ((((16 * i) : Nat) : Int) + 16)) rfl rfl)) Try.underlying9 (bnd_lh (l := (16 * i)) (h := ((16 * i) + 16)) (by omega) (by omega) (by omega) (by omega))) ?_
   refine w_bs1 (m := 1) (e := 9) (F := fun j => .string (str ((s.drop (16 * i)).take (((16 * i) + 16) - (16 * i))))) (ev (.string (str ((s.drop (16 * i)).take (((16 * i) + 16) - (16 * i))))) rfl rfl) (fun w => by kernel_rfl) ?_
   intro b_18 w4 hbe_b_18 r_b_18 hb5
   have no_vo_b_18 : vo.ownBlock ≠ some b_18 := o_vo.apart (by omega)
   have ge_b_18 : w0.heap.size ≤ b_18 := by have := hk.size; omega
   clear hbe_b_18
   replace o_vo := o_vo.step hb5
   replace hk := thenB hk hb5
   refine w_app (k := i) (m := 1) (size := 1) (bytes := 16) (ev vo rfl rfl) (ev (.slice (some ⟨b_18, 0, none⟩) 1 1) rfl rfl) Try.underlying68 (by kernel_rfl) (by decide) o_vo hk.size r_b_18 (by omega) oca (by simp only [maxLen]; omega) (by omega) ?_
   intro v6 w7 o_v6 hg8 hv9
   have no_v6_b_18 := no_new no_vo_b_18 r_b_18.lt hv9
   replace r_b_18 := r_b_18.stepO hg8 no_vo_b_18
   replace hk := thenO hk hg8 (fun g e => (o_vo.block_lt g e).2)
   clear o_vo
   refine w_as (ev v6 rfl rfl) ?_
   refine wpList_nil ?_
   refine inb_n ?_
   refine then_n ?_
   refine wp_region_lit ?_
   refine w_mv (ev (.int .i64 (((16 * i) : Nat) : Int)) s1_4 rfl) ?_
   refine w_val (y_bin (ev (.int .i64 (((16 * i) : Nat) : Int)) rfl rfl) (evc (.int .i64 16)) (b_add (by omega))) ?_
   refine w_as (ev (.int .i64 ((((16 * i) : Nat) : Int) + 16)) rfl rfl) ?_
   refine wpList_nil ?_
   exact then_n ⟨_, (by omega), i + 1, v6, rfl, _, rfl, iv, s1_0, s1_2, rfl, (etv (b := .int .i64 ((((16 * i) : Nat) : Int) + 16)) rfl), (own_n (o_v6.congr (fun j hj => by (try dsimp only); by_cases e : j < i * 1; (rw [if_pos e]); (rw [if_neg e]; exact congrArg (fun l => Value.string (str l)) (by rw [show j = i from by omega]; exact Cb.bk_at s i _ (by omega))))) (by omega)), hk⟩
  ·skip
   refine wp_exit ?_
   refine then_x ?_
   replace o_vo := own_n (k' := (s.length / 16)) (o_vo.congr (G := fun j => .string (str (Cb.bk s j))) (fun j hj => by rfl)) (by omega)
   refine then_x ?_
   refine inb_x ?_
   refine then_n ?_
   refine wp_seq ?_
   obtain ⟨g10, cap10, hv10, ge_g10, hc_g10, hob_g10, r_g10⟩ := o_vo.opened (by omega)
   refine wp_region_lit ?_
   refine w_mv (ev vo s1_3 rfl) ?_
   refine w_as (ev vo rfl rfl) ?_
   refine nt ?_
   refine wp_ret ?_
   refine fin_ret1 rfl (ev (.slice (some ⟨g10, 0, none⟩) (s.length / 16) cap10) (Eq.trans (b := vo) rfl hv10) rfl) ?_
   exact ⟨g10, cap10, rfl, ge_g10, r_g10, hk⟩
end Go.Proofs.Ytjdcpejcnmpiaaa
