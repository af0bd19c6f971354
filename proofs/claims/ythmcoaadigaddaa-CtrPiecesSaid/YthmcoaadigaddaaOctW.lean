/-
  Octets: what the program and the reference compute. Conditions as each says.
-/
import Derived.Test.YthmcoaadigaddaaRows
import Derived.Test.YthmcoaadigaddaaGenMore
import Derived.Test.YthmcoaadigaddaaOct
import Derived.ProofKit
namespace Go.Proofs.Ythmcoaadigaddaa
open Go.RowKit
set_option linter.unusedSimpArgs false
set_option linter.unusedVariables false
namespace OctWT
theorem mixed : Try.prog.follows .mixedOrders = true := by kernel_rfl
theorem sc5 : (Try.prog.underlying 5).map scal = some true := by rw [Try.underlying5]; rfl
theorem so3 : (Try.prog.underlying 3).isSome = true := by rw [Try.underlying3]; rfl
theorem so35 : (Try.prog.underlying 35).isSome = true := by rw [Try.underlying35]; rfl
theorem so5 : (Try.prog.underlying 5).isSome = true := by rw [Try.underlying5]; rfl
theorem sz5 : (Try.prog.info? 5).map (·.size) = some 1 := by kernel_rfl
end OctWT
set_option maxRecDepth 100000 in
set_option maxHeartbeats 1000000 in
theorem same_c (a b : List (BitVec 8)) (ha : a.length ≤ 140737488351232) (w0 : World) : Calls Try.prog 32 #[.string (str a), .string (str b)] w0 fun e w' => e = .returned (.bool (decide (a = b))) ∧ Below w0.heap.size w0 w' := by
  refine enter (n := 29) Try.func32 rfl rfl rfl ?_
  have hk : Below w0.heap.size w0 w0 := Below.refl _ _
  refine wp_seq ?_
  refine wp_region_lit ?_
  refine w_val (v := .bool false) (y_as (Ev.c (v := .bool false))) ?_
  refine wpList_nil ?_
  refine then_n ?_
  refine wp_seq ?_
  refine wp_seq ?_
  refine wp_region_lit ?_
  refine w_val (v := .string (str a)) (y_mv (Ev.t (v := .string (str a)) rfl rfl)) ?_
  refine w_val (v := .int .i64 ((a.length : Nat) : Int)) (y_len (Ev.t (v := .string (str a)) rfl rfl) Try.underlying9) ?_
  refine w_val (v := .string (str b)) (y_mv (Ev.t (v := .string (str b)) rfl rfl)) ?_
  refine w_val (v := .int .i64 ((b.length : Nat) : Int)) (y_len (Ev.t (v := .string (str b)) rfl rfl) Try.underlying9) ?_
  refine w_val (v := .bool (decide (((a.length : Nat) : Int) ≠ ((b.length : Nat) : Int)))) (y_bin (Ev.t (v := .int .i64 ((a.length : Nat) : Int)) rfl rfl) (Ev.t (v := .int .i64 ((b.length : Nat) : Int)) rfl rfl) b_neq) ?_
  refine wpList_nil ?_
  refine then_n ?_
  refine c_if (p := ((a.length : Nat) : Int) ≠ ((b.length : Nat) : Int)) (Ev.t (v := .bool (decide (((a.length : Nat) : Int) ≠ ((b.length : Nat) : Int)))) rfl rfl) (fun hc1 => ?_) (fun hc1 => ?_)
  · skip
    refine wp_seq ?_
    refine wp_region_lit ?_
    refine w_val (v := .bool false) (y_as (Ev.c (v := .bool false))) ?_
    refine wpList_nil ?_
    refine then_n ?_
    refine wp_ret ?_
    refine then_r ?_
    refine fin_ret1 rfl (Ev.t (v := .bool false) rfl rfl) ?_
    refine ⟨congrArg Ending.returned ?_, hk⟩
    show (.bool false : Value) = .bool (decide (a = b))
    first | exact congrArg Value.bool (decide_eq_false (fun h => by subst h; omega)).symm | exact congrArg Value.bool (decide_eq_decide.2 (by rw [show k = a.length from by omega]; exact Oct.unl_eq a b (by omega)))
  · skip
    refine wp_skip ?_
    refine then_n ?_
    refine wp_seq ?_
    refine wp_region_lit ?_
    refine w_val (v := U8 (0#8)) (y_as (Ev.c (v := U8 (0#8)))) ?_
    refine wpList_nil ?_
    refine then_n ?_
    refine wp_seq ?_
    refine wp_seq ?_
    refine wp_region_lit ?_
    refine w_val (v := .string (str a)) (y_mv (Ev.t (v := .string (str a)) rfl rfl)) ?_
    refine w_val (v := .int .i64 ((a.length : Nat) : Int)) (y_len (Ev.t (v := .string (str a)) rfl rfl) Try.underlying9) ?_
    refine w_val (v := .int .i64 0) (y_mv (Ev.c (v := .int .i64 0))) ?_
    refine wpList_nil ?_
    refine then_n ?_
    refine wp_block ?_
    refine c_loop (fun dN aN wl => ∃ (k : Nat), dN = (a.length - k) ∧ ∃ f2, aN = fr 29 f2 ∧ (k ≤ a.length) ∧ f2 0 = .string (str a) ∧ f2 1 = .string (str b) ∧ f2 4 = .bool false ∧ f2 5 = U8 (Oct.unl a b k) ∧ f2 13 = .int .i64 ((a.length : Nat) : Int) ∧ f2 14 = .int .i64 ((k : Nat) : Int) ∧ Below w0.heap.size w0 wl) (a.length - 0) ?_ ?_
    · exact ⟨0, rfl, _, rfl, (by first | omega | with_reducible rfl | assumption | trivial | exact ⟨rfl, rfl⟩ | simp), rfl, rfl, rfl, (Eq.trans (b := U8 (0#8)) rfl (by first | with_reducible rfl | (with_reducible congr 1 <;> omega) | (with_reducible congr 2 <;> omega) | (with_reducible congr 3 <;> omega) | rfl)), rfl, (Eq.trans (b := .int .i64 0) rfl (by first | with_reducible rfl | (with_reducible congr 1 <;> omega) | (with_reducible congr 2 <;> omega) | (with_reducible congr 3 <;> omega) | rfl)), hk⟩
    · skip
      clear hk
      rintro _ _ w3 ⟨k, rfl, f2, rfl, i1_0, s1_0, s1_1, s1_4, s1_5, s1_13, s1_14, hk⟩
      refine wp_seq ?_
      refine wp_region_lit ?_
      refine w_val (v := .bool (decide (((k : Nat) : Int) < ((a.length : Nat) : Int)))) (y_bin (Ev.t (v := .int .i64 ((k : Nat) : Int)) s1_14 rfl) (Ev.t (v := .int .i64 ((a.length : Nat) : Int)) s1_13 rfl) b_lss) ?_
      refine wpList_nil ?_
      refine then_n ?_
      refine wp_seq ?_
      refine c_if (p := ((k : Nat) : Int) < ((a.length : Nat) : Int)) (Ev.t (v := .bool (decide (((k : Nat) : Int) < ((a.length : Nat) : Int)))) rfl rfl) (fun hc4 => ?_) (fun hc4 => ?_)
      · skip
        refine wp_skip ?_
        refine then_n ?_
        refine wp_seq ?_
        refine wp_block ?_
        refine wp_seq ?_
        refine wp_region_lit ?_
        refine w_val (v := .int .i64 ((k : Nat) : Int)) (y_mv (Ev.t (v := .int .i64 ((k : Nat) : Int)) s1_14 rfl)) ?_
        refine w_val (v := .int .i64 ((k : Nat) : Int)) (y_as (Ev.t (v := .int .i64 ((k : Nat) : Int)) rfl rfl)) ?_
        refine wpList_nil ?_
        refine then_n ?_
        refine region_q OctWT.mixed (by kernel_rfl) ?_
        refine q_val (v := U8 (Oct.unl a b k)) (fun w' hw' => y_mv (Ev.t (v := U8 (Oct.unl a b k)) s1_5 rfl)) ?_
        refine q_val (v := .string (str a)) (fun w' hw' => y_mv (Ev.t (v := .string (str a)) s1_0 rfl)) ?_
        refine q_val (v := .int .i64 ((k : Nat) : Int)) (fun w' hw' => y_mv (Ev.t (v := .int .i64 ((k : Nat) : Int)) rfl rfl)) ?_
        refine q_val (v := U8 (gb a k)) (fun w' hw' => y_idx (Ev.t (v := .string (str a)) rfl rfl) (Ev.t (v := .int .i64 ((k : Nat) : Int)) rfl rfl) Try.underlying9 (by omega) (by omega)) ?_
        refine q_val (v := .string (str b)) (fun w' hw' => y_mv (Ev.t (v := .string (str b)) s1_1 rfl)) ?_
        refine q_val (v := .int .i64 ((k : Nat) : Int)) (fun w' hw' => y_mv (Ev.t (v := .int .i64 ((k : Nat) : Int)) rfl rfl)) ?_
        refine q_val (v := U8 (gb b k)) (fun w' hw' => y_idx (Ev.t (v := .string (str b)) rfl rfl) (Ev.t (v := .int .i64 ((k : Nat) : Int)) rfl rfl) Try.underlying9 (by omega) (by omega)) ?_
        refine q_val (v := U8 ((gb a k) ^^^ (gb b k))) (fun w' hw' => y_bin (Ev.t (v := U8 (gb a k)) rfl rfl) (Ev.t (v := U8 (gb b k)) rfl rfl) xor8) ?_
        refine q_val (v := U8 ((Oct.unl a b k) ||| ((gb a k) ^^^ (gb b k)))) (fun w' hw' => y_bin (Ev.t (v := U8 (Oct.unl a b k)) rfl rfl) (Ev.t (v := U8 ((gb a k) ^^^ (gb b k))) rfl rfl) or8) ?_
        refine q_val (v := U8 ((Oct.unl a b k) ||| ((gb a k) ^^^ (gb b k)))) (fun w' hw' => y_as (Ev.t (v := U8 ((Oct.unl a b k) ||| ((gb a k) ^^^ (gb b k)))) rfl rfl)) ?_
        refine q_nil ?_
        intro w5 hb6
        replace hk := thenB hk hb6
        refine inb_n ?_
        refine then_n ?_
        refine wp_region_lit ?_
        refine w_val (v := .int .i64 (((k : Nat) : Int) + 1)) (y_bin (Ev.t (v := .int .i64 ((k : Nat) : Int)) s1_14 rfl) (Ev.c (v := .int .i64 1)) (b_add (by omega))) ?_
        refine w_val (v := .int .i64 (((k : Nat) : Int) + 1)) (y_mv (Ev.t (v := .int .i64 (((k : Nat) : Int) + 1)) rfl rfl)) ?_
        refine wpList_nil ?_
        exact then_n ⟨_, (by omega), k + 1, rfl, _, rfl, (by first | omega | with_reducible rfl | assumption | trivial | simp), s1_0, s1_1, s1_4, (Eq.trans (b := U8 ((Oct.unl a b k) ||| ((gb a k) ^^^ (gb b k)))) rfl (by first | with_reducible rfl | (with_reducible congr 1 <;> omega) | (with_reducible congr 2 <;> omega) | (with_reducible congr 3 <;> omega) | rfl)), s1_13, (Eq.trans (b := .int .i64 (((k : Nat) : Int) + 1)) rfl (by first | with_reducible rfl | (with_reducible congr 1 <;> omega) | (with_reducible congr 2 <;> omega) | (with_reducible congr 3 <;> omega) | rfl)), hk⟩
      · skip
        refine wp_exit ?_
        refine then_x ?_
        refine then_x ?_
        refine inb_x ?_
        refine then_n ?_
        refine wp_seq ?_
        refine wp_region_lit ?_
        refine w_val (v := U8 (Oct.unl a b k)) (y_mv (Ev.t (v := U8 (Oct.unl a b k)) s1_5 rfl)) ?_
        refine w_val (v := .bool (decide ((Oct.unl a b k) = (0#8)))) (y_bin (Ev.t (v := U8 (Oct.unl a b k)) rfl rfl) (Ev.c (v := U8 (0#8))) eql8) ?_
        refine w_val (v := .bool (decide ((Oct.unl a b k) = (0#8)))) (y_as (Ev.t (v := .bool (decide ((Oct.unl a b k) = (0#8)))) rfl rfl)) ?_
        refine wpList_nil ?_
        refine then_n ?_
        refine wp_ret ?_
        refine fin_ret1 rfl (Ev.t (v := .bool (decide ((Oct.unl a b k) = (0#8)))) rfl rfl) ?_
        refine ⟨congrArg Ending.returned ?_, hk⟩
        show (.bool (decide ((Oct.unl a b k) = (0#8))) : Value) = .bool (decide (a = b))
        first | exact congrArg Value.bool (decide_eq_false (fun h => by subst h; omega)).symm | exact congrArg Value.bool (decide_eq_decide.2 (by rw [show k = a.length from by omega]; exact Oct.unl_eq a b (by omega)))

set_option maxRecDepth 100000 in
set_option maxHeartbeats 1000000 in
theorem xor_c (a b : List (BitVec 8)) (ha : a.length ≤ 140737488351232) (w0 : World) : Calls Try.prog 25 #[.string (str a), .string (str b)] w0 fun e w' => e = .returned (.string (str (Oct.xor a b))) ∧ Below w0.heap.size w0 w' := by
  have hlx := Oct.length_xor a b
  refine enter (n := 31) Try.func25 rfl rfl rfl ?_
  have hk : Below w0.heap.size w0 w0 := Below.refl _ _
  refine wp_seq ?_
  refine wp_region_lit ?_
  refine w_val (v := .string (str ([] : List (BitVec 8)))) (y_as (Ev.c (v := .string (str ([] : List (BitVec 8)))))) ?_
  refine wpList_nil ?_
  refine then_n ?_
  refine wp_seq ?_
  refine wp_region_lit ?_
  refine w_val (v := .string (str a)) (y_mv (Ev.t (v := .string (str a)) rfl rfl)) ?_
  refine w_val (v := .int .i64 ((a.length : Nat) : Int)) (y_len (Ev.t (v := .string (str a)) rfl rfl) Try.underlying9) ?_
  refine w_val (v := .string (str b)) (y_mv (Ev.t (v := .string (str b)) rfl rfl)) ?_
  refine w_val (v := .int .i64 ((b.length : Nat) : Int)) (y_len (Ev.t (v := .string (str b)) rfl rfl) Try.underlying9) ?_
  refine w_val (v := .int .i64 (min ((a.length : Nat) : Int) ((b.length : Nat) : Int))) (y_min (Ev.t (v := .int .i64 ((a.length : Nat) : Int)) rfl rfl) (Ev.t (v := .int .i64 ((b.length : Nat) : Int)) rfl rfl)) ?_
  refine w_mks (m := (min a.length b.length)) (bytes := 1) (zv := U8 (0#8)) (Ev.t (v := .int .i64 (min ((a.length : Nat) : Int) ((b.length : Nat) : Int))) rfl rfl) (Ev.t (v := .int .i64 (min ((a.length : Nat) : Int) ((b.length : Nat) : Int))) rfl rfl) (by omega) (by omega) Try.underlying47 (by kernel_rfl) rfl (by omega) (by omega) ?_
  intro b_12 w1 hbe_b_12 r_b_12 hb2
  have ge_b_12 : w0.heap.size ≤ b_12 := by have := hk.size; omega
  clear hbe_b_12
  replace hk := thenB hk hb2
  refine w_val (v := .slice (some ⟨b_12, 0, none⟩) (min a.length b.length) (min a.length b.length)) (y_as (Ev.t (v := .slice (some ⟨b_12, 0, none⟩) (min a.length b.length) (min a.length b.length)) rfl rfl)) ?_
  refine wpList_nil ?_
  refine then_n ?_
  refine wp_seq ?_
  refine wp_seq ?_
  refine wp_region_lit ?_
  refine w_val (v := .slice (some ⟨b_12, 0, none⟩) (min a.length b.length) (min a.length b.length)) (y_mv (Ev.t (v := .slice (some ⟨b_12, 0, none⟩) (min a.length b.length) (min a.length b.length)) rfl rfl)) ?_
  refine w_val (v := .int .i64 (((min a.length b.length) : Nat) : Int)) (y_len_sl (Ev.t (v := .slice (some ⟨b_12, 0, none⟩) (min a.length b.length) (min a.length b.length)) rfl rfl) Try.underlying47) ?_
  refine w_val (v := .int .i64 0) (y_mv (Ev.c (v := .int .i64 0))) ?_
  refine wpList_nil ?_
  refine then_n ?_
  refine wp_block ?_
  refine c_loop (fun dN aN wl => ∃ (k : Nat), dN = (min a.length b.length - k) ∧ ∃ f3, aN = fr 31 f3 ∧ (k ≤ min a.length b.length) ∧ f3 0 = .string (str a) ∧ f3 1 = .string (str b) ∧ f3 4 = .string (str ([] : List (BitVec 8))) ∧ f3 5 = .slice (some ⟨b_12, 0, none⟩) (min a.length b.length) (min a.length b.length) ∧ f3 14 = .int .i64 (((min a.length b.length) : Nat) : Int) ∧ f3 15 = .int .i64 ((k : Nat) : Int) ∧ Row wl b_12 5 (min a.length b.length) (fun j => if j < k then (fun j => U8 (gb a j ^^^ gb b j)) j else (fun j => U8 (0#8)) j) ∧ Below w0.heap.size w0 wl) (min a.length b.length - 0) ?_ ?_
  · exact ⟨0, rfl, _, rfl, (by first | omega | with_reducible rfl | assumption | trivial | exact ⟨rfl, rfl⟩ | simp), rfl, rfl, rfl, rfl, rfl, (Eq.trans (b := .int .i64 0) rfl (by first | with_reducible rfl | (with_reducible congr 1 <;> omega) | (with_reducible congr 2 <;> omega) | (with_reducible congr 3 <;> omega) | rfl)), (r_b_12.congr (fun j hj => by (first | with_reducible rfl | (dsimp only; done) | ((try dsimp only); (repeat' split) <;> first | with_reducible rfl | (exfalso; omega) | (subst_vars; with_reducible rfl) | (subst_vars; simp only [Nat.add_sub_cancel_left, Nat.add_sub_cancel, Nat.sub_self, Nat.sub_zero]; done) | (with_reducible congr 1 <;> omega) | (with_reducible congr 2 <;> omega) | (with_reducible congr 3 <;> omega) | rfl | (subst_vars; rfl))))), hk⟩
  · skip
    clear r_b_12 hk
    rintro _ _ w4 ⟨k, rfl, f3, rfl, i1_0, s1_0, s1_1, s1_4, s1_5, s1_14, s1_15, r_b_12, hk⟩
    refine wp_seq ?_
    refine wp_region_lit ?_
    refine w_val (v := .bool (decide (((k : Nat) : Int) < (((min a.length b.length) : Nat) : Int)))) (y_bin (Ev.t (v := .int .i64 ((k : Nat) : Int)) s1_15 rfl) (Ev.t (v := .int .i64 (((min a.length b.length) : Nat) : Int)) s1_14 rfl) b_lss) ?_
    refine wpList_nil ?_
    refine then_n ?_
    refine wp_seq ?_
    refine c_if (p := ((k : Nat) : Int) < (((min a.length b.length) : Nat) : Int)) (Ev.t (v := .bool (decide (((k : Nat) : Int) < (((min a.length b.length) : Nat) : Int)))) rfl rfl) (fun hc5 => ?_) (fun hc5 => ?_)
    · skip
      refine wp_skip ?_
      refine then_n ?_
      refine wp_seq ?_
      refine wp_block ?_
      refine wp_seq ?_
      refine wp_region_lit ?_
      refine w_val (v := .int .i64 ((k : Nat) : Int)) (y_mv (Ev.t (v := .int .i64 ((k : Nat) : Int)) s1_15 rfl)) ?_
      refine w_val (v := .int .i64 ((k : Nat) : Int)) (y_as (Ev.t (v := .int .i64 ((k : Nat) : Int)) rfl rfl)) ?_
      refine wpList_nil ?_
      refine then_n ?_
      refine region_t 10 OctWT.mixed (by kernel_rfl) ?_
      simp only [List.take_succ_cons, List.take_zero, List.drop_succ_cons, List.drop_zero]
      refine q_val (v := .slice (some ⟨b_12, 0, none⟩) (min a.length b.length) (min a.length b.length)) (fun w' hw' => y_mv (Ev.t (v := .slice (some ⟨b_12, 0, none⟩) (min a.length b.length) (min a.length b.length)) s1_5 rfl)) ?_
      refine q_val (v := .int .i64 ((k : Nat) : Int)) (fun w' hw' => y_mv (Ev.t (v := .int .i64 ((k : Nat) : Int)) rfl rfl)) ?_
      refine q_val (v := .string (str a)) (fun w' hw' => y_mv (Ev.t (v := .string (str a)) s1_0 rfl)) ?_
      refine q_val (v := .int .i64 ((k : Nat) : Int)) (fun w' hw' => y_mv (Ev.t (v := .int .i64 ((k : Nat) : Int)) rfl rfl)) ?_
      refine q_val (v := U8 (gb a k)) (fun w' hw' => y_idx (Ev.t (v := .string (str a)) rfl rfl) (Ev.t (v := .int .i64 ((k : Nat) : Int)) rfl rfl) Try.underlying9 (by omega) (by omega)) ?_
      refine q_val (v := .string (str b)) (fun w' hw' => y_mv (Ev.t (v := .string (str b)) s1_1 rfl)) ?_
      refine q_val (v := .int .i64 ((k : Nat) : Int)) (fun w' hw' => y_mv (Ev.t (v := .int .i64 ((k : Nat) : Int)) rfl rfl)) ?_
      refine q_val (v := U8 (gb b k)) (fun w' hw' => y_idx (Ev.t (v := .string (str b)) rfl rfl) (Ev.t (v := .int .i64 ((k : Nat) : Int)) rfl rfl) Try.underlying9 (by omega) (by omega)) ?_
      refine q_val (v := U8 ((gb a k) ^^^ (gb b k))) (fun w' hw' => y_bin (Ev.t (v := U8 (gb a k)) rfl rfl) (Ev.t (v := U8 (gb b k)) rfl rfl) xor8) ?_
      refine q_val (v := .pointer (some ⟨b_12, k, none⟩)) (fun w' hw' => y_is1z (i := k) (Ev.t (v := .slice (some ⟨b_12, 0, none⟩) (min a.length b.length) (min a.length b.length)) rfl rfl) (Ev.t (v := .int .i64 ((k : Nat) : Int)) rfl rfl) Try.underlying47 OctWT.sz5 (by omega) (by omega)) ?_
      refine q_nil ?_
      intro w6 hb7
      replace r_b_12 := r_b_12.step hb7
      replace hk := thenB hk hb7
      refine w_st (v := U8 ((gb a k) ^^^ (gb b k))) (Ev.t (v := .pointer (some ⟨b_12, k, none⟩)) rfl rfl) (Ev.t (v := U8 ((gb a k) ^^^ (gb b k))) rfl rfl) rfl rfl OctWT.sz5 r_b_12 (by omega) ?_
      clear r_b_12; intro w8 r_b_12 hg9 _
      replace hk := thenG hk hg9 (by omega)
      refine wpList_nil ?_
      refine inb_n ?_
      refine then_n ?_
      refine wp_region_lit ?_
      refine w_val (v := .int .i64 (((k : Nat) : Int) + 1)) (y_bin (Ev.t (v := .int .i64 ((k : Nat) : Int)) s1_15 rfl) (Ev.c (v := .int .i64 1)) (b_add (by omega))) ?_
      refine w_val (v := .int .i64 (((k : Nat) : Int) + 1)) (y_mv (Ev.t (v := .int .i64 (((k : Nat) : Int) + 1)) rfl rfl)) ?_
      refine wpList_nil ?_
      exact then_n ⟨_, (by omega), k + 1, rfl, _, rfl, (by first | omega | with_reducible rfl | assumption | trivial | simp), s1_0, s1_1, s1_4, s1_5, s1_14, (Eq.trans (b := .int .i64 (((k : Nat) : Int) + 1)) rfl (by first | with_reducible rfl | (with_reducible congr 1 <;> omega) | (with_reducible congr 2 <;> omega) | (with_reducible congr 3 <;> omega) | rfl)), (r_b_12.congr (fun j hj => by (first | with_reducible rfl | (dsimp only; done) | ((try dsimp only); (repeat' split) <;> first | with_reducible rfl | (exfalso; omega) | (subst_vars; with_reducible rfl) | (subst_vars; simp only [Nat.add_sub_cancel_left, Nat.add_sub_cancel, Nat.sub_self, Nat.sub_zero]; done) | (with_reducible congr 1 <;> omega) | (with_reducible congr 2 <;> omega) | (with_reducible congr 3 <;> omega) | rfl | (subst_vars; rfl))))), hk⟩
    · skip
      refine wp_exit ?_
      refine then_x ?_
      replace r_b_12 := r_b_12.congr (g := fun j => U8 (gb (Oct.xor a b) j)) (fun j hj => by (try dsimp only); rw [if_pos (by omega), Oct.gb_xor a b j (by omega)])
      refine then_x ?_
      refine inb_x ?_
      refine then_n ?_
      refine wp_seq ?_
      refine wp_region_lit ?_
      refine w_val (v := .slice (some ⟨b_12, 0, none⟩) (min a.length b.length) (min a.length b.length)) (y_mv (Ev.t (v := .slice (some ⟨b_12, 0, none⟩) (min a.length b.length) (min a.length b.length)) s1_5 rfl)) ?_
      refine w_val (v := .string (str (Oct.xor a b))) (y_str (l := Oct.xor a b) (Ev.t (v := .slice (some ⟨b_12, 0, none⟩) (min a.length b.length) (min a.length b.length)) rfl rfl) (by first | rfl | assumption | (simp; omega) | omega) Try.underlying47 Try.underlying5 Try.underlying9 (fun j hj => by rw [Nat.zero_add]; exact (r_b_12.cell (by omega)))) ?_
      refine w_val (v := .string (str (Oct.xor a b))) (y_as (Ev.t (v := .string (str (Oct.xor a b))) rfl rfl)) ?_
      refine wpList_nil ?_
      refine then_n ?_
      refine wp_ret ?_
      refine fin_ret1 rfl (Ev.t (v := .string (str (Oct.xor a b))) rfl rfl) ?_
      exact ⟨rfl, hk⟩

set_option maxRecDepth 100000 in
set_option maxHeartbeats 1000000 in
theorem refXor_c (a b : List (BitVec 8)) (ha : a.length ≤ 140737488351232) (w0 : World) : Calls Try.prog 30 #[.string (str a), .string (str b)] w0 fun e w' => e = .returned (.string (str (Oct.xor a b))) ∧ Below w0.heap.size w0 w' := by
  have hlx := Oct.length_xor a b
  refine enter (n := 31) Try.func30 rfl rfl rfl ?_
  have hk : Below w0.heap.size w0 w0 := Below.refl _ _
  refine wp_seq ?_
  refine wp_region_lit ?_
  refine w_val (v := .string (str ([] : List (BitVec 8)))) (y_as (Ev.c (v := .string (str ([] : List (BitVec 8)))))) ?_
  refine wpList_nil ?_
  refine then_n ?_
  refine wp_seq ?_
  refine wp_region_lit ?_
  refine w_val (v := .slice none 0 0) (y_as (Ev.c (v := .slice none 0 0))) ?_
  refine wpList_nil ?_
  refine then_n ?_
  refine wp_seq ?_
  refine wp_seq ?_
  refine wp_region_lit ?_
  refine w_val (v := .int .i64 0) (y_as (Ev.c (v := .int .i64 0))) ?_
  refine wpList_nil ?_
  refine then_n ?_
  refine wp_block ?_
  refine c_loop (fun dN aN wl => ∃ (k : Nat) (vo : Value), dN = (min a.length b.length - k) ∧ ∃ f1, aN = fr 31 f1 ∧ (k ≤ min a.length b.length) ∧ f1 0 = .string (str a) ∧ f1 1 = .string (str b) ∧ f1 4 = .string (str ([] : List (BitVec 8))) ∧ f1 5 = vo ∧ f1 6 = .int .i64 ((k : Nat) : Int) ∧ Own wl w0.heap.size 5 1 vo k (fun j => U8 (gb a j ^^^ gb b j)) ∧ Below w0.heap.size w0 wl) (min a.length b.length - 0) ?_ ?_
  · exact ⟨0, (.slice none 0 0), rfl, _, rfl, (by first | omega | with_reducible rfl | assumption | trivial | exact ⟨rfl, rfl⟩ | simp), rfl, rfl, rfl, (Eq.trans (b := .slice none 0 0) rfl (by first | with_reducible rfl | (with_reducible congr 1 <;> omega) | (with_reducible congr 2 <;> omega) | (with_reducible congr 3 <;> omega) | rfl)), (Eq.trans (b := .int .i64 0) rfl (by first | with_reducible rfl | (with_reducible congr 1 <;> omega) | (with_reducible congr 2 <;> omega) | (with_reducible congr 3 <;> omega) | rfl)), Own.nil, hk⟩
  · skip
    clear hk
    rintro _ _ w2 ⟨k, vo, rfl, f1, rfl, i1_0, s1_0, s1_1, s1_4, s1_5, s1_6, o_vo, hk⟩
    refine wp_seq ?_
    refine wp_seq ?_
    refine wp_region_lit ?_
    refine w_val (v := .int .i64 ((k : Nat) : Int)) (y_mv (Ev.t (v := .int .i64 ((k : Nat) : Int)) s1_6 rfl)) ?_
    refine w_val (v := .string (str a)) (y_mv (Ev.t (v := .string (str a)) s1_0 rfl)) ?_
    refine w_val (v := .int .i64 ((a.length : Nat) : Int)) (y_len (Ev.t (v := .string (str a)) rfl rfl) Try.underlying9) ?_
    refine w_val (v := .bool (decide (((k : Nat) : Int) < ((a.length : Nat) : Int)))) (y_bin (Ev.t (v := .int .i64 ((k : Nat) : Int)) rfl rfl) (Ev.t (v := .int .i64 ((a.length : Nat) : Int)) rfl rfl) b_lss) ?_
    refine w_val (v := .bool (decide (((k : Nat) : Int) < ((a.length : Nat) : Int)))) (y_mv (Ev.t (v := .bool (decide (((k : Nat) : Int) < ((a.length : Nat) : Int)))) rfl rfl)) ?_
    by_cases hc3 : ((k : Nat) : Int) < ((a.length : Nat) : Int)
    · skip
      refine w_val_g (v := .int .i64 ((k : Nat) : Int)) (want_yes (j := 4) rfl rfl (Ev.t (v := .bool true) (Eq.trans (b := .bool (decide (((k : Nat) : Int) < ((a.length : Nat) : Int)))) rfl (by rw [decide_eq_true hc3])) rfl) rfl) (y_mv (Ev.t (v := .int .i64 ((k : Nat) : Int)) s1_6 rfl)) ?_
      refine w_val_g (v := .string (str b)) (want_yes (j := 4) rfl rfl (Ev.t (v := .bool true) (Eq.trans (b := .bool (decide (((k : Nat) : Int) < ((a.length : Nat) : Int)))) rfl (by rw [decide_eq_true hc3])) rfl) rfl) (y_mv (Ev.t (v := .string (str b)) s1_1 rfl)) ?_
      refine w_val_g (v := .int .i64 ((b.length : Nat) : Int)) (want_yes (j := 4) rfl rfl (Ev.t (v := .bool true) (Eq.trans (b := .bool (decide (((k : Nat) : Int) < ((a.length : Nat) : Int)))) rfl (by rw [decide_eq_true hc3])) rfl) rfl) (y_len (Ev.t (v := .string (str b)) rfl rfl) Try.underlying9) ?_
      refine w_val_g (v := .bool (decide (((k : Nat) : Int) < ((b.length : Nat) : Int)))) (want_yes (j := 4) rfl rfl (Ev.t (v := .bool true) (Eq.trans (b := .bool (decide (((k : Nat) : Int) < ((a.length : Nat) : Int)))) rfl (by rw [decide_eq_true hc3])) rfl) rfl) (y_bin (Ev.t (v := .int .i64 ((k : Nat) : Int)) rfl rfl) (Ev.t (v := .int .i64 ((b.length : Nat) : Int)) rfl rfl) b_lss) ?_
      refine w_val (v := .bool (decide (((k : Nat) : Int) < ((b.length : Nat) : Int)))) (y_pick_t (Ev.t (v := .bool true) (Eq.trans (b := .bool (decide (((k : Nat) : Int) < ((a.length : Nat) : Int)))) rfl (by rw [decide_eq_true hc3])) rfl) (Ev.t (v := .bool (decide (((k : Nat) : Int) < ((b.length : Nat) : Int)))) rfl rfl)) ?_
      refine wpList_nil ?_
      refine then_n ?_
      refine c_if (p := ((k : Nat) : Int) < ((b.length : Nat) : Int)) (Ev.t (v := .bool (decide (((k : Nat) : Int) < ((b.length : Nat) : Int)))) rfl rfl) (fun hc4 => ?_) (fun hc4 => ?_)
      · skip
        refine wp_skip ?_
        refine then_n ?_
        refine wp_seq ?_
        refine wp_block ?_
        refine region_dc (Nat.testBit 1536) 11 OctWT.mixed rfl ?_
        intro w5 hb6
        replace o_vo := o_vo.step hb6
        replace hk := thenB hk hb6
        have hS : Cls w5 w5 := Below.refl _ _
        refine d_pure (v := vo) 0 rfl (by kernel_rfl) (by kernel_rfl) (by kernel_rfl) (by kernel_rfl) (fun _ _ _ h => h) (fun w' => y_mv (Ev.t (v := vo) s1_5 rfl)) ?_
        refine d_pure (v := .string (str a)) 1 rfl (by kernel_rfl) (by kernel_rfl) (by kernel_rfl) (by kernel_rfl) (fun _ _ _ h => h) (fun w' => y_mv (Ev.t (v := .string (str a)) s1_0 rfl)) ?_
        refine d_pure (v := .int .i64 ((k : Nat) : Int)) 2 rfl (by kernel_rfl) (by kernel_rfl) (by kernel_rfl) (by kernel_rfl) (fun _ _ _ h => h) (fun w' => y_mv (Ev.t (v := .int .i64 ((k : Nat) : Int)) s1_6 rfl)) ?_
        refine d_pure (v := U8 (gb a k)) 3 rfl (by kernel_rfl) (by kernel_rfl) (by kernel_rfl) (by kernel_rfl) (fun _ _ _ h => h) (fun w' => y_idx (Ev.t (v := .string (str a)) rfl rfl) (Ev.t (v := .int .i64 ((k : Nat) : Int)) rfl rfl) Try.underlying9 (by omega) (by omega)) ?_
        refine d_pure (v := .string (str b)) 4 rfl (by kernel_rfl) (by kernel_rfl) (by kernel_rfl) (by kernel_rfl) (fun _ _ _ h => h) (fun w' => y_mv (Ev.t (v := .string (str b)) s1_1 rfl)) ?_
        refine d_pure (v := .int .i64 ((k : Nat) : Int)) 5 rfl (by kernel_rfl) (by kernel_rfl) (by kernel_rfl) (by kernel_rfl) (fun _ _ _ h => h) (fun w' => y_mv (Ev.t (v := .int .i64 ((k : Nat) : Int)) s1_6 rfl)) ?_
        refine d_pure (v := U8 (gb b k)) 6 rfl (by kernel_rfl) (by kernel_rfl) (by kernel_rfl) (by kernel_rfl) (fun _ _ _ h => h) (fun w' => y_idx (Ev.t (v := .string (str b)) rfl rfl) (Ev.t (v := .int .i64 ((k : Nat) : Int)) rfl rfl) Try.underlying9 (by omega) (by omega)) ?_
        refine d_pure (v := U8 ((gb a k) ^^^ (gb b k))) 7 rfl (by kernel_rfl) (by kernel_rfl) (by kernel_rfl) (by kernel_rfl) (fun _ _ _ h => h) (fun w' => y_bin (Ev.t (v := U8 (gb a k)) rfl rfl) (Ev.t (v := U8 (gb b k)) rfl rfl) xor8) ?_
        refine d_one 8 (by kernel_rfl) rfl ?_
        refine w_bs1 (m := 1) (e := 5) (F := fun j => U8 ((gb a k) ^^^ (gb b k))) (Ev.t (v := U8 ((gb a k) ^^^ (gb b k))) rfl rfl) (fun w => by kernel_rfl) ?_
        intro b_27 w7 hbe_b_27 r_b_27 hb8
        have no_vo_b_27 : vo.ownBlock ≠ some b_27 := o_vo.apart (by omega)
        have ge_b_27 : w0.heap.size ≤ b_27 := by have := hk.size; omega
        clear hbe_b_27
        replace o_vo := o_vo.step hb8
        replace hk := thenB hk hb8
        replace hS := thenB hS hb8
        refine wpList_nil ?_
        refine then_n ⟨fun _ h => thenB h (by assumption), ?_⟩
        refine d_one 9 (by kernel_rfl) rfl ?_
        refine w_app (k := k) (m := 1) (size := 1) (bytes := 1) (Ev.t (v := vo) rfl rfl) (Ev.t (v := .slice (some ⟨b_27, 0, none⟩) 1 1) rfl rfl) Try.underlying47 (by kernel_rfl) (by decide) o_vo hk.size r_b_27 (by omega) (fun j => by first | exact U8.oneCell _ | exact U32.oneCell _ | exact U64.oneCell _ | rfl | ((try dsimp only); (repeat' split) <;> rfl)) (by simp only [maxLen]; omega) (by omega) ?_
        intro v9 w10 o_v9 hg11 hv12
        have no_v9_b_27 := no_new no_vo_b_27 r_b_27.lt hv12
        replace r_b_27 := r_b_27.stepO hg11 no_vo_b_27
        replace hk := thenO hk hg11 (fun g e => (o_vo.block_lt g e).2)
        clear o_vo
        clear hS
        refine wpList_nil ?_
        refine then_n ⟨fun hD => absurd hD (by decide), ?_⟩
        refine d_one 10 (by kernel_rfl) rfl ?_
        refine w_val (v := v9) (y_as (Ev.t (v := v9) rfl rfl)) ?_
        refine wpList_nil ?_
        refine then_n ⟨fun hD => absurd hD (by decide), ?_⟩
        refine d_done (by kernel_rfl) ?_
        refine inb_n ?_
        refine then_n ?_
        refine wp_region_lit ?_
        refine w_val (v := .int .i64 ((k : Nat) : Int)) (y_mv (Ev.t (v := .int .i64 ((k : Nat) : Int)) s1_6 rfl)) ?_
        refine w_val (v := .int .i64 (((k : Nat) : Int) + 1)) (y_bin (Ev.t (v := .int .i64 ((k : Nat) : Int)) rfl rfl) (Ev.c (v := .int .i64 1)) (b_add (by omega))) ?_
        refine w_val (v := .int .i64 (((k : Nat) : Int) + 1)) (y_as (Ev.t (v := .int .i64 (((k : Nat) : Int) + 1)) rfl rfl)) ?_
        refine wpList_nil ?_
        exact then_n ⟨_, (by omega), k + 1, v9, rfl, _, rfl, (by first | omega | with_reducible rfl | assumption | trivial | simp), s1_0, s1_1, s1_4, rfl, (Eq.trans (b := .int .i64 (((k : Nat) : Int) + 1)) rfl (by first | with_reducible rfl | (with_reducible congr 1 <;> omega) | (with_reducible congr 2 <;> omega) | (with_reducible congr 3 <;> omega) | rfl)), (own_n (o_v9.congr (fun j hj => by (first | with_reducible rfl | (dsimp only; done) | ((try dsimp only); (repeat' split) <;> first | with_reducible rfl | (exfalso; omega) | (subst_vars; with_reducible rfl) | (subst_vars; simp only [Nat.add_sub_cancel_left, Nat.add_sub_cancel, Nat.sub_self, Nat.sub_zero]; done) | (with_reducible congr 1 <;> omega) | (with_reducible congr 2 <;> omega) | (with_reducible congr 3 <;> omega) | rfl | (subst_vars; rfl))))) (by omega)), hk⟩
      · skip
        refine wp_exit ?_
        refine then_x ?_
        refine then_x ?_
        refine inb_x ?_
        refine then_n ?_
        refine wp_seq ?_
        refine wp_region_lit ?_
        refine w_val (v := vo) (y_mv (Ev.t (v := vo) s1_5 rfl)) ?_
        refine w_val (v := .string (str (Oct.xor a b))) (y_strown (l := Oct.xor a b) (Ev.t (v := vo) rfl rfl) o_vo  (by exact (by rw [Oct.length_xor]; omega)) (fun j hj => by exact (by rw [Oct.gb_xor a b j (by omega)])) Try.underlying47 Try.underlying5 Try.underlying9) ?_
        refine w_val (v := .string (str (Oct.xor a b))) (y_as (Ev.t (v := .string (str (Oct.xor a b))) rfl rfl)) ?_
        refine wpList_nil ?_
        refine then_n ?_
        refine wp_ret ?_
        refine fin_ret1 rfl (Ev.t (v := .string (str (Oct.xor a b))) rfl rfl) ?_
        exact ⟨rfl, hk⟩
    · skip
      first | with_reducible refine w_skip ?_ ?_ | refine w_skip ?_ ?_
      · exact want_no (j := 4) rfl rfl (Ev.t (v := .bool false) (Eq.trans (b := .bool (decide (((k : Nat) : Int) < ((a.length : Nat) : Int)))) rfl (by rw [decide_eq_false hc3])) rfl) rfl
      first | with_reducible refine w_skip ?_ ?_ | refine w_skip ?_ ?_
      · exact want_no (j := 4) rfl rfl (Ev.t (v := .bool false) (Eq.trans (b := .bool (decide (((k : Nat) : Int) < ((a.length : Nat) : Int)))) rfl (by rw [decide_eq_false hc3])) rfl) rfl
      first | with_reducible refine w_skip ?_ ?_ | refine w_skip ?_ ?_
      · exact want_no (j := 4) rfl rfl (Ev.t (v := .bool false) (Eq.trans (b := .bool (decide (((k : Nat) : Int) < ((a.length : Nat) : Int)))) rfl (by rw [decide_eq_false hc3])) rfl) rfl
      first | with_reducible refine w_skip ?_ ?_ | refine w_skip ?_ ?_
      · exact want_no (j := 4) rfl rfl (Ev.t (v := .bool false) (Eq.trans (b := .bool (decide (((k : Nat) : Int) < ((a.length : Nat) : Int)))) rfl (by rw [decide_eq_false hc3])) rfl) rfl
      refine w_val (v := .bool false) (y_pick_f (Ev.t (v := .bool false) (Eq.trans (b := .bool (decide (((k : Nat) : Int) < ((a.length : Nat) : Int)))) rfl (by rw [decide_eq_false hc3])) rfl) (Ev.c (v := .bool false))) ?_
      refine wpList_nil ?_
      refine then_n ?_
      refine c_ff (Ev.t (v := .bool false) rfl rfl) ?_
      refine wp_exit ?_
      refine then_x ?_
      refine then_x ?_
      refine inb_x ?_
      refine then_n ?_
      refine wp_seq ?_
      refine wp_region_lit ?_
      refine w_val (v := vo) (y_mv (Ev.t (v := vo) s1_5 rfl)) ?_
      refine w_val (v := .string (str (Oct.xor a b))) (y_strown (l := Oct.xor a b) (Ev.t (v := vo) rfl rfl) o_vo  (by exact (by rw [Oct.length_xor]; omega)) (fun j hj => by exact (by rw [Oct.gb_xor a b j (by omega)])) Try.underlying47 Try.underlying5 Try.underlying9) ?_
      refine w_val (v := .string (str (Oct.xor a b))) (y_as (Ev.t (v := .string (str (Oct.xor a b))) rfl rfl)) ?_
      refine wpList_nil ?_
      refine then_n ?_
      refine wp_ret ?_
      refine fin_ret1 rfl (Ev.t (v := .string (str (Oct.xor a b))) rfl rfl) ?_
      exact ⟨rfl, hk⟩

set_option maxRecDepth 100000 in
set_option maxHeartbeats 1000000 in
theorem put_c (n : BitVec 64) (q : Nat) (hq : 1 ≤ q) (h8 : q ≤ 8) (hn : q < 8 → n >>> (8 * q) = 0#64) (w0 : World) : Calls Try.prog 47 #[U64 n, .int .i64 ((q : Nat) : Int)] w0 fun e w' => e = .returned (.tuple #[.string (str (Oct.be n q)), .int .i64 0]) ∧ Below w0.heap.size w0 w' := by
  have hlb := Oct.length_be n q
  refine enter (n := 45) Try.func47 rfl rfl rfl ?_
  have hk : Below w0.heap.size w0 w0 := Below.refl _ _
  refine wp_seq ?_
  refine wp_region_lit ?_
  refine w_val (v := .string (str ([] : List (BitVec 8)))) (y_as (Ev.c (v := .string (str ([] : List (BitVec 8)))))) ?_
  refine w_val (v := .int .i64 0) (y_as (Ev.c (v := .int .i64 0))) ?_
  refine wpList_nil ?_
  refine then_n ?_
  refine wp_seq ?_
  refine wp_seq ?_
  refine wp_region_lit ?_
  refine w_val (v := .int .i64 ((q : Nat) : Int)) (y_mv (Ev.t (v := .int .i64 ((q : Nat) : Int)) rfl rfl)) ?_
  refine w_val (v := .bool (decide (((q : Nat) : Int) < 1))) (y_bin (Ev.t (v := .int .i64 ((q : Nat) : Int)) rfl rfl) (Ev.c (v := .int .i64 1)) b_lss) ?_
  refine w_val (v := .bool (decide (((q : Nat) : Int) < 1))) (y_mv (Ev.t (v := .bool (decide (((q : Nat) : Int) < 1))) rfl rfl)) ?_
  have hc1 : ¬ (((q : Nat) : Int) < 1) := by omega
  refine w_val_g (v := .int .i64 ((q : Nat) : Int)) (want_yes (j := 2) rfl rfl (Ev.t (v := .bool false) (Eq.trans (b := .bool (decide (((q : Nat) : Int) < 1))) rfl (by rw [decide_eq_false hc1])) rfl) rfl) (y_mv (Ev.t (v := .int .i64 ((q : Nat) : Int)) rfl rfl)) ?_
  refine w_val_g (v := .bool (decide (8 < ((q : Nat) : Int)))) (want_yes (j := 2) rfl rfl (Ev.t (v := .bool false) (Eq.trans (b := .bool (decide (((q : Nat) : Int) < 1))) rfl (by rw [decide_eq_false hc1])) rfl) rfl) (y_bin (Ev.t (v := .int .i64 ((q : Nat) : Int)) rfl rfl) (Ev.c (v := .int .i64 8)) b_gtr) ?_
  refine w_val (v := .bool (decide (8 < ((q : Nat) : Int)))) (y_pick_f (Ev.t (v := .bool false) (Eq.trans (b := .bool (decide (((q : Nat) : Int) < 1))) rfl (by rw [decide_eq_false hc1])) rfl) (Ev.t (v := .bool (decide (8 < ((q : Nat) : Int)))) rfl rfl)) ?_
  refine w_val (v := .bool (decide (8 < ((q : Nat) : Int)))) (y_mv (Ev.t (v := .bool (decide (8 < ((q : Nat) : Int)))) rfl rfl)) ?_
  have hc2 : ¬ (8 < ((q : Nat) : Int)) := by omega
  refine w_val_g (v := .int .i64 ((q : Nat) : Int)) (want_yes (j := 6) rfl rfl (Ev.t (v := .bool false) (Eq.trans (b := .bool (decide (8 < ((q : Nat) : Int)))) rfl (by rw [decide_eq_false hc2])) rfl) rfl) (y_mv (Ev.t (v := .int .i64 ((q : Nat) : Int)) rfl rfl)) ?_
  refine w_val_g (v := .bool (decide (((q : Nat) : Int) < 8))) (want_yes (j := 6) rfl rfl (Ev.t (v := .bool false) (Eq.trans (b := .bool (decide (8 < ((q : Nat) : Int)))) rfl (by rw [decide_eq_false hc2])) rfl) rfl) (y_bin (Ev.t (v := .int .i64 ((q : Nat) : Int)) rfl rfl) (Ev.c (v := .int .i64 8)) b_lss) ?_
  refine w_val_g (v := .bool (decide (((q : Nat) : Int) < 8))) (want_yes (j := 6) rfl rfl (Ev.t (v := .bool false) (Eq.trans (b := .bool (decide (8 < ((q : Nat) : Int)))) rfl (by rw [decide_eq_false hc2])) rfl) rfl) (y_mv (Ev.t (v := .bool (decide (((q : Nat) : Int) < 8))) rfl rfl)) ?_
  by_cases hc3 : ((q : Nat) : Int) < 8
  · skip
    refine w_val_g (v := U64 n) (want_yes (j := 9) rfl rfl (Ev.t (v := .bool true) (Eq.trans (b := .bool (decide (((q : Nat) : Int) < 8))) rfl (by rw [decide_eq_true hc3])) rfl) rfl) (y_mv (Ev.t (v := U64 n) rfl rfl)) ?_
    refine w_val_g (v := .int .i64 ((q : Nat) : Int)) (want_yes (j := 9) rfl rfl (Ev.t (v := .bool true) (Eq.trans (b := .bool (decide (((q : Nat) : Int) < 8))) rfl (by rw [decide_eq_true hc3])) rfl) rfl) (y_mv (Ev.t (v := .int .i64 ((q : Nat) : Int)) rfl rfl)) ?_
    refine w_val_g (v := .int .i64 (8 * ((q : Nat) : Int))) (want_yes (j := 9) rfl rfl (Ev.t (v := .bool true) (Eq.trans (b := .bool (decide (((q : Nat) : Int) < 8))) rfl (by rw [decide_eq_true hc3])) rfl) rfl) (y_bin (Ev.c (v := .int .i64 8)) (Ev.t (v := .int .i64 ((q : Nat) : Int)) rfl rfl) (b_mul (by omega))) ?_
    refine w_val_g (v := U64 (n >>> (8 * q))) (want_yes (j := 9) rfl rfl (Ev.t (v := .bool true) (Eq.trans (b := .bool (decide (((q : Nat) : Int) < 8))) rfl (by rw [decide_eq_true hc3])) rfl) rfl) (y_bin (Ev.t (v := U64 n) rfl rfl) (Ev.t (v := .int .i64 (8 * ((q : Nat) : Int))) rfl rfl) (shr64 (c := (8 * q)) (by omega))) ?_
    refine w_val_g (v := .bool (decide ((n >>> (8 * q)) ≠ (0#64)))) (want_yes (j := 9) rfl rfl (Ev.t (v := .bool true) (Eq.trans (b := .bool (decide (((q : Nat) : Int) < 8))) rfl (by rw [decide_eq_true hc3])) rfl) rfl) (y_bin (Ev.t (v := U64 (n >>> (8 * q))) rfl rfl) (Ev.c (v := U64 (0#64))) neq64) ?_
    refine w_val_g (v := .bool (decide ((n >>> (8 * q)) ≠ (0#64)))) (want_yes (j := 6) rfl rfl (Ev.t (v := .bool false) (Eq.trans (b := .bool (decide (8 < ((q : Nat) : Int)))) rfl (by rw [decide_eq_false hc2])) rfl) rfl) (y_pick_t (Ev.t (v := .bool true) (Eq.trans (b := .bool (decide (((q : Nat) : Int) < 8))) rfl (by rw [decide_eq_true hc3])) rfl) (Ev.t (v := .bool (decide ((n >>> (8 * q)) ≠ (0#64)))) rfl rfl)) ?_
    refine w_val (v := .bool (decide ((n >>> (8 * q)) ≠ (0#64)))) (y_pick_f (Ev.t (v := .bool false) (Eq.trans (b := .bool (decide (8 < ((q : Nat) : Int)))) rfl (by rw [decide_eq_false hc2])) rfl) (Ev.t (v := .bool (decide ((n >>> (8 * q)) ≠ (0#64)))) rfl rfl)) ?_
    refine wpList_nil ?_
    refine then_n ?_
    have hc4 : ¬ ((n >>> (8 * q)) ≠ (0#64)) := by exact fun h => h (hn (by omega))
    refine c_f (p := (n >>> (8 * q)) ≠ (0#64)) (Ev.t (v := .bool (decide ((n >>> (8 * q)) ≠ (0#64)))) rfl rfl) hc4 ?_
    refine wp_skip ?_
    refine then_n ?_
    refine wp_seq ?_
    refine wp_region_lit ?_
    refine w_val (v := .int .i64 ((q : Nat) : Int)) (y_mv (Ev.t (v := .int .i64 ((q : Nat) : Int)) rfl rfl)) ?_
    refine w_mks (m := q) (bytes := 1) (zv := U8 (0#8)) (Ev.t (v := .int .i64 ((q : Nat) : Int)) rfl rfl) (Ev.t (v := .int .i64 ((q : Nat) : Int)) rfl rfl) (by omega) (by omega) Try.underlying47 (by kernel_rfl) rfl (by omega) (by omega) ?_
    intro b_26 w5 hbe_b_26 r_b_26 hb6
    have ge_b_26 : w0.heap.size ≤ b_26 := by have := hk.size; omega
    clear hbe_b_26
    replace hk := thenB hk hb6
    refine w_val (v := .slice (some ⟨b_26, 0, none⟩) q q) (y_as (Ev.t (v := .slice (some ⟨b_26, 0, none⟩) q q) rfl rfl)) ?_
    refine wpList_nil ?_
    refine then_n ?_
    refine wp_seq ?_
    refine wp_seq ?_
    refine wp_region_lit ?_
    refine w_val (v := .int .i64 ((q : Nat) : Int)) (y_mv (Ev.t (v := .int .i64 ((q : Nat) : Int)) rfl rfl)) ?_
    refine w_val (v := .int .i64 0) (y_mv (Ev.c (v := .int .i64 0))) ?_
    refine wpList_nil ?_
    refine then_n ?_
    refine wp_block ?_
    refine c_loop (fun dN aN wl => ∃ (k : Nat), dN = (q - k) ∧ ∃ f7, aN = fr 45 f7 ∧ (k ≤ q) ∧ f7 0 = U64 n ∧ f7 1 = .int .i64 ((q : Nat) : Int) ∧ f7 4 = .string (str ([] : List (BitVec 8))) ∧ f7 5 = .int .i64 0 ∧ f7 6 = .slice (some ⟨b_26, 0, none⟩) q q ∧ f7 27 = .int .i64 ((q : Nat) : Int) ∧ f7 28 = .int .i64 ((k : Nat) : Int) ∧ Row wl b_26 5 q (fun j => if q ≤ j + k then (fun j => U8 (gb (Oct.be n q) j)) j else (fun j => U8 (0#8)) j) ∧ Below w0.heap.size w0 wl) (q - 0) ?_ ?_
    · exact ⟨0, rfl, _, rfl, (by first | omega | with_reducible rfl | assumption | trivial | exact ⟨rfl, rfl⟩ | simp), rfl, rfl, rfl, rfl, rfl, rfl, (Eq.trans (b := .int .i64 0) rfl (by first | with_reducible rfl | (with_reducible congr 1 <;> omega) | (with_reducible congr 2 <;> omega) | (with_reducible congr 3 <;> omega) | rfl)), (r_b_26.congr (fun j hj => by (first | with_reducible rfl | (dsimp only; done) | ((try dsimp only); (repeat' split) <;> first | with_reducible rfl | (exfalso; omega) | (subst_vars; with_reducible rfl) | (subst_vars; simp only [Nat.add_sub_cancel_left, Nat.add_sub_cancel, Nat.sub_self, Nat.sub_zero]; done) | (with_reducible congr 1 <;> omega) | (with_reducible congr 2 <;> omega) | (with_reducible congr 3 <;> omega) | rfl | (subst_vars; rfl))))), hk⟩
    · skip
      clear r_b_26 hk
      rintro _ _ w8 ⟨k, rfl, f7, rfl, i1_0, s1_0, s1_1, s1_4, s1_5, s1_6, s1_27, s1_28, r_b_26, hk⟩
      refine wp_seq ?_
      refine wp_region_lit ?_
      refine w_val (v := .bool (decide (((k : Nat) : Int) < ((q : Nat) : Int)))) (y_bin (Ev.t (v := .int .i64 ((k : Nat) : Int)) s1_28 rfl) (Ev.t (v := .int .i64 ((q : Nat) : Int)) s1_27 rfl) b_lss) ?_
      refine wpList_nil ?_
      refine then_n ?_
      refine wp_seq ?_
      refine c_if (p := ((k : Nat) : Int) < ((q : Nat) : Int)) (Ev.t (v := .bool (decide (((k : Nat) : Int) < ((q : Nat) : Int)))) rfl rfl) (fun hc9 => ?_) (fun hc9 => ?_)
      · skip
        refine wp_skip ?_
        refine then_n ?_
        refine wp_seq ?_
        refine wp_block ?_
        refine wp_seq ?_
        refine wp_region_lit ?_
        refine w_val (v := .int .i64 ((k : Nat) : Int)) (y_mv (Ev.t (v := .int .i64 ((k : Nat) : Int)) s1_28 rfl)) ?_
        refine w_val (v := .int .i64 ((k : Nat) : Int)) (y_as (Ev.t (v := .int .i64 ((k : Nat) : Int)) rfl rfl)) ?_
        refine wpList_nil ?_
        refine then_n ?_
        refine wp_region_lit ?_
        refine w_val (v := .slice (some ⟨b_26, 0, none⟩) q q) (y_mv (Ev.t (v := .slice (some ⟨b_26, 0, none⟩) q q) s1_6 rfl)) ?_
        refine w_val (v := .int .i64 ((q : Nat) : Int)) (y_mv (Ev.t (v := .int .i64 ((q : Nat) : Int)) s1_1 rfl)) ?_
        refine w_val (v := .int .i64 (((q : Nat) : Int) - 1)) (y_bin (Ev.t (v := .int .i64 ((q : Nat) : Int)) rfl rfl) (Ev.c (v := .int .i64 1)) (b_sub (by omega))) ?_
        refine w_val (v := .int .i64 ((k : Nat) : Int)) (y_mv (Ev.t (v := .int .i64 ((k : Nat) : Int)) rfl rfl)) ?_
        refine w_val (v := .int .i64 ((((q : Nat) : Int) - 1) - ((k : Nat) : Int))) (y_bin (Ev.t (v := .int .i64 (((q : Nat) : Int) - 1)) rfl rfl) (Ev.t (v := .int .i64 ((k : Nat) : Int)) rfl rfl) (b_sub (by omega))) ?_
        refine w_val (v := U64 n) (y_mv (Ev.t (v := U64 n) s1_0 rfl)) ?_
        refine w_val (v := .int .i64 ((k : Nat) : Int)) (y_mv (Ev.t (v := .int .i64 ((k : Nat) : Int)) rfl rfl)) ?_
        refine w_val (v := .int .i64 (8 * ((k : Nat) : Int))) (y_bin (Ev.c (v := .int .i64 8)) (Ev.t (v := .int .i64 ((k : Nat) : Int)) rfl rfl) (b_mul (by omega))) ?_
        refine w_val (v := U64 (n >>> (8 * k))) (y_bin (Ev.t (v := U64 n) rfl rfl) (Ev.t (v := .int .i64 (8 * ((k : Nat) : Int))) rfl rfl) (shr64 (c := (8 * k)) (by omega))) ?_
        refine w_val (v := U8 ((n >>> (8 * k)).setWidth 8)) (y_u64_u8 (Ev.t (v := U64 (n >>> (8 * k))) rfl rfl) OctWT.so35 Try.underlying5) ?_
        refine w_val (v := .pointer (some ⟨b_26, ((q - 1) - k), none⟩)) (y_is1z (i := ((q - 1) - k)) (Ev.t (v := .slice (some ⟨b_26, 0, none⟩) q q) rfl rfl) (Ev.t (v := .int .i64 ((((q : Nat) : Int) - 1) - ((k : Nat) : Int))) rfl rfl) Try.underlying47 OctWT.sz5 (by omega) (by omega)) ?_
        refine w_st (v := U8 ((n >>> (8 * k)).setWidth 8)) (Ev.t (v := .pointer (some ⟨b_26, ((q - 1) - k), none⟩)) rfl rfl) (Ev.t (v := U8 ((n >>> (8 * k)).setWidth 8)) rfl rfl) rfl rfl OctWT.sz5 r_b_26 (by omega) ?_
        clear r_b_26; intro w10 r_b_26 hg11 _
        replace hk := thenG hk hg11 (by omega)
        refine wpList_nil ?_
        refine inb_n ?_
        refine then_n ?_
        refine wp_region_lit ?_
        refine w_val (v := .int .i64 (((k : Nat) : Int) + 1)) (y_bin (Ev.t (v := .int .i64 ((k : Nat) : Int)) s1_28 rfl) (Ev.c (v := .int .i64 1)) (b_add (by omega))) ?_
        refine w_val (v := .int .i64 (((k : Nat) : Int) + 1)) (y_mv (Ev.t (v := .int .i64 (((k : Nat) : Int) + 1)) rfl rfl)) ?_
        refine wpList_nil ?_
        exact then_n ⟨_, (by omega), k + 1, rfl, _, rfl, (by first | omega | with_reducible rfl | assumption | trivial | simp), s1_0, s1_1, s1_4, s1_5, s1_6, s1_27, (Eq.trans (b := .int .i64 (((k : Nat) : Int) + 1)) rfl (by first | with_reducible rfl | (with_reducible congr 1 <;> omega) | (with_reducible congr 2 <;> omega) | (with_reducible congr 3 <;> omega) | rfl)), (r_b_26.congr (fun j hj => by (try dsimp only); by_cases e : j = q - 1 - k; (rw [if_pos e, if_pos (by omega), Oct.gb_be n q j (by omega), show q - 1 - j = k from by omega]); (rw [if_neg e]; by_cases e2 : q ≤ j + k; (rw [if_pos e2, if_pos (by omega)]); (rw [if_neg e2, if_neg (by omega)])))), hk⟩
      · skip
        refine wp_exit ?_
        refine then_x ?_
        replace r_b_26 := r_b_26.congr (g := fun j => U8 (gb (Oct.be n q) j)) (fun j hj => by (try dsimp only); rw [if_pos (by omega)])
        refine then_x ?_
        refine inb_x ?_
        refine then_n ?_
        refine wp_seq ?_
        refine wp_region_lit ?_
        refine w_val (v := .slice (some ⟨b_26, 0, none⟩) q q) (y_mv (Ev.t (v := .slice (some ⟨b_26, 0, none⟩) q q) s1_6 rfl)) ?_
        refine w_val (v := .string (str (Oct.be n q))) (y_str (l := Oct.be n q) (Ev.t (v := .slice (some ⟨b_26, 0, none⟩) q q) rfl rfl) (by first | rfl | assumption | (simp; omega) | omega) Try.underlying47 Try.underlying5 Try.underlying9 (fun j hj => by rw [Nat.zero_add]; exact (r_b_26.cell (by omega)))) ?_
        refine w_val (v := .string (str (Oct.be n q))) (y_as (Ev.t (v := .string (str (Oct.be n q))) rfl rfl)) ?_
        refine w_val (v := .int .i64 0) (y_as (Ev.c (v := .int .i64 0))) ?_
        refine wpList_nil ?_
        refine then_n ?_
        refine wp_ret ?_
        refine fin_ret2 rfl (Ev.t (v := .string (str (Oct.be n q))) rfl rfl) (Ev.t (v := .int .i64 0) rfl rfl) ?_
        exact ⟨rfl, hk⟩
  · skip
    first | with_reducible refine w_skip ?_ ?_ | refine w_skip ?_ ?_
    · exact want_no (j := 9) rfl rfl (Ev.t (v := .bool false) (Eq.trans (b := .bool (decide (((q : Nat) : Int) < 8))) rfl (by rw [decide_eq_false hc3])) rfl) rfl
    first | with_reducible refine w_skip ?_ ?_ | refine w_skip ?_ ?_
    · exact want_no (j := 9) rfl rfl (Ev.t (v := .bool false) (Eq.trans (b := .bool (decide (((q : Nat) : Int) < 8))) rfl (by rw [decide_eq_false hc3])) rfl) rfl
    first | with_reducible refine w_skip ?_ ?_ | refine w_skip ?_ ?_
    · exact want_no (j := 9) rfl rfl (Ev.t (v := .bool false) (Eq.trans (b := .bool (decide (((q : Nat) : Int) < 8))) rfl (by rw [decide_eq_false hc3])) rfl) rfl
    first | with_reducible refine w_skip ?_ ?_ | refine w_skip ?_ ?_
    · exact want_no (j := 9) rfl rfl (Ev.t (v := .bool false) (Eq.trans (b := .bool (decide (((q : Nat) : Int) < 8))) rfl (by rw [decide_eq_false hc3])) rfl) rfl
    first | with_reducible refine w_skip ?_ ?_ | refine w_skip ?_ ?_
    · exact want_no (j := 9) rfl rfl (Ev.t (v := .bool false) (Eq.trans (b := .bool (decide (((q : Nat) : Int) < 8))) rfl (by rw [decide_eq_false hc3])) rfl) rfl
    refine w_val_g (v := .bool false) (want_yes (j := 6) rfl rfl (Ev.t (v := .bool false) (Eq.trans (b := .bool (decide (8 < ((q : Nat) : Int)))) rfl (by rw [decide_eq_false hc2])) rfl) rfl) (y_pick_f (Ev.t (v := .bool false) (Eq.trans (b := .bool (decide (((q : Nat) : Int) < 8))) rfl (by rw [decide_eq_false hc3])) rfl) (Ev.c (v := .bool false))) ?_
    refine w_val (v := .bool false) (y_pick_f (Ev.t (v := .bool false) (Eq.trans (b := .bool (decide (8 < ((q : Nat) : Int)))) rfl (by rw [decide_eq_false hc2])) rfl) (Ev.t (v := .bool false) rfl rfl)) ?_
    refine wpList_nil ?_
    refine then_n ?_
    refine c_ff (Ev.t (v := .bool false) rfl rfl) ?_
    refine wp_skip ?_
    refine then_n ?_
    refine wp_seq ?_
    refine wp_region_lit ?_
    refine w_val (v := .int .i64 ((q : Nat) : Int)) (y_mv (Ev.t (v := .int .i64 ((q : Nat) : Int)) rfl rfl)) ?_
    refine w_mks (m := q) (bytes := 1) (zv := U8 (0#8)) (Ev.t (v := .int .i64 ((q : Nat) : Int)) rfl rfl) (Ev.t (v := .int .i64 ((q : Nat) : Int)) rfl rfl) (by omega) (by omega) Try.underlying47 (by kernel_rfl) rfl (by omega) (by omega) ?_
    intro b_26 w12 hbe_b_26 r_b_26 hb13
    have ge_b_26 : w0.heap.size ≤ b_26 := by have := hk.size; omega
    clear hbe_b_26
    replace hk := thenB hk hb13
    refine w_val (v := .slice (some ⟨b_26, 0, none⟩) q q) (y_as (Ev.t (v := .slice (some ⟨b_26, 0, none⟩) q q) rfl rfl)) ?_
    refine wpList_nil ?_
    refine then_n ?_
    refine wp_seq ?_
    refine wp_seq ?_
    refine wp_region_lit ?_
    refine w_val (v := .int .i64 ((q : Nat) : Int)) (y_mv (Ev.t (v := .int .i64 ((q : Nat) : Int)) rfl rfl)) ?_
    refine w_val (v := .int .i64 0) (y_mv (Ev.c (v := .int .i64 0))) ?_
    refine wpList_nil ?_
    refine then_n ?_
    refine wp_block ?_
    refine c_loop (fun dN aN wl => ∃ (k : Nat), dN = (q - k) ∧ ∃ f14, aN = fr 45 f14 ∧ (k ≤ q) ∧ f14 0 = U64 n ∧ f14 1 = .int .i64 ((q : Nat) : Int) ∧ f14 4 = .string (str ([] : List (BitVec 8))) ∧ f14 5 = .int .i64 0 ∧ f14 6 = .slice (some ⟨b_26, 0, none⟩) q q ∧ f14 27 = .int .i64 ((q : Nat) : Int) ∧ f14 28 = .int .i64 ((k : Nat) : Int) ∧ Row wl b_26 5 q (fun j => if q ≤ j + k then (fun j => U8 (gb (Oct.be n q) j)) j else (fun j => U8 (0#8)) j) ∧ Below w0.heap.size w0 wl) (q - 0) ?_ ?_
    · exact ⟨0, rfl, _, rfl, (by first | omega | with_reducible rfl | assumption | trivial | exact ⟨rfl, rfl⟩ | simp), rfl, rfl, rfl, rfl, rfl, rfl, (Eq.trans (b := .int .i64 0) rfl (by first | with_reducible rfl | (with_reducible congr 1 <;> omega) | (with_reducible congr 2 <;> omega) | (with_reducible congr 3 <;> omega) | rfl)), (r_b_26.congr (fun j hj => by (first | with_reducible rfl | (dsimp only; done) | ((try dsimp only); (repeat' split) <;> first | with_reducible rfl | (exfalso; omega) | (subst_vars; with_reducible rfl) | (subst_vars; simp only [Nat.add_sub_cancel_left, Nat.add_sub_cancel, Nat.sub_self, Nat.sub_zero]; done) | (with_reducible congr 1 <;> omega) | (with_reducible congr 2 <;> omega) | (with_reducible congr 3 <;> omega) | rfl | (subst_vars; rfl))))), hk⟩
    · skip
      clear r_b_26 hk
      rintro _ _ w15 ⟨k, rfl, f14, rfl, i1_0, s1_0, s1_1, s1_4, s1_5, s1_6, s1_27, s1_28, r_b_26, hk⟩
      refine wp_seq ?_
      refine wp_region_lit ?_
      refine w_val (v := .bool (decide (((k : Nat) : Int) < ((q : Nat) : Int)))) (y_bin (Ev.t (v := .int .i64 ((k : Nat) : Int)) s1_28 rfl) (Ev.t (v := .int .i64 ((q : Nat) : Int)) s1_27 rfl) b_lss) ?_
      refine wpList_nil ?_
      refine then_n ?_
      refine wp_seq ?_
      refine c_if (p := ((k : Nat) : Int) < ((q : Nat) : Int)) (Ev.t (v := .bool (decide (((k : Nat) : Int) < ((q : Nat) : Int)))) rfl rfl) (fun hc16 => ?_) (fun hc16 => ?_)
      · skip
        refine wp_skip ?_
        refine then_n ?_
        refine wp_seq ?_
        refine wp_block ?_
        refine wp_seq ?_
        refine wp_region_lit ?_
        refine w_val (v := .int .i64 ((k : Nat) : Int)) (y_mv (Ev.t (v := .int .i64 ((k : Nat) : Int)) s1_28 rfl)) ?_
        refine w_val (v := .int .i64 ((k : Nat) : Int)) (y_as (Ev.t (v := .int .i64 ((k : Nat) : Int)) rfl rfl)) ?_
        refine wpList_nil ?_
        refine then_n ?_
        refine wp_region_lit ?_
        refine w_val (v := .slice (some ⟨b_26, 0, none⟩) q q) (y_mv (Ev.t (v := .slice (some ⟨b_26, 0, none⟩) q q) s1_6 rfl)) ?_
        refine w_val (v := .int .i64 ((q : Nat) : Int)) (y_mv (Ev.t (v := .int .i64 ((q : Nat) : Int)) s1_1 rfl)) ?_
        refine w_val (v := .int .i64 (((q : Nat) : Int) - 1)) (y_bin (Ev.t (v := .int .i64 ((q : Nat) : Int)) rfl rfl) (Ev.c (v := .int .i64 1)) (b_sub (by omega))) ?_
        refine w_val (v := .int .i64 ((k : Nat) : Int)) (y_mv (Ev.t (v := .int .i64 ((k : Nat) : Int)) rfl rfl)) ?_
        refine w_val (v := .int .i64 ((((q : Nat) : Int) - 1) - ((k : Nat) : Int))) (y_bin (Ev.t (v := .int .i64 (((q : Nat) : Int) - 1)) rfl rfl) (Ev.t (v := .int .i64 ((k : Nat) : Int)) rfl rfl) (b_sub (by omega))) ?_
        refine w_val (v := U64 n) (y_mv (Ev.t (v := U64 n) s1_0 rfl)) ?_
        refine w_val (v := .int .i64 ((k : Nat) : Int)) (y_mv (Ev.t (v := .int .i64 ((k : Nat) : Int)) rfl rfl)) ?_
        refine w_val (v := .int .i64 (8 * ((k : Nat) : Int))) (y_bin (Ev.c (v := .int .i64 8)) (Ev.t (v := .int .i64 ((k : Nat) : Int)) rfl rfl) (b_mul (by omega))) ?_
        refine w_val (v := U64 (n >>> (8 * k))) (y_bin (Ev.t (v := U64 n) rfl rfl) (Ev.t (v := .int .i64 (8 * ((k : Nat) : Int))) rfl rfl) (shr64 (c := (8 * k)) (by omega))) ?_
        refine w_val (v := U8 ((n >>> (8 * k)).setWidth 8)) (y_u64_u8 (Ev.t (v := U64 (n >>> (8 * k))) rfl rfl) OctWT.so35 Try.underlying5) ?_
        refine w_val (v := .pointer (some ⟨b_26, ((q - 1) - k), none⟩)) (y_is1z (i := ((q - 1) - k)) (Ev.t (v := .slice (some ⟨b_26, 0, none⟩) q q) rfl rfl) (Ev.t (v := .int .i64 ((((q : Nat) : Int) - 1) - ((k : Nat) : Int))) rfl rfl) Try.underlying47 OctWT.sz5 (by omega) (by omega)) ?_
        refine w_st (v := U8 ((n >>> (8 * k)).setWidth 8)) (Ev.t (v := .pointer (some ⟨b_26, ((q - 1) - k), none⟩)) rfl rfl) (Ev.t (v := U8 ((n >>> (8 * k)).setWidth 8)) rfl rfl) rfl rfl OctWT.sz5 r_b_26 (by omega) ?_
        clear r_b_26; intro w17 r_b_26 hg18 _
        replace hk := thenG hk hg18 (by omega)
        refine wpList_nil ?_
        refine inb_n ?_
        refine then_n ?_
        refine wp_region_lit ?_
        refine w_val (v := .int .i64 (((k : Nat) : Int) + 1)) (y_bin (Ev.t (v := .int .i64 ((k : Nat) : Int)) s1_28 rfl) (Ev.c (v := .int .i64 1)) (b_add (by omega))) ?_
        refine w_val (v := .int .i64 (((k : Nat) : Int) + 1)) (y_mv (Ev.t (v := .int .i64 (((k : Nat) : Int) + 1)) rfl rfl)) ?_
        refine wpList_nil ?_
        exact then_n ⟨_, (by omega), k + 1, rfl, _, rfl, (by first | omega | with_reducible rfl | assumption | trivial | simp), s1_0, s1_1, s1_4, s1_5, s1_6, s1_27, (Eq.trans (b := .int .i64 (((k : Nat) : Int) + 1)) rfl (by first | with_reducible rfl | (with_reducible congr 1 <;> omega) | (with_reducible congr 2 <;> omega) | (with_reducible congr 3 <;> omega) | rfl)), (r_b_26.congr (fun j hj => by (try dsimp only); by_cases e : j = q - 1 - k; (rw [if_pos e, if_pos (by omega), Oct.gb_be n q j (by omega), show q - 1 - j = k from by omega]); (rw [if_neg e]; by_cases e2 : q ≤ j + k; (rw [if_pos e2, if_pos (by omega)]); (rw [if_neg e2, if_neg (by omega)])))), hk⟩
      · skip
        refine wp_exit ?_
        refine then_x ?_
        replace r_b_26 := r_b_26.congr (g := fun j => U8 (gb (Oct.be n q) j)) (fun j hj => by (try dsimp only); rw [if_pos (by omega)])
        refine then_x ?_
        refine inb_x ?_
        refine then_n ?_
        refine wp_seq ?_
        refine wp_region_lit ?_
        refine w_val (v := .slice (some ⟨b_26, 0, none⟩) q q) (y_mv (Ev.t (v := .slice (some ⟨b_26, 0, none⟩) q q) s1_6 rfl)) ?_
        refine w_val (v := .string (str (Oct.be n q))) (y_str (l := Oct.be n q) (Ev.t (v := .slice (some ⟨b_26, 0, none⟩) q q) rfl rfl) (by first | rfl | assumption | (simp; omega) | omega) Try.underlying47 Try.underlying5 Try.underlying9 (fun j hj => by rw [Nat.zero_add]; exact (r_b_26.cell (by omega)))) ?_
        refine w_val (v := .string (str (Oct.be n q))) (y_as (Ev.t (v := .string (str (Oct.be n q))) rfl rfl)) ?_
        refine w_val (v := .int .i64 0) (y_as (Ev.c (v := .int .i64 0))) ?_
        refine wpList_nil ?_
        refine then_n ?_
        refine wp_ret ?_
        refine fin_ret2 rfl (Ev.t (v := .string (str (Oct.be n q))) rfl rfl) (Ev.t (v := .int .i64 0) rfl rfl) ?_
        exact ⟨rfl, hk⟩

set_option maxRecDepth 100000 in
set_option maxHeartbeats 1000000 in
theorem refGet_c (s : List (BitVec 8)) (h1 : 1 ≤ s.length) (h8 : s.length ≤ 8) (w0 : World) : Calls Try.prog 60 #[.string (str s)] w0 fun e w' => e = .returned (.tuple #[U64 (Oct.val s s.length), .int .i64 0]) ∧ Below w0.heap.size w0 w' := by
  refine enter (n := 28) Try.func60 rfl rfl rfl ?_
  have hk : Below w0.heap.size w0 w0 := Below.refl _ _
  refine wp_seq ?_
  refine wp_region_lit ?_
  refine w_val (v := U64 (0#64)) (y_as (Ev.c (v := U64 (0#64)))) ?_
  refine w_val (v := .int .i64 0) (y_as (Ev.c (v := .int .i64 0))) ?_
  refine wpList_nil ?_
  refine then_n ?_
  refine wp_seq ?_
  refine wp_seq ?_
  refine wp_region_lit ?_
  refine w_val (v := .string (str s)) (y_mv (Ev.t (v := .string (str s)) rfl rfl)) ?_
  refine w_val (v := .int .i64 ((s.length : Nat) : Int)) (y_len (Ev.t (v := .string (str s)) rfl rfl) Try.underlying9) ?_
  refine w_val (v := .bool (decide (((s.length : Nat) : Int) < 1))) (y_bin (Ev.t (v := .int .i64 ((s.length : Nat) : Int)) rfl rfl) (Ev.c (v := .int .i64 1)) b_lss) ?_
  refine w_val (v := .bool (decide (((s.length : Nat) : Int) < 1))) (y_mv (Ev.t (v := .bool (decide (((s.length : Nat) : Int) < 1))) rfl rfl)) ?_
  have hc1 : ¬ (((s.length : Nat) : Int) < 1) := by omega
  refine w_val_g (v := .string (str s)) (want_yes (j := 3) rfl rfl (Ev.t (v := .bool false) (Eq.trans (b := .bool (decide (((s.length : Nat) : Int) < 1))) rfl (by rw [decide_eq_false hc1])) rfl) rfl) (y_mv (Ev.t (v := .string (str s)) rfl rfl)) ?_
  refine w_val_g (v := .int .i64 ((s.length : Nat) : Int)) (want_yes (j := 3) rfl rfl (Ev.t (v := .bool false) (Eq.trans (b := .bool (decide (((s.length : Nat) : Int) < 1))) rfl (by rw [decide_eq_false hc1])) rfl) rfl) (y_len (Ev.t (v := .string (str s)) rfl rfl) Try.underlying9) ?_
  refine w_val_g (v := .bool (decide (8 < ((s.length : Nat) : Int)))) (want_yes (j := 3) rfl rfl (Ev.t (v := .bool false) (Eq.trans (b := .bool (decide (((s.length : Nat) : Int) < 1))) rfl (by rw [decide_eq_false hc1])) rfl) rfl) (y_bin (Ev.t (v := .int .i64 ((s.length : Nat) : Int)) rfl rfl) (Ev.c (v := .int .i64 8)) b_gtr) ?_
  refine w_val (v := .bool (decide (8 < ((s.length : Nat) : Int)))) (y_pick_f (Ev.t (v := .bool false) (Eq.trans (b := .bool (decide (((s.length : Nat) : Int) < 1))) rfl (by rw [decide_eq_false hc1])) rfl) (Ev.t (v := .bool (decide (8 < ((s.length : Nat) : Int)))) rfl rfl)) ?_
  refine wpList_nil ?_
  refine then_n ?_
  have hc2 : ¬ (8 < ((s.length : Nat) : Int)) := by omega
  refine c_f (p := 8 < ((s.length : Nat) : Int)) (Ev.t (v := .bool (decide (8 < ((s.length : Nat) : Int)))) rfl rfl) hc2 ?_
  refine wp_skip ?_
  refine then_n ?_
  refine wp_seq ?_
  refine wp_region_lit ?_
  refine w_val (v := U64 (0#64)) (y_as (Ev.c (v := U64 (0#64)))) ?_
  refine wpList_nil ?_
  refine then_n ?_
  refine wp_seq ?_
  refine wp_seq ?_
  refine wp_region_lit ?_
  refine w_val (v := .int .i64 0) (y_as (Ev.c (v := .int .i64 0))) ?_
  refine wpList_nil ?_
  refine then_n ?_
  refine wp_block ?_
  refine c_loop (fun dN aN wl => ∃ (k : Nat), dN = (s.length - k) ∧ ∃ f3, aN = fr 28 f3 ∧ (k ≤ s.length) ∧ f3 0 = .string (str s) ∧ f3 2 = U64 (0#64) ∧ f3 3 = .int .i64 0 ∧ f3 4 = U64 (Oct.val s k) ∧ f3 5 = .int .i64 ((k : Nat) : Int) ∧ Below w0.heap.size w0 wl) (s.length - 0) ?_ ?_
  · exact ⟨0, rfl, _, rfl, (by first | omega | with_reducible rfl | assumption | trivial | exact ⟨rfl, rfl⟩ | simp), rfl, rfl, rfl, (Eq.trans (b := U64 (0#64)) rfl (by first | with_reducible rfl | (with_reducible congr 1 <;> omega) | (with_reducible congr 2 <;> omega) | (with_reducible congr 3 <;> omega) | rfl)), (Eq.trans (b := .int .i64 0) rfl (by first | with_reducible rfl | (with_reducible congr 1 <;> omega) | (with_reducible congr 2 <;> omega) | (with_reducible congr 3 <;> omega) | rfl)), hk⟩
  · skip
    clear hk
    rintro _ _ w4 ⟨k, rfl, f3, rfl, i1_0, s1_0, s1_2, s1_3, s1_4, s1_5, hk⟩
    refine wp_seq ?_
    refine wp_seq ?_
    refine wp_region_lit ?_
    refine w_val (v := .int .i64 ((k : Nat) : Int)) (y_mv (Ev.t (v := .int .i64 ((k : Nat) : Int)) s1_5 rfl)) ?_
    refine w_val (v := .string (str s)) (y_mv (Ev.t (v := .string (str s)) s1_0 rfl)) ?_
    refine w_val (v := .int .i64 ((s.length : Nat) : Int)) (y_len (Ev.t (v := .string (str s)) rfl rfl) Try.underlying9) ?_
    refine w_val (v := .bool (decide (((k : Nat) : Int) < ((s.length : Nat) : Int)))) (y_bin (Ev.t (v := .int .i64 ((k : Nat) : Int)) rfl rfl) (Ev.t (v := .int .i64 ((s.length : Nat) : Int)) rfl rfl) b_lss) ?_
    refine wpList_nil ?_
    refine then_n ?_
    refine c_if (p := ((k : Nat) : Int) < ((s.length : Nat) : Int)) (Ev.t (v := .bool (decide (((k : Nat) : Int) < ((s.length : Nat) : Int)))) rfl rfl) (fun hc5 => ?_) (fun hc5 => ?_)
    · skip
      refine wp_skip ?_
      refine then_n ?_
      refine wp_seq ?_
      refine wp_block ?_
      refine wp_region_lit ?_
      refine w_val (v := U64 (Oct.val s k)) (y_mv (Ev.t (v := U64 (Oct.val s k)) s1_4 rfl)) ?_
      refine w_val (v := U64 ((Oct.val s k) * (256#64))) (y_bin (Ev.t (v := U64 (Oct.val s k)) rfl rfl) (Ev.c (v := U64 (256#64))) mul64) ?_
      refine w_val (v := .string (str s)) (y_mv (Ev.t (v := .string (str s)) s1_0 rfl)) ?_
      refine w_val (v := .int .i64 ((k : Nat) : Int)) (y_mv (Ev.t (v := .int .i64 ((k : Nat) : Int)) s1_5 rfl)) ?_
      refine w_val (v := U8 (gb s k)) (y_idx (Ev.t (v := .string (str s)) rfl rfl) (Ev.t (v := .int .i64 ((k : Nat) : Int)) rfl rfl) Try.underlying9 (by omega) (by omega)) ?_
      refine w_val (v := U64 ((gb s k).setWidth 64)) (y_u8_u64 (Ev.t (v := U8 (gb s k)) rfl rfl) OctWT.so5 Try.underlying35) ?_
      refine w_val (v := U64 (((Oct.val s k) * (256#64)) + ((gb s k).setWidth 64))) (y_bin (Ev.t (v := U64 ((Oct.val s k) * (256#64))) rfl rfl) (Ev.t (v := U64 ((gb s k).setWidth 64)) rfl rfl) add64) ?_
      refine w_val (v := U64 (((Oct.val s k) * (256#64)) + ((gb s k).setWidth 64))) (y_as (Ev.t (v := U64 (((Oct.val s k) * (256#64)) + ((gb s k).setWidth 64))) rfl rfl)) ?_
      refine wpList_nil ?_
      refine inb_n ?_
      refine then_n ?_
      refine wp_region_lit ?_
      refine w_val (v := .int .i64 ((k : Nat) : Int)) (y_mv (Ev.t (v := .int .i64 ((k : Nat) : Int)) s1_5 rfl)) ?_
      refine w_val (v := .int .i64 (((k : Nat) : Int) + 1)) (y_bin (Ev.t (v := .int .i64 ((k : Nat) : Int)) rfl rfl) (Ev.c (v := .int .i64 1)) (b_add (by omega))) ?_
      refine w_val (v := .int .i64 (((k : Nat) : Int) + 1)) (y_as (Ev.t (v := .int .i64 (((k : Nat) : Int) + 1)) rfl rfl)) ?_
      refine wpList_nil ?_
      exact then_n ⟨_, (by omega), k + 1, rfl, _, rfl, (by first | omega | with_reducible rfl | assumption | trivial | simp), s1_0, s1_2, s1_3, (Eq.trans (b := U64 (((Oct.val s k) * (256#64)) + ((gb s k).setWidth 64))) rfl (by first | with_reducible rfl | (with_reducible congr 1 <;> omega) | (with_reducible congr 2 <;> omega) | (with_reducible congr 3 <;> omega) | rfl)), (Eq.trans (b := .int .i64 (((k : Nat) : Int) + 1)) rfl (by first | with_reducible rfl | (with_reducible congr 1 <;> omega) | (with_reducible congr 2 <;> omega) | (with_reducible congr 3 <;> omega) | rfl)), hk⟩
    · skip
      refine wp_exit ?_
      refine then_x ?_
      refine then_x ?_
      refine inb_x ?_
      refine then_n ?_
      refine wp_seq ?_
      refine wp_region_lit ?_
      refine w_val (v := U64 (Oct.val s k)) (y_mv (Ev.t (v := U64 (Oct.val s k)) s1_4 rfl)) ?_
      refine w_val (v := U64 (Oct.val s k)) (y_as (Ev.t (v := U64 (Oct.val s k)) rfl rfl)) ?_
      refine w_val (v := .int .i64 0) (y_as (Ev.c (v := .int .i64 0))) ?_
      refine wpList_nil ?_
      refine then_n ?_
      refine wp_ret ?_
      refine fin_ret2 rfl (Ev.t (v := U64 (Oct.val s k)) rfl rfl) (Ev.t (v := .int .i64 0) rfl rfl) ?_
      refine ⟨congrArg Ending.returned ?_, hk⟩
      show (.tuple #[U64 (Oct.val s k), .int .i64 0] : Value) = .tuple #[U64 (Oct.val s s.length), .int .i64 0]
      rw [show k = s.length from by omega]

set_option maxRecDepth 100000 in
set_option maxHeartbeats 1000000 in
theorem refPut_c (n : BitVec 64) (q : Nat) (hq : 1 ≤ q) (h8 : q ≤ 8) (hn : n.toNat < 2 ^ (8 * q)) (w0 : World) : Calls Try.prog 51 #[U64 n, .int .i64 ((q : Nat) : Int)] w0 fun e w' => e = .returned (.tuple #[.string (str (Oct.be n q)), .int .i64 0]) ∧ Below w0.heap.size w0 w' := by
  have hlb := Oct.length_be n q
  have hvb := Oct.val_be_all n q hn
  refine enter (n := 44) Try.func51 rfl rfl rfl ?_
  have hk : Below w0.heap.size w0 w0 := Below.refl _ _
  refine wp_seq ?_
  refine wp_region_lit ?_
  refine w_val (v := .string (str ([] : List (BitVec 8)))) (y_as (Ev.c (v := .string (str ([] : List (BitVec 8)))))) ?_
  refine w_val (v := .int .i64 0) (y_as (Ev.c (v := .int .i64 0))) ?_
  refine wpList_nil ?_
  refine then_n ?_
  refine wp_seq ?_
  refine wp_seq ?_
  refine wp_region_lit ?_
  refine w_val (v := .int .i64 ((q : Nat) : Int)) (y_mv (Ev.t (v := .int .i64 ((q : Nat) : Int)) rfl rfl)) ?_
  refine w_val (v := .bool (decide (((q : Nat) : Int) < 1))) (y_bin (Ev.t (v := .int .i64 ((q : Nat) : Int)) rfl rfl) (Ev.c (v := .int .i64 1)) b_lss) ?_
  refine w_val (v := .bool (decide (((q : Nat) : Int) < 1))) (y_mv (Ev.t (v := .bool (decide (((q : Nat) : Int) < 1))) rfl rfl)) ?_
  have hc1 : ¬ (((q : Nat) : Int) < 1) := by omega
  refine w_val_g (v := .int .i64 ((q : Nat) : Int)) (want_yes (j := 2) rfl rfl (Ev.t (v := .bool false) (Eq.trans (b := .bool (decide (((q : Nat) : Int) < 1))) rfl (by rw [decide_eq_false hc1])) rfl) rfl) (y_mv (Ev.t (v := .int .i64 ((q : Nat) : Int)) rfl rfl)) ?_
  refine w_val_g (v := .bool (decide (8 < ((q : Nat) : Int)))) (want_yes (j := 2) rfl rfl (Ev.t (v := .bool false) (Eq.trans (b := .bool (decide (((q : Nat) : Int) < 1))) rfl (by rw [decide_eq_false hc1])) rfl) rfl) (y_bin (Ev.t (v := .int .i64 ((q : Nat) : Int)) rfl rfl) (Ev.c (v := .int .i64 8)) b_gtr) ?_
  refine w_val (v := .bool (decide (8 < ((q : Nat) : Int)))) (y_pick_f (Ev.t (v := .bool false) (Eq.trans (b := .bool (decide (((q : Nat) : Int) < 1))) rfl (by rw [decide_eq_false hc1])) rfl) (Ev.t (v := .bool (decide (8 < ((q : Nat) : Int)))) rfl rfl)) ?_
  refine wpList_nil ?_
  refine then_n ?_
  have hc2 : ¬ (8 < ((q : Nat) : Int)) := by omega
  refine c_f (p := 8 < ((q : Nat) : Int)) (Ev.t (v := .bool (decide (8 < ((q : Nat) : Int)))) rfl rfl) hc2 ?_
  refine wp_skip ?_
  refine then_n ?_
  refine wp_seq ?_
  refine wp_region_lit ?_
  refine w_val (v := .slice none 0 0) (y_as (Ev.c (v := .slice none 0 0))) ?_
  refine wpList_nil ?_
  refine then_n ?_
  refine wp_seq ?_
  refine wp_seq ?_
  refine wp_region_lit ?_
  refine w_val (v := .int .i64 0) (y_as (Ev.c (v := .int .i64 0))) ?_
  refine wpList_nil ?_
  refine then_n ?_
  refine wp_block ?_
  refine c_loop (fun dN aN wl => ∃ (k : Nat) (vo : Value), dN = (q - k) ∧ ∃ f3, aN = fr 44 f3 ∧ (k ≤ q) ∧ f3 0 = U64 n ∧ f3 1 = .int .i64 ((q : Nat) : Int) ∧ f3 4 = .string (str ([] : List (BitVec 8))) ∧ f3 5 = .int .i64 0 ∧ f3 6 = vo ∧ f3 7 = .int .i64 ((k : Nat) : Int) ∧ Own wl w0.heap.size 5 1 vo k (fun j => U8 (gb (Oct.be n q) j)) ∧ Below w0.heap.size w0 wl) (q - 0) ?_ ?_
  · exact ⟨0, (.slice none 0 0), rfl, _, rfl, (by first | omega | with_reducible rfl | assumption | trivial | exact ⟨rfl, rfl⟩ | simp), rfl, rfl, rfl, rfl, (Eq.trans (b := .slice none 0 0) rfl (by first | with_reducible rfl | (with_reducible congr 1 <;> omega) | (with_reducible congr 2 <;> omega) | (with_reducible congr 3 <;> omega) | rfl)), (Eq.trans (b := .int .i64 0) rfl (by first | with_reducible rfl | (with_reducible congr 1 <;> omega) | (with_reducible congr 2 <;> omega) | (with_reducible congr 3 <;> omega) | rfl)), Own.nil, hk⟩
  · skip
    clear hk
    rintro _ _ w4 ⟨k, vo, rfl, f3, rfl, i1_0, s1_0, s1_1, s1_4, s1_5, s1_6, s1_7, o_vo, hk⟩
    refine wp_seq ?_
    refine wp_seq ?_
    refine wp_region_lit ?_
    refine w_val (v := .int .i64 ((k : Nat) : Int)) (y_mv (Ev.t (v := .int .i64 ((k : Nat) : Int)) s1_7 rfl)) ?_
    refine w_val (v := .int .i64 ((q : Nat) : Int)) (y_mv (Ev.t (v := .int .i64 ((q : Nat) : Int)) s1_1 rfl)) ?_
    refine w_val (v := .bool (decide (((k : Nat) : Int) < ((q : Nat) : Int)))) (y_bin (Ev.t (v := .int .i64 ((k : Nat) : Int)) rfl rfl) (Ev.t (v := .int .i64 ((q : Nat) : Int)) rfl rfl) b_lss) ?_
    refine wpList_nil ?_
    refine then_n ?_
    refine c_if (p := ((k : Nat) : Int) < ((q : Nat) : Int)) (Ev.t (v := .bool (decide (((k : Nat) : Int) < ((q : Nat) : Int)))) rfl rfl) (fun hc5 => ?_) (fun hc5 => ?_)
    · skip
      refine wp_skip ?_
      refine then_n ?_
      refine wp_seq ?_
      refine wp_block ?_
      refine wp_region_lit ?_
      refine w_val (v := vo) (y_mv (Ev.t (v := vo) s1_6 rfl)) ?_
      refine w_val (v := U64 n) (y_mv (Ev.t (v := U64 n) s1_0 rfl)) ?_
      refine w_val (v := .int .i64 ((q : Nat) : Int)) (y_mv (Ev.t (v := .int .i64 ((q : Nat) : Int)) s1_1 rfl)) ?_
      refine w_val (v := .int .i64 (((q : Nat) : Int) - 1)) (y_bin (Ev.t (v := .int .i64 ((q : Nat) : Int)) rfl rfl) (Ev.c (v := .int .i64 1)) (b_sub (by omega))) ?_
      refine w_val (v := .int .i64 ((k : Nat) : Int)) (y_mv (Ev.t (v := .int .i64 ((k : Nat) : Int)) s1_7 rfl)) ?_
      refine w_val (v := .int .i64 ((((q : Nat) : Int) - 1) - ((k : Nat) : Int))) (y_bin (Ev.t (v := .int .i64 (((q : Nat) : Int) - 1)) rfl rfl) (Ev.t (v := .int .i64 ((k : Nat) : Int)) rfl rfl) (b_sub (by omega))) ?_
      refine w_val (v := .int .i64 (8 * ((((q : Nat) : Int) - 1) - ((k : Nat) : Int)))) (y_bin (Ev.c (v := .int .i64 8)) (Ev.t (v := .int .i64 ((((q : Nat) : Int) - 1) - ((k : Nat) : Int))) rfl rfl) (b_mul (by omega))) ?_
      refine w_val (v := U64 (BitVec.ofNat 64 (8 * ((q - 1) - k)))) (y_nat_u64 (p := (8 * ((q - 1) - k))) (Ev.t (v := .int .i64 (8 * ((((q : Nat) : Int) - 1) - ((k : Nat) : Int)))) rfl rfl) (by omega) OctWT.so3 Try.underlying91) ?_
      refine w_val (v := U64 (n >>> (8 * ((q - 1) - k)))) (y_bin (Ev.t (v := U64 n) rfl rfl) (Ev.t (v := U64 (BitVec.ofNat 64 (8 * ((q - 1) - k)))) rfl rfl) (shr64 (c := (8 * ((q - 1) - k))) (by rw [BitVec.toNat_ofNat]; omega))) ?_
      refine w_val (v := U8 ((n >>> (8 * ((q - 1) - k))).setWidth 8)) (y_u64_u8 (Ev.t (v := U64 (n >>> (8 * ((q - 1) - k)))) rfl rfl) OctWT.so35 Try.underlying5) ?_
      refine w_bs1 (m := 1) (e := 5) (F := fun j => U8 ((n >>> (8 * ((q - 1) - k))).setWidth 8)) (Ev.t (v := U8 ((n >>> (8 * ((q - 1) - k))).setWidth 8)) rfl rfl) (fun w => by kernel_rfl) ?_
      intro b_31 w6 hbe_b_31 r_b_31 hb7
      have no_vo_b_31 : vo.ownBlock ≠ some b_31 := o_vo.apart (by omega)
      have ge_b_31 : w0.heap.size ≤ b_31 := by have := hk.size; omega
      clear hbe_b_31
      replace o_vo := o_vo.step hb7
      replace hk := thenB hk hb7
      refine w_app (k := k) (m := 1) (size := 1) (bytes := 1) (Ev.t (v := vo) rfl rfl) (Ev.t (v := .slice (some ⟨b_31, 0, none⟩) 1 1) rfl rfl) Try.underlying47 (by kernel_rfl) (by decide) o_vo hk.size r_b_31 (by omega) (fun j => by first | exact U8.oneCell _ | exact U32.oneCell _ | exact U64.oneCell _ | rfl | ((try dsimp only); (repeat' split) <;> rfl)) (by simp only [maxLen]; omega) (by omega) ?_
      intro v8 w9 o_v8 hg10 hv11
      have no_v8_b_31 := no_new no_vo_b_31 r_b_31.lt hv11
      replace r_b_31 := r_b_31.stepO hg10 no_vo_b_31
      replace hk := thenO hk hg10 (fun g e => (o_vo.block_lt g e).2)
      clear o_vo
      refine w_val (v := v8) (y_as (Ev.t (v := v8) rfl rfl)) ?_
      refine wpList_nil ?_
      refine inb_n ?_
      refine then_n ?_
      refine wp_region_lit ?_
      refine w_val (v := .int .i64 ((k : Nat) : Int)) (y_mv (Ev.t (v := .int .i64 ((k : Nat) : Int)) s1_7 rfl)) ?_
      refine w_val (v := .int .i64 (((k : Nat) : Int) + 1)) (y_bin (Ev.t (v := .int .i64 ((k : Nat) : Int)) rfl rfl) (Ev.c (v := .int .i64 1)) (b_add (by omega))) ?_
      refine w_val (v := .int .i64 (((k : Nat) : Int) + 1)) (y_as (Ev.t (v := .int .i64 (((k : Nat) : Int) + 1)) rfl rfl)) ?_
      refine wpList_nil ?_
      exact then_n ⟨_, (by omega), k + 1, v8, rfl, _, rfl, (by first | omega | with_reducible rfl | assumption | trivial | simp), s1_0, s1_1, s1_4, s1_5, rfl, (Eq.trans (b := .int .i64 (((k : Nat) : Int) + 1)) rfl (by first | with_reducible rfl | (with_reducible congr 1 <;> omega) | (with_reducible congr 2 <;> omega) | (with_reducible congr 3 <;> omega) | rfl)), (own_n (o_v8.congr (fun j hj => by (try dsimp only); by_cases e : j < k * 1; (rw [if_pos e]); (rw [if_neg e, Oct.gb_be n q j (by omega), show j = k from by omega]))) (by omega)), hk⟩
    · skip
      refine wp_exit ?_
      refine then_x ?_
      refine then_x ?_
      refine inb_x ?_
      refine then_n ?_
      refine wp_seq ?_
      refine wp_region_lit ?_
      refine w_val (v := vo) (y_mv (Ev.t (v := vo) s1_6 rfl)) ?_
      refine w_val (v := .string (str (Oct.be n q))) (y_strown (l := Oct.be n q) (Ev.t (v := vo) rfl rfl) o_vo  (by exact (by rw [Oct.length_be]; omega)) (fun j hj => by exact rfl) Try.underlying47 Try.underlying5 Try.underlying9) ?_
      refine w_call (Try.func60) (by kernel_rfl) rfl (m1 (Ev.t (v := .string (str (Oct.be n q))) rfl rfl)) (refGet_c (Oct.be n q) (by rw [Oct.length_be]; omega) (by rw [Oct.length_be]; omega) w4) ?_
      rintro _ w12 ⟨rfl, hb13⟩
      refine ⟨_, rfl, ?_⟩
      replace o_vo := o_vo.step hb13
      replace hk := thenB hk hb13
      refine w_val (v := .tuple #[U64 (Oct.val (Oct.be n q) (Oct.be n q).length), .int .i64 0]) (y_mv (Ev.t (v := .tuple #[U64 (Oct.val (Oct.be n q) (Oct.be n q).length), .int .i64 0]) rfl rfl)) ?_
      refine w_val (v := U64 (Oct.val (Oct.be n q) (Oct.be n q).length)) (y_ext (v := U64 (Oct.val (Oct.be n q) (Oct.be n q).length)) (Ev.t (v := .tuple #[U64 (Oct.val (Oct.be n q) (Oct.be n q).length), .int .i64 0]) rfl rfl) rfl) ?_
      refine w_val (v := .int .i64 0) (y_ext (v := .int .i64 0) (Ev.t (v := .tuple #[U64 (Oct.val (Oct.be n q) (Oct.be n q).length), .int .i64 0]) rfl rfl) rfl) ?_
      refine w_val (v := U64 (Oct.val (Oct.be n q) (Oct.be n q).length)) (y_as (Ev.t (v := U64 (Oct.val (Oct.be n q) (Oct.be n q).length)) rfl rfl)) ?_
      refine w_val (v := .int .i64 0) (y_as (Ev.t (v := .int .i64 0) rfl rfl)) ?_
      refine wpList_nil ?_
      refine then_n ?_
      refine wp_seq ?_
      refine wp_seq ?_
      refine wp_region_lit ?_
      refine w_val (v := U64 (Oct.val (Oct.be n q) (Oct.be n q).length)) (y_mv (Ev.t (v := U64 (Oct.val (Oct.be n q) (Oct.be n q).length)) rfl rfl)) ?_
      refine w_val (v := U64 n) (y_mv (Ev.t (v := U64 n) s1_0 rfl)) ?_
      refine w_val (v := .bool (decide ((Oct.val (Oct.be n q) (Oct.be n q).length) ≠ n))) (y_bin (Ev.t (v := U64 (Oct.val (Oct.be n q) (Oct.be n q).length)) rfl rfl) (Ev.t (v := U64 n) rfl rfl) neq64) ?_
      refine wpList_nil ?_
      refine then_n ?_
      have hc14 : ¬ ((Oct.val (Oct.be n q) (Oct.be n q).length) ≠ n) := by rw [hlb, hvb]; exact fun h => h rfl
      refine c_f (p := (Oct.val (Oct.be n q) (Oct.be n q).length) ≠ n) (Ev.t (v := .bool (decide ((Oct.val (Oct.be n q) (Oct.be n q).length) ≠ n))) rfl rfl) hc14 ?_
      refine wp_skip ?_
      refine then_n ?_
      refine wp_seq ?_
      refine wp_region_lit ?_
      refine w_val (v := vo) (y_mv (Ev.t (v := vo) s1_6 rfl)) ?_
      refine w_val (v := .string (str (Oct.be n q))) (y_strown (l := Oct.be n q) (Ev.t (v := vo) rfl rfl) o_vo  (by exact (by rw [Oct.length_be]; omega)) (fun j hj => by exact rfl) Try.underlying47 Try.underlying5 Try.underlying9) ?_
      refine w_val (v := .string (str (Oct.be n q))) (y_as (Ev.t (v := .string (str (Oct.be n q))) rfl rfl)) ?_
      refine w_val (v := .int .i64 0) (y_as (Ev.c (v := .int .i64 0))) ?_
      refine wpList_nil ?_
      refine then_n ?_
      refine wp_ret ?_
      refine fin_ret2 rfl (Ev.t (v := .string (str (Oct.be n q))) rfl rfl) (Ev.t (v := .int .i64 0) rfl rfl) ?_
      exact ⟨rfl, hk⟩

set_option maxRecDepth 100000 in
set_option maxHeartbeats 1000000 in
theorem add_c (s : List (BitVec 8)) (n : BitVec 64) (hs : s.length ≤ 140737488351232) (w0 : World) : Calls Try.prog 36 #[.string (str s), U64 n] w0 fun e w' => e = .returned (.string (str (Oct.add s n.toNat))) ∧ Below w0.heap.size w0 w' := by
  have hla := Oct.length_add s n.toNat
  refine enter (n := 52) Try.func36 rfl rfl rfl ?_
  have hk : Below w0.heap.size w0 w0 := Below.refl _ _
  refine wp_seq ?_
  refine wp_region_lit ?_
  refine w_val (v := .string (str ([] : List (BitVec 8)))) (y_as (Ev.c (v := .string (str ([] : List (BitVec 8)))))) ?_
  refine wpList_nil ?_
  refine then_n ?_
  refine wp_seq ?_
  refine wp_region_lit ?_
  refine w_val (v := .string (str s)) (y_mv (Ev.t (v := .string (str s)) rfl rfl)) ?_
  refine w_bytes (Ev.t (v := .string (str s)) rfl rfl) Try.underlying9 Try.underlying47 Try.underlying5 ?_
  intro b_8 cap_b_8 w1 hbe_b_8 hc_b_8 r_b_8 hb2
  have ge_b_8 : w0.heap.size ≤ b_8 := by have := hk.size; omega
  clear hbe_b_8
  replace hk := thenB hk hb2
  refine w_val (v := .slice (some ⟨b_8, 0, none⟩) s.length cap_b_8) (y_as (Ev.t (v := .slice (some ⟨b_8, 0, none⟩) s.length cap_b_8) rfl rfl)) ?_
  refine wpList_nil ?_
  refine then_n ?_
  refine wp_seq ?_
  refine wp_seq ?_
  refine wp_region_lit ?_
  refine w_val (v := .slice (some ⟨b_8, 0, none⟩) s.length cap_b_8) (y_mv (Ev.t (v := .slice (some ⟨b_8, 0, none⟩) s.length cap_b_8) rfl rfl)) ?_
  refine w_val (v := .int .i64 ((s.length : Nat) : Int)) (y_len_sl (Ev.t (v := .slice (some ⟨b_8, 0, none⟩) s.length cap_b_8) rfl rfl) Try.underlying47) ?_
  refine w_val (v := .int .i64 (((s.length : Nat) : Int) - 1)) (y_bin (Ev.t (v := .int .i64 ((s.length : Nat) : Int)) rfl rfl) (Ev.c (v := .int .i64 1)) (b_sub (by omega))) ?_
  refine w_val (v := .int .i64 (((s.length : Nat) : Int) - 1)) (y_as (Ev.t (v := .int .i64 (((s.length : Nat) : Int) - 1)) rfl rfl)) ?_
  refine wpList_nil ?_
  refine then_n ?_
  refine wp_block ?_
  refine c_loop (fun dN aN wl => ∃ (k : Nat), dN = (s.length - k) ∧ ∃ f3, aN = fr 52 f3 ∧ (k ≤ s.length) ∧ f3 0 = .string (str s) ∧ f3 1 = U64 (BitVec.ofNat 64 (Oct.cy s n.toNat k)) ∧ f3 4 = .string (str ([] : List (BitVec 8))) ∧ f3 5 = .slice (some ⟨b_8, 0, none⟩) s.length cap_b_8 ∧ f3 6 = .int .i64 (((s.length : Nat) : Int) - 1 - ((k : Nat) : Int)) ∧ Row wl b_8 5 s.length (fun j => if s.length ≤ j + k then (fun j => U8 (gb (Oct.add s n.toNat) j)) j else (fun j => U8 (gb s j)) j) ∧ Below w0.heap.size w0 wl) (s.length - 0) ?_ ?_
  · exact ⟨0, rfl, _, rfl, (by first | omega | with_reducible rfl | assumption | trivial | exact ⟨rfl, rfl⟩ | simp), rfl, (Eq.trans (b := U64 n) rfl (by exact congrArg U64 (by show n = BitVec.ofNat 64 n.toNat; simp))), rfl, rfl, (Eq.trans (b := .int .i64 (((s.length : Nat) : Int) - 1)) rfl (by congr 1; omega)), (r_b_8.congr (fun j hj => by (first | with_reducible rfl | (dsimp only; done) | ((try dsimp only); (repeat' split) <;> first | with_reducible rfl | (exfalso; omega) | (subst_vars; with_reducible rfl) | (subst_vars; simp only [Nat.add_sub_cancel_left, Nat.add_sub_cancel, Nat.sub_self, Nat.sub_zero]; done) | (with_reducible congr 1 <;> omega) | (with_reducible congr 2 <;> omega) | (with_reducible congr 3 <;> omega) | rfl | (subst_vars; rfl))))), hk⟩
  · skip
    clear r_b_8 hk
    rintro _ _ w4 ⟨k, rfl, f3, rfl, i1_0, s1_0, s1_1, s1_4, s1_5, s1_6, r_b_8, hk⟩
    have hcl := Oct.cy_lt s n k
    refine wp_seq ?_
    refine wp_seq ?_
    refine wp_region_lit ?_
    refine w_val (v := .int .i64 (((s.length : Nat) : Int) - 1 - ((k : Nat) : Int))) (y_mv (Ev.t (v := .int .i64 (((s.length : Nat) : Int) - 1 - ((k : Nat) : Int))) s1_6 rfl)) ?_
    refine w_val (v := .bool (decide (0 ≤ (((s.length : Nat) : Int) - 1 - ((k : Nat) : Int))))) (y_bin (Ev.t (v := .int .i64 (((s.length : Nat) : Int) - 1 - ((k : Nat) : Int))) rfl rfl) (Ev.c (v := .int .i64 0)) b_geq) ?_
    refine w_val (v := .bool (decide (0 ≤ (((s.length : Nat) : Int) - 1 - ((k : Nat) : Int))))) (y_mv (Ev.t (v := .bool (decide (0 ≤ (((s.length : Nat) : Int) - 1 - ((k : Nat) : Int))))) rfl rfl)) ?_
    by_cases hc5 : 0 ≤ (((s.length : Nat) : Int) - 1 - ((k : Nat) : Int))
    · skip
      refine w_val_g (v := U64 (BitVec.ofNat 64 (Oct.cy s n.toNat k))) (want_yes (j := 2) rfl rfl (Ev.t (v := .bool true) (Eq.trans (b := .bool (decide (0 ≤ (((s.length : Nat) : Int) - 1 - ((k : Nat) : Int))))) rfl (by rw [decide_eq_true hc5])) rfl) rfl) (y_mv (Ev.t (v := U64 (BitVec.ofNat 64 (Oct.cy s n.toNat k))) s1_1 rfl)) ?_
      refine w_val_g (v := .bool (decide ((0#64).toNat < (BitVec.ofNat 64 (Oct.cy s n.toNat k)).toNat))) (want_yes (j := 2) rfl rfl (Ev.t (v := .bool true) (Eq.trans (b := .bool (decide (0 ≤ (((s.length : Nat) : Int) - 1 - ((k : Nat) : Int))))) rfl (by rw [decide_eq_true hc5])) rfl) rfl) (y_bin (Ev.t (v := U64 (BitVec.ofNat 64 (Oct.cy s n.toNat k))) rfl rfl) (Ev.c (v := U64 (0#64))) gtr64) ?_
      refine w_val (v := .bool (decide ((0#64).toNat < (BitVec.ofNat 64 (Oct.cy s n.toNat k)).toNat))) (y_pick_t (Ev.t (v := .bool true) (Eq.trans (b := .bool (decide (0 ≤ (((s.length : Nat) : Int) - 1 - ((k : Nat) : Int))))) rfl (by rw [decide_eq_true hc5])) rfl) (Ev.t (v := .bool (decide ((0#64).toNat < (BitVec.ofNat 64 (Oct.cy s n.toNat k)).toNat))) rfl rfl)) ?_
      refine wpList_nil ?_
      refine then_n ?_
      refine c_if (p := (0#64).toNat < (BitVec.ofNat 64 (Oct.cy s n.toNat k)).toNat) (Ev.t (v := .bool (decide ((0#64).toNat < (BitVec.ofNat 64 (Oct.cy s n.toNat k)).toNat))) rfl rfl) (fun hc6 => ?_) (fun hc6 => ?_)
      · skip
        refine wp_skip ?_
        refine then_n ?_
        refine wp_seq ?_
        refine wp_block ?_
        refine wp_seq ?_
        refine wp_region_lit ?_
        refine w_val (v := U64 (BitVec.ofNat 64 (Oct.cy s n.toNat k))) (y_mv (Ev.t (v := U64 (BitVec.ofNat 64 (Oct.cy s n.toNat k))) s1_1 rfl)) ?_
        refine w_val (v := .slice (some ⟨b_8, 0, none⟩) s.length cap_b_8) (y_mv (Ev.t (v := .slice (some ⟨b_8, 0, none⟩) s.length cap_b_8) s1_5 rfl)) ?_
        refine w_val (v := .int .i64 (((s.length : Nat) : Int) - 1 - ((k : Nat) : Int))) (y_mv (Ev.t (v := .int .i64 (((s.length : Nat) : Int) - 1 - ((k : Nat) : Int))) s1_6 rfl)) ?_
        refine w_val (v := .pointer (some ⟨b_8, (s.length - 1 - k), none⟩)) (y_is1z (i := (s.length - 1 - k)) (Ev.t (v := .slice (some ⟨b_8, 0, none⟩) s.length cap_b_8) rfl rfl) (Ev.t (v := .int .i64 (((s.length : Nat) : Int) - 1 - ((k : Nat) : Int))) rfl rfl) Try.underlying47 OctWT.sz5 (by omega) (by omega)) ?_
        refine w_val (v := U8 (gb s (s.length - 1 - k))) (y_ld (Ev.t (v := .pointer (some ⟨b_8, (s.length - 1 - k), none⟩)) rfl rfl) OctWT.sc5 (r_b_8.val (v := U8 (gb s (s.length - 1 - k))) (by omega) ((if_neg (by omega)).trans rfl))) ?_
        refine w_val (v := U64 ((gb s (s.length - 1 - k)).setWidth 64)) (y_u8_u64 (Ev.t (v := U8 (gb s (s.length - 1 - k))) rfl rfl) OctWT.so5 Try.underlying35) ?_
        refine w_val (v := U64 (((gb s (s.length - 1 - k)).setWidth 64) &&& (255#64))) (y_bin (Ev.t (v := U64 ((gb s (s.length - 1 - k)).setWidth 64)) rfl rfl) (Ev.c (v := U64 (255#64))) and64) ?_
        refine w_val (v := U64 ((BitVec.ofNat 64 (Oct.cy s n.toNat k)) + (((gb s (s.length - 1 - k)).setWidth 64) &&& (255#64)))) (y_bin (Ev.t (v := U64 (BitVec.ofNat 64 (Oct.cy s n.toNat k))) rfl rfl) (Ev.t (v := U64 (((gb s (s.length - 1 - k)).setWidth 64) &&& (255#64))) rfl rfl) add64) ?_
        refine w_val (v := U64 ((BitVec.ofNat 64 (Oct.cy s n.toNat k)) + (((gb s (s.length - 1 - k)).setWidth 64) &&& (255#64)))) (y_as (Ev.t (v := U64 ((BitVec.ofNat 64 (Oct.cy s n.toNat k)) + (((gb s (s.length - 1 - k)).setWidth 64) &&& (255#64)))) rfl rfl)) ?_
        refine wpList_nil ?_
        refine then_n ?_
        refine wp_seq ?_
        refine wp_seq ?_
        refine wp_region_lit ?_
        refine w_val (v := U64 ((BitVec.ofNat 64 (Oct.cy s n.toNat k)) + (((gb s (s.length - 1 - k)).setWidth 64) &&& (255#64)))) (y_mv (Ev.t (v := U64 ((BitVec.ofNat 64 (Oct.cy s n.toNat k)) + (((gb s (s.length - 1 - k)).setWidth 64) &&& (255#64)))) rfl rfl)) ?_
        refine w_val (v := .slice (some ⟨b_8, 0, none⟩) s.length cap_b_8) (y_mv (Ev.t (v := .slice (some ⟨b_8, 0, none⟩) s.length cap_b_8) s1_5 rfl)) ?_
        refine w_val (v := .int .i64 (((s.length : Nat) : Int) - 1 - ((k : Nat) : Int))) (y_mv (Ev.t (v := .int .i64 (((s.length : Nat) : Int) - 1 - ((k : Nat) : Int))) s1_6 rfl)) ?_
        refine w_val (v := .pointer (some ⟨b_8, (s.length - 1 - k), none⟩)) (y_is1z (i := (s.length - 1 - k)) (Ev.t (v := .slice (some ⟨b_8, 0, none⟩) s.length cap_b_8) rfl rfl) (Ev.t (v := .int .i64 (((s.length : Nat) : Int) - 1 - ((k : Nat) : Int))) rfl rfl) Try.underlying47 OctWT.sz5 (by omega) (by omega)) ?_
        refine w_val (v := U8 (gb s (s.length - 1 - k))) (y_ld (Ev.t (v := .pointer (some ⟨b_8, (s.length - 1 - k), none⟩)) rfl rfl) OctWT.sc5 (r_b_8.val (v := U8 (gb s (s.length - 1 - k))) (by omega) ((if_neg (by omega)).trans rfl))) ?_
        refine w_val (v := U64 ((gb s (s.length - 1 - k)).setWidth 64)) (y_u8_u64 (Ev.t (v := U8 (gb s (s.length - 1 - k))) rfl rfl) OctWT.so5 Try.underlying35) ?_
        refine w_val (v := .bool (decide (((BitVec.ofNat 64 (Oct.cy s n.toNat k)) + (((gb s (s.length - 1 - k)).setWidth 64) &&& (255#64))).toNat < ((gb s (s.length - 1 - k)).setWidth 64).toNat))) (y_bin (Ev.t (v := U64 ((BitVec.ofNat 64 (Oct.cy s n.toNat k)) + (((gb s (s.length - 1 - k)).setWidth 64) &&& (255#64)))) rfl rfl) (Ev.t (v := U64 ((gb s (s.length - 1 - k)).setWidth 64)) rfl rfl) lss64) ?_
        refine wpList_nil ?_
        refine then_n ?_
        refine c_if (p := ((BitVec.ofNat 64 (Oct.cy s n.toNat k)) + (((gb s (s.length - 1 - k)).setWidth 64) &&& (255#64))).toNat < ((gb s (s.length - 1 - k)).setWidth 64).toNat) (Ev.t (v := .bool (decide (((BitVec.ofNat 64 (Oct.cy s n.toNat k)) + (((gb s (s.length - 1 - k)).setWidth 64) &&& (255#64))).toNat < ((gb s (s.length - 1 - k)).setWidth 64).toNat))) rfl rfl) (fun hc7 => ?_) (fun hc7 => ?_)
        · skip
          refine wp_seq ?_
          refine wp_region_lit ?_
          refine w_val (v := .slice (some ⟨b_8, 0, none⟩) s.length cap_b_8) (y_mv (Ev.t (v := .slice (some ⟨b_8, 0, none⟩) s.length cap_b_8) s1_5 rfl)) ?_
          refine w_val (v := .int .i64 (((s.length : Nat) : Int) - 1 - ((k : Nat) : Int))) (y_mv (Ev.t (v := .int .i64 (((s.length : Nat) : Int) - 1 - ((k : Nat) : Int))) s1_6 rfl)) ?_
          refine w_val (v := U64 ((BitVec.ofNat 64 (Oct.cy s n.toNat k)) + (((gb s (s.length - 1 - k)).setWidth 64) &&& (255#64)))) (y_mv (Ev.t (v := U64 ((BitVec.ofNat 64 (Oct.cy s n.toNat k)) + (((gb s (s.length - 1 - k)).setWidth 64) &&& (255#64)))) rfl rfl)) ?_
          refine w_val (v := U8 (((BitVec.ofNat 64 (Oct.cy s n.toNat k)) + (((gb s (s.length - 1 - k)).setWidth 64) &&& (255#64))).setWidth 8)) (y_u64_u8 (Ev.t (v := U64 ((BitVec.ofNat 64 (Oct.cy s n.toNat k)) + (((gb s (s.length - 1 - k)).setWidth 64) &&& (255#64)))) rfl rfl) OctWT.so35 Try.underlying5) ?_
          refine w_val (v := .pointer (some ⟨b_8, (s.length - 1 - k), none⟩)) (y_is1z (i := (s.length - 1 - k)) (Ev.t (v := .slice (some ⟨b_8, 0, none⟩) s.length cap_b_8) rfl rfl) (Ev.t (v := .int .i64 (((s.length : Nat) : Int) - 1 - ((k : Nat) : Int))) rfl rfl) Try.underlying47 OctWT.sz5 (by omega) (by omega)) ?_
          refine w_st (v := U8 (((BitVec.ofNat 64 (Oct.cy s n.toNat k)) + (((gb s (s.length - 1 - k)).setWidth 64) &&& (255#64))).setWidth 8)) (Ev.t (v := .pointer (some ⟨b_8, (s.length - 1 - k), none⟩)) rfl rfl) (Ev.t (v := U8 (((BitVec.ofNat 64 (Oct.cy s n.toNat k)) + (((gb s (s.length - 1 - k)).setWidth 64) &&& (255#64))).setWidth 8)) rfl rfl) rfl rfl OctWT.sz5 r_b_8 (by omega) ?_
          clear r_b_8; intro w8 r_b_8 hg9 _
          replace hk := thenG hk hg9 (by omega)
          refine wpList_nil ?_
          refine then_n ?_
          refine wp_seq ?_
          refine wp_region_lit ?_
          refine w_val (v := U64 ((BitVec.ofNat 64 (Oct.cy s n.toNat k)) + (((gb s (s.length - 1 - k)).setWidth 64) &&& (255#64)))) (y_mv (Ev.t (v := U64 ((BitVec.ofNat 64 (Oct.cy s n.toNat k)) + (((gb s (s.length - 1 - k)).setWidth 64) &&& (255#64)))) rfl rfl)) ?_
          refine w_val (v := U64 (((BitVec.ofNat 64 (Oct.cy s n.toNat k)) + (((gb s (s.length - 1 - k)).setWidth 64) &&& (255#64))) >>> 8)) (y_bin (Ev.t (v := U64 ((BitVec.ofNat 64 (Oct.cy s n.toNat k)) + (((gb s (s.length - 1 - k)).setWidth 64) &&& (255#64)))) rfl rfl) (Ev.c (v := .int .u64 8)) (shr64 (c := 8) rfl)) ?_
          refine w_val (v := U64 ((((BitVec.ofNat 64 (Oct.cy s n.toNat k)) + (((gb s (s.length - 1 - k)).setWidth 64) &&& (255#64))) >>> 8) ||| (72057594037927936#64))) (y_bin (Ev.t (v := U64 (((BitVec.ofNat 64 (Oct.cy s n.toNat k)) + (((gb s (s.length - 1 - k)).setWidth 64) &&& (255#64))) >>> 8)) rfl rfl) (Ev.c (v := U64 (72057594037927936#64))) or64) ?_
          refine w_val (v := U64 ((((BitVec.ofNat 64 (Oct.cy s n.toNat k)) + (((gb s (s.length - 1 - k)).setWidth 64) &&& (255#64))) >>> 8) ||| (72057594037927936#64))) (y_as (Ev.t (v := U64 ((((BitVec.ofNat 64 (Oct.cy s n.toNat k)) + (((gb s (s.length - 1 - k)).setWidth 64) &&& (255#64))) >>> 8) ||| (72057594037927936#64))) rfl rfl)) ?_
          refine wpList_nil ?_
          refine then_n ?_
          refine wp_exit ?_
          refine then_x ?_
          refine inb_x ?_
          refine then_n ?_
          refine wp_region_lit ?_
          refine w_val (v := .int .i64 (((s.length : Nat) : Int) - 1 - ((k : Nat) : Int))) (y_mv (Ev.t (v := .int .i64 (((s.length : Nat) : Int) - 1 - ((k : Nat) : Int))) s1_6 rfl)) ?_
          refine w_val (v := .int .i64 ((((s.length : Nat) : Int) - 1 - ((k : Nat) : Int)) - 1)) (y_bin (Ev.t (v := .int .i64 (((s.length : Nat) : Int) - 1 - ((k : Nat) : Int))) rfl rfl) (Ev.c (v := .int .i64 1)) (b_sub (by omega))) ?_
          refine w_val (v := .int .i64 ((((s.length : Nat) : Int) - 1 - ((k : Nat) : Int)) - 1)) (y_as (Ev.t (v := .int .i64 ((((s.length : Nat) : Int) - 1 - ((k : Nat) : Int)) - 1)) rfl rfl)) ?_
          refine wpList_nil ?_
          exact then_n ⟨_, (by omega), k + 1, rfl, _, rfl, (by first | omega | with_reducible rfl | assumption | trivial | simp), s1_0, (Eq.trans (b := U64 ((((BitVec.ofNat 64 (Oct.cy s n.toNat k)) + (((gb s (s.length - 1 - k)).setWidth 64) &&& (255#64))) >>> 8) ||| (72057594037927936#64))) rfl (by exact congrArg U64 (by first | exact Oct.ad_over _ _ hcl (by assumption) | exact Oct.ad_no _ _ hcl (by assumption)))), s1_4, s1_5, (Eq.trans (b := .int .i64 ((((s.length : Nat) : Int) - 1 - ((k : Nat) : Int)) - 1)) rfl (by first | with_reducible rfl | (with_reducible congr 1 <;> omega) | (with_reducible congr 2 <;> omega) | (with_reducible congr 3 <;> omega) | rfl)), (r_b_8.congr (fun j hj => by (try dsimp only); by_cases e : j = s.length - 1 - k; (rw [if_pos e, if_pos (by omega), Oct.gb_add s _ j (by omega), show s.length - 1 - j = k from by omega, e]; exact congrArg U8 (Oct.ad_lo _ _)); (rw [if_neg e]; by_cases e2 : s.length ≤ j + k; (rw [if_pos e2, if_pos (by omega)]); (rw [if_neg e2, if_neg (by omega)])))), hk⟩
        · skip
          refine wp_skip ?_
          refine then_n ?_
          refine wp_seq ?_
          refine wp_region_lit ?_
          refine w_val (v := .slice (some ⟨b_8, 0, none⟩) s.length cap_b_8) (y_mv (Ev.t (v := .slice (some ⟨b_8, 0, none⟩) s.length cap_b_8) s1_5 rfl)) ?_
          refine w_val (v := .int .i64 (((s.length : Nat) : Int) - 1 - ((k : Nat) : Int))) (y_mv (Ev.t (v := .int .i64 (((s.length : Nat) : Int) - 1 - ((k : Nat) : Int))) s1_6 rfl)) ?_
          refine w_val (v := U64 ((BitVec.ofNat 64 (Oct.cy s n.toNat k)) + (((gb s (s.length - 1 - k)).setWidth 64) &&& (255#64)))) (y_mv (Ev.t (v := U64 ((BitVec.ofNat 64 (Oct.cy s n.toNat k)) + (((gb s (s.length - 1 - k)).setWidth 64) &&& (255#64)))) rfl rfl)) ?_
          refine w_val (v := U8 (((BitVec.ofNat 64 (Oct.cy s n.toNat k)) + (((gb s (s.length - 1 - k)).setWidth 64) &&& (255#64))).setWidth 8)) (y_u64_u8 (Ev.t (v := U64 ((BitVec.ofNat 64 (Oct.cy s n.toNat k)) + (((gb s (s.length - 1 - k)).setWidth 64) &&& (255#64)))) rfl rfl) OctWT.so35 Try.underlying5) ?_
          refine w_val (v := .pointer (some ⟨b_8, (s.length - 1 - k), none⟩)) (y_is1z (i := (s.length - 1 - k)) (Ev.t (v := .slice (some ⟨b_8, 0, none⟩) s.length cap_b_8) rfl rfl) (Ev.t (v := .int .i64 (((s.length : Nat) : Int) - 1 - ((k : Nat) : Int))) rfl rfl) Try.underlying47 OctWT.sz5 (by omega) (by omega)) ?_
          refine w_st (v := U8 (((BitVec.ofNat 64 (Oct.cy s n.toNat k)) + (((gb s (s.length - 1 - k)).setWidth 64) &&& (255#64))).setWidth 8)) (Ev.t (v := .pointer (some ⟨b_8, (s.length - 1 - k), none⟩)) rfl rfl) (Ev.t (v := U8 (((BitVec.ofNat 64 (Oct.cy s n.toNat k)) + (((gb s (s.length - 1 - k)).setWidth 64) &&& (255#64))).setWidth 8)) rfl rfl) rfl rfl OctWT.sz5 r_b_8 (by omega) ?_
          clear r_b_8; intro w10 r_b_8 hg11 _
          replace hk := thenG hk hg11 (by omega)
          refine wpList_nil ?_
          refine then_n ?_
          refine wp_region_lit ?_
          refine w_val (v := U64 ((BitVec.ofNat 64 (Oct.cy s n.toNat k)) + (((gb s (s.length - 1 - k)).setWidth 64) &&& (255#64)))) (y_mv (Ev.t (v := U64 ((BitVec.ofNat 64 (Oct.cy s n.toNat k)) + (((gb s (s.length - 1 - k)).setWidth 64) &&& (255#64)))) rfl rfl)) ?_
          refine w_val (v := U64 (((BitVec.ofNat 64 (Oct.cy s n.toNat k)) + (((gb s (s.length - 1 - k)).setWidth 64) &&& (255#64))) >>> 8)) (y_bin (Ev.t (v := U64 ((BitVec.ofNat 64 (Oct.cy s n.toNat k)) + (((gb s (s.length - 1 - k)).setWidth 64) &&& (255#64)))) rfl rfl) (Ev.c (v := .int .u64 8)) (shr64 (c := 8) rfl)) ?_
          refine w_val (v := U64 (((BitVec.ofNat 64 (Oct.cy s n.toNat k)) + (((gb s (s.length - 1 - k)).setWidth 64) &&& (255#64))) >>> 8)) (y_as (Ev.t (v := U64 (((BitVec.ofNat 64 (Oct.cy s n.toNat k)) + (((gb s (s.length - 1 - k)).setWidth 64) &&& (255#64))) >>> 8)) rfl rfl)) ?_
          refine wpList_nil ?_
          refine inb_n ?_
          refine then_n ?_
          refine wp_region_lit ?_
          refine w_val (v := .int .i64 (((s.length : Nat) : Int) - 1 - ((k : Nat) : Int))) (y_mv (Ev.t (v := .int .i64 (((s.length : Nat) : Int) - 1 - ((k : Nat) : Int))) s1_6 rfl)) ?_
          refine w_val (v := .int .i64 ((((s.length : Nat) : Int) - 1 - ((k : Nat) : Int)) - 1)) (y_bin (Ev.t (v := .int .i64 (((s.length : Nat) : Int) - 1 - ((k : Nat) : Int))) rfl rfl) (Ev.c (v := .int .i64 1)) (b_sub (by omega))) ?_
          refine w_val (v := .int .i64 ((((s.length : Nat) : Int) - 1 - ((k : Nat) : Int)) - 1)) (y_as (Ev.t (v := .int .i64 ((((s.length : Nat) : Int) - 1 - ((k : Nat) : Int)) - 1)) rfl rfl)) ?_
          refine wpList_nil ?_
          exact then_n ⟨_, (by omega), k + 1, rfl, _, rfl, (by first | omega | with_reducible rfl | assumption | trivial | simp), s1_0, (Eq.trans (b := U64 (((BitVec.ofNat 64 (Oct.cy s n.toNat k)) + (((gb s (s.length - 1 - k)).setWidth 64) &&& (255#64))) >>> 8)) rfl (by exact congrArg U64 (by first | exact Oct.ad_over _ _ hcl (by assumption) | exact Oct.ad_no _ _ hcl (by assumption)))), s1_4, s1_5, (Eq.trans (b := .int .i64 ((((s.length : Nat) : Int) - 1 - ((k : Nat) : Int)) - 1)) rfl (by first | with_reducible rfl | (with_reducible congr 1 <;> omega) | (with_reducible congr 2 <;> omega) | (with_reducible congr 3 <;> omega) | rfl)), (r_b_8.congr (fun j hj => by (try dsimp only); by_cases e : j = s.length - 1 - k; (rw [if_pos e, if_pos (by omega), Oct.gb_add s _ j (by omega), show s.length - 1 - j = k from by omega, e]; exact congrArg U8 (Oct.ad_lo _ _)); (rw [if_neg e]; by_cases e2 : s.length ≤ j + k; (rw [if_pos e2, if_pos (by omega)]); (rw [if_neg e2, if_neg (by omega)])))), hk⟩
      · skip
        refine wp_exit ?_
        refine then_x ?_
        replace r_b_8 := r_b_8.congr (g := fun j => U8 (gb (Oct.add s n.toNat) j)) (fun j hj => by (try dsimp only); by_cases e2 : s.length ≤ j + k; (rw [if_pos e2]); (rw [if_neg e2]; first | (exfalso; omega) | exact congrArg U8 (Oct.add_rest s n k j (by omega) (by assumption))))
        refine then_x ?_
        refine inb_x ?_
        refine then_n ?_
        refine wp_seq ?_
        refine wp_region_lit ?_
        refine w_val (v := .slice (some ⟨b_8, 0, none⟩) s.length cap_b_8) (y_mv (Ev.t (v := .slice (some ⟨b_8, 0, none⟩) s.length cap_b_8) s1_5 rfl)) ?_
        refine w_val (v := .string (str (Oct.add s n.toNat))) (y_str (l := Oct.add s n.toNat) (Ev.t (v := .slice (some ⟨b_8, 0, none⟩) s.length cap_b_8) rfl rfl) (by first | rfl | assumption | (simp; omega) | omega) Try.underlying47 Try.underlying5 Try.underlying9 (fun j hj => by rw [Nat.zero_add]; exact (r_b_8.cell (by omega)))) ?_
        refine w_val (v := .string (str (Oct.add s n.toNat))) (y_as (Ev.t (v := .string (str (Oct.add s n.toNat))) rfl rfl)) ?_
        refine wpList_nil ?_
        refine then_n ?_
        refine wp_ret ?_
        refine fin_ret1 rfl (Ev.t (v := .string (str (Oct.add s n.toNat))) rfl rfl) ?_
        exact ⟨rfl, hk⟩
    · skip
      first | with_reducible refine w_skip ?_ ?_ | refine w_skip ?_ ?_
      · exact want_no (j := 2) rfl rfl (Ev.t (v := .bool false) (Eq.trans (b := .bool (decide (0 ≤ (((s.length : Nat) : Int) - 1 - ((k : Nat) : Int))))) rfl (by rw [decide_eq_false hc5])) rfl) rfl
      first | with_reducible refine w_skip ?_ ?_ | refine w_skip ?_ ?_
      · exact want_no (j := 2) rfl rfl (Ev.t (v := .bool false) (Eq.trans (b := .bool (decide (0 ≤ (((s.length : Nat) : Int) - 1 - ((k : Nat) : Int))))) rfl (by rw [decide_eq_false hc5])) rfl) rfl
      refine w_val (v := .bool false) (y_pick_f (Ev.t (v := .bool false) (Eq.trans (b := .bool (decide (0 ≤ (((s.length : Nat) : Int) - 1 - ((k : Nat) : Int))))) rfl (by rw [decide_eq_false hc5])) rfl) (Ev.c (v := .bool false))) ?_
      refine wpList_nil ?_
      refine then_n ?_
      refine c_ff (Ev.t (v := .bool false) rfl rfl) ?_
      refine wp_exit ?_
      refine then_x ?_
      replace r_b_8 := r_b_8.congr (g := fun j => U8 (gb (Oct.add s n.toNat) j)) (fun j hj => by (try dsimp only); by_cases e2 : s.length ≤ j + k; (rw [if_pos e2]); (rw [if_neg e2]; first | (exfalso; omega) | exact congrArg U8 (Oct.add_rest s n k j (by omega) (by assumption))))
      refine then_x ?_
      refine inb_x ?_
      refine then_n ?_
      refine wp_seq ?_
      refine wp_region_lit ?_
      refine w_val (v := .slice (some ⟨b_8, 0, none⟩) s.length cap_b_8) (y_mv (Ev.t (v := .slice (some ⟨b_8, 0, none⟩) s.length cap_b_8) s1_5 rfl)) ?_
      refine w_val (v := .string (str (Oct.add s n.toNat))) (y_str (l := Oct.add s n.toNat) (Ev.t (v := .slice (some ⟨b_8, 0, none⟩) s.length cap_b_8) rfl rfl) (by first | rfl | assumption | (simp; omega) | omega) Try.underlying47 Try.underlying5 Try.underlying9 (fun j hj => by rw [Nat.zero_add]; exact (r_b_8.cell (by omega)))) ?_
      refine w_val (v := .string (str (Oct.add s n.toNat))) (y_as (Ev.t (v := .string (str (Oct.add s n.toNat))) rfl rfl)) ?_
      refine wpList_nil ?_
      refine then_n ?_
      refine wp_ret ?_
      refine fin_ret1 rfl (Ev.t (v := .string (str (Oct.add s n.toNat))) rfl rfl) ?_
      exact ⟨rfl, hk⟩

set_option maxRecDepth 100000 in
set_option maxHeartbeats 1000000 in
theorem refAddN_c (s : List (BitVec 8)) (n : BitVec 64) (hs : s.length ≤ 140737488351232) (w0 : World) : Calls Try.prog 37 #[.string (str s), U64 n] w0 fun e w' => e = .returned (.string (str (Oct.add s n.toNat))) ∧ Below w0.heap.size w0 w' := by
  have hla := Oct.length_add s n.toNat
  refine enter (n := 41) Try.func37 rfl rfl rfl ?_
  have hk : Below w0.heap.size w0 w0 := Below.refl _ _
  refine wp_seq ?_
  refine wp_region_lit ?_
  refine w_val (v := .string (str ([] : List (BitVec 8)))) (y_as (Ev.c (v := .string (str ([] : List (BitVec 8)))))) ?_
  refine wpList_nil ?_
  refine then_n ?_
  refine wp_seq ?_
  refine wp_region_lit ?_
  refine w_val (v := .string (str s)) (y_mv (Ev.t (v := .string (str s)) rfl rfl)) ?_
  refine w_bytes (Ev.t (v := .string (str s)) rfl rfl) Try.underlying9 Try.underlying47 Try.underlying5 ?_
  intro b_10 cap_b_10 w1 hbe_b_10 hc_b_10 r_b_10 hb2
  have ge_b_10 : w0.heap.size ≤ b_10 := by have := hk.size; omega
  clear hbe_b_10
  replace hk := thenB hk hb2
  refine w_val (v := .slice (some ⟨b_10, 0, none⟩) s.length cap_b_10) (y_as (Ev.t (v := .slice (some ⟨b_10, 0, none⟩) s.length cap_b_10) rfl rfl)) ?_
  refine wpList_nil ?_
  refine then_n ?_
  refine wp_seq ?_
  refine wp_region_lit ?_
  refine w_val (v := .int .i64 0) (y_as (Ev.c (v := .int .i64 0))) ?_
  refine wpList_nil ?_
  refine then_n ?_
  refine wp_seq ?_
  refine wp_seq ?_
  refine wp_region_lit ?_
  refine w_val (v := .slice (some ⟨b_10, 0, none⟩) s.length cap_b_10) (y_mv (Ev.t (v := .slice (some ⟨b_10, 0, none⟩) s.length cap_b_10) rfl rfl)) ?_
  refine w_val (v := .int .i64 ((s.length : Nat) : Int)) (y_len_sl (Ev.t (v := .slice (some ⟨b_10, 0, none⟩) s.length cap_b_10) rfl rfl) Try.underlying47) ?_
  refine w_val (v := .int .i64 (((s.length : Nat) : Int) - 1)) (y_bin (Ev.t (v := .int .i64 ((s.length : Nat) : Int)) rfl rfl) (Ev.c (v := .int .i64 1)) (b_sub (by omega))) ?_
  refine w_val (v := .int .i64 (((s.length : Nat) : Int) - 1)) (y_as (Ev.t (v := .int .i64 (((s.length : Nat) : Int) - 1)) rfl rfl)) ?_
  refine wpList_nil ?_
  refine then_n ?_
  refine wp_block ?_
  refine c_loop (fun dN aN wl => ∃ (k : Nat), dN = (s.length - k) ∧ ∃ f3, aN = fr 41 f3 ∧ (k ≤ s.length) ∧ f3 0 = .string (str s) ∧ f3 1 = U64 (BitVec.ofNat 64 (n.toNat / 256 ^ k)) ∧ f3 4 = .string (str ([] : List (BitVec 8))) ∧ f3 5 = .slice (some ⟨b_10, 0, none⟩) s.length cap_b_10 ∧ f3 6 = .int .i64 (((Oct.ry s n.toNat k) : Nat) : Int) ∧ f3 7 = .int .i64 (((s.length : Nat) : Int) - 1 - ((k : Nat) : Int)) ∧ Row wl b_10 5 s.length (fun j => if s.length ≤ j + k then (fun j => U8 (gb (Oct.add s n.toNat) j)) j else (fun j => U8 (gb s j)) j) ∧ Below w0.heap.size w0 wl) (s.length - 0) ?_ ?_
  · exact ⟨0, rfl, _, rfl, (by first | omega | with_reducible rfl | assumption | trivial | exact ⟨rfl, rfl⟩ | simp), rfl, (Eq.trans (b := U64 n) rfl (by exact congrArg U64 (by show n = BitVec.ofNat 64 (n.toNat / 256 ^ 0); simp))), rfl, rfl, (Eq.trans (b := .int .i64 0) rfl (by exact congrArg (Value.int .i64) (by unfold Oct.ry Oct.cy; simp))), (Eq.trans (b := .int .i64 (((s.length : Nat) : Int) - 1)) rfl (by congr 1; omega)), (r_b_10.congr (fun j hj => by (first | with_reducible rfl | (dsimp only; done) | ((try dsimp only); (repeat' split) <;> first | with_reducible rfl | (exfalso; omega) | (subst_vars; with_reducible rfl) | (subst_vars; simp only [Nat.add_sub_cancel_left, Nat.add_sub_cancel, Nat.sub_self, Nat.sub_zero]; done) | (with_reducible congr 1 <;> omega) | (with_reducible congr 2 <;> omega) | (with_reducible congr 3 <;> omega) | rfl | (subst_vars; rfl))))), hk⟩
  · skip
    clear r_b_10 hk
    rintro _ _ w4 ⟨k, rfl, f3, rfl, i1_0, s1_0, s1_1, s1_4, s1_5, s1_6, s1_7, r_b_10, hk⟩
    have hrm := Oct.rem_eq n k
    have hry := Oct.ry_le s n.toNat k
    have hb8 := (gb s (s.length - 1 - k)).isLt
    have hst := Oct.ry_step s n.toNat k
    refine wp_seq ?_
    refine wp_seq ?_
    refine wp_region_lit ?_
    refine w_val (v := .int .i64 (((s.length : Nat) : Int) - 1 - ((k : Nat) : Int))) (y_mv (Ev.t (v := .int .i64 (((s.length : Nat) : Int) - 1 - ((k : Nat) : Int))) s1_7 rfl)) ?_
    refine w_val (v := .bool (decide (0 ≤ (((s.length : Nat) : Int) - 1 - ((k : Nat) : Int))))) (y_bin (Ev.t (v := .int .i64 (((s.length : Nat) : Int) - 1 - ((k : Nat) : Int))) rfl rfl) (Ev.c (v := .int .i64 0)) b_geq) ?_
    refine wpList_nil ?_
    refine then_n ?_
    refine c_if (p := 0 ≤ (((s.length : Nat) : Int) - 1 - ((k : Nat) : Int))) (Ev.t (v := .bool (decide (0 ≤ (((s.length : Nat) : Int) - 1 - ((k : Nat) : Int))))) rfl rfl) (fun hc5 => ?_) (fun hc5 => ?_)
    · skip
      refine wp_skip ?_
      refine then_n ?_
      refine wp_seq ?_
      refine wp_block ?_
      refine wp_seq ?_
      refine wp_region_lit ?_
      refine w_val (v := .slice (some ⟨b_10, 0, none⟩) s.length cap_b_10) (y_mv (Ev.t (v := .slice (some ⟨b_10, 0, none⟩) s.length cap_b_10) s1_5 rfl)) ?_
      refine w_val (v := .int .i64 (((s.length : Nat) : Int) - 1 - ((k : Nat) : Int))) (y_mv (Ev.t (v := .int .i64 (((s.length : Nat) : Int) - 1 - ((k : Nat) : Int))) s1_7 rfl)) ?_
      refine w_val (v := .pointer (some ⟨b_10, (s.length - 1 - k), none⟩)) (y_is1z (i := (s.length - 1 - k)) (Ev.t (v := .slice (some ⟨b_10, 0, none⟩) s.length cap_b_10) rfl rfl) (Ev.t (v := .int .i64 (((s.length : Nat) : Int) - 1 - ((k : Nat) : Int))) rfl rfl) Try.underlying47 OctWT.sz5 (by omega) (by omega)) ?_
      refine w_val (v := U8 (gb s (s.length - 1 - k))) (y_ld (Ev.t (v := .pointer (some ⟨b_10, (s.length - 1 - k), none⟩)) rfl rfl) OctWT.sc5 (r_b_10.val (v := U8 (gb s (s.length - 1 - k))) (by omega) ((if_neg (by omega)).trans rfl))) ?_
      refine w_val (v := .int .i64 (((gb s (s.length - 1 - k)).toNat : Nat) : Int)) (y_u8_i64 (Ev.t (v := U8 (gb s (s.length - 1 - k))) rfl rfl) OctWT.so5 Try.underlying3 (by have := (gb s (s.length - 1 - k)).isLt; omega)) ?_
      refine w_val (v := U64 (BitVec.ofNat 64 (n.toNat / 256 ^ k))) (y_mv (Ev.t (v := U64 (BitVec.ofNat 64 (n.toNat / 256 ^ k))) s1_1 rfl)) ?_
      refine w_val (v := U64 ((BitVec.ofNat 64 (n.toNat / 256 ^ k)) % (256#64))) (y_bin (Ev.t (v := U64 (BitVec.ofNat 64 (n.toNat / 256 ^ k))) rfl rfl) (Ev.c (v := U64 (256#64))) (rem64 (by decide))) ?_
      refine w_val (v := .int .i64 ((((BitVec.ofNat 64 (n.toNat / 256 ^ k)) % (256#64)).toNat : Nat) : Int)) (y_u64_i64 (Ev.t (v := U64 ((BitVec.ofNat 64 (n.toNat / 256 ^ k)) % (256#64))) rfl rfl) OctWT.so35 Try.underlying3 (by omega)) ?_
      refine w_val (v := .int .i64 ((((gb s (s.length - 1 - k)).toNat : Nat) : Int) + ((((BitVec.ofNat 64 (n.toNat / 256 ^ k)) % (256#64)).toNat : Nat) : Int))) (y_bin (Ev.t (v := .int .i64 (((gb s (s.length - 1 - k)).toNat : Nat) : Int)) rfl rfl) (Ev.t (v := .int .i64 ((((BitVec.ofNat 64 (n.toNat / 256 ^ k)) % (256#64)).toNat : Nat) : Int)) rfl rfl) (b_add (by omega))) ?_
      refine w_val (v := .int .i64 (((Oct.ry s n.toNat k) : Nat) : Int)) (y_mv (Ev.t (v := .int .i64 (((Oct.ry s n.toNat k) : Nat) : Int)) s1_6 rfl)) ?_
      refine w_val (v := .int .i64 (((((gb s (s.length - 1 - k)).toNat : Nat) : Int) + ((((BitVec.ofNat 64 (n.toNat / 256 ^ k)) % (256#64)).toNat : Nat) : Int)) + (((Oct.ry s n.toNat k) : Nat) : Int))) (y_bin (Ev.t (v := .int .i64 ((((gb s (s.length - 1 - k)).toNat : Nat) : Int) + ((((BitVec.ofNat 64 (n.toNat / 256 ^ k)) % (256#64)).toNat : Nat) : Int))) rfl rfl) (Ev.t (v := .int .i64 (((Oct.ry s n.toNat k) : Nat) : Int)) rfl rfl) (b_add (by omega))) ?_
      refine w_val (v := .int .i64 (((((gb s (s.length - 1 - k)).toNat : Nat) : Int) + ((((BitVec.ofNat 64 (n.toNat / 256 ^ k)) % (256#64)).toNat : Nat) : Int)) + (((Oct.ry s n.toNat k) : Nat) : Int))) (y_as (Ev.t (v := .int .i64 (((((gb s (s.length - 1 - k)).toNat : Nat) : Int) + ((((BitVec.ofNat 64 (n.toNat / 256 ^ k)) % (256#64)).toNat : Nat) : Int)) + (((Oct.ry s n.toNat k) : Nat) : Int))) rfl rfl)) ?_
      refine wpList_nil ?_
      refine then_n ?_
      refine wp_seq ?_
      refine wp_region_lit ?_
      refine w_val (v := .slice (some ⟨b_10, 0, none⟩) s.length cap_b_10) (y_mv (Ev.t (v := .slice (some ⟨b_10, 0, none⟩) s.length cap_b_10) s1_5 rfl)) ?_
      refine w_val (v := .int .i64 (((s.length : Nat) : Int) - 1 - ((k : Nat) : Int))) (y_mv (Ev.t (v := .int .i64 (((s.length : Nat) : Int) - 1 - ((k : Nat) : Int))) s1_7 rfl)) ?_
      refine w_val (v := .int .i64 (((((gb s (s.length - 1 - k)).toNat : Nat) : Int) + ((((BitVec.ofNat 64 (n.toNat / 256 ^ k)) % (256#64)).toNat : Nat) : Int)) + (((Oct.ry s n.toNat k) : Nat) : Int))) (y_mv (Ev.t (v := .int .i64 (((((gb s (s.length - 1 - k)).toNat : Nat) : Int) + ((((BitVec.ofNat 64 (n.toNat / 256 ^ k)) % (256#64)).toNat : Nat) : Int)) + (((Oct.ry s n.toNat k) : Nat) : Int))) rfl rfl)) ?_
      refine w_val (v := .int .i64 ((((((gb s (s.length - 1 - k)).toNat : Nat) : Int) + ((((BitVec.ofNat 64 (n.toNat / 256 ^ k)) % (256#64)).toNat : Nat) : Int)) + (((Oct.ry s n.toNat k) : Nat) : Int)) % 256)) (y_bin (Ev.t (v := .int .i64 (((((gb s (s.length - 1 - k)).toNat : Nat) : Int) + ((((BitVec.ofNat 64 (n.toNat / 256 ^ k)) % (256#64)).toNat : Nat) : Int)) + (((Oct.ry s n.toNat k) : Nat) : Int))) rfl rfl) (Ev.c (v := .int .i64 256)) (b_rem (by omega))) ?_
      refine w_val (v := U8 (BitVec.ofNat 8 (((((gb s (s.length - 1 - k)).toNat) + (((BitVec.ofNat 64 (n.toNat / 256 ^ k)) % (256#64)).toNat)) + (Oct.ry s n.toNat k)) % 256))) (y_nat_u8 (p := (((((gb s (s.length - 1 - k)).toNat) + (((BitVec.ofNat 64 (n.toNat / 256 ^ k)) % (256#64)).toNat)) + (Oct.ry s n.toNat k)) % 256)) (Ev.t (v := .int .i64 ((((((gb s (s.length - 1 - k)).toNat : Nat) : Int) + ((((BitVec.ofNat 64 (n.toNat / 256 ^ k)) % (256#64)).toNat : Nat) : Int)) + (((Oct.ry s n.toNat k) : Nat) : Int)) % 256)) rfl rfl) (by omega) OctWT.so3 Try.underlying5) ?_
      refine w_val (v := .pointer (some ⟨b_10, (s.length - 1 - k), none⟩)) (y_is1z (i := (s.length - 1 - k)) (Ev.t (v := .slice (some ⟨b_10, 0, none⟩) s.length cap_b_10) rfl rfl) (Ev.t (v := .int .i64 (((s.length : Nat) : Int) - 1 - ((k : Nat) : Int))) rfl rfl) Try.underlying47 OctWT.sz5 (by omega) (by omega)) ?_
      refine w_st (v := U8 (BitVec.ofNat 8 (((((gb s (s.length - 1 - k)).toNat) + (((BitVec.ofNat 64 (n.toNat / 256 ^ k)) % (256#64)).toNat)) + (Oct.ry s n.toNat k)) % 256))) (Ev.t (v := .pointer (some ⟨b_10, (s.length - 1 - k), none⟩)) rfl rfl) (Ev.t (v := U8 (BitVec.ofNat 8 (((((gb s (s.length - 1 - k)).toNat) + (((BitVec.ofNat 64 (n.toNat / 256 ^ k)) % (256#64)).toNat)) + (Oct.ry s n.toNat k)) % 256))) rfl rfl) rfl rfl OctWT.sz5 r_b_10 (by omega) ?_
      clear r_b_10; intro w6 r_b_10 hg7 _
      replace hk := thenG hk hg7 (by omega)
      refine wpList_nil ?_
      refine then_n ?_
      refine wp_seq ?_
      refine wp_region_lit ?_
      refine w_val (v := .int .i64 (((((gb s (s.length - 1 - k)).toNat : Nat) : Int) + ((((BitVec.ofNat 64 (n.toNat / 256 ^ k)) % (256#64)).toNat : Nat) : Int)) + (((Oct.ry s n.toNat k) : Nat) : Int))) (y_mv (Ev.t (v := .int .i64 (((((gb s (s.length - 1 - k)).toNat : Nat) : Int) + ((((BitVec.ofNat 64 (n.toNat / 256 ^ k)) % (256#64)).toNat : Nat) : Int)) + (((Oct.ry s n.toNat k) : Nat) : Int))) rfl rfl)) ?_
      refine w_val (v := .int .i64 ((((((gb s (s.length - 1 - k)).toNat : Nat) : Int) + ((((BitVec.ofNat 64 (n.toNat / 256 ^ k)) % (256#64)).toNat : Nat) : Int)) + (((Oct.ry s n.toNat k) : Nat) : Int)) / 256)) (y_bin (Ev.t (v := .int .i64 (((((gb s (s.length - 1 - k)).toNat : Nat) : Int) + ((((BitVec.ofNat 64 (n.toNat / 256 ^ k)) % (256#64)).toNat : Nat) : Int)) + (((Oct.ry s n.toNat k) : Nat) : Int))) rfl rfl) (Ev.c (v := .int .i64 256)) (b_quo (by omega))) ?_
      refine w_val (v := .int .i64 ((((((gb s (s.length - 1 - k)).toNat : Nat) : Int) + ((((BitVec.ofNat 64 (n.toNat / 256 ^ k)) % (256#64)).toNat : Nat) : Int)) + (((Oct.ry s n.toNat k) : Nat) : Int)) / 256)) (y_as (Ev.t (v := .int .i64 ((((((gb s (s.length - 1 - k)).toNat : Nat) : Int) + ((((BitVec.ofNat 64 (n.toNat / 256 ^ k)) % (256#64)).toNat : Nat) : Int)) + (((Oct.ry s n.toNat k) : Nat) : Int)) / 256)) rfl rfl)) ?_
      refine wpList_nil ?_
      refine then_n ?_
      refine wp_region_lit ?_
      refine w_val (v := U64 (BitVec.ofNat 64 (n.toNat / 256 ^ k))) (y_mv (Ev.t (v := U64 (BitVec.ofNat 64 (n.toNat / 256 ^ k))) s1_1 rfl)) ?_
      refine w_val (v := U64 ((BitVec.ofNat 64 (n.toNat / 256 ^ k)) / (256#64))) (y_bin (Ev.t (v := U64 (BitVec.ofNat 64 (n.toNat / 256 ^ k))) rfl rfl) (Ev.c (v := U64 (256#64))) (quo64 (by decide))) ?_
      refine w_val (v := U64 ((BitVec.ofNat 64 (n.toNat / 256 ^ k)) / (256#64))) (y_as (Ev.t (v := U64 ((BitVec.ofNat 64 (n.toNat / 256 ^ k)) / (256#64))) rfl rfl)) ?_
      refine wpList_nil ?_
      refine inb_n ?_
      refine then_n ?_
      refine wp_region_lit ?_
      refine w_val (v := .int .i64 (((s.length : Nat) : Int) - 1 - ((k : Nat) : Int))) (y_mv (Ev.t (v := .int .i64 (((s.length : Nat) : Int) - 1 - ((k : Nat) : Int))) s1_7 rfl)) ?_
      refine w_val (v := .int .i64 ((((s.length : Nat) : Int) - 1 - ((k : Nat) : Int)) - 1)) (y_bin (Ev.t (v := .int .i64 (((s.length : Nat) : Int) - 1 - ((k : Nat) : Int))) rfl rfl) (Ev.c (v := .int .i64 1)) (b_sub (by omega))) ?_
      refine w_val (v := .int .i64 ((((s.length : Nat) : Int) - 1 - ((k : Nat) : Int)) - 1)) (y_as (Ev.t (v := .int .i64 ((((s.length : Nat) : Int) - 1 - ((k : Nat) : Int)) - 1)) rfl rfl)) ?_
      refine wpList_nil ?_
      exact then_n ⟨_, (by omega), k + 1, rfl, _, rfl, (by first | omega | with_reducible rfl | assumption | trivial | simp), s1_0, (Eq.trans (b := U64 ((BitVec.ofNat 64 (n.toNat / 256 ^ k)) / (256#64))) rfl (by exact congrArg U64 (Oct.div_eq n k))), s1_4, s1_5, (Eq.trans (b := .int .i64 ((((((gb s (s.length - 1 - k)).toNat : Nat) : Int) + ((((BitVec.ofNat 64 (n.toNat / 256 ^ k)) % (256#64)).toNat : Nat) : Int)) + (((Oct.ry s n.toNat k) : Nat) : Int)) / 256)) rfl (by congr 1; omega)), (Eq.trans (b := .int .i64 ((((s.length : Nat) : Int) - 1 - ((k : Nat) : Int)) - 1)) rfl (by first | with_reducible rfl | (with_reducible congr 1 <;> omega) | (with_reducible congr 2 <;> omega) | (with_reducible congr 3 <;> omega) | rfl)), (r_b_10.congr (fun j hj => by (try dsimp only); by_cases e : j = s.length - 1 - k; (rw [if_pos e, if_pos (by omega), Oct.gb_add s _ j (by omega), show s.length - 1 - j = k from by omega, e]; exact congrArg U8 (Oct.mod_eq _ _ (by omega))); (rw [if_neg e]; by_cases e2 : s.length ≤ j + k; (rw [if_pos e2, if_pos (by omega)]); (rw [if_neg e2, if_neg (by omega)])))), hk⟩
    · skip
      refine wp_exit ?_
      refine then_x ?_
      replace r_b_10 := r_b_10.congr (g := fun j => U8 (gb (Oct.add s n.toNat) j)) (fun j hj => by (try dsimp only); rw [if_pos (by omega)])
      refine then_x ?_
      refine inb_x ?_
      refine then_n ?_
      refine wp_seq ?_
      refine wp_region_lit ?_
      refine w_val (v := .slice (some ⟨b_10, 0, none⟩) s.length cap_b_10) (y_mv (Ev.t (v := .slice (some ⟨b_10, 0, none⟩) s.length cap_b_10) s1_5 rfl)) ?_
      refine w_val (v := .string (str (Oct.add s n.toNat))) (y_str (l := Oct.add s n.toNat) (Ev.t (v := .slice (some ⟨b_10, 0, none⟩) s.length cap_b_10) rfl rfl) (by first | rfl | assumption | (simp; omega) | omega) Try.underlying47 Try.underlying5 Try.underlying9 (fun j hj => by rw [Nat.zero_add]; exact (r_b_10.cell (by omega)))) ?_
      refine w_val (v := .string (str (Oct.add s n.toNat))) (y_as (Ev.t (v := .string (str (Oct.add s n.toNat))) rfl rfl)) ?_
      refine wpList_nil ?_
      refine then_n ?_
      refine wp_ret ?_
      refine fin_ret1 rfl (Ev.t (v := .string (str (Oct.add s n.toNat))) rfl rfl) ?_
      exact ⟨rfl, hk⟩
end Go.Proofs.Ythmcoaadigaddaa
