/-
  Octets: what the program and the reference compute. Conditions as each says.
-/
import Derived.Test.YtepogbfkmflooaaDoorRows
import Derived.Test.YtepogbfkmflooaaDoorGenMore
import Derived.Test.YtepogbfkmflooaaDoorOct
import Derived.Test.YtepogbfkmflooaaDoorGenSh
import Derived.ProofKit
namespace Go.Proofs.YtepogbfkmflooaaDoor
open Go.RowKit
set_option linter.unusedSimpArgs false
set_option linter.unusedVariables false
set_option maxRecDepth 100000
set_option maxHeartbeats 1000000
namespace OctWT
theorem mixed : Tryd.prog.follows .mixedOrders = true := by kernel_rfl
theorem so3 : (Tryd.prog.underlying 3).isSome = true := by rw [Tryd.underlying3]; rfl
theorem so5 : (Tryd.prog.underlying 5).isSome = true := by rw [Tryd.underlying5]; rfl
theorem so58 : (Tryd.prog.underlying 58).isSome = true := by rw [Tryd.underlying58]; rfl
theorem sz5 : (Tryd.prog.info? 5).map (·.size) = some 1 := by kernel_rfl
end OctWT
theorem same_c (a b : List (BitVec 8)) (ha : a.length ≤ 140737488351232) (w0 : World) : Calls Tryd.prog 14 #[.string (str a), .string (str b)] w0 fun e w' => e = .returned (.bool (decide (a = b))) ∧ Below w0.heap.size w0 w' := by
 refine enter (n := 29) Tryd.func14 rfl rfl rfl ?_
 have hk : Below w0.heap.size w0 w0 := Below.refl _ _
 refine sr (w_as Ev.c (nt (wp_seq (sr (w_mv es (w_val (y_len es Tryd.underlying9) (w_mv es (w_val (y_len es Tryd.underlying9) (w_val (y_bin ei ei b_neq) (nt ?_))))))))))
 refine c_if (p := ((a.length : Nat) : Int) ≠ ((b.length : Nat) : Int)) eb (fun hc1 => ?_) (fun hc1 => ?_)
 ·skip
  refine sr (w_as Ev.c (nt (wp_ret (then_r (fin_ret1 rfl eb ?_)))))
  refine ⟨congrArg Ending.returned ?_, hk⟩
  show (.bool false : Value) = .bool (decide (a = b))
  first | exact congrArg Value.bool (decide_eq_false (fun h => by subst h; omega)).symm | exact congrArg Value.bool (decide_eq_decide.2 (by rw [show k = a.length from by omega]; exact Oct.unl_eq a b om))
 ·skip
  refine wp_skip (then_n (sr (w_as (evc (U8 (0#8))) (nt (wp_seq (sr (w_mv es (w_val (y_len es Tryd.underlying9) (w_mv Ev.c (nt (wp_block ?_)))))))))))
  refine c_loop (fun dN aN wl => ∃ (k : Nat), dN = (a.length - k) ∧ ∃ f2, aN = fr 29 f2 ∧ (k ≤ a.length) ∧ f2 0 = .string (str a) ∧ f2 1 = .string (str b) ∧ f2 4 = .bool false ∧ f2 5 = U8 (Oct.unl a b k) ∧ f2 13 = .int .i64 ((a.length : Nat) : Int) ∧ f2 14 = .int .i64 ((k : Nat) : Int) ∧ Below w0.heap.size w0 wl) (a.length - 0) ?_ ?_
  · exact ⟨0, rfl, _, rfl, iv, rfl, rfl, rfl, t8, rfl, ti, hk⟩
  ·skip
   clear hk
   rintro _ _ w3 ⟨k, rfl, f2, rfl, ah, ae, ac, af, ad, ab, aa, hk⟩
   refine sr (w_val (y_bin (ei aa) (ei ab) b_lss) (nt (wp_seq ?_)))
   refine c_if (p := ((k : Nat) : Int) < ((a.length : Nat) : Int)) eb (fun hc4 => ?_) (fun hc4 => ?_)
   ·skip
    refine wp_skip (then_n (wp_seq (wp_block (sr (w_mv (ei aa) (w_as ei (nt (region_q OctWT.mixed kr (q_mv (e8 ad) (q_mv (es ae) (q_mv ei (q_val (v := U8 (gb a k)) (fun w' hw' => y_idx (ex (.string (str a))) ei Tryd.underlying9 om om) (q_mv (es ac) (q_mv ei (q_val (v := U8 (gb b k)) (fun w' hw' => y_idx (ex (.string (str b))) ei Tryd.underlying9 om om) (q_val (fun w' hw' => y_bin e8 e8 xor8) (q_val (fun w' hw' => y_bin e8 e8 or8) (q_as e8 (q_nil ?_)))))))))))))))))))
    intro w5 ag
    replace hk := thenB hk ag
    refine inb_n (then_n (wp_region_lit (w_val (y_bin (ei aa) Ev.c (b_add om)) (w_mv ei (wpList_nil ?_)))))
    exact then_n ⟨_, om, k + 1, rfl, _, rfl, iv, ae, ac, af, t8, ab, ti, hk⟩
   ·skip
    refine wp_exit (then_x (then_x (inb_x (then_n (sr (w_mv (e8 ad) (w_val (y_bin e8 (evc (U8 (0#8))) eql8) (w_as eb (nt (wp_ret (fin_ret1 rfl eb ?_)))))))))))
    refine ⟨congrArg Ending.returned ?_, hk⟩
    show (.bool (decide ((Oct.unl a b k) = (0#8))) : Value) = .bool (decide (a = b))
    first | exact congrArg Value.bool (decide_eq_false (fun h => by subst h; omega)).symm | exact congrArg Value.bool (decide_eq_decide.2 (by rw [show k = a.length from by omega]; exact Oct.unl_eq a b om))

theorem xor_c (a b : List (BitVec 8)) (ha : a.length ≤ 140737488351232) (w0 : World) : Calls Tryd.prog 36 #[.string (str a), .string (str b)] w0 fun e w' => e = .returned (.string (str (Oct.xor a b))) ∧ Below w0.heap.size w0 w' := by
 have ao := Oct.length_xor a b
 refine enter (n := 31) Tryd.func36 rfl rfl rfl ?_
 have hk : Below w0.heap.size w0 w0 := Below.refl _ _
 refine sr (w_as (evc (.string (str ([] : List (BitVec 8))))) (nt (sr (w_mv es (w_val (y_len es Tryd.underlying9) (w_mv es (w_val (y_len es Tryd.underlying9) (w_val (v := .int .i64 (min ((a.length : Nat) : Int) ((b.length : Nat) : Int))) (y_min ei ei) (w_mks (m := (min a.length b.length)) (bytes := 1) (zv := U8 (0#8)) ei ei om om Tryd.underlying63 kr rfl om om ?_)))))))))
 intro ae w1 ab aa an
 have ai := gb_ hk.size ab
 clear ab
 replace hk := thenB hk an
 refine w_as el (nt (wp_seq (sr (w_mv el (w_val (v := .int .i64 (((min a.length b.length) : Nat) : Int)) (y_len_sl el Tryd.underlying63) (w_mv Ev.c (nt (wp_block ?_))))))))
 refine c_loop (fun dN aN wl => ∃ (k : Nat), dN = (min a.length b.length - k) ∧ ∃ f3, aN = fr 31 f3 ∧ (k ≤ min a.length b.length) ∧ f3 0 = .string (str a) ∧ f3 1 = .string (str b) ∧ f3 4 = .string (str ([] : List (BitVec 8))) ∧ f3 5 = .slice (some ⟨ae, 0, none⟩) (min a.length b.length) (min a.length b.length) ∧ f3 14 = .int .i64 (((min a.length b.length) : Nat) : Int) ∧ f3 15 = .int .i64 ((k : Nat) : Int) ∧ Row wl ae 5 (min a.length b.length) (fun j => if j < k then (fun j => U8 (gb a j ^^^ gb b j)) j else (fun j => U8 (0#8)) j) ∧ Below w0.heap.size w0 wl) (min a.length b.length - 0) ?_ ?_
 · exact ⟨0, rfl, _, rfl, iv, rfl, rfl, rfl, rfl, rfl, ti, (aa.cg), hk⟩
 ·skip
  clear aa hk
  rintro _ _ w4 ⟨k, rfl, f3, rfl, al, ag, ah, aj, af, ad, ac, aa, hk⟩
  refine sr (w_val (y_bin (ei ac) (ei ad) b_lss) (nt (wp_seq ?_)))
  refine c_if (p := ((k : Nat) : Int) < (((min a.length b.length) : Nat) : Int)) eb (fun hc5 => ?_) (fun hc5 => ?_)
  ·skip
   refine wp_skip (then_n (wp_seq (wp_block (sr (w_mv (ei ac) (w_as ei (nt (region_t 10 OctWT.mixed kr ?_))))))))
   simp only [List.take_succ_cons, List.take_zero, List.drop_succ_cons, List.drop_zero]
   refine q_mv (el af) (q_mv ei (q_mv (es ag) (q_mv ei (q_val (v := U8 (gb a k)) (fun w' hw' => y_idx (ex (.string (str a))) ei Tryd.underlying9 om om) (q_mv (es ah) (q_mv ei (q_val (v := U8 (gb b k)) (fun w' hw' => y_idx (ex (.string (str b))) ei Tryd.underlying9 om om) (q_val (fun w' hw' => y_bin e8 e8 xor8) (q_val (fun w' hw' => y_is1z (i := k) el ei Tryd.underlying63 OctWT.sz5 om om) (q_nil ?_))))))))))
   intro w6 ak
   replace aa := aa.step ak
   replace hk := thenB hk ak
   refine w_st (v := U8 ((gb a k) ^^^ (gb b k))) (ex (pt ae k)) e8 rfl rfl OctWT.sz5 aa om ?_
   clear aa; intro w8 aa am _
   replace hk := thenG hk am om
   refine wpList_nil (inb_n (then_n (wp_region_lit (w_val (y_bin (ei ac) Ev.c (b_add om)) (w_mv ei (wpList_nil ?_))))))
   exact then_n ⟨_, om, k + 1, rfl, _, rfl, iv, ag, ah, aj, af, ad, ti, (aa.cg), hk⟩
  ·skip
   refine wp_exit (then_x ?_)
   replace aa := aa.congr (g := fun j => U8 (gb (Oct.xor a b) j)) (fun j hj => by (try dsimp only); rw [if_pos om, Oct.gb_xor a b j om])
   refine then_x (inb_x (then_n (sr (w_mv (el af) (w_val (y_str (l := Oct.xor a b) el (by first | rfl | assumption | (simp; omega) | omega) Tryd.underlying63 Tryd.underlying5 Tryd.underlying9 (fun j hj => by rw [Nat.zero_add]; exact (aa.cell om))) (w_as es (nt (wp_ret (fin_ret1 rfl es ?_)))))))))
   exact ⟨rfl, hk⟩

theorem put_c (n : BitVec 64) (q : Nat) (hq : 1 ≤ q) (h8 : q ≤ 8) (hn : q < 8 → n >>> (8 * q) = 0#64) (w0 : World) : Calls Tryd.prog 28 #[U64 n, .int .i64 ((q : Nat) : Int)] w0 fun e w' => e = .returned (.tuple #[.string (str (Oct.be n q)), .int .i64 0]) ∧ Below w0.heap.size w0 w' := by
 have az := Oct.length_be n q
 refine enter (n := 45) Tryd.func28 rfl rfl rfl ?_
 have hk : Below w0.heap.size w0 w0 := Below.refl _ _
 refine sr (w_as (evc (.string (str ([] : List (BitVec 8))))) (w_as Ev.c (nt (wp_seq (sr (w_mv ei (w_val (y_bin ei Ev.c b_lss) (w_mv eb ?_))))))))
 have ao : ¬ (((q : Nat) : Int) < 1) := by omega
 refine w_val_g (v := .int .i64 ((q : Nat) : Int)) (wy rfl rfl (eb (df ao))) (y_mv ei) (w_val_g (wy rfl rfl (eb (df ao))) (y_bin ei Ev.c b_gtr) (w_val (y_pick_f (eb (df ao)) eb) (w_mv eb ?_)))
 have an : ¬ (8 < ((q : Nat) : Int)) := by omega
 refine w_val_g (v := .int .i64 ((q : Nat) : Int)) (wy rfl rfl (eb (df an))) (y_mv ei) (w_val_g (wy rfl rfl (eb (df an))) (y_bin ei Ev.c b_lss) (w_val_g (v := .bool (decide (((q : Nat) : Int) < 8))) (wy rfl rfl (eb (df an))) (y_mv eb) ?_))
 by_cases ag : ((q : Nat) : Int) < 8
 ·skip
  refine w_val_g (v := U64 n) (wy rfl rfl (eb (dt ag))) (y_mv e6) (w_val_g (v := .int .i64 ((q : Nat) : Int)) (wy rfl rfl (eb (dt ag))) (y_mv ei) (w_val_g (wy rfl rfl (eb (dt ag))) (y_bin Ev.c ei (b_mul om)) (w_val_g (wy rfl rfl (eb (dt ag))) (y_bin e6 ei (shr64 (c := (8 * q)) om)) (w_val_g (wy rfl rfl (eb (dt ag))) (y_bin e6 (evc (U64 (0#64))) neq64) (w_val_g (wy rfl rfl (eb (df an))) (y_pick_t (eb (dt ag)) eb) (w_val (y_pick_f (eb (df an)) eb) (nt ?_)))))))
  have av : ¬ ((n >>> (8 * q)) ≠ (0#64)) := by exact fun h => h (hn om)
  refine c_f (p := (n >>> (8 * q)) ≠ (0#64)) eb av (wp_skip (then_n (sr (w_mv ei (w_mks (m := q) (bytes := 1) (zv := U8 (0#8)) ei ei om om Tryd.underlying63 kr rfl om om ?_)))))
  intro af w5 ab aa aw
  have aj := gb_ hk.size ab
  clear ab
  replace hk := thenB hk aw
  refine w_as el (nt (wp_seq (sr (w_mv ei (w_mv Ev.c (nt (wp_block ?_)))))))
  refine c_loop (fun dN aN wl => ∃ (k : Nat), dN = (q - k) ∧ ∃ f7, aN = fr 45 f7 ∧ (k ≤ q) ∧ f7 0 = U64 n ∧ f7 1 = .int .i64 ((q : Nat) : Int) ∧ f7 4 = .string (str ([] : List (BitVec 8))) ∧ f7 5 = .int .i64 0 ∧ f7 6 = .slice (some ⟨af, 0, none⟩) q q ∧ f7 27 = .int .i64 ((q : Nat) : Int) ∧ f7 28 = .int .i64 ((k : Nat) : Int) ∧ Row wl af 5 q (fun j => if q ≤ j + k then (fun j => U8 (gb (Oct.be n q) j)) j else (fun j => U8 (0#8)) j) ∧ Below w0.heap.size w0 wl) (q - 0) ?_ ?_
  · exact ⟨0, rfl, _, rfl, iv, rfl, rfl, rfl, rfl, rfl, rfl, ti, (aa.cg), hk⟩
  ·skip
   clear aa hk
   rintro _ _ w8 ⟨k, rfl, f7, rfl, ap, ah, ai, am, al, ae, ad, ac, aa, hk⟩
   refine sr (w_val (y_bin (ei ac) (ei ad) b_lss) (nt (wp_seq ?_)))
   refine c_if (p := ((k : Nat) : Int) < ((q : Nat) : Int)) eb (fun hc9 => ?_) (fun hc9 => ?_)
   ·skip
    refine wp_skip (then_n (wp_seq (wp_block (sr (w_mv (ei ac) (w_as ei (nt (wp_region_lit (w_mv (el ae) (w_mv (ei ai) (w_val (y_bin ei Ev.c (b_sub om)) (w_mv ei (w_val (y_bin ei ei (b_sub om)) (w_mv (e6 ah) (w_mv ei (w_val (y_bin Ev.c ei (b_mul om)) (w_val (y_bin e6 ei (shr64 (c := (8 * k)) om)) (w_val (y_u64_u8 e6 OctWT.so58 Tryd.underlying5) (w_val (y_is1z (i := ((q - 1) - k)) el ei Tryd.underlying63 OctWT.sz5 om om) (w_st (v := U8 ((n >>> (8 * k)).setWidth 8)) (ex (pt af ((q - 1) - k))) e8 rfl rfl OctWT.sz5 aa om ?_))))))))))))))))))))
    clear aa; intro ay aa au _
    replace hk := thenG hk au om
    refine wpList_nil (inb_n (then_n (wp_region_lit (w_val (y_bin (ei ac) Ev.c (b_add om)) (w_mv ei (wpList_nil ?_))))))
    exact then_n ⟨_, om, k + 1, rfl, _, rfl, iv, ah, ai, am, al, ae, ad, ti, (aa.congr (fun j hj => by (try dsimp only); by_cases e : j = q - 1 - k; (rw [if_pos e, if_pos om, Oct.gb_be n q j om, show q - 1 - j = k from by omega]); (rw [if_neg e]; by_cases e2 : q ≤ j + k; (rw [if_pos e2, if_pos om]); (rw [if_neg e2, if_neg om])))), hk⟩
   ·skip
    refine wp_exit (then_x ?_)
    replace aa := aa.congr (g := fun j => U8 (gb (Oct.be n q) j)) (fun j hj => by (try dsimp only); rw [if_pos om])
    refine then_x (inb_x (then_n (sr (w_mv (el ae) (w_val (y_str (l := Oct.be n q) el (by first | rfl | assumption | (simp; omega) | omega) Tryd.underlying63 Tryd.underlying5 Tryd.underlying9 (fun j hj => by rw [Nat.zero_add]; exact (aa.cell om))) (w_as es (w_as Ev.c (nt (wp_ret (fin_ret2 rfl es ei ?_))))))))))
    exact ⟨rfl, hk⟩
 ·skip
  with_reducible refine w_skip ?_ ?_
  exact wn rfl rfl (eb (df ag))
  with_reducible refine w_skip ?_ ?_
  exact wn rfl rfl (eb (df ag))
  with_reducible refine w_skip ?_ ?_
  exact wn rfl rfl (eb (df ag))
  with_reducible refine w_skip ?_ ?_
  exact wn rfl rfl (eb (df ag))
  with_reducible refine w_skip ?_ ?_
  exact wn rfl rfl (eb (df ag))
  refine w_val_g (wy rfl rfl (eb (df an))) (y_pick_f (eb (df ag)) Ev.c) (w_val (y_pick_f (eb (df an)) eb) (nt (c_ff eb (wp_skip (then_n (sr (w_mv ei (w_mks (m := q) (bytes := 1) (zv := U8 (0#8)) ei ei om om Tryd.underlying63 kr rfl om om ?_))))))))
  intro af a0 ab aa ar
  have aj := gb_ hk.size ab
  clear ab
  replace hk := thenB hk ar
  refine w_as el (nt (wp_seq (sr (w_mv ei (w_mv Ev.c (nt (wp_block ?_)))))))
  refine c_loop (fun dN aN wl => ∃ (k : Nat), dN = (q - k) ∧ ∃ ak, aN = fr 45 ak ∧ (k ≤ q) ∧ ak 0 = U64 n ∧ ak 1 = .int .i64 ((q : Nat) : Int) ∧ ak 4 = .string (str ([] : List (BitVec 8))) ∧ ak 5 = .int .i64 0 ∧ ak 6 = .slice (some ⟨af, 0, none⟩) q q ∧ ak 27 = .int .i64 ((q : Nat) : Int) ∧ ak 28 = .int .i64 ((k : Nat) : Int) ∧ Row wl af 5 q (fun j => if q ≤ j + k then (fun j => U8 (gb (Oct.be n q) j)) j else (fun j => U8 (0#8)) j) ∧ Below w0.heap.size w0 wl) (q - 0) ?_ ?_
  · exact ⟨0, rfl, _, rfl, iv, rfl, rfl, rfl, rfl, rfl, rfl, ti, (aa.cg), hk⟩
  ·skip
   clear aa hk
   rintro _ _ ax ⟨k, rfl, ak, rfl, ap, ah, ai, am, al, ae, ad, ac, aa, hk⟩
   refine sr (w_val (y_bin (ei ac) (ei ad) b_lss) (nt (wp_seq ?_)))
   refine c_if (p := ((k : Nat) : Int) < ((q : Nat) : Int)) eb (fun hc16 => ?_) (fun hc16 => ?_)
   ·skip
    refine wp_skip (then_n (wp_seq (wp_block (sr (w_mv (ei ac) (w_as ei (nt (wp_region_lit (w_mv (el ae) (w_mv (ei ai) (w_val (y_bin ei Ev.c (b_sub om)) (w_mv ei (w_val (y_bin ei ei (b_sub om)) (w_mv (e6 ah) (w_mv ei (w_val (y_bin Ev.c ei (b_mul om)) (w_val (y_bin e6 ei (shr64 (c := (8 * k)) om)) (w_val (y_u64_u8 e6 OctWT.so58 Tryd.underlying5) (w_val (y_is1z (i := ((q - 1) - k)) el ei Tryd.underlying63 OctWT.sz5 om om) (w_st (v := U8 ((n >>> (8 * k)).setWidth 8)) (ex (pt af ((q - 1) - k))) e8 rfl rfl OctWT.sz5 aa om ?_))))))))))))))))))))
    clear aa; intro a1 aa aq _
    replace hk := thenG hk aq om
    refine wpList_nil (inb_n (then_n (wp_region_lit (w_val (y_bin (ei ac) Ev.c (b_add om)) (w_mv ei (wpList_nil ?_))))))
    exact then_n ⟨_, om, k + 1, rfl, _, rfl, iv, ah, ai, am, al, ae, ad, ti, (aa.congr (fun j hj => by (try dsimp only); by_cases e : j = q - 1 - k; (rw [if_pos e, if_pos om, Oct.gb_be n q j om, show q - 1 - j = k from by omega]); (rw [if_neg e]; by_cases e2 : q ≤ j + k; (rw [if_pos e2, if_pos om]); (rw [if_neg e2, if_neg om])))), hk⟩
   ·skip
    refine wp_exit (then_x ?_)
    replace aa := aa.congr (g := fun j => U8 (gb (Oct.be n q) j)) (fun j hj => by (try dsimp only); rw [if_pos om])
    refine then_x (inb_x (then_n (sr (w_mv (el ae) (w_val (y_str (l := Oct.be n q) el (by first | rfl | assumption | (simp; omega) | omega) Tryd.underlying63 Tryd.underlying5 Tryd.underlying9 (fun j hj => by rw [Nat.zero_add]; exact (aa.cell om))) (w_as es (w_as Ev.c (nt (wp_ret (fin_ret2 rfl es ei ?_))))))))))
    exact ⟨rfl, hk⟩

end Go.Proofs.YtepogbfkmflooaaDoor
