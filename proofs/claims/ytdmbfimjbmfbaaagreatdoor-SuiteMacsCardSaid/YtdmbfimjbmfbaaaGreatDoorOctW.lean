/-
  Octets: what the program and the reference compute. Conditions as each says.
-/
import Derived.Test.YtdmbfimjbmfbaaaGreatDoorRows
import Derived.Test.YtdmbfimjbmfbaaaGreatDoorGenMore
import Derived.Test.YtdmbfimjbmfbaaaGreatDoorOct
import Derived.Test.YtdmbfimjbmfbaaaGreatDoorGenSh
import Derived.ProofKit
namespace Go.Proofs.YtdmbfimjbmfbaaaGreatDoor
open Go.RowKit
set_option linter.unusedSimpArgs false
set_option linter.unusedVariables false
set_option maxRecDepth 100000
set_option maxHeartbeats 1000000
namespace OctWT
theorem mixed : Tryz.prog.follows .mixedOrders = true := by kernel_rfl
theorem sc5 : (Tryz.prog.underlying 5).map scal = some true := by rw [Tryz.underlying5]; rfl
theorem so5 : (Tryz.prog.underlying 5).isSome = true := by rw [Tryz.underlying5]; rfl
theorem so92 : (Tryz.prog.underlying 92).isSome = true := by rw [Tryz.underlying92]; rfl
theorem sz5 : (Tryz.prog.info? 5).map (·.size) = some 1 := by kernel_rfl
end OctWT
theorem same_c (a b : List (BitVec 8)) (ha : a.length ≤ 140737488351232) (w0 : World) : Calls Tryz.prog 17 #[.string (str a), .string (str b)] w0 fun e w' => e = .returned (.bool (decide (a = b))) ∧ Below w0.heap.size w0 w' := by
 refine enter (n := 29) Tryz.func17 rfl rfl rfl ?_
 have hk : Below w0.heap.size w0 w0 := Below.refl _ _
 refine sr (w_as Ev.c (nt (wp_seq (sr (w_mv es (w_val (y_len es Tryz.underlying9) (w_mv es (w_val (y_len es Tryz.underlying9) (w_val (y_bin ei ei b_neq) (nt ?_))))))))))
 refine c_if (p := ((a.length : Nat) : Int) ≠ ((b.length : Nat) : Int)) eb (fun hc1 => ?_) (fun hc1 => ?_)
 ·skip
  refine sr (w_as Ev.c (nt (wp_ret (then_r (fin_ret1 rfl eb ?_)))))
  refine ⟨congrArg Ending.returned ?_, hk⟩
  show (.bool false : Value) = .bool (decide (a = b))
  first | exact congrArg Value.bool (decide_eq_false (fun h => by subst h; omega)).symm | exact congrArg Value.bool (decide_eq_decide.2 (by rw [show k = a.length from by omega]; exact Oct.unl_eq a b om))
 ·skip
  refine wp_skip (then_n (sr (w_as (evc (U8 (0#8))) (nt (wp_seq (sr (w_mv es (w_val (y_len es Tryz.underlying9) (w_mv Ev.c (nt (wp_block ?_)))))))))))
  refine c_loop (fun dN aN wl => ∃ (k : Nat), dN = (a.length - k) ∧ ∃ f2, aN = fr 29 f2 ∧ (k ≤ a.length) ∧ f2 0 = .string (str a) ∧ f2 1 = .string (str b) ∧ f2 4 = .bool false ∧ f2 5 = U8 (Oct.unl a b k) ∧ f2 13 = .int .i64 ((a.length : Nat) : Int) ∧ f2 14 = .int .i64 ((k : Nat) : Int) ∧ Below w0.heap.size w0 wl) (a.length - 0) ?_ ?_
  · exact ⟨0, rfl, _, rfl, iv, rfl, rfl, rfl, t8, rfl, ti, hk⟩
  ·skip
   clear hk
   rintro _ _ w3 ⟨k, rfl, f2, rfl, ag, ad, ac, af, ae, ab, aa, hk⟩
   refine sr (w_val (y_bin (ei aa) (ei ab) b_lss) (nt (wp_seq ?_)))
   refine c_if (p := ((k : Nat) : Int) < ((a.length : Nat) : Int)) eb (fun hc4 => ?_) (fun hc4 => ?_)
   ·skip
    refine wp_skip (then_n (wp_seq (wp_block (sr (w_mv (ei aa) (w_as ei (nt (region_q OctWT.mixed kr (q_mv (e8 ae) (q_mv (es ad) (q_mv ei (q_val (v := U8 (gb a k)) (fun w' hw' => y_idx (ex (.string (str a))) ei Tryz.underlying9 om om) (q_mv (es ac) (q_mv ei (q_val (v := U8 (gb b k)) (fun w' hw' => y_idx (ex (.string (str b))) ei Tryz.underlying9 om om) (q_val (fun w' hw' => y_bin e8 e8 xor8) (q_val (fun w' hw' => y_bin e8 e8 or8) (q_as e8 (q_nil ?_)))))))))))))))))))
    intro w5 ah
    replace hk := thenB hk ah
    refine inb_n (then_n (wp_region_lit (w_val (y_bin (ei aa) Ev.c (b_add om)) (w_mv ei (wpList_nil ?_)))))
    exact then_n ⟨_, om, k + 1, rfl, _, rfl, iv, ad, ac, af, t8, ab, ti, hk⟩
   ·skip
    refine wp_exit (then_x (then_x (inb_x (then_n (sr (w_mv (e8 ae) (w_val (y_bin e8 (evc (U8 (0#8))) eql8) (w_as eb (nt (wp_ret (fin_ret1 rfl eb ?_)))))))))))
    refine ⟨congrArg Ending.returned ?_, hk⟩
    show (.bool (decide ((Oct.unl a b k) = (0#8))) : Value) = .bool (decide (a = b))
    first | exact congrArg Value.bool (decide_eq_false (fun h => by subst h; omega)).symm | exact congrArg Value.bool (decide_eq_decide.2 (by rw [show k = a.length from by omega]; exact Oct.unl_eq a b om))

theorem xor_c (a b : List (BitVec 8)) (ha : a.length ≤ 140737488351232) (w0 : World) : Calls Tryz.prog 98 #[.string (str a), .string (str b)] w0 fun e w' => e = .returned (.string (str (Oct.xor a b))) ∧ Below w0.heap.size w0 w' := by
 have ao := Oct.length_xor a b
 refine enter (n := 31) Tryz.func98 rfl rfl rfl ?_
 have hk : Below w0.heap.size w0 w0 := Below.refl _ _
 refine sr (w_as (evc (.string (str ([] : List (BitVec 8))))) (nt (sr (w_mv es (w_val (y_len es Tryz.underlying9) (w_mv es (w_val (y_len es Tryz.underlying9) (w_val (v := .int .i64 (min ((a.length : Nat) : Int) ((b.length : Nat) : Int))) (y_min ei ei) (w_mks (m := (min a.length b.length)) (bytes := 1) (zv := U8 (0#8)) ei ei om om Tryz.underlying55 kr rfl om om ?_)))))))))
 intro ae w1 ab aa am
 have ai := gb_ hk.size ab
 clear ab
 replace hk := thenB hk am
 refine w_as el (nt (wp_seq (sr (w_mv el (w_val (v := .int .i64 (((min a.length b.length) : Nat) : Int)) (y_len_sl el Tryz.underlying55) (w_mv Ev.c (nt (wp_block ?_))))))))
 refine c_loop (fun dN aN wl => ∃ (k : Nat), dN = (min a.length b.length - k) ∧ ∃ f3, aN = fr 31 f3 ∧ (k ≤ min a.length b.length) ∧ f3 0 = .string (str a) ∧ f3 1 = .string (str b) ∧ f3 4 = .string (str ([] : List (BitVec 8))) ∧ f3 5 = .slice (some ⟨ae, 0, none⟩) (min a.length b.length) (min a.length b.length) ∧ f3 14 = .int .i64 (((min a.length b.length) : Nat) : Int) ∧ f3 15 = .int .i64 ((k : Nat) : Int) ∧ Row wl ae 5 (min a.length b.length) (fun j => if j < k then (fun j => U8 (gb a j ^^^ gb b j)) j else (fun j => U8 (0#8)) j) ∧ Below w0.heap.size w0 wl) (min a.length b.length - 0) ?_ ?_
 · exact ⟨0, rfl, _, rfl, iv, rfl, rfl, rfl, rfl, rfl, ti, (aa.cg), hk⟩
 ·skip
  clear aa hk
  rintro _ _ w4 ⟨k, rfl, f3, rfl, al, ah, ag, aj, af, ad, ac, aa, hk⟩
  refine sr (w_val (y_bin (ei ac) (ei ad) b_lss) (nt (wp_seq ?_)))
  refine c_if (p := ((k : Nat) : Int) < (((min a.length b.length) : Nat) : Int)) eb (fun hc5 => ?_) (fun hc5 => ?_)
  ·skip
   refine wp_skip (then_n (wp_seq (wp_block (sr (w_mv (ei ac) (w_as ei (nt (region_t 10 OctWT.mixed kr ?_))))))))
   simp only [List.take_succ_cons, List.take_zero, List.drop_succ_cons, List.drop_zero]
   refine q_mv (el af) (q_mv ei (q_mv (es ah) (q_mv ei (q_val (v := U8 (gb a k)) (fun w' hw' => y_idx (ex (.string (str a))) ei Tryz.underlying9 om om) (q_mv (es ag) (q_mv ei (q_val (v := U8 (gb b k)) (fun w' hw' => y_idx (ex (.string (str b))) ei Tryz.underlying9 om om) (q_val (fun w' hw' => y_bin e8 e8 xor8) (q_val (fun w' hw' => y_is1z (i := k) el ei Tryz.underlying55 OctWT.sz5 om om) (q_nil ?_))))))))))
   intro w6 ak
   replace aa := aa.step ak
   replace hk := thenB hk ak
   refine w_st (v := U8 ((gb a k) ^^^ (gb b k))) (ex (pt ae k)) e8 rfl rfl OctWT.sz5 aa om ?_
   clear aa; intro w8 aa an _
   replace hk := thenG hk an om
   refine wpList_nil (inb_n (then_n (wp_region_lit (w_val (y_bin (ei ac) Ev.c (b_add om)) (w_mv ei (wpList_nil ?_))))))
   exact then_n ⟨_, om, k + 1, rfl, _, rfl, iv, ah, ag, aj, af, ad, ti, (aa.cg), hk⟩
  ·skip
   refine wp_exit (then_x ?_)
   replace aa := aa.congr (g := fun j => U8 (gb (Oct.xor a b) j)) (fun j hj => by (try dsimp only); rw [if_pos om, Oct.gb_xor a b j om])
   refine then_x (inb_x (then_n (sr (w_mv (el af) (w_val (y_str (l := Oct.xor a b) el (by first | rfl | assumption | (simp; omega) | omega) Tryz.underlying55 Tryz.underlying5 Tryz.underlying9 (fun j hj => by rw [Nat.zero_add]; exact (aa.cell om))) (w_as es (nt (wp_ret (fin_ret1 rfl es ?_)))))))))
   exact ⟨rfl, hk⟩

theorem refXor_c (a b : List (BitVec 8)) (ha : a.length ≤ 140737488351232) (w0 : World) : Calls Tryz.prog 26 #[.string (str a), .string (str b)] w0 fun e w' => e = .returned (.string (str (Oct.xor a b))) ∧ Below w0.heap.size w0 w' := by
 have av := Oct.length_xor a b
 refine enter (n := 31) Tryz.func26 rfl rfl rfl ?_
 have hk : Below w0.heap.size w0 w0 := Below.refl _ _
 refine sr (w_as (evc (.string (str ([] : List (BitVec 8))))) (nt (sr (w_as Ev.c (nt (wp_seq (sr (w_as Ev.c (nt (wp_block ?_))))))))))
 refine c_loop (fun dN aN wl => ∃ (k : Nat) (vo : Value), dN = (min a.length b.length - k) ∧ ∃ f1, aN = fr 31 f1 ∧ (k ≤ min a.length b.length) ∧ f1 0 = .string (str a) ∧ f1 1 = .string (str b) ∧ f1 4 = .string (str ([] : List (BitVec 8))) ∧ f1 5 = vo ∧ f1 6 = .int .i64 ((k : Nat) : Int) ∧ Own wl w0.heap.size 5 1 vo k (fun j => U8 (gb a j ^^^ gb b j)) ∧ Below w0.heap.size w0 wl) (min a.length b.length - 0) ?_ ?_
 · exact ⟨0, (.slice none 0 0), rfl, _, rfl, iv, rfl, rfl, rfl, (etv (b := .slice none 0 0) rfl), ti, Own.nil, hk⟩
 ·skip
  clear hk
  rintro _ _ w2 ⟨k, vo, rfl, f1, rfl, au, ai, ah, ap, aj, ae, ab, hk⟩
  refine wp_seq (sr (w_mv (ei ae) (w_mv (es ai) (w_val (y_len es Tryz.underlying9) (w_val (y_bin ei ei b_lss) (w_mv eb ?_))))))
  by_cases af : ((k : Nat) : Int) < ((a.length : Nat) : Int)
  ·skip
   refine w_val_g (v := .int .i64 ((k : Nat) : Int)) (wy rfl rfl (eb (dt af))) (y_mv (ei ae)) (w_val_g (v := .string (str b)) (wy rfl rfl (eb (dt af))) (y_mv (es ah)) (w_val_g (wy rfl rfl (eb (dt af))) (y_len es Tryz.underlying9) (w_val_g (wy rfl rfl (eb (dt af))) (y_bin ei ei b_lss) (w_val (y_pick_t (eb (dt af)) eb) (nt ?_)))))
   refine c_if (p := ((k : Nat) : Int) < ((b.length : Nat) : Int)) eb (fun hc4 => ?_) (fun hc4 => ?_)
   ·skip
    refine wp_skip (then_n (wp_seq (wp_block (region_dc (Nat.testBit 1536) 11 OctWT.mixed rfl ?_))))
    intro w5 ar
    replace ab := ab.step ar
    replace hk := thenB hk ar
    have hS : Cls w5 w5 := Below.refl _ _
    refine dp 0 rfl (fun w' => y_mv (ex vo aj)) (dp 1 rfl (fun w' => y_mv (es ai)) (dp 2 rfl (fun w' => y_mv (ei ae)) (dp (v := U8 (gb a k)) 3 rfl (fun w' => y_idx (ex (.string (str a))) ei Tryz.underlying9 om om) (dp 4 rfl (fun w' => y_mv (es ah)) (dp 5 rfl (fun w' => y_mv (ei ae)) (dp (v := U8 (gb b k)) 6 rfl (fun w' => y_idx (ex (.string (str b))) ei Tryz.underlying9 om om) (dp (v := U8 ((gb a k) ^^^ (gb b k))) 7 rfl (fun w' => y_bin e8 e8 xor8) (d_one 8 kr rfl (w_bs1 (m := 1) (e := 5) (F := fun j => U8 ((gb a k) ^^^ (gb b k))) e8 (fun w => by kernel_rfl) ?_)))))))))
    intro am w7 ad ac aq
    have aa : vo.ownBlock ≠ some am := ab.apart om
    have al := gb_ hk.size ad
    clear ad
    replace ab := ab.step aq
    replace hk := thenB hk aq
    replace hS := thenB hS aq
    refine wpList_nil ?_
    refine then_n ⟨fun _ h => thenB h (by assumption), ?_⟩
    refine d_one 9 kr rfl (w_app (k := k) (m := 1) (size := 1) (bytes := 1) (ex vo) el Tryz.underlying55 kr (by decide) ab hk.size ac om oca (by simp only [maxLen]; omega) om ?_)
    intro v9 aw an ak ao
    have ag := no_new aa ac.lt ao
    replace ac := ac.stepO ak aa
    replace hk := thenO hk ak (fun g e => (ab.block_lt g e).2)
    clear ab
    clear hS
    refine wpList_nil ?_
    refine then_n ⟨fun hD => absurd hD (by decide), ?_⟩
    refine d_one 10 kr rfl (w_as (ex v9) (wpList_nil ?_))
    refine then_n ⟨fun hD => absurd hD (by decide), ?_⟩
    refine d_done kr (inb_n (then_n (wp_region_lit (w_mv (ei ae) (w_val (y_bin ei Ev.c (b_add om)) (w_as ei (wpList_nil ?_)))))))
    exact then_n ⟨_, om, k + 1, v9, rfl, _, rfl, iv, ai, ah, ap, rfl, ti, (own_n (an.cg) om), hk⟩
   ·skip
    refine wp_exit (then_x (then_x (inb_x (then_n (sr (w_mv (ex vo aj) (w_val (v := .string (str (Oct.xor a b))) (y_strown (l := Oct.xor a b) (ex vo) ab  (by exact (by rw [Oct.length_xor]; omega)) (fun j hj => by exact (by rw [Oct.gb_xor a b j om])) Tryz.underlying55 Tryz.underlying5 Tryz.underlying9) (w_as es (nt (wp_ret (fin_ret1 rfl es ?_)))))))))))
    exact ⟨rfl, hk⟩
  ·skip
   with_reducible refine w_skip ?_ ?_
   exact wn rfl rfl (eb (df af))
   with_reducible refine w_skip ?_ ?_
   exact wn rfl rfl (eb (df af))
   with_reducible refine w_skip ?_ ?_
   exact wn rfl rfl (eb (df af))
   with_reducible refine w_skip ?_ ?_
   exact wn rfl rfl (eb (df af))
   refine w_val (y_pick_f (eb (df af)) Ev.c) (nt (c_ff eb (wp_exit (then_x (then_x (inb_x (then_n (sr (w_mv (ex vo aj) (w_val (v := .string (str (Oct.xor a b))) (y_strown (l := Oct.xor a b) (ex vo) ab  (by exact (by rw [Oct.length_xor]; omega)) (fun j hj => by exact (by rw [Oct.gb_xor a b j om])) Tryz.underlying55 Tryz.underlying5 Tryz.underlying9) (w_as es (nt (wp_ret (fin_ret1 rfl es ?_))))))))))))))
   exact ⟨rfl, hk⟩

theorem put_c (n : BitVec 64) (q : Nat) (hq : 1 ≤ q) (h8 : q ≤ 8) (hn : q < 8 → n >>> (8 * q) = 0#64) (w0 : World) : Calls Tryz.prog 111 #[U64 n, .int .i64 ((q : Nat) : Int)] w0 fun e w' => e = .returned (.tuple #[.string (str (Oct.be n q)), .int .i64 0]) ∧ Below w0.heap.size w0 w' := by
 have ay := Oct.length_be n q
 refine enter (n := 45) Tryz.func111 rfl rfl rfl ?_
 have hk : Below w0.heap.size w0 w0 := Below.refl _ _
 refine sr (w_as (evc (.string (str ([] : List (BitVec 8))))) (w_as Ev.c (nt (wp_seq (sr (w_mv ei (w_val (y_bin ei Ev.c b_lss) (w_mv eb ?_))))))))
 have ap : ¬ (((q : Nat) : Int) < 1) := by omega
 refine w_val_g (v := .int .i64 ((q : Nat) : Int)) (wy rfl rfl (eb (df ap))) (y_mv ei) (w_val_g (wy rfl rfl (eb (df ap))) (y_bin ei Ev.c b_gtr) (w_val (y_pick_f (eb (df ap)) eb) (w_mv eb ?_)))
 have an : ¬ (8 < ((q : Nat) : Int)) := by omega
 refine w_val_g (v := .int .i64 ((q : Nat) : Int)) (wy rfl rfl (eb (df an))) (y_mv ei) (w_val_g (wy rfl rfl (eb (df an))) (y_bin ei Ev.c b_lss) (w_val_g (v := .bool (decide (((q : Nat) : Int) < 8))) (wy rfl rfl (eb (df an))) (y_mv eb) ?_))
 by_cases ag : ((q : Nat) : Int) < 8
 ·skip
  refine w_val_g (v := U64 n) (wy rfl rfl (eb (dt ag))) (y_mv e6) (w_val_g (v := .int .i64 ((q : Nat) : Int)) (wy rfl rfl (eb (dt ag))) (y_mv ei) (w_val_g (wy rfl rfl (eb (dt ag))) (y_bin Ev.c ei (b_mul om)) (w_val_g (wy rfl rfl (eb (dt ag))) (y_bin e6 ei (shr64 (c := (8 * q)) om)) (w_val_g (wy rfl rfl (eb (dt ag))) (y_bin e6 (evc (U64 (0#64))) neq64) (w_val_g (wy rfl rfl (eb (df an))) (y_pick_t (eb (dt ag)) eb) (w_val (y_pick_f (eb (df an)) eb) (nt ?_)))))))
  have aw : ¬ ((n >>> (8 * q)) ≠ (0#64)) := by exact fun h => h (hn om)
  refine c_f (p := (n >>> (8 * q)) ≠ (0#64)) eb aw (wp_skip (then_n (sr (w_mv ei (w_mks (m := q) (bytes := 1) (zv := U8 (0#8)) ei ei om om Tryz.underlying55 kr rfl om om ?_)))))
  intro ae w5 ab aa av
  have ak := gb_ hk.size ab
  clear ab
  replace hk := thenB hk av
  refine w_as el (nt (wp_seq (sr (w_mv ei (w_mv Ev.c (nt (wp_block ?_)))))))
  refine c_loop (fun dN aN wl => ∃ (k : Nat), dN = (q - k) ∧ ∃ f7, aN = fr 45 f7 ∧ (k ≤ q) ∧ f7 0 = U64 n ∧ f7 1 = .int .i64 ((q : Nat) : Int) ∧ f7 4 = .string (str ([] : List (BitVec 8))) ∧ f7 5 = .int .i64 0 ∧ f7 6 = .slice (some ⟨ae, 0, none⟩) q q ∧ f7 27 = .int .i64 ((q : Nat) : Int) ∧ f7 28 = .int .i64 ((k : Nat) : Int) ∧ Row wl ae 5 q (fun j => if q ≤ j + k then (fun j => U8 (gb (Oct.be n q) j)) j else (fun j => U8 (0#8)) j) ∧ Below w0.heap.size w0 wl) (q - 0) ?_ ?_
  · exact ⟨0, rfl, _, rfl, iv, rfl, rfl, rfl, rfl, rfl, rfl, ti, (aa.cg), hk⟩
  ·skip
   clear aa hk
   rintro _ _ w8 ⟨k, rfl, f7, rfl, ao, ai, ah, am, al, af, ad, ac, aa, hk⟩
   refine sr (w_val (y_bin (ei ac) (ei ad) b_lss) (nt (wp_seq ?_)))
   refine c_if (p := ((k : Nat) : Int) < ((q : Nat) : Int)) eb (fun hc9 => ?_) (fun hc9 => ?_)
   ·skip
    refine wp_skip (then_n (wp_seq (wp_block (sr (w_mv (ei ac) (w_as ei (nt (wp_region_lit (w_mv (el af) (w_mv (ei ah) (w_val (y_bin ei Ev.c (b_sub om)) (w_mv ei (w_val (y_bin ei ei (b_sub om)) (w_mv (e6 ai) (w_mv ei (w_val (y_bin Ev.c ei (b_mul om)) (w_val (y_bin e6 ei (shr64 (c := (8 * k)) om)) (w_val (y_u64_u8 e6 OctWT.so92 Tryz.underlying5) (w_val (y_is1z (i := ((q - 1) - k)) el ei Tryz.underlying55 OctWT.sz5 om om) (w_st (v := U8 ((n >>> (8 * k)).setWidth 8)) (ex (pt ae ((q - 1) - k))) e8 rfl rfl OctWT.sz5 aa om ?_))))))))))))))))))))
    clear aa; intro az aa aq _
    replace hk := thenG hk aq om
    refine wpList_nil (inb_n (then_n (wp_region_lit (w_val (y_bin (ei ac) Ev.c (b_add om)) (w_mv ei (wpList_nil ?_))))))
    exact then_n ⟨_, om, k + 1, rfl, _, rfl, iv, ai, ah, am, al, af, ad, ti, (aa.congr (fun j hj => by (try dsimp only); by_cases e : j = q - 1 - k; (rw [if_pos e, if_pos om, Oct.gb_be n q j om, show q - 1 - j = k from by omega]); (rw [if_neg e]; by_cases e2 : q ≤ j + k; (rw [if_pos e2, if_pos om]); (rw [if_neg e2, if_neg om])))), hk⟩
   ·skip
    refine wp_exit (then_x ?_)
    replace aa := aa.congr (g := fun j => U8 (gb (Oct.be n q) j)) (fun j hj => by (try dsimp only); rw [if_pos om])
    refine then_x (inb_x (then_n (sr (w_mv (el af) (w_val (y_str (l := Oct.be n q) el (by first | rfl | assumption | (simp; omega) | omega) Tryz.underlying55 Tryz.underlying5 Tryz.underlying9 (fun j hj => by rw [Nat.zero_add]; exact (aa.cell om))) (w_as es (w_as Ev.c (nt (wp_ret (fin_ret2 rfl es ei ?_))))))))))
    exact ⟨rfl, hk⟩
 ·skip
  with_reducible refine w_skip ?_ ?_
  exact wn rfl rfl (eb (df ag))
  with_reducible refine w_skip ?_ ?_
  exact wn rfl rfl (eb (df ag))
  with_reducible refine w_skip ?_ ?_
  exact wn rfl rfl (eb (df ag))
  with_reducible refine w_skip ?_ ?_
  exact wn rfl rfl (eb (df ag))
  with_reducible refine w_skip ?_ ?_
  exact wn rfl rfl (eb (df ag))
  refine w_val_g (wy rfl rfl (eb (df an))) (y_pick_f (eb (df ag)) Ev.c) (w_val (y_pick_f (eb (df an)) eb) (nt (c_ff eb (wp_skip (then_n (sr (w_mv ei (w_mks (m := q) (bytes := 1) (zv := U8 (0#8)) ei ei om om Tryz.underlying55 kr rfl om om ?_))))))))
  intro ae ax ab aa au
  have ak := gb_ hk.size ab
  clear ab
  replace hk := thenB hk au
  refine w_as el (nt (wp_seq (sr (w_mv ei (w_mv Ev.c (nt (wp_block ?_)))))))
  refine c_loop (fun dN aN wl => ∃ (k : Nat), dN = (q - k) ∧ ∃ aj, aN = fr 45 aj ∧ (k ≤ q) ∧ aj 0 = U64 n ∧ aj 1 = .int .i64 ((q : Nat) : Int) ∧ aj 4 = .string (str ([] : List (BitVec 8))) ∧ aj 5 = .int .i64 0 ∧ aj 6 = .slice (some ⟨ae, 0, none⟩) q q ∧ aj 27 = .int .i64 ((q : Nat) : Int) ∧ aj 28 = .int .i64 ((k : Nat) : Int) ∧ Row wl ae 5 q (fun j => if q ≤ j + k then (fun j => U8 (gb (Oct.be n q) j)) j else (fun j => U8 (0#8)) j) ∧ Below w0.heap.size w0 wl) (q - 0) ?_ ?_
  · exact ⟨0, rfl, _, rfl, iv, rfl, rfl, rfl, rfl, rfl, rfl, ti, (aa.cg), hk⟩
  ·skip
   clear aa hk
   rintro _ _ a1 ⟨k, rfl, aj, rfl, ao, ai, ah, am, al, af, ad, ac, aa, hk⟩
   refine sr (w_val (y_bin (ei ac) (ei ad) b_lss) (nt (wp_seq ?_)))
   refine c_if (p := ((k : Nat) : Int) < ((q : Nat) : Int)) eb (fun hc16 => ?_) (fun hc16 => ?_)
   ·skip
    refine wp_skip (then_n (wp_seq (wp_block (sr (w_mv (ei ac) (w_as ei (nt (wp_region_lit (w_mv (el af) (w_mv (ei ah) (w_val (y_bin ei Ev.c (b_sub om)) (w_mv ei (w_val (y_bin ei ei (b_sub om)) (w_mv (e6 ai) (w_mv ei (w_val (y_bin Ev.c ei (b_mul om)) (w_val (y_bin e6 ei (shr64 (c := (8 * k)) om)) (w_val (y_u64_u8 e6 OctWT.so92 Tryz.underlying5) (w_val (y_is1z (i := ((q - 1) - k)) el ei Tryz.underlying55 OctWT.sz5 om om) (w_st (v := U8 ((n >>> (8 * k)).setWidth 8)) (ex (pt ae ((q - 1) - k))) e8 rfl rfl OctWT.sz5 aa om ?_))))))))))))))))))))
    clear aa; intro a0 aa ar _
    replace hk := thenG hk ar om
    refine wpList_nil (inb_n (then_n (wp_region_lit (w_val (y_bin (ei ac) Ev.c (b_add om)) (w_mv ei (wpList_nil ?_))))))
    exact then_n ⟨_, om, k + 1, rfl, _, rfl, iv, ai, ah, am, al, af, ad, ti, (aa.congr (fun j hj => by (try dsimp only); by_cases e : j = q - 1 - k; (rw [if_pos e, if_pos om, Oct.gb_be n q j om, show q - 1 - j = k from by omega]); (rw [if_neg e]; by_cases e2 : q ≤ j + k; (rw [if_pos e2, if_pos om]); (rw [if_neg e2, if_neg om])))), hk⟩
   ·skip
    refine wp_exit (then_x ?_)
    replace aa := aa.congr (g := fun j => U8 (gb (Oct.be n q) j)) (fun j hj => by (try dsimp only); rw [if_pos om])
    refine then_x (inb_x (then_n (sr (w_mv (el af) (w_val (y_str (l := Oct.be n q) el (by first | rfl | assumption | (simp; omega) | omega) Tryz.underlying55 Tryz.underlying5 Tryz.underlying9 (fun j hj => by rw [Nat.zero_add]; exact (aa.cell om))) (w_as es (w_as Ev.c (nt (wp_ret (fin_ret2 rfl es ei ?_))))))))))
    exact ⟨rfl, hk⟩

theorem add_c (s : List (BitVec 8)) (n : BitVec 64) (hs : s.length ≤ 140737488351232) (w0 : World) : Calls Tryz.prog 113 #[.string (str s), U64 n] w0 fun e w' => e = .returned (.string (str (Oct.add s n.toNat))) ∧ Below w0.heap.size w0 w' := by
 have aq := Oct.length_add s n.toNat
 refine enter (n := 52) Tryz.func113 rfl rfl rfl ?_
 have hk : Below w0.heap.size w0 w0 := Below.refl _ _
 refine sr (w_as (evc (.string (str ([] : List (BitVec 8))))) (nt (sr (w_mv es (w_bytes es Tryz.underlying9 Tryz.underlying55 Tryz.underlying5 ?_)))))
 intro ag ae w1 ad am aa ao
 have al := gb_ hk.size ad
 clear ad
 replace hk := thenB hk ao
 refine w_as el (nt (wp_seq (sr (w_mv el (w_val (v := .int .i64 ((s.length : Nat) : Int)) (y_len_sl el Tryz.underlying55) (w_val (y_bin ei Ev.c (b_sub om)) (w_as ei (nt (wp_block ?_)))))))))
 refine c_loop (fun dN aN wl => ∃ (k : Nat), dN = (s.length - k) ∧ ∃ f3, aN = fr 52 f3 ∧ (k ≤ s.length) ∧ f3 1 = U64 (BitVec.ofNat 64 (Oct.cy s n.toNat k)) ∧ f3 4 = .string (str ([] : List (BitVec 8))) ∧ f3 5 = .slice (some ⟨ag, 0, none⟩) s.length ae ∧ f3 6 = .int .i64 (((s.length : Nat) : Int) - 1 - ((k : Nat) : Int)) ∧ Row wl ag 5 s.length (fun j => if s.length ≤ j + k then (fun j => U8 (gb (Oct.add s n.toNat) j)) j else (fun j => U8 (gb s j)) j) ∧ Below w0.heap.size w0 wl) (s.length - 0) ?_ ?_
 · exact ⟨0, rfl, _, rfl, iv, (Eq.trans (b := U64 n) rfl (by exact congrArg U64 (by show n = BitVec.ofNat 64 n.toNat; simp))), rfl, rfl, (Eq.trans (b := .int .i64 (((s.length : Nat) : Int) - 1)) rfl (by congr 1; omega)), (aa.cg), hk⟩
 ·skip
  clear aa hk
  rintro _ _ w4 ⟨k, rfl, f3, rfl, an, ah, ai, ab, ac, aa, hk⟩
  have aj := Oct.cy_lt s n k
  refine wp_seq (sr (w_mv (ei ac) (w_val (y_bin ei Ev.c b_geq) (w_mv eb ?_))))
  by_cases af : 0 ≤ (((s.length : Nat) : Int) - 1 - ((k : Nat) : Int))
  ·skip
   refine w_val_g (v := U64 (BitVec.ofNat 64 (Oct.cy s n.toNat k))) (wy rfl rfl (eb (dt af))) (y_mv (e6 ah)) (w_val_g (wy rfl rfl (eb (dt af))) (y_bin e6 (evc (U64 (0#64))) gtr64) (w_val (y_pick_t (eb (dt af)) eb) (nt ?_)))
   refine c_if (p := (0#64).toNat < (BitVec.ofNat 64 (Oct.cy s n.toNat k)).toNat) eb (fun hc6 => ?_) (fun hc6 => ?_)
   ·skip
    refine wp_skip (then_n (wp_seq (wp_block (sr (w_mv (e6 ah) (w_mv (el ab) (w_mv (ei ac) (w_val (y_is1z (i := (s.length - 1 - k)) el ei Tryz.underlying55 OctWT.sz5 om om) (w_val (v := U8 (gb s (s.length - 1 - k))) (y_ld (ex (pt ag (s.length - 1 - k))) OctWT.sc5 (aa.val om (ng rfl))) (w_val (y_u8_u64 e8 OctWT.so5 Tryz.underlying92) (w_val (y_bin e6 (evc (U64 (255#64))) and64) (w_val (y_bin e6 e6 add64) (w_as e6 (nt (wp_seq (sr (w_mv e6 (w_mv (el ab) (w_mv (ei ac) (w_val (y_is1z (i := (s.length - 1 - k)) el ei Tryz.underlying55 OctWT.sz5 om om) (w_val (v := U8 (gb s (s.length - 1 - k))) (y_ld (ex (pt ag (s.length - 1 - k))) OctWT.sc5 (aa.val om (ng rfl))) (w_val (y_u8_u64 e8 OctWT.so5 Tryz.underlying92) (w_val (y_bin e6 e6 lss64) (nt ?_))))))))))))))))))))))))
    refine c_if (p := ((BitVec.ofNat 64 (Oct.cy s n.toNat k)) + (((gb s (s.length - 1 - k)).setWidth 64) &&& (255#64))).toNat < ((gb s (s.length - 1 - k)).setWidth 64).toNat) eb (fun hc7 => ?_) (fun hc7 => ?_)
    ·skip
     refine sr (w_mv (el ab) (w_mv (ei ac) (w_mv e6 (w_val (y_u64_u8 e6 OctWT.so92 Tryz.underlying5) (w_val (y_is1z (i := (s.length - 1 - k)) el ei Tryz.underlying55 OctWT.sz5 om om) (w_st (v := U8 (((BitVec.ofNat 64 (Oct.cy s n.toNat k)) + (((gb s (s.length - 1 - k)).setWidth 64) &&& (255#64))).setWidth 8)) (ex (pt ag (s.length - 1 - k))) e8 rfl rfl OctWT.sz5 aa om ?_))))))
     clear aa; intro w8 aa ap _
     replace hk := thenG hk ap om
     refine nt (sr (w_mv e6 (w_val (y_bin e6 (evc (.int .u64 8)) (shr64 (c := 8) rfl)) (w_val (y_bin e6 (evc (U64 (72057594037927936#64))) or64) (w_as e6 (nt (wp_exit (then_x (inb_x (then_n (wp_region_lit (w_mv (ei ac) (w_val (y_bin ei Ev.c (b_sub om)) (w_as ei (wpList_nil ?_)))))))))))))))
     exact then_n ⟨_, om, k + 1, rfl, _, rfl, iv, (Eq.trans (b := U64 ((((BitVec.ofNat 64 (Oct.cy s n.toNat k)) + (((gb s (s.length - 1 - k)).setWidth 64) &&& (255#64))) >>> 8) ||| (72057594037927936#64))) rfl (by exact congrArg U64 (by first | exact Oct.ad_over _ _ aj (by assumption) | exact Oct.ad_no _ _ aj (by assumption)))), ai, ab, ti, (aa.congr (fun j hj => by (try dsimp only); by_cases e : j = s.length - 1 - k; (rw [if_pos e, if_pos om, Oct.gb_add s _ j om, show s.length - 1 - j = k from by omega, e]; exact congrArg U8 (Oct.ad_lo _ _)); (rw [if_neg e]; by_cases e2 : s.length ≤ j + k; (rw [if_pos e2, if_pos om]); (rw [if_neg e2, if_neg om])))), hk⟩
    ·skip
     refine wp_skip (then_n (sr (w_mv (el ab) (w_mv (ei ac) (w_mv e6 (w_val (y_u64_u8 e6 OctWT.so92 Tryz.underlying5) (w_val (y_is1z (i := (s.length - 1 - k)) el ei Tryz.underlying55 OctWT.sz5 om om) (w_st (v := U8 (((BitVec.ofNat 64 (Oct.cy s n.toNat k)) + (((gb s (s.length - 1 - k)).setWidth 64) &&& (255#64))).setWidth 8)) (ex (pt ag (s.length - 1 - k))) e8 rfl rfl OctWT.sz5 aa om ?_))))))))
     clear aa; intro ar aa ak _
     replace hk := thenG hk ak om
     refine nt (wp_region_lit (w_mv e6 (w_val (y_bin e6 (evc (.int .u64 8)) (shr64 (c := 8) rfl)) (w_as e6 (wpList_nil (inb_n (then_n (wp_region_lit (w_mv (ei ac) (w_val (y_bin ei Ev.c (b_sub om)) (w_as ei (wpList_nil ?_))))))))))))
     exact then_n ⟨_, om, k + 1, rfl, _, rfl, iv, (Eq.trans (b := U64 (((BitVec.ofNat 64 (Oct.cy s n.toNat k)) + (((gb s (s.length - 1 - k)).setWidth 64) &&& (255#64))) >>> 8)) rfl (by exact congrArg U64 (by first | exact Oct.ad_over _ _ aj (by assumption) | exact Oct.ad_no _ _ aj (by assumption)))), ai, ab, ti, (aa.congr (fun j hj => by (try dsimp only); by_cases e : j = s.length - 1 - k; (rw [if_pos e, if_pos om, Oct.gb_add s _ j om, show s.length - 1 - j = k from by omega, e]; exact congrArg U8 (Oct.ad_lo _ _)); (rw [if_neg e]; by_cases e2 : s.length ≤ j + k; (rw [if_pos e2, if_pos om]); (rw [if_neg e2, if_neg om])))), hk⟩
   ·skip
    refine wp_exit (then_x ?_)
    replace aa := aa.congr (g := fun j => U8 (gb (Oct.add s n.toNat) j)) (fun j hj => by (try dsimp only); by_cases e2 : s.length ≤ j + k; (rw [if_pos e2]); (rw [if_neg e2]; first | (exfalso; omega) | exact congrArg U8 (Oct.add_rest s n k j om (by assumption))))
    refine then_x (inb_x (then_n (sr (w_mv (el ab) (w_val (y_str (l := Oct.add s n.toNat) el (by first | rfl | assumption | (simp; omega) | omega) Tryz.underlying55 Tryz.underlying5 Tryz.underlying9 (fun j hj => by rw [Nat.zero_add]; exact (aa.cell om))) (w_as es (nt (wp_ret (fin_ret1 rfl es ?_)))))))))
    exact ⟨rfl, hk⟩
  ·skip
   with_reducible refine w_skip ?_ ?_
   exact wn rfl rfl (eb (df af))
   with_reducible refine w_skip ?_ ?_
   exact wn rfl rfl (eb (df af))
   refine w_val (y_pick_f (eb (df af)) Ev.c) (nt (c_ff eb (wp_exit (then_x ?_))))
   replace aa := aa.congr (g := fun j => U8 (gb (Oct.add s n.toNat) j)) (fun j hj => by (try dsimp only); by_cases e2 : s.length ≤ j + k; (rw [if_pos e2]); (rw [if_neg e2]; first | (exfalso; omega) | exact congrArg U8 (Oct.add_rest s n k j om (by assumption))))
   refine then_x (inb_x (then_n (sr (w_mv (el ab) (w_val (y_str (l := Oct.add s n.toNat) el (by first | rfl | assumption | (simp; omega) | omega) Tryz.underlying55 Tryz.underlying5 Tryz.underlying9 (fun j hj => by rw [Nat.zero_add]; exact (aa.cell om))) (w_as es (nt (wp_ret (fin_ret1 rfl es ?_)))))))))
   exact ⟨rfl, hk⟩
end Go.Proofs.YtdmbfimjbmfbaaaGreatDoor
