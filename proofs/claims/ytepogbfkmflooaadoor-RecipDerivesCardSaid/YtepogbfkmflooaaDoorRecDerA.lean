/-
  Keys of passwords, by names. Conditions as each says.
-/
import Derived.Test.YtepogbfkmflooaaDoorRows
import Derived.Test.YtepogbfkmflooaaDoorRecLaws
import Derived.Test.YtepogbfkmflooaaDoorPbW
import Derived.Test.YtepogbfkmflooaaDoorCbcE
import Derived.Test.YtepogbfkmflooaaDoorPbPlain
import Derived.Test.YtepogbfkmflooaaDoorGenSh
import Derived.ProofKit
namespace Go.Proofs.YtepogbfkmflooaaDoor
open Go.RowKit
set_option linter.unusedSimpArgs false
set_option linter.unusedVariables false
set_option maxRecDepth 100000
set_option maxHeartbeats 1000000
namespace RecDerAT
theorem mixed : Tryd.prog.follows .mixedOrders = true := by kernel_rfl
theorem sc3 : (Tryd.prog.underlying 3).map scal = some true := by rw [Tryd.underlying3]; rfl
theorem sz3 : (Tryd.prog.info? 3).map (·.size) = some 1 := by kernel_rfl
end RecDerAT
theorem nameAt_l (i : Nat) (hi : i < 3) (w : World) : Calls Tryd.prog 19 #[.int .i64 ((Rc.kd i : Nat) : Int)] w fun e w' => e = .returned (.tuple #[.string (str (Rc.nm i)), .int .i64 0]) ∧ Below w.heap.size w w' := by
  rcases (show i = 0 ∨ i = 1 ∨ i = 2 by omega) with rfl | rfl | rfl
  · exact name_256 w
  · exact name_384 w
  · exact name_512 w

theorem derive_s (q : Nat) (hq : q < 3) (pw salt : List (BitVec 8)) (r : Int) (hp : pw.length ≤ 2000) (hs : salt.length < 8 ∨ 1000 < salt.length) (w0 : World) : Calls Tryd.prog 9 #[.string (str (Rc.nm q)), .string (str pw), .string (str salt), .int .i64 r] w0 fun e w' => e = .returned (.tuple #[.string (str ([] : List (BitVec 8))), .int .i64 4]) ∧ Below w0.heap.size w0 w' := by
 have hkd3 : Rc.kd q = 256 + 128 * q := rfl
 refine enter (n := 56) Tryd.func9 rfl rfl rfl ?_
 have hk : Below w0.heap.size w0 w0 := Below.refl _ _
 refine sr (w_as (evc (.string (str ([] : List (BitVec 8))))) (w_as Ev.c (nt (wp_seq (sr (w_val (v := .agg (arr 3 (fun j => .int .i64 (((Rc.kd j) : Nat) : Int)))) (y_build (vs := #[(0, .int .i64 256), (1, .int .i64 384), (2, .int .i64 512)]) (mp_cons Ev.c (mp_cons Ev.c (mp_cons Ev.c mp0))) (fun w => by kernel_rfl)) (w_mv Ev.c (nt (wp_block ?_)))))))))
 refine c_loop (fun dN aN wl => ∃ (i : Nat), dN = (3 - i) ∧ ∃ f1, aN = fr 56 f1 ∧ (i ≤ q) ∧ f1 0 = .string (str (Rc.nm q)) ∧ f1 1 = .string (str pw) ∧ f1 2 = .string (str salt) ∧ f1 3 = .int .i64 r ∧ f1 14 = .agg (arr 3 (fun j => .int .i64 (((Rc.kd j) : Nat) : Int))) ∧ f1 15 = .int .i64 ((i : Nat) : Int) ∧ Below w0.heap.size w0 wl) (3 - 0) ?_ ?_
 · exact ⟨0, rfl, _, rfl, (by first | omega | (have hne_ : i ≠ q := fun e => absurd (congrArg Rc.nm e) (by assumption); omega)), rfl, rfl, rfl, rfl, rfl, ti, hk⟩
 ·skip
  clear hk
  rintro _ _ w2 ⟨i, rfl, f1, rfl, i1_0, s1_0, s1_1, s1_2, s1_3, s1_14, s1_15, hk⟩
  refine sr (w_val (y_bin (ei s1_15) Ev.c b_lss) (nt (wp_seq ?_)))
  refine c_if (p := ((i : Nat) : Int) < 3) eb (fun hc3 => ?_) (fun hc3 => ?_)
  ·skip
   refine wp_skip (then_n (wp_seq (wp_block (sr (w_mv (ei s1_15) (w_val (v := .int .i64 (((Rc.kd i) : Nat) : Int)) (y_idxa (m := 3) (F := fun j => .int .i64 (((Rc.kd j) : Nat) : Int)) (i := i) (ea s1_14) (ei s1_15) Tryd.underlying41 RecDerAT.sc3 RecDerAT.sz3 om om) (w_as ei (w_as ei (nt (wp_seq (sr (w_mv ei (w_call (Tryd.func19) kr rfl (m1 ei) (nameAt_l i om w2) ?_)))))))))))))
   rintro _ w4 ⟨rfl, hb5⟩
   refine ⟨_, rfl, ?_⟩
   replace hk := thenB hk hb5
   refine w_mv (ex (.tuple #[.string (str (Rc.nm i)), .int .i64 0])) (w_val ye (w_val ye (w_as es (w_as ei (nt (sr (w_mv es (w_mv (es s1_0) (w_val (y_bin es es b_nes) (nt ?_))))))))))
   refine c_if (p := (Rc.nm i) ≠ (Rc.nm q)) eb (fun hc6 => ?_) (fun hc6 => ?_)
   ·skip
    refine wp_exit (then_x (inb_x (then_n (wp_region_lit (w_val (y_bin (ei s1_15) Ev.c (b_add om)) (w_mv ei (wpList_nil ?_)))))))
    exact then_n ⟨_, om, i + 1, rfl, _, rfl, (by first | omega | (have hne_ : i ≠ q := fun e => absurd (congrArg Rc.nm e) (by assumption); omega)), s1_0, s1_1, s1_2, s1_3, s1_14, ti, hk⟩
   ·skip
    refine wp_skip (then_n (wp_seq (wp_block (wp_seq ?_))))
    have hiq : i = q := Rc.nm_inj i q om hq (by first | assumption | exact Decidable.not_not.1 (by assumption))
    refine wp_region_lit (w_mv (es s1_2) (w_val (y_len es Tryd.underlying9) (w_val (y_bin ei Ev.c b_lss) (w_mv eb ?_))))
    by_cases hc7 : ((salt.length : Nat) : Int) < 8
    ·skip
     with_reducible refine w_skip ?_ ?_
     exact wn rfl rfl (eb (dt hc7))
     with_reducible refine w_skip ?_ ?_
     exact wn rfl rfl (eb (dt hc7))
     with_reducible refine w_skip ?_ ?_
     exact wn rfl rfl (eb (dt hc7))
     refine w_val (y_pick_t (eb (dt hc7)) Ev.c) (w_as eb (nt (c_tt eb (sr (w_as (evc (.string (str ([] : List (BitVec 8))))) (w_as Ev.c (nt (wp_ret (inb_r (then_r (inb_r (then_r (then_r (inb_r (then_r (fin_ret2 rfl es ei ?_))))))))))))))))
     exact ⟨rfl, hk⟩
    ·skip
     refine w_val_g (v := .string (str salt)) (wy rfl rfl (eb (df hc7))) (y_mv (es s1_2)) (w_val_g (wy rfl rfl (eb (df hc7))) (y_len es Tryd.underlying9) (w_val_g (wy rfl rfl (eb (df hc7))) (y_bin ei Ev.c b_gtr) (w_val (y_pick_f (eb (df hc7)) eb) (w_as eb (nt ?_)))))
     refine c_if (p := 1000 < ((salt.length : Nat) : Int)) eb (fun hc8 => ?_) (fun hc8 => ?_)
     ·skip
      refine sr (w_as (evc (.string (str ([] : List (BitVec 8))))) (w_as Ev.c (nt (wp_ret (inb_r (then_r (inb_r (then_r (then_r (inb_r (then_r (fin_ret2 rfl es ei ?_))))))))))))
      exact ⟨rfl, hk⟩
     ·skip
      refine wp_seq ?_
      exfalso; omega
  ·skip
   refine wp_exit (then_x (then_x (inb_x (then_n (wp_seq ?_)))))
   exfalso; omega

theorem derive_r (q : Nat) (hq : q < 3) (pw salt : List (BitVec 8)) (r : Int) (hp : pw.length ≤ 2000) (hs : 8 ≤ salt.length) (hs2 : salt.length ≤ 1000) (hr : r < 1) (w0 : World) : Calls Tryd.prog 9 #[.string (str (Rc.nm q)), .string (str pw), .string (str salt), .int .i64 r] w0 fun e w' => e = .returned (.tuple #[.string (str ([] : List (BitVec 8))), .int .i64 2]) ∧ Below w0.heap.size w0 w' := by
 have hkd3 : Rc.kd q = 256 + 128 * q := rfl
 refine enter (n := 56) Tryd.func9 rfl rfl rfl ?_
 have hk : Below w0.heap.size w0 w0 := Below.refl _ _
 refine sr (w_as (evc (.string (str ([] : List (BitVec 8))))) (w_as Ev.c (nt (wp_seq (sr (w_val (v := .agg (arr 3 (fun j => .int .i64 (((Rc.kd j) : Nat) : Int)))) (y_build (vs := #[(0, .int .i64 256), (1, .int .i64 384), (2, .int .i64 512)]) (mp_cons Ev.c (mp_cons Ev.c (mp_cons Ev.c mp0))) (fun w => by kernel_rfl)) (w_mv Ev.c (nt (wp_block ?_)))))))))
 refine c_loop (fun dN aN wl => ∃ (i : Nat), dN = (3 - i) ∧ ∃ f1, aN = fr 56 f1 ∧ (i ≤ q) ∧ f1 0 = .string (str (Rc.nm q)) ∧ f1 1 = .string (str pw) ∧ f1 2 = .string (str salt) ∧ f1 3 = .int .i64 r ∧ f1 14 = .agg (arr 3 (fun j => .int .i64 (((Rc.kd j) : Nat) : Int))) ∧ f1 15 = .int .i64 ((i : Nat) : Int) ∧ Below w0.heap.size w0 wl) (3 - 0) ?_ ?_
 · exact ⟨0, rfl, _, rfl, (by first | omega | (have hne_ : i ≠ q := fun e => absurd (congrArg Rc.nm e) (by assumption); omega)), rfl, rfl, rfl, rfl, rfl, ti, hk⟩
 ·skip
  clear hk
  rintro _ _ w2 ⟨i, rfl, f1, rfl, i1_0, s1_0, s1_1, s1_2, s1_3, s1_14, s1_15, hk⟩
  refine sr (w_val (y_bin (ei s1_15) Ev.c b_lss) (nt (wp_seq ?_)))
  refine c_if (p := ((i : Nat) : Int) < 3) eb (fun hc3 => ?_) (fun hc3 => ?_)
  ·skip
   refine wp_skip (then_n (wp_seq (wp_block (sr (w_mv (ei s1_15) (w_val (v := .int .i64 (((Rc.kd i) : Nat) : Int)) (y_idxa (m := 3) (F := fun j => .int .i64 (((Rc.kd j) : Nat) : Int)) (i := i) (ea s1_14) (ei s1_15) Tryd.underlying41 RecDerAT.sc3 RecDerAT.sz3 om om) (w_as ei (w_as ei (nt (wp_seq (sr (w_mv ei (w_call (Tryd.func19) kr rfl (m1 ei) (nameAt_l i om w2) ?_)))))))))))))
   rintro _ w4 ⟨rfl, hb5⟩
   refine ⟨_, rfl, ?_⟩
   replace hk := thenB hk hb5
   refine w_mv (ex (.tuple #[.string (str (Rc.nm i)), .int .i64 0])) (w_val ye (w_val ye (w_as es (w_as ei (nt (sr (w_mv es (w_mv (es s1_0) (w_val (y_bin es es b_nes) (nt ?_))))))))))
   refine c_if (p := (Rc.nm i) ≠ (Rc.nm q)) eb (fun hc6 => ?_) (fun hc6 => ?_)
   ·skip
    refine wp_exit (then_x (inb_x (then_n (wp_region_lit (w_val (y_bin (ei s1_15) Ev.c (b_add om)) (w_mv ei (wpList_nil ?_)))))))
    exact then_n ⟨_, om, i + 1, rfl, _, rfl, (by first | omega | (have hne_ : i ≠ q := fun e => absurd (congrArg Rc.nm e) (by assumption); omega)), s1_0, s1_1, s1_2, s1_3, s1_14, ti, hk⟩
   ·skip
    refine wp_skip (then_n (wp_seq (wp_block (wp_seq ?_))))
    have hiq : i = q := Rc.nm_inj i q om hq (by first | assumption | exact Decidable.not_not.1 (by assumption))
    refine wp_region_lit (w_mv (es s1_2) (w_val (y_len es Tryd.underlying9) (w_val (y_bin ei Ev.c b_lss) (w_mv eb ?_))))
    have hc7 : ¬ (((salt.length : Nat) : Int) < 8) := by omega
    refine w_val_g (v := .string (str salt)) (wy rfl rfl (eb (df hc7))) (y_mv (es s1_2)) (w_val_g (wy rfl rfl (eb (df hc7))) (y_len es Tryd.underlying9) (w_val_g (wy rfl rfl (eb (df hc7))) (y_bin ei Ev.c b_gtr) (w_val (y_pick_f (eb (df hc7)) eb) (w_as eb (nt ?_)))))
    have hc8 : ¬ (1000 < ((salt.length : Nat) : Int)) := by omega
    refine c_f (p := 1000 < ((salt.length : Nat) : Int)) eb hc8 (sr (w_mv (ei s1_3) (w_val (y_bin ei Ev.c b_lss) (w_as eb (nt ?_)))))
    have hc9 : r < 1 := by omega
    refine c_t (p := r < 1) eb hc9 (sr (w_as (evc (.string (str ([] : List (BitVec 8))))) (w_as Ev.c (nt (wp_ret (inb_r (then_r (inb_r (then_r (then_r (inb_r (then_r (fin_ret2 rfl es ei ?_)))))))))))))
    exact ⟨rfl, hk⟩
  ·skip
   refine wp_exit (then_x (then_x (inb_x (then_n (wp_seq ?_)))))
   exfalso; omega

theorem derive_t (q : Nat) (hq : q < 3) (pw salt : List (BitVec 8)) (r : Int) (hp : pw.length ≤ 2000) (hs : 8 ≤ salt.length) (hs2 : salt.length ≤ 1000) (hr : 4096 < r) (w0 : World) : Calls Tryd.prog 9 #[.string (str (Rc.nm q)), .string (str pw), .string (str salt), .int .i64 r] w0 fun e w' => e = .returned (.tuple #[.string (str ([] : List (BitVec 8))), .int .i64 14]) ∧ Below w0.heap.size w0 w' := by
 have hkd3 : Rc.kd q = 256 + 128 * q := rfl
 refine enter (n := 56) Tryd.func9 rfl rfl rfl ?_
 have hk : Below w0.heap.size w0 w0 := Below.refl _ _
 refine sr (w_as (evc (.string (str ([] : List (BitVec 8))))) (w_as Ev.c (nt (wp_seq (sr (w_val (v := .agg (arr 3 (fun j => .int .i64 (((Rc.kd j) : Nat) : Int)))) (y_build (vs := #[(0, .int .i64 256), (1, .int .i64 384), (2, .int .i64 512)]) (mp_cons Ev.c (mp_cons Ev.c (mp_cons Ev.c mp0))) (fun w => by kernel_rfl)) (w_mv Ev.c (nt (wp_block ?_)))))))))
 refine c_loop (fun dN aN wl => ∃ (i : Nat), dN = (3 - i) ∧ ∃ f1, aN = fr 56 f1 ∧ (i ≤ q) ∧ f1 0 = .string (str (Rc.nm q)) ∧ f1 1 = .string (str pw) ∧ f1 2 = .string (str salt) ∧ f1 3 = .int .i64 r ∧ f1 14 = .agg (arr 3 (fun j => .int .i64 (((Rc.kd j) : Nat) : Int))) ∧ f1 15 = .int .i64 ((i : Nat) : Int) ∧ Below w0.heap.size w0 wl) (3 - 0) ?_ ?_
 · exact ⟨0, rfl, _, rfl, (by first | omega | (have hne_ : i ≠ q := fun e => absurd (congrArg Rc.nm e) (by assumption); omega)), rfl, rfl, rfl, rfl, rfl, ti, hk⟩
 ·skip
  clear hk
  rintro _ _ w2 ⟨i, rfl, f1, rfl, i1_0, s1_0, s1_1, s1_2, s1_3, s1_14, s1_15, hk⟩
  refine sr (w_val (y_bin (ei s1_15) Ev.c b_lss) (nt (wp_seq ?_)))
  refine c_if (p := ((i : Nat) : Int) < 3) eb (fun hc3 => ?_) (fun hc3 => ?_)
  ·skip
   refine wp_skip (then_n (wp_seq (wp_block (sr (w_mv (ei s1_15) (w_val (v := .int .i64 (((Rc.kd i) : Nat) : Int)) (y_idxa (m := 3) (F := fun j => .int .i64 (((Rc.kd j) : Nat) : Int)) (i := i) (ea s1_14) (ei s1_15) Tryd.underlying41 RecDerAT.sc3 RecDerAT.sz3 om om) (w_as ei (w_as ei (nt (wp_seq (sr (w_mv ei (w_call (Tryd.func19) kr rfl (m1 ei) (nameAt_l i om w2) ?_)))))))))))))
   rintro _ w4 ⟨rfl, hb5⟩
   refine ⟨_, rfl, ?_⟩
   replace hk := thenB hk hb5
   refine w_mv (ex (.tuple #[.string (str (Rc.nm i)), .int .i64 0])) (w_val ye (w_val ye (w_as es (w_as ei (nt (sr (w_mv es (w_mv (es s1_0) (w_val (y_bin es es b_nes) (nt ?_))))))))))
   refine c_if (p := (Rc.nm i) ≠ (Rc.nm q)) eb (fun hc6 => ?_) (fun hc6 => ?_)
   ·skip
    refine wp_exit (then_x (inb_x (then_n (wp_region_lit (w_val (y_bin (ei s1_15) Ev.c (b_add om)) (w_mv ei (wpList_nil ?_)))))))
    exact then_n ⟨_, om, i + 1, rfl, _, rfl, (by first | omega | (have hne_ : i ≠ q := fun e => absurd (congrArg Rc.nm e) (by assumption); omega)), s1_0, s1_1, s1_2, s1_3, s1_14, ti, hk⟩
   ·skip
    refine wp_skip (then_n (wp_seq (wp_block (wp_seq ?_))))
    have hiq : i = q := Rc.nm_inj i q om hq (by first | assumption | exact Decidable.not_not.1 (by assumption))
    refine wp_region_lit (w_mv (es s1_2) (w_val (y_len es Tryd.underlying9) (w_val (y_bin ei Ev.c b_lss) (w_mv eb ?_))))
    have hc7 : ¬ (((salt.length : Nat) : Int) < 8) := by omega
    refine w_val_g (v := .string (str salt)) (wy rfl rfl (eb (df hc7))) (y_mv (es s1_2)) (w_val_g (wy rfl rfl (eb (df hc7))) (y_len es Tryd.underlying9) (w_val_g (wy rfl rfl (eb (df hc7))) (y_bin ei Ev.c b_gtr) (w_val (y_pick_f (eb (df hc7)) eb) (w_as eb (nt ?_)))))
    have hc8 : ¬ (1000 < ((salt.length : Nat) : Int)) := by omega
    refine c_f (p := 1000 < ((salt.length : Nat) : Int)) eb hc8 (sr (w_mv (ei s1_3) (w_val (y_bin ei Ev.c b_lss) (w_as eb (nt ?_)))))
    have hc9 : ¬ (r < 1) := by omega
    refine c_f (p := r < 1) eb hc9 (sr (w_mv (ei s1_3) (w_val (y_bin ei Ev.c b_gtr) (w_as eb (nt ?_)))))
    have hc10 : 4096 < r := by omega
    refine c_t (p := 4096 < r) eb hc10 (sr (w_as (evc (.string (str ([] : List (BitVec 8))))) (w_as Ev.c (nt (wp_ret (inb_r (then_r (inb_r (then_r (then_r (inb_r (then_r (fin_ret2 rfl es ei ?_)))))))))))))
    exact ⟨rfl, hk⟩
  ·skip
   refine wp_exit (then_x (then_x (inb_x (then_n (wp_seq ?_)))))
   exfalso; omega

theorem derive_y (q : Nat) (hq : q < 3) (pw salt : List (BitVec 8)) (r : Int) (hp : pw.length ≤ 2000) (hs : 8 ≤ salt.length) (hs2 : salt.length ≤ 1000) (h1 : 1 ≤ r) (hr : r ≤ 4096) (w0 : World) (hT : Sha.Tabs w0) : Calls Tryd.prog 9 #[.string (str (Rc.nm q)), .string (str pw), .string (str salt), .int .i64 r] w0 fun e w' => e = .returned (.tuple #[.string (str ((Pb.key ((Rc.kd q : Nat) : Int) pw ((Rc.nm q ++ ([0#8])) ++ salt) r (16 + (8 * ((q : Nat) : Int)))).1)), .int .i64 ((Pb.key ((Rc.kd q : Nat) : Int) pw ((Rc.nm q ++ ([0#8])) ++ salt) r (16 + (8 * ((q : Nat) : Int)))).2)]) ∧ Below w0.heap.size w0 w' := by
 have hkd3 : Rc.kd q = 256 + 128 * q := rfl
 refine enter (n := 56) Tryd.func9 rfl rfl rfl ?_
 have hk : Below w0.heap.size w0 w0 := Below.refl _ _
 refine sr (w_as (evc (.string (str ([] : List (BitVec 8))))) (w_as Ev.c (nt (wp_seq (sr (w_val (v := .agg (arr 3 (fun j => .int .i64 (((Rc.kd j) : Nat) : Int)))) (y_build (vs := #[(0, .int .i64 256), (1, .int .i64 384), (2, .int .i64 512)]) (mp_cons Ev.c (mp_cons Ev.c (mp_cons Ev.c mp0))) (fun w => by kernel_rfl)) (w_mv Ev.c (nt (wp_block ?_)))))))))
 refine c_loop (fun dN aN wl => ∃ (i : Nat), dN = (3 - i) ∧ ∃ f1, aN = fr 56 f1 ∧ (i ≤ q) ∧ f1 0 = .string (str (Rc.nm q)) ∧ f1 1 = .string (str pw) ∧ f1 2 = .string (str salt) ∧ f1 3 = .int .i64 r ∧ f1 14 = .agg (arr 3 (fun j => .int .i64 (((Rc.kd j) : Nat) : Int))) ∧ f1 15 = .int .i64 ((i : Nat) : Int) ∧ Sha.Tabs wl ∧ Below w0.heap.size w0 wl) (3 - 0) ?_ ?_
 · exact ⟨0, rfl, _, rfl, (by first | omega | (have hne_ : i ≠ q := fun e => absurd (congrArg Rc.nm e) (by assumption); omega)), rfl, rfl, rfl, rfl, rfl, ti, hT, hk⟩
 ·skip
  clear hT hk
  rintro _ _ w2 ⟨i, rfl, f1, rfl, i1_0, s1_0, s1_1, s1_2, s1_3, s1_14, s1_15, hT, hk⟩
  refine sr (w_val (y_bin (ei s1_15) Ev.c b_lss) (nt (wp_seq ?_)))
  refine c_if (p := ((i : Nat) : Int) < 3) eb (fun hc3 => ?_) (fun hc3 => ?_)
  ·skip
   refine wp_skip (then_n (wp_seq (wp_block (sr (w_mv (ei s1_15) (w_val (v := .int .i64 (((Rc.kd i) : Nat) : Int)) (y_idxa (m := 3) (F := fun j => .int .i64 (((Rc.kd j) : Nat) : Int)) (i := i) (ea s1_14) (ei s1_15) Tryd.underlying41 RecDerAT.sc3 RecDerAT.sz3 om om) (w_as ei (w_as ei (nt (wp_seq (sr (w_mv ei (w_call (Tryd.func19) kr rfl (m1 ei) (nameAt_l i om w2) ?_)))))))))))))
   rintro _ w4 ⟨rfl, hb5⟩
   refine ⟨_, rfl, ?_⟩
   replace hk := thenB hk hb5
   replace hT := Sha.Tabs.below hT hb5
   refine w_mv (ex (.tuple #[.string (str (Rc.nm i)), .int .i64 0])) (w_val ye (w_val ye (w_as es (w_as ei (nt (sr (w_mv es (w_mv (es s1_0) (w_val (y_bin es es b_nes) (nt ?_))))))))))
   refine c_if (p := (Rc.nm i) ≠ (Rc.nm q)) eb (fun hc6 => ?_) (fun hc6 => ?_)
   ·skip
    refine wp_exit (then_x (inb_x (then_n (wp_region_lit (w_val (y_bin (ei s1_15) Ev.c (b_add om)) (w_mv ei (wpList_nil ?_)))))))
    exact then_n ⟨_, om, i + 1, rfl, _, rfl, (by first | omega | (have hne_ : i ≠ q := fun e => absurd (congrArg Rc.nm e) (by assumption); omega)), s1_0, s1_1, s1_2, s1_3, s1_14, ti, hT, hk⟩
   ·skip
    refine wp_skip (then_n (wp_seq (wp_block (wp_seq ?_))))
    have hiq : i = q := Rc.nm_inj i q om hq (by first | assumption | exact Decidable.not_not.1 (by assumption))
    refine wp_region_lit (w_mv (es s1_2) (w_val (y_len es Tryd.underlying9) (w_val (y_bin ei Ev.c b_lss) (w_mv eb ?_))))
    have hc7 : ¬ (((salt.length : Nat) : Int) < 8) := by omega
    refine w_val_g (v := .string (str salt)) (wy rfl rfl (eb (df hc7))) (y_mv (es s1_2)) (w_val_g (wy rfl rfl (eb (df hc7))) (y_len es Tryd.underlying9) (w_val_g (wy rfl rfl (eb (df hc7))) (y_bin ei Ev.c b_gtr) (w_val (y_pick_f (eb (df hc7)) eb) (w_as eb (nt ?_)))))
    have hc8 : ¬ (1000 < ((salt.length : Nat) : Int)) := by omega
    refine c_f (p := 1000 < ((salt.length : Nat) : Int)) eb hc8 (sr (w_mv (ei s1_3) (w_val (y_bin ei Ev.c b_lss) (w_as eb (nt ?_)))))
    have hc9 : ¬ (r < 1) := by omega
    refine c_f (p := r < 1) eb hc9 (sr (w_mv (ei s1_3) (w_val (y_bin ei Ev.c b_gtr) (w_as eb (nt ?_)))))
    have hc10 : ¬ (4096 < r) := by omega
    refine c_f (p := 4096 < r) eb hc10 (wp_skip (inb_n (then_n (sr (w_mv (ex (.int .i64 (((Rc.kd q) : Nat) : Int)) (Eq.trans (b := .int .i64 (((Rc.kd i) : Nat) : Int)) rfl (by exact congrArg (fun k : Nat => Value.int .i64 ((Rc.kd k : Nat) : Int)) hiq))) (w_mv (es s1_1) (w_mv (es s1_0) (w_val (y_bin es (evc (.string (str ([0#8])))) (b_cat (by simp only [List.length_append, Rc.nm_len q hq, List.length_cons, List.length_nil]; omega))) (w_mv (es s1_2) (w_val (y_bin es es (b_cat (by simp only [List.length_append, Rc.nm_len q hq, List.length_cons, List.length_nil]; omega))) (w_mv (ei s1_3) (w_mv (ex (.int .i64 ((q : Nat) : Int)) (Eq.trans (b := .int .i64 ((i : Nat) : Int)) rfl (by congr 1; omega))) (w_val (y_bin Ev.c ei (b_mul om)) (w_val (y_bin Ev.c ei (b_add om)) ?_))))))))))))))
    have hkb := Pb.key_bound ((Rc.kd q : Nat) : Int) pw ((Rc.nm q ++ ([0#8])) ++ salt) r (16 + (8 * ((q : Nat) : Int)))
    refine w_call (Tryd.func20) kr rfl (m5 ei es es ei ei) (key_l ((Rc.kd q : Nat) : Int) pw ((Rc.nm q ++ ([0#8])) ++ salt) r (16 + (8 * ((q : Nat) : Int))) om w4 hT) ?_
    rintro _ w11 ⟨rfl, hb12⟩
    refine ⟨_, rfl, ?_⟩
    replace hk := thenB hk hb12
    replace hT := Sha.Tabs.below hT hb12
    refine w_val ye (w_val ye (w_as es (w_as ei (nt (wp_ret (inb_r (then_r (then_r (inb_r (then_r (fin_ret2 rfl es ei ?_)))))))))))
    exact ⟨rfl, hk⟩
  ·skip
   refine wp_exit (then_x (then_x (inb_x (then_n (wp_seq ?_)))))
   exfalso; omega

theorem derive_o (name pw salt : List (BitVec 8)) (r : Int) (hn : name.length ≤ 140737488351232) (h0 : Rc.nm 0 ≠ name) (h1 : Rc.nm 1 ≠ name) (h2 : Rc.nm 2 ≠ name) (w0 : World) : Calls Tryd.prog 9 #[.string (str name), .string (str pw), .string (str salt), .int .i64 r] w0 fun e w' => e = .returned (.tuple #[.string (str ([] : List (BitVec 8))), .int .i64 11]) ∧ Below w0.heap.size w0 w' := by
 refine enter (n := 56) Tryd.func9 rfl rfl rfl ?_
 have hk : Below w0.heap.size w0 w0 := Below.refl _ _
 refine sr (w_as (evc (.string (str ([] : List (BitVec 8))))) (w_as Ev.c (nt (wp_seq (sr (w_val (v := .agg (arr 3 (fun j => .int .i64 (((Rc.kd j) : Nat) : Int)))) (y_build (vs := #[(0, .int .i64 256), (1, .int .i64 384), (2, .int .i64 512)]) (mp_cons Ev.c (mp_cons Ev.c (mp_cons Ev.c mp0))) (fun w => by kernel_rfl)) (w_mv Ev.c (nt (wp_block ?_)))))))))
 refine c_loop (fun dN aN wl => ∃ (i : Nat), dN = (3 - i) ∧ ∃ f1, aN = fr 56 f1 ∧ (i ≤ 3) ∧ f1 0 = .string (str name) ∧ f1 1 = .string (str pw) ∧ f1 2 = .string (str salt) ∧ f1 3 = .int .i64 r ∧ f1 14 = .agg (arr 3 (fun j => .int .i64 (((Rc.kd j) : Nat) : Int))) ∧ f1 15 = .int .i64 ((i : Nat) : Int) ∧ Below w0.heap.size w0 wl) (3 - 0) ?_ ?_
 · exact ⟨0, rfl, _, rfl, iv, rfl, rfl, rfl, rfl, rfl, ti, hk⟩
 ·skip
  clear hk
  rintro _ _ w2 ⟨i, rfl, f1, rfl, i1_0, s1_0, s1_1, s1_2, s1_3, s1_14, s1_15, hk⟩
  refine sr (w_val (y_bin (ei s1_15) Ev.c b_lss) (nt (wp_seq ?_)))
  refine c_if (p := ((i : Nat) : Int) < 3) eb (fun hc3 => ?_) (fun hc3 => ?_)
  ·skip
   refine wp_skip (then_n (wp_seq (wp_block (sr (w_mv (ei s1_15) (w_val (v := .int .i64 (((Rc.kd i) : Nat) : Int)) (y_idxa (m := 3) (F := fun j => .int .i64 (((Rc.kd j) : Nat) : Int)) (i := i) (ea s1_14) (ei s1_15) Tryd.underlying41 RecDerAT.sc3 RecDerAT.sz3 om om) (w_as ei (w_as ei (nt (wp_seq (sr (w_mv ei (w_call (Tryd.func19) kr rfl (m1 ei) (nameAt_l i om w2) ?_)))))))))))))
   rintro _ w4 ⟨rfl, hb5⟩
   refine ⟨_, rfl, ?_⟩
   replace hk := thenB hk hb5
   refine w_mv (ex (.tuple #[.string (str (Rc.nm i)), .int .i64 0])) (w_val ye (w_val ye (w_as es (w_as ei (nt (sr (w_mv es (w_mv (es s1_0) (w_val (y_bin es es b_nes) (nt ?_))))))))))
   refine c_if (p := (Rc.nm i) ≠ name) eb (fun hc6 => ?_) (fun hc6 => ?_)
   ·skip
    refine wp_exit (then_x (inb_x (then_n (wp_region_lit (w_val (y_bin (ei s1_15) Ev.c (b_add om)) (w_mv ei (wpList_nil ?_)))))))
    exact then_n ⟨_, om, i + 1, rfl, _, rfl, iv, s1_0, s1_1, s1_2, s1_3, s1_14, ti, hk⟩
   ·skip
    refine wp_skip (then_n (wp_seq (wp_block (wp_seq ?_))))
    exfalso
    have hnn : Rc.nm i = name := by first | assumption | exact Decidable.not_not.1 (by assumption)
    rcases (show i = 0 ∨ i = 1 ∨ i = 2 by omega) with rfl | rfl | rfl
    · exact h0 hnn
    · exact h1 hnn
    · exact h2 hnn
  ·skip
   refine wp_exit (then_x (then_x (inb_x (then_n (sr (w_as (evc (.string (str ([] : List (BitVec 8))))) (w_as Ev.c (nt (wp_ret (fin_ret2 rfl es ei ?_))))))))))
   exact ⟨rfl, hk⟩

theorem refKind_256  (w0 : World) : Calls Tryd.prog 21 #[.string (str Rc.n256)] w0 fun e w' => e = .returned (.tuple #[.int .i64 256, .int .i64 16]) ∧ Below w0.heap.size w0 w' := by
 refine enter (n := 11) Tryd.func21 rfl rfl rfl ?_
 have hk : Below w0.heap.size w0 w0 := Below.refl _ _
 refine sr (w_as Ev.c (w_as Ev.c (nt (wp_seq (sr (w_mv es (nt (wp_block (sr (w_val (y_bin es (evc (.string (str Rc.n256))) b_eqs_same) (w_as eb (nt (c_tt eb (sr (w_as Ev.c (w_as Ev.c (nt (wp_ret (inb_r (then_r (fin_ret2 rfl ei ei ?_)))))))))))))))))))))
 exact ⟨rfl, hk⟩

theorem refKind_384  (w0 : World) : Calls Tryd.prog 21 #[.string (str Rc.n384)] w0 fun e w' => e = .returned (.tuple #[.int .i64 384, .int .i64 24]) ∧ Below w0.heap.size w0 w' := by
 refine enter (n := 11) Tryd.func21 rfl rfl rfl ?_
 have hk : Below w0.heap.size w0 w0 := Below.refl _ _
 refine sr (w_as Ev.c (w_as Ev.c (nt (wp_seq (sr (w_mv es (nt (wp_block (sr (w_val (y_bin es (evc (.string (str Rc.n256))) b_eqs) (w_as eb (nt ?_))))))))))))
 have hc1 : ¬ (Rc.n384 = Rc.n256) := by decide
 refine c_f (p := Rc.n384 = Rc.n256) eb hc1 (sr (w_val (y_bin es (evc (.string (str Rc.n384))) b_eqs_same) (w_as eb (nt (c_tt eb (sr (w_as Ev.c (w_as Ev.c (nt (wp_ret (inb_r (then_r (fin_ret2 rfl ei ei ?_)))))))))))))
 exact ⟨rfl, hk⟩

theorem refKind_512  (w0 : World) : Calls Tryd.prog 21 #[.string (str Rc.n512)] w0 fun e w' => e = .returned (.tuple #[.int .i64 512, .int .i64 32]) ∧ Below w0.heap.size w0 w' := by
 refine enter (n := 11) Tryd.func21 rfl rfl rfl ?_
 have hk : Below w0.heap.size w0 w0 := Below.refl _ _
 refine sr (w_as Ev.c (w_as Ev.c (nt (wp_seq (sr (w_mv es (nt (wp_block (sr (w_val (y_bin es (evc (.string (str Rc.n256))) b_eqs) (w_as eb (nt ?_))))))))))))
 have hc1 : ¬ (Rc.n512 = Rc.n256) := by decide
 refine c_f (p := Rc.n512 = Rc.n256) eb hc1 (sr (w_val (y_bin es (evc (.string (str Rc.n384))) b_eqs) (w_as eb (nt ?_))))
 have hc2 : ¬ (Rc.n512 = Rc.n384) := by decide
 refine c_f (p := Rc.n512 = Rc.n384) eb hc2 (sr (w_val (y_bin es (evc (.string (str Rc.n512))) b_eqs_same) (w_as eb (nt (c_tt eb (sr (w_as Ev.c (w_as Ev.c (nt (wp_ret (inb_r (then_r (fin_ret2 rfl ei ei ?_)))))))))))))
 exact ⟨rfl, hk⟩

theorem refKind_o (name pw salt : List (BitVec 8)) (r : Int) (hn : name.length ≤ 140737488351232) (h0 : Rc.nm 0 ≠ name) (h1 : Rc.nm 1 ≠ name) (h2 : Rc.nm 2 ≠ name) (w0 : World) : Calls Tryd.prog 21 #[.string (str name)] w0 fun e w' => e = .returned (.tuple #[.int .i64 0, .int .i64 0]) ∧ Below w0.heap.size w0 w' := by
 refine enter (n := 11) Tryd.func21 rfl rfl rfl ?_
 have hk : Below w0.heap.size w0 w0 := Below.refl _ _
 refine sr (w_as Ev.c (w_as Ev.c (nt (wp_seq (sr (w_mv es (nt (wp_block (sr (w_val (y_bin es (evc (.string (str Rc.n256))) b_eqs) (w_as eb (nt ?_))))))))))))
 have hc1 : ¬ (name = Rc.n256) := by exact fun e => h0 e.symm
 refine c_f (p := name = Rc.n256) eb hc1 (sr (w_val (y_bin es (evc (.string (str Rc.n384))) b_eqs) (w_as eb (nt ?_))))
 have hc2 : ¬ (name = Rc.n384) := by exact fun e => h1 e.symm
 refine c_f (p := name = Rc.n384) eb hc2 (sr (w_val (y_bin es (evc (.string (str Rc.n512))) b_eqs) (w_as eb (nt ?_))))
 have hc3 : ¬ (name = Rc.n512) := by exact fun e => h2 e.symm
 refine c_f (p := name = Rc.n512) eb hc3 (wp_skip (inb_n (then_n (sr (w_as Ev.c (w_as Ev.c (nt (wp_ret (fin_ret2 rfl ei ei ?_)))))))))
 exact ⟨rfl, hk⟩

theorem refKindAt_l (i : Nat) (hi : i < 3) (w : World) : Calls Tryd.prog 21 #[.string (str (Rc.nm i))] w fun e w' => e = .returned (.tuple #[.int .i64 ((Rc.kd i : Nat) : Int), .int .i64 (16 + (8 * ((i : Nat) : Int)))]) ∧ Below w.heap.size w w' := by
  rcases (show i = 0 ∨ i = 1 ∨ i = 2 by omega) with rfl | rfl | rfl
  · exact refKind_256 w
  · exact refKind_384 w
  · exact refKind_512 w

theorem refDerive_s (q : Nat) (hq : q < 3) (pw salt : List (BitVec 8)) (r : Int) (hp : pw.length ≤ 2000) (hs : salt.length < 8 ∨ 1000 < salt.length) (w0 : World) : Calls Tryd.prog 10 #[.string (str (Rc.nm q)), .string (str pw), .string (str salt), .int .i64 r] w0 fun e w' => e = .returned (.tuple #[.string (str ([] : List (BitVec 8))), .int .i64 4]) ∧ Below w0.heap.size w0 w' := by
 have hkd3 : Rc.kd q = 256 + 128 * q := rfl
 refine enter (n := 46) Tryd.func10 rfl rfl rfl ?_
 have hk : Below w0.heap.size w0 w0 := Below.refl _ _
 refine sr (w_as (evc (.string (str ([] : List (BitVec 8))))) (w_as Ev.c (nt (sr (w_mv es (w_call (Tryd.func21) kr rfl (m1 es) (refKindAt_l q hq w0) ?_))))))
 rintro _ w1 ⟨rfl, hb2⟩
 refine ⟨_, rfl, ?_⟩
 replace hk := thenB hk hb2
 refine w_mv (ex (.tuple #[.int .i64 (((Rc.kd q) : Nat) : Int), .int .i64 (16 + (8 * ((q : Nat) : Int)))])) (w_val ye (w_val ye (w_as ei (w_as ei (nt (wp_seq (wp_block (sr (w_mv ei (w_val (y_bin ei Ev.c b_eql) (w_as eb (nt ?_))))))))))))
 have hc3 : ¬ ((((Rc.kd q) : Nat) : Int) = 0) := by omega
 refine c_f (p := (((Rc.kd q) : Nat) : Int) = 0) eb hc3 (sr (w_mv es (w_val (y_len es Tryd.underlying9) (w_val (y_bin ei Ev.c b_lss) (w_mv eb ?_)))))
 by_cases hc4 : ((salt.length : Nat) : Int) < 8
 ·skip
  with_reducible refine w_skip ?_ ?_
  exact wn rfl rfl (eb (dt hc4))
  with_reducible refine w_skip ?_ ?_
  exact wn rfl rfl (eb (dt hc4))
  with_reducible refine w_skip ?_ ?_
  exact wn rfl rfl (eb (dt hc4))
  refine w_val (y_pick_t (eb (dt hc4)) Ev.c) (w_as eb (nt (c_tt eb (sr (w_as (evc (.string (str ([] : List (BitVec 8))))) (w_as Ev.c (nt (wp_ret (inb_r (then_r (fin_ret2 rfl es ei ?_)))))))))))
  exact ⟨rfl, hk⟩
 ·skip
  refine w_val_g (v := .string (str salt)) (wy rfl rfl (eb (df hc4))) (y_mv es) (w_val_g (wy rfl rfl (eb (df hc4))) (y_len es Tryd.underlying9) (w_val_g (wy rfl rfl (eb (df hc4))) (y_bin ei Ev.c b_gtr) (w_val (y_pick_f (eb (df hc4)) eb) (w_as eb (nt ?_)))))
  refine c_if (p := 1000 < ((salt.length : Nat) : Int)) eb (fun hc5 => ?_) (fun hc5 => ?_)
  ·skip
   refine sr (w_as (evc (.string (str ([] : List (BitVec 8))))) (w_as Ev.c (nt (wp_ret (inb_r (then_r (fin_ret2 rfl es ei ?_)))))))
   exact ⟨rfl, hk⟩
  ·skip
   refine wp_seq ?_
   exfalso; omega

theorem refDerive_r (q : Nat) (hq : q < 3) (pw salt : List (BitVec 8)) (r : Int) (hp : pw.length ≤ 2000) (hs : 8 ≤ salt.length) (hs2 : salt.length ≤ 1000) (hr : r < 1) (w0 : World) : Calls Tryd.prog 10 #[.string (str (Rc.nm q)), .string (str pw), .string (str salt), .int .i64 r] w0 fun e w' => e = .returned (.tuple #[.string (str ([] : List (BitVec 8))), .int .i64 2]) ∧ Below w0.heap.size w0 w' := by
 have hkd3 : Rc.kd q = 256 + 128 * q := rfl
 refine enter (n := 46) Tryd.func10 rfl rfl rfl ?_
 have hk : Below w0.heap.size w0 w0 := Below.refl _ _
 refine sr (w_as (evc (.string (str ([] : List (BitVec 8))))) (w_as Ev.c (nt (sr (w_mv es (w_call (Tryd.func21) kr rfl (m1 es) (refKindAt_l q hq w0) ?_))))))
 rintro _ w1 ⟨rfl, hb2⟩
 refine ⟨_, rfl, ?_⟩
 replace hk := thenB hk hb2
 refine w_mv (ex (.tuple #[.int .i64 (((Rc.kd q) : Nat) : Int), .int .i64 (16 + (8 * ((q : Nat) : Int)))])) (w_val ye (w_val ye (w_as ei (w_as ei (nt (wp_seq (wp_block (sr (w_mv ei (w_val (y_bin ei Ev.c b_eql) (w_as eb (nt ?_))))))))))))
 have hc3 : ¬ ((((Rc.kd q) : Nat) : Int) = 0) := by omega
 refine c_f (p := (((Rc.kd q) : Nat) : Int) = 0) eb hc3 (sr (w_mv es (w_val (y_len es Tryd.underlying9) (w_val (y_bin ei Ev.c b_lss) (w_mv eb ?_)))))
 have hc4 : ¬ (((salt.length : Nat) : Int) < 8) := by omega
 refine w_val_g (v := .string (str salt)) (wy rfl rfl (eb (df hc4))) (y_mv es) (w_val_g (wy rfl rfl (eb (df hc4))) (y_len es Tryd.underlying9) (w_val_g (wy rfl rfl (eb (df hc4))) (y_bin ei Ev.c b_gtr) (w_val (y_pick_f (eb (df hc4)) eb) (w_as eb (nt ?_)))))
 have hc5 : ¬ (1000 < ((salt.length : Nat) : Int)) := by omega
 refine c_f (p := 1000 < ((salt.length : Nat) : Int)) eb hc5 (sr (w_mv ei (w_val (y_bin ei Ev.c b_lss) (w_as eb (nt ?_)))))
 have hc6 : r < 1 := by omega
 refine c_t (p := r < 1) eb hc6 (sr (w_as (evc (.string (str ([] : List (BitVec 8))))) (w_as Ev.c (nt (wp_ret (inb_r (then_r (fin_ret2 rfl es ei ?_))))))))
 exact ⟨rfl, hk⟩

theorem refDerive_t (q : Nat) (hq : q < 3) (pw salt : List (BitVec 8)) (r : Int) (hp : pw.length ≤ 2000) (hs : 8 ≤ salt.length) (hs2 : salt.length ≤ 1000) (hr : 4096 < r) (w0 : World) : Calls Tryd.prog 10 #[.string (str (Rc.nm q)), .string (str pw), .string (str salt), .int .i64 r] w0 fun e w' => e = .returned (.tuple #[.string (str ([] : List (BitVec 8))), .int .i64 14]) ∧ Below w0.heap.size w0 w' := by
 have hkd3 : Rc.kd q = 256 + 128 * q := rfl
 refine enter (n := 46) Tryd.func10 rfl rfl rfl ?_
 have hk : Below w0.heap.size w0 w0 := Below.refl _ _
 refine sr (w_as (evc (.string (str ([] : List (BitVec 8))))) (w_as Ev.c (nt (sr (w_mv es (w_call (Tryd.func21) kr rfl (m1 es) (refKindAt_l q hq w0) ?_))))))
 rintro _ w1 ⟨rfl, hb2⟩
 refine ⟨_, rfl, ?_⟩
 replace hk := thenB hk hb2
 refine w_mv (ex (.tuple #[.int .i64 (((Rc.kd q) : Nat) : Int), .int .i64 (16 + (8 * ((q : Nat) : Int)))])) (w_val ye (w_val ye (w_as ei (w_as ei (nt (wp_seq (wp_block (sr (w_mv ei (w_val (y_bin ei Ev.c b_eql) (w_as eb (nt ?_))))))))))))
 have hc3 : ¬ ((((Rc.kd q) : Nat) : Int) = 0) := by omega
 refine c_f (p := (((Rc.kd q) : Nat) : Int) = 0) eb hc3 (sr (w_mv es (w_val (y_len es Tryd.underlying9) (w_val (y_bin ei Ev.c b_lss) (w_mv eb ?_)))))
 have hc4 : ¬ (((salt.length : Nat) : Int) < 8) := by omega
 refine w_val_g (v := .string (str salt)) (wy rfl rfl (eb (df hc4))) (y_mv es) (w_val_g (wy rfl rfl (eb (df hc4))) (y_len es Tryd.underlying9) (w_val_g (wy rfl rfl (eb (df hc4))) (y_bin ei Ev.c b_gtr) (w_val (y_pick_f (eb (df hc4)) eb) (w_as eb (nt ?_)))))
 have hc5 : ¬ (1000 < ((salt.length : Nat) : Int)) := by omega
 refine c_f (p := 1000 < ((salt.length : Nat) : Int)) eb hc5 (sr (w_mv ei (w_val (y_bin ei Ev.c b_lss) (w_as eb (nt ?_)))))
 have hc6 : ¬ (r < 1) := by omega
 refine c_f (p := r < 1) eb hc6 (sr (w_mv ei (w_val (y_bin ei Ev.c b_gtr) (w_as eb (nt ?_)))))
 have hc7 : 4096 < r := by omega
 refine c_t (p := 4096 < r) eb hc7 (sr (w_as (evc (.string (str ([] : List (BitVec 8))))) (w_as Ev.c (nt (wp_ret (inb_r (then_r (fin_ret2 rfl es ei ?_))))))))
 exact ⟨rfl, hk⟩

theorem refDerive_y (q : Nat) (hq : q < 3) (pw salt : List (BitVec 8)) (r : Int) (hp : pw.length ≤ 2000) (hs : 8 ≤ salt.length) (hs2 : salt.length ≤ 1000) (h1 : 1 ≤ r) (hr : r ≤ 4096) (w0 : World) : Calls Tryd.prog 10 #[.string (str (Rc.nm q)), .string (str pw), .string (str salt), .int .i64 r] w0 fun e w' => e = .returned (.tuple #[.string (str ((Pb.key ((Rc.kd q : Nat) : Int) pw ((Rc.nm q ++ ([0#8])) ++ salt) r (16 + (8 * ((q : Nat) : Int)))).1)), .int .i64 ((Pb.key ((Rc.kd q : Nat) : Int) pw ((Rc.nm q ++ ([0#8])) ++ salt) r (16 + (8 * ((q : Nat) : Int)))).2)]) ∧ Below w0.heap.size w0 w' := by
 have hkd3 : Rc.kd q = 256 + 128 * q := rfl
 refine enter (n := 46) Tryd.func10 rfl rfl rfl ?_
 have hk : Below w0.heap.size w0 w0 := Below.refl _ _
 refine sr (w_as (evc (.string (str ([] : List (BitVec 8))))) (w_as Ev.c (nt (sr (w_mv es (w_call (Tryd.func21) kr rfl (m1 es) (refKindAt_l q hq w0) ?_))))))
 rintro _ w1 ⟨rfl, hb2⟩
 refine ⟨_, rfl, ?_⟩
 replace hk := thenB hk hb2
 refine w_mv (ex (.tuple #[.int .i64 (((Rc.kd q) : Nat) : Int), .int .i64 (16 + (8 * ((q : Nat) : Int)))])) (w_val ye (w_val ye (w_as ei (w_as ei (nt (wp_seq (wp_block (sr (w_mv ei (w_val (y_bin ei Ev.c b_eql) (w_as eb (nt ?_))))))))))))
 have hc3 : ¬ ((((Rc.kd q) : Nat) : Int) = 0) := by omega
 refine c_f (p := (((Rc.kd q) : Nat) : Int) = 0) eb hc3 (sr (w_mv es (w_val (y_len es Tryd.underlying9) (w_val (y_bin ei Ev.c b_lss) (w_mv eb ?_)))))
 have hc4 : ¬ (((salt.length : Nat) : Int) < 8) := by omega
 refine w_val_g (v := .string (str salt)) (wy rfl rfl (eb (df hc4))) (y_mv es) (w_val_g (wy rfl rfl (eb (df hc4))) (y_len es Tryd.underlying9) (w_val_g (wy rfl rfl (eb (df hc4))) (y_bin ei Ev.c b_gtr) (w_val (y_pick_f (eb (df hc4)) eb) (w_as eb (nt ?_)))))
 have hc5 : ¬ (1000 < ((salt.length : Nat) : Int)) := by omega
 refine c_f (p := 1000 < ((salt.length : Nat) : Int)) eb hc5 (sr (w_mv ei (w_val (y_bin ei Ev.c b_lss) (w_as eb (nt ?_)))))
 have hc6 : ¬ (r < 1) := by omega
 refine c_f (p := r < 1) eb hc6 (sr (w_mv ei (w_val (y_bin ei Ev.c b_gtr) (w_as eb (nt ?_)))))
 have hc7 : ¬ (4096 < r) := by omega
 refine c_f (p := 4096 < r) eb hc7 (wp_skip (inb_n (then_n (sr (w_mv ei (w_mv es (w_mv es (w_val (y_bin es (evc (.string (str ([0#8])))) (b_cat (by simp only [List.length_append, Rc.nm_len q hq, List.length_cons, List.length_nil]; omega))) (w_mv es (w_val (y_bin es es (b_cat (by simp only [List.length_append, Rc.nm_len q hq, List.length_cons, List.length_nil]; omega))) (w_mv ei (w_mv ei ?_))))))))))))
 have hkb := Pb.key_bound ((Rc.kd q : Nat) : Int) pw ((Rc.nm q ++ ([0#8])) ++ salt) r (16 + (8 * ((q : Nat) : Int)))
 refine w_call (Tryd.func22) kr rfl (m5 ei es es ei ei) (refKey_l ((Rc.kd q : Nat) : Int) pw ((Rc.nm q ++ ([0#8])) ++ salt) r (16 + (8 * ((q : Nat) : Int))) om w1) ?_
 rintro _ w8 ⟨rfl, hb9⟩
 refine ⟨_, rfl, ?_⟩
 replace hk := thenB hk hb9
 refine w_val ye (w_val ye (w_as es (w_as ei (nt (wp_ret (fin_ret2 rfl es ei ?_))))))
 exact ⟨rfl, hk⟩

theorem refDerive_o (name pw salt : List (BitVec 8)) (r : Int) (hn : name.length ≤ 140737488351232) (h0 : Rc.nm 0 ≠ name) (h1 : Rc.nm 1 ≠ name) (h2 : Rc.nm 2 ≠ name) (w0 : World) : Calls Tryd.prog 10 #[.string (str name), .string (str pw), .string (str salt), .int .i64 r] w0 fun e w' => e = .returned (.tuple #[.string (str ([] : List (BitVec 8))), .int .i64 11]) ∧ Below w0.heap.size w0 w' := by
 refine enter (n := 46) Tryd.func10 rfl rfl rfl ?_
 have hk : Below w0.heap.size w0 w0 := Below.refl _ _
 refine sr (w_as (evc (.string (str ([] : List (BitVec 8))))) (w_as Ev.c (nt (sr (w_mv es (w_call (Tryd.func21) kr rfl (m1 es) (refKind_o name pw salt r hn h0 h1 h2 w0) ?_))))))
 rintro _ w1 ⟨rfl, hb2⟩
 refine ⟨_, rfl, ?_⟩
 replace hk := thenB hk hb2
 refine w_mv (ex (.tuple #[.int .i64 0, .int .i64 0])) (w_val ye (w_val ye (w_as ei (w_as ei (nt (wp_seq (wp_block (sr (w_mv ei (w_val (y_bin ei Ev.c b_eql) (w_as eb (nt (c_tt eb (sr (w_as (evc (.string (str ([] : List (BitVec 8))))) (w_as Ev.c (nt (wp_ret (inb_r (then_r (fin_ret2 rfl es ei ?_)))))))))))))))))))))
 exact ⟨rfl, hk⟩
end Go.Proofs.YtepogbfkmflooaaDoor
