/-
  Tags: what the program's inner functions compute. Conditions as each says.
-/
import Derived.Test.YtepogbfkmflooaaDoorRows
import Derived.Test.YtepogbfkmflooaaDoorCbcE
import Derived.Test.YtepogbfkmflooaaDoorLiftS
import Derived.Test.YtepogbfkmflooaaDoorOctW
import Derived.Test.YtepogbfkmflooaaDoorCbchsPlain
import Derived.Test.YtepogbfkmflooaaDoorShaW
import Derived.Test.YtepogbfkmflooaaDoorGenSh
import Derived.ProofKit
namespace Go.Proofs.YtepogbfkmflooaaDoor
open Go.RowKit
set_option linter.unusedSimpArgs false
set_option linter.unusedVariables false
set_option maxRecDepth 100000
set_option maxHeartbeats 1000000
namespace ChAT
theorem mixed : Tryd.prog.follows .mixedOrders = true := by kernel_rfl
theorem sc9 : (Tryd.prog.underlying 9).map scal = some true := by rw [Tryd.underlying9]; rfl
theorem so3 : (Tryd.prog.underlying 3).isSome = true := by rw [Tryd.underlying3]; rfl
theorem sz9 : (Tryd.prog.info? 9).map (·.size) = some 1 := by kernel_rfl
end ChAT
theorem chKinds_16 (key : List (BitVec 8)) (hkl : key.length = 32) (w0 : World) : Calls Tryd.prog 23 #[.string (str key)] w0 fun e w' => e = .returned (.tuple #[.int .i64 256, .int .i64 16, .bool true]) ∧ Below w0.heap.size w0 w' := by
 refine enter (n := 13) Tryd.func23 rfl rfl rfl ?_
 have hk : Below w0.heap.size w0 w0 := Below.refl _ _
 refine sr (w_as Ev.c (w_as Ev.c (w_as Ev.c (nt (wp_seq (sr (w_mv es (w_val (y_len es Tryd.underlying9) (nt (wp_block (sr (w_val (y_bin ei Ev.c b_eql) (w_as eb (nt ?_))))))))))))))
 have aa : ((key.length : Nat) : Int) = 32 := by omega
 refine c_t (p := ((key.length : Nat) : Int) = 32) eb aa (sr (w_as Ev.c (w_as Ev.c (w_as Ev.c (nt (wp_ret (inb_r (then_r (fin_ret3 rfl ei ei eb ?_)))))))))
 exact ⟨rfl, hk⟩

theorem chKinds_24 (key : List (BitVec 8)) (hkl : key.length = 48) (w0 : World) : Calls Tryd.prog 23 #[.string (str key)] w0 fun e w' => e = .returned (.tuple #[.int .i64 384, .int .i64 24, .bool true]) ∧ Below w0.heap.size w0 w' := by
 refine enter (n := 13) Tryd.func23 rfl rfl rfl ?_
 have hk : Below w0.heap.size w0 w0 := Below.refl _ _
 refine sr (w_as Ev.c (w_as Ev.c (w_as Ev.c (nt (wp_seq (sr (w_mv es (w_val (y_len es Tryd.underlying9) (nt (wp_block (sr (w_val (y_bin ei Ev.c b_eql) (w_as eb (nt ?_))))))))))))))
 have ab : ¬ (((key.length : Nat) : Int) = 32) := by omega
 refine c_f (p := ((key.length : Nat) : Int) = 32) eb ab (sr (w_val (y_bin ei Ev.c b_eql) (w_as eb (nt ?_))))
 have aa : ((key.length : Nat) : Int) = 48 := by omega
 refine c_t (p := ((key.length : Nat) : Int) = 48) eb aa (sr (w_as Ev.c (w_as Ev.c (w_as Ev.c (nt (wp_ret (inb_r (then_r (fin_ret3 rfl ei ei eb ?_)))))))))
 exact ⟨rfl, hk⟩

theorem chKinds_32 (key : List (BitVec 8)) (hkl : key.length = 64) (w0 : World) : Calls Tryd.prog 23 #[.string (str key)] w0 fun e w' => e = .returned (.tuple #[.int .i64 512, .int .i64 32, .bool true]) ∧ Below w0.heap.size w0 w' := by
 refine enter (n := 13) Tryd.func23 rfl rfl rfl ?_
 have hk : Below w0.heap.size w0 w0 := Below.refl _ _
 refine sr (w_as Ev.c (w_as Ev.c (w_as Ev.c (nt (wp_seq (sr (w_mv es (w_val (y_len es Tryd.underlying9) (nt (wp_block (sr (w_val (y_bin ei Ev.c b_eql) (w_as eb (nt ?_))))))))))))))
 have ab : ¬ (((key.length : Nat) : Int) = 32) := by omega
 refine c_f (p := ((key.length : Nat) : Int) = 32) eb ab (sr (w_val (y_bin ei Ev.c b_eql) (w_as eb (nt ?_))))
 have aa : ¬ (((key.length : Nat) : Int) = 48) := by omega
 refine c_f (p := ((key.length : Nat) : Int) = 48) eb aa (sr (w_val (y_bin ei Ev.c b_eql) (w_as eb (nt ?_))))
 have ac : ((key.length : Nat) : Int) = 64 := by omega
 refine c_t (p := ((key.length : Nat) : Int) = 64) eb ac (sr (w_as Ev.c (w_as Ev.c (w_as Ev.c (nt (wp_ret (inb_r (then_r (fin_ret3 rfl ei ei eb ?_)))))))))
 exact ⟨rfl, hk⟩

theorem chKinds_k (key : List (BitVec 8)) (hk_ : ¬ (key.length = 32 ∨ key.length = 48 ∨ key.length = 64)) (w0 : World) : Calls Tryd.prog 23 #[.string (str key)] w0 fun e w' => e = .returned (.tuple #[.int .i64 0, .int .i64 0, .bool false]) ∧ Below w0.heap.size w0 w' := by
 refine enter (n := 13) Tryd.func23 rfl rfl rfl ?_
 have hk : Below w0.heap.size w0 w0 := Below.refl _ _
 refine sr (w_as Ev.c (w_as Ev.c (w_as Ev.c (nt (wp_seq (sr (w_mv es (w_val (y_len es Tryd.underlying9) (nt (wp_block (sr (w_val (y_bin ei Ev.c b_eql) (w_as eb (nt ?_))))))))))))))
 have ab : ¬ (((key.length : Nat) : Int) = 32) := by omega
 refine c_f (p := ((key.length : Nat) : Int) = 32) eb ab (sr (w_val (y_bin ei Ev.c b_eql) (w_as eb (nt ?_))))
 have aa : ¬ (((key.length : Nat) : Int) = 48) := by omega
 refine c_f (p := ((key.length : Nat) : Int) = 48) eb aa (sr (w_val (y_bin ei Ev.c b_eql) (w_as eb (nt ?_))))
 have ac : ¬ (((key.length : Nat) : Int) = 64) := by omega
 refine c_f (p := ((key.length : Nat) : Int) = 64) eb ac (wp_skip (inb_n (then_n (sr (w_as Ev.c (w_as Ev.c (w_as Ev.c (nt (wp_ret (fin_ret3 rfl ei ei eb ?_))))))))))
 exact ⟨rfl, hk⟩

theorem chKinds_y (key : List (BitVec 8)) (n kind : Nat) (hkd : Sha.Known kind) (hkn : kind = 16 * n) (hkl : key.length = 2 * n) (w : World) : Calls Tryd.prog 23 #[.string (str key)] w fun e w' => e = .returned (.tuple #[.int .i64 ((kind : Nat) : Int), .int .i64 ((n : Nat) : Int), .bool true]) ∧ Below w.heap.size w w' := by
  rcases hkd with rfl | rfl | rfl
  · obtain rfl : n = 16 := by omega
    exact chKinds_16 key hkl w
  · obtain rfl : n = 24 := by omega
    exact chKinds_24 key hkl w
  · obtain rfl : n = 32 := by omega
    exact chKinds_32 key hkl w

theorem chWrong_k (key vi aad : List (BitVec 8)) (hk_ : ¬ (key.length = 32 ∨ key.length = 48 ∨ key.length = 64)) (w0 : World) : Calls Tryd.prog 11 #[.string (str key), .string (str vi), .string (str aad)] w0 fun e w' => e = .returned (.int .i64 3) ∧ Below w0.heap.size w0 w' := by
 refine enter (n := 24) Tryd.func11 rfl rfl rfl ?_
 have hk : Below w0.heap.size w0 w0 := Below.refl _ _
 refine sr (w_as Ev.c (nt (wp_seq (sr (w_mv es (w_call (Tryd.func23) kr rfl (m1 es) (chKinds_k key hk_ w0) ?_))))))
 rintro _ w1 ⟨rfl, aa⟩
 refine ⟨_, rfl, ?_⟩
 replace hk := thenB hk aa
 refine w_mv (ex (.tuple #[.int .i64 0, .int .i64 0, .bool false])) (w_val ye (w_val ye (w_val ye (w_as ei (w_as ei (w_as eb (nt (sr (w_mv eb (w_val (y_not eb) (nt (c_tt eb (sr (w_as Ev.c (nt (wp_ret (then_r (fin_ret1 rfl ei ?_))))))))))))))))))
 exact ⟨rfl, hk⟩

theorem chWrong_i (key vi aad : List (BitVec 8)) (n kind : Nat) (hkd : Sha.Known kind) (hkn : kind = 16 * n) (hkl : key.length = 2 * n) (hiv : vi.length ≠ 16) (w0 : World) : Calls Tryd.prog 11 #[.string (str key), .string (str vi), .string (str aad)] w0 fun e w' => e = .returned (.int .i64 4) ∧ Below w0.heap.size w0 w' := by
 refine enter (n := 24) Tryd.func11 rfl rfl rfl ?_
 have hk : Below w0.heap.size w0 w0 := Below.refl _ _
 refine sr (w_as Ev.c (nt (wp_seq (sr (w_mv es (w_call (Tryd.func23) kr rfl (m1 es) (chKinds_y key n kind hkd hkn hkl w0) ?_))))))
 rintro _ w1 ⟨rfl, ab⟩
 refine ⟨_, rfl, ?_⟩
 replace hk := thenB hk ab
 refine w_mv (ex (.tuple #[.int .i64 ((kind : Nat) : Int), .int .i64 ((n : Nat) : Int), .bool true])) (w_val ye (w_val ye (w_val ye (w_as ei (w_as ei (w_as eb (nt (sr (w_mv eb (w_val (y_not eb) (nt (c_ff eb (wp_skip (then_n (wp_seq (sr (w_mv es (w_val (y_len es Tryd.underlying9) (w_val (y_bin ei Ev.c b_neq) (nt ?_))))))))))))))))))))
 have aa : ((vi.length : Nat) : Int) ≠ 16 := by omega
 refine c_t (p := ((vi.length : Nat) : Int) ≠ 16) eb aa (sr (w_as Ev.c (nt (wp_ret (then_r (fin_ret1 rfl ei ?_))))))
 exact ⟨rfl, hk⟩

theorem chWrong_a (key vi aad : List (BitVec 8)) (n kind : Nat) (hkd : Sha.Known kind) (hkn : kind = 16 * n) (hkl : key.length = 2 * n) (hiv : vi.length = 16) (ha : 70000 < aad.length) (w0 : World) : Calls Tryd.prog 11 #[.string (str key), .string (str vi), .string (str aad)] w0 fun e w' => e = .returned (.int .i64 6) ∧ Below w0.heap.size w0 w' := by
 refine enter (n := 24) Tryd.func11 rfl rfl rfl ?_
 have hk : Below w0.heap.size w0 w0 := Below.refl _ _
 refine sr (w_as Ev.c (nt (wp_seq (sr (w_mv es (w_call (Tryd.func23) kr rfl (m1 es) (chKinds_y key n kind hkd hkn hkl w0) ?_))))))
 rintro _ w1 ⟨rfl, ac⟩
 refine ⟨_, rfl, ?_⟩
 replace hk := thenB hk ac
 refine w_mv (ex (.tuple #[.int .i64 ((kind : Nat) : Int), .int .i64 ((n : Nat) : Int), .bool true])) (w_val ye (w_val ye (w_val ye (w_as ei (w_as ei (w_as eb (nt (sr (w_mv eb (w_val (y_not eb) (nt (c_ff eb (wp_skip (then_n (wp_seq (sr (w_mv es (w_val (y_len es Tryd.underlying9) (w_val (y_bin ei Ev.c b_neq) (nt ?_))))))))))))))))))))
 have ab : ¬ (((vi.length : Nat) : Int) ≠ 16) := by omega
 refine c_f (p := ((vi.length : Nat) : Int) ≠ 16) eb ab (wp_skip (then_n (wp_seq (sr (w_mv es (w_val (y_len es Tryd.underlying9) (w_val (y_bin ei Ev.c b_gtr) (nt ?_))))))))
 have aa : 70000 < ((aad.length : Nat) : Int) := by omega
 refine c_t (p := 70000 < ((aad.length : Nat) : Int)) eb aa (sr (w_as Ev.c (nt (wp_ret (then_r (fin_ret1 rfl ei ?_))))))
 exact ⟨rfl, hk⟩

theorem chWrong_y (key vi aad : List (BitVec 8)) (n kind : Nat) (hkd : Sha.Known kind) (hkn : kind = 16 * n) (hkl : key.length = 2 * n) (hiv : vi.length = 16) (ha : aad.length ≤ 70000) (w0 : World) : Calls Tryd.prog 11 #[.string (str key), .string (str vi), .string (str aad)] w0 fun e w' => e = .returned (.int .i64 0) ∧ Below w0.heap.size w0 w' := by
 refine enter (n := 24) Tryd.func11 rfl rfl rfl ?_
 have hk : Below w0.heap.size w0 w0 := Below.refl _ _
 refine sr (w_as Ev.c (nt (wp_seq (sr (w_mv es (w_call (Tryd.func23) kr rfl (m1 es) (chKinds_y key n kind hkd hkn hkl w0) ?_))))))
 rintro _ w1 ⟨rfl, ac⟩
 refine ⟨_, rfl, ?_⟩
 replace hk := thenB hk ac
 refine w_mv (ex (.tuple #[.int .i64 ((kind : Nat) : Int), .int .i64 ((n : Nat) : Int), .bool true])) (w_val ye (w_val ye (w_val ye (w_as ei (w_as ei (w_as eb (nt (sr (w_mv eb (w_val (y_not eb) (nt (c_ff eb (wp_skip (then_n (wp_seq (sr (w_mv es (w_val (y_len es Tryd.underlying9) (w_val (y_bin ei Ev.c b_neq) (nt ?_))))))))))))))))))))
 have ab : ¬ (((vi.length : Nat) : Int) ≠ 16) := by omega
 refine c_f (p := ((vi.length : Nat) : Int) ≠ 16) eb ab (wp_skip (then_n (wp_seq (sr (w_mv es (w_val (y_len es Tryd.underlying9) (w_val (y_bin ei Ev.c b_gtr) (nt ?_))))))))
 have aa : ¬ (70000 < ((aad.length : Nat) : Int)) := by omega
 refine c_f (p := 70000 < ((aad.length : Nat) : Int)) eb aa (wp_skip (then_n (sr (w_as Ev.c (nt (wp_ret (fin_ret1 rfl ei ?_)))))))
 exact ⟨rfl, hk⟩

theorem chTagged (key vi aad : List (BitVec 8)) (n kind : Nat) (hkd : Sha.Known kind) (hkn : kind = 16 * n) (hkl : key.length = 2 * n) (hiv : vi.length = 16) (ha : aad.length ≤ 70000) (text : List (BitVec 8)) (htl : text.length ≤ 70016) (w0 : World) (hT : Sha.Tabs w0) : Calls Tryd.prog 13 #[.string (str key), .string (str vi), .string (str aad), .string (str text)] w0 fun e w' => e = .returned (.string (str (Ch.tg kind n key vi aad text))) ∧ Below w0.heap.size w0 w' := by
 have ax : kind = 256 ∨ kind = 384 ∨ kind = 512 := hkd
 have a9 := Ch.n_cases kind n hkd hkn
 have a6 := Ch.key_ok kind n key hkd hkn hkl
 have a4 := hT.lt
 have a3 := Sha.bs_le kind
 have ah := Ch.n_ol kind n hkd hkn
 refine enter (n := 62) Tryd.func13 rfl rfl rfl ?_
 have hk : Below w0.heap.size w0 w0 := Below.refl _ _
 refine sr (w_as (evc (.string (str ([] : List (BitVec 8))))) (nt (sr (w_mv es (w_call (Tryd.func23) kr rfl (m1 es) (chKinds_y key n kind hkd hkn hkl w0) ?_)))))
 rintro _ w1 ⟨rfl, ap⟩
 refine ⟨_, rfl, ?_⟩
 replace hk := thenB hk ap
 replace hT := Sha.Tabs.below hT ap
 refine w_mv (ex (.tuple #[.int .i64 ((kind : Nat) : Int), .int .i64 ((n : Nat) : Int), .bool true])) (w_val ye (w_val ye (w_val ye (w_as ei (w_as ei (w_as eb (nt (sr (w_mv ei (w_mv es (w_mv ei (w_val (v := .string (str (key.take n))) (y_sls (ex (.string (str key))) evo.no (evo.s ei) Tryd.underlying9 (bnd_h (h := n) om (by (try rw [Sha.length_sum, ah]); omega))) (w_call (Tryd.func27) kr rfl (m2 ei es) (macNew_l kind hkd (key.take n) (by rw [List.length_take]; omega) w1 hT) ?_)))))))))))))
 rintro _ w3 ⟨m, pi, po, pn, rfl, ar, al, am, an, az, a1, ba, a2, a5, a7, ab, hi, ho, hn, ai⟩
 refine ⟨_, rfl, ?_⟩
 have aw : w0.heap.size ≤ m := by have := hk.size; omega
 have ao : w0.heap.size ≤ pi := by have := hk.size; omega
 have aq : w0.heap.size ≤ po := by have := hk.size; omega
 have au : w0.heap.size ≤ pn := by have := hk.size; omega
 replace hk := thenB hk ai
 replace hT := Sha.Tabs.below hT ai
 refine w_mv (ex (.tuple #[pt m 0, .int .i64 0])) (w_val ye (w_val ye (w_as (ex (pt m 0)) (w_as ei (nt (sr (w_mv es (w_val (y_len es Tryd.underlying9) (w_val (y_nat_u64 (p := aad.length) ei om ChAT.so3 Tryd.underlying58) (w_val (y_bin e6 (evc (U64 (8#64))) mul64) (w_call (Tryd.func28) kr rfl (m2 e6 Ev.c) (put_c ((BitVec.ofNat 64 aad.length) * (8#64)) 8 (by decide) (by decide) (fun h => absurd h (by decide)) w3) ?_)))))))))))
 rintro _ w4 ⟨rfl, ag⟩
 refine ⟨_, rfl, ?_⟩
 replace ab := ab.step ag
 replace hk := thenB hk ag
 replace hT := Sha.Tabs.below hT ag
 replace hi := Sha.At.below hi ag
 replace ho := Sha.At.below ho ag
 replace hn := Sha.At.below hn ag
 refine w_mv (ex (.tuple #[.string (str (Oct.be ((BitVec.ofNat 64 aad.length) * (8#64)) 8)), .int .i64 0])) (w_val ye (w_val ye (w_as es (w_as ei (nt (wp_seq (sr (w_mv es (w_mv es (w_mv es (w_mv (ex (.string (str (Ch.bl aad))) (Eq.trans (b := .string (str (Oct.be ((BitVec.ofNat 64 aad.length) * (8#64)) 8))) rfl (by exact congrArg (fun x => Value.string (str (Oct.be x 8))) (Ch.mul8 _)))) (w_val (v := .agg (arr 4 (fun j => .string (str (Ch.pt aad vi text j))))) (y_build (vs := #[(0, .string (str aad)), (1, .string (str vi)), (2, .string (str text)), (3, .string (str (Ch.bl aad)))]) (mp_cons es (mp_cons es (mp_cons es (mp_cons es mp0)))) (fun w => by kernel_rfl)) (w_mv Ev.c (nt (wp_block ?_)))))))))))))))
 refine c_loop (fun dN aN wl => ∃ (i : Nat), dN = (4 - i) ∧ ∃ f6, aN = fr 62 f6 ∧ (i ≤ 4) ∧ f6 8 = .string (str ([] : List (BitVec 8))) ∧ f6 10 = .int .i64 ((n : Nat) : Int) ∧ f6 12 = pt m 0 ∧ f6 46 = .agg (arr 4 (fun j => .string (str (Ch.pt aad vi text j)))) ∧ f6 47 = .int .i64 ((i : Nat) : Int) ∧ Row wl m 79 3 (fun j => if j < 1 then pt pi 0 else if j < 2 then pt po 0 else pt pn 0) ∧ Sha.Tabs wl ∧ Sha.At wl pi kind (Hm.pd kind (key.take n) 54#8) ∧ Sha.At wl po kind (Hm.pd kind (key.take n) 92#8) ∧ Sha.At wl pn kind (Ch.upto (Hm.pd kind (key.take n) 54#8) aad vi text i) ∧ Below w0.heap.size w0 wl) (4 - 0) ?_ ?_
 · exact ⟨0, rfl, _, rfl, iv, rfl, rfl, rfl, rfl, ti, (ab.congr (fun j hj => by rfl)), hT, hi, ho, hn, hk⟩
 ·skip
  clear ab hT hi ho hn hk
  rintro _ _ w7 ⟨i, rfl, f6, rfl, av, ak, ae, ac, af, ad, ab, hT, hi, ho, hn, hk⟩
  have a8 := Ch.pt_len aad vi text i
  refine sr (w_val (y_bin (ei ad) Ev.c b_lss) (nt (wp_seq ?_)))
  refine c_if (p := ((i : Nat) : Int) < 4) eb (fun hc8 => ?_) (fun hc8 => ?_)
  ·skip
   refine wp_skip (then_n (wp_seq (wp_block (sr (w_val (v := .string (str (Ch.pt aad vi text i))) (y_idxa (m := 4) (F := fun j => .string (str (Ch.pt aad vi text j))) (i := i) (ea af) (ei ad) Tryd.underlying59 ChAT.sc9 ChAT.sz9 om om) (w_as es (nt (wp_region_lit (w_mv (ex (pt m 0) ac) (w_mv es ?_))))))))))
   have ay := hn
   clear hn
   refine w_call (Tryd.func29) kr rfl (m2 (ex (pt m 0)) es) (macWrite_l kind hkd m pi po pn (Ch.upto (Hm.pd kind (key.take n) 54#8) aad vi text i) (Ch.pt aad vi text i) om om om w7 ab hT ay) ?_
   rintro _ w9 ⟨rfl, hn, aj⟩
   refine ⟨_, rfl, ?_⟩
   replace ab := ab.stepG aj om
   replace hk := thenG hk aj om
   replace hT := Sha.Tabs.grown hT aj om om
   replace hi := Sha.At.grown hi aj om
   replace ho := Sha.At.grown ho aj om
   refine wpList_nil (inb_n (then_n (wp_region_lit (w_val (y_bin (ei ad) Ev.c (b_add om)) (w_mv ei (wpList_nil ?_))))))
   exact then_n ⟨_, om, i + 1, rfl, _, rfl, iv, ak, ae, ac, af, ti, ab, hT, hi, ho, hn, hk⟩
  ·skip
   refine wp_exit (then_x (then_x (inb_x (then_n (sr (w_mv (ex (pt m 0) ac) (w_call (Tryd.func30) kr rfl (m1 (ex (pt m 0))) (macSum_l kind hkd m pi po pn (Ch.upto (Hm.pd kind (key.take n) 54#8) aad vi text i) (Hm.pd kind (key.take n) 92#8) om om (by have := Ch.upto_len (Hm.pd kind (key.take n) 54#8) aad vi text i om; rw [Hm.pd_len] at this; omega) (by rw [Hm.pd_len]; omega) om w7 ab hT ho hn) ?_)))))))
   rintro _ a0 ⟨rfl, aa⟩
   refine ⟨_, rfl, ?_⟩
   replace ab := ab.step aa
   replace hk := thenB hk aa
   replace hT := Sha.Tabs.below hT aa
   replace hi := Sha.At.below hi aa
   replace ho := Sha.At.below ho aa
   replace hn := Sha.At.below hn aa
   refine w_mv (ex (.tuple #[.string (str (Sha.sum kind ((Hm.pd kind (key.take n) 92#8) ++ (Sha.sum kind (Ch.upto (Hm.pd kind (key.take n) 54#8) aad vi text i))))), .int .i64 0])) (w_val ye (w_val ye (w_as es (w_as ei (nt (sr (w_mv es (w_mv (ei ae) (w_val (v := .string (str ((Sha.sum kind ((Hm.pd kind (key.take n) 92#8) ++ (Sha.sum kind (Ch.upto (Hm.pd kind (key.take n) 54#8) aad vi text i)))).take n))) (y_sls (ex (.string (str (Sha.sum kind ((Hm.pd kind (key.take n) 92#8) ++ (Sha.sum kind (Ch.upto (Hm.pd kind (key.take n) 54#8) aad vi text i))))))) evo.no (evo.s ei) Tryd.underlying9 (bnd_h (h := n) om (by (try rw [Sha.length_sum, ah]); omega))) (w_as es (nt (wp_ret (fin_ret1 rfl es ?_)))))))))))))
   refine ⟨congrArg Ending.returned ?_, hk⟩
   show (.string (str ((Sha.sum kind ((Hm.pd kind (key.take n) 92#8) ++ (Sha.sum kind (Ch.upto (Hm.pd kind (key.take n) 54#8) aad vi text i)))).take n)) : Value) = .string (str (Ch.tg kind n key vi aad text))
   rw [show i = 4 from by omega]
   exact congrArg (fun l => Value.string (str l)) (Ch.tg_of kind n key vi aad text)
end Go.Proofs.YtepogbfkmflooaaDoor
