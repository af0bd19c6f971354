/-
  Names, fillings, what is wrong. Conditions as each says. Locking. Conditions as each says.
-/
import Derived.Test.YtepogbfkmflooaaDoorRows
import Derived.Test.YtepogbfkmflooaaDoorCbcE
import Derived.Test.YtepogbfkmflooaaDoorRecPlain
import Derived.Test.YtepogbfkmflooaaDoorAesNew
import Derived.Test.YtepogbfkmflooaaDoorGenSh
import Derived.ProofKit
namespace Go.Proofs.YtepogbfkmflooaaDoor
open Go.RowKit
set_option linter.unusedSimpArgs false
set_option linter.unusedVariables false
set_option maxRecDepth 100000
set_option maxHeartbeats 1000000
namespace RecAT
theorem mixed : Tryd.prog.follows .mixedOrders = true := by kernel_rfl
end RecAT
theorem name_256  (w0 : World) : Calls Tryd.prog 19 #[.int .i64 256] w0 fun e w' => e = .returned (.tuple #[.string (str Rc.n256), .int .i64 0]) ∧ Below w0.heap.size w0 w' := by
 refine enter (n := 11) Tryd.func19 rfl rfl rfl ?_
 have hk : Below w0.heap.size w0 w0 := Below.refl _ _
 refine sr (w_as (evc (.string (str ([] : List (BitVec 8))))) (w_as Ev.c (nt (wp_seq (sr (w_mv ei (nt (wp_block (sr (w_val (y_bin ei Ev.c b_eql) (w_as eb (nt (c_tt eb (sr (w_as (evc (.string (str Rc.n256))) (w_as Ev.c (nt (wp_ret (inb_r (then_r (fin_ret2 rfl es ei ?_)))))))))))))))))))))
 exact ⟨rfl, hk⟩

theorem name_384  (w0 : World) : Calls Tryd.prog 19 #[.int .i64 384] w0 fun e w' => e = .returned (.tuple #[.string (str Rc.n384), .int .i64 0]) ∧ Below w0.heap.size w0 w' := by
 refine enter (n := 11) Tryd.func19 rfl rfl rfl ?_
 have hk : Below w0.heap.size w0 w0 := Below.refl _ _
 refine sr (w_as (evc (.string (str ([] : List (BitVec 8))))) (w_as Ev.c (nt (wp_seq (sr (w_mv ei (nt (wp_block (sr (w_val (y_bin ei Ev.c b_eql) (w_as eb (nt (c_ff eb (sr (w_val (y_bin ei Ev.c b_eql) (w_as eb (nt (c_tt eb (sr (w_as (evc (.string (str Rc.n384))) (w_as Ev.c (nt (wp_ret (inb_r (then_r (fin_ret2 rfl es ei ?_))))))))))))))))))))))))))
 exact ⟨rfl, hk⟩

theorem name_512  (w0 : World) : Calls Tryd.prog 19 #[.int .i64 512] w0 fun e w' => e = .returned (.tuple #[.string (str Rc.n512), .int .i64 0]) ∧ Below w0.heap.size w0 w' := by
 refine enter (n := 11) Tryd.func19 rfl rfl rfl ?_
 have hk : Below w0.heap.size w0 w0 := Below.refl _ _
 refine sr (w_as (evc (.string (str ([] : List (BitVec 8))))) (w_as Ev.c (nt (wp_seq (sr (w_mv ei (nt (wp_block (sr (w_val (y_bin ei Ev.c b_eql) (w_as eb (nt (c_ff eb (sr (w_val (y_bin ei Ev.c b_eql) (w_as eb (nt (c_ff eb (sr (w_val (y_bin ei Ev.c b_eql) (w_as eb (nt (c_tt eb (sr (w_as (evc (.string (str Rc.n512))) (w_as Ev.c (nt (wp_ret (inb_r (then_r (fin_ret2 rfl es ei ?_)))))))))))))))))))))))))))))))
 exact ⟨rfl, hk⟩

theorem fill_y (n : Nat) (h3 : 3 ≤ n) (h255 : n ≤ 255) (w0 : World) : Calls Tryd.prog 16 #[.int .i64 ((n : Nat) : Int)] w0 fun e w' => e = .returned (.tuple #[.int .i64 (((Rc.fl n) : Nat) : Int), .int .i64 0]) ∧ Below w0.heap.size w0 w' := by
 have hfl : (n + 4 < 32 ∧ Rc.fl n = 28 - n) ∨ (¬ n + 4 < 32 ∧ Rc.fl n = (16 - (n + 4) % 16) % 16) := by unfold Rc.fl; split <;> omega
 refine enter (n := 20) Tryd.func16 rfl rfl rfl ?_
 have hk : Below w0.heap.size w0 w0 := Below.refl _ _
 refine sr (w_as Ev.c (w_as Ev.c (nt (wp_seq (sr (w_mv ei (w_val (y_bin ei Ev.c b_lss) (w_mv eb ?_))))))))
 have hc1 : ¬ (((n : Nat) : Int) < 3) := by omega
 refine w_val_g (v := .int .i64 ((n : Nat) : Int)) (wy rfl rfl (eb (df hc1))) (y_mv ei) (w_val_g (wy rfl rfl (eb (df hc1))) (y_bin ei Ev.c b_gtr) (w_val (y_pick_f (eb (df hc1)) eb) (nt ?_)))
 have hc2 : ¬ (255 < ((n : Nat) : Int)) := by omega
 refine c_f (p := 255 < ((n : Nat) : Int)) eb hc2 (wp_skip (then_n (wp_seq (sr (w_mv ei (w_val (y_bin ei Ev.c (b_add om)) (w_val (y_bin ei Ev.c b_lss) (nt ?_))))))))
 refine c_if (p := (((n : Nat) : Int) + 4) < 32) eb (fun hc3 => ?_) (fun hc3 => ?_)
 ·skip
  refine sr (w_mv ei (w_val (y_bin Ev.c ei (b_sub om)) (w_as ei (w_as Ev.c (nt (wp_ret (then_r (fin_ret2 rfl ei ei ?_))))))))
  refine ⟨congrArg Ending.returned ?_, hk⟩
  show (.tuple #[.int .i64 (28 - ((n : Nat) : Int)), .int .i64 0] : Value) = .tuple #[.int .i64 (((Rc.fl n) : Nat) : Int), .int .i64 0]
  exact congrArg (fun i : Int => Value.tuple #[.int .i64 i, .int .i64 0]) om
 ·skip
  refine wp_skip (then_n (sr (w_mv ei (w_val (y_bin ei Ev.c (b_add om)) (w_val (y_bin ei Ev.c (b_rem om)) (w_val (y_bin Ev.c ei (b_sub om)) (w_val (y_bin ei Ev.c (b_rem om)) (w_as ei (w_as Ev.c (nt (wp_ret (fin_ret2 rfl ei ei ?_))))))))))))
  refine ⟨congrArg Ending.returned ?_, hk⟩
  show (.tuple #[.int .i64 ((16 - ((((n : Nat) : Int) + 4) % 16)) % 16), .int .i64 0] : Value) = .tuple #[.int .i64 (((Rc.fl n) : Nat) : Int), .int .i64 0]
  exact congrArg (fun i : Int => Value.tuple #[.int .i64 i, .int .i64 0]) om

theorem rcWrong_y (key vi : List (BitVec 8)) (hok : Aes.okKey key.length) (hiv : vi.length = 16) (w0 : World) : Calls Tryd.prog 33 #[.string (str key), .string (str vi)] w0 fun e w' => e = .returned (.int .i64 0) ∧ Below w0.heap.size w0 w' := by
 refine enter (n := 18) Tryd.func33 rfl rfl rfl ?_
 have hk : Below w0.heap.size w0 w0 := Below.refl _ _
 refine sr (w_as Ev.c (nt (wp_seq (sr (w_mv es (w_call (Tryd.func44) kr rfl (m1 es) (new_l key w0 hok) ?_))))))
 rintro _ w1 ⟨p, rfl, hge_p, hc, hb_p⟩
 refine ⟨_, rfl, ?_⟩
 have ge_p : w0.heap.size ≤ p := by have := hk.size; omega
 replace hk := thenB hk hb_p
 refine w_mv (ex (.tuple #[pt p 0, .int .i64 0])) (w_val ye (w_val ye (w_as (ex (pt p 0)) (w_as ei (nt (sr (w_mv ei (w_val (y_bin ei Ev.c b_neq) (nt (c_ff eb (wp_skip (then_n (wp_seq (sr (w_mv es (w_val (y_len es Tryd.underlying9) (w_val (y_bin ei Ev.c b_neq) (nt ?_))))))))))))))))))
 have hc2 : ¬ (((vi.length : Nat) : Int) ≠ 16) := by omega
 refine c_f (p := ((vi.length : Nat) : Int) ≠ 16) eb hc2 (wp_skip (then_n (sr (w_as Ev.c (nt (wp_ret (fin_ret1 rfl ei ?_)))))))
 exact ⟨rfl, hk⟩
end Go.Proofs.YtepogbfkmflooaaDoor
namespace Go.Proofs.YtepogbfkmflooaaDoor
open Go.RowKit
set_option linter.unusedSimpArgs false
set_option linter.unusedVariables false
set_option maxRecDepth 100000
set_option maxHeartbeats 1000000
namespace RecBT
theorem mixed : Tryd.prog.follows .mixedOrders = true := by kernel_rfl
theorem so3 : (Tryd.prog.underlying 3).isSome = true := by rw [Tryd.underlying3]; rfl
end RecBT
theorem chain_y_pre (key vi : List (BitVec 8)) (hok : Aes.okKey key.length) (hiv : vi.length = 16) (t f : List (BitVec 8)) (h3 : 3 ≤ t.length) (h255 : t.length ≤ 255) (hf : f.length = Rc.fl t.length) (w0 : World) : Calls Tryd.prog 34 #[.string (str key), .string (str vi), .string (str ((([BitVec.ofNat 8 t.length, ~~~(gb t 0), ~~~(gb t 1), ~~~(gb t 2)] ++ t) ++ f)))] w0 fun e w' => e = .returned (.tuple #[.string (str (Cb.chain key vi (Rc.pre t f))), .int .i64 0]) ∧ Below w0.heap.size w0 w' := by
  obtain ⟨hp1, hp2, hp3⟩ := Rc.pre_mod t f h3 h255 hf
  exact chain_y key vi hok hiv (Rc.pre t f) hp1 om w0

theorem lock_y (key vi : List (BitVec 8)) (hok : Aes.okKey key.length) (hiv : vi.length = 16) (t f : List (BitVec 8)) (h3 : 3 ≤ t.length) (h255 : t.length ≤ 255) (hf : f.length = Rc.fl t.length) (w0 : World) : Calls Tryd.prog 17 #[.string (str key), .string (str vi), .string (str t), .string (str f)] w0 fun e w' => e = .returned (.tuple #[.string (str (Rc.lock key vi t f)), .int .i64 0]) ∧ Below w0.heap.size w0 w' := by
 obtain ⟨hp1, hp2, hp3⟩ := Rc.pre_mod t f h3 h255 hf
 have hpl := Rc.pre_len t f
 have hcl := Cb.chain_len key vi (Rc.pre t f)
 have hfl : Rc.fl t.length ≤ 28 := by unfold Rc.fl; split <;> omega
 refine enter (n := 68) Tryd.func17 rfl rfl rfl ?_
 have hk : Below w0.heap.size w0 w0 := Below.refl _ _
 refine sr (w_as (evc (.string (str ([] : List (BitVec 8))))) (w_as Ev.c (nt (wp_seq (sr (w_mv es (w_mv es (w_call (Tryd.func33) kr rfl (m2 es es) (rcWrong_y key vi hok hiv w0) ?_))))))))
 rintro _ w1 ⟨rfl, hb2⟩
 refine ⟨_, rfl, ?_⟩
 replace hk := thenB hk hb2
 refine w_as ei (nt (sr (w_mv ei (w_val (y_bin ei Ev.c b_neq) (nt (c_ff eb (wp_skip (then_n (sr (w_mv es (w_val (y_len es Tryd.underlying9) (w_call (Tryd.func16) kr rfl (m1 ei) (fill_y t.length om om w1) ?_))))))))))))
 rintro _ w3 ⟨rfl, hb4⟩
 refine ⟨_, rfl, ?_⟩
 replace hk := thenB hk hb4
 refine w_mv (ex (.tuple #[.int .i64 (((Rc.fl t.length) : Nat) : Int), .int .i64 0])) (w_val ye (w_val ye (w_as ei (w_as ei (nt (wp_seq (sr (w_mv ei (w_val (y_bin ei Ev.c b_neq) (nt (c_ff eb (wp_skip (then_n (wp_seq (sr (w_mv es (w_val (y_len es Tryd.underlying9) (w_mv ei (w_val (y_bin ei ei b_neq) (nt ?_))))))))))))))))))))
 have hc5 : ¬ (((f.length : Nat) : Int) ≠ (((Rc.fl t.length) : Nat) : Int)) := by omega
 refine c_f (p := ((f.length : Nat) : Int) ≠ (((Rc.fl t.length) : Nat) : Int)) eb hc5 (wp_skip (then_n (wp_seq (region_dc (Nat.testBit 0) 26 RecBT.mixed rfl ?_))))
 intro w6 hb7
 replace hk := thenB hk hb7
 have hS : Cls w6 w6 := Below.refl _ _
 refine dp 0 rfl (fun w' => y_mv es) (dp 1 rfl (fun w' => y_mv es) (dp 2 rfl (fun w' => y_mv es) (dp (v := .int .i64 ((t.length : Nat) : Int)) 3 rfl (fun w' => y_len es Tryd.underlying9) (dp (v := U8 (BitVec.ofNat 8 t.length)) 4 rfl (fun w' => y_nat_u8 (p := t.length) ei om RecBT.so3 Tryd.underlying5) (dp 5 rfl (fun w' => y_mv es) (dp (v := U8 (gb t 0)) 6 rfl (fun w' => y_idx (ex (.string (str t))) Ev.c Tryd.underlying9 om om) (dp (v := U8 (~~~(gb t 0))) 7 rfl (fun w' => y_not8 e8) (dp 8 rfl (fun w' => y_mv es) (dp (v := U8 (gb t 1)) 9 rfl (fun w' => y_idx (ex (.string (str t))) Ev.c Tryd.underlying9 om om) (dp (v := U8 (~~~(gb t 1))) 10 rfl (fun w' => y_not8 e8) (dp 11 rfl (fun w' => y_mv es) (dp (v := U8 (gb t 2)) 12 rfl (fun w' => y_idx (ex (.string (str t))) Ev.c Tryd.underlying9 om om) (dp (v := U8 (~~~(gb t 2))) 13 rfl (fun w' => y_not8 e8) (dp 16 rfl (fun w' => y_mv es) (dp 18 rfl (fun w' => y_mv es) (d_one 14 kr rfl (w_bsn (k := 4) (m := 4) (e := 5) (F := fun j => if j < 1 then U8 (BitVec.ofNat 8 t.length) else if j < 2 then U8 (~~~(gb t 0)) else if j < 3 then U8 (~~~(gb t 1)) else U8 (~~~(gb t 2))) (vs := #[(0, U8 (BitVec.ofNat 8 t.length)), (1, U8 (~~~(gb t 0))), (2, U8 (~~~(gb t 1))), (3, U8 (~~~(gb t 2)))]) (mp_cons e8 (mp_cons e8 (mp_cons e8 (mp_cons e8 mp0)))) (fun w => by kernel_rfl) ?_)))))))))))))))))
 intro b_49 w8 hbe_b_49 r_b_49 hb9
 have ge_b_49 := gb_ hk.size hbe_b_49
 clear hbe_b_49
 replace hk := thenB hk hb9
 replace hS := thenB hS hb9
 refine wpList_nil ?_
 refine then_n ⟨fun _ h => thenB h (by assumption), ?_⟩
 refine d_one 15 kr rfl (w_val (y_str (l := [BitVec.ofNat 8 t.length, ~~~(gb t 0), ~~~(gb t 1), ~~~(gb t 2)]) el (by rfl) Tryd.underlying63 Tryd.underlying5 Tryd.underlying9 (fun j hj => (r_b_49.val om (by (rcases (show j = 0 ∨ j = 1 ∨ j = 2 ∨ j = 3 by omega) with rfl | rfl | rfl | rfl <;> rfl))))) (wpList_nil ?_))
 refine then_n ⟨fun _ h => h, ?_⟩
 refine dp (v := .string (str (([BitVec.ofNat 8 t.length, ~~~(gb t 0), ~~~(gb t 1), ~~~(gb t 2)]) ++ t))) 17 rfl (fun w' => y_bin es es (b_cat (by simp only [List.length_append, List.length_cons, List.length_nil, Oct.length_xor]; omega))) (dp (v := .string (str ((([BitVec.ofNat 8 t.length, ~~~(gb t 0), ~~~(gb t 1), ~~~(gb t 2)]) ++ t) ++ f))) 19 rfl (fun w' => y_bin es es (b_cat (by simp only [List.length_append, List.length_cons, List.length_nil, Oct.length_xor]; omega))) (d_one 20 kr rfl (w_call (Tryd.func34) kr rfl (m3 es es es) (chain_y_pre key vi hok hiv t f h3 h255 hf w8) ?_)))
 rintro _ w10 ⟨rfl, hb11⟩
 refine ⟨_, rfl, ?_⟩
 replace r_b_49 := r_b_49.step hb11
 replace hk := thenB hk hb11
 replace hS := thenB hS hb11
 refine wpList_nil ?_
 refine then_n ⟨fun _ h => thenB h (by assumption), ?_⟩
 refine dp 21 rfl (fun w' => y_mv (ex (.tuple #[.string (str (Cb.chain key vi (Rc.pre t f))), .int .i64 0]))) (dp (v := .string (str (Cb.chain key vi (Rc.pre t f)))) 22 rfl (fun w' => y_ext (v := .string (str (Cb.chain key vi (Rc.pre t f)))) (ex (.tuple #[.string (str (Cb.chain key vi (Rc.pre t f))), .int .i64 0])) rfl) (dp (v := .int .i64 0) 23 rfl (fun w' => y_ext (v := .int .i64 0) (ex (.tuple #[.string (str (Cb.chain key vi (Rc.pre t f))), .int .i64 0])) rfl) (dp 24 rfl (fun w' => y_as es) (dp 25 rfl (fun w' => y_as ei) (d_done kr ?_)))))
 clear hS
 refine then_n (sr (w_mv es (w_mv es (w_mv es (w_val (y_len es Tryd.underlying9) (w_val (y_bin ei Ev.c (b_sub om)) (w_val (v := .string (str ((Cb.chain key vi (Rc.pre t f)).drop (((Cb.chain key vi (Rc.pre t f)).length) - 16)))) (y_slf (ex (.string (str (Cb.chain key vi (Rc.pre t f))))) (evo.s ei) Tryd.underlying9 (bnd_l (l := (((Cb.chain key vi (Rc.pre t f)).length) - 16)) om om)) (w_mv es (w_call (Tryd.func34) kr rfl (m3 es es es) (chain_y key (Rc.tail (Cb.chain key vi (Rc.pre t f))) hok (Rc.tail_len _ om) (Cb.chain key vi (Rc.pre t f)) om om w10) ?_)))))))))
 rintro _ w12 ⟨rfl, hb13⟩
 refine ⟨_, rfl, ?_⟩
 replace r_b_49 := r_b_49.step hb13
 replace hk := thenB hk hb13
 refine w_val ye (w_val ye (w_as es (w_as ei (nt (wp_ret (fin_ret2 rfl es ei ?_))))))
 exact ⟨rfl, hk⟩
end Go.Proofs.YtepogbfkmflooaaDoor
