/-
  Unlocking, by the program. Conditions as each says.
-/
import Derived.Test.YtepogbfkmflooaaDoorRows
import Derived.Test.YtepogbfkmflooaaDoorRecB
import Derived.Test.YtepogbfkmflooaaDoorRecPlain
import Derived.Test.YtepogbfkmflooaaDoorGenSh
import Derived.ProofKit
namespace Go.Proofs.YtepogbfkmflooaaDoor
open Go.RowKit
set_option linter.unusedSimpArgs false
set_option linter.unusedVariables false
set_option maxRecDepth 100000
set_option maxHeartbeats 1000000
namespace RecCT
theorem mixed : Tryd.prog.follows .mixedOrders = true := by kernel_rfl
theorem so3 : (Tryd.prog.underlying 3).isSome = true := by rw [Tryd.underlying3]; rfl
theorem so5 : (Tryd.prog.underlying 5).isSome = true := by rw [Tryd.underlying5]; rfl
end RecCT
theorem rcLast (key vi : List (BitVec 8)) (hok : Aes.okKey key.length) (hiv : vi.length = 16) (text : List (BitVec 8)) (n : Nat) (hn : text.length = n + 16) (hm : text.length % 16 = 0) (h32 : 32 ≤ text.length) (h272 : text.length ≤ 272) (w0 : World) : Calls Tryd.prog 35 #[.string (str key), .string (str ((text.drop (n - 16)).take (n - (n - 16)))), .string (str (text.drop n))] w0 fun e w' => e = .returned (.tuple #[.string (str (Rc.lst key text)), .int .i64 0]) ∧ Below w0.heap.size w0 w' := by
  have h := unchain_y key ((text.drop (n - 16)).take (n - (n - 16))) hok (by simp only [List.length_take, List.length_drop]; omega) (text.drop n) (by rw [List.length_drop]; omega) (by rw [List.length_drop]; omega) w0
  rwa [Rc.last_eq key text n hn hm h32] at h
theorem rcInner (key vi : List (BitVec 8)) (hok : Aes.okKey key.length) (hiv : vi.length = 16) (text : List (BitVec 8)) (n : Nat) (hn : text.length = n + 16) (hm : text.length % 16 = 0) (h32 : 32 ≤ text.length) (h272 : text.length ≤ 272) (w0 : World) : Calls Tryd.prog 35 #[.string (str key), .string (str vi), .string (str (Cb.unchain key (Rc.lst key text) (text.take n) ++ Rc.lst key text))] w0 fun e w' => e = .returned (.tuple #[.string (str (Rc.opn key vi text)), .int .i64 0]) ∧ Below w0.heap.size w0 w' := by
  rw [Rc.inner_eq key text n hn hm h32]
  exact unchain_y key vi hok hiv (Cb.unchain key (Rc.lst key text) text) (by rw [Cb.unchain_len]; exact hm) (by rw [Cb.unchain_len]; omega) w0

theorem unlock_y (key vi : List (BitVec 8)) (hok : Aes.okKey key.length) (hiv : vi.length = 16) (text : List (BitVec 8)) (n : Nat) (hn : text.length = n + 16) (hm : text.length % 16 = 0) (h32 : 32 ≤ text.length) (h272 : text.length ≤ 272) (h3 : 3 ≤ Rc.kn (Rc.opn key vi text)) (h255 : Rc.kn (Rc.opn key vi text) ≤ 255) (he : 4 + Rc.kn (Rc.opn key vi text) + Rc.fl (Rc.kn (Rc.opn key vi text)) = text.length) (hb : Oct.xor (Rc.A (Rc.opn key vi text)) (Rc.B (Rc.opn key vi text)) = Rc.ff) (w0 : World) : Calls Tryd.prog 18 #[.string (str key), .string (str vi), .string (str text)] w0 fun e w' => e = .returned (.tuple #[.string (str (((Rc.opn key vi text).drop 4).take (Rc.kn (Rc.opn key vi text)))), .int .i64 0]) ∧ Below w0.heap.size w0 w' := by
 have hll := Rc.lst_len key text h32
 have hol := Rc.opn_len key vi text
 have hul := Cb.unchain_len key (Rc.lst key text) (text.take n)
 have hul2 := Cb.unchain_len key (Rc.lst key text) text
 have hnl : (text.take n).length = n := by rw [List.length_take]; omega
 have hflb := Rc.fl_le (Rc.kn (Rc.opn key vi text))
 refine enter (n := 103) Tryd.func18 rfl rfl rfl ?_
 have hk : Below w0.heap.size w0 w0 := Below.refl _ _
 refine sr (w_as (evc (.string (str ([] : List (BitVec 8))))) (w_as Ev.c (nt (wp_seq (sr (w_mv es (w_mv es (w_call (Tryd.func33) kr rfl (m2 es es) (rcWrong_y key vi hok hiv w0) ?_))))))))
 rintro _ w1 ⟨rfl, hb2⟩
 refine ⟨_, rfl, ?_⟩
 replace hk := thenB hk hb2
 refine w_as ei (nt (sr (w_mv ei (w_val (y_bin ei Ev.c b_neq) (nt (c_ff eb (wp_skip (then_n (wp_seq (sr (w_mv es (w_val (y_len es Tryd.underlying9) (w_val (y_bin ei Ev.c (b_rem om)) (w_val (y_bin ei Ev.c b_neq) (w_mv eb ?_)))))))))))))))
 have hc3 : ¬ ((((text.length : Nat) : Int) % 16) ≠ 0) := by omega
 refine w_val_g (v := .string (str text)) (wy rfl rfl (eb (df hc3))) (y_mv es) (w_val_g (wy rfl rfl (eb (df hc3))) (y_len es Tryd.underlying9) (w_val_g (wy rfl rfl (eb (df hc3))) (y_bin ei Ev.c b_lss) (w_val (y_pick_f (eb (df hc3)) eb) (w_mv eb ?_))))
 have hc4 : ¬ (((text.length : Nat) : Int) < 32) := by omega
 refine w_val_g (v := .string (str text)) (wy rfl rfl (eb (df hc4))) (y_mv es) (w_val_g (wy rfl rfl (eb (df hc4))) (y_len es Tryd.underlying9) (w_val_g (wy rfl rfl (eb (df hc4))) (y_bin ei Ev.c b_gtr) (w_val (y_pick_f (eb (df hc4)) eb) (nt ?_))))
 have hc5 : ¬ (272 < ((text.length : Nat) : Int)) := by omega
 refine c_f (p := 272 < ((text.length : Nat) : Int)) eb hc5 (wp_skip (then_n (sr (w_mv es (w_val (y_len es Tryd.underlying9) (w_val (y_bin ei Ev.c (b_sub om)) (w_as ei (nt (wp_seq (region_dc (Nat.testBit 0) 15 RecCT.mixed rfl ?_))))))))))
 intro w6 hb7
 replace hk := thenB hk hb7
 have hS : Cls w6 w6 := Below.refl _ _
 refine dp 0 rfl (fun w' => y_mv es) (dp 1 rfl (fun w' => y_mv es) (dp 2 rfl (fun w' => y_mv (ex (.int .i64 ((n : Nat) : Int)) (Eq.trans (b := .int .i64 (((text.length : Nat) : Int) - 16)) rfl (by congr 1; omega)))) (dp (v := .int .i64 (((n : Nat) : Int) - 16)) 3 rfl (fun w' => y_bin ei Ev.c (b_sub om)) (dp 4 rfl (fun w' => y_mv (ex (.int .i64 ((n : Nat) : Int)) (Eq.trans (b := .int .i64 (((text.length : Nat) : Int) - 16)) rfl (by congr 1; omega)))) (dp (v := .string (str ((text.drop (n - 16)).take (n - (n - 16))))) 5 rfl (fun w' => y_sls (ex (.string (str text))) (evo.s ei) (evo.s ei) Tryd.underlying9 (bnd_lh (l := (n - 16)) (h := n) om om om om)) (dp 6 rfl (fun w' => y_mv es) (dp 7 rfl (fun w' => y_mv (ex (.int .i64 ((n : Nat) : Int)) (Eq.trans (b := .int .i64 (((text.length : Nat) : Int) - 16)) rfl (by congr 1; omega)))) (dp (v := .string (str (text.drop n))) 8 rfl (fun w' => y_slf (ex (.string (str text))) (evo.s ei) Tryd.underlying9 (bnd_l (l := n) om om)) (d_one 9 kr rfl (w_call (Tryd.func35) kr rfl (m3 es es es) (rcLast key vi hok hiv text n hn hm h32 h272 w6) ?_))))))))))
 rintro _ w8 ⟨rfl, hb9⟩
 refine ⟨_, rfl, ?_⟩
 replace hk := thenB hk hb9
 replace hS := thenB hS hb9
 refine wpList_nil ?_
 refine then_n ⟨fun _ h => thenB h (by assumption), ?_⟩
 refine dp 10 rfl (fun w' => y_mv (ex (.tuple #[.string (str (Rc.lst key text)), .int .i64 0]))) (dp (v := .string (str (Rc.lst key text))) 11 rfl (fun w' => y_ext (v := .string (str (Rc.lst key text))) (ex (.tuple #[.string (str (Rc.lst key text)), .int .i64 0])) rfl) (dp (v := .int .i64 0) 12 rfl (fun w' => y_ext (v := .int .i64 0) (ex (.tuple #[.string (str (Rc.lst key text)), .int .i64 0])) rfl) (dp 13 rfl (fun w' => y_as es) (dp 14 rfl (fun w' => y_as ei) (d_done kr ?_)))))
 clear hS
 refine then_n (sr (w_mv es (w_mv es (w_mv es (w_mv (ex (.int .i64 ((n : Nat) : Int)) (Eq.trans (b := .int .i64 (((text.length : Nat) : Int) - 16)) rfl (by congr 1; omega))) (w_val (v := .string (str (text.take n))) (y_sls (ex (.string (str text))) evo.no (evo.s ei) Tryd.underlying9 (bnd_h (h := n) om om)) (w_call (Tryd.func35) kr rfl (m3 es es es) (unchain_y key (Rc.lst key text) hok hll (text.take n) (by rw [List.length_take]; omega) (by rw [List.length_take]; omega) w8) ?_)))))))
 rintro _ w10 ⟨rfl, hb11⟩
 refine ⟨_, rfl, ?_⟩
 replace hk := thenB hk hb11
 refine w_mv (ex (.tuple #[.string (str (Cb.unchain key (Rc.lst key text) (text.take n))), .int .i64 0])) (w_val ye (w_val ye (w_as es (w_as ei (nt (sr (w_mv es (w_mv es (w_mv es (w_mv es (w_val (y_bin es es (b_cat (by rw [hul, hnl]; omega))) (w_call (Tryd.func35) kr rfl (m3 es es es) (rcInner key vi hok hiv text n hn hm h32 h272 w10) ?_))))))))))))
 rintro _ w12 ⟨rfl, hb13⟩
 refine ⟨_, rfl, ?_⟩
 replace hk := thenB hk hb13
 refine w_mv (ex (.tuple #[.string (str (Rc.opn key vi text)), .int .i64 0])) (w_val ye (w_val ye (w_as es (w_as ei (nt (sr (w_mv es (w_val (v := U8 (gb (Rc.opn key vi text) 0)) (y_idx (ex (.string (str (Rc.opn key vi text)))) Ev.c Tryd.underlying9 om om) (w_val (v := .int .i64 (((gb (Rc.opn key vi text) 0).toNat : Nat) : Int)) (y_u8_i64 e8 RecCT.so5 Tryd.underlying3 (by have := (gb (Rc.opn key vi text) 0).isLt; omega)) (w_as ei (nt (sr (w_mv (ex (.int .i64 (((Rc.kn (Rc.opn key vi text)) : Nat) : Int)) (Eq.trans (b := .int .i64 (((gb (Rc.opn key vi text) 0).toNat : Nat) : Int)) rfl (by rfl))) (w_call (Tryd.func16) kr rfl (m1 ei) (fill_y (Rc.kn (Rc.opn key vi text)) om om w12) ?_))))))))))))))
 rintro _ w14 ⟨rfl, hb15⟩
 refine ⟨_, rfl, ?_⟩
 replace hk := thenB hk hb15
 refine w_mv (ex (.tuple #[.int .i64 (((Rc.fl (Rc.kn (Rc.opn key vi text))) : Nat) : Int), .int .i64 0])) (w_val ye (w_val ye (w_as ei (w_as ei (nt (wp_seq (sr (w_mv ei (w_val (y_bin ei Ev.c b_neq) (w_mv eb (w_val_g (v := .int .i64 (((Rc.kn (Rc.opn key vi text)) : Nat) : Int)) (wy rfl rfl eb) (y_mv (ex (.int .i64 (((Rc.kn (Rc.opn key vi text)) : Nat) : Int)) (Eq.trans (b := .int .i64 (((gb (Rc.opn key vi text) 0).toNat : Nat) : Int)) rfl (by rfl)))) (w_val_g (wy rfl rfl eb) (y_bin Ev.c ei (b_add om)) (w_val_g (v := .int .i64 (((Rc.fl (Rc.kn (Rc.opn key vi text))) : Nat) : Int)) (wy rfl rfl eb) (y_mv ei) (w_val_g (wy rfl rfl eb) (y_bin ei ei (b_add om)) (w_val_g (v := .string (str (Rc.opn key vi text))) (wy rfl rfl eb) (y_mv es) (w_val_g (wy rfl rfl eb) (y_len es Tryd.underlying9) (w_val_g (wy rfl rfl eb) (y_bin ei ei b_neq) (w_val (y_pick_f eb eb) (nt ?_)))))))))))))))))))
 have hc16 : ¬ (((4 + (((Rc.kn (Rc.opn key vi text)) : Nat) : Int)) + (((Rc.fl (Rc.kn (Rc.opn key vi text))) : Nat) : Int)) ≠ (((Rc.opn key vi text).length : Nat) : Int)) := by omega
 refine c_f (p := ((4 + (((Rc.kn (Rc.opn key vi text)) : Nat) : Int)) + (((Rc.fl (Rc.kn (Rc.opn key vi text))) : Nat) : Int)) ≠ (((Rc.opn key vi text).length : Nat) : Int)) eb hc16 (wp_skip (then_n (ss (region_q RecCT.mixed kr (q_mv es (q_val (v := .string (str (((Rc.opn key vi text).drop 1).take 3))) (fun w' hw' => y_sls (ex (.string (str (Rc.opn key vi text)))) (evo.s Ev.c) (evo.s Ev.c) Tryd.underlying9 (bnd_lh (l := 1) (h := 4) om om om om)) (q_mv es (q_val (v := .string (str (((Rc.opn key vi text).drop 4).take 3))) (fun w' hw' => y_sls (ex (.string (str (Rc.opn key vi text)))) (evo.s Ev.c) (evo.s Ev.c) Tryd.underlying9 (bnd_lh (l := 4) (h := 7) om om om om)) (q_call (v := .string (str (Oct.xor (((Rc.opn key vi text).drop 1).take 3) (((Rc.opn key vi text).drop 4).take 3)))) (Tryd.func36) kr rfl (m2 es es) (fun w' hw' => xor_c (((Rc.opn key vi text).drop 1).take 3) (((Rc.opn key vi text).drop 4).take 3) (by (try simp only [Cb.dec_len, List.length_take, List.length_drop]); omega) w') (q_call (v := .bool (decide ((Oct.xor (((Rc.opn key vi text).drop 1).take 3) (((Rc.opn key vi text).drop 4).take 3)) = Rc.ff))) (Tryd.func14) kr rfl (m2 es (evc (.string (str Rc.ff)))) (fun w' hw' => same_c (Oct.xor (((Rc.opn key vi text).drop 1).take 3) (((Rc.opn key vi text).drop 4).take 3)) Rc.ff (by rw [Oct.length_xor]; simp only [List.length_take, List.length_drop]; omega) w') (q_val (fun w' hw' => y_notp eb) (q_nil ?_))))))))))))
 intro w17 hb18
 replace hk := thenB hk hb18
 refine then_n ?_
 have hc19 : ¬ (¬ ((Oct.xor (((Rc.opn key vi text).drop 1).take 3) (((Rc.opn key vi text).drop 4).take 3)) = Rc.ff)) := by exact fun h => h hb
 refine c_f (p := ¬ ((Oct.xor (((Rc.opn key vi text).drop 1).take 3) (((Rc.opn key vi text).drop 4).take 3)) = Rc.ff)) eb hc19 (wp_skip (then_n (sr (w_mv es (w_mv (ex (.int .i64 (((Rc.kn (Rc.opn key vi text)) : Nat) : Int)) (Eq.trans (b := .int .i64 (((gb (Rc.opn key vi text) 0).toNat : Nat) : Int)) rfl (by rfl))) (w_val (y_bin Ev.c ei (b_add om)) (w_val (v := .string (str (((Rc.opn key vi text).drop 4).take ((4 + (Rc.kn (Rc.opn key vi text))) - 4)))) (y_sls (ex (.string (str (Rc.opn key vi text)))) (evo.s Ev.c) (evo.s ei) Tryd.underlying9 (bnd_lh (l := 4) (h := (4 + (Rc.kn (Rc.opn key vi text)))) om om om om)) (w_as es (w_as Ev.c (nt (wp_ret (fin_ret2 rfl es ei ?_))))))))))))
 refine ⟨congrArg Ending.returned ?_, hk⟩
 show (.tuple #[.string (str (((Rc.opn key vi text).drop 4).take ((4 + (Rc.kn (Rc.opn key vi text))) - 4))), .int .i64 0] : Value) = .tuple #[.string (str (((Rc.opn key vi text).drop 4).take (Rc.kn (Rc.opn key vi text)))), .int .i64 0]
 exact congrArg (fun m => Value.tuple #[.string (str (List.take m (List.drop 4 (Rc.opn key vi text)))), .int .i64 0]) (Nat.add_sub_cancel_left ..)
end Go.Proofs.YtepogbfkmflooaaDoor
