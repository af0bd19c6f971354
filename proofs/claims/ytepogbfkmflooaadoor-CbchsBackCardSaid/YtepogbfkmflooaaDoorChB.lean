/-
  Sealing and opening, by the program. Conditions as each says.
-/
import Derived.Test.YtepogbfkmflooaaDoorRows
import Derived.Test.YtepogbfkmflooaaDoorChA
import Derived.Test.YtepogbfkmflooaaDoorGenSh
import Derived.ProofKit
namespace Go.Proofs.YtepogbfkmflooaaDoor
open Go.RowKit
set_option linter.unusedSimpArgs false
set_option linter.unusedVariables false
set_option maxRecDepth 100000
set_option maxHeartbeats 1000000
namespace ChBT
theorem mixed : Tryd.prog.follows .mixedOrders = true := by kernel_rfl
theorem sc9 : (Tryd.prog.underlying 9).map scal = some true := by rw [Tryd.underlying9]; rfl
theorem so3 : (Tryd.prog.underlying 3).isSome = true := by rw [Tryd.underlying3]; rfl
theorem sz9 : (Tryd.prog.info? 9).map (·.size) = some 1 := by kernel_rfl
end ChBT
theorem chSeal_k (key vi aad : List (BitVec 8)) (hk_ : ¬ (key.length = 32 ∨ key.length = 48 ∨ key.length = 64)) (text : List (BitVec 8)) (w0 : World) : Calls Tryd.prog 6 #[.string (str key), .string (str vi), .string (str aad), .string (str text)] w0 fun e w' => e = .returned (.tuple #[.string (str ([] : List (BitVec 8))), .int .i64 3]) ∧ Below w0.heap.size w0 w' := by
 refine enter (n := 41) Tryd.func6 rfl rfl rfl ?_
 have hk : Below w0.heap.size w0 w0 := Below.refl _ _
 refine sr (w_as (evc (.string (str ([] : List (BitVec 8))))) (w_as Ev.c (nt (wp_seq (sr (w_mv es (w_mv es (w_mv es (w_call (Tryd.func11) kr rfl (m3 es es es) (chWrong_k key vi aad hk_ w0) ?_)))))))))
 rintro _ w1 ⟨rfl, aa⟩
 refine ⟨_, rfl, ?_⟩
 replace hk := thenB hk aa
 refine w_as ei (nt (sr (w_mv ei (w_val (y_bin ei Ev.c b_neq) (nt (c_tt eb (sr (w_mv ei (w_as (evc (.string (str ([] : List (BitVec 8))))) (w_as ei (nt (wp_ret (then_r (fin_ret2 rfl es ei ?_))))))))))))))
 exact ⟨rfl, hk⟩

theorem chSeal_i (key vi aad : List (BitVec 8)) (n kind : Nat) (hkd : Sha.Known kind) (hkn : kind = 16 * n) (hkl : key.length = 2 * n) (hiv : vi.length ≠ 16) (text : List (BitVec 8)) (w0 : World) : Calls Tryd.prog 6 #[.string (str key), .string (str vi), .string (str aad), .string (str text)] w0 fun e w' => e = .returned (.tuple #[.string (str ([] : List (BitVec 8))), .int .i64 4]) ∧ Below w0.heap.size w0 w' := by
 refine enter (n := 41) Tryd.func6 rfl rfl rfl ?_
 have hk : Below w0.heap.size w0 w0 := Below.refl _ _
 refine sr (w_as (evc (.string (str ([] : List (BitVec 8))))) (w_as Ev.c (nt (wp_seq (sr (w_mv es (w_mv es (w_mv es (w_call (Tryd.func11) kr rfl (m3 es es es) (chWrong_i key vi aad n kind hkd hkn hkl hiv w0) ?_)))))))))
 rintro _ w1 ⟨rfl, aa⟩
 refine ⟨_, rfl, ?_⟩
 replace hk := thenB hk aa
 refine w_as ei (nt (sr (w_mv ei (w_val (y_bin ei Ev.c b_neq) (nt (c_tt eb (sr (w_mv ei (w_as (evc (.string (str ([] : List (BitVec 8))))) (w_as ei (nt (wp_ret (then_r (fin_ret2 rfl es ei ?_))))))))))))))
 exact ⟨rfl, hk⟩

theorem chSeal_a (key vi aad : List (BitVec 8)) (n kind : Nat) (hkd : Sha.Known kind) (hkn : kind = 16 * n) (hkl : key.length = 2 * n) (hiv : vi.length = 16) (ha : 70000 < aad.length) (text : List (BitVec 8)) (w0 : World) : Calls Tryd.prog 6 #[.string (str key), .string (str vi), .string (str aad), .string (str text)] w0 fun e w' => e = .returned (.tuple #[.string (str ([] : List (BitVec 8))), .int .i64 6]) ∧ Below w0.heap.size w0 w' := by
 refine enter (n := 41) Tryd.func6 rfl rfl rfl ?_
 have hk : Below w0.heap.size w0 w0 := Below.refl _ _
 refine sr (w_as (evc (.string (str ([] : List (BitVec 8))))) (w_as Ev.c (nt (wp_seq (sr (w_mv es (w_mv es (w_mv es (w_call (Tryd.func11) kr rfl (m3 es es es) (chWrong_a key vi aad n kind hkd hkn hkl hiv ha w0) ?_)))))))))
 rintro _ w1 ⟨rfl, aa⟩
 refine ⟨_, rfl, ?_⟩
 replace hk := thenB hk aa
 refine w_as ei (nt (sr (w_mv ei (w_val (y_bin ei Ev.c b_neq) (nt (c_tt eb (sr (w_mv ei (w_as (evc (.string (str ([] : List (BitVec 8))))) (w_as ei (nt (wp_ret (then_r (fin_ret2 rfl es ei ?_))))))))))))))
 exact ⟨rfl, hk⟩

theorem chSeal_z (key vi aad : List (BitVec 8)) (n kind : Nat) (hkd : Sha.Known kind) (hkn : kind = 16 * n) (hkl : key.length = 2 * n) (hiv : vi.length = 16) (ha : aad.length ≤ 70000) (text : List (BitVec 8)) (hl : text.length ≤ 140737488351232) (ht : 70000 < text.length) (w0 : World) : Calls Tryd.prog 6 #[.string (str key), .string (str vi), .string (str aad), .string (str text)] w0 fun e w' => e = .returned (.tuple #[.string (str ([] : List (BitVec 8))), .int .i64 6]) ∧ Below w0.heap.size w0 w' := by
 have aa : kind = 256 ∨ kind = 384 ∨ kind = 512 := hkd
 have ae := Ch.n_cases kind n hkd hkn
 have ad := Ch.key_ok kind n key hkd hkn hkl
 refine enter (n := 41) Tryd.func6 rfl rfl rfl ?_
 have hk : Below w0.heap.size w0 w0 := Below.refl _ _
 refine sr (w_as (evc (.string (str ([] : List (BitVec 8))))) (w_as Ev.c (nt (wp_seq (sr (w_mv es (w_mv es (w_mv es (w_call (Tryd.func11) kr rfl (m3 es es es) (chWrong_y key vi aad n kind hkd hkn hkl hiv ha w0) ?_)))))))))
 rintro _ w1 ⟨rfl, ac⟩
 refine ⟨_, rfl, ?_⟩
 replace hk := thenB hk ac
 refine w_as ei (nt (sr (w_mv ei (w_val (y_bin ei Ev.c b_neq) (nt (c_ff eb (wp_skip (then_n (sr (w_mv es (w_mv es (w_val (y_len es Tryd.underlying9) (w_val (y_bin ei Ev.c (b_quo om)) (w_val (v := .string (str (key.drop n))) (y_slf (ex (.string (str key))) (evo.s (ex (.int .i64 ((n : Nat) : Int)) (Eq.trans (b := .int .i64 (((key.length : Nat) : Int) / 2)) rfl (by congr 1; omega)))) Tryd.underlying9 (bnd_l (l := n) om om)) (w_mv es (w_mv es (w_call (Tryd.func12) kr rfl (m3 es es es) (seal_z (key.drop n) vi ad hiv text ht w1) ?_)))))))))))))))))
 rintro _ w3 ⟨rfl, ab⟩
 refine ⟨_, rfl, ?_⟩
 replace hk := thenB hk ab
 refine w_mv (ex (.tuple #[.string (str ([] : List (BitVec 8))), .int .i64 6])) (w_val ye (w_val ye (w_as es (w_as ei (nt (wp_seq (sr (w_mv ei (w_val (y_bin ei Ev.c b_neq) (nt (c_tt eb (sr (w_mv ei (w_as (evc (.string (str ([] : List (BitVec 8))))) (w_as ei (nt (wp_ret (then_r (fin_ret2 rfl es ei ?_)))))))))))))))))))
 exact ⟨rfl, hk⟩

theorem chSeal_y (key vi aad : List (BitVec 8)) (n kind : Nat) (hkd : Sha.Known kind) (hkn : kind = 16 * n) (hkl : key.length = 2 * n) (hiv : vi.length = 16) (ha : aad.length ≤ 70000) (text : List (BitVec 8)) (hl : text.length ≤ 140737488351232) (ht : text.length ≤ 70000) (w0 : World) (hT : Sha.Tabs w0) : Calls Tryd.prog 6 #[.string (str key), .string (str vi), .string (str aad), .string (str text)] w0 fun e w' => e = .returned (.tuple #[.string (str (Ch.sealed kind n key vi aad text)), .int .i64 0]) ∧ Below w0.heap.size w0 w' := by
 have ad : kind = 256 ∨ kind = 384 ∨ kind = 512 := hkd
 have af := Ch.n_cases kind n hkd hkn
 have ae := Ch.key_ok kind n key hkd hkn hkl
 have ag := hT.lt
 have ah := Cb.pn_le text.length 16
 have ai := Ch.cc_len n key vi text
 refine enter (n := 41) Tryd.func6 rfl rfl rfl ?_
 have hk : Below w0.heap.size w0 w0 := Below.refl _ _
 refine sr (w_as (evc (.string (str ([] : List (BitVec 8))))) (w_as Ev.c (nt (wp_seq (sr (w_mv es (w_mv es (w_mv es (w_call (Tryd.func11) kr rfl (m3 es es es) (chWrong_y key vi aad n kind hkd hkn hkl hiv ha w0) ?_)))))))))
 rintro _ w1 ⟨rfl, ac⟩
 refine ⟨_, rfl, ?_⟩
 replace hk := thenB hk ac
 replace hT := Sha.Tabs.below hT ac
 refine w_as ei (nt (sr (w_mv ei (w_val (y_bin ei Ev.c b_neq) (nt (c_ff eb (wp_skip (then_n (sr (w_mv es (w_mv es (w_val (y_len es Tryd.underlying9) (w_val (y_bin ei Ev.c (b_quo om)) (w_val (v := .string (str (key.drop n))) (y_slf (ex (.string (str key))) (evo.s (ex (.int .i64 ((n : Nat) : Int)) (Eq.trans (b := .int .i64 (((key.length : Nat) : Int) / 2)) rfl (by congr 1; omega)))) Tryd.underlying9 (bnd_l (l := n) om om)) (w_mv es (w_mv es (w_call (Tryd.func12) kr rfl (m3 es es es) (seal_y (key.drop n) vi ae hiv text ht w1) ?_)))))))))))))))))
 rintro _ w3 ⟨rfl, ab⟩
 refine ⟨_, rfl, ?_⟩
 replace hk := thenB hk ab
 replace hT := Sha.Tabs.below hT ab
 refine w_mv (ex (.tuple #[.string (str (Ch.cc n key vi text)), .int .i64 0])) (w_val ye (w_val ye (w_as es (w_as ei (nt (wp_seq (sr (w_mv ei (w_val (y_bin ei Ev.c b_neq) (nt (c_ff eb (wp_skip (then_n (sr (w_mv es (w_mv es (w_mv es (w_mv es (w_mv es (w_call (Tryd.func13) kr rfl (m4 es es es es) (chTagged key vi aad n kind hkd hkn hkl hiv ha (Ch.cc n key vi text) om w3 hT) ?_))))))))))))))))))))
 rintro _ w5 ⟨rfl, aa⟩
 refine ⟨_, rfl, ?_⟩
 replace hk := thenB hk aa
 replace hT := Sha.Tabs.below hT aa
 refine w_val (y_bin es es (b_cat (by simp only [Ch.cc_len, Ch.tg_len kind n key vi aad _ hkd hkn]; omega))) (w_as es (w_as Ev.c (nt (wp_ret (fin_ret2 rfl es ei ?_)))))
 refine ⟨congrArg Ending.returned ?_, hk⟩
 show (.tuple #[.string (str ((Ch.cc n key vi text) ++ (Ch.tg kind n key vi aad (Ch.cc n key vi text)))), .int .i64 0] : Value) = .tuple #[.string (str (Ch.sealed kind n key vi aad text)), .int .i64 0]
 rfl

theorem opAt_p (key vi c : List (BitVec 8)) (n kind : Nat) (hkd : Sha.Known kind) (hkn : kind = 16 * n) (hkl : key.length = 2 * n) (hiv : vi.length = 16) (hc : c.length % 16 = 0) (hl : c.length ≤ 70016) (h0 : 0 < c.length) (hp : Cb.Padded (Ch.un n key vi c) 16) (w : World) : Calls Tryd.prog 15 #[.string (str (key.drop (key.length / 2))), .string (str vi), .string (str c)] w fun e w' => e = .returned (.tuple #[.string (str (Ch.op n key vi c)), .int .i64 0]) ∧ Below w.heap.size w w' := by
  rw [show key.length / 2 = n from by omega]
  exact open_p (key.drop n) vi (Ch.key_ok kind n key hkd hkn hkl) hiv c hc hl h0 hp w

theorem chOpen_b (key vi aad : List (BitVec 8)) (n kind : Nat) (hkd : Sha.Known kind) (hkn : kind = 16 * n) (hkl : key.length = 2 * n) (hiv : vi.length = 16) (ha : aad.length ≤ 70000) (text : List (BitVec 8)) (hl : text.length ≤ 140737488351232) (m : Nat) (hm : text.length = m + n) (h16 : 16 ≤ m) (hm16 : m % 16 = 0) (hz : m ≤ 70016) (hb : ¬ Ch.tg kind n key vi aad (text.take m) = text.drop m) (w0 : World) (hT : Sha.Tabs w0) : Calls Tryd.prog 7 #[.string (str key), .string (str vi), .string (str aad), .string (str text)] w0 fun e w' => e = .returned (.tuple #[.string (str ([] : List (BitVec 8))), .int .i64 8]) ∧ Below w0.heap.size w0 w' := by
 have ai : kind = 256 ∨ kind = 384 ∨ kind = 512 := hkd
 have am := Ch.n_cases kind n hkd hkn
 have al := Ch.key_ok kind n key hkd hkn hkl
 have ak := hT.lt
 refine enter (n := 66) Tryd.func7 rfl rfl rfl ?_
 have hk : Below w0.heap.size w0 w0 := Below.refl _ _
 refine sr (w_as (evc (.string (str ([] : List (BitVec 8))))) (w_as Ev.c (nt (wp_seq (sr (w_mv es (w_mv es (w_mv es (w_call (Tryd.func11) kr rfl (m3 es es es) (chWrong_y key vi aad n kind hkd hkn hkl hiv ha w0) ?_)))))))))
 rintro _ w1 ⟨rfl, ag⟩
 refine ⟨_, rfl, ?_⟩
 replace hk := thenB hk ag
 replace hT := Sha.Tabs.below hT ag
 refine w_as ei (nt (sr (w_mv ei (w_val (y_bin ei Ev.c b_neq) (nt (c_ff eb (wp_skip (then_n (sr (w_mv es (w_val (y_len es Tryd.underlying9) (w_mv es (w_val (y_len es Tryd.underlying9) (w_val (y_bin ei Ev.c (b_quo om)) (w_val (y_bin ei ei (b_sub om)) (w_as ei (nt (wp_seq (sr (w_mv (ex (.int .i64 ((m : Nat) : Int)) (Eq.trans (b := .int .i64 (((text.length : Nat) : Int) - (((key.length : Nat) : Int) / 2))) rfl (by congr 1; omega))) (w_val (y_bin ei Ev.c b_lss) (w_mv eb ?_))))))))))))))))))))))
 have ab : ¬ (((m : Nat) : Int) < 16) := by omega
 refine w_val_g (v := .int .i64 ((m : Nat) : Int)) (wy rfl rfl (eb (df ab))) (y_mv (ex (.int .i64 ((m : Nat) : Int)) (Eq.trans (b := .int .i64 (((text.length : Nat) : Int) - (((key.length : Nat) : Int) / 2))) rfl (by congr 1; omega)))) (w_val_g (wy rfl rfl (eb (df ab))) (y_bin ei Ev.c (b_rem om)) (w_val_g (wy rfl rfl (eb (df ab))) (y_bin ei Ev.c b_neq) (w_val (y_pick_f (eb (df ab)) eb) (w_mv eb ?_))))
 have ac : ¬ ((((m : Nat) : Int) % 16) ≠ 0) := by omega
 refine w_val_g (v := .int .i64 ((m : Nat) : Int)) (wy rfl rfl (eb (df ac))) (y_mv (ex (.int .i64 ((m : Nat) : Int)) (Eq.trans (b := .int .i64 (((text.length : Nat) : Int) - (((key.length : Nat) : Int) / 2))) rfl (by congr 1; omega)))) (w_val_g (wy rfl rfl (eb (df ac))) (y_bin ei Ev.c b_gtr) (w_val (y_pick_f (eb (df ac)) eb) (nt ?_)))
 have ah : ¬ (70016 < ((m : Nat) : Int)) := by omega
 refine c_f (p := 70016 < ((m : Nat) : Int)) eb ah (wp_skip (then_n (ss (region_dc (Nat.testBit 0) 12 ChBT.mixed rfl ?_))))
 intro w6 af
 replace hk := thenB hk af
 replace hT := Sha.Tabs.below hT af
 have hS : Cls w6 w6 := Below.refl _ _
 refine dp 0 rfl (fun w' => y_mv es) (dp 1 rfl (fun w' => y_mv es) (dp 2 rfl (fun w' => y_mv es) (dp 3 rfl (fun w' => y_mv es) (dp 4 rfl (fun w' => y_mv (ex (.int .i64 ((m : Nat) : Int)) (Eq.trans (b := .int .i64 (((text.length : Nat) : Int) - (((key.length : Nat) : Int) / 2))) rfl (by congr 1; omega)))) (dp (v := .string (str (text.take m))) 5 rfl (fun w' => y_sls (ex (.string (str text))) evo.no (evo.s ei) Tryd.underlying9 (bnd_h (h := m) om om)) (dp 7 rfl (fun w' => y_mv es) (dp 8 rfl (fun w' => y_mv (ex (.int .i64 ((m : Nat) : Int)) (Eq.trans (b := .int .i64 (((text.length : Nat) : Int) - (((key.length : Nat) : Int) / 2))) rfl (by congr 1; omega)))) (dp (v := .string (str (text.drop m))) 9 rfl (fun w' => y_slf (ex (.string (str text))) (evo.s ei) Tryd.underlying9 (bnd_l (l := m) om om)) (d_one 6 kr rfl (w_call (Tryd.func13) kr rfl (m4 es es es es) (chTagged key vi aad n kind hkd hkn hkl hiv ha (text.take m) (by (rw [List.length_take]; omega)) w6 hT) ?_))))))))))
 rintro _ w8 ⟨rfl, ae⟩
 refine ⟨_, rfl, ?_⟩
 replace hk := thenB hk ae
 replace hT := Sha.Tabs.below hT ae
 replace hS := thenB hS ae
 refine wpList_nil ?_
 refine then_n ⟨fun _ h => thenB h (by assumption), ?_⟩
 refine d_one 10 kr rfl (w_call (Tryd.func14) kr rfl (m2 es es) (same_c (Ch.tg kind n key vi aad (text.take m)) (text.drop m) (by rw [Ch.tg_len kind n key vi aad _ hkd hkn]; omega) w8) ?_)
 rintro _ aj ⟨rfl, aa⟩
 refine ⟨_, rfl, ?_⟩
 replace hk := thenB hk aa
 replace hT := Sha.Tabs.below hT aa
 replace hS := thenB hS aa
 refine wpList_nil ?_
 refine then_n ⟨fun _ h => thenB h (by assumption), ?_⟩
 refine dp (v := .bool (decide (¬ ((Ch.tg kind n key vi aad (text.take m)) = (text.drop m))))) 11 rfl (fun w' => y_notp eb) (d_done kr ?_)
 clear hS
 refine then_n ?_
 have ad : ¬ ((Ch.tg kind n key vi aad (text.take m)) = (text.drop m)) := by exact hb
 refine c_t (p := ¬ ((Ch.tg kind n key vi aad (text.take m)) = (text.drop m))) eb ad (sr (w_as (evc (.string (str ([] : List (BitVec 8))))) (w_as Ev.c (nt (wp_ret (then_r (fin_ret2 rfl es ei ?_)))))))
 exact ⟨rfl, hk⟩

theorem chOpen_y (key vi aad : List (BitVec 8)) (n kind : Nat) (hkd : Sha.Known kind) (hkn : kind = 16 * n) (hkl : key.length = 2 * n) (hiv : vi.length = 16) (ha : aad.length ≤ 70000) (text : List (BitVec 8)) (hl : text.length ≤ 140737488351232) (m : Nat) (hm : text.length = m + n) (h16 : 16 ≤ m) (hm16 : m % 16 = 0) (hz : m ≤ 70016) (hb : Ch.tg kind n key vi aad (text.take m) = text.drop m) (hp : Cb.Padded (Ch.un n key vi (text.take m)) 16) (w0 : World) (hT : Sha.Tabs w0) : Calls Tryd.prog 7 #[.string (str key), .string (str vi), .string (str aad), .string (str text)] w0 fun e w' => e = .returned (.tuple #[.string (str (Ch.op n key vi (text.take m))), .int .i64 0]) ∧ Below w0.heap.size w0 w' := by
 have aj : kind = 256 ∨ kind = 384 ∨ kind = 512 := hkd
 have ao := Ch.n_cases kind n hkd hkn
 have an := Ch.key_ok kind n key hkd hkn hkl
 have am := hT.lt
 refine enter (n := 66) Tryd.func7 rfl rfl rfl ?_
 have hk : Below w0.heap.size w0 w0 := Below.refl _ _
 refine sr (w_as (evc (.string (str ([] : List (BitVec 8))))) (w_as Ev.c (nt (wp_seq (sr (w_mv es (w_mv es (w_mv es (w_call (Tryd.func11) kr rfl (m3 es es es) (chWrong_y key vi aad n kind hkd hkn hkl hiv ha w0) ?_)))))))))
 rintro _ w1 ⟨rfl, ah⟩
 refine ⟨_, rfl, ?_⟩
 replace hk := thenB hk ah
 replace hT := Sha.Tabs.below hT ah
 refine w_as ei (nt (sr (w_mv ei (w_val (y_bin ei Ev.c b_neq) (nt (c_ff eb (wp_skip (then_n (sr (w_mv es (w_val (y_len es Tryd.underlying9) (w_mv es (w_val (y_len es Tryd.underlying9) (w_val (y_bin ei Ev.c (b_quo om)) (w_val (y_bin ei ei (b_sub om)) (w_as ei (nt (wp_seq (sr (w_mv (ex (.int .i64 ((m : Nat) : Int)) (Eq.trans (b := .int .i64 (((text.length : Nat) : Int) - (((key.length : Nat) : Int) / 2))) rfl (by congr 1; omega))) (w_val (y_bin ei Ev.c b_lss) (w_mv eb ?_))))))))))))))))))))))
 have ac : ¬ (((m : Nat) : Int) < 16) := by omega
 refine w_val_g (v := .int .i64 ((m : Nat) : Int)) (wy rfl rfl (eb (df ac))) (y_mv (ex (.int .i64 ((m : Nat) : Int)) (Eq.trans (b := .int .i64 (((text.length : Nat) : Int) - (((key.length : Nat) : Int) / 2))) rfl (by congr 1; omega)))) (w_val_g (wy rfl rfl (eb (df ac))) (y_bin ei Ev.c (b_rem om)) (w_val_g (wy rfl rfl (eb (df ac))) (y_bin ei Ev.c b_neq) (w_val (y_pick_f (eb (df ac)) eb) (w_mv eb ?_))))
 have ad : ¬ ((((m : Nat) : Int) % 16) ≠ 0) := by omega
 refine w_val_g (v := .int .i64 ((m : Nat) : Int)) (wy rfl rfl (eb (df ad))) (y_mv (ex (.int .i64 ((m : Nat) : Int)) (Eq.trans (b := .int .i64 (((text.length : Nat) : Int) - (((key.length : Nat) : Int) / 2))) rfl (by congr 1; omega)))) (w_val_g (wy rfl rfl (eb (df ad))) (y_bin ei Ev.c b_gtr) (w_val (y_pick_f (eb (df ad)) eb) (nt ?_)))
 have ai : ¬ (70016 < ((m : Nat) : Int)) := by omega
 refine c_f (p := 70016 < ((m : Nat) : Int)) eb ai (wp_skip (then_n (ss (region_dc (Nat.testBit 0) 12 ChBT.mixed rfl ?_))))
 intro w6 ag
 replace hk := thenB hk ag
 replace hT := Sha.Tabs.below hT ag
 have hS : Cls w6 w6 := Below.refl _ _
 refine dp 0 rfl (fun w' => y_mv es) (dp 1 rfl (fun w' => y_mv es) (dp 2 rfl (fun w' => y_mv es) (dp 3 rfl (fun w' => y_mv es) (dp 4 rfl (fun w' => y_mv (ex (.int .i64 ((m : Nat) : Int)) (Eq.trans (b := .int .i64 (((text.length : Nat) : Int) - (((key.length : Nat) : Int) / 2))) rfl (by congr 1; omega)))) (dp (v := .string (str (text.take m))) 5 rfl (fun w' => y_sls (ex (.string (str text))) evo.no (evo.s ei) Tryd.underlying9 (bnd_h (h := m) om om)) (dp 7 rfl (fun w' => y_mv es) (dp 8 rfl (fun w' => y_mv (ex (.int .i64 ((m : Nat) : Int)) (Eq.trans (b := .int .i64 (((text.length : Nat) : Int) - (((key.length : Nat) : Int) / 2))) rfl (by congr 1; omega)))) (dp (v := .string (str (text.drop m))) 9 rfl (fun w' => y_slf (ex (.string (str text))) (evo.s ei) Tryd.underlying9 (bnd_l (l := m) om om)) (d_one 6 kr rfl (w_call (Tryd.func13) kr rfl (m4 es es es es) (chTagged key vi aad n kind hkd hkn hkl hiv ha (text.take m) (by (rw [List.length_take]; omega)) w6 hT) ?_))))))))))
 rintro _ w8 ⟨rfl, af⟩
 refine ⟨_, rfl, ?_⟩
 replace hk := thenB hk af
 replace hT := Sha.Tabs.below hT af
 replace hS := thenB hS af
 refine wpList_nil ?_
 refine then_n ⟨fun _ h => thenB h (by assumption), ?_⟩
 refine d_one 10 kr rfl (w_call (Tryd.func14) kr rfl (m2 es es) (same_c (Ch.tg kind n key vi aad (text.take m)) (text.drop m) (by rw [Ch.tg_len kind n key vi aad _ hkd hkn]; omega) w8) ?_)
 rintro _ al ⟨rfl, aa⟩
 refine ⟨_, rfl, ?_⟩
 replace hk := thenB hk aa
 replace hT := Sha.Tabs.below hT aa
 replace hS := thenB hS aa
 refine wpList_nil ?_
 refine then_n ⟨fun _ h => thenB h (by assumption), ?_⟩
 refine dp (v := .bool (decide (¬ ((Ch.tg kind n key vi aad (text.take m)) = (text.drop m))))) 11 rfl (fun w' => y_notp eb) (d_done kr ?_)
 clear hS
 refine then_n ?_
 have ae : ¬ (¬ ((Ch.tg kind n key vi aad (text.take m)) = (text.drop m))) := by exact fun h => h hb
 refine c_f (p := ¬ ((Ch.tg kind n key vi aad (text.take m)) = (text.drop m))) eb ae (wp_skip (then_n (wp_seq (region_q ChBT.mixed kr (q_mv es (q_mv es (q_val (fun w' hw' => y_len es Tryd.underlying9) (q_val (fun w' hw' => y_bin ei Ev.c (b_quo om)) (q_val (v := .string (str (key.drop (key.length / 2)))) (fun w' hw' => y_slf (ex (.string (str key))) (evo.s ei) Tryd.underlying9 (bnd_l (l := (key.length / 2)) om om)) (q_mv es (q_mv es (q_mv (ex (.int .i64 ((m : Nat) : Int)) (Eq.trans (b := .int .i64 (((text.length : Nat) : Int) - (((key.length : Nat) : Int) / 2))) rfl (by congr 1; omega))) (q_val (v := .string (str (text.take m))) (fun w' hw' => y_sls (ex (.string (str text))) evo.no (evo.s ei) Tryd.underlying9 (bnd_h (h := m) om om)) (q_call (v := .tuple #[.string (str (Ch.op n key vi (text.take m))), .int .i64 0]) (Tryd.func15) kr rfl (m3 es es es) (fun w' hw' => opAt_p key vi (text.take m) n kind hkd hkn hkl hiv (by rw [List.length_take]; omega) (by rw [List.length_take]; omega) (by rw [List.length_take]; omega) hp w') (q_mv (ex (.tuple #[.string (str (Ch.op n key vi (text.take m))), .int .i64 0])) (q_val (fun w' hw' => y_ext (v := .string (str (Ch.op n key vi (text.take m)))) (ex (.tuple #[.string (str (Ch.op n key vi (text.take m))), .int .i64 0])) rfl) (q_val (fun w' hw' => y_ext (v := .int .i64 0) (ex (.tuple #[.string (str (Ch.op n key vi (text.take m))), .int .i64 0])) rfl) (q_as es (q_as ei (q_nil ?_))))))))))))))))))))
 intro ak ab
 replace hk := thenB hk ab
 replace hT := Sha.Tabs.below hT ab
 refine then_n (wp_seq (sr (w_mv ei (w_val (y_bin ei Ev.c b_neq) (nt (c_ff eb (wp_skip (then_n (sr (w_mv es (w_as es (w_as Ev.c (nt (wp_ret (fin_ret2 rfl es ei ?_)))))))))))))))
 exact ⟨rfl, hk⟩
end Go.Proofs.YtepogbfkmflooaaDoor
