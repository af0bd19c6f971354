/-
  Counters: what the program and the reference compute. Conditions as each says.
-/
import Derived.Test.YtdmbfimjbmfbaaaGreatRows
import Derived.Test.YtdmbfimjbmfbaaaGreatGenMore
import Derived.Test.YtdmbfimjbmfbaaaGreatAesBase
import Derived.Test.YtdmbfimjbmfbaaaGreatOctW
import Derived.Test.YtdmbfimjbmfbaaaGreatCtrPlain
import Derived.Test.YtdmbfimjbmfbaaaGreatGenSh
import Derived.ProofKit
namespace Go.Proofs.YtdmbfimjbmfbaaaGreat
open Go.RowKit
set_option linter.unusedSimpArgs false
set_option linter.unusedVariables false
set_option maxRecDepth 100000
set_option maxHeartbeats 1000000
namespace CtrAT
theorem mixed : Tryz.prog.follows .mixedOrders = true := by kernel_rfl
end CtrAT
theorem wrong_y (s : List (BitVec 8)) (d : Nat) (hs : s.length = 16) (h1 : 1 ≤ d) (h16 : d ≤ 16) (w0 : World) : Calls Tryz.prog 62 #[.string (str s), .int .i64 ((d : Nat) : Int)] w0 fun e w' => e = .returned (.int .i64 0) ∧ Below w0.heap.size w0 w' := by
 refine enter (n := 14) Tryz.func62 rfl rfl rfl ?_
 have hk : Below w0.heap.size w0 w0 := Below.refl _ _
 refine sr (w_as Ev.c (nt (wp_seq (sr (w_mv es (w_val (y_len es Tryz.underlying9) (w_val (y_bin ei Ev.c b_neq) (nt ?_))))))))
 have hc1 : ¬ (((s.length : Nat) : Int) ≠ 16) := by omega
 refine c_f (p := ((s.length : Nat) : Int) ≠ 16) eb hc1 (wp_skip (then_n (wp_seq (sr (w_mv ei (w_val (y_bin ei Ev.c b_lss) (w_mv eb ?_)))))))
 have hc2 : ¬ (((d : Nat) : Int) < 1) := by omega
 refine w_val_g (v := .int .i64 ((d : Nat) : Int)) (wy rfl rfl (eb (df hc2))) (y_mv ei) (w_val_g (wy rfl rfl (eb (df hc2))) (y_bin ei Ev.c b_gtr) (w_val (y_pick_f (eb (df hc2)) eb) (nt ?_)))
 have hc3 : ¬ (16 < ((d : Nat) : Int)) := by omega
 refine c_f (p := 16 < ((d : Nat) : Int)) eb hc3 (wp_skip (then_n (sr (w_as Ev.c (nt (wp_ret (fin_ret1 rfl ei ?_)))))))
 exact ⟨rfl, hk⟩

theorem next_y (s : List (BitVec 8)) (d : Nat) (hs : s.length = 16) (h1 : 1 ≤ d) (h16 : d ≤ 16) (n : Nat) (hn : n < 18446744073709551616) (w0 : World) : Calls Tryz.prog 42 #[.string (str s), .int .i64 ((d : Nat) : Int), U64 (BitVec.ofNat 64 n)] w0 fun e w' => e = .returned (.tuple #[.string (str (Ct.nx s d n)), .int .i64 0]) ∧ Below w0.heap.size w0 w' := by
 have hto : (BitVec.ofNat 64 n).toNat = n := by rw [BitVec.toNat_ofNat]; omega
 refine enter (n := 26) Tryz.func42 rfl rfl rfl ?_
 have hk : Below w0.heap.size w0 w0 := Below.refl _ _
 refine sr (w_as (evc (.string (str ([] : List (BitVec 8))))) (w_as Ev.c (nt (wp_seq (sr (w_mv es (w_mv ei (w_call (Tryz.func62) kr rfl (m2 es ei) (wrong_y s d hs h1 h16 w0) ?_))))))))
 rintro _ w1 ⟨rfl, hb2⟩
 refine ⟨_, rfl, ?_⟩
 replace hk := thenB hk hb2
 refine w_as ei (nt (sr (w_mv ei (w_val (y_bin ei Ev.c b_neq) (nt (c_ff eb (wp_skip (then_n (wp_seq (region_q CtrAT.mixed kr (q_mv es (q_mv ei (q_val (fun w' hw' => y_bin Ev.c ei (b_sub om)) (q_val (v := .string (str (s.take (16 - d)))) (fun w' hw' => y_sls (ex (.string (str s))) evo.no (evo.s ei) Tryz.underlying9 (bnd_h (h := (16 - d)) om om)) (q_mv es (q_mv ei (q_val (fun w' hw' => y_bin Ev.c ei (b_sub om)) (q_val (v := .string (str (s.drop (16 - d)))) (fun w' hw' => y_slf (ex (.string (str s))) (evo.s ei) Tryz.underlying9 (bnd_l (l := (16 - d)) om om)) (q_mv e6 (q_call (v := .string (str (Oct.add (s.drop (16 - d)) (BitVec.ofNat 64 n).toNat))) (Tryz.func63) kr rfl (m2 es e6) (fun w' hw' => add_c (s.drop (16 - d)) (BitVec.ofNat 64 n) (by rw [List.length_drop]; omega) w') (q_val (fun w' hw' => y_bin es es (b_cat (by simp only [List.length_append, List.length_take, List.length_drop, Oct.length_add]; omega))) (q_as es (q_as Ev.c (q_nil ?_))))))))))))))))))))))))
 intro w3 hb4
 replace hk := thenB hk hb4
 refine then_n (wp_ret (fin_ret2 rfl es ei ?_))
 refine ⟨congrArg Ending.returned ?_, hk⟩
 show (.tuple #[.string (str ((s.take (16 - d)) ++ (Oct.add (s.drop (16 - d)) (BitVec.ofNat 64 n).toNat))), .int .i64 0] : Value) = .tuple #[.string (str (Ct.nx s d n)), .int .i64 0]
 rw [hto]; rfl
end Go.Proofs.YtdmbfimjbmfbaaaGreat
