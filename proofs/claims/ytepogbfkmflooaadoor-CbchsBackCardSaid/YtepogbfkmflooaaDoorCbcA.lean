/-
  Fillings: what the program and the reference compute. Conditions as each says.
-/
import Derived.Test.YtepogbfkmflooaaDoorRows
import Derived.Test.YtepogbfkmflooaaDoorGenMore
import Derived.Test.YtepogbfkmflooaaDoorCbcPlain
import Derived.Test.YtepogbfkmflooaaDoorRep
import Derived.Test.YtepogbfkmflooaaDoorGenSh
import Derived.ProofKit
namespace Go.Proofs.YtepogbfkmflooaaDoor
open Go.RowKit
set_option linter.unusedSimpArgs false
set_option linter.unusedVariables false
set_option maxRecDepth 100000
set_option maxHeartbeats 1000000
namespace CbcAT
theorem mixed : Tryd.prog.follows .mixedOrders = true := by kernel_rfl
theorem so3 : (Tryd.prog.underlying 3).isSome = true := by rw [Tryd.underlying3]; rfl
theorem so5 : (Tryd.prog.underlying 5).isSome = true := by rw [Tryd.underlying5]; rfl
end CbcAT
theorem pad_y (s : List (BitVec 8)) (q : Nat) (h1 : 1 ≤ q) (h255 : q ≤ 255) (hs : s.length ≤ 1100000) (w0 : World) : Calls Tryd.prog 25 #[.string (str s), .int .i64 ((q : Nat) : Int)] w0 fun e w' => e = .returned (.tuple #[.string (str (Cb.pad s q)), .int .i64 0]) ∧ Below w0.heap.size w0 w' := by
 have al := Nat.mod_lt s.length (show 0 < q by omega)
 have ai := Cb.pn_pos s.length q om
 have ak := Cb.pn_le s.length q
 have aj := Cb.pn_mod s.length q om
 refine enter (n := 27) Tryd.func25 rfl rfl rfl ?_
 have hk : Below w0.heap.size w0 w0 := Below.refl _ _
 refine sr (w_as (evc (.string (str ([] : List (BitVec 8))))) (w_as Ev.c (nt (wp_seq (sr (w_mv ei (w_val (y_bin ei Ev.c b_lss) (w_mv eb ?_))))))))
 have ad : ¬ (((q : Nat) : Int) < 1) := by omega
 refine w_val_g (v := .int .i64 ((q : Nat) : Int)) (wy rfl rfl (eb (df ad))) (y_mv ei) (w_val_g (wy rfl rfl (eb (df ad))) (y_bin ei Ev.c b_gtr) (w_val (y_pick_f (eb (df ad)) eb) (nt ?_)))
 have ah : ¬ (255 < ((q : Nat) : Int)) := by omega
 refine c_f (p := 255 < ((q : Nat) : Int)) eb ah (wp_skip (then_n (sr (w_mv ei (w_mv es (w_val (y_len es Tryd.underlying9) (w_mv ei (w_val (y_bin ei ei (b_rem om)) (w_val (y_bin ei ei (b_sub om)) (w_as ei (nt (sr (w_mv es (w_mv (ex (.int .i64 ((Cb.pn s.length q : Nat) : Int)) (Eq.trans (b := .int .i64 (((q : Nat) : Int) - (((s.length : Nat) : Int) % ((q : Nat) : Int)))) rfl (by exact congrArg (Value.int .i64) (by unfold Cb.pn; omega)))) (w_val (y_nat_u8 (p := (Cb.pn s.length q)) ei om CbcAT.so3 Tryd.underlying5) (w_bs1 (m := 1) (e := 5) (F := fun j => U8 (BitVec.ofNat 8 (Cb.pn s.length q))) e8 (fun w => by kernel_rfl) ?_))))))))))))))))
 intro ag w3 aa ab af
 have ac := gb_ hk.size aa
 clear aa
 replace hk := thenB hk af
 refine w_val (y_str (l := [BitVec.ofNat 8 (Cb.pn s.length q)]) el (by rfl) Tryd.underlying63 Tryd.underlying5 Tryd.underlying9 (fun j hj => (ab.val om (by (obtain rfl : j = 0 := om); rfl)))) (w_mv (ex (.int .i64 ((Cb.pn s.length q : Nat) : Int)) (Eq.trans (b := .int .i64 (((q : Nat) : Int) - (((s.length : Nat) : Int) % ((q : Nat) : Int)))) rfl (by exact congrArg (Value.int .i64) (by unfold Cb.pn; omega)))) (w_call (Tryd.func45) kr rfl (m2 es ei) (rep_c (BitVec.ofNat 8 (Cb.pn s.length q)) (Cb.pn s.length q) om w3) ?_))
 rintro _ w5 ⟨rfl, ae⟩
 refine ⟨_, rfl, ?_⟩
 replace ab := ab.step ae
 replace hk := thenB hk ae
 refine w_val (y_bin es es (b_cat (by simp only [List.length_replicate]; omega))) (w_as es (w_as Ev.c (nt (wp_ret (fin_ret2 rfl es ei ?_)))))
 refine ⟨congrArg Ending.returned ?_, hk⟩
 show (.tuple #[.string (str (s ++ (List.replicate (Cb.pn s.length q) (BitVec.ofNat 8 (Cb.pn s.length q))))), .int .i64 0] : Value) = .tuple #[.string (str (Cb.pad s q)), .int .i64 0]
 rfl

theorem unpad_y (s : List (BitVec 8)) (q : Nat) (h1 : 1 ≤ q) (h255 : q ≤ 255) (hs : s.length ≤ 1100000) (h0 : 0 < s.length) (hm : s.length % q = 0) (hp : Cb.Padded s q) (w0 : World) : Calls Tryd.prog 31 #[.string (str s), .int .i64 ((q : Nat) : Int)] w0 fun e w' => e = .returned (.tuple #[.string (str (s.take (s.length - Cb.last s))), .int .i64 0]) ∧ Below w0.heap.size w0 w' := by
 have an : q ≤ s.length := Nat.le_of_dvd h0 (Nat.dvd_of_mod_eq_zero hm)
 have aq : Cb.last s < 256 := (gb s (s.length - 1)).isLt
 obtain ⟨ap, ao, ah⟩ := hp
 refine enter (n := 58) Tryd.func31 rfl rfl rfl ?_
 have hk : Below w0.heap.size w0 w0 := Below.refl _ _
 refine sr (w_as (evc (.string (str ([] : List (BitVec 8))))) (w_as Ev.c (nt (wp_seq (sr (w_mv ei (w_val (y_bin ei Ev.c b_lss) (w_mv eb ?_))))))))
 have af : ¬ (((q : Nat) : Int) < 1) := by omega
 refine w_val_g (v := .int .i64 ((q : Nat) : Int)) (wy rfl rfl (eb (df af))) (y_mv ei) (w_val_g (wy rfl rfl (eb (df af))) (y_bin ei Ev.c b_gtr) (w_val (y_pick_f (eb (df af)) eb) (nt ?_)))
 have am : ¬ (255 < ((q : Nat) : Int)) := by omega
 refine c_f (p := 255 < ((q : Nat) : Int)) eb am (wp_skip (then_n (wp_seq (sr (w_mv es (w_val (y_bin es (evc (.string (str ([] : List (BitVec 8))))) b_eqs) (w_mv eb ?_)))))))
 have ad : ¬ (s = ([] : List (BitVec 8))) := by exact fun e => by rw [e] at h0; exact absurd h0 (by decide)
 refine w_val_g (v := .string (str s)) (wy rfl rfl (eb (df ad))) (y_mv es) (w_val_g (wy rfl rfl (eb (df ad))) (y_len es Tryd.underlying9) (w_val_g (v := .int .i64 ((q : Nat) : Int)) (wy rfl rfl (eb (df ad))) (y_mv ei) (w_val_g (wy rfl rfl (eb (df ad))) (y_bin ei ei (b_rem om)) (w_val_g (wy rfl rfl (eb (df ad))) (y_bin ei Ev.c b_neq) (w_val (y_pick_f (eb (df ad)) eb) (nt ?_))))))
 have aj : ¬ ((((s.length : Nat) : Int) % ((q : Nat) : Int)) ≠ 0) := by omega
 refine c_f (p := (((s.length : Nat) : Int) % ((q : Nat) : Int)) ≠ 0) eb aj (wp_skip (then_n (sr (w_mv es (w_mv es (w_val (y_len es Tryd.underlying9) (w_val (y_bin ei Ev.c (b_sub om)) (w_val (v := U8 (gb s (s.length - 1))) (y_idx (ex (.string (str s))) ei Tryd.underlying9 om om) (w_val (v := .int .i64 (((gb s (s.length - 1)).toNat : Nat) : Int)) (y_u8_i64 e8 CbcAT.so5 Tryd.underlying3 (by have := (gb s (s.length - 1)).isLt; omega)) (w_as ei (nt (wp_seq (sr (w_mv (ex (.int .i64 ((Cb.last s : Nat) : Int)) (Eq.trans (b := .int .i64 (((gb s (s.length - 1)).toNat : Nat) : Int)) rfl (by rfl))) (w_val (y_bin ei Ev.c b_eql) (w_mv eb ?_))))))))))))))))
 have ae : ¬ (((Cb.last s : Nat) : Int) = 0) := by omega
 refine w_val_g (v := .int .i64 ((Cb.last s : Nat) : Int)) (wy rfl rfl (eb (df ae))) (y_mv (ex (.int .i64 ((Cb.last s : Nat) : Int)) (Eq.trans (b := .int .i64 (((gb s (s.length - 1)).toNat : Nat) : Int)) rfl (by rfl)))) (w_val_g (v := .int .i64 ((q : Nat) : Int)) (wy rfl rfl (eb (df ae))) (y_mv ei) (w_val_g (wy rfl rfl (eb (df ae))) (y_bin ei ei b_gtr) (w_val (y_pick_f (eb (df ae)) eb) (nt ?_))))
 have al : ¬ (((q : Nat) : Int) < ((Cb.last s : Nat) : Int)) := by omega
 refine c_f (p := ((q : Nat) : Int) < ((Cb.last s : Nat) : Int)) eb al (wp_skip (then_n (wp_seq (sr (w_mv es (w_val (y_len es Tryd.underlying9) (w_mv (ex (.int .i64 ((Cb.last s : Nat) : Int)) (Eq.trans (b := .int .i64 (((gb s (s.length - 1)).toNat : Nat) : Int)) rfl (by rfl))) (w_val (y_bin ei ei (b_sub om)) (w_as ei (nt (wp_block ?_)))))))))))
 refine c_loop (fun dN aN wl => ∃ (i : Nat), dN = (s.length - i) ∧ ∃ f7, aN = fr 58 f7 ∧ (s.length - Cb.last s ≤ i) ∧ (i ≤ s.length) ∧ f7 0 = .string (str s) ∧ f7 6 = .int .i64 ((Cb.last s : Nat) : Int) ∧ f7 7 = .int .i64 ((i : Nat) : Int) ∧ Below w0.heap.size w0 wl) (s.length - (s.length - Cb.last s)) ?_ ?_
 · exact ⟨s.length - Cb.last s, rfl, _, rfl, iv, iv, rfl, (Eq.trans (b := .int .i64 (((gb s (s.length - 1)).toNat : Nat) : Int)) rfl (by rfl)), (Eq.trans (b := .int .i64 (((s.length : Nat) : Int) - ((Cb.last s : Nat) : Int))) rfl (by congr 1; omega)), hk⟩
 ·skip
  clear hk
  rintro _ _ w8 ⟨i, rfl, f7, rfl, ai, ak, aa, ab, ac, hk⟩
  refine wp_seq (sr (w_mv (ei ac) (w_mv (es aa) (w_val (y_len es Tryd.underlying9) (w_val (y_bin ei ei b_lss) (nt ?_))))))
  refine c_if (p := ((i : Nat) : Int) < ((s.length : Nat) : Int)) eb (fun hc9 => ?_) (fun hc9 => ?_)
  ·skip
   refine wp_skip (then_n (wp_seq (wp_block (sr (w_mv (es aa) (w_mv (ei ac) (w_val (v := U8 (gb s i)) (y_idx (ex (.string (str s))) ei Tryd.underlying9 om om) (w_val (v := .int .i64 (((gb s i).toNat : Nat) : Int)) (y_u8_i64 e8 CbcAT.so5 Tryd.underlying3 (by have := (gb s i).isLt; omega)) (w_mv (ei ab) (w_val (y_bin ei ei b_neq) (nt ?_)))))))))))
   have ag : ¬ ((((gb s i).toNat : Nat) : Int) ≠ ((Cb.last s : Nat) : Int)) := by have := ah i om om; omega
   refine c_f (p := (((gb s i).toNat : Nat) : Int) ≠ ((Cb.last s : Nat) : Int)) eb ag (wp_skip (inb_n (then_n (wp_region_lit (w_mv (ei ac) (w_val (y_bin ei Ev.c (b_add om)) (w_as ei (wpList_nil ?_))))))))
   exact then_n ⟨_, om, i + 1, rfl, _, rfl, iv, iv, aa, ab, ti, hk⟩
  ·skip
   refine wp_exit (then_x (then_x (inb_x (then_n (sr (w_mv (es aa) (w_mv (es aa) (w_val (y_len es Tryd.underlying9) (w_mv (ei ab) (w_val (y_bin ei ei (b_sub om)) (w_val (v := .string (str (s.take (s.length - (Cb.last s))))) (y_sls (ex (.string (str s))) evo.no (evo.s ei) Tryd.underlying9 (bnd_h (h := (s.length - (Cb.last s))) om om)) (w_as es (w_as Ev.c (nt (wp_ret (fin_ret2 rfl es ei ?_))))))))))))))))
   refine ⟨congrArg Ending.returned ?_, hk⟩
   show (.tuple #[.string (str (s.take (s.length - (Cb.last s)))), .int .i64 0] : Value) = .tuple #[.string (str (s.take (s.length - Cb.last s))), .int .i64 0]
   first | with_reducible rfl | (with_reducible congr 1 <;> omega) | (with_reducible congr 2 <;> omega) | (with_reducible congr 3 <;> omega) | rfl

end Go.Proofs.YtepogbfkmflooaaDoor
