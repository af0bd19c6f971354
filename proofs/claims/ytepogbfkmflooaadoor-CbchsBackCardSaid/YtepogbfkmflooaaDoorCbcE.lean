/-
  Chains of blocks: sealing and opening. Conditions as each says.
-/
import Derived.Test.YtepogbfkmflooaaDoorRows
import Derived.Test.YtepogbfkmflooaaDoorLiftS
import Derived.Test.YtepogbfkmflooaaDoorGenSh
import Derived.ProofKit
namespace Go.Proofs.YtepogbfkmflooaaDoor
open Go.RowKit
set_option linter.unusedSimpArgs false
set_option linter.unusedVariables false
set_option maxRecDepth 100000
set_option maxHeartbeats 1000000
namespace CbcET
theorem mixed : Tryd.prog.follows .mixedOrders = true := by kernel_rfl
theorem so3 : (Tryd.prog.underlying 3).isSome = true := by rw [Tryd.underlying3]; rfl
theorem so5 : (Tryd.prog.underlying 5).isSome = true := by rw [Tryd.underlying5]; rfl
end CbcET
theorem seal_z (key vi : List (BitVec 8)) (hok : Aes.okKey key.length) (hiv : vi.length = 16) (text : List (BitVec 8)) (hz : 70000 < text.length) (w0 : World) : Calls Tryd.prog 12 #[.string (str key), .string (str vi), .string (str text)] w0 fun e w' => e = .returned (.tuple #[.string (str ([] : List (BitVec 8))), .int .i64 6]) ∧ Below w0.heap.size w0 w' := by
 refine enter (n := 33) Tryd.func12 rfl rfl rfl ?_
 have hk : Below w0.heap.size w0 w0 := Below.refl _ _
 refine sr (w_as (evc (.string (str ([] : List (BitVec 8))))) (w_as Ev.c (nt (sr (w_mv es (w_mv es (w_call (Tryd.func24) kr rfl (m2 es es) (ready_y key vi hok hiv w0) ?_)))))))
 rintro _ w1 ⟨p, rfl, ab, hc, aa⟩
 refine ⟨_, rfl, ?_⟩
 have ad : w0.heap.size ≤ p := by have := hk.size; omega
 replace hk := thenB hk aa
 refine w_mv (ex (.tuple #[pt p 0, .int .i64 0])) (w_val ye (w_val ye (w_as (ex (pt p 0)) (w_as ei (nt (wp_seq (sr (w_mv ei (w_val (y_bin ei Ev.c b_neq) (nt (c_ff eb (wp_skip (then_n (wp_seq (sr (w_mv es (w_val (y_len es Tryd.underlying9) (w_val (y_bin ei Ev.c b_gtr) (nt ?_)))))))))))))))))))
 have ac : 70000 < ((text.length : Nat) : Int) := by omega
 refine c_t (p := 70000 < ((text.length : Nat) : Int)) eb ac (sr (w_as (evc (.string (str ([] : List (BitVec 8))))) (w_as Ev.c (nt (wp_ret (then_r (fin_ret2 rfl es ei ?_)))))))
 exact ⟨rfl, hk⟩

theorem seal_y (key vi : List (BitVec 8)) (hok : Aes.okKey key.length) (hiv : vi.length = 16) (text : List (BitVec 8)) (hz : text.length ≤ 70000) (w0 : World) : Calls Tryd.prog 12 #[.string (str key), .string (str vi), .string (str text)] w0 fun e w' => e = .returned (.tuple #[.string (str (Cb.chain key vi (Cb.pad text 16))), .int .i64 0]) ∧ Below w0.heap.size w0 w' := by
 refine enter (n := 33) Tryd.func12 rfl rfl rfl ?_
 have hk : Below w0.heap.size w0 w0 := Below.refl _ _
 refine sr (w_as (evc (.string (str ([] : List (BitVec 8))))) (w_as Ev.c (nt (sr (w_mv es (w_mv es (w_call (Tryd.func24) kr rfl (m2 es es) (ready_y key vi hok hiv w0) ?_)))))))
 rintro _ w1 ⟨p, rfl, ad, hc, aa⟩
 refine ⟨_, rfl, ?_⟩
 have ae : w0.heap.size ≤ p := by have := hk.size; omega
 replace hk := thenB hk aa
 refine w_mv (ex (.tuple #[pt p 0, .int .i64 0])) (w_val ye (w_val ye (w_as (ex (pt p 0)) (w_as ei (nt (wp_seq (sr (w_mv ei (w_val (y_bin ei Ev.c b_neq) (nt (c_ff eb (wp_skip (then_n (wp_seq (sr (w_mv es (w_val (y_len es Tryd.underlying9) (w_val (y_bin ei Ev.c b_gtr) (nt ?_)))))))))))))))))))
 have af : ¬ (70000 < ((text.length : Nat) : Int)) := by omega
 refine c_f (p := 70000 < ((text.length : Nat) : Int)) eb af (wp_skip (then_n (sr (w_mv es (w_call (Tryd.func25) kr rfl (m2 es Ev.c) (pad_y text 16 om om om w1) ?_)))))
 rintro _ w3 ⟨rfl, ac⟩
 refine ⟨_, rfl, ?_⟩
 replace hk := thenB hk ac
 replace hc := hc.below ac
 refine w_mv (ex (.tuple #[.string (str (Cb.pad text 16)), .int .i64 0])) (w_val ye (w_val ye (w_as es (w_as ei (nt (sr (w_mv (ex (pt p 0)) (w_mv es (w_mv es (w_call (Tryd.func26) kr rfl (m3 (ex (pt p 0)) es es) (chain_l p key vi hok hiv (Cb.pad text 16) (by rw [Cb.pad_len]; exact Cb.pn_mod text.length 16 om) (by rw [Cb.pad_len]; have := Cb.pn_le text.length 16; omega) w3 hc) ?_))))))))))
 rintro _ w5 ⟨rfl, ab⟩
 refine ⟨_, rfl, ?_⟩
 replace hk := thenB hk ab
 replace hc := hc.below ab
 refine w_as es (w_as Ev.c (nt (wp_ret (fin_ret2 rfl es ei ?_))))
 exact ⟨rfl, hk⟩

theorem open_p (key vi : List (BitVec 8)) (hok : Aes.okKey key.length) (hiv : vi.length = 16) (text : List (BitVec 8)) (ht : text.length % 16 = 0) (hl : text.length ≤ 70016) (h0 : 0 < text.length) (hp : Cb.Padded (Cb.unchain key vi text) 16) (w0 : World) : Calls Tryd.prog 15 #[.string (str key), .string (str vi), .string (str text)] w0 fun e w' => e = .returned (.tuple #[.string (str ((Cb.unchain key vi text).take ((Cb.unchain key vi text).length - Cb.last (Cb.unchain key vi text)))), .int .i64 0]) ∧ Below w0.heap.size w0 w' := by
 refine enter (n := 39) Tryd.func15 rfl rfl rfl ?_
 have hk : Below w0.heap.size w0 w0 := Below.refl _ _
 refine sr (w_as (evc (.string (str ([] : List (BitVec 8))))) (w_as Ev.c (nt (sr (w_mv es (w_mv es (w_call (Tryd.func24) kr rfl (m2 es es) (ready_y key vi hok hiv w0) ?_)))))))
 rintro _ w1 ⟨p, rfl, ae, hc, ac⟩
 refine ⟨_, rfl, ?_⟩
 have ah : w0.heap.size ≤ p := by have := hk.size; omega
 replace hk := thenB hk ac
 refine w_mv (ex (.tuple #[pt p 0, .int .i64 0])) (w_val ye (w_val ye (w_as (ex (pt p 0)) (w_as ei (nt (wp_seq (sr (w_mv ei (w_val (y_bin ei Ev.c b_neq) (nt (c_ff eb (wp_skip (then_n (wp_seq (sr (w_mv es (w_val (y_bin es (evc (.string (str ([] : List (BitVec 8))))) b_eqs) (w_mv eb ?_))))))))))))))))))
 have aa : ¬ (text = ([] : List (BitVec 8))) := by exact fun e => by rw [e] at h0; exact absurd h0 (by decide)
 refine w_val_g (v := .string (str text)) (wy rfl rfl (eb (df aa))) (y_mv es) (w_val_g (wy rfl rfl (eb (df aa))) (y_len es Tryd.underlying9) (w_val_g (wy rfl rfl (eb (df aa))) (y_bin ei Ev.c (b_rem om)) (w_val_g (wy rfl rfl (eb (df aa))) (y_bin ei Ev.c b_neq) (w_val (y_pick_f (eb (df aa)) eb) (w_mv eb ?_)))))
 have ab : ¬ ((((text.length : Nat) : Int) % 16) ≠ 0) := by omega
 refine w_val_g (v := .string (str text)) (wy rfl rfl (eb (df ab))) (y_mv es) (w_val_g (wy rfl rfl (eb (df ab))) (y_len es Tryd.underlying9) (w_val_g (wy rfl rfl (eb (df ab))) (y_bin ei Ev.c b_gtr) (w_val (y_pick_f (eb (df ab)) eb) (nt ?_))))
 have ag : ¬ (70016 < ((text.length : Nat) : Int)) := by omega
 refine c_f (p := 70016 < ((text.length : Nat) : Int)) eb ag (wp_skip (then_n (sr (w_mv (ex (pt p 0)) (w_mv es (w_mv es ?_))))))
 have af := hc
 refine w_call (Tryd.func32) kr rfl (m3 (ex (pt p 0)) es es) (unchain_l p key vi hok hiv text ht hl w1 af) ?_
 rintro _ w5 ⟨rfl, ai, hc⟩
 refine ⟨_, rfl, ?_⟩
 replace hk := thenG hk ai om
 refine w_call (Tryd.func31) kr rfl (m2 es Ev.c) (unpad_y (Cb.unchain key vi text) 16 om om (by rw [Cb.unchain_len]; omega) (by rw [Cb.unchain_len]; omega) (by rw [Cb.unchain_len]; omega) hp w5) ?_
 rintro _ w6 ⟨rfl, ad⟩
 refine ⟨_, rfl, ?_⟩
 replace hk := thenB hk ad
 replace hc := hc.below ad
 refine w_val ye (w_val ye (w_as es (w_as ei (nt (wp_ret (fin_ret2 rfl es ei ?_))))))
 exact ⟨rfl, hk⟩

end Go.Proofs.YtepogbfkmflooaaDoor
