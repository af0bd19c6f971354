/-
  Chains of blocks: sealing and opening. Conditions as each says.
-/
import Derived.Test.YtepogbfkmflooaaGreatDoorRows
import Derived.Test.YtepogbfkmflooaaGreatDoorCbcD
import Derived.Test.YtepogbfkmflooaaGreatDoorGenSh
import Derived.ProofKit
namespace Go.Proofs.YtepogbfkmflooaaGreatDoor
open Go.RowKit
set_option linter.unusedSimpArgs false
set_option linter.unusedVariables false
set_option maxRecDepth 100000
set_option maxHeartbeats 1000000
namespace CbcET
theorem mixed : Tryz.prog.follows .mixedOrders = true := by kernel_rfl
theorem sc9 : (Tryz.prog.underlying 9).map scal = some true := by rw [Tryz.underlying9]; rfl
theorem so3 : (Tryz.prog.underlying 3).isSome = true := by rw [Tryz.underlying3]; rfl
theorem so5 : (Tryz.prog.underlying 5).isSome = true := by rw [Tryz.underlying5]; rfl
theorem sz9 : (Tryz.prog.info? 9).map (·.size) = some 1 := by kernel_rfl
end CbcET
theorem seal_y (key vi : List (BitVec 8)) (hok : Aes.okKey key.length) (hiv : vi.length = 16) (text : List (BitVec 8)) (hz : text.length ≤ 70000) (w0 : World) : Calls Tryz.prog 19 #[.string (str key), .string (str vi), .string (str text)] w0 fun e w' => e = .returned (.tuple #[.string (str (Cb.chain key vi (Cb.pad text 16))), .int .i64 0]) ∧ Below w0.heap.size w0 w' := by
 refine enter (n := 33) Tryz.func19 rfl rfl rfl ?_
 have hk : Below w0.heap.size w0 w0 := Below.refl _ _
 refine sr (w_as (evc (.string (str ([] : List (BitVec 8))))) (w_as Ev.c (nt (sr (w_mv es (w_mv es (w_call (Tryz.func34) kr rfl (m2 es es) (ready_y key vi hok hiv w0) ?_)))))))
 rintro _ w1 ⟨p, rfl, hge_p, hc, hb_p⟩
 refine ⟨_, rfl, ?_⟩
 have ge_p : w0.heap.size ≤ p := by have := hk.size; omega
 replace hk := thenB hk hb_p
 refine w_mv (ex (.tuple #[pt p 0, .int .i64 0])) (w_val ye (w_val ye (w_as (ex (pt p 0)) (w_as ei (nt (wp_seq (sr (w_mv ei (w_val (y_bin ei Ev.c b_neq) (nt (c_ff eb (wp_skip (then_n (wp_seq (sr (w_mv es (w_val (y_len es Tryz.underlying9) (w_val (y_bin ei Ev.c b_gtr) (nt ?_)))))))))))))))))))
 have hc2 : ¬ (70000 < ((text.length : Nat) : Int)) := by omega
 refine c_f (p := 70000 < ((text.length : Nat) : Int)) eb hc2 (wp_skip (then_n (sr (w_mv es (w_call (Tryz.func35) kr rfl (m2 es Ev.c) (pad_y text 16 om om om w1) ?_)))))
 rintro _ w3 ⟨rfl, hb4⟩
 refine ⟨_, rfl, ?_⟩
 replace hk := thenB hk hb4
 replace hc := hc.below hb4
 refine w_mv (ex (.tuple #[.string (str (Cb.pad text 16)), .int .i64 0])) (w_val ye (w_val ye (w_as es (w_as ei (nt (sr (w_mv (ex (pt p 0)) (w_mv es (w_mv es (w_call (Tryz.func36) kr rfl (m3 (ex (pt p 0)) es es) (chain_l p key vi hok hiv (Cb.pad text 16) (by rw [Cb.pad_len]; exact Cb.pn_mod text.length 16 om) (by rw [Cb.pad_len]; have := Cb.pn_le text.length 16; omega) w3 hc) ?_))))))))))
 rintro _ w5 ⟨rfl, hb6⟩
 refine ⟨_, rfl, ?_⟩
 replace hk := thenB hk hb6
 replace hc := hc.below hb6
 refine w_as es (w_as Ev.c (nt (wp_ret (fin_ret2 rfl es ei ?_))))
 exact ⟨rfl, hk⟩

theorem open_p (key vi : List (BitVec 8)) (hok : Aes.okKey key.length) (hiv : vi.length = 16) (text : List (BitVec 8)) (ht : text.length % 16 = 0) (hl : text.length ≤ 70016) (h0 : 0 < text.length) (hp : Cb.Padded (Cb.unchain key vi text) 16) (w0 : World) : Calls Tryz.prog 23 #[.string (str key), .string (str vi), .string (str text)] w0 fun e w' => e = .returned (.tuple #[.string (str ((Cb.unchain key vi text).take ((Cb.unchain key vi text).length - Cb.last (Cb.unchain key vi text)))), .int .i64 0]) ∧ Below w0.heap.size w0 w' := by
 refine enter (n := 39) Tryz.func23 rfl rfl rfl ?_
 have hk : Below w0.heap.size w0 w0 := Below.refl _ _
 refine sr (w_as (evc (.string (str ([] : List (BitVec 8))))) (w_as Ev.c (nt (sr (w_mv es (w_mv es (w_call (Tryz.func34) kr rfl (m2 es es) (ready_y key vi hok hiv w0) ?_)))))))
 rintro _ w1 ⟨p, rfl, hge_p, hc, hb_p⟩
 refine ⟨_, rfl, ?_⟩
 have ge_p : w0.heap.size ≤ p := by have := hk.size; omega
 replace hk := thenB hk hb_p
 refine w_mv (ex (.tuple #[pt p 0, .int .i64 0])) (w_val ye (w_val ye (w_as (ex (pt p 0)) (w_as ei (nt (wp_seq (sr (w_mv ei (w_val (y_bin ei Ev.c b_neq) (nt (c_ff eb (wp_skip (then_n (wp_seq (sr (w_mv es (w_val (y_bin es (evc (.string (str ([] : List (BitVec 8))))) b_eqs) (w_mv eb ?_))))))))))))))))))
 have hc2 : ¬ (text = ([] : List (BitVec 8))) := by exact fun e => by rw [e] at h0; exact absurd h0 (by decide)
 refine w_val_g (v := .string (str text)) (wy rfl rfl (eb (df hc2))) (y_mv es) (w_val_g (wy rfl rfl (eb (df hc2))) (y_len es Tryz.underlying9) (w_val_g (wy rfl rfl (eb (df hc2))) (y_bin ei Ev.c (b_rem om)) (w_val_g (wy rfl rfl (eb (df hc2))) (y_bin ei Ev.c b_neq) (w_val (y_pick_f (eb (df hc2)) eb) (w_mv eb ?_)))))
 have hc3 : ¬ ((((text.length : Nat) : Int) % 16) ≠ 0) := by omega
 refine w_val_g (v := .string (str text)) (wy rfl rfl (eb (df hc3))) (y_mv es) (w_val_g (wy rfl rfl (eb (df hc3))) (y_len es Tryz.underlying9) (w_val_g (wy rfl rfl (eb (df hc3))) (y_bin ei Ev.c b_gtr) (w_val (y_pick_f (eb (df hc3)) eb) (nt ?_))))
 have hc4 : ¬ (70016 < ((text.length : Nat) : Int)) := by omega
 refine c_f (p := 70016 < ((text.length : Nat) : Int)) eb hc4 (wp_skip (then_n (sr (w_mv (ex (pt p 0)) (w_mv es (w_mv es ?_))))))
 have hw_ := hc
 refine w_call (Tryz.func42) kr rfl (m3 (ex (pt p 0)) es es) (unchain_l p key vi hok hiv text ht hl w1 hw_) ?_
 rintro _ w5 ⟨rfl, hgd, hc⟩
 refine ⟨_, rfl, ?_⟩
 replace hk := thenG hk hgd om
 refine w_call (Tryz.func41) kr rfl (m2 es Ev.c) (unpad_y (Cb.unchain key vi text) 16 om om (by rw [Cb.unchain_len]; omega) (by rw [Cb.unchain_len]; omega) (by rw [Cb.unchain_len]; omega) hp w5) ?_
 rintro _ w6 ⟨rfl, hb7⟩
 refine ⟨_, rfl, ?_⟩
 replace hk := thenB hk hb7
 replace hc := hc.below hb7
 refine w_val ye (w_val ye (w_as es (w_as ei (nt (wp_ret (fin_ret2 rfl es ei ?_))))))
 exact ⟨rfl, hk⟩

theorem refOpen_p (key vi : List (BitVec 8)) (hok : Aes.okKey key.length) (hiv : vi.length = 16) (text : List (BitVec 8)) (ht : text.length % 16 = 0) (hl : text.length ≤ 70016) (h0 : 0 < text.length) (hp : Cb.Padded (Cb.unchain key vi text) 16) (w0 : World) : Calls Tryz.prog 24 #[.string (str key), .string (str vi), .string (str text)] w0 fun e w' => e = .returned (.tuple #[.string (str ((Cb.unchain key vi text).take ((Cb.unchain key vi text).length - Cb.last (Cb.unchain key vi text)))), .int .i64 0]) ∧ Below w0.heap.size w0 w' := by
 refine enter (n := 34) Tryz.func24 rfl rfl rfl ?_
 have hk : Below w0.heap.size w0 w0 := Below.refl _ _
 refine sr (w_as (evc (.string (str ([] : List (BitVec 8))))) (w_as Ev.c (nt (wp_seq (sr (w_mv es (w_mv es (w_call (Tryz.func27) kr rfl (m2 es es) (refWrong_y key vi hok hiv w0) ?_))))))))
 rintro _ w1 ⟨rfl, hb2⟩
 refine ⟨_, rfl, ?_⟩
 replace hk := thenB hk hb2
 refine w_as ei (nt (sr (w_mv ei (w_val (y_bin ei Ev.c b_neq) (nt (c_ff eb (wp_skip (then_n (wp_seq (sr (w_mv es (w_val (y_len es Tryz.underlying9) (w_val (y_bin ei Ev.c b_eql) (nt ?_))))))))))))))
 have hc3 : ¬ (((text.length : Nat) : Int) = 0) := by omega
 refine c_f (p := ((text.length : Nat) : Int) = 0) eb hc3 (wp_skip (then_n (sr (w_mv es (w_mv es (w_mv es (w_call (Tryz.func43) kr rfl (m3 es es es) (refUnchain_y key vi hok hiv text ht hl w1) ?_)))))))
 rintro _ w4 ⟨rfl, hb5⟩
 refine ⟨_, rfl, ?_⟩
 replace hk := thenB hk hb5
 refine w_mv (ex (.tuple #[.string (str (Cb.unchain key vi text)), .int .i64 0])) (w_val ye (w_val ye (w_as es (w_as ei (nt (wp_seq (sr (w_mv ei (w_val (y_bin ei Ev.c b_neq) (nt (c_ff eb (wp_skip (then_n (sr (w_mv es (w_call (Tryz.func17) kr rfl (m2 es Ev.c) (refUnpad_y (Cb.unchain key vi text) 16 om om (by rw [Cb.unchain_len]; omega) (by rw [Cb.unchain_len]; omega) (by rw [Cb.unchain_len]; omega) hp w4) ?_))))))))))))))))
 rintro _ w6 ⟨rfl, hb7⟩
 refine ⟨_, rfl, ?_⟩
 replace hk := thenB hk hb7
 refine w_val ye (w_val ye (w_as es (w_as ei (nt (wp_ret (fin_ret2 rfl es ei ?_))))))
 exact ⟨rfl, hk⟩

theorem open_n (key vi : List (BitVec 8)) (hok : Aes.okKey key.length) (hiv : vi.length = 16) (text : List (BitVec 8)) (ht : text.length % 16 = 0) (hl : text.length ≤ 70016) (h0 : 0 < text.length) (hp : ¬ Cb.Padded (Cb.unchain key vi text) 16) (w0 : World) : Calls Tryz.prog 23 #[.string (str key), .string (str vi), .string (str text)] w0 fun e w' => e = .returned (.tuple #[.string (str ([] : List (BitVec 8))), .int .i64 7]) ∧ Below w0.heap.size w0 w' := by
 refine enter (n := 39) Tryz.func23 rfl rfl rfl ?_
 have hk : Below w0.heap.size w0 w0 := Below.refl _ _
 refine sr (w_as (evc (.string (str ([] : List (BitVec 8))))) (w_as Ev.c (nt (sr (w_mv es (w_mv es (w_call (Tryz.func34) kr rfl (m2 es es) (ready_y key vi hok hiv w0) ?_)))))))
 rintro _ w1 ⟨p, rfl, hge_p, hc, hb_p⟩
 refine ⟨_, rfl, ?_⟩
 have ge_p : w0.heap.size ≤ p := by have := hk.size; omega
 replace hk := thenB hk hb_p
 refine w_mv (ex (.tuple #[pt p 0, .int .i64 0])) (w_val ye (w_val ye (w_as (ex (pt p 0)) (w_as ei (nt (wp_seq (sr (w_mv ei (w_val (y_bin ei Ev.c b_neq) (nt (c_ff eb (wp_skip (then_n (wp_seq (sr (w_mv es (w_val (y_bin es (evc (.string (str ([] : List (BitVec 8))))) b_eqs) (w_mv eb ?_))))))))))))))))))
 have hc2 : ¬ (text = ([] : List (BitVec 8))) := by exact fun e => by rw [e] at h0; exact absurd h0 (by decide)
 refine w_val_g (v := .string (str text)) (wy rfl rfl (eb (df hc2))) (y_mv es) (w_val_g (wy rfl rfl (eb (df hc2))) (y_len es Tryz.underlying9) (w_val_g (wy rfl rfl (eb (df hc2))) (y_bin ei Ev.c (b_rem om)) (w_val_g (wy rfl rfl (eb (df hc2))) (y_bin ei Ev.c b_neq) (w_val (y_pick_f (eb (df hc2)) eb) (w_mv eb ?_)))))
 have hc3 : ¬ ((((text.length : Nat) : Int) % 16) ≠ 0) := by omega
 refine w_val_g (v := .string (str text)) (wy rfl rfl (eb (df hc3))) (y_mv es) (w_val_g (wy rfl rfl (eb (df hc3))) (y_len es Tryz.underlying9) (w_val_g (wy rfl rfl (eb (df hc3))) (y_bin ei Ev.c b_gtr) (w_val (y_pick_f (eb (df hc3)) eb) (nt ?_))))
 have hc4 : ¬ (70016 < ((text.length : Nat) : Int)) := by omega
 refine c_f (p := 70016 < ((text.length : Nat) : Int)) eb hc4 (wp_skip (then_n (sr (w_mv (ex (pt p 0)) (w_mv es (w_mv es ?_))))))
 have hw_ := hc
 refine w_call (Tryz.func42) kr rfl (m3 (ex (pt p 0)) es es) (unchain_l p key vi hok hiv text ht hl w1 hw_) ?_
 rintro _ w5 ⟨rfl, hgd, hc⟩
 refine ⟨_, rfl, ?_⟩
 replace hk := thenG hk hgd om
 refine w_call (Tryz.func41) kr rfl (m2 es Ev.c) (unpad_n (Cb.unchain key vi text) 16 om om (by rw [Cb.unchain_len]; omega) (by rw [Cb.unchain_len]; omega) (by rw [Cb.unchain_len]; omega) hp w5) ?_
 rintro _ w6 ⟨rfl, hb7⟩
 refine ⟨_, rfl, ?_⟩
 replace hk := thenB hk hb7
 replace hc := hc.below hb7
 refine w_val ye (w_val ye (w_as es (w_as ei (nt (wp_ret (fin_ret2 rfl es ei ?_))))))
 exact ⟨rfl, hk⟩

theorem refOpen_n (key vi : List (BitVec 8)) (hok : Aes.okKey key.length) (hiv : vi.length = 16) (text : List (BitVec 8)) (ht : text.length % 16 = 0) (hl : text.length ≤ 70016) (h0 : 0 < text.length) (hp : ¬ Cb.Padded (Cb.unchain key vi text) 16) (w0 : World) : Calls Tryz.prog 24 #[.string (str key), .string (str vi), .string (str text)] w0 fun e w' => e = .returned (.tuple #[.string (str ([] : List (BitVec 8))), .int .i64 7]) ∧ Below w0.heap.size w0 w' := by
 refine enter (n := 34) Tryz.func24 rfl rfl rfl ?_
 have hk : Below w0.heap.size w0 w0 := Below.refl _ _
 refine sr (w_as (evc (.string (str ([] : List (BitVec 8))))) (w_as Ev.c (nt (wp_seq (sr (w_mv es (w_mv es (w_call (Tryz.func27) kr rfl (m2 es es) (refWrong_y key vi hok hiv w0) ?_))))))))
 rintro _ w1 ⟨rfl, hb2⟩
 refine ⟨_, rfl, ?_⟩
 replace hk := thenB hk hb2
 refine w_as ei (nt (sr (w_mv ei (w_val (y_bin ei Ev.c b_neq) (nt (c_ff eb (wp_skip (then_n (wp_seq (sr (w_mv es (w_val (y_len es Tryz.underlying9) (w_val (y_bin ei Ev.c b_eql) (nt ?_))))))))))))))
 have hc3 : ¬ (((text.length : Nat) : Int) = 0) := by omega
 refine c_f (p := ((text.length : Nat) : Int) = 0) eb hc3 (wp_skip (then_n (sr (w_mv es (w_mv es (w_mv es (w_call (Tryz.func43) kr rfl (m3 es es es) (refUnchain_y key vi hok hiv text ht hl w1) ?_)))))))
 rintro _ w4 ⟨rfl, hb5⟩
 refine ⟨_, rfl, ?_⟩
 replace hk := thenB hk hb5
 refine w_mv (ex (.tuple #[.string (str (Cb.unchain key vi text)), .int .i64 0])) (w_val ye (w_val ye (w_as es (w_as ei (nt (wp_seq (sr (w_mv ei (w_val (y_bin ei Ev.c b_neq) (nt (c_ff eb (wp_skip (then_n (sr (w_mv es (w_call (Tryz.func17) kr rfl (m2 es Ev.c) (refUnpad_n (Cb.unchain key vi text) 16 om om (by rw [Cb.unchain_len]; omega) (by rw [Cb.unchain_len]; omega) (by rw [Cb.unchain_len]; omega) hp w4) ?_))))))))))))))))
 rintro _ w6 ⟨rfl, hb7⟩
 refine ⟨_, rfl, ?_⟩
 replace hk := thenB hk hb7
 refine w_val ye (w_val ye (w_as es (w_as ei (nt (wp_ret (fin_ret2 rfl es ei ?_))))))
 exact ⟨rfl, hk⟩

end Go.Proofs.YtepogbfkmflooaaGreatDoor
