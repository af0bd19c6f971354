/-
  The laws of cbchs: their waking, what is long. No conditions.
-/
import Derived.Test.YtepogbfkmflooaaDoorRows
import Derived.Test.YtepogbfkmflooaaDoorChB
import Derived.Test.YtepogbfkmflooaaDoorGenSh
import Derived.ProofKit
namespace Go.Proofs.YtepogbfkmflooaaDoor
open Go.RowKit
set_option linter.unusedSimpArgs false
set_option linter.unusedVariables false
set_option maxRecDepth 100000
set_option maxHeartbeats 1000000
namespace ChWakesT
theorem mixed : Tryd.prog.follows .mixedOrders = true := by kernel_rfl
end ChWakesT
theorem chOpenBack (key vi aad : List (BitVec 8)) (n kind : Nat) (hkd : Sha.Known kind) (hkn : kind = 16 * n) (hkl : key.length = 2 * n) (hiv : vi.length = 16) (ha : aad.length ≤ 70000) (text : List (BitVec 8)) (ht : text.length ≤ 70000) (w0 : World) (hT : Sha.Tabs w0) : Calls Tryd.prog 7 #[.string (str key), .string (str vi), .string (str aad), .string (str (Ch.sealed kind n key vi aad text))] w0 fun e w' => e = .returned (.tuple #[.string (str text), .int .i64 0]) ∧ Below w0.heap.size w0 w' := by
  have hl := Ch.sealed_len kind n key vi aad text hkd hkn
  have hc := Ch.cc_mod n key vi text
  have aa := Ch.key_ok kind n key hkd hkn hkl
  have ab := Ch.n_cases kind n hkd hkn
  have ho := Ch.op_cc n key vi text aa hiv
  have h := chOpen_y key vi aad n kind hkd hkn hkl hiv ha (Ch.sealed kind n key vi aad text) om (Ch.cc n key vi text).length hl om om om (by rw [Ch.sealed_take, Ch.sealed_drop]) (by rw [Ch.sealed_take]; exact ho.1) w0 hT
  rw [Ch.sealed_take, ho.2] at h
  exact h

theorem chWakesBad (w0 : World) (hT : Sha.Tabs w0) : Calls Tryd.prog 7 #[.string (str Ch.wk), .string (str (Ch.wk.take 16)), .string (str Ch.wy), .string (str (Ch.sealed 256 16 Ch.wk (Ch.wk.take 16) Ch.wx Cb.wt))] w0 fun e w' => e = .returned (.tuple #[.string (str ([] : List (BitVec 8))), .int .i64 8]) ∧ Below w0.heap.size w0 w' := by
  have hl := Ch.sealed_len 256 16 Ch.wk (Ch.wk.take 16) Ch.wx Cb.wt (.inl rfl) rfl
  have hc := Ch.cc_mod 16 Ch.wk (Ch.wk.take 16) Cb.wt
  have h3 : Cb.wt.length = 3 := rfl
  exact chOpen_b Ch.wk (Ch.wk.take 16) Ch.wy 16 256 (.inl rfl) rfl rfl rfl (by decide) (Ch.sealed 256 16 Ch.wk (Ch.wk.take 16) Ch.wx Cb.wt) om (Ch.cc 16 Ch.wk (Ch.wk.take 16) Cb.wt).length hl om om om (by rw [Ch.sealed_take, Ch.sealed_drop]; exact Ch.wakes) w0 hT

theorem chWakes_c  (w0 : World) (hT : Sha.Tabs w0) : Calls Tryd.prog 5 #[] w0 fun e w' => e = .returned (.bool true) ∧ Below w0.heap.size w0 w' := by
 refine enter (n := 50) Tryd.func5 rfl rfl rfl ?_
 have hk : Below w0.heap.size w0 w0 := Below.refl _ _
 refine sr (w_as Ev.c (nt (sr (w_as (evc (.string (str Ch.wk))) (nt (sr (w_mv es (w_mv es (w_val (v := .string (str (Ch.wk.take 16))) (y_sls (ex (.string (str Ch.wk))) evo.no (evo.s Ev.c) Tryd.underlying9 (bnd_h (h := 16) om (by decide))) (w_call (Tryd.func6) kr rfl (m4 es es (evc (.string (str Ch.wx))) (evc (.string (str Cb.wt)))) (chSeal_y Ch.wk (Ch.wk.take 16) Ch.wx 16 256 (.inl rfl) rfl rfl rfl (by decide) Cb.wt (by decide) (by decide) w0 hT) ?_))))))))))
 rintro _ w1 ⟨rfl, ad⟩
 refine ⟨_, rfl, ?_⟩
 replace hk := thenB hk ad
 replace hT := Sha.Tabs.below hT ad
 refine w_mv (ex (.tuple #[.string (str (Ch.sealed 256 16 Ch.wk (Ch.wk.take 16) Ch.wx Cb.wt)), .int .i64 0])) (w_val ye (w_val ye (w_as es (w_as ei (nt (sr (w_mv es (w_mv es (w_val (v := .string (str (Ch.wk.take 16))) (y_sls (ex (.string (str Ch.wk))) evo.no (evo.s Ev.c) Tryd.underlying9 (bnd_h (h := 16) om (by decide))) (w_mv es (w_call (Tryd.func7) kr rfl (m4 es es (evc (.string (str Ch.wx))) es) (chOpenBack Ch.wk (Ch.wk.take 16) Ch.wx 16 256 (.inl rfl) rfl rfl rfl (by decide) Cb.wt (by decide) w1 hT) ?_)))))))))))
 rintro _ w3 ⟨rfl, ac⟩
 refine ⟨_, rfl, ?_⟩
 replace hk := thenB hk ac
 replace hT := Sha.Tabs.below hT ac
 refine w_mv (ex (.tuple #[.string (str Cb.wt), .int .i64 0])) (w_val ye (w_val ye (w_as es (w_as ei (nt (sr (w_mv es (w_mv es (w_val (v := .string (str (Ch.wk.take 16))) (y_sls (ex (.string (str Ch.wk))) evo.no (evo.s Ev.c) Tryd.underlying9 (bnd_h (h := 16) om (by decide))) (w_mv es (w_call (Tryd.func7) kr rfl (m4 es es (evc (.string (str Ch.wy))) es) (chWakesBad w3 hT) ?_)))))))))))
 rintro _ w5 ⟨rfl, ab⟩
 refine ⟨_, rfl, ?_⟩
 replace hk := thenB hk ab
 replace hT := Sha.Tabs.below hT ab
 refine w_mv (ex (.tuple #[.string (str ([] : List (BitVec 8))), .int .i64 8])) (w_val ye (w_val ye (w_as es (w_as ei (nt (sr (w_mv ei (w_val (y_bin ei Ev.c b_eql) (w_mv eb (w_val_g (v := .int .i64 0) (wy rfl rfl eb) (y_mv ei) (w_val_g (wy rfl rfl eb) (y_bin ei Ev.c b_eql) (w_val (y_pick_t eb eb) (w_mv eb (w_val_g (v := .string (str (Ch.sealed 256 16 Ch.wk (Ch.wk.take 16) Ch.wx Cb.wt))) (wy rfl rfl eb) (y_mv es) (w_val_g (wy rfl rfl eb) (y_len es Tryd.underlying9) (w_val_g (wy rfl rfl eb) (y_bin ei Ev.c b_eql) (w_val (y_pick_t eb eb) (w_mv eb ?_))))))))))))))))))
 have aa : (((Ch.sealed 256 16 Ch.wk (Ch.wk.take 16) Ch.wx Cb.wt).length : Nat) : Int) = 32 := by rw [Ch.wlen]; rfl
 refine w_val_g (v := .string (str Cb.wt)) (wy rfl rfl (eb (dt aa))) (y_mv es) (w_val_g (wy rfl rfl (eb (dt aa))) (y_bin es (evc (.string (str Cb.wt))) b_eqs_same) (w_val (y_pick_t (eb (dt aa)) eb) (w_mv eb (w_val_g (v := .int .i64 8) (wy rfl rfl eb) (y_mv ei) (w_val_g (wy rfl rfl eb) (y_bin ei Ev.c b_eql) (w_val (y_pick_t eb eb) (w_as eb (nt (wp_ret (fin_ret1 rfl eb ?_))))))))))
 exact ⟨rfl, hk⟩
end Go.Proofs.YtepogbfkmflooaaDoor
