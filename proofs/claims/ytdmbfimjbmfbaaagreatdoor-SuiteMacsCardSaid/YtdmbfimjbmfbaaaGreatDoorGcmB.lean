/-
  Sealing and opening, by the program. Conditions as each says.
-/
import Derived.Test.YtdmbfimjbmfbaaaGreatDoorRows
import Derived.Test.YtdmbfimjbmfbaaaGreatDoorGcmA
import Derived.Test.YtdmbfimjbmfbaaaGreatDoorGenSh
import Derived.ProofKit
namespace Go.Proofs.YtdmbfimjbmfbaaaGreatDoor
open Go.RowKit
set_option linter.unusedSimpArgs false
set_option linter.unusedVariables false
set_option maxRecDepth 100000
set_option maxHeartbeats 1000000
namespace GcmBT
theorem mixed : Tryz.prog.follows .mixedOrders = true := by kernel_rfl
theorem fa170_0 (g off : Nat) : ∀ w, (Instr.fieldAt 170 (.pointer (some ⟨g, off, none⟩)) 0).run Tryz.prog w = .ok (.pointer (some ⟨g, off + 0, none⟩)) w := fun w => by kernel_rfl
theorem fa170_1 (g off : Nat) : ∀ w, (Instr.fieldAt 170 (.pointer (some ⟨g, off, none⟩)) 1).run Tryz.prog w = .ok (.pointer (some ⟨g, off + 1, none⟩)) w := fun w => by kernel_rfl
theorem fa170_2 (g off : Nat) : ∀ w, (Instr.fieldAt 170 (.pointer (some ⟨g, off, none⟩)) 2).run Tryz.prog w = .ok (.pointer (some ⟨g, off + 2, none⟩)) w := fun w => by kernel_rfl
theorem fa172_0 (g off : Nat) : ∀ w, (Instr.fieldAt 172 (.pointer (some ⟨g, off, none⟩)) 0).run Tryz.prog w = .ok (.pointer (some ⟨g, off + 0, none⟩)) w := fun w => by kernel_rfl
theorem fa172_1 (g off : Nat) : ∀ w, (Instr.fieldAt 172 (.pointer (some ⟨g, off, none⟩)) 1).run Tryz.prog w = .ok (.pointer (some ⟨g, off + 3, none⟩)) w := fun w => by kernel_rfl
theorem sc71 : (Tryz.prog.underlying 71).map scal = some true := by rw [Tryz.underlying71]; rfl
theorem sc9 : (Tryz.prog.underlying 9).map scal = some true := by rw [Tryz.underlying9]; rfl
theorem so3 : (Tryz.prog.underlying 3).isSome = true := by rw [Tryz.underlying3]; rfl
theorem sz9 : (Tryz.prog.info? 9).map (·.size) = some 1 := by kernel_rfl
end GcmBT
theorem gmSeal_y (f : Nat → BitVec 64) (key v aad : List (BitVec 8)) (size : Nat) (hok : Aes.okKey key.length) (hv : 1 ≤ v.length ∧ v.length ≤ 1024) (h12 : 12 ≤ size) (h16 : size ≤ 16) (ha : aad.length ≤ 70000) (text : List (BitVec 8)) (hl : text.length ≤ 1000000000000000) (ht : text.length ≤ 70000) (w0 : World) (hF : Gh.Fold w0 f) : Calls Tryz.prog 90 #[.string (str key), .string (str v), .string (str aad), .string (str text), .int .i64 ((size : Nat) : Int)] w0 fun e w' => e = .returned (.tuple #[.string (str (Gm.sealed f key v aad text size)), .int .i64 0]) ∧ Below w0.heap.size w0 w' := by
 have aj := hF.2
 refine enter (n := 39) Tryz.func90 rfl rfl rfl ?_
 have hk : Below w0.heap.size w0 w0 := Below.refl _ _
 refine sr (w_as (evc (.string (str ([] : List (BitVec 8))))) (w_as Ev.c (nt (sr (w_mv es (w_mv es (w_mv es (w_mv ei (w_call (Tryz.func91) kr rfl (m4 es es es ei) (gmBegin_y f key v aad size hok hv h12 h16 ha w0 hF) ?_)))))))))
 rintro _ w1 ⟨p, g, rfl, af, ad, hc, aa, ae⟩
 refine ⟨_, rfl, ?_⟩
 have ah : w0.heap.size ≤ p := by have := hk.size; omega
 have ag : w0.heap.size ≤ g := by have := hk.size; omega
 replace hk := thenB hk ae
 replace hF := Gh.Fold.below hF ae
 refine w_mv (ex (.tuple #[pt g 0, .int .i64 0])) (w_val ye (w_val ye (w_as (ex (pt g 0)) (w_as ei (nt (wp_seq (sr (w_mv ei (w_val (y_bin ei Ev.c b_neq) (nt (c_ff eb (wp_skip (then_n (wp_seq (sr (w_mv es (w_val (y_len es Tryz.underlying9) (w_val (y_bin ei Ev.c b_gtr) (nt ?_)))))))))))))))))))
 have ai : ¬ (70000 < ((text.length : Nat) : Int)) := by omega
 refine c_f (p := 70000 < ((text.length : Nat) : Int)) eb ai (wp_skip (then_n (sr (w_mv (ex (pt g 0)) (w_mv es (w_call (Tryz.func93) kr rfl (m2 (ex (pt g 0)) es) (gmXor f p g key v text hok ht w1 aa) ?_))))))
 rintro _ w3 ⟨rfl, ac⟩
 refine ⟨_, rfl, ?_⟩
 replace aa := aa.step ac
 replace hk := thenB hk ac
 replace hF := Gh.Fold.below hF ac
 replace hc := hc.below ac
 refine w_as es (nt (sr (w_mv es (w_mv (ex (pt g 0)) (w_mv es (w_mv es (w_mv ei (w_call (Tryz.func92) kr rfl (m4 (ex (pt g 0)) es es ei) (gmTag f p g key v aad (Gm.xr f key v text) hok size h16 ha (by simp only [Gm.xr_len, List.length_take]; omega) w3 aa hc hF) ?_))))))))
 rintro _ w5 ⟨rfl, ab⟩
 refine ⟨_, rfl, ?_⟩
 replace aa := aa.step ab
 replace hk := thenB hk ab
 replace hF := Gh.Fold.below hF ab
 replace hc := hc.below ab
 refine w_val (y_bin es es (b_cat (by rw [Gm.xr_len, Gm.tg_len _ _ _ _ _ _ hok h16]; omega))) (w_as es (w_as Ev.c (nt (wp_ret (fin_ret2 rfl es ei ?_)))))
 refine ⟨congrArg Ending.returned ?_, hk⟩
 show (.tuple #[.string (str ((Gm.xr f key v text) ++ (Gm.tg f key v aad (Gm.xr f key v text) size))), .int .i64 0] : Value) = .tuple #[.string (str (Gm.sealed f key v aad text size)), .int .i64 0]
 first | with_reducible rfl | (with_reducible congr 1 <;> omega) | (with_reducible congr 2 <;> omega) | (with_reducible congr 3 <;> omega) | rfl

theorem gmOpen_y (f : Nat → BitVec 64) (key v aad : List (BitVec 8)) (size : Nat) (hok : Aes.okKey key.length) (hv : 1 ≤ v.length ∧ v.length ≤ 1024) (h12 : 12 ≤ size) (h16 : size ≤ 16) (ha : aad.length ≤ 70000) (text : List (BitVec 8)) (hl : text.length ≤ 1000000000000000) (m : Nat) (hm : text.length = m + size) (h7 : m ≤ 70000) (hb : Gm.tg f key v aad (text.take m) size = text.drop m) (w0 : World) (hF : Gh.Fold w0 f) : Calls Tryz.prog 89 #[.string (str key), .string (str v), .string (str aad), .string (str text), .int .i64 ((size : Nat) : Int)] w0 fun e w' => e = .returned (.tuple #[.string (str (Gm.xr f key v (text.take m))), .int .i64 0]) ∧ Below w0.heap.size w0 w' := by
 have al := hF.2
 refine enter (n := 53) Tryz.func89 rfl rfl rfl ?_
 have hk : Below w0.heap.size w0 w0 := Below.refl _ _
 refine sr (w_as (evc (.string (str ([] : List (BitVec 8))))) (w_as Ev.c (nt (sr (w_mv es (w_mv es (w_mv es (w_mv ei (w_call (Tryz.func91) kr rfl (m4 es es es ei) (gmBegin_y f key v aad size hok hv h12 h16 ha w0 hF) ?_)))))))))
 rintro _ w1 ⟨p, g, rfl, ag, ae, hc, aa, af⟩
 refine ⟨_, rfl, ?_⟩
 have ak : w0.heap.size ≤ p := by have := hk.size; omega
 have ah : w0.heap.size ≤ g := by have := hk.size; omega
 replace hk := thenB hk af
 replace hF := Gh.Fold.below hF af
 refine w_mv (ex (.tuple #[pt g 0, .int .i64 0])) (w_val ye (w_val ye (w_as (ex (pt g 0)) (w_as ei (nt (wp_seq (sr (w_mv ei (w_val (y_bin ei Ev.c b_neq) (nt (c_ff eb (wp_skip (then_n (sr (w_mv es (w_val (y_len es Tryz.underlying9) (w_mv ei (w_val (y_bin ei ei (b_sub om)) (w_as ei (nt (wp_seq (sr (w_mv (ex (.int .i64 ((m : Nat) : Int)) (Eq.trans (b := .int .i64 (((text.length : Nat) : Int) - ((size : Nat) : Int))) rfl (by congr 1; omega))) (w_val (y_bin ei Ev.c b_lss) (w_mv eb ?_)))))))))))))))))))))))))
 have ad : ¬ (((m : Nat) : Int) < 0) := by omega
 refine w_val_g (v := .int .i64 ((m : Nat) : Int)) (wy rfl rfl (eb (df ad))) (y_mv (ex (.int .i64 ((m : Nat) : Int)) (Eq.trans (b := .int .i64 (((text.length : Nat) : Int) - ((size : Nat) : Int))) rfl (by congr 1; omega)))) (w_val_g (wy rfl rfl (eb (df ad))) (y_bin ei Ev.c b_gtr) (w_val (y_pick_f (eb (df ad)) eb) (nt ?_)))
 have ai : ¬ (70000 < ((m : Nat) : Int)) := by omega
 refine c_f (p := 70000 < ((m : Nat) : Int)) eb ai (wp_skip (then_n (ss (region_q GcmBT.mixed kr (q_mv (ex (pt g 0)) (q_mv es (q_mv es (q_mv (ex (.int .i64 ((m : Nat) : Int)) (Eq.trans (b := .int .i64 (((text.length : Nat) : Int) - ((size : Nat) : Int))) rfl (by congr 1; omega))) (q_val (v := .string (str (text.take m))) (fun w' hw' => y_sls (ex (.string (str text))) evo.no (evo.s ei) Tryz.underlying9 (bnd_h (h := m) om om)) (q_mv ei (q_call (v := .string (str (Gm.tg f key v aad (text.take m) size))) (Tryz.func92) kr rfl (m4 (ex (pt g 0)) es es ei) (fun w' hw' => gmTag f p g key v aad (text.take m) hok size h16 ha (by simp only [Gm.xr_len, List.length_take]; omega) w' (aa.step hw') (CiphAt.below hc hw') (Gh.Fold.below hF hw')) (q_mv es (q_mv (ex (.int .i64 ((m : Nat) : Int)) (Eq.trans (b := .int .i64 (((text.length : Nat) : Int) - ((size : Nat) : Int))) rfl (by congr 1; omega))) (q_val (v := .string (str (text.drop m))) (fun w' hw' => y_slf (ex (.string (str text))) (evo.s ei) Tryz.underlying9 (bnd_l (l := m) om om)) (q_call (v := .bool (decide ((Gm.tg f key v aad (text.take m) size) = (text.drop m)))) (Tryz.func17) kr rfl (m2 es es) (fun w' hw' => same_c (Gm.tg f key v aad (text.take m) size) (text.drop m) (by rw [Gm.tg_len _ _ _ _ _ _ hok h16]; omega) w') (q_val (fun w' hw' => y_notp eb) (q_nil ?_)))))))))))))))))
 intro w4 ab
 replace aa := aa.step ab
 replace hk := thenB hk ab
 replace hF := Gh.Fold.below hF ab
 replace hc := hc.below ab
 refine then_n ?_
 have aj : ¬ (¬ ((Gm.tg f key v aad (text.take m) size) = (text.drop m))) := by exact fun h => h hb
 refine c_f (p := ¬ ((Gm.tg f key v aad (text.take m) size) = (text.drop m))) eb aj (wp_skip (then_n (sr (w_mv (ex (pt g 0)) (w_mv es (w_mv (ex (.int .i64 ((m : Nat) : Int)) (Eq.trans (b := .int .i64 (((text.length : Nat) : Int) - ((size : Nat) : Int))) rfl (by congr 1; omega))) (w_val (v := .string (str (text.take m))) (y_sls (ex (.string (str text))) evo.no (evo.s ei) Tryz.underlying9 (bnd_h (h := m) om om)) (w_call (Tryz.func93) kr rfl (m2 (ex (pt g 0)) es) (gmXor f p g key v (text.take m) hok (by simp only [List.length_take]; omega) w4 aa) ?_))))))))
 rintro _ w7 ⟨rfl, ac⟩
 refine ⟨_, rfl, ?_⟩
 replace aa := aa.step ac
 replace hk := thenB hk ac
 replace hF := Gh.Fold.below hF ac
 replace hc := hc.below ac
 refine w_as es (w_as Ev.c (nt (wp_ret (fin_ret2 rfl es ei ?_))))
 exact ⟨rfl, hk⟩

end Go.Proofs.YtdmbfimjbmfbaaaGreatDoor
