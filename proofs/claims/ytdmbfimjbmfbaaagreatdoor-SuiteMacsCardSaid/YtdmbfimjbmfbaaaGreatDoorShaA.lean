/-
  Digests: sizes, turned words, a new hash. Conditions as each says.
-/
import Derived.Test.YtdmbfimjbmfbaaaGreatDoorRows
import Derived.Test.YtdmbfimjbmfbaaaGreatDoorGenMore
import Derived.Test.YtdmbfimjbmfbaaaGreatDoorShaTab
import Derived.Test.YtdmbfimjbmfbaaaGreatDoorGenSh
import Derived.ProofKit
namespace Go.Proofs.YtdmbfimjbmfbaaaGreatDoor
open Go.RowKit
set_option linter.unusedSimpArgs false
set_option linter.unusedVariables false
set_option maxRecDepth 100000
set_option maxHeartbeats 1000000
namespace ShaAT
theorem mixed : Tryz.prog.follows .mixedOrders = true := by kernel_rfl
theorem fa139_1 (g off : Nat) : ∀ w, (Instr.fieldAt 139 (.pointer (some ⟨g, off, none⟩)) 1).run Tryz.prog w = .ok (.pointer (some ⟨g, off + 1, none⟩)) w := fun w => by kernel_rfl
theorem so3 : (Tryz.prog.underlying 3).isSome = true := by rw [Tryz.underlying3]; rfl
theorem sz93 : (Tryz.prog.info? 93).map (·.size) = some 8 := by kernel_rfl
end ShaAT
theorem rotl32_c (x : BitVec 32) (k : Int) (w0 : World) : Calls Tryz.prog 68 #[U32 x, .int .i64 k] w0 fun e w' => e = .returned (U32 (Sha.rl32 x k)) ∧ Below w0.heap.size w0 w' := by
 refine enter (n := 17) Tryz.func68 rfl rfl rfl ?_
 have hk : Below w0.heap.size w0 w0 := Below.refl _ _
 refine sr (w_as (evc (U32 (0#32))) (nt (sr (w_mv ei (w_val (v := U64 (BitVec.ofInt 64 k)) (y_int_u64 ei ShaAT.so3 Tryz.underlying87) (w_val (y_bin e6 (evc (U64 (31#64))) and64) (w_as e6 (nt (sr (w_mv e3 (w_mv e6 (w_val (y_bin e3 e6 (shl32 (c := (((BitVec.ofInt 64 k) &&& (31#64)).toNat)) rfl)) (w_mv e3 (w_mv e6 (w_val (y_bin (evc (U64 (32#64))) e6 sub64) (w_val (y_bin e3 e6 (shr32 (c := (((32#64) - ((BitVec.ofInt 64 k) &&& (31#64))).toNat)) rfl)) (w_val (y_bin e3 e3 or32) (w_as e3 (nt (wp_ret (fin_ret1 rfl e3 ?_)))))))))))))))))))))
 refine ⟨congrArg Ending.returned ?_, hk⟩
 show (U32 ((x <<< (((BitVec.ofInt 64 k) &&& (31#64)).toNat)) ||| (x >>> (((32#64) - ((BitVec.ofInt 64 k) &&& (31#64))).toNat))) : Value) = U32 (Sha.rl32 x k)
 rfl

theorem rotl64_c (x : BitVec 64) (k : Int) (w0 : World) : Calls Tryz.prog 69 #[U64 x, .int .i64 k] w0 fun e w' => e = .returned (U64 (Sha.rl64 x k)) ∧ Below w0.heap.size w0 w' := by
 refine enter (n := 17) Tryz.func69 rfl rfl rfl ?_
 have hk : Below w0.heap.size w0 w0 := Below.refl _ _
 refine sr (w_as (evc (U64 (0#64))) (nt (sr (w_mv ei (w_val (v := U64 (BitVec.ofInt 64 k)) (y_int_u64 ei ShaAT.so3 Tryz.underlying87) (w_val (y_bin e6 (evc (U64 (63#64))) and64) (w_as e6 (nt (sr (w_mv e6 (w_mv e6 (w_val (y_bin e6 e6 (shl64 (c := (((BitVec.ofInt 64 k) &&& (63#64)).toNat)) rfl)) (w_mv e6 (w_mv e6 (w_val (y_bin (evc (U64 (64#64))) e6 sub64) (w_val (y_bin e6 e6 (shr64 (c := (((64#64) - ((BitVec.ofInt 64 k) &&& (63#64))).toNat)) rfl)) (w_val (y_bin e6 e6 or64) (w_as e6 (nt (wp_ret (fin_ret1 rfl e6 ?_)))))))))))))))))))))
 refine ⟨congrArg Ending.returned ?_, hk⟩
 show (U64 ((x <<< (((BitVec.ofInt 64 k) &&& (63#64)).toNat)) ||| (x >>> (((64#64) - ((BitVec.ofInt 64 k) &&& (63#64))).toNat))) : Value) = U64 (Sha.rl64 x k)
 rfl

theorem shaSize_256  (w0 : World) : Calls Tryz.prog 48 #[.int .i64 256] w0 fun e w' => e = .returned (.tuple #[.int .i64 32, .int .i64 64, .int .i64 0]) ∧ Below w0.heap.size w0 w' := by
 refine enter (n := 12) Tryz.func48 rfl rfl rfl ?_
 have hk : Below w0.heap.size w0 w0 := Below.refl _ _
 refine sr (w_as Ev.c (w_as Ev.c (w_as Ev.c (nt (wp_seq (sr (w_mv ei (nt (wp_block (sr (w_val (y_bin ei Ev.c b_eql) (w_as eb (nt (c_tt eb (sr (w_as Ev.c (w_as Ev.c (w_as Ev.c (nt (wp_ret (inb_r (then_r (fin_ret3 rfl ei ei ei ?_)))))))))))))))))))))))
 exact ⟨rfl, hk⟩

theorem shaSize_384  (w0 : World) : Calls Tryz.prog 48 #[.int .i64 384] w0 fun e w' => e = .returned (.tuple #[.int .i64 48, .int .i64 128, .int .i64 0]) ∧ Below w0.heap.size w0 w' := by
 refine enter (n := 12) Tryz.func48 rfl rfl rfl ?_
 have hk : Below w0.heap.size w0 w0 := Below.refl _ _
 refine sr (w_as Ev.c (w_as Ev.c (w_as Ev.c (nt (wp_seq (sr (w_mv ei (nt (wp_block (sr (w_val (y_bin ei Ev.c b_eql) (w_as eb (nt (c_ff eb (sr (w_val (y_bin ei Ev.c b_eql) (w_as eb (nt (c_tt eb (sr (w_as Ev.c (w_as Ev.c (w_as Ev.c (nt (wp_ret (inb_r (then_r (fin_ret3 rfl ei ei ei ?_))))))))))))))))))))))))))))
 exact ⟨rfl, hk⟩

theorem shaSize_512  (w0 : World) : Calls Tryz.prog 48 #[.int .i64 512] w0 fun e w' => e = .returned (.tuple #[.int .i64 64, .int .i64 128, .int .i64 0]) ∧ Below w0.heap.size w0 w' := by
 refine enter (n := 12) Tryz.func48 rfl rfl rfl ?_
 have hk : Below w0.heap.size w0 w0 := Below.refl _ _
 refine sr (w_as Ev.c (w_as Ev.c (w_as Ev.c (nt (wp_seq (sr (w_mv ei (nt (wp_block (sr (w_val (y_bin ei Ev.c b_eql) (w_as eb (nt (c_ff eb (sr (w_val (y_bin ei Ev.c b_eql) (w_as eb (nt (c_ff eb (sr (w_val (y_bin ei Ev.c b_eql) (w_as eb (nt (c_tt eb (sr (w_as Ev.c (w_as Ev.c (w_as Ev.c (nt (wp_ret (inb_r (then_r (fin_ret3 rfl ei ei ei ?_)))))))))))))))))))))))))))))))))
 exact ⟨rfl, hk⟩

theorem shaNew_256  (w0 : World) : Calls Tryz.prog 50 #[.int .i64 256] w0 fun e w' => ∃ p, e = .returned (.tuple #[.pointer (some ⟨p, 0, none⟩), .int .i64 0]) ∧ w0.heap.size ≤ p ∧ Row w' p 139 139 (Sha.hrow (.int .i64 256) (Sha.H0 256) (fun _ => 0#8) (.int .i64 0) (U64 (0#64))) ∧ Below w0.heap.size w0 w' := by
 refine enter (n := 28) Tryz.func50 rfl rfl rfl ?_
 have hk : Below w0.heap.size w0 w0 := Below.refl _ _
 refine sr (w_as Ev.c (w_as Ev.c (nt (sr (w_mv ei (w_val (v := .agg (arr 139 (Sha.hrow (.int .i64 256) (fun _ => 0#64) (fun _ => 0#8) (.int .i64 0) (U64 (0#64))))) (y_build (vs := #[(0, .int .i64 256)]) (mp_cons ei mp0) (fun w => by kernel_rfl)) (w_box (m := 139) (F := Sha.hrow (.int .i64 256) (fun _ => 0#64) (fun _ => 0#8) (.int .i64 0) (U64 (0#64))) ea rfl ?_)))))))
 intro ac w1 aa ab af
 have ad := gb_ hk.size aa
 clear aa
 replace hk := thenB hk af
 refine w_as (ex (pt ac 0)) (nt (wp_seq (sr (w_mv ei (nt (wp_block (sr (w_val (y_bin ei Ev.c b_eql) (w_as eb (nt (c_tt eb (wp_region_lit (w_mv (ex (pt ac 0)) (w_val (v := .agg (arr 8 (fun j => if j < 1 then U64 (1779033703#64) else if j < 2 then U64 (3144134277#64) else if j < 3 then U64 (1013904242#64) else if j < 4 then U64 (2773480762#64) else if j < 5 then U64 (1359893119#64) else if j < 6 then U64 (2600822924#64) else if j < 7 then U64 (528734635#64) else U64 (1541459225#64)))) (y_build (vs := #[(0, U64 (1779033703#64)), (1, U64 (3144134277#64)), (2, U64 (1013904242#64)), (3, U64 (2773480762#64)), (4, U64 (1359893119#64)), (5, U64 (2600822924#64)), (6, U64 (528734635#64)), (7, U64 (1541459225#64))]) (mp_cons (evc (U64 (1779033703#64))) (mp_cons (evc (U64 (3144134277#64))) (mp_cons (evc (U64 (1013904242#64))) (mp_cons (evc (U64 (2773480762#64))) (mp_cons (evc (U64 (1359893119#64))) (mp_cons (evc (U64 (2600822924#64))) (mp_cons (evc (U64 (528734635#64))) (mp_cons (evc (U64 (1541459225#64))) mp0)))))))) (fun w => by kernel_rfl)) (w_val (y_nc (ex (pt ac 0))) (w_val (v := pt ac 1) (y_off (y_fa (ex (pt ac 0)) (ShaAT.fa139_1 _ _)) ro) (w_sta (k := 8) (G := fun j => if j < 1 then U64 (1779033703#64) else if j < 2 then U64 (3144134277#64) else if j < 3 then U64 (1013904242#64) else if j < 4 then U64 (2773480762#64) else if j < 5 then U64 (1359893119#64) else if j < 6 then U64 (2600822924#64) else if j < 7 then U64 (528734635#64) else U64 (1541459225#64)) (ex (pt ac 1)) ea oc ShaAT.sz93 ab om ?_)))))))))))))))))
 clear ab; intro w3 ab ae _
 replace hk := thenG hk ae om
 refine wpList_nil (inb_n (then_n (sr (w_mv (ex (pt ac 0)) (w_as (ex (pt ac 0)) (w_as Ev.c (nt (wp_ret (fin_ret2 rfl (ex (pt ac 0)) ei ?_)))))))))
 refine ⟨ac, rfl, ad, ab.congr (fun j hj => ?_), hk⟩
 exact Sha.new_row (.int .i64 256) (fun j => if j < 1 then U64 (1779033703#64) else if j < 2 then U64 (3144134277#64) else if j < 3 then U64 (1013904242#64) else if j < 4 then U64 (2773480762#64) else if j < 5 then U64 (1359893119#64) else if j < 6 then U64 (2600822924#64) else if j < 7 then U64 (528734635#64) else U64 (1541459225#64)) (fun _ => 0#64) (Sha.H0 256) (fun _ => 0#8) (.int .i64 0) (U64 0#64) j (fun i hi => by rcases (by omega : i = 0 ∨ i = 1 ∨ i = 2 ∨ i = 3 ∨ i = 4 ∨ i = 5 ∨ i = 6 ∨ i = 7) with h | h | h | h | h | h | h | h <;> subst h <;> exact congrArg U64 (by decide +kernel))

theorem shaNew_384  (w0 : World) : Calls Tryz.prog 50 #[.int .i64 384] w0 fun e w' => ∃ p, e = .returned (.tuple #[.pointer (some ⟨p, 0, none⟩), .int .i64 0]) ∧ w0.heap.size ≤ p ∧ Row w' p 139 139 (Sha.hrow (.int .i64 384) (Sha.H0 384) (fun _ => 0#8) (.int .i64 0) (U64 (0#64))) ∧ Below w0.heap.size w0 w' := by
 refine enter (n := 28) Tryz.func50 rfl rfl rfl ?_
 have hk : Below w0.heap.size w0 w0 := Below.refl _ _
 refine sr (w_as Ev.c (w_as Ev.c (nt (sr (w_mv ei (w_val (v := .agg (arr 139 (Sha.hrow (.int .i64 384) (fun _ => 0#64) (fun _ => 0#8) (.int .i64 0) (U64 (0#64))))) (y_build (vs := #[(0, .int .i64 384)]) (mp_cons ei mp0) (fun w => by kernel_rfl)) (w_box (m := 139) (F := Sha.hrow (.int .i64 384) (fun _ => 0#64) (fun _ => 0#8) (.int .i64 0) (U64 (0#64))) ea rfl ?_)))))))
 intro ac w1 aa ab af
 have ad := gb_ hk.size aa
 clear aa
 replace hk := thenB hk af
 refine w_as (ex (pt ac 0)) (nt (wp_seq (sr (w_mv ei (nt (wp_block (sr (w_val (y_bin ei Ev.c b_eql) (w_as eb (nt (c_ff eb (sr (w_val (y_bin ei Ev.c b_eql) (w_as eb (nt (c_tt eb (wp_region_lit (w_mv (ex (pt ac 0)) (w_val (v := .agg (arr 8 (fun j => if j < 1 then U64 (14680500436340154072#64) else if j < 2 then U64 (7105036623409894663#64) else if j < 3 then U64 (10473403895298186519#64) else if j < 4 then U64 (1526699215303891257#64) else if j < 5 then U64 (7436329637833083697#64) else if j < 6 then U64 (10282925794625328401#64) else if j < 7 then U64 (15784041429090275239#64) else U64 (5167115440072839076#64)))) (y_build (vs := #[(0, U64 (14680500436340154072#64)), (1, U64 (7105036623409894663#64)), (2, U64 (10473403895298186519#64)), (3, U64 (1526699215303891257#64)), (4, U64 (7436329637833083697#64)), (5, U64 (10282925794625328401#64)), (6, U64 (15784041429090275239#64)), (7, U64 (5167115440072839076#64))]) (mp_cons (evc (U64 (14680500436340154072#64))) (mp_cons (evc (U64 (7105036623409894663#64))) (mp_cons (evc (U64 (10473403895298186519#64))) (mp_cons (evc (U64 (1526699215303891257#64))) (mp_cons (evc (U64 (7436329637833083697#64))) (mp_cons (evc (U64 (10282925794625328401#64))) (mp_cons (evc (U64 (15784041429090275239#64))) (mp_cons (evc (U64 (5167115440072839076#64))) mp0)))))))) (fun w => by kernel_rfl)) (w_val (y_nc (ex (pt ac 0))) (w_val (v := pt ac 1) (y_off (y_fa (ex (pt ac 0)) (ShaAT.fa139_1 _ _)) ro) (w_sta (k := 8) (G := fun j => if j < 1 then U64 (14680500436340154072#64) else if j < 2 then U64 (7105036623409894663#64) else if j < 3 then U64 (10473403895298186519#64) else if j < 4 then U64 (1526699215303891257#64) else if j < 5 then U64 (7436329637833083697#64) else if j < 6 then U64 (10282925794625328401#64) else if j < 7 then U64 (15784041429090275239#64) else U64 (5167115440072839076#64)) (ex (pt ac 1)) ea oc ShaAT.sz93 ab om ?_))))))))))))))))))))))
 clear ab; intro w3 ab ae _
 replace hk := thenG hk ae om
 refine wpList_nil (inb_n (then_n (sr (w_mv (ex (pt ac 0)) (w_as (ex (pt ac 0)) (w_as Ev.c (nt (wp_ret (fin_ret2 rfl (ex (pt ac 0)) ei ?_)))))))))
 refine ⟨ac, rfl, ad, ab.congr (fun j hj => ?_), hk⟩
 exact Sha.new_row (.int .i64 384) (fun j => if j < 1 then U64 (14680500436340154072#64) else if j < 2 then U64 (7105036623409894663#64) else if j < 3 then U64 (10473403895298186519#64) else if j < 4 then U64 (1526699215303891257#64) else if j < 5 then U64 (7436329637833083697#64) else if j < 6 then U64 (10282925794625328401#64) else if j < 7 then U64 (15784041429090275239#64) else U64 (5167115440072839076#64)) (fun _ => 0#64) (Sha.H0 384) (fun _ => 0#8) (.int .i64 0) (U64 0#64) j (fun i hi => by rcases (by omega : i = 0 ∨ i = 1 ∨ i = 2 ∨ i = 3 ∨ i = 4 ∨ i = 5 ∨ i = 6 ∨ i = 7) with h | h | h | h | h | h | h | h <;> subst h <;> exact congrArg U64 (by decide +kernel))

theorem shaNew_512  (w0 : World) : Calls Tryz.prog 50 #[.int .i64 512] w0 fun e w' => ∃ p, e = .returned (.tuple #[.pointer (some ⟨p, 0, none⟩), .int .i64 0]) ∧ w0.heap.size ≤ p ∧ Row w' p 139 139 (Sha.hrow (.int .i64 512) (Sha.H0 512) (fun _ => 0#8) (.int .i64 0) (U64 (0#64))) ∧ Below w0.heap.size w0 w' := by
 refine enter (n := 28) Tryz.func50 rfl rfl rfl ?_
 have hk : Below w0.heap.size w0 w0 := Below.refl _ _
 refine sr (w_as Ev.c (w_as Ev.c (nt (sr (w_mv ei (w_val (v := .agg (arr 139 (Sha.hrow (.int .i64 512) (fun _ => 0#64) (fun _ => 0#8) (.int .i64 0) (U64 (0#64))))) (y_build (vs := #[(0, .int .i64 512)]) (mp_cons ei mp0) (fun w => by kernel_rfl)) (w_box (m := 139) (F := Sha.hrow (.int .i64 512) (fun _ => 0#64) (fun _ => 0#8) (.int .i64 0) (U64 (0#64))) ea rfl ?_)))))))
 intro ac w1 aa ab af
 have ad := gb_ hk.size aa
 clear aa
 replace hk := thenB hk af
 refine w_as (ex (pt ac 0)) (nt (wp_seq (sr (w_mv ei (nt (wp_block (sr (w_val (y_bin ei Ev.c b_eql) (w_as eb (nt (c_ff eb (sr (w_val (y_bin ei Ev.c b_eql) (w_as eb (nt (c_ff eb (sr (w_val (y_bin ei Ev.c b_eql) (w_as eb (nt (c_tt eb (wp_region_lit (w_mv (ex (pt ac 0)) (w_val (v := .agg (arr 8 (fun j => if j < 1 then U64 (7640891576956012808#64) else if j < 2 then U64 (13503953896175478587#64) else if j < 3 then U64 (4354685564936845355#64) else if j < 4 then U64 (11912009170470909681#64) else if j < 5 then U64 (5840696475078001361#64) else if j < 6 then U64 (11170449401992604703#64) else if j < 7 then U64 (2270897969802886507#64) else U64 (6620516959819538809#64)))) (y_build (vs := #[(0, U64 (7640891576956012808#64)), (1, U64 (13503953896175478587#64)), (2, U64 (4354685564936845355#64)), (3, U64 (11912009170470909681#64)), (4, U64 (5840696475078001361#64)), (5, U64 (11170449401992604703#64)), (6, U64 (2270897969802886507#64)), (7, U64 (6620516959819538809#64))]) (mp_cons (evc (U64 (7640891576956012808#64))) (mp_cons (evc (U64 (13503953896175478587#64))) (mp_cons (evc (U64 (4354685564936845355#64))) (mp_cons (evc (U64 (11912009170470909681#64))) (mp_cons (evc (U64 (5840696475078001361#64))) (mp_cons (evc (U64 (11170449401992604703#64))) (mp_cons (evc (U64 (2270897969802886507#64))) (mp_cons (evc (U64 (6620516959819538809#64))) mp0)))))))) (fun w => by kernel_rfl)) (w_val (y_nc (ex (pt ac 0))) (w_val (v := pt ac 1) (y_off (y_fa (ex (pt ac 0)) (ShaAT.fa139_1 _ _)) ro) (w_sta (k := 8) (G := fun j => if j < 1 then U64 (7640891576956012808#64) else if j < 2 then U64 (13503953896175478587#64) else if j < 3 then U64 (4354685564936845355#64) else if j < 4 then U64 (11912009170470909681#64) else if j < 5 then U64 (5840696475078001361#64) else if j < 6 then U64 (11170449401992604703#64) else if j < 7 then U64 (2270897969802886507#64) else U64 (6620516959819538809#64)) (ex (pt ac 1)) ea oc ShaAT.sz93 ab om ?_)))))))))))))))))))))))))))
 clear ab; intro w3 ab ae _
 replace hk := thenG hk ae om
 refine wpList_nil (inb_n (then_n (sr (w_mv (ex (pt ac 0)) (w_as (ex (pt ac 0)) (w_as Ev.c (nt (wp_ret (fin_ret2 rfl (ex (pt ac 0)) ei ?_)))))))))
 refine ⟨ac, rfl, ad, ab.congr (fun j hj => ?_), hk⟩
 exact Sha.new_row (.int .i64 512) (fun j => if j < 1 then U64 (7640891576956012808#64) else if j < 2 then U64 (13503953896175478587#64) else if j < 3 then U64 (4354685564936845355#64) else if j < 4 then U64 (11912009170470909681#64) else if j < 5 then U64 (5840696475078001361#64) else if j < 6 then U64 (11170449401992604703#64) else if j < 7 then U64 (2270897969802886507#64) else U64 (6620516959819538809#64)) (fun _ => 0#64) (Sha.H0 512) (fun _ => 0#8) (.int .i64 0) (U64 0#64) j (fun i hi => by rcases (by omega : i = 0 ∨ i = 1 ∨ i = 2 ∨ i = 3 ∨ i = 4 ∨ i = 5 ∨ i = 6 ∨ i = 7) with h | h | h | h | h | h | h | h <;> subst h <;> exact congrArg U64 (by decide +kernel))

end Go.Proofs.YtdmbfimjbmfbaaaGreatDoor
