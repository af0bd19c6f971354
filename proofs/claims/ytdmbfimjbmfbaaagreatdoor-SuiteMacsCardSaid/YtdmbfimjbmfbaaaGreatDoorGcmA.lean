/-
  Runs: what the program's inner functions compute. Conditions as each says.
-/
import Derived.Test.YtdmbfimjbmfbaaaGreatDoorRows
import Derived.Test.YtdmbfimjbmfbaaaGreatDoorAesBackPlain
import Derived.Test.YtdmbfimjbmfbaaaGreatDoorGhB
import Derived.Test.YtdmbfimjbmfbaaaGreatDoorCtrC
import Derived.Test.YtdmbfimjbmfbaaaGreatDoorAesRefEq
import Derived.Test.YtdmbfimjbmfbaaaGreatDoorOctW
import Derived.Test.YtdmbfimjbmfbaaaGreatDoorGenMore
import Derived.Test.YtdmbfimjbmfbaaaGreatDoorGenSh
import Derived.ProofKit
namespace Go.Proofs.YtdmbfimjbmfbaaaGreatDoor
open Go.RowKit
set_option linter.unusedSimpArgs false
set_option linter.unusedVariables false
set_option maxRecDepth 100000
set_option maxHeartbeats 1000000
namespace GcmAT
theorem mixed : Tryz.prog.follows .mixedOrders = true := by kernel_rfl
theorem fa170_0 (g off : Nat) : ∀ w, (Instr.fieldAt 170 (.pointer (some ⟨g, off, none⟩)) 0).run Tryz.prog w = .ok (.pointer (some ⟨g, off + 0, none⟩)) w := fun w => by kernel_rfl
theorem fa170_1 (g off : Nat) : ∀ w, (Instr.fieldAt 170 (.pointer (some ⟨g, off, none⟩)) 1).run Tryz.prog w = .ok (.pointer (some ⟨g, off + 1, none⟩)) w := fun w => by kernel_rfl
theorem fa170_2 (g off : Nat) : ∀ w, (Instr.fieldAt 170 (.pointer (some ⟨g, off, none⟩)) 2).run Tryz.prog w = .ok (.pointer (some ⟨g, off + 2, none⟩)) w := fun w => by kernel_rfl
theorem fa172_0 (g off : Nat) : ∀ w, (Instr.fieldAt 172 (.pointer (some ⟨g, off, none⟩)) 0).run Tryz.prog w = .ok (.pointer (some ⟨g, off + 0, none⟩)) w := fun w => by kernel_rfl
theorem fa172_1 (g off : Nat) : ∀ w, (Instr.fieldAt 172 (.pointer (some ⟨g, off, none⟩)) 1).run Tryz.prog w = .ok (.pointer (some ⟨g, off + 3, none⟩)) w := fun w => by kernel_rfl
theorem sc71 : (Tryz.prog.underlying 71).map scal = some true := by rw [Tryz.underlying71]; rfl
theorem sc9 : (Tryz.prog.underlying 9).map scal = some true := by rw [Tryz.underlying9]; rfl
theorem so3 : (Tryz.prog.underlying 3).isSome = true := by rw [Tryz.underlying3]; rfl
theorem sz9 : (Tryz.prog.info? 9).map (·.size) = some 1 := by kernel_rfl
end GcmAT
theorem gmFilled (s : List (BitVec 8)) (hs : s.length ≤ 1000000) (w0 : World) : Calls Tryz.prog 96 #[.string (str s)] w0 fun e w' => e = .returned (.string (str (Cb.z s))) ∧ Below w0.heap.size w0 w' := by
 refine enter (n := 11) Tryz.func96 rfl rfl rfl ?_
 have hk : Below w0.heap.size w0 w0 := Below.refl _ _
 refine sr (w_as (evc (.string (str ([] : List (BitVec 8))))) (nt (sr (w_mv es (w_mv es (w_val (y_len es Tryz.underlying9) (w_val (y_bin ei Ev.c (b_rem om)) (w_val (y_bin Ev.c ei (b_sub om)) (w_val (y_bin ei Ev.c (b_rem om)) (w_call (Tryz.func94) kr rfl (m2 (evc (.string (str ([0#8])))) (ex (.int .i64 ((((16 - (s.length % 16)) % 16) : Nat) : Int)) (Eq.trans (b := .int .i64 ((16 - (((s.length : Nat) : Int) % 16)) % 16)) rfl (by exact congrArg (Value.int .i64) om)))) (rep_c 0#8 ((16 - (s.length % 16)) % 16) om w0) ?_))))))))))
 rintro _ w1 ⟨rfl, aa⟩
 refine ⟨_, rfl, ?_⟩
 replace hk := thenB hk aa
 refine w_val (y_bin es es (b_cat (by simp only [List.length_replicate]; omega))) (w_as es (nt (wp_ret (fin_ret1 rfl es ?_))))
 refine ⟨congrArg Ending.returned ?_, hk⟩
 show (.string (str (s ++ (List.replicate ((16 - (s.length % 16)) % 16) 0#8))) : Value) = .string (str (Cb.z s))
 rfl

theorem gmBits (s : List (BitVec 8)) (hs : s.length ≤ 1000000) (w0 : World) : Calls Tryz.prog 97 #[.string (str s)] w0 fun e w' => e = .returned (.string (str (Gm.bl s))) ∧ Below w0.heap.size w0 w' := by
 refine enter (n := 14) Tryz.func97 rfl rfl rfl ?_
 have hk : Below w0.heap.size w0 w0 := Below.refl _ _
 refine sr (w_as (evc (.string (str ([] : List (BitVec 8))))) (nt (sr (w_mv es (w_val (y_len es Tryz.underlying9) (w_val (y_nat_u64 (p := s.length) ei om GcmAT.so3 Tryz.underlying92) (w_val (y_bin e6 (evc (U64 (8#64))) mul64) (w_call (Tryz.func111) kr rfl (m2 e6 Ev.c) (put_c ((BitVec.ofNat 64 s.length) * (8#64)) 8 (by decide) (by decide) (fun h => absurd h (by decide)) w0) ?_))))))))
 rintro _ w1 ⟨rfl, aa⟩
 refine ⟨_, rfl, ?_⟩
 replace hk := thenB hk aa
 refine w_mv (ex (.tuple #[.string (str (Oct.be ((BitVec.ofNat 64 s.length) * (8#64)) 8)), .int .i64 0])) (w_val ye (w_val ye (w_as es (w_as ei (nt (sr (w_mv es (w_as es (nt (wp_ret (fin_ret1 rfl es ?_)))))))))))
 refine ⟨congrArg Ending.returned ?_, hk⟩
 show (.string (str (Oct.be ((BitVec.ofNat 64 s.length) * (8#64)) 8)) : Value) = .string (str (Gm.bl s))
 exact congrArg (fun x => Value.string (str (Oct.be x 8))) (Gm.mul8 _)

theorem gmBegin_y (f : Nat → BitVec 64) (key v aad : List (BitVec 8)) (size : Nat) (hok : Aes.okKey key.length) (hv : 1 ≤ v.length ∧ v.length ≤ 1024) (h12 : 12 ≤ size) (h16 : size ≤ 16) (ha : aad.length ≤ 70000) (w0 : World) (hF : Gh.Fold w0 f) : Calls Tryz.prog 91 #[.string (str key), .string (str v), .string (str aad), .int .i64 ((size : Nat) : Int)] w0 fun e w' => ∃ p g, e = .returned (.tuple #[.pointer (some ⟨g, 0, none⟩), .int .i64 0]) ∧ w0.heap.size ≤ p ∧ w0.heap.size ≤ g ∧ CiphAt Aes.bk Aes.undo w' p (Aes.words key) ∧ Row w' g 172 4 (fun j => if j < 1 then .string (str key) else if j < 2 then .string (str (Gm.hk key)) else if j < 3 then pt p 0 else .string (str (Gm.first f key v))) ∧ Below w0.heap.size w0 w' := by
 have a8 := hF.2
 refine enter (n := 84) Tryz.func91 rfl rfl rfl ?_
 have hk : Below w0.heap.size w0 w0 := Below.refl _ _
 refine sr (w_as Ev.c (w_as Ev.c (nt (sr (w_mv es (w_call (Tryz.func30) kr rfl (m1 es) (new_l key w0 hok) ?_))))))
 rintro _ w1 ⟨p, rfl, ax, hc, ap⟩
 refine ⟨_, rfl, ?_⟩
 have aq : w0.heap.size ≤ p := by have := hk.size; omega
 replace hk := thenB hk ap
 replace hF := Gh.Fold.below hF ap
 refine w_mv (ex (.tuple #[pt p 0, .int .i64 0])) (w_val ye (w_val ye (w_as (ex (pt p 0)) (w_as ei (nt (wp_seq (wp_block (sr (w_mv ei (w_val (y_bin ei Ev.c b_neq) (w_as eb (nt (c_ff eb (sr (w_mv es (w_val (y_bin es (evc (.string (str ([] : List (BitVec 8))))) b_eqs) (w_mv eb ?_)))))))))))))))))
 have ar : ¬ (v = ([] : List (BitVec 8))) := by exact fun e => by rw [e] at hv; exact absurd hv.1 (by decide)
 refine w_val_g (v := .string (str v)) (wy rfl rfl (eb (df ar))) (y_mv es) (w_val_g (wy rfl rfl (eb (df ar))) (y_len es Tryz.underlying9) (w_val_g (wy rfl rfl (eb (df ar))) (y_bin ei Ev.c b_gtr) (w_val (y_pick_f (eb (df ar)) eb) (w_as eb (nt ?_)))))
 have az : ¬ (1024 < ((v.length : Nat) : Int)) := by omega
 refine c_f (p := 1024 < ((v.length : Nat) : Int)) eb az (sr (w_mv ei (w_val (y_bin ei Ev.c b_lss) (w_mv eb ?_))))
 have av : ¬ (((size : Nat) : Int) < 12) := by omega
 refine w_val_g (v := .int .i64 ((size : Nat) : Int)) (wy rfl rfl (eb (df av))) (y_mv ei) (w_val_g (wy rfl rfl (eb (df av))) (y_bin ei Ev.c b_gtr) (w_val (y_pick_f (eb (df av)) eb) (w_as eb (nt ?_))))
 have ay : ¬ (16 < ((size : Nat) : Int)) := by omega
 refine c_f (p := 16 < ((size : Nat) : Int)) eb ay (sr (w_mv es (w_val (y_len es Tryz.underlying9) (w_val (y_bin ei Ev.c b_gtr) (w_as eb (nt ?_))))))
 have a3 : ¬ (70000 < ((aad.length : Nat) : Int)) := by omega
 refine c_f (p := 70000 < ((aad.length : Nat) : Int)) eb a3 (wp_skip (inb_n (then_n (sr (w_mv es (w_mv (ex (pt p 0)) (w_val (v := .agg (arr 3 (fun j => if j < 1 then .string (str key) else if j < 2 then .string (str ([] : List (BitVec 8))) else pt p 0))) (y_build (vs := #[(0, .string (str key)), (2, pt p 0)]) (mp_cons es (mp_cons (ex (pt p 0)) mp0)) (fun w => by kernel_rfl)) (w_val (v := .agg (arr 4 (fun j => if j < 1 then .string (str key) else if j < 2 then .string (str ([] : List (BitVec 8))) else if j < 3 then pt p 0 else .string (str ([] : List (BitVec 8)))))) (y_build (vs := #[(0, .agg (arr 3 (fun j => if j < 1 then .string (str key) else if j < 2 then .string (str ([] : List (BitVec 8))) else pt p 0)))]) (mp_cons ea mp0) (fun w => by kernel_rfl)) (w_box (m := 4) (F := fun j => if j < 1 then .string (str key) else if j < 2 then .string (str ([] : List (BitVec 8))) else if j < 3 then pt p 0 else .string (str ([] : List (BitVec 8)))) ea rfl ?_)))))))))
 intro ab w7 ac aa aw
 have ae := gb_ hk.size ac
 clear ac
 replace hk := thenB hk aw
 replace hF := Gh.Fold.below hF aw
 replace hc := hc.below aw
 refine w_as (ex (pt ab 0)) (nt (sr (w_mv (ex (pt ab 0)) (w_mv (ex (pt p 0)) (w_call (Tryz.func94) kr rfl (m2 (evc (.string (str ([0#8])))) Ev.c) (rep_c 0#8 16 (by decide) w7) ?_)))))
 rintro _ w9 ⟨rfl, ak⟩
 refine ⟨_, rfl, ?_⟩
 replace aa := aa.step ak
 replace hk := thenB hk ak
 replace hF := Gh.Fold.below hF ak
 replace hc := hc.below ak
 refine w_call (Tryz.func31) kr rfl (m2 (ex (pt p 0)) es) (enc_l p key (List.replicate 16 0#8) w9 hok hc (by rw [List.length_replicate])) ?_
 rintro _ a4 ⟨rfl, al⟩
 refine ⟨_, rfl, ?_⟩
 replace aa := aa.step al
 replace hk := thenB hk al
 replace hF := Gh.Fold.below hF al
 replace hc := hc.below al
 refine w_mv (ex (.tuple #[.string (str (Aes.enc (Aes.words key) (List.replicate 16 0#8))), .int .i64 0])) (w_val ye (w_val ye (w_val (y_nc (ex (pt ab 0))) (w_val (v := pt ab 0) (y_off (y_fa (ex (pt ab 0)) (GcmAT.fa172_0 _ _)) ro) (w_val (v := pt ab 1) (y_off (y_fa (ex (pt ab 0)) (GcmAT.fa170_1 _ _)) ro) ?_)))))
 have ad := CiphAt.onward hc aa (by decide) (by decide)
 refine w_st (v := .string (str (Aes.enc (Aes.words key) (List.replicate 16 0#8)))) (ex (pt ab 1)) es rfl rfl GcmAT.sz9 aa om ?_
 clear aa; intro a9 aa an _
 replace hk := thenG hk an om
 replace hF := Gh.Fold.grown hF an om
 replace hc := ad _ an
 refine nt (wp_seq (sr (w_mv es (w_val (y_len es Tryz.underlying9) (w_val (y_bin ei Ev.c b_eql) (nt ?_))))))
 refine c_if (p := ((v.length : Nat) : Int) = 12) eb (fun hc15 => ?_) (fun hc15 => ?_)
 ·skip
  refine wp_region_lit (w_mv (ex (pt ab 0)) (w_mv es (w_val (y_bin es (evc (.string (str Gm.n1))) (b_cat (by simp only [List.length_append, List.length_replicate, Gm.bl_len, Cb.z_len, Cb.zn, Gm.n1, List.length_cons, List.length_nil]; omega))) (w_val (y_nc (ex (pt ab 0))) (w_val (v := pt ab 3) (y_off (y_fa (ex (pt ab 0)) (GcmAT.fa172_1 _ _)) ro) ?_)))))
  have ad := CiphAt.onward hc aa (by decide) (by decide)
  refine w_st (v := .string (str (v ++ Gm.n1))) (ex (pt ab 3)) es rfl rfl GcmAT.sz9 aa om ?_
  clear aa; intro a6 aa ao _
  replace hk := thenG hk ao om
  replace hF := Gh.Fold.grown hF ao om
  replace hc := ad _ ao
  refine nt (sr (w_mv (ex (pt ab 0)) (w_as (ex (pt ab 0)) (w_as Ev.c (nt (wp_ret (fin_ret2 rfl (ex (pt ab 0)) ei ?_)))))))
  exact ⟨p, ab, rfl, aq, ae, hc, aa.congr (fun j hj => by (try dsimp only); rcases (show j = 0 ∨ j = 1 ∨ j = 2 ∨ j = 3 by omega) with rfl | rfl | rfl | rfl <;> first | rfl | exact congrArg (fun l => Value.string (str l)) (Gm.first_12 f key v om) | exact congrArg (fun l => Value.string (str l)) (Gm.first_n f key v om)), hk⟩
 ·skip
  refine region_dc (Nat.testBit 524288) 20 GcmAT.mixed rfl ?_
  intro au aj
  replace aa := aa.step aj
  replace hk := thenB hk aj
  replace hF := Gh.Fold.below hF aj
  replace hc := hc.below aj
  have hS : Cls au au := Below.refl _ _
  refine dp 0 rfl (fun w' => y_mv (ex (pt ab 0))) (dp 1 rfl (fun w' => y_mv (ex (pt ab 0))) (dp (v := pt ab 0) 2 rfl (fun w' => y_nc (ex (pt ab 0))) (dp (v := pt ab 0) 3 rfl (fun w' => y_off (y_fa (ex (pt ab 0)) (GcmAT.fa172_0 _ _)) ro) (dp (v := pt ab 1) 4 rfl (fun w' => y_off (y_fa (ex (pt ab 0)) (GcmAT.fa170_1 _ _)) ro) (d_take (v := .string (str (Aes.enc (Aes.words key) (List.replicate 16 0#8)))) 5 (Nat.testBit 1040416) rfl kr kr kr kr kr kr (fun _ _ _ h => h) hS (fun w' hw' => y_ld (ex (pt ab 1)) GcmAT.sc9 (cls_cell (aa.val om (if_pos rfl)) aa.lt w' hw')) (dp 6 rfl (fun w' => y_mv es) (dp 10 rfl (fun w' => y_mv es) (d_one 7 kr rfl (w_call (Tryz.func96) kr rfl (m1 es) (gmFilled v om au) ?_)))))))))
  rintro _ a0 ⟨rfl, af⟩
  refine ⟨_, rfl, ?_⟩
  replace aa := aa.step af
  replace hk := thenB hk af
  replace hF := Gh.Fold.below hF af
  replace hc := hc.below af
  replace hS := thenB hS af
  refine wpList_nil ?_
  refine then_n ⟨fun _ h => thenB h (by assumption), ?_⟩
  refine d_one 8 kr rfl (w_call (Tryz.func94) kr rfl (m2 (evc (.string (str ([0#8])))) Ev.c) (rep_c 0#8 8 (by decide) a0) ?_)
  rintro _ a1 ⟨rfl, ag⟩
  refine ⟨_, rfl, ?_⟩
  replace aa := aa.step ag
  replace hk := thenB hk ag
  replace hF := Gh.Fold.below hF ag
  replace hc := hc.below ag
  replace hS := thenB hS ag
  refine wpList_nil ?_
  refine then_n ⟨fun _ h => thenB h (by assumption), ?_⟩
  refine dp (v := .string (str ((Cb.z v) ++ (List.replicate 8 0#8)))) 9 rfl (fun w' => y_bin es es (b_cat (by simp only [List.length_append, List.length_replicate, Gm.bl_len, Cb.z_len, Cb.zn, Gm.n1, List.length_cons, List.length_nil]; omega))) (d_one 11 kr rfl (w_call (Tryz.func97) kr rfl (m1 es) (gmBits v om a1) ?_))
  rintro _ a2 ⟨rfl, ah⟩
  refine ⟨_, rfl, ?_⟩
  replace aa := aa.step ah
  replace hk := thenB hk ah
  replace hF := Gh.Fold.below hF ah
  replace hc := hc.below ah
  replace hS := thenB hS ah
  refine wpList_nil ?_
  refine then_n ⟨fun _ h => thenB h (by assumption), ?_⟩
  refine dp (v := .string (str (((Cb.z v) ++ (List.replicate 8 0#8)) ++ (Gm.bl v)))) 12 rfl (fun w' => y_bin es es (b_cat (by simp only [List.length_append, List.length_replicate, Gm.bl_len, Cb.z_len, Cb.zn, Gm.n1, List.length_cons, List.length_nil]; omega))) (d_one 13 kr rfl (w_call (Tryz.func95) kr rfl (m2 es es) (ghSum f (Aes.enc (Aes.words key) (List.replicate 16 0#8)) (((Cb.z v) ++ (List.replicate 8 0#8)) ++ (Gm.bl v)) (by exact Cb.enc_len _ _ hok) (by simp only [List.length_append, List.length_replicate, Gm.bl_len, Cb.z_len, Cb.zn, Gm.z8]; omega) (by simp only [List.length_append, List.length_replicate, Gm.bl_len, Cb.z_len, Cb.zn, Gm.z8]; omega) a2 hF) ?_))
  rintro _ a7 ⟨rfl, ai⟩
  refine ⟨_, rfl, ?_⟩
  replace aa := aa.step ai
  replace hk := thenB hk ai
  replace hF := Gh.Fold.below hF ai
  replace hc := hc.below ai
  replace hS := thenB hS ai
  refine wpList_nil ?_
  refine then_n ⟨fun _ h => thenB h (by assumption), ?_⟩
  refine dp 14 rfl (fun w' => y_mv (ex (.tuple #[.string (str (Gh.sum f (Aes.enc (Aes.words key) (List.replicate 16 0#8)) (((Cb.z v) ++ (List.replicate 8 0#8)) ++ (Gm.bl v)))), .int .i64 0]))) (dp (v := .string (str (Gh.sum f (Aes.enc (Aes.words key) (List.replicate 16 0#8)) (((Cb.z v) ++ (List.replicate 8 0#8)) ++ (Gm.bl v))))) 15 rfl (fun w' => y_ext (v := .string (str (Gh.sum f (Aes.enc (Aes.words key) (List.replicate 16 0#8)) (((Cb.z v) ++ (List.replicate 8 0#8)) ++ (Gm.bl v))))) (ex (.tuple #[.string (str (Gh.sum f (Aes.enc (Aes.words key) (List.replicate 16 0#8)) (((Cb.z v) ++ (List.replicate 8 0#8)) ++ (Gm.bl v)))), .int .i64 0])) rfl) (dp (v := .int .i64 0) 16 rfl (fun w' => y_ext (v := .int .i64 0) (ex (.tuple #[.string (str (Gh.sum f (Aes.enc (Aes.words key) (List.replicate 16 0#8)) (((Cb.z v) ++ (List.replicate 8 0#8)) ++ (Gm.bl v)))), .int .i64 0])) rfl) (dp (v := pt ab 0) 17 rfl (fun w' => y_nc (ex (pt ab 0))) (dp (v := pt ab 3) 18 rfl (fun w' => y_off (y_fa (ex (pt ab 0)) (GcmAT.fa172_1 _ _)) ro) (d_one 19 kr rfl ?_)))))
  have ad := CiphAt.onward hc aa (by decide) (by decide)
  refine w_st (v := .string (str (Gh.sum f (Aes.enc (Aes.words key) (List.replicate 16 0#8)) (((Cb.z v) ++ (List.replicate 8 0#8)) ++ (Gm.bl v))))) (ex (pt ab 3)) es rfl rfl GcmAT.sz9 aa om ?_
  clear aa; intro a5 aa am _
  replace hk := thenG hk am om
  replace hF := Gh.Fold.grown hF am om
  replace hc := ad _ am
  clear hS
  refine wpList_nil ?_
  refine then_n ⟨fun hD => absurd hD (by decide), ?_⟩
  refine d_done kr (then_n (sr (w_mv (ex (pt ab 0)) (w_as (ex (pt ab 0)) (w_as Ev.c (nt (wp_ret (fin_ret2 rfl (ex (pt ab 0)) ei ?_))))))))
  exact ⟨p, ab, rfl, aq, ae, hc, aa.congr (fun j hj => by (try dsimp only); rcases (show j = 0 ∨ j = 1 ∨ j = 2 ∨ j = 3 by omega) with rfl | rfl | rfl | rfl <;> first | rfl | exact congrArg (fun l => Value.string (str l)) (Gm.first_12 f key v om) | exact congrArg (fun l => Value.string (str l)) (Gm.first_n f key v om)), hk⟩

theorem gmTag (f : Nat → BitVec 64) (p g : Nat) (key v aad c : List (BitVec 8)) (hok : Aes.okKey key.length) (size : Nat) (h16 : size ≤ 16) (ha : aad.length ≤ 70000) (hcl : c.length ≤ 70000) (w0 : World) (r_g : Row w0 g 172 4 (fun j => if j < 1 then .string (str key) else if j < 2 then .string (str (Gm.hk key)) else if j < 3 then pt p 0 else .string (str (Gm.first f key v)))) (hc : CiphAt Aes.bk Aes.undo w0 p (Aes.words key)) (hF : Gh.Fold w0 f) : Calls Tryz.prog 92 #[pt g 0, .string (str aad), .string (str c), .int .i64 ((size : Nat) : Int)] w0 fun e w' => e = .returned (.string (str (Gm.tg f key v aad c size))) ∧ Below w0.heap.size w0 w' := by
 have ae := hF.2
 refine enter (n := 51) Tryz.func92 rfl rfl rfl ?_
 have hk : Below w0.heap.size w0 w0 := Below.refl _ _
 have ad := r_g.lt
 refine sr (w_as (evc (.string (str ([] : List (BitVec 8))))) (nt (wp_seq (region_q GcmAT.mixed kr (q_mv (ex (pt g 0)) (q_val (fun w' hw' => y_nc (ex (pt g 0))) (q_val (v := pt g 0) (fun w' hw' => y_off (y_fa (ex (pt g 0)) (GcmAT.fa172_0 _ _)) ro) (q_val (v := pt g 1) (fun w' hw' => y_off (y_fa (ex (pt g 0)) (GcmAT.fa170_1 _ _)) ro) (q_val (v := .string (str (Gm.hk key))) (fun w' hw' => y_ld (ex (pt g 1)) GcmAT.sc9 (cls_cell (r_g.val om (ng pz)) r_g.lt w' hw')) (q_mv es (q_call (v := .string (str (Cb.z aad))) (Tryz.func96) kr rfl (m1 es) (fun w' hw' => gmFilled aad om w') (q_mv es (q_call (v := .string (str (Cb.z c))) (Tryz.func96) kr rfl (m1 es) (fun w' hw' => gmFilled c om w') (q_val (fun w' hw' => y_bin es es (b_cat (by simp only [List.length_append, Gm.bl_len, Cb.z_len, Cb.zn]; omega))) (q_mv es (q_call (v := .string (str (Gm.bl aad))) (Tryz.func97) kr rfl (m1 es) (fun w' hw' => gmBits aad om w') (q_val (fun w' hw' => y_bin es es (b_cat (by simp only [List.length_append, Gm.bl_len, Cb.z_len, Cb.zn]; omega))) (q_mv es (q_call (v := .string (str (Gm.bl c))) (Tryz.func97) kr rfl (m1 es) (fun w' hw' => gmBits c om w') (q_val (fun w' hw' => y_bin es es (b_cat (by simp only [List.length_append, Gm.bl_len, Cb.z_len, Cb.zn]; omega))) (q_call (v := .tuple #[.string (str (Gh.sum f (Gm.hk key) ((((Cb.z aad) ++ (Cb.z c)) ++ (Gm.bl aad)) ++ (Gm.bl c)))), .int .i64 0]) (Tryz.func95) kr rfl (m2 es es) (fun w' hw' => ghSum f (Gm.hk key) ((((Cb.z aad) ++ (Cb.z c)) ++ (Gm.bl aad)) ++ (Gm.bl c)) (Cb.enc_len _ _ hok) (by exact (Gm.body_len aad c).1) (by have := (Gm.body_len aad c).2; show (Gm.body aad c).length ≤ 210000; omega) w' (Gh.Fold.below hF hw')) (q_mv (ex (.tuple #[.string (str (Gh.sum f (Gm.hk key) ((((Cb.z aad) ++ (Cb.z c)) ++ (Gm.bl aad)) ++ (Gm.bl c)))), .int .i64 0])) (q_val (fun w' hw' => y_ext (v := .string (str (Gh.sum f (Gm.hk key) ((((Cb.z aad) ++ (Cb.z c)) ++ (Gm.bl aad)) ++ (Gm.bl c))))) (ex (.tuple #[.string (str (Gh.sum f (Gm.hk key) ((((Cb.z aad) ++ (Cb.z c)) ++ (Gm.bl aad)) ++ (Gm.bl c)))), .int .i64 0])) rfl) (q_val (fun w' hw' => y_ext (v := .int .i64 0) (ex (.tuple #[.string (str (Gh.sum f (Gm.hk key) ((((Cb.z aad) ++ (Cb.z c)) ++ (Gm.bl aad)) ++ (Gm.bl c)))), .int .i64 0])) rfl) (q_as es (q_as ei (q_nil ?_)))))))))))))))))))))))))))
 intro w1 ab
 replace r_g := r_g.step ab
 replace hk := thenB hk ab
 replace hc := hc.below ab
 replace hF := Gh.Fold.below hF ab
 refine then_n (wp_seq (region_q GcmAT.mixed kr (q_mv (ex (pt g 0)) (q_val (fun w' hw' => y_nc (ex (pt g 0))) (q_val (v := pt g 0) (fun w' hw' => y_off (y_fa (ex (pt g 0)) (GcmAT.fa172_0 _ _)) ro) (q_val (v := pt g 2) (fun w' hw' => y_off (y_fa (ex (pt g 0)) (GcmAT.fa170_2 _ _)) ro) (q_val (v := pt p 0) (fun w' hw' => y_ld (ex (pt g 2)) GcmAT.sc71 (cls_cell (r_g.val om (ng (ng pz))) r_g.lt w' hw')) (q_mv (ex (pt g 0)) (q_val (fun w' hw' => y_nc (ex (pt g 0))) (q_val (v := pt g 3) (fun w' hw' => y_off (y_fa (ex (pt g 0)) (GcmAT.fa172_1 _ _)) ro) (q_val (v := .string (str (Gm.first f key v))) (fun w' hw' => y_ld (ex (pt g 3)) GcmAT.sc9 (cls_cell (r_g.val om (ng (ng (ng dv)))) r_g.lt w' hw')) (q_call (v := .tuple #[.string (str (Aes.enc (Aes.words key) (Gm.first f key v))), .int .i64 0]) (Tryz.func31) kr rfl (m2 (ex (pt p 0)) es) (fun w' hw' => enc_l p key (Gm.first f key v) w' hok (CiphAt.below hc hw') (Gm.first_len _ _ _)) (q_mv (ex (.tuple #[.string (str (Aes.enc (Aes.words key) (Gm.first f key v))), .int .i64 0])) (q_val (fun w' hw' => y_ext (v := .string (str (Aes.enc (Aes.words key) (Gm.first f key v)))) (ex (.tuple #[.string (str (Aes.enc (Aes.words key) (Gm.first f key v))), .int .i64 0])) rfl) (q_val (fun w' hw' => y_ext (v := .int .i64 0) (ex (.tuple #[.string (str (Aes.enc (Aes.words key) (Gm.first f key v))), .int .i64 0])) rfl) (q_as es (q_as ei (q_nil ?_))))))))))))))))))
 intro w3 aa
 replace r_g := r_g.step aa
 replace hk := thenB hk aa
 replace hc := hc.below aa
 replace hF := Gh.Fold.below hF aa
 refine then_n (sr (w_mv es (w_mv es (w_call (Tryz.func98) kr rfl (m2 es es) (xor_c (Gh.sum f (Gm.hk key) ((((Cb.z aad) ++ (Cb.z c)) ++ (Gm.bl aad)) ++ (Gm.bl c))) (Aes.enc (Aes.words key) (Gm.first f key v)) (by rw [Gh.sum_len]; decide) w3) ?_))))
 rintro _ w5 ⟨rfl, ac⟩
 refine ⟨_, rfl, ?_⟩
 replace r_g := r_g.step ac
 replace hk := thenB hk ac
 replace hc := hc.below ac
 replace hF := Gh.Fold.below hF ac
 refine w_mv ei (w_val (v := .string (str ((Oct.xor (Gh.sum f (Gm.hk key) ((((Cb.z aad) ++ (Cb.z c)) ++ (Gm.bl aad)) ++ (Gm.bl c))) (Aes.enc (Aes.words key) (Gm.first f key v))).take size))) (y_sls (ex (.string (str (Oct.xor (Gh.sum f (Gm.hk key) ((((Cb.z aad) ++ (Cb.z c)) ++ (Gm.bl aad)) ++ (Gm.bl c))) (Aes.enc (Aes.words key) (Gm.first f key v)))))) evo.no (evo.s ei) Tryz.underlying9 (bnd_h (h := size) om (by simp only [Oct.length_xor, Gh.sum_len, Cb.enc_len _ _ hok]; omega))) (w_as es (nt (wp_ret (fin_ret1 rfl es ?_)))))
 refine ⟨congrArg Ending.returned ?_, hk⟩
 show (.string (str ((Oct.xor (Gh.sum f (Gm.hk key) ((((Cb.z aad) ++ (Cb.z c)) ++ (Gm.bl aad)) ++ (Gm.bl c))) (Aes.enc (Aes.words key) (Gm.first f key v))).take size)) : Value) = .string (str (Gm.tg f key v aad c size))
 rfl

theorem gmXor (f : Nat → BitVec 64) (p g : Nat) (key v c : List (BitVec 8)) (hok : Aes.okKey key.length) (hcl : c.length ≤ 70000) (w0 : World) (r_g : Row w0 g 172 4 (fun j => if j < 1 then .string (str key) else if j < 2 then .string (str (Gm.hk key)) else if j < 3 then pt p 0 else .string (str (Gm.first f key v)))) : Calls Tryz.prog 93 #[pt g 0, .string (str c)] w0 fun e w' => e = .returned (.string (str (Gm.xr f key v c))) ∧ Below w0.heap.size w0 w' := by
 refine enter (n := 29) Tryz.func93 rfl rfl rfl ?_
 have hk : Below w0.heap.size w0 w0 := Below.refl _ _
 have ac := r_g.lt
 refine sr (w_as (evc (.string (str ([] : List (BitVec 8))))) (nt (sr (w_mv (ex (pt g 0)) (w_val (y_nc (ex (pt g 0))) (w_val (v := pt g 3) (y_off (y_fa (ex (pt g 0)) (GcmAT.fa172_1 _ _)) ro) (w_val (v := .string (str (Gm.first f key v))) (y_ld (ex (pt g 3)) GcmAT.sc9 (r_g.val om (ng (ng (ng dv))))) (w_call (Tryz.func99) kr rfl (m3 es Ev.c (evc (U64 (1#64)))) (next_y (Gm.first f key v) 4 (Gm.first_len _ _ _) (by decide) (by decide) 1 (by decide) w0) ?_))))))))
 rintro _ w1 ⟨rfl, aa⟩
 refine ⟨_, rfl, ?_⟩
 replace r_g := r_g.step aa
 replace hk := thenB hk aa
 refine w_mv (ex (.tuple #[.string (str (Ct.nx (Gm.first f key v) 4 1)), .int .i64 0])) (w_val ye (w_val ye (w_as es (w_as ei (nt (sr (w_mv (ex (pt g 0)) (w_val (y_nc (ex (pt g 0))) (w_val (v := pt g 0) (y_off (y_fa (ex (pt g 0)) (GcmAT.fa172_0 _ _)) ro) (w_val (v := pt g 0) (y_off (y_fa (ex (pt g 0)) (GcmAT.fa170_0 _ _)) ro) (w_val (v := .string (str key)) (y_ld (ex (pt g 0)) GcmAT.sc9 (r_g.val om pz)) (w_mv es (w_mv es (w_call (Tryz.func100) kr rfl (m4 es es Ev.c es) (ctrXor_y key c hok (Ct.nx (Gm.first f key v) 4 1) 4 (Ct.length_nx _ _ _ (Gm.first_len _ _ _)) (by decide) (by decide) hcl w1) ?_))))))))))))))
 rintro _ w3 ⟨rfl, ab⟩
 refine ⟨_, rfl, ?_⟩
 replace r_g := r_g.step ab
 replace hk := thenB hk ab
 refine w_mv (ex (.tuple #[.string (str (Ct.x key (Ct.nx (Gm.first f key v) 4 1) 4 c)), .int .i64 0])) (w_val ye (w_val ye (w_as es (w_as ei (nt (sr (w_mv es (w_as es (nt (wp_ret (fin_ret1 rfl es ?_)))))))))))
 refine ⟨congrArg Ending.returned ?_, hk⟩
 show (.string (str (Ct.x key (Ct.nx (Gm.first f key v) 4 1) 4 c)) : Value) = .string (str (Gm.xr f key v c))
 rfl
end Go.Proofs.YtdmbfimjbmfbaaaGreatDoor
