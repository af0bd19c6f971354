/-
  Tags by their numbers, by the program. Conditions as each says.
-/
import Derived.Test.YtdmbfimjbmfbaaaGreatDoorRows
import Derived.Test.YtdmbfimjbmfbaaaGreatDoorSuA
import Derived.Test.YtdmbfimjbmfbaaaGreatDoorHmacB
import Derived.Test.YtdmbfimjbmfbaaaGreatDoorCbcM
import Derived.Test.YtdmbfimjbmfbaaaGreatDoorHmacW
import Derived.Test.YtdmbfimjbmfbaaaGreatDoorOctW
import Derived.Test.YtdmbfimjbmfbaaaGreatDoorGenSh
import Derived.ProofKit
namespace Go.Proofs.YtdmbfimjbmfbaaaGreatDoor
open Go.RowKit
set_option linter.unusedSimpArgs false
set_option linter.unusedVariables false
set_option maxRecDepth 100000
set_option maxHeartbeats 1000000
namespace SuMT
theorem mixed : Tryz.prog.follows .mixedOrders = true := by kernel_rfl
theorem fa35_0 (g off : Nat) : ∀ w, (Instr.fieldAt 35 (.pointer (some ⟨g, off, none⟩)) 0).run Tryz.prog w = .ok (.pointer (some ⟨g, off + 0, none⟩)) w := fun w => by kernel_rfl
theorem fa35_1 (g off : Nat) : ∀ w, (Instr.fieldAt 35 (.pointer (some ⟨g, off, none⟩)) 1).run Tryz.prog w = .ok (.pointer (some ⟨g, off + 1, none⟩)) w := fun w => by kernel_rfl
theorem fa35_2 (g off : Nat) : ∀ w, (Instr.fieldAt 35 (.pointer (some ⟨g, off, none⟩)) 2).run Tryz.prog w = .ok (.pointer (some ⟨g, off + 2, none⟩)) w := fun w => by kernel_rfl
theorem sc3 : (Tryz.prog.underlying 3).map scal = some true := by rw [Tryz.underlying3]; rfl
theorem sz35 : (Tryz.prog.info? 35).map (·.size) = some 3 := by kernel_rfl
end SuMT
theorem suMac (i : Nat) (h14 : 14 ≤ i) (hi : i < 22) (key text : List (BitVec 8)) (hkl : key.length = Su.ky i) (htl : text.length ≤ 140000) (w0 : World) (hT : Sha.Tabs w0) : Calls Tryz.prog 13 #[.int .i64 (((Su.al i) : Nat) : Int), .string (str key), .string (str text), .int .i64 (((Su.tg i) : Nat) : Int)] w0 fun e w' => e = .returned (.string (str (Su.mv i key text))) ∧ Below w0.heap.size w0 w' := by
 have af := hT.lt
 have ac := Su.mrow i h14 hi
 have ae := Su.hl i key text h14 hkl
 have ad := Su.cl i key text hi hkl
 refine enter (n := 30) Tryz.func13 rfl rfl rfl ?_
 have hk : Below w0.heap.size w0 w0 := Below.refl _ _
 refine sr (w_as (evc (.string (str ([] : List (BitVec 8))))) (nt (sr (w_as (evc (.string (str ([] : List (BitVec 8))))) (nt (wp_seq (sr (w_mv ei (w_val (y_bin ei Ev.c b_geq) (nt ?_))))))))))
 refine c_if (p := 114 ≤ (((Su.al i) : Nat) : Int)) eb (fun hc1 => ?_) (fun hc1 => ?_)
 ·skip
  refine wp_region_lit (w_mv es (w_mv es (w_call (Tryz.func19) kr rfl (m2 es es) (mac_y key (by rw [hkl]; exact Su.ok i om hi) text htl w0) ?_)))
  rintro _ w2 ⟨rfl, aa⟩
  refine ⟨_, rfl, ?_⟩
  replace hk := thenB hk aa
  replace hT := Sha.Tabs.below hT aa
  refine w_mv (ex (.tuple #[.string (str (Cb.mac key text)), .int .i64 0])) (w_val ye (w_val ye (w_as es (nt (sr (w_mv es (w_mv ei (w_val (v := .string (str ((Cb.mac key text).take (Su.tg i)))) (y_sls (ex (.string (str (Cb.mac key text)))) evo.no (evo.s ei) Tryz.underlying9 (bnd_h (h := (Su.tg i)) om om)) (w_as es (nt (wp_ret (fin_ret1 rfl es ?_))))))))))))
  refine ⟨congrArg Ending.returned ?_, hk⟩
  show (.string (str ((Cb.mac key text).take (Su.tg i))) : Value) = .string (str (Su.mv i key text))
  first | exact congrArg (fun l => Value.string (str l)) (Su.mv_c i key text om) | exact congrArg (fun l => Value.string (str l)) (Su.mv_h i key text om)
 ·skip
  refine wp_region_lit (w_mv es (w_val (y_len es Tryz.underlying9) (w_val (y_bin Ev.c ei (b_mul om)) (w_mv es (w_mv es (w_call (Tryz.func20) kr rfl (m3 (ex (.int .i64 (((8 * key.length) : Nat) : Int)) (Eq.trans (b := .int .i64 (8 * ((key.length : Nat) : Int))) rfl (by exact congrArg (Value.int .i64) om))) es es) (mac_l (8 * key.length) (by rw [hkl]; exact Su.kn i h14 om) key text om om w0 hT) ?_))))))
  rintro _ w4 ⟨rfl, ab⟩
  refine ⟨_, rfl, ?_⟩
  replace hk := thenB hk ab
  replace hT := Sha.Tabs.below hT ab
  refine w_mv (ex (.tuple #[.string (str (Hm.mac (8 * key.length) key text)), .int .i64 0])) (w_val ye (w_val ye (w_as es (nt (sr (w_mv es (w_mv ei (w_val (v := .string (str ((Hm.mac (8 * key.length) key text).take (Su.tg i)))) (y_sls (ex (.string (str (Hm.mac (8 * key.length) key text)))) evo.no (evo.s ei) Tryz.underlying9 (bnd_h (h := (Su.tg i)) om om)) (w_as es (nt (wp_ret (fin_ret1 rfl es ?_))))))))))))
  refine ⟨congrArg Ending.returned ?_, hk⟩
  show (.string (str ((Hm.mac (8 * key.length) key text).take (Su.tg i))) : Value) = .string (str (Su.mv i key text))
  first | exact congrArg (fun l => Value.string (str l)) (Su.mv_c i key text om) | exact congrArg (fun l => Value.string (str l)) (Su.mv_h i key text om)

theorem suMacs (i : Nat) (h14 : 14 ≤ i) (hi : i < 22) (key text : List (BitVec 8)) (hlt : text.length ≤ 140737488351232) (w0 : World) (hT : Sha.Tabs w0) : Calls Tryz.prog 6 #[.int .i64 (((Su.al i) : Nat) : Int), .string (str key), .string (str text)] w0 fun e w' => e = .returned (.tuple #[.string (str ((Su.ms i key text).1)), .int .i64 ((Su.ms i key text).2)]) ∧ Below w0.heap.size w0 w' := by
 have am := hT.lt
 have aj := Su.mrow i h14 hi
 refine enter (n := 39) Tryz.func6 rfl rfl rfl ?_
 have hk : Below w0.heap.size w0 w0 := Below.refl _ _
 refine sr (w_as (evc (.string (str ([] : List (BitVec 8))))) (w_as Ev.c (nt (sr (w_mv ei (w_call (Tryz.func10) kr rfl (m1 ei) (suOf_y i hi w0) ?_))))))
 rintro _ w1 ⟨rfl, ag⟩
 refine ⟨_, rfl, ?_⟩
 replace hk := thenB hk ag
 replace hT := Sha.Tabs.below hT ag
 refine w_mv (ex (.tuple #[.agg (arr 3 (fun j => if j < 1 then .int .i64 (((Su.ky i) : Nat) : Int) else if j < 2 then .int .i64 (((Su.iv i) : Nat) : Int) else .int .i64 (((Su.tg i) : Nat) : Int))), .int .i64 0])) (w_val ye (w_val ye (w_alloc (m := 3) (F := fun j => if j < 1 then .int .i64 0 else if j < 2 then .int .i64 0 else .int .i64 0) kr ?_)))
 intro ac w3 ab aa af
 have ae := gb_ hk.size ab
 clear ab
 replace hk := thenB hk af
 replace hT := Sha.Tabs.below hT af
 refine w_sta (k := 3) (G := fun j => if j < 1 then .int .i64 (((Su.ky i) : Nat) : Int) else if j < 2 then .int .i64 (((Su.iv i) : Nat) : Int) else .int .i64 (((Su.tg i) : Nat) : Int)) (ex (pt ac 0)) ea oc SuMT.sz35 aa om ?_
 clear aa; intro w5 aa ah _
 replace aa := aa.congr (g := fun j => if j < 1 then .int .i64 (((Su.ky i) : Nat) : Int) else if j < 2 then .int .i64 (((Su.iv i) : Nat) : Int) else .int .i64 (((Su.tg i) : Nat) : Int)) (fun j hj => by rw [if_pos ⟨Nat.zero_le _, by omega⟩]; first | rfl | (simp only [Nat.sub_zero]))
 replace hk := thenG hk ah om
 replace hT := Sha.Tabs.grown hT ah om om
 refine w_as ei (nt (wp_seq (wp_block (sr (w_mv ei (w_val (y_bin ei Ev.c b_neq) (w_mv eb (w_val_g (v := pt ac 1) (wy rfl rfl eb) (y_off (y_fa (ex (pt ac 0)) (SuMT.fa35_1 _ _)) ro) (w_val_g (v := .int .i64 (((Su.iv i) : Nat) : Int)) (wy rfl rfl eb) (y_ld (ex (pt ac 1)) SuMT.sc3 (aa.val om (ng pz))) (w_val_g (wy rfl rfl eb) (y_bin ei Ev.c b_neq) (w_val (y_pick_f eb eb) (w_as eb (nt ?_)))))))))))))
 have ai : ¬ ((((Su.iv i) : Nat) : Int) ≠ 0) := by omega
 refine c_f (p := (((Su.iv i) : Nat) : Int) ≠ 0) eb ai (sr (w_mv es (w_val (y_len es Tryz.underlying9) (w_val (v := pt ac 0) (y_off (y_fa (ex (pt ac 0)) (SuMT.fa35_0 _ _)) ro) (w_val (v := .int .i64 (((Su.ky i) : Nat) : Int)) (y_ld (ex (pt ac 0)) SuMT.sc3 (aa.val om pz)) (w_val (y_bin ei ei b_neq) (w_as eb (nt ?_))))))))
 refine c_if (p := ((key.length : Nat) : Int) ≠ (((Su.ky i) : Nat) : Int)) eb (fun hc8 => ?_) (fun hc8 => ?_)
 ·skip
  refine sr (w_as (evc (.string (str ([] : List (BitVec 8))))) (w_as Ev.c (nt (wp_ret (inb_r (then_r (fin_ret2 rfl es ei ?_)))))))
  refine ⟨congrArg Ending.returned ?_, hk⟩
  show (.tuple #[.string (str ([] : List (BitVec 8))), .int .i64 3] : Value) = .tuple #[.string (str ((Su.ms i key text).1)), .int .i64 ((Su.ms i key text).2)]
  first | exact congrArg (fun p : Su.L8 × Int => Value.tuple #[.string (str p.1), .int .i64 p.2]) (Su.ms_y i key text om om).symm | exact congrArg (fun p : Su.L8 × Int => Value.tuple #[.string (str p.1), .int .i64 p.2]) (Su.ms_z i key text om om).symm | exact congrArg (fun p : Su.L8 × Int => Value.tuple #[.string (str p.1), .int .i64 p.2]) (Su.ms_k i key text om).symm
 ·skip
  refine sr (w_mv es (w_val (y_len es Tryz.underlying9) (w_val (y_bin ei Ev.c b_gtr) (w_as eb (nt ?_)))))
  refine c_if (p := 140000 < ((text.length : Nat) : Int)) eb (fun hc9 => ?_) (fun hc9 => ?_)
  ·skip
   refine sr (w_as (evc (.string (str ([] : List (BitVec 8))))) (w_as Ev.c (nt (wp_ret (inb_r (then_r (fin_ret2 rfl es ei ?_)))))))
   refine ⟨congrArg Ending.returned ?_, hk⟩
   show (.tuple #[.string (str ([] : List (BitVec 8))), .int .i64 6] : Value) = .tuple #[.string (str ((Su.ms i key text).1)), .int .i64 ((Su.ms i key text).2)]
   first | exact congrArg (fun p : Su.L8 × Int => Value.tuple #[.string (str p.1), .int .i64 p.2]) (Su.ms_y i key text om om).symm | exact congrArg (fun p : Su.L8 × Int => Value.tuple #[.string (str p.1), .int .i64 p.2]) (Su.ms_z i key text om om).symm | exact congrArg (fun p : Su.L8 × Int => Value.tuple #[.string (str p.1), .int .i64 p.2]) (Su.ms_k i key text om).symm
  ·skip
   refine wp_skip (inb_n (then_n (sr (w_mv ei (w_mv es (w_mv es (w_val (v := pt ac 2) (y_off (y_fa (ex (pt ac 0)) (SuMT.fa35_2 _ _)) ro) (w_val (v := .int .i64 (((Su.tg i) : Nat) : Int)) (y_ld (ex (pt ac 2)) SuMT.sc3 (aa.val om (ng (ng dv)))) (w_call (Tryz.func13) kr rfl (m4 ei es es ei) (suMac i h14 hi key text om om w5 hT) ?_)))))))))
   rintro _ ak ⟨rfl, ad⟩
   refine ⟨_, rfl, ?_⟩
   replace aa := aa.step ad
   replace hk := thenB hk ad
   replace hT := Sha.Tabs.below hT ad
   refine w_as es (w_as Ev.c (nt (wp_ret (fin_ret2 rfl es ei ?_))))
   refine ⟨congrArg Ending.returned ?_, hk⟩
   show (.tuple #[.string (str (Su.mv i key text)), .int .i64 0] : Value) = .tuple #[.string (str ((Su.ms i key text).1)), .int .i64 ((Su.ms i key text).2)]
   first | exact congrArg (fun p : Su.L8 × Int => Value.tuple #[.string (str p.1), .int .i64 p.2]) (Su.ms_y i key text om om).symm | exact congrArg (fun p : Su.L8 × Int => Value.tuple #[.string (str p.1), .int .i64 p.2]) (Su.ms_z i key text om om).symm | exact congrArg (fun p : Su.L8 × Int => Value.tuple #[.string (str p.1), .int .i64 p.2]) (Su.ms_k i key text om).symm

theorem suCheck (i : Nat) (h14 : 14 ≤ i) (hi : i < 22) (key text : List (BitVec 8)) (tag : List (BitVec 8)) (hlt : text.length ≤ 140737488351232) (w0 : World) (hT : Sha.Tabs w0) : Calls Tryz.prog 8 #[.int .i64 (((Su.al i) : Nat) : Int), .string (str key), .string (str text), .string (str tag)] w0 fun e w' => e = .returned (.int .i64 (Su.ce i key text tag)) ∧ Below w0.heap.size w0 w' := by
 have am := hT.lt
 have an := Su.mrow i h14 hi
 refine enter (n := 50) Tryz.func8 rfl rfl rfl ?_
 have hk : Below w0.heap.size w0 w0 := Below.refl _ _
 refine sr (w_as Ev.c (nt (sr (w_mv ei (w_call (Tryz.func10) kr rfl (m1 ei) (suOf_y i hi w0) ?_)))))
 rintro _ w1 ⟨rfl, ag⟩
 refine ⟨_, rfl, ?_⟩
 replace hk := thenB hk ag
 replace hT := Sha.Tabs.below hT ag
 refine w_mv (ex (.tuple #[.agg (arr 3 (fun j => if j < 1 then .int .i64 (((Su.ky i) : Nat) : Int) else if j < 2 then .int .i64 (((Su.iv i) : Nat) : Int) else .int .i64 (((Su.tg i) : Nat) : Int))), .int .i64 0])) (w_val ye (w_val ye (w_alloc (m := 3) (F := fun j => if j < 1 then .int .i64 0 else if j < 2 then .int .i64 0 else .int .i64 0) kr ?_)))
 intro ac w3 ab aa ai
 have af := gb_ hk.size ab
 clear ab
 replace hk := thenB hk ai
 replace hT := Sha.Tabs.below hT ai
 refine w_sta (k := 3) (G := fun j => if j < 1 then .int .i64 (((Su.ky i) : Nat) : Int) else if j < 2 then .int .i64 (((Su.iv i) : Nat) : Int) else .int .i64 (((Su.tg i) : Nat) : Int)) (ex (pt ac 0)) ea oc SuMT.sz35 aa om ?_
 clear aa; intro w5 aa ah _
 replace aa := aa.congr (g := fun j => if j < 1 then .int .i64 (((Su.ky i) : Nat) : Int) else if j < 2 then .int .i64 (((Su.iv i) : Nat) : Int) else .int .i64 (((Su.tg i) : Nat) : Int)) (fun j hj => by rw [if_pos ⟨Nat.zero_le _, by omega⟩]; first | rfl | (simp only [Nat.sub_zero]))
 replace hk := thenG hk ah om
 replace hT := Sha.Tabs.grown hT ah om om
 refine w_as ei (nt (wp_seq (wp_block (sr (w_mv ei (w_val (y_bin ei Ev.c b_neq) (w_mv eb (w_val_g (v := pt ac 1) (wy rfl rfl eb) (y_off (y_fa (ex (pt ac 0)) (SuMT.fa35_1 _ _)) ro) (w_val_g (v := .int .i64 (((Su.iv i) : Nat) : Int)) (wy rfl rfl eb) (y_ld (ex (pt ac 1)) SuMT.sc3 (aa.val om (ng pz))) (w_val_g (wy rfl rfl eb) (y_bin ei Ev.c b_neq) (w_val (y_pick_f eb eb) (w_as eb (nt ?_)))))))))))))
 have aj : ¬ ((((Su.iv i) : Nat) : Int) ≠ 0) := by omega
 refine c_f (p := (((Su.iv i) : Nat) : Int) ≠ 0) eb aj (sr (w_mv es (w_val (y_len es Tryz.underlying9) (w_val (v := pt ac 0) (y_off (y_fa (ex (pt ac 0)) (SuMT.fa35_0 _ _)) ro) (w_val (v := .int .i64 (((Su.ky i) : Nat) : Int)) (y_ld (ex (pt ac 0)) SuMT.sc3 (aa.val om pz)) (w_val (y_bin ei ei b_neq) (w_as eb (nt ?_))))))))
 refine c_if (p := ((key.length : Nat) : Int) ≠ (((Su.ky i) : Nat) : Int)) eb (fun hc8 => ?_) (fun hc8 => ?_)
 ·skip
  refine sr (w_as Ev.c (nt (wp_ret (inb_r (then_r (fin_ret1 rfl ei ?_))))))
  refine ⟨congrArg Ending.returned ?_, hk⟩
  show (.int .i64 3 : Value) = .int .i64 (Su.ce i key text tag)
  first | exact congrArg (Value.int .i64) (Su.ce_y i key text tag om om om (by first | assumption | exact Decidable.not_not.1 (by assumption))).symm | exact congrArg (Value.int .i64) (Su.ce_n i key text tag om om om (by assumption)).symm | exact congrArg (Value.int .i64) (Su.ce_z i key text tag om om om).symm | exact congrArg (Value.int .i64) (Su.ce_t i key text tag om om).symm | exact congrArg (Value.int .i64) (Su.ce_k i key text tag om).symm
 ·skip
  refine sr (w_mv es (w_val (y_len es Tryz.underlying9) (w_val (v := pt ac 2) (y_off (y_fa (ex (pt ac 0)) (SuMT.fa35_2 _ _)) ro) (w_val (v := .int .i64 (((Su.tg i) : Nat) : Int)) (y_ld (ex (pt ac 2)) SuMT.sc3 (aa.val om (ng (ng dv)))) (w_val (y_bin ei ei b_neq) (w_as eb (nt ?_)))))))
  refine c_if (p := ((tag.length : Nat) : Int) ≠ (((Su.tg i) : Nat) : Int)) eb (fun hc9 => ?_) (fun hc9 => ?_)
  ·skip
   refine sr (w_as Ev.c (nt (wp_ret (inb_r (then_r (fin_ret1 rfl ei ?_))))))
   refine ⟨congrArg Ending.returned ?_, hk⟩
   show (.int .i64 5 : Value) = .int .i64 (Su.ce i key text tag)
   first | exact congrArg (Value.int .i64) (Su.ce_y i key text tag om om om (by first | assumption | exact Decidable.not_not.1 (by assumption))).symm | exact congrArg (Value.int .i64) (Su.ce_n i key text tag om om om (by assumption)).symm | exact congrArg (Value.int .i64) (Su.ce_z i key text tag om om om).symm | exact congrArg (Value.int .i64) (Su.ce_t i key text tag om om).symm | exact congrArg (Value.int .i64) (Su.ce_k i key text tag om).symm
  ·skip
   refine sr (w_mv es (w_val (y_len es Tryz.underlying9) (w_val (y_bin ei Ev.c b_gtr) (w_as eb (nt ?_)))))
   refine c_if (p := 140000 < ((text.length : Nat) : Int)) eb (fun hc10 => ?_) (fun hc10 => ?_)
   ·skip
    refine sr (w_as Ev.c (nt (wp_ret (inb_r (then_r (fin_ret1 rfl ei ?_))))))
    refine ⟨congrArg Ending.returned ?_, hk⟩
    show (.int .i64 6 : Value) = .int .i64 (Su.ce i key text tag)
    first | exact congrArg (Value.int .i64) (Su.ce_y i key text tag om om om (by first | assumption | exact Decidable.not_not.1 (by assumption))).symm | exact congrArg (Value.int .i64) (Su.ce_n i key text tag om om om (by assumption)).symm | exact congrArg (Value.int .i64) (Su.ce_z i key text tag om om om).symm | exact congrArg (Value.int .i64) (Su.ce_t i key text tag om om).symm | exact congrArg (Value.int .i64) (Su.ce_k i key text tag om).symm
   ·skip
    refine sr (w_mv ei (w_mv es (w_mv es (w_val (v := pt ac 2) (y_off (y_fa (ex (pt ac 0)) (SuMT.fa35_2 _ _)) ro) (w_val (v := .int .i64 (((Su.tg i) : Nat) : Int)) (y_ld (ex (pt ac 2)) SuMT.sc3 (aa.val om (ng (ng dv)))) (w_call (Tryz.func13) kr rfl (m4 ei es es ei) (suMac i h14 hi key text om om w5 hT) ?_))))))
    rintro _ ak ⟨rfl, ae⟩
    refine ⟨_, rfl, ?_⟩
    replace aa := aa.step ae
    replace hk := thenB hk ae
    replace hT := Sha.Tabs.below hT ae
    refine w_mv es (w_call (Tryz.func17) kr rfl (m2 es es) (same_c (Su.mv i key text) tag (by have := Su.mv_le i key text hi; omega) ak) ?_)
    rintro _ ao ⟨rfl, ad⟩
    refine ⟨_, rfl, ?_⟩
    replace aa := aa.step ad
    replace hk := thenB hk ad
    replace hT := Sha.Tabs.below hT ad
    refine w_val (y_notp eb) (w_as eb (nt ?_))
    refine c_if (p := ¬ ((Su.mv i key text) = tag)) eb (fun hc15 => ?_) (fun hc15 => ?_)
    ·skip
     refine sr (w_as Ev.c (nt (wp_ret (inb_r (then_r (fin_ret1 rfl ei ?_))))))
     refine ⟨congrArg Ending.returned ?_, hk⟩
     show (.int .i64 8 : Value) = .int .i64 (Su.ce i key text tag)
     first | exact congrArg (Value.int .i64) (Su.ce_y i key text tag om om om (by first | assumption | exact Decidable.not_not.1 (by assumption))).symm | exact congrArg (Value.int .i64) (Su.ce_n i key text tag om om om (by assumption)).symm | exact congrArg (Value.int .i64) (Su.ce_z i key text tag om om om).symm | exact congrArg (Value.int .i64) (Su.ce_t i key text tag om om).symm | exact congrArg (Value.int .i64) (Su.ce_k i key text tag om).symm
    ·skip
     refine wp_skip (inb_n (then_n (sr (w_as Ev.c (nt (wp_ret (fin_ret1 rfl ei ?_)))))))
     refine ⟨congrArg Ending.returned ?_, hk⟩
     show (.int .i64 0 : Value) = .int .i64 (Su.ce i key text tag)
     first | exact congrArg (Value.int .i64) (Su.ce_y i key text tag om om om (by first | assumption | exact Decidable.not_not.1 (by assumption))).symm | exact congrArg (Value.int .i64) (Su.ce_n i key text tag om om om (by assumption)).symm | exact congrArg (Value.int .i64) (Su.ce_z i key text tag om om om).symm | exact congrArg (Value.int .i64) (Su.ce_t i key text tag om om).symm | exact congrArg (Value.int .i64) (Su.ce_k i key text tag om).symm

theorem suMac_r (alg a b c oe : Int) (hO : ∀ w, Calls Tryz.prog 10 #[.int .i64 alg] w fun e w' => e = .returned (.tuple #[.agg (arr 3 (fun j => if j < 1 then .int .i64 a else if j < 2 then .int .i64 b else .int .i64 c)), .int .i64 oe]) ∧ Below w.heap.size w w') (hr : oe ≠ 0 ∨ b ≠ 0) (key text : List (BitVec 8))  (w0 : World) : Calls Tryz.prog 6 #[.int .i64 alg, .string (str key), .string (str text)] w0 fun e w' => e = .returned (.tuple #[.string (str ([] : List (BitVec 8))), .int .i64 11]) ∧ Below w0.heap.size w0 w' := by
 refine enter (n := 39) Tryz.func6 rfl rfl rfl ?_
 have hk : Below w0.heap.size w0 w0 := Below.refl _ _
 refine sr (w_as (evc (.string (str ([] : List (BitVec 8))))) (w_as Ev.c (nt (sr (w_mv ei (w_call (Tryz.func10) kr rfl (m1 ei) (hO  w0) ?_))))))
 rintro _ w1 ⟨rfl, ag⟩
 refine ⟨_, rfl, ?_⟩
 replace hk := thenB hk ag
 refine w_mv (ex (.tuple #[.agg (arr 3 (fun j => if j < 1 then .int .i64 a else if j < 2 then .int .i64 b else .int .i64 c)), .int .i64 oe])) (w_val ye (w_val ye (w_alloc (m := 3) (F := fun j => if j < 1 then .int .i64 0 else if j < 2 then .int .i64 0 else .int .i64 0) kr ?_)))
 intro ad w3 ab aa af
 have ae := gb_ hk.size ab
 clear ab
 replace hk := thenB hk af
 refine w_sta (k := 3) (G := fun j => if j < 1 then .int .i64 a else if j < 2 then .int .i64 b else .int .i64 c) (ex (pt ad 0)) ea oc SuMT.sz35 aa om ?_
 clear aa; intro w5 aa ah _
 replace aa := aa.congr (g := fun j => if j < 1 then .int .i64 a else if j < 2 then .int .i64 b else .int .i64 c) (fun j hj => by rw [if_pos ⟨Nat.zero_le _, by omega⟩]; first | rfl | (simp only [Nat.sub_zero]))
 replace hk := thenG hk ah om
 refine w_as ei (nt (wp_seq (wp_block (sr (w_mv ei (w_val (y_bin ei Ev.c b_neq) (w_mv eb ?_)))))))
 by_cases ac : oe ≠ 0
 ·skip
  with_reducible refine w_skip ?_ ?_
  exact wn rfl rfl (eb (dt ac))
  with_reducible refine w_skip ?_ ?_
  exact wn rfl rfl (eb (dt ac))
  with_reducible refine w_skip ?_ ?_
  exact wn rfl rfl (eb (dt ac))
  refine w_val (y_pick_t (eb (dt ac)) Ev.c) (w_as eb (nt (c_tt eb (sr (w_as (evc (.string (str ([] : List (BitVec 8))))) (w_as Ev.c (nt (wp_ret (inb_r (then_r (fin_ret2 rfl es ei ?_)))))))))))
  exact ⟨rfl, hk⟩
 ·skip
  refine w_val_g (v := pt ad 1) (wy rfl rfl (eb (df ac))) (y_off (y_fa (ex (pt ad 0)) (SuMT.fa35_1 _ _)) ro) (w_val_g (v := .int .i64 b) (wy rfl rfl (eb (df ac))) (y_ld (ex (pt ad 1)) SuMT.sc3 (aa.val om (ng pz))) (w_val_g (wy rfl rfl (eb (df ac))) (y_bin ei Ev.c b_neq) (w_val (y_pick_f (eb (df ac)) eb) (w_as eb (nt ?_)))))
  refine c_if (p := b ≠ 0) eb (fun hc8 => ?_) (fun hc8 => ?_)
  ·skip
   refine sr (w_as (evc (.string (str ([] : List (BitVec 8))))) (w_as Ev.c (nt (wp_ret (inb_r (then_r (fin_ret2 rfl es ei ?_)))))))
   exact ⟨rfl, hk⟩
  ·skip
   refine wp_seq ?_
   exfalso; omega

theorem suCheck_r (alg a b c oe : Int) (hO : ∀ w, Calls Tryz.prog 10 #[.int .i64 alg] w fun e w' => e = .returned (.tuple #[.agg (arr 3 (fun j => if j < 1 then .int .i64 a else if j < 2 then .int .i64 b else .int .i64 c)), .int .i64 oe]) ∧ Below w.heap.size w w') (hr : oe ≠ 0 ∨ b ≠ 0) (key text : List (BitVec 8)) (tag : List (BitVec 8))  (w0 : World) : Calls Tryz.prog 8 #[.int .i64 alg, .string (str key), .string (str text), .string (str tag)] w0 fun e w' => e = .returned (.int .i64 11) ∧ Below w0.heap.size w0 w' := by
 refine enter (n := 50) Tryz.func8 rfl rfl rfl ?_
 have hk : Below w0.heap.size w0 w0 := Below.refl _ _
 refine sr (w_as Ev.c (nt (sr (w_mv ei (w_call (Tryz.func10) kr rfl (m1 ei) (hO  w0) ?_)))))
 rintro _ w1 ⟨rfl, ag⟩
 refine ⟨_, rfl, ?_⟩
 replace hk := thenB hk ag
 refine w_mv (ex (.tuple #[.agg (arr 3 (fun j => if j < 1 then .int .i64 a else if j < 2 then .int .i64 b else .int .i64 c)), .int .i64 oe])) (w_val ye (w_val ye (w_alloc (m := 3) (F := fun j => if j < 1 then .int .i64 0 else if j < 2 then .int .i64 0 else .int .i64 0) kr ?_)))
 intro ad w3 ab aa af
 have ae := gb_ hk.size ab
 clear ab
 replace hk := thenB hk af
 refine w_sta (k := 3) (G := fun j => if j < 1 then .int .i64 a else if j < 2 then .int .i64 b else .int .i64 c) (ex (pt ad 0)) ea oc SuMT.sz35 aa om ?_
 clear aa; intro w5 aa ah _
 replace aa := aa.congr (g := fun j => if j < 1 then .int .i64 a else if j < 2 then .int .i64 b else .int .i64 c) (fun j hj => by rw [if_pos ⟨Nat.zero_le _, by omega⟩]; first | rfl | (simp only [Nat.sub_zero]))
 replace hk := thenG hk ah om
 refine w_as ei (nt (wp_seq (wp_block (sr (w_mv ei (w_val (y_bin ei Ev.c b_neq) (w_mv eb ?_)))))))
 by_cases ac : oe ≠ 0
 ·skip
  with_reducible refine w_skip ?_ ?_
  exact wn rfl rfl (eb (dt ac))
  with_reducible refine w_skip ?_ ?_
  exact wn rfl rfl (eb (dt ac))
  with_reducible refine w_skip ?_ ?_
  exact wn rfl rfl (eb (dt ac))
  refine w_val (y_pick_t (eb (dt ac)) Ev.c) (w_as eb (nt (c_tt eb (sr (w_as Ev.c (nt (wp_ret (inb_r (then_r (fin_ret1 rfl ei ?_))))))))))
  exact ⟨rfl, hk⟩
 ·skip
  refine w_val_g (v := pt ad 1) (wy rfl rfl (eb (df ac))) (y_off (y_fa (ex (pt ad 0)) (SuMT.fa35_1 _ _)) ro) (w_val_g (v := .int .i64 b) (wy rfl rfl (eb (df ac))) (y_ld (ex (pt ad 1)) SuMT.sc3 (aa.val om (ng pz))) (w_val_g (wy rfl rfl (eb (df ac))) (y_bin ei Ev.c b_neq) (w_val (y_pick_f (eb (df ac)) eb) (w_as eb (nt ?_)))))
  refine c_if (p := b ≠ 0) eb (fun hc8 => ?_) (fun hc8 => ?_)
  ·skip
   refine sr (w_as Ev.c (nt (wp_ret (inb_r (then_r (fin_ret1 rfl ei ?_))))))
   exact ⟨rfl, hk⟩
  ·skip
   refine wp_seq ?_
   exfalso; omega
end Go.Proofs.YtdmbfimjbmfbaaaGreatDoor
