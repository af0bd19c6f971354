/-
  Tags by their numbers, by the reference. Conditions as each says.
-/
import Derived.Test.YtdmbfimjbmfbaaaGreatDoorRows
import Derived.Test.YtdmbfimjbmfbaaaGreatDoorSuM
import Derived.Test.YtdmbfimjbmfbaaaGreatDoorCbcF
import Derived.Test.YtdmbfimjbmfbaaaGreatDoorHmacA
import Derived.Test.YtdmbfimjbmfbaaaGreatDoorGenSh
import Derived.ProofKit
namespace Go.Proofs.YtdmbfimjbmfbaaaGreatDoor
open Go.RowKit
set_option linter.unusedSimpArgs false
set_option linter.unusedVariables false
set_option maxRecDepth 100000
set_option maxHeartbeats 1000000
namespace SuFT
theorem mixed : Tryz.prog.follows .mixedOrders = true := by kernel_rfl
theorem fa35_0 (g off : Nat) : ∀ w, (Instr.fieldAt 35 (.pointer (some ⟨g, off, none⟩)) 0).run Tryz.prog w = .ok (.pointer (some ⟨g, off + 0, none⟩)) w := fun w => by kernel_rfl
theorem fa35_1 (g off : Nat) : ∀ w, (Instr.fieldAt 35 (.pointer (some ⟨g, off, none⟩)) 1).run Tryz.prog w = .ok (.pointer (some ⟨g, off + 1, none⟩)) w := fun w => by kernel_rfl
theorem fa35_2 (g off : Nat) : ∀ w, (Instr.fieldAt 35 (.pointer (some ⟨g, off, none⟩)) 2).run Tryz.prog w = .ok (.pointer (some ⟨g, off + 2, none⟩)) w := fun w => by kernel_rfl
theorem fa43_0 (g off : Nat) : ∀ w, (Instr.fieldAt 43 (.pointer (some ⟨g, off, none⟩)) 0).run Tryz.prog w = .ok (.pointer (some ⟨g, off + 0, none⟩)) w := fun w => by kernel_rfl
theorem fa43_1 (g off : Nat) : ∀ w, (Instr.fieldAt 43 (.pointer (some ⟨g, off, none⟩)) 1).run Tryz.prog w = .ok (.pointer (some ⟨g, off + 1, none⟩)) w := fun w => by kernel_rfl
theorem fa43_2 (g off : Nat) : ∀ w, (Instr.fieldAt 43 (.pointer (some ⟨g, off, none⟩)) 2).run Tryz.prog w = .ok (.pointer (some ⟨g, off + 2, none⟩)) w := fun w => by kernel_rfl
theorem fa43_3 (g off : Nat) : ∀ w, (Instr.fieldAt 43 (.pointer (some ⟨g, off, none⟩)) 3).run Tryz.prog w = .ok (.pointer (some ⟨g, off + 3, none⟩)) w := fun w => by kernel_rfl
theorem fa43_4 (g off : Nat) : ∀ w, (Instr.fieldAt 43 (.pointer (some ⟨g, off, none⟩)) 4).run Tryz.prog w = .ok (.pointer (some ⟨g, off + 4, none⟩)) w := fun w => by kernel_rfl
theorem sc3 : (Tryz.prog.underlying 3).map scal = some true := by rw [Tryz.underlying3]; rfl
theorem sz35 : (Tryz.prog.info? 35).map (·.size) = some 3 := by kernel_rfl
theorem sz43 : (Tryz.prog.info? 43).map (·.size) = some 5 := by kernel_rfl
end SuFT
theorem suRefMac (key : List (BitVec 8)) (hok : Aes.okKey key.length) (text : List (BitVec 8)) (hz : text.length ≤ 140000) (w : World) : Calls Tryz.prog 15 #[.string (str key), .string (str text)] w fun e w' => e = .returned (.tuple #[.string (str (Cb.mac key text)), .int .i64 0]) ∧ Below w.heap.size w w' := by
  rcases Nat.eq_zero_or_pos text.length with h | h
  · exact refMac_0 key hok text h w
  · exact refMac_y key hok text h hz w

theorem suRefMacs (i : Nat) (h14 : 14 ≤ i) (hi : i < 22) (key text : List (BitVec 8)) (hlt : text.length ≤ 140737488351232) (w0 : World) : Calls Tryz.prog 7 #[.int .i64 (((Su.al i) : Nat) : Int), .string (str key), .string (str text)] w0 fun e w' => e = .returned (.tuple #[.string (str ((Su.ms i key text).1)), .int .i64 ((Su.ms i key text).2)]) ∧ Below w0.heap.size w0 w' := by
 have ap := Su.mrow i h14 hi
 refine enter (n := 53) Tryz.func7 rfl rfl rfl ?_
 have hk : Below w0.heap.size w0 w0 := Below.refl _ _
 refine sr (w_as (evc (.string (str ([] : List (BitVec 8))))) (w_as Ev.c (nt (sr (w_mv ei (w_call (Tryz.func14) kr rfl (m1 ei) (refOf_y i hi w0) ?_))))))
 rintro _ w1 ⟨rfl, ai⟩
 refine ⟨_, rfl, ?_⟩
 replace hk := thenB hk ai
 refine w_alloc (m := 5) (F := fun j => if j < 1 then .int .i64 0 else if j < 2 then .int .i64 0 else if j < 3 then .int .i64 0 else if j < 4 then .int .i64 0 else .int .i64 0) kr ?_
 intro ab w3 ac aa am
 have ah := gb_ hk.size ac
 clear ac
 replace hk := thenB hk am
 refine w_sta (k := 5) (G := fun j => if j < 1 then .int .i64 (((Su.al i) : Nat) : Int) else if j < 2 then .int .i64 (((Su.ky i) : Nat) : Int) else if j < 3 then .int .i64 (((Su.iv i) : Nat) : Int) else if j < 4 then .int .i64 (((Su.tg i) : Nat) : Int) else .int .i64 (((Su.ly i) : Nat) : Int)) (ex (pt ab 0)) ea oc SuFT.sz43 aa om ?_
 clear aa; intro w5 aa ak _
 replace aa := aa.congr (g := fun j => if j < 1 then .int .i64 (((Su.al i) : Nat) : Int) else if j < 2 then .int .i64 (((Su.ky i) : Nat) : Int) else if j < 3 then .int .i64 (((Su.iv i) : Nat) : Int) else if j < 4 then .int .i64 (((Su.tg i) : Nat) : Int) else .int .i64 (((Su.ly i) : Nat) : Int)) (fun j hj => by rw [if_pos ⟨Nat.zero_le _, by omega⟩]; first | rfl | (simp only [Nat.sub_zero]))
 replace hk := thenG hk ak om
 refine nt (wp_seq (wp_block (sr (w_val (v := pt ab 0) (y_off (y_fa (ex (pt ab 0)) (SuFT.fa43_0 _ _)) ro) (w_val (v := .int .i64 (((Su.al i) : Nat) : Int)) (y_ld (ex (pt ab 0)) SuFT.sc3 (aa.val om pz)) (w_val (y_bin ei Ev.c b_eql) (w_mv eb ?_)))))))
 have af : ¬ ((((Su.al i) : Nat) : Int) = 0) := by have := Su.al_pos i hi; omega
 refine w_val_g (v := pt ab 2) (wy rfl rfl (eb (df af))) (y_off (y_fa (ex (pt ab 0)) (SuFT.fa43_2 _ _)) ro) (w_val_g (v := .int .i64 (((Su.iv i) : Nat) : Int)) (wy rfl rfl (eb (df af))) (y_ld (ex (pt ab 2)) SuFT.sc3 (aa.val om (ng (ng pz)))) (w_val_g (wy rfl rfl (eb (df af))) (y_bin ei Ev.c b_neq) (w_val (y_pick_f (eb (df af)) eb) (w_as eb (nt ?_)))))
 have aj : ¬ ((((Su.iv i) : Nat) : Int) ≠ 0) := by omega
 refine c_f (p := (((Su.iv i) : Nat) : Int) ≠ 0) eb aj (sr (w_mv es (w_val (y_len es Tryz.underlying9) (w_val (v := pt ab 1) (y_off (y_fa (ex (pt ab 0)) (SuFT.fa43_1 _ _)) ro) (w_val (v := .int .i64 (((Su.ky i) : Nat) : Int)) (y_ld (ex (pt ab 1)) SuFT.sc3 (aa.val om (ng pz))) (w_val (y_bin ei ei b_neq) (w_as eb (nt ?_))))))))
 refine c_if (p := ((key.length : Nat) : Int) ≠ (((Su.ky i) : Nat) : Int)) eb (fun hc9 => ?_) (fun hc9 => ?_)
 ·skip
  refine sr (w_as (evc (.string (str ([] : List (BitVec 8))))) (w_as Ev.c (nt (wp_ret (inb_r (then_r (fin_ret2 rfl es ei ?_)))))))
  refine ⟨congrArg Ending.returned ?_, hk⟩
  show (.tuple #[.string (str ([] : List (BitVec 8))), .int .i64 3] : Value) = .tuple #[.string (str ((Su.ms i key text).1)), .int .i64 ((Su.ms i key text).2)]
  first | exact Su.fin_h i key text om om om | exact Su.fin_c i key text om om om | exact congrArg (fun p : Su.L8 × Int => Value.tuple #[.string (str p.1), .int .i64 p.2]) (Su.ms_y i key text om om).symm | exact congrArg (fun p : Su.L8 × Int => Value.tuple #[.string (str p.1), .int .i64 p.2]) (Su.ms_z i key text om om).symm | exact congrArg (fun p : Su.L8 × Int => Value.tuple #[.string (str p.1), .int .i64 p.2]) (Su.ms_k i key text om).symm
 ·skip
  refine sr (w_mv es (w_val (y_len es Tryz.underlying9) (w_val (y_bin ei Ev.c b_gtr) (w_as eb (nt ?_)))))
  refine c_if (p := 140000 < ((text.length : Nat) : Int)) eb (fun hc10 => ?_) (fun hc10 => ?_)
  ·skip
   refine sr (w_as (evc (.string (str ([] : List (BitVec 8))))) (w_as Ev.c (nt (wp_ret (inb_r (then_r (fin_ret2 rfl es ei ?_)))))))
   refine ⟨congrArg Ending.returned ?_, hk⟩
   show (.tuple #[.string (str ([] : List (BitVec 8))), .int .i64 6] : Value) = .tuple #[.string (str ((Su.ms i key text).1)), .int .i64 ((Su.ms i key text).2)]
   first | exact Su.fin_h i key text om om om | exact Su.fin_c i key text om om om | exact congrArg (fun p : Su.L8 × Int => Value.tuple #[.string (str p.1), .int .i64 p.2]) (Su.ms_y i key text om om).symm | exact congrArg (fun p : Su.L8 × Int => Value.tuple #[.string (str p.1), .int .i64 p.2]) (Su.ms_z i key text om om).symm | exact congrArg (fun p : Su.L8 × Int => Value.tuple #[.string (str p.1), .int .i64 p.2]) (Su.ms_k i key text om).symm
  ·skip
   refine wp_skip (inb_n (then_n (wp_seq ?_)))
   have ag : key.length = Su.ky i := by omega
   have aq : text.length ≤ 140000 := by omega
   have ao := Su.hl i key text h14 ag
   have ai := Su.cl i key text hi ag
   refine wp_region_lit (w_as (evc (.string (str ([] : List (BitVec 8))))) (nt (wp_seq (sr (w_val (v := pt ab 4) (y_off (y_fa (ex (pt ab 0)) (SuFT.fa43_4 _ _)) ro) (w_val (v := .int .i64 (((Su.ly i) : Nat) : Int)) (y_ld (ex (pt ab 4)) SuFT.sc3 (aa.val om (ng (ng (ng (ng dv)))))) (w_val (y_bin ei Ev.c b_eql) (nt ?_))))))))
   refine c_if (p := (((Su.ly i) : Nat) : Int) = 6) eb (fun hc11 => ?_) (fun hc11 => ?_)
   ·skip
    refine wp_region_lit (w_mv es (w_mv es (w_call (Tryz.func15) kr rfl (m2 es es) (suRefMac key (by rw [ag]; exact Su.ok i om hi) text om w5) ?_)))
    rintro _ an ⟨rfl, ae⟩
    refine ⟨_, rfl, ?_⟩
    replace aa := aa.step ae
    replace hk := thenB hk ae
    refine w_mv (ex (.tuple #[.string (str (Cb.mac key text)), .int .i64 0])) (w_val ye (w_val ye (w_as es (nt (sr (w_mv es (w_val (v := pt ab 3) (y_off (y_fa (ex (pt ab 0)) (SuFT.fa43_3 _ _)) ro) (w_val (v := .int .i64 (((Su.tg i) : Nat) : Int)) (y_ld (ex (pt ab 3)) SuFT.sc3 (aa.val om (ng (ng (ng pz))))) (w_val (v := .string (str ((Cb.mac key text).take (Su.tg i)))) (y_sls (ex (.string (str (Cb.mac key text)))) evo.no (evo.s ei) Tryz.underlying9 (bnd_h (h := (Su.tg i)) om om)) (w_as es (w_as Ev.c (nt (wp_ret (fin_ret2 rfl es ei ?_))))))))))))))
    refine ⟨congrArg Ending.returned ?_, hk⟩
    show (.tuple #[.string (str ((Cb.mac key text).take (Su.tg i))), .int .i64 0] : Value) = .tuple #[.string (str ((Su.ms i key text).1)), .int .i64 ((Su.ms i key text).2)]
    first | exact Su.fin_h i key text om om om | exact Su.fin_c i key text om om om | exact congrArg (fun p : Su.L8 × Int => Value.tuple #[.string (str p.1), .int .i64 p.2]) (Su.ms_y i key text om om).symm | exact congrArg (fun p : Su.L8 × Int => Value.tuple #[.string (str p.1), .int .i64 p.2]) (Su.ms_z i key text om om).symm | exact congrArg (fun p : Su.L8 × Int => Value.tuple #[.string (str p.1), .int .i64 p.2]) (Su.ms_k i key text om).symm
   ·skip
    refine wp_region_lit (w_val (v := pt ab 1) (y_off (y_fa (ex (pt ab 0)) (SuFT.fa43_1 _ _)) ro) (w_val (v := .int .i64 (((Su.ky i) : Nat) : Int)) (y_ld (ex (pt ab 1)) SuFT.sc3 (aa.val om (ng pz))) (w_val (y_bin Ev.c ei (b_mul om)) (w_mv es (w_mv es (w_call (Tryz.func16) kr rfl (m3 (ex (.int .i64 (((8 * key.length) : Nat) : Int)) (Eq.trans (b := .int .i64 (8 * (((Su.ky i) : Nat) : Int))) rfl (by exact congrArg (Value.int .i64) om))) es es) (refMac_l (8 * key.length) (by rw [ag]; exact Su.kn i h14 om) key text om om w5) ?_))))))
    rintro _ ar ⟨rfl, ad⟩
    refine ⟨_, rfl, ?_⟩
    replace aa := aa.step ad
    replace hk := thenB hk ad
    refine w_mv (ex (.tuple #[.string (str (Hm.mac (8 * key.length) key text)), .int .i64 0])) (w_val ye (w_val ye (w_as es (nt (sr (w_mv es (w_val (v := pt ab 3) (y_off (y_fa (ex (pt ab 0)) (SuFT.fa43_3 _ _)) ro) (w_val (v := .int .i64 (((Su.tg i) : Nat) : Int)) (y_ld (ex (pt ab 3)) SuFT.sc3 (aa.val om (ng (ng (ng pz))))) (w_val (v := .string (str ((Hm.mac (8 * key.length) key text).take (Su.tg i)))) (y_sls (ex (.string (str (Hm.mac (8 * key.length) key text)))) evo.no (evo.s ei) Tryz.underlying9 (bnd_h (h := (Su.tg i)) om om)) (w_as es (w_as Ev.c (nt (wp_ret (fin_ret2 rfl es ei ?_))))))))))))))
    refine ⟨congrArg Ending.returned ?_, hk⟩
    show (.tuple #[.string (str ((Hm.mac (8 * key.length) key text).take (Su.tg i))), .int .i64 0] : Value) = .tuple #[.string (str ((Su.ms i key text).1)), .int .i64 ((Su.ms i key text).2)]
    first | exact Su.fin_h i key text om om om | exact Su.fin_c i key text om om om | exact congrArg (fun p : Su.L8 × Int => Value.tuple #[.string (str p.1), .int .i64 p.2]) (Su.ms_y i key text om om).symm | exact congrArg (fun p : Su.L8 × Int => Value.tuple #[.string (str p.1), .int .i64 p.2]) (Su.ms_z i key text om om).symm | exact congrArg (fun p : Su.L8 × Int => Value.tuple #[.string (str p.1), .int .i64 p.2]) (Su.ms_k i key text om).symm

theorem suRefCheck (i : Nat) (h14 : 14 ≤ i) (hi : i < 22) (key text : List (BitVec 8)) (tag : List (BitVec 8)) (hlt : text.length ≤ 140737488351232) (w0 : World) : Calls Tryz.prog 9 #[.int .i64 (((Su.al i) : Nat) : Int), .string (str key), .string (str text), .string (str tag)] w0 fun e w' => e = .returned (.int .i64 (Su.ce i key text tag)) ∧ Below w0.heap.size w0 w' := by
 have aw := Su.mrow i h14 hi
 refine enter (n := 51) Tryz.func9 rfl rfl rfl ?_
 have hk : Below w0.heap.size w0 w0 := Below.refl _ _
 refine sr (w_as Ev.c (nt (sr (w_mv ei (w_call (Tryz.func14) kr rfl (m1 ei) (refOf_y i hi w0) ?_)))))
 rintro _ w1 ⟨rfl, ap⟩
 refine ⟨_, rfl, ?_⟩
 replace hk := thenB hk ap
 refine w_alloc (m := 5) (F := fun j => if j < 1 then .int .i64 0 else if j < 2 then .int .i64 0 else if j < 3 then .int .i64 0 else if j < 4 then .int .i64 0 else .int .i64 0) kr ?_
 intro ad w3 ae aa au
 have an := gb_ hk.size ae
 clear ae
 replace hk := thenB hk au
 refine w_sta (k := 5) (G := fun j => if j < 1 then .int .i64 (((Su.al i) : Nat) : Int) else if j < 2 then .int .i64 (((Su.ky i) : Nat) : Int) else if j < 3 then .int .i64 (((Su.iv i) : Nat) : Int) else if j < 4 then .int .i64 (((Su.tg i) : Nat) : Int) else .int .i64 (((Su.ly i) : Nat) : Int)) (ex (pt ad 0)) ea oc SuFT.sz43 aa om ?_
 clear aa; intro w5 aa aq _
 replace aa := aa.congr (g := fun j => if j < 1 then .int .i64 (((Su.al i) : Nat) : Int) else if j < 2 then .int .i64 (((Su.ky i) : Nat) : Int) else if j < 3 then .int .i64 (((Su.iv i) : Nat) : Int) else if j < 4 then .int .i64 (((Su.tg i) : Nat) : Int) else .int .i64 (((Su.ly i) : Nat) : Int)) (fun j hj => by rw [if_pos ⟨Nat.zero_le _, by omega⟩]; first | rfl | (simp only [Nat.sub_zero]))
 replace hk := thenG hk aq om
 refine nt ?_
 refine c_cut (fun aN wl => ∃ f7, aN = fr 51 f7 ∧ (key.length = Su.ky i → tag.length = Su.tg i) ∧ f7 0 = .int .i64 (((Su.al i) : Nat) : Int) ∧ f7 1 = .string (str key) ∧ f7 2 = .string (str text) ∧ f7 3 = .string (str tag) ∧ Row wl ad 43 5 (fun j => if j < 1 then .int .i64 (((Su.al i) : Nat) : Int) else if j < 2 then .int .i64 (((Su.ky i) : Nat) : Int) else if j < 3 then .int .i64 (((Su.iv i) : Nat) : Int) else if j < 4 then .int .i64 (((Su.tg i) : Nat) : Int) else .int .i64 (((Su.ly i) : Nat) : Int)) ∧ Below w0.heap.size w0 wl) ?_ ?_
 ·skip
  refine sr (w_val (v := pt ad 0) (y_off (y_fa (ex (pt ad 0)) (SuFT.fa43_0 _ _)) ro) (w_val (v := .int .i64 (((Su.al i) : Nat) : Int)) (y_ld (ex (pt ad 0)) SuFT.sc3 (aa.val om pz)) (w_val (y_bin ei Ev.c b_neq) (w_mv eb ?_))))
  have am : (((Su.al i) : Nat) : Int) ≠ 0 := by have := Su.al_pos i hi; omega
  refine w_val_g (v := pt ad 2) (wy rfl rfl (eb (dt am))) (y_off (y_fa (ex (pt ad 0)) (SuFT.fa43_2 _ _)) ro) (w_val_g (v := .int .i64 (((Su.iv i) : Nat) : Int)) (wy rfl rfl (eb (dt am))) (y_ld (ex (pt ad 2)) SuFT.sc3 (aa.val om (ng (ng pz)))) (w_val_g (wy rfl rfl (eb (dt am))) (y_bin ei Ev.c b_eql) (w_val (y_pick_t (eb (dt am)) eb) (w_mv eb ?_))))
  have af : (((Su.iv i) : Nat) : Int) = 0 := by omega
  refine w_val_g (v := .string (str key)) (wy rfl rfl (eb (dt af))) (y_mv es) (w_val_g (wy rfl rfl (eb (dt af))) (y_len es Tryz.underlying9) (w_val_g (v := pt ad 1) (wy rfl rfl (eb (dt af))) (y_off (y_fa (ex (pt ad 0)) (SuFT.fa43_1 _ _)) ro) (w_val_g (v := .int .i64 (((Su.ky i) : Nat) : Int)) (wy rfl rfl (eb (dt af))) (y_ld (ex (pt ad 1)) SuFT.sc3 (aa.val om (ng pz))) (w_val_g (wy rfl rfl (eb (dt af))) (y_bin ei ei b_eql) (w_val (y_pick_t (eb (dt af)) eb) (w_mv eb ?_))))))
  by_cases ab : ((key.length : Nat) : Int) = (((Su.ky i) : Nat) : Int)
  ·skip
   refine w_val_g (v := .string (str tag)) (wy rfl rfl (eb (dt ab))) (y_mv es) (w_val_g (wy rfl rfl (eb (dt ab))) (y_len es Tryz.underlying9) (w_val_g (v := pt ad 3) (wy rfl rfl (eb (dt ab))) (y_off (y_fa (ex (pt ad 0)) (SuFT.fa43_3 _ _)) ro) (w_val_g (v := .int .i64 (((Su.tg i) : Nat) : Int)) (wy rfl rfl (eb (dt ab))) (y_ld (ex (pt ad 3)) SuFT.sc3 (aa.val om (ng (ng (ng pz))))) (w_val_g (wy rfl rfl (eb (dt ab))) (y_bin ei ei b_neq) (w_val (y_pick_t (eb (dt ab)) eb) (nt ?_))))))
   refine c_if (p := ((tag.length : Nat) : Int) ≠ (((Su.tg i) : Nat) : Int)) eb (fun hc12 => ?_) (fun hc12 => ?_)
   ·skip
    refine sr (w_as Ev.c (nt (wp_ret (then_r (fin_ret1 rfl ei ?_)))))
    refine ⟨congrArg Ending.returned ?_, hk⟩
    show (.int .i64 5 : Value) = .int .i64 (Su.ce i key text tag)
    first | exact congrArg (Value.int .i64) ((Su.ce_of i key text tag om).trans (if_pos ⟨by assumption, by assumption⟩)).symm | exact congrArg (Value.int .i64) ((Su.ce_of i key text tag om).trans (if_neg (fun e => by first | exact absurd e.1 (by assumption) | exact absurd e.2 (by assumption)))).symm | exact congrArg (Value.int .i64) (Su.ce_y i key text tag om om om (by first | assumption | exact Decidable.not_not.1 (by assumption))).symm | exact congrArg (Value.int .i64) (Su.ce_n i key text tag om om om (by assumption)).symm | exact congrArg (Value.int .i64) (Su.ce_z i key text tag om om om).symm | exact congrArg (Value.int .i64) (Su.ce_t i key text tag om om).symm | exact congrArg (Value.int .i64) (Su.ce_k i key text tag om).symm
   ·skip
    refine wp_skip ?_
    exact then_n ⟨_, rfl, iv, rfl, rfl, rfl, rfl, aa, hk⟩
  ·skip
   with_reducible refine w_skip ?_ ?_
   exact wn rfl rfl (eb (df ab))
   with_reducible refine w_skip ?_ ?_
   exact wn rfl rfl (eb (df ab))
   with_reducible refine w_skip ?_ ?_
   exact wn rfl rfl (eb (df ab))
   with_reducible refine w_skip ?_ ?_
   exact wn rfl rfl (eb (df ab))
   with_reducible refine w_skip ?_ ?_
   exact wn rfl rfl (eb (df ab))
   refine w_val (y_pick_f (eb (df ab)) Ev.c) (nt (c_ff eb (wp_skip ?_)))
   exact then_n ⟨_, rfl, iv, rfl, rfl, rfl, rfl, aa, hk⟩
 ·skip
  clear aa hk
  rintro _ ar ⟨f7, rfl, ao, ag, ak, aj, ai, aa, hk⟩
  refine sr (w_mv (ei ag) (w_mv (es ak) (w_mv (es aj) (w_call (Tryz.func7) kr rfl (m3 ei es es) (suRefMacs i h14 hi key text hlt ar) ?_))))
  rintro _ av ⟨rfl, ah⟩
  refine ⟨_, rfl, ?_⟩
  replace aa := aa.step ah
  replace hk := thenB hk ah
  refine w_mv (ex (.tuple #[.string (str ((Su.ms i key text).1)), .int .i64 ((Su.ms i key text).2)])) (w_val ye (w_val ye (w_as es (w_as ei (nt (wp_seq (sr (w_mv ei (w_val (y_bin ei Ev.c b_eql) (w_mv eb ?_))))))))))
  by_cases ac : ((Su.ms i key text).2) = 0
  ·skip
   refine w_val_g (v := .string (str ((Su.ms i key text).1))) (wy rfl rfl (eb (dt ac))) (y_mv es) (w_val_g (v := .string (str tag)) (wy rfl rfl (eb (dt ac))) (y_mv (es ai)) (w_val_g (wy rfl rfl (eb (dt ac))) (y_bin es es b_nes) (w_val (y_pick_t (eb (dt ac)) eb) (nt ?_))))
   refine c_if (p := ((Su.ms i key text).1) ≠ tag) eb (fun hc17 => ?_) (fun hc17 => ?_)
   ·skip
    refine sr (w_as Ev.c (nt (wp_ret (then_r (fin_ret1 rfl ei ?_)))))
    refine ⟨congrArg Ending.returned ?_, hk⟩
    show (.int .i64 8 : Value) = .int .i64 (Su.ce i key text tag)
    first | exact congrArg (Value.int .i64) ((Su.ce_of i key text tag om).trans (if_pos ⟨by assumption, by assumption⟩)).symm | exact congrArg (Value.int .i64) ((Su.ce_of i key text tag om).trans (if_neg (fun e => by first | exact absurd e.1 (by assumption) | exact absurd e.2 (by assumption)))).symm | exact congrArg (Value.int .i64) (Su.ce_y i key text tag om om om (by first | assumption | exact Decidable.not_not.1 (by assumption))).symm | exact congrArg (Value.int .i64) (Su.ce_n i key text tag om om om (by assumption)).symm | exact congrArg (Value.int .i64) (Su.ce_z i key text tag om om om).symm | exact congrArg (Value.int .i64) (Su.ce_t i key text tag om om).symm | exact congrArg (Value.int .i64) (Su.ce_k i key text tag om).symm
   ·skip
    refine wp_skip (then_n (sr (w_mv ei (w_as ei (nt (wp_ret (fin_ret1 rfl ei ?_)))))))
    refine ⟨congrArg Ending.returned ?_, hk⟩
    show (.int .i64 ((Su.ms i key text).2) : Value) = .int .i64 (Su.ce i key text tag)
    first | exact congrArg (Value.int .i64) ((Su.ce_of i key text tag om).trans (if_pos ⟨by assumption, by assumption⟩)).symm | exact congrArg (Value.int .i64) ((Su.ce_of i key text tag om).trans (if_neg (fun e => by first | exact absurd e.1 (by assumption) | exact absurd e.2 (by assumption)))).symm | exact congrArg (Value.int .i64) (Su.ce_y i key text tag om om om (by first | assumption | exact Decidable.not_not.1 (by assumption))).symm | exact congrArg (Value.int .i64) (Su.ce_n i key text tag om om om (by assumption)).symm | exact congrArg (Value.int .i64) (Su.ce_z i key text tag om om om).symm | exact congrArg (Value.int .i64) (Su.ce_t i key text tag om om).symm | exact congrArg (Value.int .i64) (Su.ce_k i key text tag om).symm
  ·skip
   with_reducible refine w_skip ?_ ?_
   exact wn rfl rfl (eb (df ac))
   with_reducible refine w_skip ?_ ?_
   exact wn rfl rfl (eb (df ac))
   with_reducible refine w_skip ?_ ?_
   exact wn rfl rfl (eb (df ac))
   refine w_val (y_pick_f (eb (df ac)) Ev.c) (nt (c_ff eb (wp_skip (then_n (sr (w_mv ei (w_as ei (nt (wp_ret (fin_ret1 rfl ei ?_))))))))))
   refine ⟨congrArg Ending.returned ?_, hk⟩
   show (.int .i64 ((Su.ms i key text).2) : Value) = .int .i64 (Su.ce i key text tag)
   first | exact congrArg (Value.int .i64) ((Su.ce_of i key text tag om).trans (if_pos ⟨by assumption, by assumption⟩)).symm | exact congrArg (Value.int .i64) ((Su.ce_of i key text tag om).trans (if_neg (fun e => by first | exact absurd e.1 (by assumption) | exact absurd e.2 (by assumption)))).symm | exact congrArg (Value.int .i64) (Su.ce_y i key text tag om om om (by first | assumption | exact Decidable.not_not.1 (by assumption))).symm | exact congrArg (Value.int .i64) (Su.ce_n i key text tag om om om (by assumption)).symm | exact congrArg (Value.int .i64) (Su.ce_z i key text tag om om om).symm | exact congrArg (Value.int .i64) (Su.ce_t i key text tag om om).symm | exact congrArg (Value.int .i64) (Su.ce_k i key text tag om).symm

theorem suRefMac_r (alg a b c d l : Int) (hO : ∀ w, Calls Tryz.prog 14 #[.int .i64 alg] w fun e w' => e = .returned (.agg (arr 5 (fun j => if j < 1 then .int .i64 a else if j < 2 then .int .i64 b else if j < 3 then .int .i64 c else if j < 4 then .int .i64 d else .int .i64 l))) ∧ Below w.heap.size w w') (hr : a = 0 ∨ c ≠ 0) (key text : List (BitVec 8))  (w0 : World) : Calls Tryz.prog 7 #[.int .i64 alg, .string (str key), .string (str text)] w0 fun e w' => e = .returned (.tuple #[.string (str ([] : List (BitVec 8))), .int .i64 11]) ∧ Below w0.heap.size w0 w' := by
 refine enter (n := 53) Tryz.func7 rfl rfl rfl ?_
 have hk : Below w0.heap.size w0 w0 := Below.refl _ _
 refine sr (w_as (evc (.string (str ([] : List (BitVec 8))))) (w_as Ev.c (nt (sr (w_mv ei (w_call (Tryz.func14) kr rfl (m1 ei) (hO  w0) ?_))))))
 rintro _ w1 ⟨rfl, ag⟩
 refine ⟨_, rfl, ?_⟩
 replace hk := thenB hk ag
 refine w_alloc (m := 5) (F := fun j => if j < 1 then .int .i64 0 else if j < 2 then .int .i64 0 else if j < 3 then .int .i64 0 else if j < 4 then .int .i64 0 else .int .i64 0) kr ?_
 intro ad w3 ab aa af
 have ae := gb_ hk.size ab
 clear ab
 replace hk := thenB hk af
 refine w_sta (k := 5) (G := fun j => if j < 1 then .int .i64 a else if j < 2 then .int .i64 b else if j < 3 then .int .i64 c else if j < 4 then .int .i64 d else .int .i64 l) (ex (pt ad 0)) ea oc SuFT.sz43 aa om ?_
 clear aa; intro w5 aa ah _
 replace aa := aa.congr (g := fun j => if j < 1 then .int .i64 a else if j < 2 then .int .i64 b else if j < 3 then .int .i64 c else if j < 4 then .int .i64 d else .int .i64 l) (fun j hj => by rw [if_pos ⟨Nat.zero_le _, by omega⟩]; first | rfl | (simp only [Nat.sub_zero]))
 replace hk := thenG hk ah om
 refine nt (wp_seq (wp_block (sr (w_val (v := pt ad 0) (y_off (y_fa (ex (pt ad 0)) (SuFT.fa43_0 _ _)) ro) (w_val (v := .int .i64 a) (y_ld (ex (pt ad 0)) SuFT.sc3 (aa.val om pz)) (w_val (y_bin ei Ev.c b_eql) (w_mv eb ?_)))))))
 by_cases ac : a = 0
 ·skip
  with_reducible refine w_skip ?_ ?_
  exact wn rfl rfl (eb (dt ac))
  with_reducible refine w_skip ?_ ?_
  exact wn rfl rfl (eb (dt ac))
  with_reducible refine w_skip ?_ ?_
  exact wn rfl rfl (eb (dt ac))
  refine w_val (y_pick_t (eb (dt ac)) Ev.c) (w_as eb (nt (c_tt eb (sr (w_as (evc (.string (str ([] : List (BitVec 8))))) (w_as Ev.c (nt (wp_ret (inb_r (then_r (fin_ret2 rfl es ei ?_)))))))))))
  exact ⟨rfl, hk⟩
 ·skip
  refine w_val_g (v := pt ad 2) (wy rfl rfl (eb (df ac))) (y_off (y_fa (ex (pt ad 0)) (SuFT.fa43_2 _ _)) ro) (w_val_g (v := .int .i64 c) (wy rfl rfl (eb (df ac))) (y_ld (ex (pt ad 2)) SuFT.sc3 (aa.val om (ng (ng pz)))) (w_val_g (wy rfl rfl (eb (df ac))) (y_bin ei Ev.c b_neq) (w_val (y_pick_f (eb (df ac)) eb) (w_as eb (nt ?_)))))
  refine c_if (p := c ≠ 0) eb (fun hc8 => ?_) (fun hc8 => ?_)
  ·skip
   refine sr (w_as (evc (.string (str ([] : List (BitVec 8))))) (w_as Ev.c (nt (wp_ret (inb_r (then_r (fin_ret2 rfl es ei ?_)))))))
   exact ⟨rfl, hk⟩
  ·skip
   refine wp_seq ?_
   exfalso; omega

theorem suRefCheck_r (alg a b c d l : Int) (hO : ∀ w, Calls Tryz.prog 14 #[.int .i64 alg] w fun e w' => e = .returned (.agg (arr 5 (fun j => if j < 1 then .int .i64 a else if j < 2 then .int .i64 b else if j < 3 then .int .i64 c else if j < 4 then .int .i64 d else .int .i64 l))) ∧ Below w.heap.size w w') (hr : a = 0 ∨ c ≠ 0) (key text : List (BitVec 8)) (tag : List (BitVec 8))  (w0 : World) : Calls Tryz.prog 9 #[.int .i64 alg, .string (str key), .string (str text), .string (str tag)] w0 fun e w' => e = .returned (.int .i64 11) ∧ Below w0.heap.size w0 w' := by
 refine enter (n := 51) Tryz.func9 rfl rfl rfl ?_
 have hk : Below w0.heap.size w0 w0 := Below.refl _ _
 refine sr (w_as Ev.c (nt (sr (w_mv ei (w_call (Tryz.func14) kr rfl (m1 ei) (hO  w0) ?_)))))
 rintro _ w1 ⟨rfl, al⟩
 refine ⟨_, rfl, ?_⟩
 replace hk := thenB hk al
 refine w_alloc (m := 5) (F := fun j => if j < 1 then .int .i64 0 else if j < 2 then .int .i64 0 else if j < 3 then .int .i64 0 else if j < 4 then .int .i64 0 else .int .i64 0) kr ?_
 intro ac w3 ab aa an
 have ak := gb_ hk.size ab
 clear ab
 replace hk := thenB hk an
 refine w_sta (k := 5) (G := fun j => if j < 1 then .int .i64 a else if j < 2 then .int .i64 b else if j < 3 then .int .i64 c else if j < 4 then .int .i64 d else .int .i64 l) (ex (pt ac 0)) ea oc SuFT.sz43 aa om ?_
 clear aa; intro w5 aa am _
 replace aa := aa.congr (g := fun j => if j < 1 then .int .i64 a else if j < 2 then .int .i64 b else if j < 3 then .int .i64 c else if j < 4 then .int .i64 d else .int .i64 l) (fun j hj => by rw [if_pos ⟨Nat.zero_le _, by omega⟩]; first | rfl | (simp only [Nat.sub_zero]))
 replace hk := thenG hk am om
 refine nt (wp_seq (sr (w_val (v := pt ac 0) (y_off (y_fa (ex (pt ac 0)) (SuFT.fa43_0 _ _)) ro) (w_val (v := .int .i64 a) (y_ld (ex (pt ac 0)) SuFT.sc3 (aa.val om pz)) (w_val (y_bin ei Ev.c b_neq) (w_mv eb ?_))))))
 by_cases af : a ≠ 0
 ·skip
  refine w_val_g (v := pt ac 2) (wy rfl rfl (eb (dt af))) (y_off (y_fa (ex (pt ac 0)) (SuFT.fa43_2 _ _)) ro) (w_val_g (v := .int .i64 c) (wy rfl rfl (eb (dt af))) (y_ld (ex (pt ac 2)) SuFT.sc3 (aa.val om (ng (ng pz)))) (w_val_g (wy rfl rfl (eb (dt af))) (y_bin ei Ev.c b_eql) (w_val (y_pick_t (eb (dt af)) eb) (w_mv eb ?_))))
  by_cases ad : c = 0
  ·skip
   refine w_val_g (v := .string (str key)) (wy rfl rfl (eb (dt ad))) (y_mv es) (w_val_g (wy rfl rfl (eb (dt ad))) (y_len es Tryz.underlying9) (w_val_g (v := pt ac 1) (wy rfl rfl (eb (dt ad))) (y_off (y_fa (ex (pt ac 0)) (SuFT.fa43_1 _ _)) ro) (w_val_g (v := .int .i64 b) (wy rfl rfl (eb (dt ad))) (y_ld (ex (pt ac 1)) SuFT.sc3 (aa.val om (ng pz))) (w_val_g (wy rfl rfl (eb (dt ad))) (y_bin ei ei b_eql) (w_val (y_pick_t (eb (dt ad)) eb) (w_mv eb ?_))))))
   by_cases ae : ((key.length : Nat) : Int) = b
   ·skip
    refine w_val_g (v := .string (str tag)) (wy rfl rfl (eb (dt ae))) (y_mv es) (w_val_g (wy rfl rfl (eb (dt ae))) (y_len es Tryz.underlying9) (w_val_g (v := pt ac 3) (wy rfl rfl (eb (dt ae))) (y_off (y_fa (ex (pt ac 0)) (SuFT.fa43_3 _ _)) ro) (w_val_g (v := .int .i64 d) (wy rfl rfl (eb (dt ae))) (y_ld (ex (pt ac 3)) SuFT.sc3 (aa.val om (ng (ng (ng pz))))) (w_val_g (wy rfl rfl (eb (dt ae))) (y_bin ei ei b_neq) (w_val (y_pick_t (eb (dt ae)) eb) (nt ?_))))))
    refine c_if (p := ((tag.length : Nat) : Int) ≠ d) eb (fun hc10 => ?_) (fun hc10 => ?_)
    ·skip
     refine wp_seq ?_
     exfalso; omega
    ·skip
     refine wp_skip (then_n (sr (w_mv ei (w_mv es (w_mv es (w_call (Tryz.func7) kr rfl (m3 ei es es) (suRefMac_r alg a b c d l hO hr key text w5) ?_))))))
     rintro _ aq ⟨rfl, aj⟩
     refine ⟨_, rfl, ?_⟩
     replace aa := aa.step aj
     replace hk := thenB hk aj
     refine w_mv (ex (.tuple #[.string (str ([] : List (BitVec 8))), .int .i64 11])) (w_val ye (w_val ye (w_as es (w_as ei (nt (wp_seq (sr (w_mv ei (w_val (y_bin ei Ev.c b_eql) (w_mv eb ?_))))))))))
     with_reducible refine w_skip ?_ ?_
     exact wn rfl rfl eb
     with_reducible refine w_skip ?_ ?_
     exact wn rfl rfl eb
     with_reducible refine w_skip ?_ ?_
     exact wn rfl rfl eb
     refine w_val (y_pick_f eb Ev.c) (nt (c_ff eb (wp_skip (then_n (sr (w_mv ei (w_as ei (nt (wp_ret (fin_ret1 rfl ei ?_))))))))))
     exact ⟨rfl, hk⟩
   ·skip
    with_reducible refine w_skip ?_ ?_
    exact wn rfl rfl (eb (df ae))
    with_reducible refine w_skip ?_ ?_
    exact wn rfl rfl (eb (df ae))
    with_reducible refine w_skip ?_ ?_
    exact wn rfl rfl (eb (df ae))
    with_reducible refine w_skip ?_ ?_
    exact wn rfl rfl (eb (df ae))
    with_reducible refine w_skip ?_ ?_
    exact wn rfl rfl (eb (df ae))
    refine w_val (y_pick_f (eb (df ae)) Ev.c) (nt (c_ff eb (wp_skip (then_n (sr (w_mv ei (w_mv es (w_mv es (w_call (Tryz.func7) kr rfl (m3 ei es es) (suRefMac_r alg a b c d l hO hr key text w5) ?_)))))))))
    rintro _ ao ⟨rfl, ah⟩
    refine ⟨_, rfl, ?_⟩
    replace aa := aa.step ah
    replace hk := thenB hk ah
    refine w_mv (ex (.tuple #[.string (str ([] : List (BitVec 8))), .int .i64 11])) (w_val ye (w_val ye (w_as es (w_as ei (nt (wp_seq (sr (w_mv ei (w_val (y_bin ei Ev.c b_eql) (w_mv eb ?_))))))))))
    with_reducible refine w_skip ?_ ?_
    exact wn rfl rfl eb
    with_reducible refine w_skip ?_ ?_
    exact wn rfl rfl eb
    with_reducible refine w_skip ?_ ?_
    exact wn rfl rfl eb
    refine w_val (y_pick_f eb Ev.c) (nt (c_ff eb (wp_skip (then_n (sr (w_mv ei (w_as ei (nt (wp_ret (fin_ret1 rfl ei ?_))))))))))
    exact ⟨rfl, hk⟩
  ·skip
   with_reducible refine w_skip ?_ ?_
   exact wn rfl rfl (eb (df ad))
   with_reducible refine w_skip ?_ ?_
   exact wn rfl rfl (eb (df ad))
   with_reducible refine w_skip ?_ ?_
   exact wn rfl rfl (eb (df ad))
   with_reducible refine w_skip ?_ ?_
   exact wn rfl rfl (eb (df ad))
   with_reducible refine w_skip ?_ ?_
   exact wn rfl rfl (eb (df ad))
   refine w_val (y_pick_f (eb (df ad)) Ev.c) (w_mv eb ?_)
   with_reducible refine w_skip ?_ ?_
   exact wn rfl rfl eb
   with_reducible refine w_skip ?_ ?_
   exact wn rfl rfl eb
   with_reducible refine w_skip ?_ ?_
   exact wn rfl rfl eb
   with_reducible refine w_skip ?_ ?_
   exact wn rfl rfl eb
   with_reducible refine w_skip ?_ ?_
   exact wn rfl rfl eb
   refine w_val (y_pick_f eb Ev.c) (nt (c_ff eb (wp_skip (then_n (sr (w_mv ei (w_mv es (w_mv es (w_call (Tryz.func7) kr rfl (m3 ei es es) (suRefMac_r alg a b c d l hO hr key text w5) ?_)))))))))
   rintro _ ap ⟨rfl, ag⟩
   refine ⟨_, rfl, ?_⟩
   replace aa := aa.step ag
   replace hk := thenB hk ag
   refine w_mv (ex (.tuple #[.string (str ([] : List (BitVec 8))), .int .i64 11])) (w_val ye (w_val ye (w_as es (w_as ei (nt (wp_seq (sr (w_mv ei (w_val (y_bin ei Ev.c b_eql) (w_mv eb ?_))))))))))
   with_reducible refine w_skip ?_ ?_
   exact wn rfl rfl eb
   with_reducible refine w_skip ?_ ?_
   exact wn rfl rfl eb
   with_reducible refine w_skip ?_ ?_
   exact wn rfl rfl eb
   refine w_val (y_pick_f eb Ev.c) (nt (c_ff eb (wp_skip (then_n (sr (w_mv ei (w_as ei (nt (wp_ret (fin_ret1 rfl ei ?_))))))))))
   exact ⟨rfl, hk⟩
 ·skip
  with_reducible refine w_skip ?_ ?_
  exact wn rfl rfl (eb (df af))
  with_reducible refine w_skip ?_ ?_
  exact wn rfl rfl (eb (df af))
  with_reducible refine w_skip ?_ ?_
  exact wn rfl rfl (eb (df af))
  refine w_val (y_pick_f (eb (df af)) Ev.c) (w_mv eb ?_)
  with_reducible refine w_skip ?_ ?_
  exact wn rfl rfl eb
  with_reducible refine w_skip ?_ ?_
  exact wn rfl rfl eb
  with_reducible refine w_skip ?_ ?_
  exact wn rfl rfl eb
  with_reducible refine w_skip ?_ ?_
  exact wn rfl rfl eb
  with_reducible refine w_skip ?_ ?_
  exact wn rfl rfl eb
  refine w_val (y_pick_f eb Ev.c) (w_mv eb ?_)
  with_reducible refine w_skip ?_ ?_
  exact wn rfl rfl eb
  with_reducible refine w_skip ?_ ?_
  exact wn rfl rfl eb
  with_reducible refine w_skip ?_ ?_
  exact wn rfl rfl eb
  with_reducible refine w_skip ?_ ?_
  exact wn rfl rfl eb
  with_reducible refine w_skip ?_ ?_
  exact wn rfl rfl eb
  refine w_val (y_pick_f eb Ev.c) (nt (c_ff eb (wp_skip (then_n (sr (w_mv ei (w_mv es (w_mv es (w_call (Tryz.func7) kr rfl (m3 ei es es) (suRefMac_r alg a b c d l hO hr key text w5) ?_)))))))))
  rintro _ ar ⟨rfl, ai⟩
  refine ⟨_, rfl, ?_⟩
  replace aa := aa.step ai
  replace hk := thenB hk ai
  refine w_mv (ex (.tuple #[.string (str ([] : List (BitVec 8))), .int .i64 11])) (w_val ye (w_val ye (w_as es (w_as ei (nt (wp_seq (sr (w_mv ei (w_val (y_bin ei Ev.c b_eql) (w_mv eb ?_))))))))))
  with_reducible refine w_skip ?_ ?_
  exact wn rfl rfl eb
  with_reducible refine w_skip ?_ ?_
  exact wn rfl rfl eb
  with_reducible refine w_skip ?_ ?_
  exact wn rfl rfl eb
  refine w_val (y_pick_f eb Ev.c) (nt (c_ff eb (wp_skip (then_n (sr (w_mv ei (w_as ei (nt (wp_ret (fin_ret1 rfl ei ?_))))))))))
  exact ⟨rfl, hk⟩
end Go.Proofs.YtdmbfimjbmfbaaaGreatDoor
