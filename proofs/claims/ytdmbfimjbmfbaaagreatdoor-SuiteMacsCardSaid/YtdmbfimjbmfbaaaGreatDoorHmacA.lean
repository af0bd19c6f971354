/-
  Digests with a key: a new one. Conditions as each says.
-/
import Derived.Test.YtdmbfimjbmfbaaaGreatDoorRows
import Derived.Test.YtdmbfimjbmfbaaaGreatDoorSuPlain
import Derived.Test.YtdmbfimjbmfbaaaGreatDoorCbcC
import Derived.Test.YtdmbfimjbmfbaaaGreatDoorGenSh
import Derived.ProofKit
namespace Go.Proofs.YtdmbfimjbmfbaaaGreatDoor
open Go.RowKit
set_option linter.unusedSimpArgs false
set_option linter.unusedVariables false
set_option maxRecDepth 100000
set_option maxHeartbeats 1000000
namespace HmacAT
theorem mixed : Tryz.prog.follows .mixedOrders = true := by kernel_rfl
theorem fa126_0 (g off : Nat) : ∀ w, (Instr.fieldAt 126 (.pointer (some ⟨g, off, none⟩)) 0).run Tryz.prog w = .ok (.pointer (some ⟨g, off + 0, none⟩)) w := fun w => by kernel_rfl
theorem fa126_1 (g off : Nat) : ∀ w, (Instr.fieldAt 126 (.pointer (some ⟨g, off, none⟩)) 1).run Tryz.prog w = .ok (.pointer (some ⟨g, off + 1, none⟩)) w := fun w => by kernel_rfl
theorem fa126_2 (g off : Nat) : ∀ w, (Instr.fieldAt 126 (.pointer (some ⟨g, off, none⟩)) 2).run Tryz.prog w = .ok (.pointer (some ⟨g, off + 2, none⟩)) w := fun w => by kernel_rfl
theorem sc124 : (Tryz.prog.underlying 124).map scal = some true := by rw [Tryz.underlying124]; rfl
theorem sc5 : (Tryz.prog.underlying 5).map scal = some true := by rw [Tryz.underlying5]; rfl
theorem sz124 : (Tryz.prog.info? 124).map (·.size) = some 1 := by kernel_rfl
theorem sz5 : (Tryz.prog.info? 5).map (·.size) = some 1 := by kernel_rfl
end HmacAT
theorem macNew_l (kind : Nat) (hkd : Sha.Known kind) (key : List (BitVec 8)) (hs : key.length ≤ 140737488351232) (w0 : World) (hT : Sha.Tabs w0) : Calls Tryz.prog 32 #[.int .i64 ((kind : Nat) : Int), .string (str key)] w0 fun e w' => ∃ m pi po pn, e = .returned (.tuple #[.pointer (some ⟨m, 0, none⟩), .int .i64 0]) ∧ w0.heap.size ≤ m ∧ w0.heap.size ≤ pi ∧ w0.heap.size ≤ po ∧ w0.heap.size ≤ pn ∧ pi ≠ po ∧ pi ≠ pn ∧ po ≠ pn ∧ m ≠ pi ∧ m ≠ po ∧ m ≠ pn ∧ Row w' m 126 3 (fun j => if j < 1 then pt pi 0 else if j < 2 then pt po 0 else pt pn 0) ∧ Sha.At w' pi kind (Hm.pd kind key 54#8) ∧ Sha.At w' po kind (Hm.pd kind key 92#8) ∧ Sha.At w' pn kind (Hm.pd kind key 54#8) ∧ Below w0.heap.size w0 w' := by
 have c1 := hT.lt
 have c2 := Sha.bs_le kind
 have cy := Hm.kk_len kind key
 have ct := Hm.pd_len kind key 54#8
 have cq := Hm.pd_len kind key 92#8
 refine enter (n := 100) Tryz.func32 rfl rfl rfl ?_
 have hk : Below w0.heap.size w0 w0 := Below.refl _ _
 refine sr (w_as Ev.c (w_as Ev.c (nt (sr (w_mv ei (w_call (Tryz.func48) kr rfl (m1 ei) (size_l kind  w0 hkd) ?_))))))
 rintro _ w1 ⟨rfl, ch⟩
 refine ⟨_, rfl, ?_⟩
 replace hk := thenB hk ch
 replace hT := Sha.Tabs.below hT ch
 refine w_mv (ex (.tuple #[.int .i64 ((Sha.ol kind : Nat) : Int), .int .i64 ((Sha.bs kind : Nat) : Int), .int .i64 0])) (w_val ye (w_val ye (w_val ye (w_as ei (w_as ei (w_as ei (nt (wp_seq (sr (w_mv ei (w_val (y_bin ei Ev.c b_neq) (nt (c_ff eb (wp_skip (then_n ?_)))))))))))))))
 refine c_cut (fun aN wl => ∃ f3, aN = fr 100 f3 ∧ f3 0 = .int .i64 ((kind : Nat) : Int) ∧ f3 1 = .string (str (Hm.kk kind key)) ∧ f3 4 = .pointer none ∧ f3 5 = .int .i64 0 ∧ f3 7 = .int .i64 ((Sha.bs kind : Nat) : Int) ∧ Sha.Tabs wl ∧ Below w0.heap.size w0 wl) ?_ ?_
 ·skip
  refine sr (w_mv es (w_val (y_len es Tryz.underlying9) (w_mv ei (w_val (y_bin ei ei b_gtr) (nt ?_)))))
  refine c_if (p := ((Sha.bs kind : Nat) : Int) < ((key.length : Nat) : Int)) eb (fun hc5 => ?_) (fun hc5 => ?_)
  ·skip
   refine wp_region_lit (w_mv ei (w_mv es (w_call (Tryz.func49) kr rfl (m2 ei es) (shaText_l kind hkd key om w1 hT) ?_)))
   rintro _ w6 ⟨rfl, cm⟩
   refine ⟨_, rfl, ?_⟩
   replace hk := thenB hk cm
   replace hT := Sha.Tabs.below hT cm
   refine w_mv (ex (.tuple #[.string (str (Sha.sum kind key)), .int .i64 0])) (w_val ye (w_val ye (w_as es (wpList_nil ?_))))
   exact then_n ⟨_, rfl, rfl, (Eq.trans (b := .string (str (Sha.sum kind key))) rfl (by first | exact congrArg (fun l => Value.string (str l)) (if_pos om).symm | exact congrArg (fun l => Value.string (str l)) (if_neg om).symm)), rfl, rfl, rfl, hT, hk⟩
  ·skip
   refine wp_skip ?_
   exact then_n ⟨_, rfl, rfl, (Eq.trans (b := .string (str key)) rfl (by first | exact congrArg (fun l => Value.string (str l)) (if_pos om).symm | exact congrArg (fun l => Value.string (str l)) (if_neg om).symm)), rfl, rfl, rfl, hT, hk⟩
 ·skip
  clear hT hk
  rintro _ w8 ⟨f3, rfl, bh, bi, bj, bl, av, hT, hk⟩
  refine c_cut (fun aN wl => ∃ (ag : Nat) (ah : Nat), ∃ f9, aN = fr 100 f9 ∧ (w0.heap.size ≤ ag) ∧ (w0.heap.size ≤ ah) ∧ (ag ≠ ah) ∧ f9 0 = .int .i64 ((kind : Nat) : Int) ∧ f9 1 = .string (str (Hm.kk kind key)) ∧ f9 4 = .pointer none ∧ f9 5 = .int .i64 0 ∧ f9 7 = .int .i64 ((Sha.bs kind : Nat) : Int) ∧ f9 9 = .slice (some ⟨ag, 0, none⟩) (Sha.bs kind) (Sha.bs kind) ∧ f9 10 = .slice (some ⟨ah, 0, none⟩) (Sha.bs kind) (Sha.bs kind) ∧ Row wl ag 5 (Sha.bs kind) (fun j => U8 (0#8)) ∧ Row wl ah 5 (Sha.bs kind) (fun j => U8 (0#8)) ∧ Sha.Tabs wl ∧ Below w0.heap.size w0 wl) ?_ ?_
  ·skip
   refine region_dc (Nat.testBit 0) 6 HmacAT.mixed rfl ?_
   intro ci b9
   replace hk := thenB hk b9
   replace hT := Sha.Tabs.below hT b9
   have hS : Cls ci ci := Below.refl _ _
   refine dp 0 rfl (fun w' => y_mv (ei av)) (dp 2 rfl (fun w' => y_mv (ei av)) ?_)
   refine d_two 1 3 kr rfl rfl ?_ ?_
   ·skip
    refine w_mks (m := (Sha.bs kind)) (bytes := 1) (zv := U8 (0#8)) ei ei om om Tryz.underlying55 kr rfl om om ?_
    intro ag c8 af ab b0
    have bb := gb_ hk.size af
    clear af
    replace hk := thenB hk b0
    replace hT := Sha.Tabs.below hT b0
    replace hS := thenB hS b0
    refine wpList_nil ?_
    refine then_n ⟨fun _ h => thenB h (by assumption), ?_⟩
    refine dp 4 rfl (fun w' => y_as el) (d_one 3 kr rfl (w_mks (m := (Sha.bs kind)) (bytes := 1) (zv := U8 (0#8)) ei ei om om Tryz.underlying55 kr rfl om om ?_))
    intro ah db ae aa be
    have a8 := ab.nb ae
    have bf := gb_ hk.size ae
    clear ae
    replace ab := ab.step be
    replace hk := thenB hk be
    replace hT := Sha.Tabs.below hT be
    replace hS := thenB hS be
    refine wpList_nil ?_
    refine then_n ⟨fun _ h => thenB h (by assumption), ?_⟩
    refine dp 5 rfl (fun w' => y_as el) (d_done kr ?_)
    clear hS
    exact then_n ⟨ag, ah, _, rfl, iv, iv, iv, bh, bi, bj, bl, av, rfl, rfl, ab, aa, hT, hk⟩
   ·skip
    refine w_mks (m := (Sha.bs kind)) (bytes := 1) (zv := U8 (0#8)) ei ei om om Tryz.underlying55 kr rfl om om ?_
    intro ah c4 ae aa bp
    have bf := gb_ hk.size ae
    clear ae
    replace hk := thenB hk bp
    replace hT := Sha.Tabs.below hT bp
    replace hS := thenB hS bp
    refine wpList_nil ?_
    refine then_n ⟨fun _ h => thenB h (by assumption), ?_⟩
    refine d_one 1 kr rfl (w_mks (m := (Sha.bs kind)) (bytes := 1) (zv := U8 (0#8)) ei ei om om Tryz.underlying55 kr rfl om om ?_)
    intro ag c0 af ab ba
    have a9 := aa.nb af
    have bb := gb_ hk.size af
    clear af
    replace aa := aa.step ba
    replace hk := thenB hk ba
    replace hT := Sha.Tabs.below hT ba
    replace hS := thenB hS ba
    refine wpList_nil ?_
    refine then_n ⟨fun _ h => thenB h (by assumption), ?_⟩
    refine dp 4 rfl (fun w' => y_as el) (dp 5 rfl (fun w' => y_as el) (d_done kr ?_))
    clear hS
    exact then_n ⟨ag, ah, _, rfl, iv, iv, iv, bh, bi, bj, bl, av, rfl, rfl, ab, aa, hT, hk⟩
  ·skip
   clear hT hk
   rintro _ da ⟨ag, ah, f9, rfl, cj, ck, cl, b1, a0, bn, bu, bq, ay, au, ab, aa, hT, hk⟩
   refine sr (w_mv (el ay) (w_mv (es a0) (w_copys (l := Hm.kk kind key) el es Tryz.underlying55 HmacAT.sz5 ab om ?_)))
   clear ab; intro cz ab bo _
   replace aa := aa.stepG bo om
   replace hk := thenG hk bo om
   replace hT := Sha.Tabs.grown hT bo om om
   refine nt (sr (w_mv (el au) (w_mv (es a0) (w_copys (l := Hm.kk kind key) el es Tryz.underlying55 HmacAT.sz5 aa om ?_))))
   clear aa; intro c9 aa b5 _
   replace ab := ab.stepG b5 om
   replace hk := thenG hk b5 om
   replace hT := Sha.Tabs.grown hT b5 om om
   refine nt (ss ?_)
   replace ab := ab.congr (g := fun j => U8 (gb (Hm.kk kind key) j)) (fun j hj => by (try dsimp only); by_cases e : j < (Hm.kk kind key).length; (rw [if_pos ⟨Nat.zero_le _, by omega⟩, Nat.sub_zero]); (rw [if_neg om, gb_out _ _ om]))
   replace aa := aa.congr (g := fun j => U8 (gb (Hm.kk kind key) j)) (fun j hj => by (try dsimp only); by_cases e : j < (Hm.kk kind key).length; (rw [if_pos ⟨Nat.zero_le _, by omega⟩, Nat.sub_zero]); (rw [if_neg om, gb_out _ _ om]))
   refine wp_region_lit (w_mv (ei bq) (w_mv Ev.c (nt (wp_block ?_))))
   refine c_loop (fun dN aN wl => ∃ (q : Nat), dN = (Sha.bs kind - q) ∧ ∃ bd, aN = fr 100 bd ∧ (q ≤ Sha.bs kind) ∧ bd 0 = .int .i64 ((kind : Nat) : Int) ∧ bd 4 = .pointer none ∧ bd 5 = .int .i64 0 ∧ bd 9 = .slice (some ⟨ag, 0, none⟩) (Sha.bs kind) (Sha.bs kind) ∧ bd 10 = .slice (some ⟨ah, 0, none⟩) (Sha.bs kind) (Sha.bs kind) ∧ bd 42 = .int .i64 ((Sha.bs kind : Nat) : Int) ∧ bd 43 = .int .i64 ((q : Nat) : Int) ∧ Row wl ag 5 (Sha.bs kind) (fun j => if j < q then (fun j => U8 (gb (Hm.pd kind key 54#8) j)) j else (fun j => U8 (gb (Hm.kk kind key) j)) j) ∧ Row wl ah 5 (Sha.bs kind) (fun j => if j < q then (fun j => U8 (gb (Hm.pd kind key 92#8) j)) j else (fun j => U8 (gb (Hm.kk kind key) j)) j) ∧ Sha.Tabs wl ∧ Below w0.heap.size w0 wl) (Sha.bs kind - 0) ?_ ?_
   · exact ⟨0, rfl, _, rfl, iv, b1, bn, bu, ay, au, rfl, ti, (ab.cg), (aa.cg), hT, hk⟩
   ·skip
    clear ab aa hT hk
    rintro _ _ dd ⟨q, rfl, bd, rfl, cn, b3, cf, ce, b2, a4, bk, a1, ab, aa, hT, hk⟩
    refine sr (w_val (y_bin (ei a1) (ei bk) b_lss) (nt (wp_seq ?_)))
    refine c_if (p := ((q : Nat) : Int) < ((Sha.bs kind : Nat) : Int)) eb (fun hc28 => ?_) (fun hc28 => ?_)
    ·skip
     refine wp_skip (then_n (wp_seq (wp_block (sr (w_mv (ei a1) (w_as ei (nt (sr (w_mv (el b2) (w_mv ei (w_val (y_is1z (i := q) el ei Tryz.underlying55 HmacAT.sz5 om om) (w_val (v := U8 (gb (Hm.kk kind key) q)) (y_ld (ex (pt ag q)) HmacAT.sc5 (ab.val om (ng rfl))) (w_val (y_bin e8 (evc (U8 (54#8))) xor8) (w_val (y_is1z (i := q) el ei Tryz.underlying55 HmacAT.sz5 om om) (w_st (v := U8 ((gb (Hm.kk kind key) q) ^^^ (54#8))) (ex (pt ag q)) e8 rfl rfl HmacAT.sz5 ab om ?_)))))))))))))))
     clear ab; intro c5 ab bz _
     replace aa := aa.stepG bz om
     replace hk := thenG hk bz om
     replace hT := Sha.Tabs.grown hT bz om om
     refine nt (wp_region_lit (w_mv (el a4) (w_mv ei (w_val (y_is1z (i := q) el ei Tryz.underlying55 HmacAT.sz5 om om) (w_val (v := U8 (gb (Hm.kk kind key) q)) (y_ld (ex (pt ah q)) HmacAT.sc5 (aa.val om (ng rfl))) (w_val (y_bin e8 (evc (U8 (92#8))) xor8) (w_val (y_is1z (i := q) el ei Tryz.underlying55 HmacAT.sz5 om om) (w_st (v := U8 ((gb (Hm.kk kind key) q) ^^^ (92#8))) (ex (pt ah q)) e8 rfl rfl HmacAT.sz5 aa om ?_))))))))
     clear aa; intro c6 aa bw _
     replace ab := ab.stepG bw om
     replace hk := thenG hk bw om
     replace hT := Sha.Tabs.grown hT bw om om
     refine wpList_nil (inb_n (then_n (wp_region_lit (w_val (y_bin (ei a1) Ev.c (b_add om)) (w_mv ei (wpList_nil ?_))))))
     exact then_n ⟨_, om, q + 1, rfl, _, rfl, iv, b3, cf, ce, b2, a4, bk, ti, (ab.congr (fun j hj => by (try dsimp only); by_cases e : j = q; (rw [if_pos e, if_pos om, e, Hm.gb_pd _ _ _ _ om]); (rw [if_neg e]; by_cases e2 : j < q; (rw [if_pos e2]; exact (if_pos om).symm); (rw [if_neg e2]; exact (if_neg om).symm)))), (aa.congr (fun j hj => by (try dsimp only); by_cases e : j = q; (rw [if_pos e, if_pos om, e, Hm.gb_pd _ _ _ _ om]); (rw [if_neg e]; by_cases e2 : j < q; (rw [if_pos e2]; exact (if_pos om).symm); (rw [if_neg e2]; exact (if_neg om).symm)))), hT, hk⟩
    ·skip
     refine wp_exit (then_x ?_)
     replace ab := ab.congr (g := fun j => U8 (gb (Hm.pd kind key 54#8) j)) (fun j hj => by (try dsimp only); rw [if_pos om])
     replace aa := aa.congr (g := fun j => U8 (gb (Hm.pd kind key 92#8) j)) (fun j hj => by (try dsimp only); rw [if_pos om])
     refine then_x (inb_x (then_n (sr (w_val (v := .agg (arr 3 (fun j => if j < 1 then .pointer none else if j < 2 then .pointer none else .pointer none))) (y_build (vs := #[]) mp0 (fun w => by kernel_rfl)) (w_box (m := 3) (F := fun j => if j < 1 then .pointer none else if j < 2 then .pointer none else .pointer none) ea rfl ?_)))))
     intro ad cp ai ac bc
     have a7 := ab.nb ai
     have bg := aa.nb ai
     have a6 := gb_ hk.size ai
     clear ai
     replace ab := ab.step bc
     replace aa := aa.step bc
     replace hk := thenB hk bc
     replace hT := Sha.Tabs.below hT bc
     refine w_as (ex (pt ad 0)) (nt (sr (w_mv (ex (pt ad 0)) (w_mv (ei b3) (w_call (Tryz.func50) kr rfl (m1 ei) (new_at kind cp hkd) ?_)))))
     rintro _ cx ⟨pi, rfl, cd, hi, al⟩
     refine ⟨_, rfl, ?_⟩
     have bx : ag ≠ pi := by have := ab.lt; omega
     have b4 : ah ≠ pi := by have := aa.lt; omega
     have aq : ad ≠ pi := by have := ac.lt; omega
     have b7 : w0.heap.size ≤ pi := by have := hk.size; omega
     replace ab := ab.step al
     replace aa := aa.step al
     replace ac := ac.step al
     replace hk := thenB hk al
     replace hT := Sha.Tabs.below hT al
     refine w_mv (ex (.tuple #[pt pi 0, .int .i64 0])) (w_val ye (w_val ye (w_val (y_nc (ex (pt ad 0))) (w_val (v := pt ad 0) (y_off (y_fa (ex (pt ad 0)) (HmacAT.fa126_0 _ _)) ro) (w_st (v := pt pi 0) (ex (pt ad 0)) (ex (pt pi 0)) rfl rfl HmacAT.sz124 ac om ?_)))))
     clear ac; intro cs ac a5 _
     replace ab := ab.stepG a5 om
     replace aa := aa.stepG a5 om
     replace hk := thenG hk a5 om
     replace hT := Sha.Tabs.grown hT a5 om om
     replace hi := Sha.At.grown hi a5 om
     refine nt (sr (w_mv (ex (pt ad 0)) (w_mv (ei b3) (w_call (Tryz.func50) kr rfl (m1 ei) (new_at kind cs hkd) ?_))))
     rintro _ cw ⟨po, rfl, cc, ho, ak⟩
     refine ⟨_, rfl, ?_⟩
     have bm : ag ≠ po := by have := ab.lt; omega
     have br : ah ≠ po := by have := aa.lt; omega
     have ar : ad ≠ po := by have := ac.lt; omega
     have a2 : pi ≠ po := by have := hi.lt; omega
     have b6 : w0.heap.size ≤ po := by have := hk.size; omega
     replace ab := ab.step ak
     replace aa := aa.step ak
     replace ac := ac.step ak
     replace hk := thenB hk ak
     replace hT := Sha.Tabs.below hT ak
     replace hi := Sha.At.below hi ak
     refine w_mv (ex (.tuple #[pt po 0, .int .i64 0])) (w_val ye (w_val ye (w_val (y_nc (ex (pt ad 0))) (w_val (v := pt ad 1) (y_off (y_fa (ex (pt ad 0)) (HmacAT.fa126_1 _ _)) ro) (w_st (v := pt po 0) (ex (pt ad 1)) (ex (pt po 0)) rfl rfl HmacAT.sz124 ac om ?_)))))
     clear ac; intro cv ac ax _
     replace ab := ab.stepG ax om
     replace aa := aa.stepG ax om
     replace hk := thenG hk ax om
     replace hT := Sha.Tabs.grown hT ax om om
     replace hi := Sha.At.grown hi ax om
     replace ho := Sha.At.grown ho ax om
     refine nt (wp_seq (region_t 6 HmacAT.mixed kr ?_))
     simp only [List.take_succ_cons, List.take_zero, List.drop_succ_cons, List.drop_zero]
     refine q_mv (ex (pt ad 0)) (q_val (fun w' hw' => y_nc (ex (pt ad 0))) (q_val (v := pt ad 0) (fun w' hw' => y_off (y_fa (ex (pt ad 0)) (HmacAT.fa126_0 _ _)) ro) (q_val (v := pt pi 0) (fun w' hw' => y_ld (ex (pt ad 0)) HmacAT.sc124 (cls_cell (ac.val om (ng (if_pos rfl))) ac.lt w' hw')) (q_mv (el b2) (q_val (fun w' hw' => y_str (l := Hm.pd kind key 54#8) el (by first | rfl | assumption | (simp; omega) | omega) Tryz.underlying55 Tryz.underlying5 Tryz.underlying9 (fun j hj => by rw [Nat.zero_add]; exact (cls_cell (ab.cell om) ab.lt w' hw'))) (q_nil ?_))))))
     intro cu ap
     replace ab := ab.step ap
     replace aa := aa.step ap
     replace ac := ac.step ap
     replace hk := thenB hk ap
     replace hT := Sha.Tabs.below hT ap
     replace hi := Sha.At.below hi ap
     replace ho := Sha.At.below ho ap
     have cb := hi
     clear hi
     refine w_call (Tryz.func51) kr rfl (m2 (ex (pt pi 0)) es) (write_l kind ([]) (Hm.pd kind key 54#8) cu pi om hkd om cb hT) ?_
     rintro _ c7 ⟨rfl, hi, aw⟩
     refine ⟨_, rfl, ?_⟩
     replace ab := ab.stepG aw om
     replace aa := aa.stepG aw om
     replace ac := ac.stepG aw om
     replace hk := thenG hk aw om
     replace hT := Sha.Tabs.grown hT aw om om
     replace ho := Sha.At.grown ho aw om
     refine nt (wp_seq (region_t 6 HmacAT.mixed kr ?_))
     simp only [List.take_succ_cons, List.take_zero, List.drop_succ_cons, List.drop_zero]
     refine q_mv (ex (pt ad 0)) (q_val (fun w' hw' => y_nc (ex (pt ad 0))) (q_val (v := pt ad 1) (fun w' hw' => y_off (y_fa (ex (pt ad 0)) (HmacAT.fa126_1 _ _)) ro) (q_val (v := pt po 0) (fun w' hw' => y_ld (ex (pt ad 1)) HmacAT.sc124 (cls_cell (ac.val om (if_pos rfl)) ac.lt w' hw')) (q_mv (el a4) (q_val (fun w' hw' => y_str (l := Hm.pd kind key 92#8) el (by first | rfl | assumption | (simp; omega) | omega) Tryz.underlying55 Tryz.underlying5 Tryz.underlying9 (fun j hj => by rw [Nat.zero_add]; exact (cls_cell (aa.cell om) aa.lt w' hw'))) (q_nil ?_))))))
     intro cr ao
     replace ab := ab.step ao
     replace aa := aa.step ao
     replace ac := ac.step ao
     replace hk := thenB hk ao
     replace hT := Sha.Tabs.below hT ao
     replace ho := Sha.At.below ho ao
     replace hi := Sha.At.below hi ao
     have cb := ho
     clear ho
     refine w_call (Tryz.func51) kr rfl (m2 (ex (pt po 0)) es) (write_l kind ([]) (Hm.pd kind key 92#8) cr po om hkd om cb hT) ?_
     rintro _ co ⟨rfl, ho, aw⟩
     refine ⟨_, rfl, ?_⟩
     replace ab := ab.stepG aw om
     replace aa := aa.stepG aw om
     replace ac := ac.stepG aw om
     replace hk := thenG hk aw om
     replace hT := Sha.Tabs.grown hT aw om om
     replace hi := Sha.At.grown hi aw om
     refine nt (sr (w_mv (ex (pt ad 0)) (w_mv (ex (pt ad 0)) (w_val (y_nc (ex (pt ad 0))) (w_val (v := pt ad 0) (y_off (y_fa (ex (pt ad 0)) (HmacAT.fa126_0 _ _)) ro) (w_val (v := pt pi 0) (y_ld (ex (pt ad 0)) HmacAT.sc124 (ac.val om (ng (if_pos rfl)))) (w_call (Tryz.func52) kr rfl (m1 (ex (pt pi 0))) (copy_l kind (([]) ++ (Hm.pd kind key 54#8)) co pi om hkd hi) ?_)))))))
     rintro _ dc ⟨pn, rfl, ca, hn, aj⟩
     refine ⟨_, rfl, ?_⟩
     have bt : ag ≠ pn := by have := ab.lt; omega
     have bv : ah ≠ pn := by have := aa.lt; omega
     have am : ad ≠ pn := by have := ac.lt; omega
     have a3 : pi ≠ pn := by have := hi.lt; omega
     have az : po ≠ pn := by have := ho.lt; omega
     have b8 : w0.heap.size ≤ pn := by have := hk.size; omega
     replace ab := ab.step aj
     replace aa := aa.step aj
     replace ac := ac.step aj
     replace hk := thenB hk aj
     replace hT := Sha.Tabs.below hT aj
     replace hi := Sha.At.below hi aj
     replace ho := Sha.At.below ho aj
     refine w_val (y_nc (ex (pt ad 0))) (w_val (v := pt ad 2) (y_off (y_fa (ex (pt ad 0)) (HmacAT.fa126_2 _ _)) ro) (w_st (v := pt pn 0) (ex (pt ad 2)) (ex (pt pn 0)) rfl rfl HmacAT.sz124 ac om ?_))
     clear ac; intro c3 ac an _
     replace ab := ab.stepG an om
     replace aa := aa.stepG an om
     replace hk := thenG hk an om
     replace hT := Sha.Tabs.grown hT an om om
     replace hi := Sha.At.grown hi an om
     replace ho := Sha.At.grown ho an om
     replace hn := Sha.At.grown hn an om
     refine nt (sr (w_mv (ex (pt ad 0)) (w_as (ex (pt ad 0)) (w_as Ev.c (nt (wp_ret (fin_ret2 rfl (ex (pt ad 0)) ei ?_)))))))
     simp only [List.nil_append] at hi ho hn
     exact ⟨ad, pi, po, pn, rfl, a6, b7, b6, b8, a2, a3, az, aq, ar, am, ac.congr (fun j hj => by rcases (by omega : j = 0 ∨ j = 1 ∨ j = 2) with h | h | h <;> subst h <;> rfl), hi, ho, hn, hk⟩

end Go.Proofs.YtdmbfimjbmfbaaaGreatDoor
