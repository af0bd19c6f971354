/-
  Sums over the field: the program's elements, their multiples and products. Conditions as each says.
-/
import Derived.Test.YtdmbfimjbmfbaaaGreatDoorRows
import Derived.Test.YtdmbfimjbmfbaaaGreatDoorAesBackPlain
import Derived.Test.YtdmbfimjbmfbaaaGreatDoorGhMul
import Derived.Test.YtdmbfimjbmfbaaaGreatDoorGenMore
import Derived.Test.YtdmbfimjbmfbaaaGreatDoorGenSh
import Derived.ProofKit
namespace Go.Proofs.YtdmbfimjbmfbaaaGreatDoor
open Go.RowKit
set_option linter.unusedSimpArgs false
set_option linter.unusedVariables false
set_option maxRecDepth 100000
set_option maxHeartbeats 1000000
namespace GhAT
theorem mixed : Tryz.prog.follows .mixedOrders = true := by kernel_rfl
theorem ag187 : (Tryz.prog.underlying 187).map isAggD = some true := by rw [Tryz.underlying187]; rfl
theorem ag188 : (Tryz.prog.underlying 188).map isAggD = some true := by rw [Tryz.underlying188]; rfl
theorem fa187_0 (g off : Nat) : ∀ w, (Instr.fieldAt 187 (.pointer (some ⟨g, off, none⟩)) 0).run Tryz.prog w = .ok (.pointer (some ⟨g, off + 0, none⟩)) w := fun w => by kernel_rfl
theorem fa187_1 (g off : Nat) : ∀ w, (Instr.fieldAt 187 (.pointer (some ⟨g, off, none⟩)) 1).run Tryz.prog w = .ok (.pointer (some ⟨g, off + 1, none⟩)) w := fun w => by kernel_rfl
theorem sc92 : (Tryz.prog.underlying 92).map scal = some true := by rw [Tryz.underlying92]; rfl
theorem so5 : (Tryz.prog.underlying 5).isSome = true := by rw [Tryz.underlying5]; rfl
theorem so92 : (Tryz.prog.underlying 92).isSome = true := by rw [Tryz.underlying92]; rfl
theorem sz187 : (Tryz.prog.info? 187).map (·.size) = some 2 := by kernel_rfl
theorem sz188 : (Tryz.prog.info? 188).map (·.size) = some 32 := by kernel_rfl
theorem sz5 : (Tryz.prog.info? 5).map (·.size) = some 1 := by kernel_rfl
theorem sz92 : (Tryz.prog.info? 92).map (·.size) = some 1 := by kernel_rfl
end GhAT
theorem ghLoad (s : List (BitVec 8)) (hs : s.length = 16) (w0 : World) : Calls Tryz.prog 108 #[.string (str s)] w0 fun e w' => e = .returned (.agg (arr 2 (fun j => U64 (Gh.cl (Gh.lw s) j)))) ∧ Below w0.heap.size w0 w' := by
 refine enter (n := 28) Tryz.func108 rfl rfl rfl ?_
 have hk : Below w0.heap.size w0 w0 := Below.refl _ _
 refine sr (w_alloc (m := 2) (F := fun j => if j < 1 then U64 (0#64) else U64 (0#64)) kr ?_)
 intro ac w1 ad aa am
 have ai := gb_ hk.size ad
 clear ad
 replace hk := thenB hk am
 refine nt (wp_seq (sr (w_mv Ev.c (nt (wp_block ?_)))))
 refine c_loop (fun dN aN wl => ∃ (i : Nat), dN = (8 - i) ∧ ∃ f3, aN = fr 28 f3 ∧ (i ≤ 8) ∧ f3 0 = .string (str s) ∧ f3 2 = pt ac 0 ∧ f3 4 = .int .i64 ((i : Nat) : Int) ∧ Row wl ac 187 2 (fun j => U64 (Gh.cl (Gh.lp s i) j)) ∧ Below w0.heap.size w0 wl) (8 - 0) ?_ ?_
 · exact ⟨0, rfl, _, rfl, iv, rfl, rfl, ti, (aa.congr (fun j hj => by exact Gh.lp_0 s j hj)), hk⟩
 ·skip
  clear aa hk
  rintro _ _ w4 ⟨i, rfl, f3, rfl, al, ae, ab, af, aa, hk⟩
  refine sr (w_val (y_bin (ei af) Ev.c b_lss) (nt (wp_seq ?_)))
  refine c_if (p := ((i : Nat) : Int) < 8) eb (fun hc5 => ?_) (fun hc5 => ?_)
  ·skip
   refine wp_skip (then_n (wp_seq (wp_block (sr (w_mv (ei af) (w_as ei (nt (wp_seq (region_t 9 GhAT.mixed kr ?_)))))))))
   simp only [List.take_succ_cons, List.take_zero, List.drop_succ_cons, List.drop_zero]
   refine q_val (v := pt ac 0) (fun w' hw' => y_off (y_fa (ex (pt ac 0) ab) (GhAT.fa187_0 _ _)) ro) (q_val (v := U64 (Gh.cl (Gh.lp s i) 0)) (fun w' hw' => y_ld (ex (pt ac 0)) GhAT.sc92 (cls_cell (aa.val om rfl) aa.lt w' hw')) (q_val (fun w' hw' => y_bin e6 (evc (.int .u64 8)) (shl64 (c := 8) rfl)) (q_mv (es ae) (q_mv ei (q_val (v := U8 (gb s i)) (fun w' hw' => y_idx (ex (.string (str s))) ei Tryz.underlying9 om om) (q_val (fun w' hw' => y_u8_u64 e8 GhAT.so5 Tryz.underlying92) (q_val (fun w' hw' => y_bin e6 e6 or64) (q_val (v := pt ac 0) (fun w' hw' => y_off (y_fa (ex (pt ac 0) ab) (GhAT.fa187_0 _ _)) ro) (q_nil ?_)))))))))
   intro w6 ak
   replace aa := aa.step ak
   replace hk := thenB hk ak
   refine w_st (v := U64 (((Gh.cl (Gh.lp s i) 0) <<< 8) ||| ((gb s i).setWidth 64))) (ex (pt ac 0)) e6 rfl rfl GhAT.sz92 aa om ?_
   clear aa; intro w8 aa an _
   replace hk := thenG hk an om
   refine nt (region_t 10 GhAT.mixed kr ?_)
   simp only [List.take_succ_cons, List.take_zero, List.drop_succ_cons, List.drop_zero]
   refine q_val (v := pt ac 1) (fun w' hw' => y_off (y_fa (ex (pt ac 0) ab) (GhAT.fa187_1 _ _)) ro) (q_val (v := U64 (Gh.cl (Gh.lp s i) 1)) (fun w' hw' => y_ld (ex (pt ac 1)) GhAT.sc92 (cls_cell (aa.val om (ng rfl)) aa.lt w' hw')) (q_val (fun w' hw' => y_bin e6 (evc (.int .u64 8)) (shl64 (c := 8) rfl)) (q_mv (es ae) (q_mv ei (q_val (fun w' hw' => y_bin Ev.c ei (b_add om)) (q_val (v := U8 (gb s (8 + i))) (fun w' hw' => y_idx (ex (.string (str s))) ei Tryz.underlying9 om om) (q_val (fun w' hw' => y_u8_u64 e8 GhAT.so5 Tryz.underlying92) (q_val (fun w' hw' => y_bin e6 e6 or64) (q_val (v := pt ac 1) (fun w' hw' => y_off (y_fa (ex (pt ac 0) ab) (GhAT.fa187_1 _ _)) ro) (q_nil ?_))))))))))
   intro aq ag
   replace aa := aa.step ag
   replace hk := thenB hk ag
   refine w_st (v := U64 (((Gh.cl (Gh.lp s i) 1) <<< 8) ||| ((gb s (8 + i)).setWidth 64))) (ex (pt ac 1)) e6 rfl rfl GhAT.sz92 aa om ?_
   clear aa; intro ao aa ah _
   replace hk := thenG hk ah om
   refine wpList_nil (inb_n (then_n (wp_region_lit (w_val (y_bin (ei af) Ev.c (b_add om)) (w_mv ei (wpList_nil ?_))))))
   exact then_n ⟨_, om, i + 1, rfl, _, rfl, iv, ae, ab, ti, (aa.congr (fun j hj => by exact Gh.lp_step s i j hj)), hk⟩
  ·skip
   refine wp_exit (then_x ?_)
   replace aa := aa.congr (g := fun j => U64 (Gh.cl (Gh.lw s) j)) (fun j hj => by obtain rfl : i = 8 := om; rfl)
   refine then_x (inb_x (then_n (sr (w_val (v := .agg (arr 2 (fun j => U64 (Gh.cl (Gh.lw s) j)))) (y_lda (ex (pt ac 0) ab) GhAT.ag187 GhAT.sz187 (fun j hj => by rw [Nat.zero_add]; exact (aa.cell om))) (w_sta (k := 2) (G := fun j => U64 (Gh.cl (Gh.lw s) j)) (ex (pt ac 0) ab) ea oc GhAT.sz187 aa om ?_)))))
   clear aa; intro ap aa aj _
   replace aa := aa.congr (g := fun j => U64 (Gh.cl (Gh.lw s) j)) (fun j hj => by rw [if_pos ⟨Nat.zero_le _, by omega⟩]; first | rfl | (simp only [Nat.sub_zero]))
   replace hk := thenG hk aj om
   refine nt (wp_ret (fin_arr (F := fun j => U64 (Gh.cl (Gh.lw s) j)) rfl (ex (pt ac 0) ab) GhAT.ag187 GhAT.sz187 aa om ?_))
   exact ⟨rfl, hk⟩

theorem ghStore (p : Gh.W2) (w0 : World) : Calls Tryz.prog 110 #[.agg (arr 2 (fun j => U64 (Gh.cl p j)))] w0 fun e w' => e = .returned (.string (str (Gh.st p))) ∧ Below w0.heap.size w0 w' := by
 have au := Gh.st_len p
 refine enter (n := 30) Tryz.func110 rfl rfl rfl ?_
 have hk : Below w0.heap.size w0 w0 := Below.refl _ _
 refine sr (w_box (m := 2) (F := fun j => U64 (Gh.cl p j)) ea rfl ?_)
 intro ah w1 ae ab ar
 have am := gb_ hk.size ae
 clear ae
 replace hk := thenB hk ar
 refine w_as (evc (.string (str ([] : List (BitVec 8))))) (nt (sr (w_alloc (m := 16) (F := fun j => U8 (0#8)) kr ?_)))
 intro ad w3 ac aa ap
 have af := ab.nb ac
 have al := gb_ hk.size ac
 clear ac
 replace ab := ab.step ap
 replace hk := thenB hk ap
 refine nt (wp_seq (sr (w_mv Ev.c (nt (wp_block ?_)))))
 refine c_loop (fun dN aN wl => ∃ (i : Nat), dN = (8 - i) ∧ ∃ f5, aN = fr 30 f5 ∧ (i ≤ 8) ∧ f5 1 = pt ah 0 ∧ f5 2 = .string (str ([] : List (BitVec 8))) ∧ f5 3 = pt ad 0 ∧ f5 5 = .int .i64 ((i : Nat) : Int) ∧ Row wl ah 187 2 (fun j => U64 (Gh.cl p j)) ∧ Row wl ad 74 16 (fun j => if j < i ∨ 8 ≤ j ∧ j < 8 + i then (fun j => U8 (Gh.sb p j)) j else (fun j => U8 (0#8)) j) ∧ Below w0.heap.size w0 wl) (8 - 0) ?_ ?_
 · exact ⟨0, rfl, _, rfl, iv, rfl, rfl, rfl, ti, ab, (aa.congr (fun j hj => by rw [if_neg om])), hk⟩
 ·skip
  clear ab aa hk
  rintro _ _ w6 ⟨i, rfl, f5, rfl, aq, ai, an, ag, aj, ab, aa, hk⟩
  refine sr (w_val (y_bin (ei aj) Ev.c b_lss) (nt (wp_seq ?_)))
  refine c_if (p := ((i : Nat) : Int) < 8) eb (fun hc7 => ?_) (fun hc7 => ?_)
  ·skip
   refine wp_skip (then_n (wp_seq (wp_block (sr (w_mv (ei aj) (w_as ei (nt (sr (w_mv ei (w_val (v := pt ah 0) (y_off (y_fa (ex (pt ah 0) ai) (GhAT.fa187_0 _ _)) ro) (w_val (v := U64 (Gh.cl p 0)) (y_ld (ex (pt ah 0)) GhAT.sc92 (ab.val om rfl)) (w_mv ei (w_val (y_bin Ev.c ei (b_mul om)) (w_val (y_bin Ev.c ei (b_sub om)) (w_val (y_bin e6 ei (shr64 (c := (56 - (8 * i))) om)) (w_val (y_u64_u8 e6 GhAT.so92 Tryz.underlying5) (w_val (y_ia1z (i := i) (ex (pt ad 0) ag) ei Tryz.underlying74 GhAT.sz5 om om) (w_st (v := U8 (((Gh.cl p 0) >>> (56 - (8 * i))).setWidth 8)) (ex (pt ad i)) e8 rfl rfl GhAT.sz5 aa om ?_))))))))))))))))))
   clear aa; intro w8 aa ao _
   replace ab := ab.stepG ao om
   replace hk := thenG hk ao om
   refine nt (wp_region_lit (w_mv ei (w_val (y_bin Ev.c ei (b_add om)) (w_val (v := pt ah 1) (y_off (y_fa (ex (pt ah 0) ai) (GhAT.fa187_1 _ _)) ro) (w_val (v := U64 (Gh.cl p 1)) (y_ld (ex (pt ah 1)) GhAT.sc92 (ab.val om rfl)) (w_mv ei (w_val (y_bin Ev.c ei (b_mul om)) (w_val (y_bin Ev.c ei (b_sub om)) (w_val (y_bin e6 ei (shr64 (c := (56 - (8 * i))) om)) (w_val (y_u64_u8 e6 GhAT.so92 Tryz.underlying5) (w_val (y_ia1z (i := (8 + i)) (ex (pt ad 0) ag) ei Tryz.underlying74 GhAT.sz5 om om) (w_st (v := U8 (((Gh.cl p 1) >>> (56 - (8 * i))).setWidth 8)) (ex (pt ad (8 + i))) e8 rfl rfl GhAT.sz5 aa om ?_))))))))))))
   clear aa; intro av aa ak _
   replace ab := ab.stepG ak om
   replace hk := thenG hk ak om
   refine wpList_nil (inb_n (then_n (wp_region_lit (w_val (y_bin (ei aj) Ev.c (b_add om)) (w_mv ei (wpList_nil ?_))))))
   exact then_n ⟨_, om, i + 1, rfl, _, rfl, iv, ai, an, ag, ti, ab, (aa.congr (fun j hj => by exact Gh.sb_step p i j om hj)), hk⟩
  ·skip
   refine wp_exit (then_x ?_)
   replace aa := aa.congr (g := fun j => U8 (gb (Gh.st p) j)) (fun j hj => by (try dsimp only); rw [if_pos om, Gh.gb_st p j om])
   refine then_x (inb_x (then_n (sr (w_val (v := .slice (some ⟨ad, 0, none⟩) 16 16) (y_sloff (y_slp (ex (pt ad 0) ag) evo.no evo.no Tryz.underlying74 GhAT.sz5 bnd_ om) ro rfl) (w_val (y_str (l := Gh.st p) el (by first | rfl | assumption | (simp; omega) | omega) Tryz.underlying55 Tryz.underlying5 Tryz.underlying9 (fun j hj => by rw [Nat.zero_add]; exact (aa.cell om))) (w_as es (nt (wp_ret (fin_ret1 rfl es ?_)))))))))
   exact ⟨rfl, hk⟩

theorem ghTimes (p : Gh.W2) (w0 : World) : Calls Tryz.prog 120 #[.agg (arr 2 (fun j => U64 (Gh.cl p j)))] w0 fun e w' => e = .returned (.agg (arr 2 (fun j => U64 (Gh.cl (Gh.tmw p) j)))) ∧ Below w0.heap.size w0 w' := by
 refine enter (n := 24) Tryz.func120 rfl rfl rfl ?_
 have hk : Below w0.heap.size w0 w0 := Below.refl _ _
 refine sr (w_box (m := 2) (F := fun j => U64 (Gh.cl p j)) ea rfl ?_)
 intro ah w1 ag ac ax
 have ar := gb_ hk.size ag
 clear ag
 replace hk := thenB hk ax
 refine w_alloc (m := 2) (F := fun j => if j < 1 then U64 (0#64) else U64 (0#64)) kr ?_
 intro ap w3 af ab aw
 have am := ac.nb af
 have au := gb_ hk.size af
 clear af
 replace ac := ac.step aw
 replace hk := thenB hk aw
 refine nt (sr (w_val (v := pt ah 0) (y_off (y_fa (ex (pt ah 0)) (GhAT.fa187_0 _ _)) ro) (w_val (v := U64 (Gh.cl p 0)) (y_ld (ex (pt ah 0)) GhAT.sc92 (ac.val om rfl)) (w_val (y_bin e6 (evc (.int .u64 1)) (shr64 (c := 1) rfl)) (w_val (v := pt ah 1) (y_off (y_fa (ex (pt ah 0)) (GhAT.fa187_1 _ _)) ro) (w_val (v := U64 (Gh.cl p 1)) (y_ld (ex (pt ah 1)) GhAT.sc92 (ac.val om rfl)) (w_val (y_bin e6 (evc (.int .u64 1)) (shr64 (c := 1) rfl)) (w_val (v := pt ah 0) (y_off (y_fa (ex (pt ah 0)) (GhAT.fa187_0 _ _)) ro) (w_val (v := U64 (Gh.cl p 0)) (y_ld (ex (pt ah 0)) GhAT.sc92 (ac.val om rfl)) (w_val (y_bin e6 (evc (.int .u64 63)) (shl64 (c := 63) rfl)) (w_val (y_bin e6 e6 or64) (w_val (v := .agg (arr 2 (fun j => if j < 1 then U64 ((Gh.cl p 0) >>> 1) else U64 (((Gh.cl p 1) >>> 1) ||| ((Gh.cl p 0) <<< 63))))) (y_build (vs := #[(0, U64 ((Gh.cl p 0) >>> 1)), (1, U64 (((Gh.cl p 1) >>> 1) ||| ((Gh.cl p 0) <<< 63)))]) (mp_cons e6 (mp_cons e6 mp0)) (fun w => by kernel_rfl)) (w_alloc (m := 2) (F := fun j => if j < 1 then U64 (0#64) else U64 (0#64)) kr ?_)))))))))))))
 intro ae w5 ad aa aq
 have aj := ac.nb ad
 have ai := ab.nb ad
 have ao := gb_ hk.size ad
 clear ad
 replace ac := ac.step aq
 replace ab := ab.step aq
 replace hk := thenB hk aq
 refine w_sta (k := 2) (G := fun j => if j < 1 then U64 ((Gh.cl p 0) >>> 1) else U64 (((Gh.cl p 1) >>> 1) ||| ((Gh.cl p 0) <<< 63))) (ex (pt ae 0)) ea oc GhAT.sz187 aa om ?_
 clear aa; intro w7 aa av _
 replace aa := aa.congr (g := fun j => if j < 1 then U64 ((Gh.cl p 0) >>> 1) else U64 (((Gh.cl p 1) >>> 1) ||| ((Gh.cl p 0) <<< 63))) (fun j hj => by rw [if_pos ⟨Nat.zero_le _, by omega⟩]; first | rfl | (simp only [Nat.sub_zero]))
 replace ac := ac.stepG av om
 replace ab := ab.stepG av om
 replace hk := thenG hk av om
 refine nt (wp_seq (sr (w_val (v := pt ah 1) (y_off (y_fa (ex (pt ah 0)) (GhAT.fa187_1 _ _)) ro) (w_val (v := U64 (Gh.cl p 1)) (y_ld (ex (pt ah 1)) GhAT.sc92 (ac.val om rfl)) (w_val (y_bin e6 (evc (U64 (1#64))) and64) (w_val (y_bin e6 (evc (U64 (1#64))) eql64) (nt ?_)))))))
 refine c_if (p := ((Gh.cl p 1) &&& (1#64)) = (1#64)) eb (fun hc9 => ?_) (fun hc9 => ?_)
 ·skip
  refine wp_region_lit (w_val (v := pt ae 0) (y_off (y_fa (ex (pt ae 0)) (GhAT.fa187_0 _ _)) ro) (w_val (v := U64 ((Gh.cl p 0) >>> 1)) (y_ld (ex (pt ae 0)) GhAT.sc92 (aa.val om pz)) (w_val (y_bin e6 (evc (U64 (16212958658533785600#64))) xor64) (w_val (v := pt ae 0) (y_off (y_fa (ex (pt ae 0)) (GhAT.fa187_0 _ _)) ro) (w_st (v := U64 (((Gh.cl p 0) >>> 1) ^^^ (16212958658533785600#64))) (ex (pt ae 0)) e6 rfl rfl GhAT.sz92 aa om ?_)))))
  clear aa; intro a0 aa ak _
  replace ac := ac.stepG ak om
  replace ab := ab.stepG ak om
  replace hk := thenG hk ak om
  refine nt (sr (w_val (v := .agg (arr 2 (fun j => if j = 0 then U64 (((Gh.cl p 0) >>> 1) ^^^ (16212958658533785600#64)) else (fun j => if j < 1 then U64 ((Gh.cl p 0) >>> 1) else U64 (((Gh.cl p 1) >>> 1) ||| ((Gh.cl p 0) <<< 63))) j))) (y_lda (ex (pt ae 0)) GhAT.ag187 GhAT.sz187 (fun j hj => by rw [Nat.zero_add]; exact (aa.cell om))) (w_sta (k := 2) (G := fun j => if j = 0 then U64 (((Gh.cl p 0) >>> 1) ^^^ (16212958658533785600#64)) else (fun j => if j < 1 then U64 ((Gh.cl p 0) >>> 1) else U64 (((Gh.cl p 1) >>> 1) ||| ((Gh.cl p 0) <<< 63))) j) (ex (pt ap 0)) ea oc GhAT.sz187 ab om ?_)))
  clear ab; intro ay ab al _
  replace ab := ab.congr (g := fun j => if j = 0 then U64 (((Gh.cl p 0) >>> 1) ^^^ (16212958658533785600#64)) else (fun j => if j < 1 then U64 ((Gh.cl p 0) >>> 1) else U64 (((Gh.cl p 1) >>> 1) ||| ((Gh.cl p 0) <<< 63))) j) (fun j hj => by rw [if_pos ⟨Nat.zero_le _, by omega⟩]; first | rfl | (simp only [Nat.sub_zero]))
  replace ac := ac.stepG al om
  replace aa := aa.stepG al om
  replace hk := thenG hk al om
  refine nt (wp_ret (fin_arr (F := fun j => if j = 0 then U64 (((Gh.cl p 0) >>> 1) ^^^ (16212958658533785600#64)) else (fun j => if j < 1 then U64 ((Gh.cl p 0) >>> 1) else U64 (((Gh.cl p 1) >>> 1) ||| ((Gh.cl p 0) <<< 63))) j) rfl (ex (pt ap 0)) GhAT.ag187 GhAT.sz187 ab om ?_))
  refine ⟨congrArg Ending.returned ?_, hk⟩
  show (.agg (arr 2 (fun j => if j = 0 then U64 (((Gh.cl p 0) >>> 1) ^^^ (16212958658533785600#64)) else (fun j => if j < 1 then U64 ((Gh.cl p 0) >>> 1) else U64 (((Gh.cl p 1) >>> 1) ||| ((Gh.cl p 0) <<< 63))) j)) : Value) = .agg (arr 2 (fun j => U64 (Gh.cl (Gh.tmw p) j)))
  exact congrArg Value.agg (arr_congr (fun j hj => by first | exact Gh.tm_yes p j hj (by assumption) | exact Gh.tm_no p j hj (by assumption)))
 ·skip
  refine wp_skip (then_n (sr (w_val (v := .agg (arr 2 (fun j => if j < 1 then U64 ((Gh.cl p 0) >>> 1) else U64 (((Gh.cl p 1) >>> 1) ||| ((Gh.cl p 0) <<< 63))))) (y_lda (ex (pt ae 0)) GhAT.ag187 GhAT.sz187 (fun j hj => by rw [Nat.zero_add]; exact (aa.cell om))) (w_sta (k := 2) (G := fun j => if j < 1 then U64 ((Gh.cl p 0) >>> 1) else U64 (((Gh.cl p 1) >>> 1) ||| ((Gh.cl p 0) <<< 63))) (ex (pt ap 0)) ea oc GhAT.sz187 ab om ?_))))
  clear ab; intro az ab an _
  replace ab := ab.congr (g := fun j => if j < 1 then U64 ((Gh.cl p 0) >>> 1) else U64 (((Gh.cl p 1) >>> 1) ||| ((Gh.cl p 0) <<< 63))) (fun j hj => by rw [if_pos ⟨Nat.zero_le _, by omega⟩]; first | rfl | (simp only [Nat.sub_zero]))
  replace ac := ac.stepG an om
  replace aa := aa.stepG an om
  replace hk := thenG hk an om
  refine nt (wp_ret (fin_arr (F := fun j => if j < 1 then U64 ((Gh.cl p 0) >>> 1) else U64 (((Gh.cl p 1) >>> 1) ||| ((Gh.cl p 0) <<< 63))) rfl (ex (pt ap 0)) GhAT.ag187 GhAT.sz187 ab om ?_))
  refine ⟨congrArg Ending.returned ?_, hk⟩
  show (.agg (arr 2 (fun j => if j < 1 then U64 ((Gh.cl p 0) >>> 1) else U64 (((Gh.cl p 1) >>> 1) ||| ((Gh.cl p 0) <<< 63)))) : Value) = .agg (arr 2 (fun j => U64 (Gh.cl (Gh.tmw p) j)))
  exact congrArg Value.agg (arr_congr (fun j hj => by first | exact Gh.tm_yes p j hj (by assumption) | exact Gh.tm_no p j hj (by assumption)))

theorem ghMultiples (b : Gh.W2) (w0 : World) : Calls Tryz.prog 107 #[.agg (arr 2 (fun j => U64 (Gh.cl b j)))] w0 fun e w' => e = .returned (.agg (arr 32 (fun j => U64 (Gh.cl (Gh.mw b (j / 2)) (j % 2))))) ∧ Below w0.heap.size w0 w' := by
 refine enter (n := 55) Tryz.func107 rfl rfl rfl ?_
 have hk : Below w0.heap.size w0 w0 := Below.refl _ _
 refine sr (w_box (m := 2) (F := fun j => U64 (Gh.cl b j)) ea rfl ?_)
 intro az w1 aj ac a8
 have a4 := gb_ hk.size aj
 clear aj
 replace hk := thenB hk a8
 refine w_alloc (m := 32) (F := fun j => U64 (0#64)) kr ?_
 intro ab w3 ad aa a5
 have ao := ac.nb ad
 have av := gb_ hk.size ad
 clear ad
 replace ac := ac.step a5
 replace hk := thenB hk a5
 refine nt (wp_seq (sr (w_as Ev.c (nt (wp_block ?_)))))
 refine c_loop (fun dN aN wl => ∃ (n : Nat), dN = (2 * n) ∧ ∃ f5, aN = fr 55 f5 ∧ (n = 8 ∨ n = 4 ∨ n = 2 ∨ n = 1 ∨ n = 0) ∧ f5 1 = pt az 0 ∧ f5 2 = pt ab 0 ∧ f5 3 = .int .i64 ((n : Nat) : Int) ∧ Row wl az 187 2 (fun j => U64 (Gh.cl (Gh.pw b n) j)) ∧ Row wl ab 188 32 (fun j => U64 (Gh.cl (Gh.mA b n (j / 2)) (j % 2))) ∧ Below w0.heap.size w0 wl) (2 * 8) ?_ ?_
 · exact ⟨8, rfl, _, rfl, iv, rfl, rfl, ti, (ac.cg), (aa.congr (fun j hj => by exact Gh.cA_8 b j)), hk⟩
 ·skip
  clear ac aa hk
  rintro _ _ w6 ⟨n, rfl, f5, rfl, a7, an, ap, ar, ac, aa, hk⟩
  refine wp_seq (sr (w_mv (ei ar) (w_val (y_bin ei Ev.c b_gtr) (nt ?_))))
  refine c_if (p := 0 < ((n : Nat) : Int)) eb (fun hc7 => ?_) (fun hc7 => ?_)
  ·skip
   refine wp_skip (then_n (wp_seq (wp_block (wp_seq ?_))))
   have ak : n = 8 ∨ n = 4 ∨ n = 2 ∨ n = 1 := by omega
   refine wp_region_lit (w_mv (ei ar) (w_val (v := .agg (arr 2 (fun j => U64 (Gh.cl (Gh.pw b n) j)))) (y_lda (ex (pt az 0) an) GhAT.ag187 GhAT.sz187 (fun j hj => by rw [Nat.zero_add]; exact (ac.cell om))) (w_val (v := pt ab (n * 2)) (y_off (y_ia (i := n) (ex (pt ab 0) ap) ei Tryz.underlying188 GhAT.sz187 om om) ro) (w_sta (k := 2) (G := fun j => U64 (Gh.cl (Gh.pw b n) j)) (ex (pt ab (n * 2))) ea oc GhAT.sz187 aa om ?_))))
   clear aa; intro w8 aa a6 _
   replace ac := ac.stepG a6 om
   replace hk := thenG hk a6 om
   refine nt (wp_region_lit (w_val (v := .agg (arr 2 (fun j => U64 (Gh.cl (Gh.pw b n) j)))) (y_lda (ex (pt az 0) an) GhAT.ag187 GhAT.sz187 (fun j hj => by rw [Nat.zero_add]; exact (ac.cell om))) (w_call (Tryz.func120) kr rfl (m1 ea) (ghTimes (Gh.pw b n) w8) ?_)))
   rintro _ bc ⟨rfl, aq⟩
   refine ⟨_, rfl, ?_⟩
   replace ac := ac.step aq
   replace aa := aa.step aq
   replace hk := thenB hk aq
   refine w_sta (k := 2) (G := fun j => U64 (Gh.cl (Gh.tmw (Gh.pw b n)) j)) (ex (pt az 0) an) ea oc GhAT.sz187 ac om ?_
   clear ac; intro bb ac ay _
   replace ac := ac.congr (g := fun j => U64 (Gh.cl (Gh.tmw (Gh.pw b n)) j)) (fun j hj => by rw [if_pos ⟨Nat.zero_le _, by omega⟩]; first | rfl | (simp only [Nat.sub_zero]))
   replace aa := aa.stepG ay om
   replace hk := thenG hk ay om
   refine wpList_nil (inb_n (then_n (wp_region_lit (w_mv (ei ar) (w_val (y_bin ei (evc (.int .u64 1)) (b_shr (c := 1) rfl om)) (w_as ei (wpList_nil ?_)))))))
   exact then_n ⟨_, om, n / 2, rfl, _, rfl, iv, an, ap, (Eq.trans (b := .int .i64 (((n : Nat) : Int) / 2 ^ 1)) rfl (by rcases ak with rfl | rfl | rfl | rfl <;> rfl)), (ac.congr (fun j hj => by rw [Gh.pw_step b n ak])), (aa.congr (fun j hj => by exact Gh.cA_step b n j ak)), hk⟩
  ·skip
   refine wp_exit (then_x ?_)
   replace aa := aa.congr (g := fun j => U64 (Gh.cl (Gh.m0 b 0 (j / 2)) (j % 2))) (fun j hj => by obtain rfl : n = 0 := om; rfl)
   refine then_x (inb_x (then_n (wp_seq (sr (w_mv Ev.c (nt (wp_block ?_)))))))
   refine c_loop (fun dN aN wl => ∃ (i : Nat), dN = (16 - i) ∧ ∃ a0, aN = fr 55 a0 ∧ (i ≤ 16) ∧ a0 2 = pt ab 0 ∧ a0 15 = .int .i64 ((i : Nat) : Int) ∧ Row wl ab 188 32 (fun j => U64 (Gh.cl (Gh.m0 b i (j / 2)) (j % 2))) ∧ Below w0.heap.size w0 wl) (16 - 0) ?_ ?_
   · exact ⟨0, rfl, _, rfl, iv, ap, ti, (aa.congr (fun j hj => by rfl)), hk⟩
   ·skip
    clear aa hk
    clear ac
    rintro _ _ bi ⟨i, rfl, a0, rfl, ba, am, al, aa, hk⟩
    refine sr (w_val (y_bin (ei al) Ev.c b_lss) (nt (wp_seq ?_)))
    refine c_if (p := ((i : Nat) : Int) < 16) eb (fun hc16 => ?_) (fun hc16 => ?_)
    ·skip
     refine wp_skip (then_n (wp_seq (wp_block (sr (w_mv (ei al) (w_as ei (nt (sr (w_as Ev.c (nt (wp_block ?_)))))))))))
     refine c_loop (fun dN aN wl => ∃ (m : Nat), dN = (2 * m) ∧ ∃ au, aN = fr 55 au ∧ (m = 8 ∨ m = 4 ∨ m = 2 ∨ m = 1 ∨ m = 0) ∧ au 2 = pt ab 0 ∧ au 4 = .int .i64 ((i : Nat) : Int) ∧ au 5 = .int .i64 ((m : Nat) : Int) ∧ au 15 = .int .i64 ((i : Nat) : Int) ∧ Row wl ab 188 32 (fun j => U64 (Gh.cl (Gh.mR b i m (j / 2)) (j % 2))) ∧ Below w0.heap.size w0 wl) (2 * 8) ?_ ?_
     · exact ⟨8, rfl, _, rfl, iv, am, rfl, ti, al, (aa.congr (fun j hj => by exact Gh.cR_8 b i j om)), hk⟩
     ·skip
      clear aa hk
      rintro _ _ bg ⟨m, rfl, au, rfl, a9, ae, ah, af, ai, aa, hk⟩
      refine wp_seq (sr (w_mv (ei af) (w_val (y_bin ei Ev.c b_gtr) (nt ?_))))
      refine c_if (p := 0 < ((m : Nat) : Int)) eb (fun hc19 => ?_) (fun hc19 => ?_)
      ·skip
       refine wp_skip (then_n (wp_seq (wp_block (wp_seq ?_))))
       have ak : m = 8 ∨ m = 4 ∨ m = 2 ∨ m = 1 := by omega
       refine wp_region_lit (w_mv (ei ah) (w_mv (ei af) (w_val (y_bin ei ei (b_and (p := i) (q := m) om om om om)) (w_val (y_bin ei Ev.c b_neq) (w_mv eb ?_)))))
       by_cases ag : (((i &&& m) : Nat) : Int) ≠ 0
       ·skip
        refine w_val_g (v := .int .i64 ((i : Nat) : Int)) (wy rfl rfl (eb (dt ag))) (y_mv (ei ah)) (w_val_g (v := .int .i64 ((m : Nat) : Int)) (wy rfl rfl (eb (dt ag))) (y_mv (ei af)) (w_val_g (wy rfl rfl (eb (dt ag))) (y_bin ei ei b_neq) (w_val (y_pick_t (eb (dt ag)) eb) (nt ?_))))
        refine c_if (p := ((i : Nat) : Int) ≠ ((m : Nat) : Int)) eb (fun hc21 => ?_) (fun hc21 => ?_)
        ·skip
         refine wp_seq (region_t 11 GhAT.mixed kr ?_)
         simp only [List.take_succ_cons, List.take_zero, List.drop_succ_cons, List.drop_zero]
         refine q_mv (ei ah) (q_val (v := pt ab (i * 2)) (fun w' hw' => y_off (y_ia (i := i) (ex (pt ab 0) ae) ei Tryz.underlying188 GhAT.sz187 om om) ro) (q_val (v := pt ab (i * 2)) (fun w' hw' => y_off (y_fa (ex (pt ab (i * 2))) (GhAT.fa187_0 _ _)) ro) (q_val (v := U64 (Gh.cl (Gh.mR b i m i) 0)) (fun w' hw' => y_ld (ex (pt ab (i * 2))) GhAT.sc92 (cls_cell (aa.val om (by (try dsimp only); rw [show (i * 2) / 2 = i from by omega, show (i * 2) % 2 = 0 from by omega])) aa.lt w' hw')) (q_mv (ei af) (q_val (v := pt ab (m * 2)) (fun w' hw' => y_off (y_ia (i := m) (ex (pt ab 0) ae) ei Tryz.underlying188 GhAT.sz187 om om) ro) (q_val (v := pt ab (m * 2)) (fun w' hw' => y_off (y_fa (ex (pt ab (m * 2))) (GhAT.fa187_0 _ _)) ro) (q_val (v := U64 (Gh.cl (Gh.mR b i m m) 0)) (fun w' hw' => y_ld (ex (pt ab (m * 2))) GhAT.sc92 (cls_cell (aa.val om (by (try dsimp only); rw [show (m * 2) / 2 = m from by omega, show (m * 2) % 2 = 0 from by omega])) aa.lt w' hw')) (q_val (fun w' hw' => y_bin e6 e6 xor64) (q_val (v := pt ab (i * 2)) (fun w' hw' => y_off (y_ia (i := i) (ex (pt ab 0) ae) ei Tryz.underlying188 GhAT.sz187 om om) ro) (q_val (v := pt ab (i * 2)) (fun w' hw' => y_off (y_fa (ex (pt ab (i * 2))) (GhAT.fa187_0 _ _)) ro) (q_nil ?_)))))))))))
         intro bj aw
         replace aa := aa.step aw
         replace hk := thenB hk aw
         refine w_st (v := U64 ((Gh.cl (Gh.mR b i m i) 0) ^^^ (Gh.cl (Gh.mR b i m m) 0))) (ex (pt ab (i * 2))) e6 rfl rfl GhAT.sz92 aa om ?_
         clear aa; intro bh aa a3 _
         replace hk := thenG hk a3 om
         refine nt (region_t 11 GhAT.mixed kr ?_)
         simp only [List.take_succ_cons, List.take_zero, List.drop_succ_cons, List.drop_zero]
         refine q_mv (ei ah) (q_val (v := pt ab (i * 2)) (fun w' hw' => y_off (y_ia (i := i) (ex (pt ab 0) ae) ei Tryz.underlying188 GhAT.sz187 om om) ro) (q_val (v := pt ab ((i * 2) + 1)) (fun w' hw' => y_off (y_fa (ex (pt ab (i * 2))) (GhAT.fa187_1 _ _)) ro) (q_val (v := U64 (Gh.cl (Gh.mR b i m i) 1)) (fun w' hw' => y_ld (ex (pt ab ((i * 2) + 1))) GhAT.sc92 (cls_cell (aa.val om (ng (by (try dsimp only); rw [show ((i * 2) + 1) / 2 = i from by omega, show ((i * 2) + 1) % 2 = 1 from by omega]))) aa.lt w' hw')) (q_mv (ei af) (q_val (v := pt ab (m * 2)) (fun w' hw' => y_off (y_ia (i := m) (ex (pt ab 0) ae) ei Tryz.underlying188 GhAT.sz187 om om) ro) (q_val (v := pt ab ((m * 2) + 1)) (fun w' hw' => y_off (y_fa (ex (pt ab (m * 2))) (GhAT.fa187_1 _ _)) ro) (q_val (v := U64 (Gh.cl (Gh.mR b i m m) 1)) (fun w' hw' => y_ld (ex (pt ab ((m * 2) + 1))) GhAT.sc92 (cls_cell (aa.val om (ng (by (try dsimp only); rw [show ((m * 2) + 1) / 2 = m from by omega, show ((m * 2) + 1) % 2 = 1 from by omega]))) aa.lt w' hw')) (q_val (fun w' hw' => y_bin e6 e6 xor64) (q_val (v := pt ab (i * 2)) (fun w' hw' => y_off (y_ia (i := i) (ex (pt ab 0) ae) ei Tryz.underlying188 GhAT.sz187 om om) ro) (q_val (v := pt ab ((i * 2) + 1)) (fun w' hw' => y_off (y_fa (ex (pt ab (i * 2))) (GhAT.fa187_1 _ _)) ro) (q_nil ?_)))))))))))
         intro be ax
         replace aa := aa.step ax
         replace hk := thenB hk ax
         refine w_st (v := U64 ((Gh.cl (Gh.mR b i m i) 1) ^^^ (Gh.cl (Gh.mR b i m m) 1))) (ex (pt ab ((i * 2) + 1))) e6 rfl rfl GhAT.sz92 aa om ?_
         clear aa; intro bf aa a1 _
         replace hk := thenG hk a1 om
         refine wpList_nil (inb_n (then_n (wp_region_lit (w_mv (ei af) (w_val (y_bin ei (evc (.int .u64 1)) (b_shr (c := 1) rfl om)) (w_as ei (wpList_nil ?_)))))))
         exact then_n ⟨_, om, m / 2, rfl, _, rfl, iv, ae, ah, (Eq.trans (b := .int .i64 (((m : Nat) : Int) / 2 ^ 1)) rfl (by rcases ak with rfl | rfl | rfl | rfl <;> rfl)), ai, (aa.congr (fun j hj => by first | exact Gh.cR_yes b i m j om ak om om | exact Gh.cR_no b i m j om ak om)), hk⟩
        ·skip
         refine wp_skip (inb_n (then_n (wp_region_lit (w_mv (ei af) (w_val (y_bin ei (evc (.int .u64 1)) (b_shr (c := 1) rfl om)) (w_as ei (wpList_nil ?_)))))))
         exact then_n ⟨_, om, m / 2, rfl, _, rfl, iv, ae, ah, (Eq.trans (b := .int .i64 (((m : Nat) : Int) / 2 ^ 1)) rfl (by rcases ak with rfl | rfl | rfl | rfl <;> rfl)), ai, (aa.congr (fun j hj => by first | exact Gh.cR_yes b i m j om ak om om | exact Gh.cR_no b i m j om ak om)), hk⟩
       ·skip
        with_reducible refine w_skip ?_ ?_
        exact wn rfl rfl (eb (df ag))
        with_reducible refine w_skip ?_ ?_
        exact wn rfl rfl (eb (df ag))
        with_reducible refine w_skip ?_ ?_
        exact wn rfl rfl (eb (df ag))
        refine w_val (y_pick_f (eb (df ag)) Ev.c) (nt (c_ff eb (wp_skip (inb_n (then_n (wp_region_lit (w_mv (ei af) (w_val (y_bin ei (evc (.int .u64 1)) (b_shr (c := 1) rfl om)) (w_as ei (wpList_nil ?_))))))))))
        exact then_n ⟨_, om, m / 2, rfl, _, rfl, iv, ae, ah, (Eq.trans (b := .int .i64 (((m : Nat) : Int) / 2 ^ 1)) rfl (by rcases ak with rfl | rfl | rfl | rfl <;> rfl)), ai, (aa.congr (fun j hj => by first | exact Gh.cR_yes b i m j om ak om om | exact Gh.cR_no b i m j om ak om)), hk⟩
      ·skip
       refine wp_exit (then_x (then_x (inb_x (inb_n (then_n (wp_region_lit (w_val (y_bin (ei ai) Ev.c (b_add om)) (w_mv ei (wpList_nil ?_)))))))))
       exact then_n ⟨_, om, i + 1, rfl, _, rfl, iv, ae, ti, (aa.congr (fun j hj => by obtain rfl : m = 0 := om; exact Gh.cR_0 b i j om)), hk⟩
    ·skip
     refine wp_exit (then_x ?_)
     replace aa := aa.congr (g := fun j => U64 (Gh.cl (Gh.mw b (j / 2)) (j % 2))) (fun j hj => by obtain rfl : i = 16 := om; exact Gh.c0_16 b j hj)
     refine then_x (inb_x (then_n (sr (w_val (v := .agg (arr 32 (fun j => U64 (Gh.cl (Gh.mw b (j / 2)) (j % 2))))) (y_lda (ex (pt ab 0) am) GhAT.ag188 GhAT.sz188 (fun j hj => by rw [Nat.zero_add]; exact (aa.cell om))) (w_sta (k := 32) (G := fun j => U64 (Gh.cl (Gh.mw b (j / 2)) (j % 2))) (ex (pt ab 0) am) ea oc GhAT.sz188 aa om ?_)))))
     clear aa; intro bd aa a2 _
     replace aa := aa.congr (g := fun j => U64 (Gh.cl (Gh.mw b (j / 2)) (j % 2))) (fun j hj => by rw [if_pos ⟨Nat.zero_le _, by omega⟩]; first | rfl | (simp only [Nat.sub_zero]))
     replace hk := thenG hk a2 om
     refine nt (wp_ret (fin_arr (F := fun j => U64 (Gh.cl (Gh.mw b (j / 2)) (j % 2))) rfl (ex (pt ab 0) am) GhAT.ag188 GhAT.sz188 aa om ?_))
     exact ⟨rfl, hk⟩

theorem ghBy (f : Nat → BitVec 64) (a b : Gh.W2) (m : Nat) (w0 : World) (r_m : Row w0 m 188 32 (fun j => U64 (Gh.cl (Gh.mw b (j / 2)) (j % 2)))) (hF : Gh.Fold w0 f) : Calls Tryz.prog 109 #[.agg (arr 2 (fun j => U64 (Gh.cl a j))), pt m 0] w0 fun e w' => e = .returned (.agg (arr 2 (fun j => U64 (Gh.cl (Gh.byw f a b) j)))) ∧ Below w0.heap.size w0 w' := by
 have bt := hF.2
 refine enter (n := 68) Tryz.func109 rfl rfl rfl ?_
 have hk : Below w0.heap.size w0 w0 := Below.refl _ _
 have bl := r_m.lt
 refine sr (w_box (m := 2) (F := fun j => U64 (Gh.cl a j)) ea rfl ?_)
 intro az w1 ah ab bd
 have ba := r_m.nb ah
 have bi := gb_ hk.size ah
 clear ah
 replace r_m := r_m.step bd
 replace hk := thenB hk bd
 replace hF := Gh.Fold.below hF bd
 refine w_alloc (m := 2) (F := fun j => if j < 1 then U64 (0#64) else U64 (0#64)) kr ?_
 intro a5 w3 ag ac bc
 have bb := r_m.nb ag
 have a1 := ab.nb ag
 have be := gb_ hk.size ag
 clear ag
 replace r_m := r_m.step bc
 replace ab := ab.step bc
 replace hk := thenB hk bc
 replace hF := Gh.Fold.below hF bc
 refine nt (sr (w_alloc (m := 2) (F := fun j => if j < 1 then U64 (0#64) else U64 (0#64)) kr ?_))
 intro ad w5 ae aa a7
 have a6 := r_m.nb ae
 have a4 := ab.nb ae
 have a2 := ac.nb ae
 have bg := gb_ hk.size ae
 clear ae
 replace r_m := r_m.step a7
 replace ab := ab.step a7
 replace ac := ac.step a7
 replace hk := thenB hk a7
 replace hF := Gh.Fold.below hF a7
 refine nt (wp_seq (sr (w_val (v := pt az 1) (y_off (y_fa (ex (pt az 0)) (GhAT.fa187_1 _ _)) ro) (w_val (v := U64 (Gh.cl a 1)) (y_ld (ex (pt az 1)) GhAT.sc92 (ab.val om rfl)) (w_val (v := pt az 0) (y_off (y_fa (ex (pt az 0)) (GhAT.fa187_0 _ _)) ro) (w_val (v := U64 (Gh.cl a 0)) (y_ld (ex (pt az 0)) GhAT.sc92 (ab.val om rfl)) (w_val (v := .agg (arr 2 (fun j => U64 (Gh.wq a j)))) (y_build (vs := #[(0, U64 (Gh.cl a 1)), (1, U64 (Gh.cl a 0))]) (mp_cons e6 (mp_cons e6 mp0)) (fun w => by kernel_rfl)) (w_mv Ev.c (nt (wp_block ?_))))))))))
 refine c_loop (fun dN aN wl => ∃ (q : Nat), dN = (2 - q) ∧ ∃ f7, aN = fr 68 f7 ∧ (q ≤ 2) ∧ f7 1 = pt m 0 ∧ f7 4 = pt a5 0 ∧ f7 5 = pt ad 0 ∧ f7 13 = .agg (arr 2 (fun j => U64 (Gh.wq a j))) ∧ f7 14 = .int .i64 ((q : Nat) : Int) ∧ Row wl m 188 32 (fun j => U64 (Gh.cl (Gh.mw b (j / 2)) (j % 2))) ∧ Row wl az 187 2 (fun j => U64 (Gh.cl a j)) ∧ Row wl a5 187 2 (fun j => if j < 1 then U64 (0#64) else U64 (0#64)) ∧ Row wl ad 187 2 (fun j => U64 (Gh.cl (Gh.zz f a b q) j)) ∧ Gh.Fold wl f ∧ Below w0.heap.size w0 wl) (2 - 0) ?_ ?_
 · exact ⟨0, rfl, _, rfl, iv, rfl, rfl, rfl, rfl, ti, r_m, ab, ac, (aa.congr (fun j hj => by exact Gh.zz_0 f a b j hj)), hF, hk⟩
 ·skip
  clear r_m ab ac aa hF hk
  rintro _ _ w8 ⟨q, rfl, f7, rfl, bj, bf, a3, a9, av, an, r_m, ab, ac, aa, hF, hk⟩
  refine sr (w_val (y_bin (ei an) Ev.c b_lss) (nt (wp_seq ?_)))
  refine c_if (p := ((q : Nat) : Int) < 2) eb (fun hc9 => ?_) (fun hc9 => ?_)
  ·skip
   refine wp_skip (then_n (wp_seq (wp_block (sr (w_val (v := U64 (Gh.wq a q)) (y_idxa (m := 2) (F := fun j => U64 (Gh.wq a j)) (i := q) (ea av) (ei an) Tryz.underlying202 GhAT.sc92 GhAT.sz92 om om) (w_as e6 (nt (sr (w_mv Ev.c (nt (wp_block ?_)))))))))))
   refine c_loop (fun dN aN wl => ∃ (k : Nat), dN = (16 - k) ∧ ∃ au, aN = fr 68 au ∧ (k ≤ 16) ∧ au 1 = pt m 0 ∧ au 4 = pt a5 0 ∧ au 5 = pt ad 0 ∧ au 7 = U64 (Gh.wq a q >>> (4 * k)) ∧ au 13 = .agg (arr 2 (fun j => U64 (Gh.wq a j))) ∧ au 14 = .int .i64 ((q : Nat) : Int) ∧ au 17 = .int .i64 ((k : Nat) : Int) ∧ Row wl m 188 32 (fun j => U64 (Gh.cl (Gh.mw b (j / 2)) (j % 2))) ∧ Row wl az 187 2 (fun j => U64 (Gh.cl a j)) ∧ Row wl a5 187 2 (fun j => if j < 1 then U64 (0#64) else U64 (0#64)) ∧ Row wl ad 187 2 (fun j => U64 (Gh.cl (Gh.bh f b (Gh.wq a q) (Gh.zz f a b q) k) j)) ∧ Gh.Fold wl f ∧ Below w0.heap.size w0 wl) (16 - 0) ?_ ?_
   · exact ⟨0, rfl, _, rfl, iv, bf, a3, a9, (Eq.trans (b := U64 (Gh.wq a q)) rfl (by exact congrArg U64 (BitVec.ushiftRight_zero _).symm)), av, an, ti, r_m, ab, ac, (aa.congr (fun j hj => by rfl)), hF, hk⟩
   ·skip
    clear r_m ab ac aa hF hk
    rintro _ _ bp ⟨k, rfl, au, rfl, bk, ar, a8, af, a0, ax, aw, ay, r_m, ab, ac, aa, hF, hk⟩
    refine sr (w_val (y_bin (ei ay) Ev.c b_lss) (nt (wp_seq ?_)))
    refine c_if (p := ((k : Nat) : Int) < 16) eb (fun hc12 => ?_) (fun hc12 => ?_)
    ·skip
     refine wp_skip (then_n (wp_seq (wp_block (sr (w_val (v := pt ad 1) (y_off (y_fa (ex (pt ad 0) af) (GhAT.fa187_1 _ _)) ro) (w_val (v := U64 (Gh.cl (Gh.bh f b (Gh.wq a q) (Gh.zz f a b q) k) 1)) (y_ld (ex (pt ad 1)) GhAT.sc92 (aa.val om rfl)) (w_val (y_bin e6 (evc (U64 (15#64))) and64) (w_as e6 (nt (sr (w_val (v := pt ad 0) (y_off (y_fa (ex (pt ad 0) af) (GhAT.fa187_0 _ _)) ro) (w_val (v := U64 (Gh.cl (Gh.bh f b (Gh.wq a q) (Gh.zz f a b q) k) 0)) (y_ld (ex (pt ad 0)) GhAT.sc92 (aa.val om rfl)) (w_val (y_bin e6 (evc (.int .u64 4)) (shr64 (c := 4) rfl)) (w_val (v := pt ad 1) (y_off (y_fa (ex (pt ad 0) af) (GhAT.fa187_1 _ _)) ro) (w_val (v := U64 (Gh.cl (Gh.bh f b (Gh.wq a q) (Gh.zz f a b q) k) 1)) (y_ld (ex (pt ad 1)) GhAT.sc92 (aa.val om rfl)) (w_val (y_bin e6 (evc (.int .u64 4)) (shr64 (c := 4) rfl)) (w_val (v := pt ad 0) (y_off (y_fa (ex (pt ad 0) af) (GhAT.fa187_0 _ _)) ro) (w_val (v := U64 (Gh.cl (Gh.bh f b (Gh.wq a q) (Gh.zz f a b q) k) 0)) (y_ld (ex (pt ad 0)) GhAT.sc92 (aa.val om rfl)) (w_val (y_bin e6 (evc (.int .u64 60)) (shl64 (c := 60) rfl)) (w_val (y_bin e6 e6 or64) (w_val (v := .agg (arr 2 (fun j => if j < 1 then U64 ((Gh.cl (Gh.bh f b (Gh.wq a q) (Gh.zz f a b q) k) 0) >>> 4) else U64 (((Gh.cl (Gh.bh f b (Gh.wq a q) (Gh.zz f a b q) k) 1) >>> 4) ||| ((Gh.cl (Gh.bh f b (Gh.wq a q) (Gh.zz f a b q) k) 0) <<< 60))))) (y_build (vs := #[(0, U64 ((Gh.cl (Gh.bh f b (Gh.wq a q) (Gh.zz f a b q) k) 0) >>> 4)), (1, U64 (((Gh.cl (Gh.bh f b (Gh.wq a q) (Gh.zz f a b q) k) 1) >>> 4) ||| ((Gh.cl (Gh.bh f b (Gh.wq a q) (Gh.zz f a b q) k) 0) <<< 60)))]) (mp_cons e6 (mp_cons e6 mp0)) (fun w => by kernel_rfl)) (w_sta (k := 2) (G := fun j => if j < 1 then U64 ((Gh.cl (Gh.bh f b (Gh.wq a q) (Gh.zz f a b q) k) 0) >>> 4) else U64 (((Gh.cl (Gh.bh f b (Gh.wq a q) (Gh.zz f a b q) k) 1) >>> 4) ||| ((Gh.cl (Gh.bh f b (Gh.wq a q) (Gh.zz f a b q) k) 0) <<< 60))) (ex (pt ad 0) af) ea oc GhAT.sz187 aa om ?_))))))))))))))))))))))
     clear aa; intro bu aa am _
     replace aa := aa.congr (g := fun j => if j < 1 then U64 ((Gh.cl (Gh.bh f b (Gh.wq a q) (Gh.zz f a b q) k) 0) >>> 4) else U64 (((Gh.cl (Gh.bh f b (Gh.wq a q) (Gh.zz f a b q) k) 1) >>> 4) ||| ((Gh.cl (Gh.bh f b (Gh.wq a q) (Gh.zz f a b q) k) 0) <<< 60))) (fun j hj => by rw [if_pos ⟨Nat.zero_le _, by omega⟩]; first | rfl | (simp only [Nat.sub_zero]))
     replace r_m := r_m.stepG am om
     replace ab := ab.stepG am om
     replace ac := ac.stepG am om
     replace hk := thenG hk am om
     replace hF := Gh.Fold.grown hF am om
     refine nt (wp_seq (region_t 8 GhAT.mixed kr ?_))
     simp only [List.take_succ_cons, List.take_zero, List.drop_succ_cons, List.drop_zero]
     refine q_val (v := pt ad 0) (fun w' hw' => y_off (y_fa (ex (pt ad 0) af) (GhAT.fa187_0 _ _)) ro) (q_val (v := U64 ((Gh.cl (Gh.bh f b (Gh.wq a q) (Gh.zz f a b q) k) 0) >>> 4)) (fun w' hw' => y_ld (ex (pt ad 0)) GhAT.sc92 (cls_cell (aa.val om pz) aa.lt w' hw')) (q_mv e6 (q_val (fun w' hw' => y_ia1z (i := (((Gh.cl (Gh.bh f b (Gh.wq a q) (Gh.zz f a b q) k) 1) &&& (15#64)).toNat)) Ev.g (ex (.int .u64 (((Gh.cl (Gh.bh f b (Gh.wq a q) (Gh.zz f a b q) k) 1) &&& (15#64)).toNat : Int))) Tryz.underlying203 GhAT.sz92 rfl (by exact Gh.nib_lt _)) (q_val (v := U64 (f (((Gh.cl (Gh.bh f b (Gh.wq a q) (Gh.zz f a b q) k) 1) &&& (15#64)).toNat))) (fun w' hw' => y_ld (ex (pt 2 (((Gh.cl (Gh.bh f b (Gh.wq a q) (Gh.zz f a b q) k) 1) &&& (15#64)).toNat))) GhAT.sc92 ((Gh.Fold.below hF hw').at_ (by exact Gh.nib_lt _))) (q_val (fun w' hw' => y_bin e6 (evc (.int .u64 48)) (shl64 (c := 48) rfl)) (q_val (fun w' hw' => y_bin e6 e6 xor64) (q_val (v := pt ad 0) (fun w' hw' => y_off (y_fa (ex (pt ad 0) af) (GhAT.fa187_0 _ _)) ro) (q_nil ?_))))))))
     intro bw ak
     replace r_m := r_m.step ak
     replace ab := ab.step ak
     replace ac := ac.step ak
     replace aa := aa.step ak
     replace hk := thenB hk ak
     replace hF := Gh.Fold.below hF ak
     refine w_st (v := U64 (((Gh.cl (Gh.bh f b (Gh.wq a q) (Gh.zz f a b q) k) 0) >>> 4) ^^^ ((f (((Gh.cl (Gh.bh f b (Gh.wq a q) (Gh.zz f a b q) k) 1) &&& (15#64)).toNat)) <<< 48))) (ex (pt ad 0)) e6 rfl rfl GhAT.sz92 aa om ?_
     clear aa; intro br aa ao _
     replace r_m := r_m.stepG ao om
     replace ab := ab.stepG ao om
     replace ac := ac.stepG ao om
     replace hk := thenG hk ao om
     replace hF := Gh.Fold.grown hF ao om
     refine nt (wp_seq (region_t 11 GhAT.mixed kr ?_))
     simp only [List.take_succ_cons, List.take_zero, List.drop_succ_cons, List.drop_zero]
     refine q_val (v := pt ad 0) (fun w' hw' => y_off (y_fa (ex (pt ad 0) af) (GhAT.fa187_0 _ _)) ro) (q_val (v := U64 (((Gh.cl (Gh.bh f b (Gh.wq a q) (Gh.zz f a b q) k) 0) >>> 4) ^^^ ((f (((Gh.cl (Gh.bh f b (Gh.wq a q) (Gh.zz f a b q) k) 1) &&& (15#64)).toNat)) <<< 48))) (fun w' hw' => y_ld (ex (pt ad 0)) GhAT.sc92 (cls_cell (aa.val om (if_pos rfl)) aa.lt w' hw')) (q_mv (ex (pt m 0) ar) (q_mv (e6 a0) (q_val (fun w' hw' => y_bin e6 (evc (U64 (15#64))) and64) (q_val (fun w' hw' => y_nc (ex (pt m 0))) (q_val (v := pt m (((Gh.wq a q >>> (4 * k)) &&& (15#64)).toNat * 2)) (fun w' hw' => y_off (y_ia (i := (((Gh.wq a q >>> (4 * k)) &&& (15#64)).toNat)) (ex (pt m 0)) (ex (.int .u64 (((Gh.wq a q >>> (4 * k)) &&& (15#64)).toNat : Int))) Tryz.underlying188 GhAT.sz187 rfl (by exact Gh.nib_lt _)) ro) (q_val (v := pt m (((Gh.wq a q >>> (4 * k)) &&& (15#64)).toNat * 2)) (fun w' hw' => y_off (y_fa (ex (pt m (((Gh.wq a q >>> (4 * k)) &&& (15#64)).toNat * 2))) (GhAT.fa187_0 _ _)) ro) ?_)))))))
     have bm := Gh.nib_lt (Gh.wq a q >>> (4 * k))
     refine q_val (v := U64 (Gh.cl (Gh.mw b (((Gh.wq a q >>> (4 * k)) &&& (15#64)).toNat)) 0)) (fun w' hw' => y_ld (ex (pt m (((Gh.wq a q >>> (4 * k)) &&& (15#64)).toNat * 2))) GhAT.sc92 (cls_cell (r_m.val om (by (try dsimp only); rw [show (((Gh.wq a q >>> (4 * k)) &&& (15#64)).toNat * 2) / 2 = ((Gh.wq a q >>> (4 * k)) &&& (15#64)).toNat from by omega, show (((Gh.wq a q >>> (4 * k)) &&& (15#64)).toNat * 2) % 2 = 0 from by omega])) r_m.lt w' hw')) (q_val (fun w' hw' => y_bin e6 e6 xor64) (q_val (v := pt ad 0) (fun w' hw' => y_off (y_fa (ex (pt ad 0) af) (GhAT.fa187_0 _ _)) ro) (q_nil ?_)))
     intro bo ai
     replace r_m := r_m.step ai
     replace ab := ab.step ai
     replace ac := ac.step ai
     replace aa := aa.step ai
     replace hk := thenB hk ai
     replace hF := Gh.Fold.below hF ai
     refine w_st (v := U64 ((((Gh.cl (Gh.bh f b (Gh.wq a q) (Gh.zz f a b q) k) 0) >>> 4) ^^^ ((f (((Gh.cl (Gh.bh f b (Gh.wq a q) (Gh.zz f a b q) k) 1) &&& (15#64)).toNat)) <<< 48)) ^^^ (Gh.cl (Gh.mw b (((Gh.wq a q >>> (4 * k)) &&& (15#64)).toNat)) 0))) (ex (pt ad 0)) e6 rfl rfl GhAT.sz92 aa om ?_
     clear aa; intro bv aa al _
     replace r_m := r_m.stepG al om
     replace ab := ab.stepG al om
     replace ac := ac.stepG al om
     replace hk := thenG hk al om
     replace hF := Gh.Fold.grown hF al om
     refine nt (wp_seq (region_t 11 GhAT.mixed kr ?_))
     simp only [List.take_succ_cons, List.take_zero, List.drop_succ_cons, List.drop_zero]
     refine q_val (v := pt ad 1) (fun w' hw' => y_off (y_fa (ex (pt ad 0) af) (GhAT.fa187_1 _ _)) ro) (q_val (v := U64 (((Gh.cl (Gh.bh f b (Gh.wq a q) (Gh.zz f a b q) k) 1) >>> 4) ||| ((Gh.cl (Gh.bh f b (Gh.wq a q) (Gh.zz f a b q) k) 0) <<< 60))) (fun w' hw' => y_ld (ex (pt ad 1)) GhAT.sc92 (cls_cell (aa.val om (ng (ng (ng dv)))) aa.lt w' hw')) (q_mv (ex (pt m 0) ar) (q_mv (e6 a0) (q_val (fun w' hw' => y_bin e6 (evc (U64 (15#64))) and64) (q_val (fun w' hw' => y_nc (ex (pt m 0))) (q_val (v := pt m (((Gh.wq a q >>> (4 * k)) &&& (15#64)).toNat * 2)) (fun w' hw' => y_off (y_ia (i := (((Gh.wq a q >>> (4 * k)) &&& (15#64)).toNat)) (ex (pt m 0)) (ex (.int .u64 (((Gh.wq a q >>> (4 * k)) &&& (15#64)).toNat : Int))) Tryz.underlying188 GhAT.sz187 rfl (by exact Gh.nib_lt _)) ro) (q_val (v := pt m ((((Gh.wq a q >>> (4 * k)) &&& (15#64)).toNat * 2) + 1)) (fun w' hw' => y_off (y_fa (ex (pt m (((Gh.wq a q >>> (4 * k)) &&& (15#64)).toNat * 2))) (GhAT.fa187_1 _ _)) ro) ?_)))))))
     have bs := Gh.nib_lt (Gh.wq a q >>> (4 * k))
     refine q_val (v := U64 (Gh.cl (Gh.mw b (((Gh.wq a q >>> (4 * k)) &&& (15#64)).toNat)) 1)) (fun w' hw' => y_ld (ex (pt m ((((Gh.wq a q >>> (4 * k)) &&& (15#64)).toNat * 2) + 1))) GhAT.sc92 (cls_cell (r_m.val om (by (try dsimp only); rw [show ((((Gh.wq a q >>> (4 * k)) &&& (15#64)).toNat * 2) + 1) / 2 = ((Gh.wq a q >>> (4 * k)) &&& (15#64)).toNat from by omega, show ((((Gh.wq a q >>> (4 * k)) &&& (15#64)).toNat * 2) + 1) % 2 = 1 from by omega])) r_m.lt w' hw')) (q_val (fun w' hw' => y_bin e6 e6 xor64) (q_val (v := pt ad 1) (fun w' hw' => y_off (y_fa (ex (pt ad 0) af) (GhAT.fa187_1 _ _)) ro) (q_nil ?_)))
     intro bn aj
     replace r_m := r_m.step aj
     replace ab := ab.step aj
     replace ac := ac.step aj
     replace aa := aa.step aj
     replace hk := thenB hk aj
     replace hF := Gh.Fold.below hF aj
     refine w_st (v := U64 ((((Gh.cl (Gh.bh f b (Gh.wq a q) (Gh.zz f a b q) k) 1) >>> 4) ||| ((Gh.cl (Gh.bh f b (Gh.wq a q) (Gh.zz f a b q) k) 0) <<< 60)) ^^^ (Gh.cl (Gh.mw b (((Gh.wq a q >>> (4 * k)) &&& (15#64)).toNat)) 1))) (ex (pt ad 1)) e6 rfl rfl GhAT.sz92 aa om ?_
     clear aa; intro bq aa ap _
     replace r_m := r_m.stepG ap om
     replace ab := ab.stepG ap om
     replace ac := ac.stepG ap om
     replace hk := thenG hk ap om
     replace hF := Gh.Fold.grown hF ap om
     refine nt (wp_region_lit (w_mv (e6 a0) (w_val (y_bin e6 (evc (.int .u64 4)) (shr64 (c := 4) rfl)) (w_as e6 (wpList_nil (inb_n (then_n (wp_region_lit (w_val (y_bin (ei ay) Ev.c (b_add om)) (w_mv ei (wpList_nil ?_)))))))))))
     exact then_n ⟨_, om, k + 1, rfl, _, rfl, iv, ar, a8, af, (Eq.trans (b := U64 ((Gh.wq a q >>> (4 * k)) >>> 4)) rfl (by exact congrArg U64 (BitVec.shiftRight_add _ _ _).symm)), ax, aw, ti, r_m, ab, ac, (aa.congr (fun j hj => by exact Gh.bh_row f b (Gh.wq a q) (Gh.zz f a b q) k j hj)), hF, hk⟩
    ·skip
     refine wp_exit (then_x (then_x (inb_x (inb_n (then_n (wp_region_lit (w_val (y_bin (ei aw) Ev.c (b_add om)) (w_mv ei (wpList_nil ?_)))))))))
     exact then_n ⟨_, om, q + 1, rfl, _, rfl, iv, ar, a8, af, ax, ti, r_m, ab, ac, (aa.congr (fun j hj => by obtain rfl : k = 16 := om; rfl)), hF, hk⟩
  ·skip
   refine wp_exit (then_x ?_)
   replace aa := aa.congr (g := fun j => U64 (Gh.cl (Gh.byw f a b) j)) (fun j hj => by obtain rfl : q = 2 := om; rfl)
   refine then_x (inb_x (then_n (sr (w_val (v := .agg (arr 2 (fun j => U64 (Gh.cl (Gh.byw f a b) j)))) (y_lda (ex (pt ad 0) a9) GhAT.ag187 GhAT.sz187 (fun j hj => by rw [Nat.zero_add]; exact (aa.cell om))) (w_sta (k := 2) (G := fun j => U64 (Gh.cl (Gh.byw f a b) j)) (ex (pt a5 0) a3) ea oc GhAT.sz187 ac om ?_)))))
   clear ac; intro bx ac aq _
   replace ac := ac.congr (g := fun j => U64 (Gh.cl (Gh.byw f a b) j)) (fun j hj => by rw [if_pos ⟨Nat.zero_le _, by omega⟩]; first | rfl | (simp only [Nat.sub_zero]))
   replace r_m := r_m.stepG aq om
   replace ab := ab.stepG aq om
   replace aa := aa.stepG aq om
   replace hk := thenG hk aq om
   replace hF := Gh.Fold.grown hF aq om
   refine nt (wp_ret (fin_arr (F := fun j => U64 (Gh.cl (Gh.byw f a b) j)) rfl (ex (pt a5 0) a3) GhAT.ag187 GhAT.sz187 ac om ?_))
   exact ⟨rfl, hk⟩
end Go.Proofs.YtdmbfimjbmfbaaaGreatDoor
