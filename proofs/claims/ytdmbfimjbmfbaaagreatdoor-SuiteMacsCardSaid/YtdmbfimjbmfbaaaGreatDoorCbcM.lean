/-
  Steps of a walk, part 9: results of which one lies in memory; two equal structs of three numbers. Conditions as each says. The last block of a chain alone, by the program. Conditions as each says. Fillings: what the program and the reference compute. Conditions as each says. Chains of blocks: the program's inner functions. Conditions as each says. The table that is folded in holds some words, whatever they are: of the world's shape. No conditions.
-/
import Derived.Test.YtdmbfimjbmfbaaaGreatDoorRows
import Derived.Test.YtdmbfimjbmfbaaaGreatDoorGenSh
import Derived.ProofKit
import Derived.Laws.StructEq
import Derived.Test.YtdmbfimjbmfbaaaGreatDoorGenMore
import Derived.Test.YtdmbfimjbmfbaaaGreatDoorAesRefEq
import Derived.Test.YtdmbfimjbmfbaaaGreatDoorOctW
import Derived.Test.YtdmbfimjbmfbaaaGreatDoorGhMul
import Derived.Test.YtdmbfimjbmfbaaaGreatDoorAesBackPlain
import Derived.HandedShaped
namespace Go.Proofs.YtdmbfimjbmfbaaaGreatDoor
open Go.RowKit
set_option linter.unusedSimpArgs false
set_option linter.unusedVariables false
section
variable {P : Program} {w : World} {n : Nat} {f : Nat → Value}
theorem fin_ct {fn : Func} {R : Ending → World → Prop} {t u g m : Nat} {ty : TypeId} {F : Nat → Value} {v : Value} (hr : fn.results = #[.cell t ty, .tmp u]) (hv : Ev n f (.tmp t) (.pointer (some ⟨g, 0, none⟩))) (hv' : Ev n f (.tmp u) v)
    (hu : (P.underlying ty).map isAggD = some true) (hi : (P.info? ty).map (·.size) = some m) {e : TypeId} {k : Nat} (hc : Row w g e k F) (hm : m ≤ k) (h : R (.returned (.tuple #[.agg (arr m F), v])) w) : bodyPost P fn R .ret (fr n f) w := by
  have hp : (fr n f).tmps.getD t undef = .pointer (some ⟨g, 0, none⟩) := hv
  have e' : (fr n f).tmps.getD u undef = v := hv'
  refine bodyPost_ret (v := .tuple #[.agg (arr m F), v]) ?_ rfl h
  simp only [Array.getD_eq_getD_getElem?] at hp e'
  simp [results, hr, hp, e', asAddr, run_loadVar_at w ty g 0 m F hu hi (fun j hj => by rw [Nat.zero_add]; exact hc.cell om)]
theorem fin_tct {fn : Func} {R : Ending → World → Prop} {s t u g m : Nat} {ty : TypeId} {F : Nat → Value} {v v' : Value} (hr : fn.results = #[.tmp s, .cell t ty, .tmp u]) (hs : Ev n f (.tmp s) v') (hv : Ev n f (.tmp t) (.pointer (some ⟨g, 0, none⟩))) (hv' : Ev n f (.tmp u) v)
    (hu : (P.underlying ty).map isAggD = some true) (hi : (P.info? ty).map (·.size) = some m) {e : TypeId} {k : Nat} (hc : Row w g e k F) (hm : m ≤ k) (h : R (.returned (.tuple #[v', .agg (arr m F), v])) w) : bodyPost P fn R .ret (fr n f) w := by
  have hp : (fr n f).tmps.getD t undef = .pointer (some ⟨g, 0, none⟩) := hv
  have e' : (fr n f).tmps.getD u undef = v := hv'
  have aa : (fr n f).tmps.getD s undef = v' := hs
  refine bodyPost_ret (v := .tuple #[v', .agg (arr m F), v]) ?_ rfl h
  simp only [Array.getD_eq_getD_getElem?] at hp e' aa
  simp [results, hr, hp, e', aa, asAddr, run_loadVar_at w ty g 0 m F hu hi (fun j hj => by rw [Nat.zero_add]; exact hc.cell om)]
end
theorem su_eq (a b c : Int) (w : World) : (binOp .eql 35 (.agg #[.int .i64 a, .int .i64 b, .int .i64 c]) (.agg #[.int .i64 a, .int .i64 b, .int .i64 c])).run Tryz.prog w = .ok (.bool true) w := by
  have ht : Tryz.prog.underlying 35 = some (.struct (Tryz.prog.fieldsOf 35)) := by kernel_rfl
  have hp : Tryz.prog.stoodInHeld 35 = false := by kernel_rfl
  have hf : (Tryz.prog.fieldsOf 35).toList.map (fun f : Field => (f.name != "_", f.offset, f.type)) = [(true, 0, 3), (true, 1, 3), (true, 2, 3)] := by kernel_rfl
  rw [run_eql_struct, show (10000 : Nat) = 9999 + 1 from rfl, run_equalIn_struct _ _ _ _ _ ht hp]
  generalize (Tryz.prog.fieldsOf 35).toList = l at hf
  have hA : ∀ w, (isAgg 3).run Tryz.prog w = .ok false w := fun w => by kernel_rfl
  rcases l with _ | ⟨x, _ | ⟨y, _ | ⟨z, _ | ⟨_, _⟩⟩⟩⟩ <;> simp only [List.map_cons, List.map_nil, List.cons.injEq, Prod.mk.injEq, reduceCtorEq, and_false, false_and, and_true] at hf
  obtain ⟨⟨n1, o1, t1⟩, ⟨n2, o2, t2⟩, ⟨n3, o3, t3⟩⟩ := hf
  simp only [Op.eqFields, o1, o2, o3, t1, t2, t3, part, Sem.run_bind, hA, run_equalIn_int _ _ _ _ _ _ _ Tryz.underlying3]
  simp [show x.name ≠ "_" from by simpa using n1, show y.name ≠ "_" from by simpa using n2, show z.name ≠ "_" from by simpa using n3, Sem.run_bind, hA, run_equalIn_int _ 9998 _ _ _ _ _ Tryz.underlying3]
theorem b_su {F G : Nat → Value} {a b c : Int} (f0 : F 0 = .int .i64 a) (f1 : F 1 = .int .i64 b) (f2 : F 2 = .int .i64 c) (g0 : G 0 = .int .i64 a) (g1 : G 1 = .int .i64 b) (g2 : G 2 = .int .i64 c) : Bin Tryz.prog .eql 35 (.agg (arr 3 F)) (.agg (arr 3 G)) (.bool true) := by
  have e1 : arr 3 F = #[.int .i64 a, .int .i64 b, .int .i64 c] := by simp [arr, List.range_succ, f0, f1, f2]
  have e2 : arr 3 G = #[.int .i64 a, .int .i64 b, .int .i64 c] := by simp [arr, List.range_succ, g0, g1, g2]
  rw [e1, e2]
  intro X Y w
  rw [Sem.run_bind, run_eqGuard_agg w .eql _ X Y _ _ kr, Result.andThen_ok]
  exact su_eq a b c w
end Go.Proofs.YtdmbfimjbmfbaaaGreatDoor
namespace Go.Proofs.YtdmbfimjbmfbaaaGreatDoor
open Go.RowKit
set_option linter.unusedSimpArgs false
set_option linter.unusedVariables false
set_option maxRecDepth 100000
set_option maxHeartbeats 1000000
namespace CbcMT
theorem mixed : Tryz.prog.follows .mixedOrders = true := by kernel_rfl
theorem sc5 : (Tryz.prog.underlying 5).map scal = some true := by rw [Tryz.underlying5]; rfl
theorem so3 : (Tryz.prog.underlying 3).isSome = true := by rw [Tryz.underlying3]; rfl
theorem so5 : (Tryz.prog.underlying 5).isSome = true := by rw [Tryz.underlying5]; rfl
theorem sz5 : (Tryz.prog.info? 5).map (·.size) = some 1 := by kernel_rfl
end CbcMT
theorem mac_y (key : List (BitVec 8)) (hok : Aes.okKey key.length) (text : List (BitVec 8)) (hz : text.length ≤ 140000) (w0 : World) : Calls Tryz.prog 19 #[.string (str key), .string (str text)] w0 fun e w' => e = .returned (.tuple #[.string (str (Cb.mac key text)), .int .i64 0]) ∧ Below w0.heap.size w0 w' := by
 have a3 := fun t => Cb.ch_len key Cb.zero16 (Cb.z text) hok rfl t
 have ba : (Cb.z text).length = text.length + (16 - text.length % 16) % 16 := Cb.z_len text
 refine enter (n := 61) Tryz.func19 rfl rfl rfl ?_
 have hk : Below w0.heap.size w0 w0 := Below.refl _ _
 refine sr (w_as (evc (.string (str ([] : List (BitVec 8))))) (w_as Ev.c (nt (sr (w_mv es (w_call (Tryz.func30) kr rfl (m1 es) (new_l key w0 hok) ?_))))))
 rintro _ w1 ⟨p, rfl, a2, hc, aw⟩
 refine ⟨_, rfl, ?_⟩
 have a8 : w0.heap.size ≤ p := by have := hk.size; omega
 replace hk := thenB hk aw
 refine w_mv (ex (.tuple #[pt p 0, .int .i64 0])) (w_val ye (w_val ye (w_as (ex (pt p 0)) (w_as ei (nt (wp_seq (sr (w_mv ei (w_val (y_bin ei Ev.c b_neq) (nt (c_ff eb (wp_skip (then_n (wp_seq (sr (w_mv es (w_val (y_len es Tryz.underlying9) (w_val (y_bin ei Ev.c b_gtr) (nt ?_)))))))))))))))))))
 have a6 : ¬ (140000 < ((text.length : Nat) : Int)) := by omega
 refine c_f (p := 140000 < ((text.length : Nat) : Int)) eb a6 (wp_skip (then_n (sr (w_alloc (m := 16) (F := fun j => U8 (0#8)) kr ?_))))
 intro ab w3 ac aa a1
 have av := gb_ hk.size ac
 clear ac
 replace hk := thenB hk a1
 replace hc := hc.below a1
 refine nt (wp_seq (sr (w_as Ev.c (nt (wp_block ?_)))))
 refine c_loop (fun dN aN wl => ∃ (t : Nat), dN = (text.length + 16 - 16 * t) ∧ ∃ f5, aN = fr 61 f5 ∧ (16 * t < text.length + 16) ∧ f5 1 = .string (str text) ∧ f5 4 = .string (str ([] : List (BitVec 8))) ∧ f5 5 = .int .i64 0 ∧ f5 6 = pt p 0 ∧ f5 8 = pt ab 0 ∧ f5 9 = .int .i64 (((16 * t) : Nat) : Int) ∧ Row wl ab 74 16 (fun j => U8 (gb (Cb.ch key Cb.zero16 (Cb.z text) t) j)) ∧ CiphAt Aes.bk Aes.undo wl p (Aes.words key) ∧ Below w0.heap.size w0 wl) (text.length + 16 - 16 * 0) ?_ ?_
 · exact ⟨0, rfl, _, rfl, iv, rfl, rfl, rfl, rfl, rfl, ti, (aa.congr (fun j hj => by exact congrArg U8 (gb_rep 16 j).symm)), hc, hk⟩
 ·skip
  clear aa hc hk
  rintro _ _ w6 ⟨t, rfl, f5, rfl, a4, ak, az, ax, ay, au, al, aa, hc, hk⟩
  refine wp_seq (sr (w_mv (ei al) (w_mv (es ak) (w_val (y_len es Tryz.underlying9) (w_val (y_bin ei ei b_lss) (nt ?_))))))
  refine c_if (p := (((16 * t) : Nat) : Int) < ((text.length : Nat) : Int)) eb (fun hc7 => ?_) (fun hc7 => ?_)
  ·skip
   refine wp_skip (then_n (wp_seq (wp_block (wp_seq (sr (w_mv (es ak) (w_val (y_len es Tryz.underlying9) (w_mv (ei al) (w_val (y_bin ei ei (b_sub om)) (w_val (v := .int .i64 (min 16 (((text.length : Nat) : Int) - (((16 * t) : Nat) : Int)))) (y_min Ev.c ei) (w_mv Ev.c (nt (wp_block ?_)))))))))))))
   refine c_loop (fun dN aN wl => ∃ (k : Nat), dN = (16 - k) ∧ ∃ f8, aN = fr 61 f8 ∧ (k ≤ 16) ∧ (16 * t + k ≤ text.length) ∧ f8 1 = .string (str text) ∧ f8 4 = .string (str ([] : List (BitVec 8))) ∧ f8 5 = .int .i64 0 ∧ f8 6 = pt p 0 ∧ f8 8 = pt ab 0 ∧ f8 9 = .int .i64 (((16 * t) : Nat) : Int) ∧ f8 34 = .int .i64 (min 16 (((text.length : Nat) : Int) - (((16 * t) : Nat) : Int))) ∧ f8 35 = .int .i64 ((k : Nat) : Int) ∧ Row wl ab 74 16 (fun j => if j < k then (fun j => U8 (gb (Cb.ch key Cb.zero16 (Cb.z text) t) j ^^^ gb text (16 * t + j))) j else (fun j => U8 (gb (Cb.ch key Cb.zero16 (Cb.z text) t) j)) j) ∧ CiphAt Aes.bk Aes.undo wl p (Aes.words key) ∧ Below w0.heap.size w0 wl) (16 - 0) ?_ ?_
   · exact ⟨0, rfl, _, rfl, iv, iv, ak, az, ax, ay, au, al, rfl, ti, (aa.congr (fun j hj => by (try dsimp only); rw [if_neg om])), hc, hk⟩
   ·skip
    clear aa hc hk
    rintro _ _ w9 ⟨k, rfl, f8, rfl, a7, a5, aj, ap, ao, ah, ad, an, ag, af, aa, hc, hk⟩
    refine sr (w_val (y_bin (ei af) (ei ag) b_lss) (nt (wp_seq ?_)))
    refine c_if (p := ((k : Nat) : Int) < (min 16 (((text.length : Nat) : Int) - (((16 * t) : Nat) : Int)))) eb (fun hc10 => ?_) (fun hc10 => ?_)
    ·skip
     refine wp_skip (then_n (wp_seq (wp_block (sr (w_mv (ei af) (w_as ei (nt (region_t 10 CbcMT.mixed kr ?_))))))))
     simp only [List.take_succ_cons, List.take_zero, List.drop_succ_cons, List.drop_zero]
     refine q_mv ei (q_val (fun w' hw' => y_ia1z (i := k) (ex (pt ab 0) ad) ei Tryz.underlying74 CbcMT.sz5 om om) (q_val (v := U8 (gb (Cb.ch key Cb.zero16 (Cb.z text) t) k)) (fun w' hw' => y_ld (ex (pt ab k)) CbcMT.sc5 (cls_cell (aa.val om (ng rfl)) aa.lt w' hw')) (q_mv (es aj) (q_mv (ei an) (q_mv ei (q_val (fun w' hw' => y_bin ei ei (b_add om)) (q_val (v := U8 (gb text ((16 * t) + k))) (fun w' hw' => y_idx (ex (.string (str text))) ei Tryz.underlying9 om om) (q_val (fun w' hw' => y_bin e8 e8 xor8) (q_val (fun w' hw' => y_ia1z (i := k) (ex (pt ab 0) ad) ei Tryz.underlying74 CbcMT.sz5 om om) (q_nil ?_))))))))))
     intro a9 am
     replace aa := aa.step am
     replace hk := thenB hk am
     replace hc := hc.below am
     have ae := CiphAt.onward hc aa (by decide) (by decide)
     refine w_st (v := U8 ((gb (Cb.ch key Cb.zero16 (Cb.z text) t) k) ^^^ (gb text ((16 * t) + k)))) (ex (pt ab k)) e8 rfl rfl CbcMT.sz5 aa om ?_
     clear aa; intro bc aa aq _
     replace hk := thenG hk aq om
     replace hc := ae _ aq
     refine wpList_nil (inb_n (then_n (wp_region_lit (w_val (y_bin (ei af) Ev.c (b_add om)) (w_mv ei (wpList_nil ?_))))))
     exact then_n ⟨_, om, k + 1, rfl, _, rfl, iv, iv, aj, ap, ao, ah, ad, an, ag, ti, (aa.congr (fun j hj => by (try dsimp only); by_cases e : j = k; (rw [if_pos e, if_pos om, e]); (rw [if_neg e]; by_cases e2 : j < k; (rw [if_pos e2, if_pos om]); (rw [if_neg e2, if_neg om])))), hc, hk⟩
    ·skip
     refine wp_exit (then_x ?_)
     have a0 : (Oct.xor (Cb.ch key Cb.zero16 (Cb.z text) t) (Cb.bk (Cb.z text) t)).length = 16 := by rw [Oct.length_xor, a3, Cb.bk_len _ _ om]; rfl
     have hE : (Aes.enc (Aes.words key) (Oct.xor (Cb.ch key Cb.zero16 (Cb.z text) t) (Cb.bk (Cb.z text) t))).length = 16 := Cb.enc_len key _ hok
     replace aa := aa.congr (g := fun j => U8 (gb (Oct.xor (Cb.ch key Cb.zero16 (Cb.z text) t) (Cb.bk (Cb.z text) t)) j)) (fun j hj => by (try dsimp only); rw [Cb.mac_step key text t k j hok hj om om]; split <;> rfl)
     refine then_x (inb_x (then_n (sr (w_mv (ex (pt p 0) ah) (w_val (v := .slice (some ⟨ab, 0, none⟩) 16 16) (y_sloff (y_slp (ex (pt ab 0) ad) evo.no evo.no Tryz.underlying74 CbcMT.sz5 bnd_ om) ro rfl) (w_val (y_str (l := Oct.xor (Cb.ch key Cb.zero16 (Cb.z text) t) (Cb.bk (Cb.z text) t)) el (by first | rfl | assumption | (simp; omega) | omega) Tryz.underlying55 Tryz.underlying5 Tryz.underlying9 (fun j hj => by rw [Nat.zero_add]; exact (aa.cell om))) (w_call (Tryz.func31) kr rfl (m2 (ex (pt p 0)) es) (enc_l p key (Oct.xor (Cb.ch key Cb.zero16 (Cb.z text) t) (Cb.bk (Cb.z text) t)) w9 hok hc a0) ?_)))))))
     rintro _ bd ⟨rfl, ai⟩
     refine ⟨_, rfl, ?_⟩
     replace aa := aa.step ai
     replace hk := thenB hk ai
     replace hc := hc.below ai
     refine w_mv (ex (.tuple #[.string (str (Aes.enc (Aes.words key) (Oct.xor (Cb.ch key Cb.zero16 (Cb.z text) t) (Cb.bk (Cb.z text) t)))), .int .i64 0])) (w_val ye (w_val ye (w_as es (w_as ei (nt (wp_region_lit (w_val (v := .slice (some ⟨ab, 0, none⟩) 16 16) (y_sloff (y_slp (ex (pt ab 0) ad) evo.no evo.no Tryz.underlying74 CbcMT.sz5 bnd_ om) ro rfl) (w_mv es ?_))))))))
     have ae := CiphAt.onward hc aa (by decide) (by decide)
     refine w_copys (l := Aes.enc (Aes.words key) (Oct.xor (Cb.ch key Cb.zero16 (Cb.z text) t) (Cb.bk (Cb.z text) t))) el es Tryz.underlying55 CbcMT.sz5 aa om ?_
     clear aa; intro bb aa ar _
     replace hk := thenG hk ar om
     replace hc := ae _ ar
     refine wpList_nil (inb_n (then_n (wp_region_lit (w_mv (ei an) (w_val (y_bin ei Ev.c (b_add om)) (w_as ei (wpList_nil ?_)))))))
     exact then_n ⟨_, om, t + 1, rfl, _, rfl, iv, aj, ap, ao, ah, ad, ti, (aa.congr (fun j hj => by (try dsimp only); rw [if_pos om, Nat.sub_zero]; rfl)), hc, hk⟩
  ·skip
   refine wp_exit (then_x (then_x (inb_x (then_n (wp_seq ?_)))))
   have a0 := a3 t
   refine wp_region_lit (w_val (v := .slice (some ⟨ab, 0, none⟩) 16 16) (y_sloff (y_slp (ex (pt ab 0) au) evo.no evo.no Tryz.underlying74 CbcMT.sz5 bnd_ om) ro rfl) (w_val (y_str (l := Cb.ch key Cb.zero16 (Cb.z text) t) el (by first | rfl | assumption | (simp; omega) | omega) Tryz.underlying55 Tryz.underlying5 Tryz.underlying9 (fun j hj => by rw [Nat.zero_add]; exact (aa.cell om))) (w_as es (w_as Ev.c (nt (wp_ret (fin_ret2 rfl es ei ?_)))))))
   refine ⟨congrArg Ending.returned ?_, hk⟩
   show (.tuple #[.string (str (Cb.ch key Cb.zero16 (Cb.z text) t)), .int .i64 0] : Value) = .tuple #[.string (str (Cb.mac key text)), .int .i64 0]
   rw [show t = (text.length + 15) / 16 from by omega]; rfl
end Go.Proofs.YtdmbfimjbmfbaaaGreatDoor
namespace Go.Proofs.YtdmbfimjbmfbaaaGreatDoor
open Go.RowKit
set_option linter.unusedSimpArgs false
set_option linter.unusedVariables false
set_option maxRecDepth 100000
set_option maxHeartbeats 1000000
namespace CbcAT
theorem mixed : Tryz.prog.follows .mixedOrders = true := by kernel_rfl
theorem so3 : (Tryz.prog.underlying 3).isSome = true := by rw [Tryz.underlying3]; rfl
theorem so5 : (Tryz.prog.underlying 5).isSome = true := by rw [Tryz.underlying5]; rfl
end CbcAT
end Go.Proofs.YtdmbfimjbmfbaaaGreatDoor
namespace Go.Proofs.YtdmbfimjbmfbaaaGreatDoor
open Go.RowKit
set_option linter.unusedSimpArgs false
set_option linter.unusedVariables false
set_option maxRecDepth 100000
set_option maxHeartbeats 1000000
namespace CbcBT
theorem mixed : Tryz.prog.follows .mixedOrders = true := by kernel_rfl
theorem so3 : (Tryz.prog.underlying 3).isSome = true := by rw [Tryz.underlying3]; rfl
theorem so5 : (Tryz.prog.underlying 5).isSome = true := by rw [Tryz.underlying5]; rfl
end CbcBT
end Go.Proofs.YtdmbfimjbmfbaaaGreatDoor
namespace Go.Proofs.YtdmbfimjbmfbaaaGreatDoor
open Go.RowKit
set_option linter.unusedVariables false
set_option maxRecDepth 100000
theorem fold_of_shaped {W : World} (h : W.ShapedOpen Tryz.prog) : ∃ f, Gh.Fold W f := by
  obtain ⟨cs, hh, hs, hr⟩ := h.1 2 (Array.replicate 16 (.int .u64 0)) 203 (of_decide_eq_true (by kernel_rfl)) (by kernel_rfl)
  obtain ⟨ts, hts, _, hall⟩ := hr (by kernel_rfl)
  have hc : Tryz.prog.cellTypes Tryz.prog.depth 203 = some (List.replicate 16 92) := by kernel_rfl
  rw [hc] at hts
  cases hts
  have h16 : cs.size = 16 := by simpa using hs
  have hx : ∀ i, i < 16 → ∃ c : BitVec 64, W.cell? ⟨2, i, none⟩ = some (U64 c) := fun i hi => by
    have h1 : i < cs.size := by omega
    obtain ⟨u, hu', hok⟩ := hall i cs[i] (by simp [h1])
    have e : u = 92 := by
      have := List.mem_of_getElem? hu'
      simpa using this
    subst e
    have hcell : W.cell? ⟨2, i, none⟩ = some cs[i] := by simp [World.cell?, hh, h1]
    unfold Cell.ok at hok
    rw [Tryz.underlying92] at hok
    cases hv : cs[i] <;> rw [hv] at hok <;> simp at hok
    case int k' n =>
      obtain ⟨rfl, hw⟩ := hok
      exact ⟨BitVec.ofNat 64 n.toNat, by rw [hcell, hv, U64_raw n ⟨hw.1, Int.lt_of_le_of_lt hw.2 (by decide)⟩]⟩
  refine ⟨fun i => if hi : i < 16 then Classical.choose (hx i hi) else 0#64, fun i hi => ?_, ?_⟩
  · dsimp only
    rw [dif_pos hi]
    exact Classical.choose_spec (hx i hi)
  · obtain ⟨c, hc0⟩ := hx 0 (by decide)
    exact World.block_lt_of_cell? W _ hc0
end Go.Proofs.YtdmbfimjbmfbaaaGreatDoor
