/-
  Counters: Xor of the program. Conditions as each says.
-/
import Derived.Test.YtdmbfimjbmfbaaaGreatDoorRows
import Derived.Test.YtdmbfimjbmfbaaaGreatDoorCtrB
import Derived.Test.YtdmbfimjbmfbaaaGreatDoorGenSh
import Derived.ProofKit
namespace Go.Proofs.YtdmbfimjbmfbaaaGreatDoor
open Go.RowKit
set_option linter.unusedSimpArgs false
set_option linter.unusedVariables false
set_option maxRecDepth 100000
set_option maxHeartbeats 1000000
namespace CtrCT
theorem mixed : Tryz.prog.follows .mixedOrders = true := by kernel_rfl
theorem sc3 : (Tryz.prog.underlying 3).map scal = some true := by rw [Tryz.underlying3]; rfl
theorem sc5 : (Tryz.prog.underlying 5).map scal = some true := by rw [Tryz.underlying5]; rfl
theorem sc71 : (Tryz.prog.underlying 71).map scal = some true := by rw [Tryz.underlying71]; rfl
theorem sc9 : (Tryz.prog.underlying 9).map scal = some true := by rw [Tryz.underlying9]; rfl
theorem sz5 : (Tryz.prog.info? 5).map (·.size) = some 1 := by kernel_rfl
theorem sz9 : (Tryz.prog.info? 9).map (·.size) = some 1 := by kernel_rfl
end CtrCT
theorem blocks_c (p : Nat) (s : List (BitVec 8)) (d : Nat) (w0 : World) : Calls Tryz.prog 114 #[pt p 0, .string (str s), .int .i64 ((d : Nat) : Int)] w0 fun e w' => ∃ bc bs bw, e = .returned (.func (.func 121) #[] #[.pointer (some ⟨bc, 0, none⟩), .pointer (some ⟨bs, 0, none⟩), .pointer (some ⟨bw, 0, none⟩)]) ∧ w0.heap.size ≤ bc ∧ w0.heap.size ≤ bs ∧ w0.heap.size ≤ bw ∧ bs ≠ bc ∧ bs ≠ bw ∧ bc ≠ bw ∧ Row w' bc 71 1 (fun j => .pointer (some ⟨p, 0, none⟩)) ∧ Row w' bs 9 1 (fun j => .string (str (Ct.nx s d 0))) ∧ Row w' bw 3 1 (fun j => .int .i64 (d : Int)) ∧ Below w0.heap.size w0 w' := by
 refine enter (n := 8) Tryz.func114 rfl rfl rfl ?_
 have hk : Below w0.heap.size w0 w0 := Below.refl _ _
 refine sr (w_box (m := 1) (F := fun j => pt p 0) (ex (pt p 0)) rfl ?_)
 intro ao w1 al ag ar
 have an := gb_ hk.size al
 clear al
 replace hk := thenB hk ar
 refine w_box (m := 1) (F := fun j => .string (str s)) es rfl ?_
 intro ae w3 ab ac aq
 have ah := ag.nb ab
 have ak := gb_ hk.size ab
 clear ab
 replace ag := ag.step aq
 replace hk := thenB hk aq
 refine w_box (m := 1) (F := fun j => .int .i64 ((d : Nat) : Int)) ei rfl ?_
 intro af w5 aa am ap
 have ai := ag.nb aa
 have ad := ac.nb aa
 have aj := gb_ hk.size aa
 clear aa
 replace ag := ag.step ap
 replace ac := ac.step ap
 replace hk := thenB hk ap
 refine w_as (evc .nilFunc) (nt (sr (w_val (v := .func (.func 121) #[] #[pt ao 0, pt ae 0, pt af 0]) (y_mkf m0 (m3 (ex (pt ao 0)) (ex (pt ae 0)) (ex (pt af 0)))) (w_as (ex (.func (.func 121) #[] #[pt ao 0, pt ae 0, pt af 0])) (nt (wp_ret (fin_ret1 rfl (ex (.func (.func 121) #[] #[pt ao 0, pt ae 0, pt af 0])) ?_)))))))
 exact ⟨ao, ae, af, rfl, an, ak, aj, fun e => ah e.symm, ad, fun e => ai e, ag, ac.congr (fun j hj => by rw [Ct.nx_zero]), am, hk⟩

theorem ctrXor_y (key text : List (BitVec 8)) (hok : Aes.okKey key.length) (s : List (BitVec 8)) (d : Nat) (hs : s.length = 16) (h1 : 1 ≤ d) (h16 : d ≤ 16) (ht : text.length ≤ 70000) (w0 : World) : Calls Tryz.prog 100 #[.string (str key), .string (str s), .int .i64 ((d : Nat) : Int), .string (str text)] w0 fun e w' => e = .returned (.tuple #[.string (str (Ct.x key s d text)), .int .i64 0]) ∧ Below w0.heap.size w0 w' := by
 have bq := fun x => Aes.enc_len key x hok
 have bt := Ct.length_x key s d text
 refine enter (n := 71) Tryz.func100 rfl rfl rfl ?_
 have hk : Below w0.heap.size w0 w0 := Below.refl _ _
 refine sr (w_as (evc (.string (str ([] : List (BitVec 8))))) (w_as Ev.c (nt (sr (w_mv es (w_call (Tryz.func30) kr rfl (m1 es) (new_l key w0 hok) ?_))))))
 rintro _ w1 ⟨p, rfl, be, hc, a5⟩
 refine ⟨_, rfl, ?_⟩
 have br : w0.heap.size ≤ p := by have := hk.size; omega
 replace hk := thenB hk a5
 refine w_mv (ex (.tuple #[pt p 0, .int .i64 0])) (w_val ye (w_val ye (w_as (ex (pt p 0)) (w_as ei (nt (wp_seq (sr (w_mv ei (w_val (y_bin ei Ev.c b_neq) (nt (c_ff eb (wp_skip (then_n (wp_seq (sr (w_mv es (w_mv ei (w_call (Tryz.func112) kr rfl (m2 es ei) (wrong_y s d hs h1 h16 w1) ?_))))))))))))))))))
 rintro _ w2 ⟨rfl, bg⟩
 refine ⟨_, rfl, ?_⟩
 replace hk := thenB hk bg
 replace hc := hc.below bg
 refine w_as ei (nt (sr (w_mv ei (w_val (y_bin ei Ev.c b_neq) (nt (c_ff eb (wp_skip (then_n (wp_seq (sr (w_mv es (w_val (y_len es Tryz.underlying9) (w_val (y_bin ei Ev.c b_gtr) (nt ?_))))))))))))))
 have bm : ¬ (70000 < ((text.length : Nat) : Int)) := by omega
 refine c_f (p := 70000 < ((text.length : Nat) : Int)) eb bm (wp_skip (then_n (sr (w_mv (ex (pt p 0)) (w_mv es (w_mv ei (w_call (Tryz.func114) kr rfl (m3 (ex (pt p 0)) es ei) (blocks_c p s d w2) ?_)))))))
 rintro _ w5 ⟨bc, bs, bw, rfl, ba, a8, a6, bn, bp, bu, ad, ab, ac, bd⟩
 refine ⟨_, rfl, ?_⟩
 have bh : w0.heap.size ≤ bc := by have := hk.size; omega
 have bb : w0.heap.size ≤ bs := by have := hk.size; omega
 have bf : w0.heap.size ≤ bw := by have := hk.size; omega
 replace hk := thenB hk bd
 replace hc := hc.below bd
 refine w_as (ex (.func (.func 121) #[] #[pt bc 0, pt bs 0, pt bw 0])) (nt (sr (w_mv es (w_bytes es Tryz.underlying9 Tryz.underlying55 Tryz.underlying5 ?_))))
 intro ah af w6 ae a4 aa a0
 have ay := ad.nb ae
 have aw := ab.nb ae
 have ax := ac.nb ae
 have a3 := gb_ hk.size ae
 clear ae
 replace ad := ad.step a0
 replace ab := ab.step a0
 replace ac := ac.step a0
 replace hk := thenB hk a0
 replace hc := hc.below a0
 refine w_as el (nt (wp_seq (sr (w_as Ev.c (nt (wp_block ?_))))))
 refine c_loop (fun dN aN wl => ∃ (k : Nat), dN = (text.length + 16 - 16 * k) ∧ ∃ f8, aN = fr 71 f8 ∧ (16 * k < text.length + 16) ∧ f8 8 = .string (str ([] : List (BitVec 8))) ∧ f8 9 = .int .i64 0 ∧ f8 13 = .func (.func 121) #[] #[pt bc 0, pt bs 0, pt bw 0] ∧ f8 14 = .slice (some ⟨ah, 0, none⟩) text.length af ∧ f8 15 = .int .i64 (((16 * k) : Nat) : Int) ∧ Row wl bc 71 1 (fun j => pt p 0) ∧ Row wl bs 9 1 (fun j => .string (str (Ct.nx s d k))) ∧ Row wl bw 3 1 (fun j => .int .i64 ((d : Nat) : Int)) ∧ Row wl ah 5 text.length (fun j => if j < 16 * k then (fun j => U8 (gb text j ^^^ Ct.ks key s d j)) j else (fun j => U8 (gb text j)) j) ∧ CiphAt Aes.bk Aes.undo wl p (Aes.words key) ∧ Below w0.heap.size w0 wl) (text.length + 16 - 16 * 0) ?_ ?_
 · exact ⟨0, rfl, _, rfl, iv, rfl, rfl, rfl, rfl, ti, ad, (ab.cg), ac, (aa.congr (fun j hj => by (try dsimp only); rw [if_neg om])), hc, hk⟩
 ·skip
  clear ad ab ac aa hc hk
  rintro _ _ w9 ⟨k, rfl, f8, rfl, bi, a7, a9, aq, ag, ak, ad, ab, ac, aa, hc, hk⟩
  refine wp_seq (sr (w_mv (ei ak) (w_mv (el ag) (w_val (v := .int .i64 ((text.length : Nat) : Int)) (y_len_sl el Tryz.underlying55) (w_val (y_bin ei ei b_lss) (nt ?_))))))
  refine c_if (p := (((16 * k) : Nat) : Int) < ((text.length : Nat) : Int)) eb (fun hc10 => ?_) (fun hc10 => ?_)
  ·skip
   refine wp_skip (then_n (wp_seq (wp_block (sr (w_mv (ex (.func (.func 121) #[] #[pt bc 0, pt bs 0, pt bw 0]) aq) ?_)))))
   have aj := CiphAt.onward hc ab (by decide) (by decide)
   have bl := ab
   clear ab
   refine w_callv (ex (.func (.func 121) #[] #[pt bc 0, pt bs 0, pt bw 0])) (Tryz.func121) kr rfl m0 (by first | rfl | simp) (blk_c p bc bs bw k key s d hok hs h1 h16 bn bp w9 ad bl ac hc) ?_
   rintro _ bv ⟨rfl, ab, az⟩
   refine ⟨_, rfl, ?_⟩
   replace ad := ad.stepG az om
   replace ac := ac.stepG az om
   replace aa := aa.stepG az om
   replace hk := thenG hk az om
   replace hc := aj _ az
   refine w_as es (nt (sr (w_mv (el ag) (w_val (v := .int .i64 ((text.length : Nat) : Int)) (y_len_sl el Tryz.underlying55) (w_mv (ei ak) (w_val (y_bin ei ei (b_sub om)) (w_val (v := .int .i64 (min 16 (((text.length : Nat) : Int) - (((16 * k) : Nat) : Int)))) (y_min Ev.c ei) (w_mv Ev.c (nt (wp_block ?_))))))))))
   refine c_loop (fun dN aN wl => ∃ (i : Nat), dN = (16 - i) ∧ ∃ ap, aN = fr 71 ap ∧ (i ≤ 16) ∧ (16 * k + i ≤ text.length) ∧ ap 8 = .string (str ([] : List (BitVec 8))) ∧ ap 9 = .int .i64 0 ∧ ap 13 = .func (.func 121) #[] #[pt bc 0, pt bs 0, pt bw 0] ∧ ap 14 = .slice (some ⟨ah, 0, none⟩) text.length af ∧ ap 15 = .int .i64 (((16 * k) : Nat) : Int) ∧ ap 16 = .string (str (Aes.enc (Aes.words key) (Ct.nx s d k))) ∧ ap 53 = .int .i64 (min 16 (((text.length : Nat) : Int) - (((16 * k) : Nat) : Int))) ∧ ap 54 = .int .i64 ((i : Nat) : Int) ∧ Row wl bc 71 1 (fun j => pt p 0) ∧ Row wl bs 9 1 (fun j => .string (str (Ct.nx s d (k + 1)))) ∧ Row wl bw 3 1 (fun j => .int .i64 ((d : Nat) : Int)) ∧ Row wl ah 5 text.length (fun j => if j < ((16 * k) + i) then (fun j => U8 (gb text j ^^^ Ct.ks key s d j)) j else (fun j => U8 (gb text j)) j) ∧ CiphAt Aes.bk Aes.undo wl p (Aes.words key) ∧ Below w0.heap.size w0 wl) (16 - 0) ?_ ?_
   · exact ⟨0, rfl, _, rfl, iv, iv, a7, a9, aq, ag, ak, rfl, rfl, ti, ad, ab, ac, (aa.cg), hc, hk⟩
   ·skip
    clear ad ab ac aa hc hk
    rintro _ _ bz ⟨i, rfl, ap, rfl, bo, bj, a2, a1, au, an, am, av, ar, ao, ad, ab, ac, aa, hc, hk⟩
    refine sr (w_val (y_bin (ei ao) (ei ar) b_lss) (nt (wp_seq ?_)))
    refine c_if (p := ((i : Nat) : Int) < (min 16 (((text.length : Nat) : Int) - (((16 * k) : Nat) : Int)))) eb (fun hc14 => ?_) (fun hc14 => ?_)
    ·skip
     refine wp_skip (then_n (wp_seq (wp_block (sr (w_mv (ei ao) (w_as ei (nt (region_t 11 CtrCT.mixed kr ?_))))))))
     simp only [List.take_succ_cons, List.take_zero, List.drop_succ_cons, List.drop_zero]
     refine q_mv (el an) (q_mv (ei am) (q_mv ei (q_val (fun w' hw' => y_bin ei ei (b_add om)) (q_val (fun w' hw' => y_is1z (i := ((16 * k) + i)) el ei Tryz.underlying55 CtrCT.sz5 om om) (q_val (v := U8 (gb text ((16 * k) + i))) (fun w' hw' => y_ld (ex (pt ah ((16 * k) + i))) CtrCT.sc5 (cls_cell (aa.val om (ng rfl)) aa.lt w' hw')) (q_mv (es av) (q_mv ei (q_val (v := U8 (gb (Aes.enc (Aes.words key) (Ct.nx s d k)) i)) (fun w' hw' => y_idx (ex (.string (str (Aes.enc (Aes.words key) (Ct.nx s d k))))) ei Tryz.underlying9 om (by rw [bq]; omega)) (q_val (fun w' hw' => y_bin e8 e8 xor8) (q_val (fun w' hw' => y_is1z (i := ((16 * k) + i)) el ei Tryz.underlying55 CtrCT.sz5 om om) (q_nil ?_)))))))))))
     intro b0 ai
     replace ad := ad.step ai
     replace ab := ab.step ai
     replace ac := ac.step ai
     replace aa := aa.step ai
     replace hk := thenB hk ai
     replace hc := hc.below ai
     have aj := CiphAt.onward hc aa (by decide) (by decide)
     refine w_st (v := U8 ((gb text ((16 * k) + i)) ^^^ (gb (Aes.enc (Aes.words key) (Ct.nx s d k)) i))) (ex (pt ah ((16 * k) + i))) e8 rfl rfl CtrCT.sz5 aa om ?_
     clear aa; intro bx aa al _
     replace ad := ad.stepG al om
     replace ab := ab.stepG al om
     replace ac := ac.stepG al om
     replace hk := thenG hk al om
     replace hc := aj _ al
     refine wpList_nil (inb_n (then_n (wp_region_lit (w_val (y_bin (ei ao) Ev.c (b_add om)) (w_mv ei (wpList_nil ?_))))))
     exact then_n ⟨_, om, i + 1, rfl, _, rfl, iv, iv, a2, a1, au, an, am, av, ar, ti, ad, ab, ac, (aa.congr (fun j hj => by (try dsimp only); by_cases e : j = 16 * k + i; (rw [if_pos e, if_pos om, e]; show U8 (gb text (16 * k + i) ^^^ gb (Aes.enc (Aes.words key) (Ct.nx s d k)) i) = U8 (gb text (16 * k + i) ^^^ Ct.ks key s d (16 * k + i)); unfold Ct.ks; rw [show (16 * k + i) / 16 = k from by omega, show (16 * k + i) % 16 = i from by omega]); (rw [if_neg e]; by_cases e2 : j < 16 * k + i; (rw [if_pos e2, if_pos om]); (rw [if_neg e2, if_neg om])))), hc, hk⟩
    ·skip
     refine wp_exit (then_x (then_x (inb_x (inb_n (then_n (wp_region_lit (w_mv (ei am) (w_val (y_bin ei Ev.c (b_add om)) (w_as ei (wpList_nil ?_))))))))))
     exact then_n ⟨_, om, k + 1, rfl, _, rfl, iv, a2, a1, au, an, ti, ad, ab, ac, (aa.congr (fun j hj => by (try dsimp only); by_cases e : j < 16 * k + i; (rw [if_pos e, if_pos om]); (rw [if_neg e, if_neg om]))), hc, hk⟩
  ·skip
   refine wp_exit (then_x ?_)
   replace aa := aa.congr (g := fun j => U8 (gb (Ct.x key s d text) j)) (fun j hj => by (try dsimp only); rw [if_pos om, Ct.gb_x _ _ _ _ _ hj])
   refine then_x (inb_x (then_n (sr (w_mv (el ag) (w_val (y_str (l := Ct.x key s d text) el (by first | rfl | assumption | (simp; omega) | omega) Tryz.underlying55 Tryz.underlying5 Tryz.underlying9 (fun j hj => by rw [Nat.zero_add]; exact (aa.cell om))) (w_as es (w_as Ev.c (nt (wp_ret (fin_ret2 rfl es ei ?_))))))))))
   exact ⟨rfl, hk⟩
end Go.Proofs.YtdmbfimjbmfbaaaGreatDoor
