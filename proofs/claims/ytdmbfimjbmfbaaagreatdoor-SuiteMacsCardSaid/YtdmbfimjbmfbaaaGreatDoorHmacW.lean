/-
  Digests with a key: of texts; the reference; the example. Conditions as each says.
-/
import Derived.Test.YtdmbfimjbmfbaaaGreatDoorRows
import Derived.Test.YtdmbfimjbmfbaaaGreatDoorHmacB
import Derived.Test.YtdmbfimjbmfbaaaGreatDoorGenSh
import Derived.ProofKit
namespace Go.Proofs.YtdmbfimjbmfbaaaGreatDoor
open Go.RowKit
set_option linter.unusedSimpArgs false
set_option linter.unusedVariables false
set_option maxRecDepth 100000
set_option maxHeartbeats 1000000
namespace HmacWT
theorem mixed : Tryz.prog.follows .mixedOrders = true := by kernel_rfl
theorem fa126_0 (g off : Nat) : ∀ w, (Instr.fieldAt 126 (.pointer (some ⟨g, off, none⟩)) 0).run Tryz.prog w = .ok (.pointer (some ⟨g, off + 0, none⟩)) w := fun w => by kernel_rfl
theorem fa126_1 (g off : Nat) : ∀ w, (Instr.fieldAt 126 (.pointer (some ⟨g, off, none⟩)) 1).run Tryz.prog w = .ok (.pointer (some ⟨g, off + 1, none⟩)) w := fun w => by kernel_rfl
theorem fa126_2 (g off : Nat) : ∀ w, (Instr.fieldAt 126 (.pointer (some ⟨g, off, none⟩)) 2).run Tryz.prog w = .ok (.pointer (some ⟨g, off + 2, none⟩)) w := fun w => by kernel_rfl
theorem fa96_2 (g off : Nat) : ∀ w, (Instr.fieldAt 96 (.pointer (some ⟨g, off, none⟩)) 2).run Tryz.prog w = .ok (.pointer (some ⟨g, off + 2, none⟩)) w := fun w => by kernel_rfl
theorem sc124 : (Tryz.prog.underlying 124).map scal = some true := by rw [Tryz.underlying124]; rfl
theorem sc3 : (Tryz.prog.underlying 3).map scal = some true := by rw [Tryz.underlying3]; rfl
theorem sc5 : (Tryz.prog.underlying 5).map scal = some true := by rw [Tryz.underlying5]; rfl
theorem sz124 : (Tryz.prog.info? 124).map (·.size) = some 1 := by kernel_rfl
theorem sz5 : (Tryz.prog.info? 5).map (·.size) = some 1 := by kernel_rfl
end HmacWT
theorem macWith_l (kind : Nat) (hkd : Sha.Known kind) (rp g cap : Nat) (key text : List (BitVec 8)) (hs : text.length ≤ 1099511627000) (hk2 : key.length ≤ 1099511627000) (w0 : World) (r_rp : Row w0 rp 96 25 (Sha.rrow (.int .i64 ((kind : Nat) : Int)) (.int .i64 (((kind / 8) : Nat) : Int)) (.int .i64 ((Sha.bs kind : Nat) : Int)) (.int .i64 ((Sha.rounds (Sha.sm kind) : Nat) : Int)) (.slice (some ⟨g, 0, none⟩) (Sha.rounds (Sha.sm kind)) cap) (Sha.H0 kind) (fun i => U64 (BitVec.ofNat 64 (Sha.trn (Sha.sm kind) i))))) (r_g : Row w0 g 92 (Sha.rounds (Sha.sm kind)) (fun j => U64 (Sha.K (Sha.sm kind) j))) : Calls Tryz.prog 28 #[pt rp 0, .string (str key), .string (str text)] w0 fun e w' => e = .returned (.string (str (Hm.mac kind key text))) ∧ Below w0.heap.size w0 w' := by
 have cy := Sha.bs_le kind
 have cw := Hm.kk_len kind key
 have ct := Sha.ol_lt kind
 refine enter (n := 57) Tryz.func28 rfl rfl rfl ?_
 have hk : Below w0.heap.size w0 w0 := Below.refl _ _
 have co := r_rp.lt
 have cq := r_g.lt
 refine sr (w_as (evc (.string (str ([] : List (BitVec 8))))) (nt ?_))
 refine c_cut (fun aN wl => ∃ f1, aN = fr 57 f1 ∧ f1 0 = pt rp 0 ∧ f1 1 = .string (str (Hm.kk kind key)) ∧ f1 2 = .string (str text) ∧ f1 6 = .string (str ([] : List (BitVec 8))) ∧ Row wl rp 96 25 (Sha.rrow (.int .i64 ((kind : Nat) : Int)) (.int .i64 (((kind / 8) : Nat) : Int)) (.int .i64 ((Sha.bs kind : Nat) : Int)) (.int .i64 ((Sha.rounds (Sha.sm kind) : Nat) : Int)) (.slice (some ⟨g, 0, none⟩) (Sha.rounds (Sha.sm kind)) cap) (Sha.H0 kind) (fun i => U64 (BitVec.ofNat 64 (Sha.trn (Sha.sm kind) i)))) ∧ Row wl g 92 (Sha.rounds (Sha.sm kind)) (fun j => U64 (Sha.K (Sha.sm kind) j)) ∧ Below w0.heap.size w0 wl) ?_ ?_
 ·skip
  refine sr (w_mv es (w_val (y_len es Tryz.underlying9) (w_mv (ex (pt rp 0)) (w_val (y_nc (ex (pt rp 0))) (w_val (v := pt rp 2) (y_off (y_fa (ex (pt rp 0)) (HmacWT.fa96_2 _ _)) ro) (w_val (v := .int .i64 (((Sha.bs kind) : Nat) : Int)) (y_ld (ex (pt rp 2)) HmacWT.sc3 (r_rp.val om (ng (ng pz)))) (w_val (y_bin ei ei b_gtr) (nt ?_))))))))
  refine c_if (p := (((Sha.bs kind) : Nat) : Int) < ((key.length : Nat) : Int)) eb (fun hc3 => ?_) (fun hc3 => ?_)
  ·skip
   refine wp_region_lit (w_mv (ex (pt rp 0)) (w_mv es (w_call (Tryz.func38) kr rfl (m2 (ex (pt rp 0)) es) (ruleSum_l kind key w0 rp hkd (by (try simp only [List.length_append, Hm.pd_len, Sha.length_sum]); omega) ⟨g, cap, r_rp, r_g⟩) ?_)))
   rintro _ w4 ⟨rfl, cn⟩
   refine ⟨_, rfl, ?_⟩
   replace r_rp := r_rp.step cn
   replace r_g := r_g.step cn
   replace hk := thenB hk cn
   refine w_as es (wpList_nil ?_)
   exact then_n ⟨_, rfl, rfl, (Eq.trans (b := .string (str (Sha.sum kind key))) rfl (by first | exact congrArg (fun l => Value.string (str l)) (if_pos om).symm | exact congrArg (fun l => Value.string (str l)) (if_neg om).symm)), rfl, rfl, r_rp, r_g, hk⟩
  ·skip
   refine wp_skip ?_
   exact then_n ⟨_, rfl, rfl, (Eq.trans (b := .string (str key)) rfl (by first | exact congrArg (fun l => Value.string (str l)) (if_pos om).symm | exact congrArg (fun l => Value.string (str l)) (if_neg om).symm)), rfl, rfl, r_rp, r_g, hk⟩
 ·skip
  clear r_rp r_g hk
  rintro _ w6 ⟨f1, rfl, cj, cd, ci, ck, r_rp, r_g, hk⟩
  refine sr (w_as Ev.c (w_as Ev.c (nt (wp_seq (sr (w_as Ev.c (nt (wp_block ?_))))))))
  refine c_loop (fun dN aN wl => ∃ (i : Nat) (va : Value) (vb : Value), dN = (Sha.bs kind - i) ∧ ∃ f7, aN = fr 57 f7 ∧ (i ≤ Sha.bs kind) ∧ f7 0 = pt rp 0 ∧ f7 1 = .string (str (Hm.kk kind key)) ∧ f7 2 = .string (str text) ∧ f7 6 = .string (str ([] : List (BitVec 8))) ∧ f7 7 = va ∧ f7 8 = vb ∧ f7 9 = .int .i64 ((i : Nat) : Int) ∧ Row wl rp 96 25 (Sha.rrow (.int .i64 ((kind : Nat) : Int)) (.int .i64 (((kind / 8) : Nat) : Int)) (.int .i64 ((Sha.bs kind : Nat) : Int)) (.int .i64 ((Sha.rounds (Sha.sm kind) : Nat) : Int)) (.slice (some ⟨g, 0, none⟩) (Sha.rounds (Sha.sm kind)) cap) (Sha.H0 kind) (fun i => U64 (BitVec.ofNat 64 (Sha.trn (Sha.sm kind) i)))) ∧ Row wl g 92 (Sha.rounds (Sha.sm kind)) (fun j => U64 (Sha.K (Sha.sm kind) j)) ∧ Own wl w0.heap.size 5 1 va i (fun j => U8 (gb (Hm.pd kind key 54#8) j)) ∧ va.ownBlock ≠ some rp ∧ va.ownBlock ≠ some g ∧ (∀ g, va.ownBlock = some g → vb.ownBlock ≠ some g) ∧ Own wl w0.heap.size 5 1 vb i (fun j => U8 (gb (Hm.pd kind key 92#8) j)) ∧ vb.ownBlock ≠ some rp ∧ vb.ownBlock ≠ some g ∧ (∀ g, vb.ownBlock = some g → va.ownBlock ≠ some g) ∧ Below w0.heap.size w0 wl) (Sha.bs kind - 0) ?_ ?_
  · exact ⟨0, (.slice none 0 0), (.slice none 0 0), rfl, _, rfl, iv, cj, cd, ci, ck, (etv (b := .slice none 0 0) rfl), (etv (b := .slice none 0 0) rfl), ti, r_rp, r_g, Own.nil, (fun e => by cases e), (fun e => by cases e), (fun g e => by cases e), Own.nil, (fun e => by cases e), (fun e => by cases e), (fun g e => by cases e), hk⟩
  ·skip
   clear r_rp r_g hk
   rintro _ _ w8 ⟨i, va, vb, rfl, f7, rfl, cp, bo, bx, ca, cf, b8, cb, bn, r_rp, r_g, aj, al, ao, cc, ad, ak, ap, ai, hk⟩
   refine wp_seq (sr (w_mv (ei bn) (w_mv (ex (pt rp 0) bo) (w_val (y_nc (ex (pt rp 0))) (w_val (v := pt rp 2) (y_off (y_fa (ex (pt rp 0)) (HmacWT.fa96_2 _ _)) ro) (w_val (v := .int .i64 (((Sha.bs kind) : Nat) : Int)) (y_ld (ex (pt rp 2)) HmacWT.sc3 (r_rp.val om (ng (ng pz)))) (w_val (y_bin ei ei b_lss) (nt ?_))))))))
   refine c_if (p := ((i : Nat) : Int) < (((Sha.bs kind) : Nat) : Int)) eb (fun hc9 => ?_) (fun hc9 => ?_)
   ·skip
    refine wp_skip (then_n (wp_seq (wp_block (sr (w_as (evc (U8 (0#8))) (nt (wp_seq (sr (w_mv (ei bn) (w_mv (es bx) (w_val (y_len es Tryz.underlying9) (w_val (y_bin ei ei b_lss) (nt ?_)))))))))))))
    refine c_if (p := ((i : Nat) : Int) < (((Hm.kk kind key).length : Nat) : Int)) eb (fun hc10 => ?_) (fun hc10 => ?_)
    ·skip
     refine wp_region_lit (w_mv (es bx) (w_mv (ei bn) (w_val (v := U8 (gb (Hm.kk kind key) i)) (y_idx (ex (.string (str (Hm.kk kind key)))) ei Tryz.underlying9 om om) (w_as e8 (nt (sr (w_mv (ex va b8) (w_mv e8 (w_val (y_bin e8 (evc (U8 (54#8))) xor8) (w_bs1 (m := 1) (e := 5) (F := fun j => U8 ((gb (Hm.kk kind key) i) ^^^ (54#8))) e8 (fun w => by kernel_rfl) ?_))))))))))
     intro bh cs ac aa bp
     have az := r_rp.nb ac
     have a7 := r_g.nb ac
     have af : va.ownBlock ≠ some bh := aj.apart om
     have ag : vb.ownBlock ≠ some bh := ad.apart om
     have bu := gb_ hk.size ac
     clear ac
     replace aj := aj.step bp
     replace ad := ad.step bp
     replace r_rp := r_rp.step bp
     replace r_g := r_g.step bp
     replace hk := thenB hk bp
     refine w_app (k := i) (m := 1) (size := 1) (bytes := 1) (ex va) el Tryz.underlying55 kr (by decide) aj hk.size aa om oca (by simp only [maxLen]; omega) om ?_
     intro b9 c1 av bq bw
     have a2 : ∀ g, vb.ownBlock = some g → b9.ownBlock ≠ some g := sep_new ai ad bw
     have au : ∀ g, b9.ownBlock = some g → vb.ownBlock ≠ some g := sep_sym a2
     replace ad := ad.stepO bq (sep_or ai)
     have a5 := no_new al r_rp.lt bw
     replace r_rp := r_rp.stepO bq al
     have bf := no_new ao r_g.lt bw
     replace r_g := r_g.stepO bq ao
     have b4 := no_new af aa.lt bw
     replace aa := aa.stepO bq af
     replace hk := thenO hk bq (fun g e => (aj.block_lt g e).2)
     clear aj
     refine w_as (ex b9) (nt (wp_region_lit (w_mv (ex vb cb) (w_mv e8 (w_val (y_bin e8 (evc (U8 (92#8))) xor8) (w_bs1 (m := 1) (e := 5) (F := fun j => U8 ((gb (Hm.kk kind key) i) ^^^ (92#8))) e8 (fun w => by kernel_rfl) ?_))))))
     intro bj cz ab ah a6
     have a1 := r_rp.nb ab
     have ba := r_g.nb ab
     have aw := aa.nb ab
     have ae : vb.ownBlock ≠ some bj := ad.apart om
     have b2 : b9.ownBlock ≠ some bj := av.apart om
     have bv := gb_ hk.size ab
     clear ab
     replace ad := ad.step a6
     replace av := av.step a6
     replace r_rp := r_rp.step a6
     replace r_g := r_g.step a6
     replace aa := aa.step a6
     replace hk := thenB hk a6
     refine w_app (k := i) (m := 1) (size := 1) (bytes := 1) (ex vb) el Tryz.underlying55 kr (by decide) ad hk.size ah om oca (by simp only [maxLen]; omega) om ?_
     intro cm cv ch a8 bg
     have an : ∀ g, b9.ownBlock = some g → cm.ownBlock ≠ some g := sep_new au av bg
     have ay : ∀ g, cm.ownBlock = some g → b9.ownBlock ≠ some g := sep_sym an
     replace av := av.stepO a8 (sep_or au)
     have a9 := no_new ak r_rp.lt bg
     replace r_rp := r_rp.stepO a8 ak
     have bi := no_new ap r_g.lt bg
     replace r_g := r_g.stepO a8 ap
     have bz := no_new ag aa.lt bg
     replace aa := aa.stepO a8 ag
     have b5 := no_new ae ah.lt bg
     replace ah := ah.stepO a8 ae
     replace hk := thenO hk a8 (fun g e => (ad.block_lt g e).2)
     clear ad
     refine w_as (ex cm) (wpList_nil (inb_n (then_n (wp_region_lit (w_mv (ei bn) (w_val (y_bin ei Ev.c (b_add om)) (w_as ei (wpList_nil ?_))))))))
     exact then_n ⟨_, om, i + 1, b9, cm, rfl, _, rfl, iv, bo, bx, ca, cf, rfl, rfl, ti, (r_rp.cg), r_g, (own_n (av.congr (fun j hj => by (try dsimp only); by_cases e : j < i * 1; (rw [if_pos e]); (rw [if_neg e, show j = i from by omega, Hm.gb_pd _ _ _ _ om] <;> first | rfl | (rw [gb_out (Hm.kk kind key) i om] <;> rfl)))) om), a5, bf, an, (own_n (ch.congr (fun j hj => by (try dsimp only); by_cases e : j < i * 1; (rw [if_pos e]); (rw [if_neg e, show j = i from by omega, Hm.gb_pd _ _ _ _ om] <;> first | rfl | (rw [gb_out (Hm.kk kind key) i om] <;> rfl)))) om), a9, bi, ay, hk⟩
    ·skip
     refine wp_skip (then_n (sr (w_mv (ex va b8) (w_mv e8 (w_val (y_bin e8 (evc (U8 (54#8))) xor8) (w_bs1 (m := 1) (e := 5) (F := fun j => U8 ((0#8) ^^^ (54#8))) e8 (fun w => by kernel_rfl) ?_))))))
     intro bh cr ac aa be
     have az := r_rp.nb ac
     have a7 := r_g.nb ac
     have af : va.ownBlock ≠ some bh := aj.apart om
     have ag : vb.ownBlock ≠ some bh := ad.apart om
     have bu := gb_ hk.size ac
     clear ac
     replace aj := aj.step be
     replace ad := ad.step be
     replace r_rp := r_rp.step be
     replace r_g := r_g.step be
     replace hk := thenB hk be
     refine w_app (k := i) (m := 1) (size := 1) (bytes := 1) (ex va) el Tryz.underlying55 kr (by decide) aj hk.size aa om oca (by simp only [maxLen]; omega) om ?_
     intro b7 cx ar bk bt
     have a0 : ∀ g, vb.ownBlock = some g → b7.ownBlock ≠ some g := sep_new ai ad bt
     have aq : ∀ g, b7.ownBlock = some g → vb.ownBlock ≠ some g := sep_sym a0
     replace ad := ad.stepO bk (sep_or ai)
     have bb := no_new al r_rp.lt bt
     replace r_rp := r_rp.stepO bk al
     have br := no_new ao r_g.lt bt
     replace r_g := r_g.stepO bk ao
     have b3 := no_new af aa.lt bt
     replace aa := aa.stepO bk af
     replace hk := thenO hk bk (fun g e => (aj.block_lt g e).2)
     clear aj
     refine w_as (ex b7) (nt (wp_region_lit (w_mv (ex vb cb) (w_mv e8 (w_val (y_bin e8 (evc (U8 (92#8))) xor8) (w_bs1 (m := 1) (e := 5) (F := fun j => U8 ((0#8) ^^^ (92#8))) e8 (fun w => by kernel_rfl) ?_))))))
     intro bj c0 ab ah a3
     have a1 := r_rp.nb ab
     have ba := r_g.nb ab
     have aw := aa.nb ab
     have ae : vb.ownBlock ≠ some bj := ad.apart om
     have b1 : b7.ownBlock ≠ some bj := ar.apart om
     have bv := gb_ hk.size ab
     clear ab
     replace ad := ad.step a3
     replace ar := ar.step a3
     replace r_rp := r_rp.step a3
     replace r_g := r_g.step a3
     replace aa := aa.step a3
     replace hk := thenB hk a3
     refine w_app (k := i) (m := 1) (size := 1) (bytes := 1) (ex vb) el Tryz.underlying55 kr (by decide) ad hk.size ah om oca (by simp only [maxLen]; omega) om ?_
     intro cl c2 ce a4 bd
     have am : ∀ g, b7.ownBlock = some g → cl.ownBlock ≠ some g := sep_new aq ar bd
     have ax : ∀ g, cl.ownBlock = some g → b7.ownBlock ≠ some g := sep_sym am
     replace ar := ar.stepO a4 (sep_or aq)
     have bc := no_new ak r_rp.lt bd
     replace r_rp := r_rp.stepO a4 ak
     have bm := no_new ap r_g.lt bd
     replace r_g := r_g.stepO a4 ap
     have b6 := no_new ag aa.lt bd
     replace aa := aa.stepO a4 ag
     have b0 := no_new ae ah.lt bd
     replace ah := ah.stepO a4 ae
     replace hk := thenO hk a4 (fun g e => (ad.block_lt g e).2)
     clear ad
     refine w_as (ex cl) (wpList_nil (inb_n (then_n (wp_region_lit (w_mv (ei bn) (w_val (y_bin ei Ev.c (b_add om)) (w_as ei (wpList_nil ?_))))))))
     exact then_n ⟨_, om, i + 1, b7, cl, rfl, _, rfl, iv, bo, bx, ca, cf, rfl, rfl, ti, (r_rp.cg), r_g, (own_n (ar.congr (fun j hj => by (try dsimp only); by_cases e : j < i * 1; (rw [if_pos e]); (rw [if_neg e, show j = i from by omega, Hm.gb_pd _ _ _ _ om] <;> first | rfl | (rw [gb_out (Hm.kk kind key) i om] <;> rfl)))) om), bb, br, am, (own_n (ce.congr (fun j hj => by (try dsimp only); by_cases e : j < i * 1; (rw [if_pos e]); (rw [if_neg e, show j = i from by omega, Hm.gb_pd _ _ _ _ om] <;> first | rfl | (rw [gb_out (Hm.kk kind key) i om] <;> rfl)))) om), bc, bm, ax, hk⟩
   ·skip
    refine wp_exit (then_x (then_x (inb_x (then_n (wp_seq (region_q HmacWT.mixed kr (q_mv (ex (pt rp 0) bo) (q_mv (ex vb cb) (q_val (v := .string (str (Hm.pd kind key 92#8))) (fun w' hw' => y_strown (l := Hm.pd kind key 92#8) (ex vb) (ad.step hw')  (by exact (by rw [Hm.pd_len]; omega)) (fun j hj => by exact (by rfl)) Tryz.underlying55 Tryz.underlying5 Tryz.underlying9) (q_mv (ex (pt rp 0) bo) (q_mv (ex va b8) (q_val (v := .string (str (Hm.pd kind key 54#8))) (fun w' hw' => y_strown (l := Hm.pd kind key 54#8) (ex va) (aj.step hw')  (by exact (by rw [Hm.pd_len]; omega)) (fun j hj => by exact (by rfl)) Tryz.underlying55 Tryz.underlying5 Tryz.underlying9) (q_mv (es ca) (q_val (fun w' hw' => y_bin es es (b_cat (by (try simp only [List.length_append, Hm.pd_len, Sha.length_sum]); omega))) (q_call (v := .string (str (Sha.sum kind ((Hm.pd kind key 54#8) ++ text)))) (Tryz.func38) kr rfl (m2 (ex (pt rp 0)) es) (fun w' hw' => ruleSum_l kind ((Hm.pd kind key 54#8) ++ text) w' rp hkd (by (try simp only [List.length_append, Hm.pd_len, Sha.length_sum]); omega) ⟨g, cap, (r_rp.step hw'), (r_g.step hw')⟩) (q_val (fun w' hw' => y_bin es es (b_cat (by (try simp only [List.length_append, Hm.pd_len, Sha.length_sum]); omega))) (q_call (v := .string (str (Sha.sum kind ((Hm.pd kind key 92#8) ++ (Sha.sum kind ((Hm.pd kind key 54#8) ++ text)))))) (Tryz.func38) kr rfl (m2 (ex (pt rp 0)) es) (fun w' hw' => ruleSum_l kind ((Hm.pd kind key 92#8) ++ (Sha.sum kind ((Hm.pd kind key 54#8) ++ text))) w' rp hkd (by (try simp only [List.length_append, Hm.pd_len, Sha.length_sum]); omega) ⟨g, cap, (r_rp.step hw'), (r_g.step hw')⟩) (q_as es (q_nil ?_)))))))))))))))))))
    intro cu bl
    replace aj := aj.step bl
    replace ad := ad.step bl
    replace r_rp := r_rp.step bl
    replace r_g := r_g.step bl
    replace hk := thenB hk bl
    refine then_n (wp_ret (fin_ret1 rfl es ?_))
    refine ⟨congrArg Ending.returned ?_, hk⟩
    show (.string (str (Sha.sum kind ((Hm.pd kind key 92#8) ++ (Sha.sum kind ((Hm.pd kind key 54#8) ++ text))))) : Value) = .string (str (Hm.mac kind key text))
    rfl

theorem macWith_r (kind : Nat) (hkd : Sha.Known kind) (rp : Nat) (key text : List (BitVec 8)) (hs : text.length ≤ 1099511627000) (hk2 : key.length ≤ 1099511627000) (w : World) (hR : Sha.RuleAt w rp kind) : Calls Tryz.prog 28 #[.pointer (some ⟨rp, 0, none⟩), .string (str key), .string (str text)] w fun e w' => e = .returned (.string (str (Hm.mac kind key text))) ∧ Below w.heap.size w w' := by
  obtain ⟨g, aa, r1, r2⟩ := hR
  exact macWith_l kind hkd rp g aa key text hs hk2 w r1 r2

theorem refMac_l (kind : Nat) (hkd : Sha.Known kind) (key text : List (BitVec 8)) (hs : text.length ≤ 1099511627000) (hk2 : key.length ≤ 1099511627000) (w0 : World) : Calls Tryz.prog 16 #[.int .i64 ((kind : Nat) : Int), .string (str key), .string (str text)] w0 fun e w' => e = .returned (.tuple #[.string (str (Hm.mac kind key text)), .int .i64 0]) ∧ Below w0.heap.size w0 w' := by
 refine enter (n := 16) Tryz.func16 rfl rfl rfl ?_
 have hk : Below w0.heap.size w0 w0 := Below.refl _ _
 refine sr (w_as (evc (.string (str ([] : List (BitVec 8))))) (w_as Ev.c (nt (wp_seq (sr (w_mv ei (w_call (Tryz.func27) kr rfl (m1 ei) (known_l kind  w0 hkd) ?_)))))))
 rintro _ w1 ⟨rfl, ae⟩
 refine ⟨_, rfl, ?_⟩
 replace hk := thenB hk ae
 refine w_val (y_not eb) (nt (c_ff eb (wp_skip (then_n (sr (w_mv ei (w_call (Tryz.func29) kr rfl (m1 ei) (make_l kind w1 hkd) ?_)))))))
 rintro _ w3 ⟨rp, rfl, ab, hR, aa⟩
 refine ⟨_, rfl, ?_⟩
 have ad : w0.heap.size ≤ rp := by have := hk.size; omega
 replace hk := thenB hk aa
 refine w_mv es (w_mv es (w_call (Tryz.func28) kr rfl (m3 (ex (pt rp 0)) es es) (macWith_r kind hkd rp key text om om w3 hR) ?_))
 rintro _ w4 ⟨rfl, ac⟩
 refine ⟨_, rfl, ?_⟩
 replace hk := thenB hk ac
 replace hR := Sha.RuleAt.below hR ac
 refine w_as es (w_as Ev.c (nt (wp_ret (fin_ret2 rfl es ei ?_))))
 exact ⟨rfl, hk⟩

theorem mac_l (kind : Nat) (hkd : Sha.Known kind) (key text : List (BitVec 8)) (hs : text.length ≤ 140737488351232) (hk2 : key.length ≤ 140737488351232) (w0 : World) (hT : Sha.Tabs w0) : Calls Tryz.prog 20 #[.int .i64 ((kind : Nat) : Int), .string (str key), .string (str text)] w0 fun e w' => e = .returned (.tuple #[.string (str (Hm.mac kind key text)), .int .i64 0]) ∧ Below w0.heap.size w0 w' := by
 have ap := hT.lt
 have aw := Sha.bs_le kind
 refine enter (n := 26) Tryz.func20 rfl rfl rfl ?_
 have hk : Below w0.heap.size w0 w0 := Below.refl _ _
 refine sr (w_as (evc (.string (str ([] : List (BitVec 8))))) (w_as Ev.c (nt (sr (w_mv ei (w_mv es (w_call (Tryz.func32) kr rfl (m2 ei es) (macNew_l kind hkd key om w0 hT) ?_)))))))
 rintro _ w1 ⟨m, pi, po, pn, rfl, ai, ae, ag, af, ao, ar, aq, av, au, an, aa, hi, ho, hn, ac⟩
 refine ⟨_, rfl, ?_⟩
 have am : w0.heap.size ≤ m := by have := hk.size; omega
 have aj : w0.heap.size ≤ pi := by have := hk.size; omega
 have ak : w0.heap.size ≤ po := by have := hk.size; omega
 have ah : w0.heap.size ≤ pn := by have := hk.size; omega
 replace hk := thenB hk ac
 replace hT := Sha.Tabs.below hT ac
 refine w_mv (ex (.tuple #[pt m 0, .int .i64 0])) (w_val ye (w_val ye (w_as (ex (pt m 0)) (w_as ei (nt (wp_seq (sr (w_mv ei (w_val (y_bin ei Ev.c b_neq) (nt (c_ff eb (wp_skip (then_n (sr (w_mv (ex (pt m 0)) (w_mv es ?_))))))))))))))))
 have al := hn
 clear hn
 refine w_call (Tryz.func33) kr rfl (m2 (ex (pt m 0)) es) (macWrite_l kind hkd m pi po pn (Hm.pd kind key 54#8) text om om om w1 aa hT al) ?_
 rintro _ w2 ⟨rfl, hn, ad⟩
 refine ⟨_, rfl, ?_⟩
 replace aa := aa.stepG ad om
 replace hk := thenG hk ad om
 replace hT := Sha.Tabs.grown hT ad om om
 replace hi := Sha.At.grown hi ad om
 replace ho := Sha.At.grown ho ad om
 refine nt (sr (w_mv (ex (pt m 0)) (w_call (Tryz.func34) kr rfl (m1 (ex (pt m 0))) (macSum_l kind hkd m pi po pn ((Hm.pd kind key 54#8) ++ text) (Hm.pd kind key 92#8) om om (by (try simp only [List.length_append, Hm.pd_len, List.length_nil]); omega) (by rw [Hm.pd_len]; omega) om w2 aa hT ho hn) ?_)))
 rintro _ w3 ⟨rfl, ab⟩
 refine ⟨_, rfl, ?_⟩
 replace aa := aa.step ab
 replace hk := thenB hk ab
 replace hT := Sha.Tabs.below hT ab
 replace hi := Sha.At.below hi ab
 replace ho := Sha.At.below ho ab
 replace hn := Sha.At.below hn ab
 refine w_val ye (w_val ye (w_as es (w_as ei (nt (wp_ret (fin_ret2 rfl es ei ?_))))))
 exact ⟨rfl, hk⟩

end Go.Proofs.YtdmbfimjbmfbaaaGreatDoor
