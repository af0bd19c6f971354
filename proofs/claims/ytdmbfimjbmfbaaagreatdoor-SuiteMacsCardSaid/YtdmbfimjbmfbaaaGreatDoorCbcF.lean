/-
  Chains of blocks: the last block alone. Conditions as each says.
-/
import Derived.Test.YtdmbfimjbmfbaaaGreatDoorRows
import Derived.Test.YtdmbfimjbmfbaaaGreatDoorCbcC
import Derived.Test.YtdmbfimjbmfbaaaGreatDoorCbcM
import Derived.Test.YtdmbfimjbmfbaaaGreatDoorGenSh
import Derived.ProofKit
namespace Go.Proofs.YtdmbfimjbmfbaaaGreatDoor
open Go.RowKit
set_option linter.unusedSimpArgs false
set_option linter.unusedVariables false
set_option maxRecDepth 100000
set_option maxHeartbeats 1000000
namespace CbcFT
theorem mixed : Tryz.prog.follows .mixedOrders = true := by kernel_rfl
theorem sc5 : (Tryz.prog.underlying 5).map scal = some true := by rw [Tryz.underlying5]; rfl
theorem sc9 : (Tryz.prog.underlying 9).map scal = some true := by rw [Tryz.underlying9]; rfl
theorem so3 : (Tryz.prog.underlying 3).isSome = true := by rw [Tryz.underlying3]; rfl
theorem so5 : (Tryz.prog.underlying 5).isSome = true := by rw [Tryz.underlying5]; rfl
theorem sz5 : (Tryz.prog.info? 5).map (·.size) = some 1 := by kernel_rfl
theorem sz9 : (Tryz.prog.info? 9).map (·.size) = some 1 := by kernel_rfl
end CbcFT
theorem refMac_0 (key : List (BitVec 8)) (hok : Aes.okKey key.length) (text : List (BitVec 8)) (h0 : text.length = 0) (w0 : World) : Calls Tryz.prog 15 #[.string (str key), .string (str text)] w0 fun e w' => e = .returned (.tuple #[.string (str (Cb.mac key text)), .int .i64 0]) ∧ Below w0.heap.size w0 w' := by
 have bu := fun t => Cb.ch_len key Cb.zero16 (Cb.z text) hok rfl t
 have bi : (Cb.z text).length = text.length + (16 - text.length % 16) % 16 := Cb.z_len text
 refine enter (n := 48) Tryz.func15 rfl rfl rfl ?_
 have hk : Below w0.heap.size w0 w0 := Below.refl _ _
 refine sr (w_as (evc (.string (str ([] : List (BitVec 8))))) (w_as Ev.c (nt (wp_seq (sr (w_mv es (w_call (Tryz.func22) kr rfl (m1 es) (right_l key w0 hok) ?_)))))))
 rintro _ _ ⟨rfl, rfl⟩
 refine ⟨_, rfl, ?_⟩
 refine w_val (y_not eb) (nt (c_ff eb (wp_skip (then_n (wp_seq (sr (w_mv es (w_val (y_len es Tryz.underlying9) (w_val (y_bin ei Ev.c b_gtr) (nt ?_))))))))))
 have bl : ¬ (140000 < ((text.length : Nat) : Int)) := by omega
 refine c_f (p := 140000 < ((text.length : Nat) : Int)) eb bl (wp_skip (then_n (sr (w_mv es (w_bytes_own es Tryz.underlying9 Tryz.underlying55 Tryz.underlying5 (by simp only [maxLen]; omega) hk.size ?_)))))
 intro v3 w4 aq br bo
 replace hk := thenB hk bo
 refine w_as (ex v3) (nt (wp_seq (wp_block ?_)))
 refine c_loop (fun dN aN wl => ∃ (m : Nat) (vo : Value), dN = (16 - m) ∧ ∃ f7, aN = fr 48 f7 ∧ (m ≤ (16 - text.length % 16) % 16) ∧ f7 0 = .string (str key) ∧ f7 4 = .string (str ([] : List (BitVec 8))) ∧ f7 5 = .int .i64 0 ∧ f7 6 = vo ∧ Own wl w0.heap.size 5 1 vo (text.length + m) (fun j => U8 (gb text j)) ∧ Below w0.heap.size w0 wl) (16 - 0) ?_ ?_
 · exact ⟨0, v3, rfl, _, rfl, iv, rfl, rfl, rfl, (etv (b := v3) rfl), (own_n (aq.cg) om), hk⟩
 ·skip
  clear aq hk
  rintro _ _ w8 ⟨m, vo, rfl, f7, rfl, be, ay, az, av, ao, aa, hk⟩
  refine wp_seq (sr (w_mv (ex vo ao) (w_val (v := .int .i64 (((text.length + m) : Nat) : Int)) (y_len_own (ex vo) aa Tryz.underlying55) (w_val (y_bin ei Ev.c (b_rem om)) (w_val (y_bin ei Ev.c b_neq) (nt ?_))))))
  refine c_if (p := ((((text.length + m) : Nat) : Int) % 16) ≠ 0) eb (fun hc9 => ?_) (fun hc9 => ?_)
  ·skip
   refine wp_skip (then_n (wp_block (wp_region_lit (w_mv (ex vo ao) (w_bs1 (m := 1) (e := 5) (F := fun j => U8 (0#8)) (evc (U8 (0#8))) (fun w => by kernel_rfl) ?_)))))
   intro a9 bp ag ad ax
   have ac : vo.ownBlock ≠ some a9 := aa.apart om
   have a1 := gb_ hk.size ag
   clear ag
   replace aa := aa.step ax
   replace hk := thenB hk ax
   refine w_app (k := (text.length + m)) (m := 1) (size := 1) (bytes := 1) (ex vo) el Tryz.underlying55 kr (by decide) aa hk.size ad om oca (by simp only [maxLen]; omega) om ?_
   intro bb bt ar aw a6
   have ak := no_new ac ad.lt a6
   replace ad := ad.stepO aw ac
   replace hk := thenO hk aw (fun g e => (aa.block_lt g e).2)
   clear aa
   refine w_as (ex bb) (wpList_nil (inb_n ?_))
   exact then_n ⟨_, om, m + 1, bb, rfl, _, rfl, iv, ay, az, av, rfl, (own_n (ar.congr (fun j hj => by (try dsimp only); by_cases e : j < (text.length + m) * 1; (rw [if_pos e]); (rw [if_neg e, gb_out text j om]))) om), hk⟩
  ·skip
   refine wp_exit (then_x (then_x (inb_x (then_n (sr (w_mv (es ay) (w_call (Tryz.func23) kr rfl (m1 es) (refNew_l key w8 hok) ?_)))))))
   rintro _ bs ⟨bx, g, bm, rfl, bc, a5, ba, af, aj⟩
   refine ⟨_, rfl, ?_⟩
   have au : vo.ownBlock ≠ some bx := aa.apart om
   have bd : w0.heap.size ≤ bx := by have := hk.size; omega
   have a2 : vo.ownBlock ≠ some g := aa.apart om
   have bn : w0.heap.size ≤ g := by have := hk.size; omega
   replace aa := aa.step bc
   replace hk := thenB hk bc
   refine w_as (ex (pt bx 0)) (nt (sr (w_mks (m := 16) (bytes := 1) (zv := U8 (0#8)) Ev.c Ev.c om om Tryz.underlying55 kr rfl om om ?_)))
   intro a4 bj ab ae ai
   have an := af.nb ab
   have ap := aj.nb ab
   have am : vo.ownBlock ≠ some a4 := aa.apart om
   have a3 := gb_ hk.size ab
   clear ab
   replace aa := aa.step ai
   replace af := af.step ai
   replace aj := aj.step ai
   replace hk := thenB hk ai
   refine w_val (y_str (l := Cb.zero16) el (by rfl) Tryz.underlying55 Tryz.underlying5 Tryz.underlying9 (fun j hj => (ae.val om (by exact congrArg U8 (gb_rep 16 _).symm)))) (w_as es (nt (sr (w_mv (ex vo ao) (w_val (v := .string (str (Cb.z text))) (y_strown (l := Cb.z text) (ex vo) aa  (by exact (by rw [bi]; omega)) (fun j hj => by exact (by rw [Cb.gb_z])) Tryz.underlying55 Tryz.underlying5 Tryz.underlying9) (w_call (Tryz.func24) kr rfl (m1 es) (refBlocks_0 (Cb.z text) om bj) ?_))))))
   rintro _ bq ⟨rfl, ah⟩
   refine ⟨_, rfl, ?_⟩
   replace aa := aa.step ah
   replace af := af.step ah
   replace aj := aj.step ah
   replace ae := ae.step ah
   replace hk := thenB hk ah
   refine w_as (ex (.slice none 0 0)) (nt (wp_seq (sr (w_as Ev.c (nt (wp_block ?_))))))
   clear aa
   refine c_loop (fun dN aN wl => dN = 0 ∧ ∃ al, aN = fr 48 al ∧ al 4 = .string (str ([] : List (BitVec 8))) ∧ al 5 = .int .i64 0 ∧ al 7 = pt bx 0 ∧ al 8 = .string (str Cb.zero16) ∧ al 9 = .slice none 0 0 ∧ al 10 = .int .i64 0 ∧ Row wl bx 84 513 (fun j => if j < 256 then U8 (Aes.sb j) else if j < 512 then U8 (Aes.bk (j - 256)) else .slice (some ⟨g, 0, none⟩) ((Aes.words key).length) bm) ∧ Row wl g 88 ((Aes.words key).length * 4) (fun j => U8 (Aes.byteOf (Aes.gw (Aes.words key) (j / 4)) (j % 4))) ∧ Below w0.heap.size w0 wl) 0 ?_ ?_
   · exact ⟨rfl, _, rfl, az, av, rfl, rfl, rfl, rfl, af, aj, hk⟩
   ·skip
    clear af aj hk
    clear ae
    rintro _ _ bv ⟨rfl, al, rfl, bh, bf, bg, a8, a7, a0, af, aj, hk⟩
    refine wp_seq (sr (w_mv (ei a0) (w_mv (ex (.slice none 0 0) a7) (w_val (v := .int .i64 0) (y_len_sl (ex (.slice none 0 0)) Tryz.underlying58) (w_val (y_bin ei ei b_lss) (nt (c_ff eb (wp_exit (then_x (then_x (inb_x (then_n (sr (w_mv (es a8) (w_as es (w_as Ev.c (nt (wp_ret (fin_ret2 rfl es ei ?_)))))))))))))))))))
    refine ⟨congrArg Ending.returned ?_, hk⟩
    show (.tuple #[.string (str Cb.zero16), .int .i64 0] : Value) = .tuple #[.string (str (Cb.mac key text)), .int .i64 0]
    unfold Cb.mac; rw [h0]; rfl

theorem refMac_y (key : List (BitVec 8)) (hok : Aes.okKey key.length) (text : List (BitVec 8)) (h0 : 0 < text.length) (hz : text.length ≤ 140000) (w0 : World) : Calls Tryz.prog 15 #[.string (str key), .string (str text)] w0 fun e w' => e = .returned (.tuple #[.string (str (Cb.mac key text)), .int .i64 0]) ∧ Below w0.heap.size w0 w' := by
 have bn := fun t => Cb.ch_len key Cb.zero16 (Cb.z text) hok rfl t
 have b1 : (Cb.z text).length = text.length + (16 - text.length % 16) % 16 := Cb.z_len text
 refine enter (n := 48) Tryz.func15 rfl rfl rfl ?_
 have hk : Below w0.heap.size w0 w0 := Below.refl _ _
 refine sr (w_as (evc (.string (str ([] : List (BitVec 8))))) (w_as Ev.c (nt (wp_seq (sr (w_mv es (w_call (Tryz.func22) kr rfl (m1 es) (right_l key w0 hok) ?_)))))))
 rintro _ _ ⟨rfl, rfl⟩
 refine ⟨_, rfl, ?_⟩
 refine w_val (y_not eb) (nt (c_ff eb (wp_skip (then_n (wp_seq (sr (w_mv es (w_val (y_len es Tryz.underlying9) (w_val (y_bin ei Ev.c b_gtr) (nt ?_))))))))))
 have bz : ¬ (140000 < ((text.length : Nat) : Int)) := by omega
 refine c_f (p := 140000 < ((text.length : Nat) : Int)) eb bz (wp_skip (then_n (sr (w_mv es (w_bytes_own es Tryz.underlying9 Tryz.underlying55 Tryz.underlying5 (by simp only [maxLen]; omega) hk.size ?_)))))
 intro v3 w4 a6 ca b4
 replace hk := thenB hk b4
 refine w_as (ex v3) (nt (wp_seq (wp_block ?_)))
 refine c_loop (fun dN aN wl => ∃ (m : Nat) (vo : Value), dN = (16 - m) ∧ ∃ f7, aN = fr 48 f7 ∧ (m ≤ (16 - text.length % 16) % 16) ∧ f7 0 = .string (str key) ∧ f7 4 = .string (str ([] : List (BitVec 8))) ∧ f7 5 = .int .i64 0 ∧ f7 6 = vo ∧ Own wl w0.heap.size 5 1 vo (text.length + m) (fun j => U8 (gb text j)) ∧ Below w0.heap.size w0 wl) (16 - 0) ?_ ?_
 · exact ⟨0, v3, rfl, _, rfl, iv, rfl, rfl, rfl, (etv (b := v3) rfl), (own_n (a6.cg) om), hk⟩
 ·skip
  clear a6 hk
  rintro _ _ w8 ⟨m, vo, rfl, f7, rfl, bu, ba, a4, a2, au, ab, hk⟩
  refine wp_seq (sr (w_mv (ex vo au) (w_val (v := .int .i64 (((text.length + m) : Nat) : Int)) (y_len_own (ex vo) ab Tryz.underlying55) (w_val (y_bin ei Ev.c (b_rem om)) (w_val (y_bin ei Ev.c b_neq) (nt ?_))))))
  refine c_if (p := ((((text.length + m) : Nat) : Int) % 16) ≠ 0) eb (fun hc9 => ?_) (fun hc9 => ?_)
  ·skip
   refine wp_skip (then_n (wp_block (wp_region_lit (w_mv (ex vo au) (w_bs1 (m := 1) (e := 5) (F := fun j => U8 (0#8)) (evc (U8 (0#8))) (fun w => by kernel_rfl) ?_)))))
   intro bh b7 ah ag a3
   have ae : vo.ownBlock ≠ some bh := ab.apart om
   have bd := gb_ hk.size ah
   clear ah
   replace ab := ab.step a3
   replace hk := thenB hk a3
   refine w_app (k := (text.length + m)) (m := 1) (size := 1) (bytes := 1) (ex vo) el Tryz.underlying55 kr (by decide) ab hk.size ag om oca (by simp only [maxLen]; omega) om ?_
   intro bt b6 a0 a9 bi
   have an := no_new ae ag.lt bi
   replace ag := ag.stepO a9 ae
   replace hk := thenO hk a9 (fun g e => (ab.block_lt g e).2)
   clear ab
   refine w_as (ex bt) (wpList_nil (inb_n ?_))
   exact then_n ⟨_, om, m + 1, bt, rfl, _, rfl, iv, ba, a4, a2, rfl, (own_n (a0.congr (fun j hj => by (try dsimp only); by_cases e : j < (text.length + m) * 1; (rw [if_pos e]); (rw [if_neg e, gb_out text j om]))) om), hk⟩
  ·skip
   refine wp_exit (then_x (then_x (inb_x (then_n (sr (w_mv (es ba) (w_call (Tryz.func23) kr rfl (m1 es) (refNew_l key w8 hok) ?_)))))))
   rintro _ b8 ⟨bx, g, bp, rfl, bs, bg, bo, ac, ai⟩
   refine ⟨_, rfl, ?_⟩
   have a7 : vo.ownBlock ≠ some bx := ab.apart om
   have bq : w0.heap.size ≤ bx := by have := hk.size; omega
   have be : vo.ownBlock ≠ some g := ab.apart om
   have bv : w0.heap.size ≤ g := by have := hk.size; omega
   replace ab := ab.step bs
   replace hk := thenB hk bs
   refine w_as (ex (pt bx 0)) (nt (sr (w_mks (m := 16) (bytes := 1) (zv := U8 (0#8)) Ev.c Ev.c om om Tryz.underlying55 kr rfl om om ?_)))
   intro aq b2 ad aa am
   have ap := ac.nb ad
   have ax := ai.nb ad
   have av : vo.ownBlock ≠ some aq := ab.apart om
   have bb := gb_ hk.size ad
   clear ad
   replace ab := ab.step am
   replace ac := ac.step am
   replace ai := ai.step am
   replace hk := thenB hk am
   refine w_val (y_str (l := Cb.zero16) el (by rfl) Tryz.underlying55 Tryz.underlying5 Tryz.underlying9 (fun j hj => (aa.val om (by exact congrArg U8 (gb_rep 16 _).symm)))) (w_as es (nt (sr (w_mv (ex vo au) (w_val (v := .string (str (Cb.z text))) (y_strown (l := Cb.z text) (ex vo) ab  (by exact (by rw [b1]; omega)) (fun j hj => by exact (by rw [Cb.gb_z])) Tryz.underlying55 Tryz.underlying5 Tryz.underlying9) (w_call (Tryz.func24) kr rfl (m1 es) (refBlocks_y (Cb.z text) om om b2) ?_))))))
   rintro _ b9 ⟨lb, bj, rfl, bm, af, a1⟩
   refine ⟨_, rfl, ?_⟩
   have a8 : bx ≠ lb := by have := ac.lt; omega
   have bc : g ≠ lb := by have := ai.lt; omega
   have ar : aq ≠ lb := by have := aa.lt; omega
   have az : vo.ownBlock ≠ some lb := ab.apart om
   have br : w0.heap.size ≤ lb := by have := hk.size; omega
   replace ab := ab.step a1
   replace ac := ac.step a1
   replace ai := ai.step a1
   replace aa := aa.step a1
   replace hk := thenB hk a1
   refine w_as el (nt (wp_seq (sr (w_as Ev.c (nt (wp_block ?_))))))
   clear ab
   refine c_loop (fun dN aN wl => ∃ (t : Nat), dN = ((Cb.z text).length / 16 - t) ∧ ∃ ao, aN = fr 48 ao ∧ (t ≤ (Cb.z text).length / 16) ∧ ao 4 = .string (str ([] : List (BitVec 8))) ∧ ao 5 = .int .i64 0 ∧ ao 7 = pt bx 0 ∧ ao 8 = .string (str (Cb.ch key Cb.zero16 (Cb.z text) t)) ∧ ao 9 = .slice (some ⟨lb, 0, none⟩) ((Cb.z text).length / 16) bj ∧ ao 10 = .int .i64 ((t : Nat) : Int) ∧ Row wl bx 84 513 (fun j => if j < 256 then U8 (Aes.sb j) else if j < 512 then U8 (Aes.bk (j - 256)) else .slice (some ⟨g, 0, none⟩) ((Aes.words key).length) bp) ∧ Row wl g 88 ((Aes.words key).length * 4) (fun j => U8 (Aes.byteOf (Aes.gw (Aes.words key) (j / 4)) (j % 4))) ∧ Row wl aq 5 16 (fun j => U8 (0#8)) ∧ Row wl lb 9 ((Cb.z text).length / 16 * 1) (fun j => .string (str (Cb.bk (Cb.z text) j))) ∧ Below w0.heap.size w0 wl) ((Cb.z text).length / 16 - 0) ?_ ?_
   · exact ⟨0, rfl, _, rfl, iv, a4, a2, rfl, (Eq.trans (b := .string (str Cb.zero16)) rfl (by rfl)), rfl, (Eq.trans (b := .int .i64 0) rfl (by rfl)), ac, ai, aa, af, hk⟩
   ·skip
    clear ac ai aa af hk
    rintro _ _ bw ⟨t, rfl, ao, rfl, b3, bf, bl, ay, a5, aw, aj, ac, ai, aa, af, hk⟩
    refine wp_seq (sr (w_mv (ei aj) (w_mv (el aw) (w_val (v := .int .i64 ((((Cb.z text).length / 16) : Nat) : Int)) (y_len_sl el Tryz.underlying58) (w_val (y_bin ei ei b_lss) (nt ?_))))))
    refine c_if (p := ((t : Nat) : Int) < ((((Cb.z text).length / 16) : Nat) : Int)) eb (fun hc22 => ?_) (fun hc22 => ?_)
    ·skip
     refine wp_skip (then_n (wp_seq (wp_block (wp_region_lit (w_mv (ex (pt bx 0) ay) (w_mv (es a5) (w_mv (el aw) (w_mv (ei aj) (w_val (y_is1z (i := t) el ei Tryz.underlying58 CbcFT.sz9 om om) (w_val (v := .string (str (Cb.bk (Cb.z text) t))) (y_ld (ex (pt lb t)) CbcFT.sc9 (af.val om rfl)) (w_call (Tryz.func26) kr rfl (m2 es es) (refXor_c (Cb.ch key Cb.zero16 (Cb.z text) t) (Cb.bk (Cb.z text) t) (by rw [bn]; omega) bw) ?_)))))))))))
     rintro _ b0 ⟨rfl, ak⟩
     refine ⟨_, rfl, ?_⟩
     replace ac := ac.step ak
     replace ai := ai.step ak
     replace aa := aa.step ak
     replace af := af.step ak
     replace hk := thenB hk ak
     refine w_call (Tryz.func25) kr rfl (m2 (ex (pt bx 0)) es) (refEnc_l bx g bp key (Oct.xor (Cb.ch key Cb.zero16 (Cb.z text) t) (Cb.bk (Cb.z text) t)) b0 hok (by rw [Oct.length_xor, bn, Cb.bk_len _ _ om]; rfl) ac ai) ?_
     rintro _ b5 ⟨rfl, al⟩
     refine ⟨_, rfl, ?_⟩
     replace ac := ac.step al
     replace ai := ai.step al
     replace aa := aa.step al
     replace af := af.step al
     replace hk := thenB hk al
     refine w_as es (wpList_nil (inb_n (then_n (wp_region_lit (w_mv (ei aj) (w_val (y_bin ei Ev.c (b_add om)) (w_as ei (wpList_nil ?_))))))))
     exact then_n ⟨_, om, t + 1, rfl, _, rfl, iv, bf, bl, ay, (Eq.trans (b := .string (str (Aes.enc (Aes.words key) (Oct.xor (Cb.ch key Cb.zero16 (Cb.z text) t) (Cb.bk (Cb.z text) t))))) rfl (by rfl)), aw, ti, ac, ai, aa, af, hk⟩
    ·skip
     refine wp_exit (then_x (then_x (inb_x (then_n (sr (w_mv (es a5) (w_as es (w_as Ev.c (nt (wp_ret (fin_ret2 rfl es ei ?_)))))))))))
     refine ⟨congrArg Ending.returned ?_, hk⟩
     show (.tuple #[.string (str (Cb.ch key Cb.zero16 (Cb.z text) t)), .int .i64 0] : Value) = .tuple #[.string (str (Cb.mac key text)), .int .i64 0]
     rw [show t = (text.length + 15) / 16 from by omega]; rfl
end Go.Proofs.YtdmbfimjbmfbaaaGreatDoor
