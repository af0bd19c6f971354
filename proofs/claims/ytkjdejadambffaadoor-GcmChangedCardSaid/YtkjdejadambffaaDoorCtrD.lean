/-
  Counters: the reference. Conditions as each says.
-/
import Derived.Test.YtkjdejadambffaaDoorRows
import Derived.Test.YtkjdejadambffaaDoorCtrC
import Derived.Test.YtkjdejadambffaaDoorGen
import Derived.ProofKit
namespace Go.Proofs.YtkjdejadambffaaDoor
open Go.RowKit
set_option linter.unusedSimpArgs false
set_option linter.unusedVariables false
set_option maxRecDepth 100000
set_option maxHeartbeats 1000000
namespace CtrDT
theorem mixed : Tryd.prog.follows .mixedOrders = true := by kernel_rfl
theorem sc3 : (Tryd.prog.underlying 3).map scal = some true := by rw [Tryd.underlying3]; rfl
theorem sc5 : (Tryd.prog.underlying 5).map scal = some true := by rw [Tryd.underlying5]; rfl
theorem sc51 : (Tryd.prog.underlying 51).map scal = some true := by rw [Tryd.underlying51]; rfl
theorem sc9 : (Tryd.prog.underlying 9).map scal = some true := by rw [Tryd.underlying9]; rfl
theorem sz5 : (Tryd.prog.info? 5).map (·.size) = some 1 := by kernel_rfl
theorem sz9 : (Tryd.prog.info? 9).map (·.size) = some 1 := by kernel_rfl
end CtrDT
theorem refStream_0 (bx g cap : Nat) (key s : List (BitVec 8)) (d : Nat) (hok : Aes.okKey key.length) (hs : s.length = 16) (h1 : 1 ≤ d) (h16 : d ≤ 16) (w0 : World) (r_bx : Row w0 bx 69 513 (fun j => if j < 256 then U8 (Aes.sb j) else if j < 512 then U8 (Aes.bk (j - 256)) else .slice (some ⟨g, 0, none⟩) ((Aes.words key).length) cap)) (r_g : Row w0 g 73 ((Aes.words key).length * 4) (fun j => U8 (Aes.byteOf (Aes.gw (Aes.words key) (j / 4)) (j % 4)))) : Calls Tryd.prog 42 #[pt bx 0, .string (str s), .int .i64 ((d : Nat) : Int), .int .i64 0] w0 fun e w' => e = .returned (.string (str ([] : List (BitVec 8)))) ∧ Below w0.heap.size w0 w' := by
 refine enter (n := 35) Tryd.func42 rfl rfl rfl ?_
 have hk : Below w0.heap.size w0 w0 := Below.refl _ _
 have lt_bx := r_bx.lt
 have lt_g := r_g.lt
 refine sr ?_
 refine w_as (evc (.string (str ([] : List (BitVec 8))))) ?_
 refine nt ?_
 refine sr ?_
 refine w_as Ev.c ?_
 refine nt ?_
 refine wp_seq ?_
 refine sr ?_
 refine w_as (evc (U64 (0#64))) ?_
 refine nt ?_
 refine wp_block ?_
 refine c_loop (fun dN aN wl => dN = 0 ∧ ∃ f1, aN = fr 35 f1 ∧ f1 0 = pt bx 0 ∧ f1 1 = .string (str s) ∧ f1 2 = .int .i64 ((d : Nat) : Int) ∧ f1 3 = .int .i64 0 ∧ f1 8 = .string (str ([] : List (BitVec 8))) ∧ f1 9 = .slice none 0 0 ∧ Row wl bx 69 513 (fun j => if j < 256 then U8 (Aes.sb j) else if j < 512 then U8 (Aes.bk (j - 256)) else .slice (some ⟨g, 0, none⟩) ((Aes.words key).length) cap) ∧ Row wl g 73 ((Aes.words key).length * 4) (fun j => U8 (Aes.byteOf (Aes.gw (Aes.words key) (j / 4)) (j % 4))) ∧ Below w0.heap.size w0 wl) 0 ?_ ?_
 · exact ⟨rfl, _, rfl, rfl, rfl, rfl, rfl, rfl, rfl, r_bx, r_g, hk⟩
 ·skip
  clear r_bx r_g hk
  rintro _ _ w2 ⟨rfl, f1, rfl, s1_0, s1_1, s1_2, s1_3, s1_8, s1_9, r_bx, r_g, hk⟩
  refine wp_seq ?_
  refine sr ?_
  refine w_mv (ex (.slice none 0 0) s1_9) ?_
  refine w_val (v := .int .i64 0) (y_len_sl (ex (.slice none 0 0)) Tryd.underlying50) ?_
  refine w_mv (ei s1_3) ?_
  refine w_val (y_bin ei ei b_lss) ?_
  refine nt ?_
  refine c_ff eb ?_
  refine wp_exit ?_
  refine then_x ?_
  refine then_x ?_
  refine inb_x ?_
  refine then_n ?_
  refine sr ?_
  refine w_mv (ex (.slice none 0 0) s1_9) ?_
  refine w_mv (ei s1_3) ?_
  refine w_val (v := .slice none 0 0) (y_slnil (ex (.slice none 0 0)) (evo.s ei) Tryd.underlying50 CtrDT.sz5) ?_
  refine w_val (v := .string (str ([] : List (BitVec 8)))) (y_str0 (ex (.slice none 0 0)) Tryd.underlying50 Tryd.underlying5 Tryd.underlying9) ?_
  refine w_as es ?_
  refine nt ?_
  refine wp_ret ?_
  refine fin_ret1 rfl es ?_
  exact ⟨rfl, hk⟩

theorem refStream_y (bx g cap : Nat) (key s : List (BitVec 8)) (d : Nat) (hok : Aes.okKey key.length) (hs : s.length = 16) (h1 : 1 ≤ d) (h16 : d ≤ 16) (n : Nat) (hn0 : 0 < n) (hn : n ≤ 70000) (w0 : World) (r_bx : Row w0 bx 69 513 (fun j => if j < 256 then U8 (Aes.sb j) else if j < 512 then U8 (Aes.bk (j - 256)) else .slice (some ⟨g, 0, none⟩) ((Aes.words key).length) cap)) (r_g : Row w0 g 73 ((Aes.words key).length * 4) (fun j => U8 (Aes.byteOf (Aes.gw (Aes.words key) (j / 4)) (j % 4)))) : Calls Tryd.prog 42 #[pt bx 0, .string (str s), .int .i64 ((d : Nat) : Int), .int .i64 ((n : Nat) : Int)] w0 fun e w' => e = .returned (.string (str (Ct.stream key s d n))) ∧ Below w0.heap.size w0 w' := by
 have hle := fun x => Aes.enc_len key x hok
 refine enter (n := 35) Tryd.func42 rfl rfl rfl ?_
 have hk : Below w0.heap.size w0 w0 := Below.refl _ _
 have lt_bx := r_bx.lt
 have lt_g := r_g.lt
 refine sr ?_
 refine w_as (evc (.string (str ([] : List (BitVec 8))))) ?_
 refine nt ?_
 refine sr ?_
 refine w_as Ev.c ?_
 refine nt ?_
 refine wp_seq ?_
 refine sr ?_
 refine w_as (evc (U64 (0#64))) ?_
 refine nt ?_
 refine wp_block ?_
 refine c_loop (fun dN aN wl => ∃ (i : Nat) (vo : Value), dN = (n + 16 - 16 * i) ∧ ∃ f1, aN = fr 35 f1 ∧ (16 * i < n + 16) ∧ f1 0 = pt bx 0 ∧ f1 1 = .string (str s) ∧ f1 2 = .int .i64 ((d : Nat) : Int) ∧ f1 3 = .int .i64 ((n : Nat) : Int) ∧ f1 8 = .string (str ([] : List (BitVec 8))) ∧ f1 9 = vo ∧ f1 10 = U64 (BitVec.ofNat 64 i) ∧ Row wl bx 69 513 (fun j => if j < 256 then U8 (Aes.sb j) else if j < 512 then U8 (Aes.bk (j - 256)) else .slice (some ⟨g, 0, none⟩) ((Aes.words key).length) cap) ∧ Row wl g 73 ((Aes.words key).length * 4) (fun j => U8 (Aes.byteOf (Aes.gw (Aes.words key) (j / 4)) (j % 4))) ∧ Own wl w0.heap.size 5 1 vo (16 * i) (fun j => U8 (Ct.ks key s d j)) ∧ vo.ownBlock ≠ some bx ∧ vo.ownBlock ≠ some g ∧ Below w0.heap.size w0 wl) (n + 16 - 16 * 0) ?_ ?_
 · exact ⟨0, (.slice none 0 0), rfl, _, rfl, iv, rfl, rfl, rfl, rfl, rfl, (etv (b := .slice none 0 0) rfl), t6, r_bx, r_g, Own.nil, (fun e => by cases e), (fun e => by cases e), hk⟩
 ·skip
  clear r_bx r_g hk
  rintro _ _ w2 ⟨i, vo, rfl, f1, rfl, i1_0, s1_0, s1_1, s1_2, s1_3, s1_8, s1_9, s1_10, r_bx, r_g, o_vo, no_vo_bx, no_vo_g, hk⟩
  have hl_ := hle (Ct.nx s d i)
  refine wp_seq ?_
  refine sr ?_
  refine w_mv (ex vo s1_9) ?_
  refine w_val (v := .int .i64 ((16 * i : Nat) : Int)) (y_len_own (ex vo) o_vo Tryd.underlying50) ?_
  refine w_mv (ei s1_3) ?_
  refine w_val (y_bin ei ei b_lss) ?_
  refine nt ?_
  refine c_if (p := ((16 * i : Nat) : Int) < ((n : Nat) : Int)) eb (fun hc3 => ?_) (fun hc3 => ?_)
  ·skip
   refine wp_skip ?_
   refine then_n ?_
   refine wp_seq ?_
   refine wp_block ?_
   refine sr ?_
   refine w_mv (es s1_1) ?_
   refine w_mv (ei s1_2) ?_
   refine w_mv (e6 s1_10) ?_
   refine w_call (Tryd.func41) (by kernel_rfl) rfl (m3 es ei e6) (refNext_y s d hs h1 h16 i (by omega) w2) ?_
   rintro _ w4 ⟨rfl, hb5⟩
   refine ⟨_, rfl, ?_⟩
   replace o_vo := o_vo.step hb5
   replace r_bx := r_bx.step hb5
   replace r_g := r_g.step hb5
   replace hk := thenB hk hb5
   refine w_mv (ex (.tuple #[.string (str (Ct.nx s d i)), .int .i64 0])) ?_
   refine w_val ye ?_
   refine w_val ye ?_
   refine w_as es ?_
   refine w_as ei ?_
   refine nt ?_
   refine wp_region_lit ?_
   refine w_mv (ex vo s1_9) ?_
   refine w_mv (ex (pt bx 0) s1_0) ?_
   refine w_mv es ?_
   refine w_call (Tryd.func24) (by kernel_rfl) rfl (m2 (ex (pt bx 0)) es) (refEnc_l bx g cap key (Ct.nx s d i) w4 hok (Ct.length_nx s d i hs) r_bx r_g) ?_
   rintro _ w6 ⟨rfl, hb7⟩
   refine ⟨_, rfl, ?_⟩
   replace o_vo := o_vo.step hb7
   replace r_bx := r_bx.step hb7
   replace r_g := r_g.step hb7
   replace hk := thenB hk hb7
   refine w_apps (K0 := 16 * i) (l := Aes.enc (Aes.words key) (Ct.nx s d i)) (ex vo) es Tryd.underlying50 Tryd.underlying9 (by kernel_rfl) o_vo hk.size (by omega) ?_
   intro v8 w9 o_v8 hg10 hv11
   have no_v8_bx := no_new no_vo_bx r_bx.lt hv11
   replace r_bx := r_bx.stepO hg10 no_vo_bx
   have no_v8_g := no_new no_vo_g r_g.lt hv11
   replace r_g := r_g.stepO hg10 no_vo_g
   replace hk := thenO hk hg10 (fun g e => (o_vo.block_lt g e).2)
   clear o_vo
   refine w_as (ex v8) ?_
   refine wpList_nil ?_
   refine inb_n ?_
   refine then_n ?_
   refine wp_region_lit ?_
   refine w_mv (e6 s1_10) ?_
   refine w_val (y_bin e6 (evc (U64 (1#64))) add64) ?_
   refine w_as e6 ?_
   refine wpList_nil ?_
   exact then_n ⟨_, (by omega), i + 1, v8, rfl, _, rfl, iv, s1_0, s1_1, s1_2, s1_3, s1_8, rfl, (Eq.trans (b := U64 ((BitVec.ofNat 64 i) + (1#64))) rfl (by exact congrArg U64 (BitVec.ofNat_add (n := 64) i 1).symm)), r_bx, r_g, (own_n (o_v8.congr (fun j hj => by (try dsimp only); by_cases e : j < 16 * i * 1; (rw [if_pos e]); (rw [if_neg e]; exact congrArg U8 (by unfold Ct.ks; rw [show j / 16 = i from by omega]; congr 1; omega)))) (by omega)), no_v8_bx, no_v8_g, hk⟩
  ·skip
   refine wp_exit ?_
   refine then_x ?_
   refine then_x ?_
   refine inb_x ?_
   refine then_n ?_
   refine wp_seq ?_
   obtain ⟨g12, cap12, hv12, ge_g12, hc_g12, hob_g12, r_g12⟩ := o_vo.opened (by omega)
   have ne_bx_g12 : bx ≠ g12 := fun e => no_vo_bx (by rw [hob_g12, e])
   have ne_g_g12 : g ≠ g12 := fun e => no_vo_g (by rw [hob_g12, e])
   refine wp_region_lit ?_
   refine w_mv (ex vo s1_9) ?_
   refine w_mv (ei s1_3) ?_
   refine w_val (v := .slice (some ⟨g12, 0, none⟩) n cap12) (y_slh (ex (.slice (some ⟨g12, 0, none⟩) (16 * i) cap12) (Eq.trans (b := vo) rfl hv12)) (evo.s ei) Tryd.underlying50 (bnd_h (h := n) (by omega) (by omega)) CtrDT.sz5) ?_
   refine w_val (y_str (l := Ct.stream key s d n) el (by rw [Ct.length_stream]) Tryd.underlying50 Tryd.underlying5 Tryd.underlying9 (fun j hj => (r_g12.val (by omega) (by rw [Nat.zero_add, Ct.gb_stream _ _ _ _ _ (by omega)])))) ?_
   refine w_as es ?_
   refine nt ?_
   refine wp_ret ?_
   refine fin_ret1 rfl es ?_
   exact ⟨rfl, hk⟩
end Go.Proofs.YtkjdejadambffaaDoor
