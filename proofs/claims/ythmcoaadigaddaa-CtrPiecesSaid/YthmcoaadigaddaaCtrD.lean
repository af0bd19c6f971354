/-
  Counters: the reference. Conditions as each says.
-/
import Derived.Test.YthmcoaadigaddaaRows
import Derived.Test.YthmcoaadigaddaaCtrC
import Derived.ProofKit
namespace Go.Proofs.Ythmcoaadigaddaa
open Go.RowKit
set_option linter.unusedSimpArgs false
set_option linter.unusedVariables false
namespace CtrDT
theorem mixed : Try.prog.follows .mixedOrders = true := by kernel_rfl
theorem sc3 : (Try.prog.underlying 3).map scal = some true := by rw [Try.underlying3]; rfl
theorem sc44 : (Try.prog.underlying 44).map scal = some true := by rw [Try.underlying44]; rfl
theorem sc5 : (Try.prog.underlying 5).map scal = some true := by rw [Try.underlying5]; rfl
theorem sc9 : (Try.prog.underlying 9).map scal = some true := by rw [Try.underlying9]; rfl
theorem sz5 : (Try.prog.info? 5).map (·.size) = some 1 := by kernel_rfl
theorem sz9 : (Try.prog.info? 9).map (·.size) = some 1 := by kernel_rfl
end CtrDT
set_option maxRecDepth 100000 in
set_option maxHeartbeats 1000000 in
theorem refStream_0 (bx g cap : Nat) (key s : List (BitVec 8)) (d : Nat) (hok : Aes.okKey key.length) (hs : s.length = 16) (h1 : 1 ≤ d) (h16 : d ≤ 16) (w0 : World) (r_bx : Row w0 bx 88 513 (fun j => if j < 256 then U8 (Aes.sb j) else if j < 512 then U8 (Aes.bk (j - 256)) else .slice (some ⟨g, 0, none⟩) ((Aes.words key).length) cap)) (r_g : Row w0 g 92 ((Aes.words key).length * 4) (fun j => U8 (Aes.byteOf (Aes.gw (Aes.words key) (j / 4)) (j % 4)))) : Calls Try.prog 39 #[.pointer (some ⟨bx, 0, none⟩), .string (str s), .int .i64 ((d : Nat) : Int), .int .i64 0] w0 fun e w' => e = .returned (.string (str ([] : List (BitVec 8)))) ∧ Below w0.heap.size w0 w' := by
  refine enter (n := 35) Try.func39 rfl rfl rfl ?_
  have hk : Below w0.heap.size w0 w0 := Below.refl _ _
  have lt_bx := r_bx.lt
  have lt_g := r_g.lt
  refine wp_seq ?_
  refine wp_region_lit ?_
  refine w_val (v := .string (str ([] : List (BitVec 8)))) (y_as (Ev.c (v := .string (str ([] : List (BitVec 8)))))) ?_
  refine wpList_nil ?_
  refine then_n ?_
  refine wp_seq ?_
  refine wp_region_lit ?_
  refine w_val (v := .slice none 0 0) (y_as (Ev.c (v := .slice none 0 0))) ?_
  refine wpList_nil ?_
  refine then_n ?_
  refine wp_seq ?_
  refine wp_seq ?_
  refine wp_region_lit ?_
  refine w_val (v := U64 (0#64)) (y_as (Ev.c (v := U64 (0#64)))) ?_
  refine wpList_nil ?_
  refine then_n ?_
  refine wp_block ?_
  refine c_loop (fun dN aN wl => dN = 0 ∧ ∃ f1, aN = fr 35 f1 ∧ f1 0 = .pointer (some ⟨bx, 0, none⟩) ∧ f1 1 = .string (str s) ∧ f1 2 = .int .i64 ((d : Nat) : Int) ∧ f1 3 = .int .i64 0 ∧ f1 8 = .string (str ([] : List (BitVec 8))) ∧ f1 9 = .slice none 0 0 ∧ Row wl bx 88 513 (fun j => if j < 256 then U8 (Aes.sb j) else if j < 512 then U8 (Aes.bk (j - 256)) else .slice (some ⟨g, 0, none⟩) ((Aes.words key).length) cap) ∧ Row wl g 92 ((Aes.words key).length * 4) (fun j => U8 (Aes.byteOf (Aes.gw (Aes.words key) (j / 4)) (j % 4))) ∧ Below w0.heap.size w0 wl) 0 ?_ ?_
  · exact ⟨rfl, _, rfl, rfl, rfl, rfl, rfl, rfl, rfl, r_bx, r_g, hk⟩
  · skip
    clear r_bx r_g hk
    rintro _ _ w2 ⟨rfl, f1, rfl, s1_0, s1_1, s1_2, s1_3, s1_8, s1_9, r_bx, r_g, hk⟩
    refine wp_seq ?_
    refine wp_seq ?_
    refine wp_region_lit ?_
    refine w_val (v := .slice none 0 0) (y_mv (Ev.t (v := .slice none 0 0) s1_9 rfl)) ?_
    refine w_val (v := .int .i64 0) (y_len_sl (Ev.t (v := .slice none 0 0) rfl rfl) Try.underlying47) ?_
    refine w_val (v := .int .i64 0) (y_mv (Ev.t (v := .int .i64 0) s1_3 rfl)) ?_
    refine w_val (v := .bool false) (y_bin (Ev.t (v := .int .i64 0) rfl rfl) (Ev.t (v := .int .i64 0) rfl rfl) b_lss) ?_
    refine wpList_nil ?_
    refine then_n ?_
    refine c_ff (Ev.t (v := .bool false) rfl rfl) ?_
    refine wp_exit ?_
    refine then_x ?_
    refine then_x ?_
    refine inb_x ?_
    refine then_n ?_
    refine wp_seq ?_
    refine wp_region_lit ?_
    refine w_val (v := .slice none 0 0) (y_mv (Ev.t (v := .slice none 0 0) s1_9 rfl)) ?_
    refine w_val (v := .int .i64 0) (y_mv (Ev.t (v := .int .i64 0) s1_3 rfl)) ?_
    refine w_val (v := .slice none 0 0) (y_slnil (Ev.t (v := .slice none 0 0) rfl rfl) (evo.s (Ev.t (v := .int .i64 0) rfl rfl)) Try.underlying47 CtrDT.sz5) ?_
    refine w_val (v := .string (str ([] : List (BitVec 8)))) (y_str0 (Ev.t (v := .slice none 0 0) rfl rfl) Try.underlying47 Try.underlying5 Try.underlying9) ?_
    refine w_val (v := .string (str ([] : List (BitVec 8)))) (y_as (Ev.t (v := .string (str ([] : List (BitVec 8)))) rfl rfl)) ?_
    refine wpList_nil ?_
    refine then_n ?_
    refine wp_ret ?_
    refine fin_ret1 rfl (Ev.t (v := .string (str ([] : List (BitVec 8)))) rfl rfl) ?_
    exact ⟨rfl, hk⟩

set_option maxRecDepth 100000 in
set_option maxHeartbeats 1000000 in
theorem refStream_y (bx g cap : Nat) (key s : List (BitVec 8)) (d : Nat) (hok : Aes.okKey key.length) (hs : s.length = 16) (h1 : 1 ≤ d) (h16 : d ≤ 16) (n : Nat) (hn0 : 0 < n) (hn : n ≤ 70000) (w0 : World) (r_bx : Row w0 bx 88 513 (fun j => if j < 256 then U8 (Aes.sb j) else if j < 512 then U8 (Aes.bk (j - 256)) else .slice (some ⟨g, 0, none⟩) ((Aes.words key).length) cap)) (r_g : Row w0 g 92 ((Aes.words key).length * 4) (fun j => U8 (Aes.byteOf (Aes.gw (Aes.words key) (j / 4)) (j % 4)))) : Calls Try.prog 39 #[.pointer (some ⟨bx, 0, none⟩), .string (str s), .int .i64 ((d : Nat) : Int), .int .i64 ((n : Nat) : Int)] w0 fun e w' => e = .returned (.string (str (Ct.stream key s d n))) ∧ Below w0.heap.size w0 w' := by
  have hle := fun x => Aes.enc_len key x hok
  refine enter (n := 35) Try.func39 rfl rfl rfl ?_
  have hk : Below w0.heap.size w0 w0 := Below.refl _ _
  have lt_bx := r_bx.lt
  have lt_g := r_g.lt
  refine wp_seq ?_
  refine wp_region_lit ?_
  refine w_val (v := .string (str ([] : List (BitVec 8)))) (y_as (Ev.c (v := .string (str ([] : List (BitVec 8)))))) ?_
  refine wpList_nil ?_
  refine then_n ?_
  refine wp_seq ?_
  refine wp_region_lit ?_
  refine w_val (v := .slice none 0 0) (y_as (Ev.c (v := .slice none 0 0))) ?_
  refine wpList_nil ?_
  refine then_n ?_
  refine wp_seq ?_
  refine wp_seq ?_
  refine wp_region_lit ?_
  refine w_val (v := U64 (0#64)) (y_as (Ev.c (v := U64 (0#64)))) ?_
  refine wpList_nil ?_
  refine then_n ?_
  refine wp_block ?_
  refine c_loop (fun dN aN wl => ∃ (i : Nat) (vo : Value), dN = (n + 16 - 16 * i) ∧ ∃ f1, aN = fr 35 f1 ∧ (16 * i < n + 16) ∧ f1 0 = .pointer (some ⟨bx, 0, none⟩) ∧ f1 1 = .string (str s) ∧ f1 2 = .int .i64 ((d : Nat) : Int) ∧ f1 3 = .int .i64 ((n : Nat) : Int) ∧ f1 8 = .string (str ([] : List (BitVec 8))) ∧ f1 9 = vo ∧ f1 10 = U64 (BitVec.ofNat 64 i) ∧ Row wl bx 88 513 (fun j => if j < 256 then U8 (Aes.sb j) else if j < 512 then U8 (Aes.bk (j - 256)) else .slice (some ⟨g, 0, none⟩) ((Aes.words key).length) cap) ∧ Row wl g 92 ((Aes.words key).length * 4) (fun j => U8 (Aes.byteOf (Aes.gw (Aes.words key) (j / 4)) (j % 4))) ∧ Own wl w0.heap.size 5 1 vo (16 * i) (fun j => U8 (Ct.ks key s d j)) ∧ vo.ownBlock ≠ some bx ∧ vo.ownBlock ≠ some g ∧ Below w0.heap.size w0 wl) (n + 16 - 16 * 0) ?_ ?_
  · exact ⟨0, (.slice none 0 0), rfl, _, rfl, (by first | omega | with_reducible rfl | assumption | trivial | exact ⟨rfl, rfl⟩ | simp), rfl, rfl, rfl, rfl, rfl, (Eq.trans (b := .slice none 0 0) rfl (by first | with_reducible rfl | (with_reducible congr 1 <;> omega) | (with_reducible congr 2 <;> omega) | (with_reducible congr 3 <;> omega) | rfl)), (Eq.trans (b := U64 (0#64)) rfl (by first | with_reducible rfl | (with_reducible congr 1 <;> omega) | (with_reducible congr 2 <;> omega) | (with_reducible congr 3 <;> omega) | rfl)), r_bx, r_g, Own.nil, (fun e => by cases e), (fun e => by cases e), hk⟩
  · skip
    clear r_bx r_g hk
    rintro _ _ w2 ⟨i, vo, rfl, f1, rfl, i1_0, s1_0, s1_1, s1_2, s1_3, s1_8, s1_9, s1_10, r_bx, r_g, o_vo, no_vo_bx, no_vo_g, hk⟩
    have hl_ := hle (Ct.nx s d i)
    refine wp_seq ?_
    refine wp_seq ?_
    refine wp_region_lit ?_
    refine w_val (v := vo) (y_mv (Ev.t (v := vo) s1_9 rfl)) ?_
    refine w_val (v := .int .i64 ((16 * i : Nat) : Int)) (y_len_own (Ev.t (v := vo) rfl rfl) o_vo Try.underlying47) ?_
    refine w_val (v := .int .i64 ((n : Nat) : Int)) (y_mv (Ev.t (v := .int .i64 ((n : Nat) : Int)) s1_3 rfl)) ?_
    refine w_val (v := .bool (decide (((16 * i : Nat) : Int) < ((n : Nat) : Int)))) (y_bin (Ev.t (v := .int .i64 ((16 * i : Nat) : Int)) rfl rfl) (Ev.t (v := .int .i64 ((n : Nat) : Int)) rfl rfl) b_lss) ?_
    refine wpList_nil ?_
    refine then_n ?_
    refine c_if (p := ((16 * i : Nat) : Int) < ((n : Nat) : Int)) (Ev.t (v := .bool (decide (((16 * i : Nat) : Int) < ((n : Nat) : Int)))) rfl rfl) (fun hc3 => ?_) (fun hc3 => ?_)
    · skip
      refine wp_skip ?_
      refine then_n ?_
      refine wp_seq ?_
      refine wp_block ?_
      refine wp_seq ?_
      refine wp_region_lit ?_
      refine w_val (v := .string (str s)) (y_mv (Ev.t (v := .string (str s)) s1_1 rfl)) ?_
      refine w_val (v := .int .i64 ((d : Nat) : Int)) (y_mv (Ev.t (v := .int .i64 ((d : Nat) : Int)) s1_2 rfl)) ?_
      refine w_val (v := U64 (BitVec.ofNat 64 i)) (y_mv (Ev.t (v := U64 (BitVec.ofNat 64 i)) s1_10 rfl)) ?_
      refine w_call (Try.func20) (by kernel_rfl) rfl (m3 (Ev.t (v := .string (str s)) rfl rfl) (Ev.t (v := .int .i64 ((d : Nat) : Int)) rfl rfl) (Ev.t (v := U64 (BitVec.ofNat 64 i)) rfl rfl)) (refNext_y s d hs h1 h16 i (by omega) w2) ?_
      rintro _ w4 ⟨rfl, hb5⟩
      refine ⟨_, rfl, ?_⟩
      replace o_vo := o_vo.step hb5
      replace r_bx := r_bx.step hb5
      replace r_g := r_g.step hb5
      replace hk := thenB hk hb5
      refine w_val (v := .tuple #[.string (str (Ct.nx s d i)), .int .i64 0]) (y_mv (Ev.t (v := .tuple #[.string (str (Ct.nx s d i)), .int .i64 0]) rfl rfl)) ?_
      refine w_val (v := .string (str (Ct.nx s d i))) (y_ext (v := .string (str (Ct.nx s d i))) (Ev.t (v := .tuple #[.string (str (Ct.nx s d i)), .int .i64 0]) rfl rfl) rfl) ?_
      refine w_val (v := .int .i64 0) (y_ext (v := .int .i64 0) (Ev.t (v := .tuple #[.string (str (Ct.nx s d i)), .int .i64 0]) rfl rfl) rfl) ?_
      refine w_val (v := .string (str (Ct.nx s d i))) (y_as (Ev.t (v := .string (str (Ct.nx s d i))) rfl rfl)) ?_
      refine w_val (v := .int .i64 0) (y_as (Ev.t (v := .int .i64 0) rfl rfl)) ?_
      refine wpList_nil ?_
      refine then_n ?_
      refine wp_region_lit ?_
      refine w_val (v := vo) (y_mv (Ev.t (v := vo) s1_9 rfl)) ?_
      refine w_val (v := .pointer (some ⟨bx, 0, none⟩)) (y_mv (Ev.t (v := .pointer (some ⟨bx, 0, none⟩)) s1_0 rfl)) ?_
      refine w_val (v := .string (str (Ct.nx s d i))) (y_mv (Ev.t (v := .string (str (Ct.nx s d i))) rfl rfl)) ?_
      refine w_call (Try.func29) (by kernel_rfl) rfl (m2 (Ev.t (v := .pointer (some ⟨bx, 0, none⟩)) rfl rfl) (Ev.t (v := .string (str (Ct.nx s d i))) rfl rfl)) (refEnc_l bx g cap key (Ct.nx s d i) w4 hok (Ct.length_nx s d i hs) r_bx r_g) ?_
      rintro _ w6 ⟨rfl, hb7⟩
      refine ⟨_, rfl, ?_⟩
      replace o_vo := o_vo.step hb7
      replace r_bx := r_bx.step hb7
      replace r_g := r_g.step hb7
      replace hk := thenB hk hb7
      refine w_apps (K0 := 16 * i) (l := Aes.enc (Aes.words key) (Ct.nx s d i)) (Ev.t (v := vo) rfl rfl) (Ev.t (v := .string (str (Aes.enc (Aes.words key) (Ct.nx s d i)))) rfl rfl) Try.underlying47 Try.underlying9 (by kernel_rfl) o_vo hk.size (by omega) ?_
      intro v8 w9 o_v8 hg10 hv11
      have no_v8_bx := no_new no_vo_bx r_bx.lt hv11
      replace r_bx := r_bx.stepO hg10 no_vo_bx
      have no_v8_g := no_new no_vo_g r_g.lt hv11
      replace r_g := r_g.stepO hg10 no_vo_g
      replace hk := thenO hk hg10 (fun g e => (o_vo.block_lt g e).2)
      clear o_vo
      refine w_val (v := v8) (y_as (Ev.t (v := v8) rfl rfl)) ?_
      refine wpList_nil ?_
      refine inb_n ?_
      refine then_n ?_
      refine wp_region_lit ?_
      refine w_val (v := U64 (BitVec.ofNat 64 i)) (y_mv (Ev.t (v := U64 (BitVec.ofNat 64 i)) s1_10 rfl)) ?_
      refine w_val (v := U64 ((BitVec.ofNat 64 i) + (1#64))) (y_bin (Ev.t (v := U64 (BitVec.ofNat 64 i)) rfl rfl) (Ev.c (v := U64 (1#64))) add64) ?_
      refine w_val (v := U64 ((BitVec.ofNat 64 i) + (1#64))) (y_as (Ev.t (v := U64 ((BitVec.ofNat 64 i) + (1#64))) rfl rfl)) ?_
      refine wpList_nil ?_
      exact then_n ⟨_, (by omega), i + 1, v8, rfl, _, rfl, (by first | omega | with_reducible rfl | assumption | trivial | simp), s1_0, s1_1, s1_2, s1_3, s1_8, rfl, (Eq.trans (b := U64 ((BitVec.ofNat 64 i) + (1#64))) rfl (by exact congrArg U64 (BitVec.ofNat_add (n := 64) i 1).symm)), r_bx, r_g, (own_n (o_v8.congr (fun j hj => by (try dsimp only); by_cases e : j < 16 * i * 1; (rw [if_pos e]); (rw [if_neg e]; exact congrArg U8 (by unfold Ct.ks; rw [show j / 16 = i from by omega]; congr 1; omega)))) (by omega)), no_v8_bx, no_v8_g, hk⟩
    · skip
      refine wp_exit ?_
      refine then_x ?_
      refine then_x ?_
      refine inb_x ?_
      refine then_n ?_
      refine wp_seq ?_
      obtain ⟨g12, cap12, hv12, ge_g12, hc_g12, hob_g12, r_g12⟩ := o_vo.opened (by omega)
      have ne_bx_g12 : bx ≠ g12 := fun e => no_vo_bx (by rw [hob_g12, e])
      have ne_g_g12 : g ≠ g12 := fun e => no_vo_g (by rw [hob_g12, e])
      refine wp_region_lit ?_
      refine w_val (v := .slice (some ⟨g12, 0, none⟩) (16 * i) cap12) (y_mv (Ev.t (v := .slice (some ⟨g12, 0, none⟩) (16 * i) cap12) (Eq.trans (b := vo) s1_9 hv12) rfl)) ?_
      refine w_val (v := .int .i64 ((n : Nat) : Int)) (y_mv (Ev.t (v := .int .i64 ((n : Nat) : Int)) s1_3 rfl)) ?_
      refine w_val (v := .slice (some ⟨g12, 0, none⟩) n cap12) (y_slh (Ev.t (v := .slice (some ⟨g12, 0, none⟩) (16 * i) cap12) rfl rfl) (evo.s (Ev.t (v := .int .i64 ((n : Nat) : Int)) rfl rfl)) Try.underlying47 (bnd_h (h := n) (by omega) (by omega)) CtrDT.sz5) ?_
      refine w_val (v := .string (str (Ct.stream key s d n))) (y_str (l := Ct.stream key s d n) (Ev.t (v := .slice (some ⟨g12, 0, none⟩) n cap12) rfl rfl) (by rw [Ct.length_stream]) Try.underlying47 Try.underlying5 Try.underlying9 (fun j hj => (r_g12.val (by omega) (by rw [Nat.zero_add, Ct.gb_stream _ _ _ _ _ (by omega)])))) ?_
      refine w_val (v := .string (str (Ct.stream key s d n))) (y_as (Ev.t (v := .string (str (Ct.stream key s d n))) rfl rfl)) ?_
      refine wpList_nil ?_
      refine then_n ?_
      refine wp_ret ?_
      refine fin_ret1 rfl (Ev.t (v := .string (str (Ct.stream key s d n))) rfl rfl) ?_
      exact ⟨rfl, hk⟩

set_option maxRecDepth 100000 in
set_option maxHeartbeats 1000000 in
theorem refCtr_y0 (key text : List (BitVec 8)) (hok : Aes.okKey key.length) (s : List (BitVec 8)) (d : Nat) (hs : s.length = 16) (h1 : 1 ≤ d) (h16 : d ≤ 16) (ht : text.length = 0) (w0 : World) : Calls Try.prog 22 #[.string (str key), .string (str s), .int .i64 ((d : Nat) : Int), .string (str text)] w0 fun e w' => e = .returned (.tuple #[.string (str (Ct.x key s d text)), .int .i64 0]) ∧ Below w0.heap.size w0 w' := by
  refine enter (n := 36) Try.func22 rfl rfl rfl ?_
  have hk : Below w0.heap.size w0 w0 := Below.refl _ _
  refine wp_seq ?_
  refine wp_region_lit ?_
  refine w_val (v := .string (str ([] : List (BitVec 8)))) (y_as (Ev.c (v := .string (str ([] : List (BitVec 8)))))) ?_
  refine w_val (v := .int .i64 0) (y_as (Ev.c (v := .int .i64 0))) ?_
  refine wpList_nil ?_
  refine then_n ?_
  refine wp_seq ?_
  refine wp_seq ?_
  refine wp_region_lit ?_
  refine w_val (v := .string (str key)) (y_mv (Ev.t (v := .string (str key)) rfl rfl)) ?_
  refine w_call (Try.func27) (by kernel_rfl) rfl (m1 (Ev.t (v := .string (str key)) rfl rfl)) (right_l key w0 hok) ?_
  rintro _ _ ⟨rfl, rfl⟩
  refine ⟨_, rfl, ?_⟩
  refine w_val (v := .bool false) (y_not (Ev.t (v := .bool true) rfl rfl)) ?_
  refine wpList_nil ?_
  refine then_n ?_
  refine c_ff (Ev.t (v := .bool false) rfl rfl) ?_
  refine wp_skip ?_
  refine then_n ?_
  refine wp_seq ?_
  refine wp_seq ?_
  refine wp_region_lit ?_
  refine w_val (v := .string (str s)) (y_mv (Ev.t (v := .string (str s)) rfl rfl)) ?_
  refine w_val (v := .int .i64 ((d : Nat) : Int)) (y_mv (Ev.t (v := .int .i64 ((d : Nat) : Int)) rfl rfl)) ?_
  refine w_call (Try.func20) (by kernel_rfl) rfl (m3 (Ev.t (v := .string (str s)) rfl rfl) (Ev.t (v := .int .i64 ((d : Nat) : Int)) rfl rfl) (Ev.c (v := U64 (0#64)))) (refNext_y s d hs h1 h16 0 (by omega) w0) ?_
  rintro _ w2 ⟨rfl, hb3⟩
  refine ⟨_, rfl, ?_⟩
  replace hk := thenB hk hb3
  refine w_val (v := .tuple #[.string (str (Ct.nx s d 0)), .int .i64 0]) (y_mv (Ev.t (v := .tuple #[.string (str (Ct.nx s d 0)), .int .i64 0]) rfl rfl)) ?_
  refine w_val (v := .string (str (Ct.nx s d 0))) (y_ext (v := .string (str (Ct.nx s d 0))) (Ev.t (v := .tuple #[.string (str (Ct.nx s d 0)), .int .i64 0]) rfl rfl) rfl) ?_
  refine w_val (v := .int .i64 0) (y_ext (v := .int .i64 0) (Ev.t (v := .tuple #[.string (str (Ct.nx s d 0)), .int .i64 0]) rfl rfl) rfl) ?_
  refine w_val (v := .string (str (Ct.nx s d 0))) (y_as (Ev.t (v := .string (str (Ct.nx s d 0))) rfl rfl)) ?_
  refine w_val (v := .int .i64 0) (y_as (Ev.t (v := .int .i64 0) rfl rfl)) ?_
  refine wpList_nil ?_
  refine then_n ?_
  refine wp_seq ?_
  refine wp_region_lit ?_
  refine w_val (v := .int .i64 0) (y_mv (Ev.t (v := .int .i64 0) rfl rfl)) ?_
  refine w_val (v := .bool false) (y_bin (Ev.t (v := .int .i64 0) rfl rfl) (Ev.c (v := .int .i64 0)) b_neq) ?_
  refine wpList_nil ?_
  refine then_n ?_
  refine c_ff (Ev.t (v := .bool false) rfl rfl) ?_
  refine wp_skip ?_
  refine then_n ?_
  refine wp_seq ?_
  refine wp_seq ?_
  refine wp_region_lit ?_
  refine w_val (v := .string (str text)) (y_mv (Ev.t (v := .string (str text)) rfl rfl)) ?_
  refine w_val (v := .int .i64 ((text.length : Nat) : Int)) (y_len (Ev.t (v := .string (str text)) rfl rfl) Try.underlying9) ?_
  refine w_val (v := .bool (decide (70000 < ((text.length : Nat) : Int)))) (y_bin (Ev.t (v := .int .i64 ((text.length : Nat) : Int)) rfl rfl) (Ev.c (v := .int .i64 70000)) b_gtr) ?_
  refine wpList_nil ?_
  refine then_n ?_
  have hc4 : ¬ (70000 < ((text.length : Nat) : Int)) := by omega
  refine c_f (p := 70000 < ((text.length : Nat) : Int)) (Ev.t (v := .bool (decide (70000 < ((text.length : Nat) : Int)))) rfl rfl) hc4 ?_
  refine wp_skip ?_
  refine then_n ?_
  refine wp_seq ?_
  refine wp_region_lit ?_
  refine w_val (v := .string (str text)) (y_mv (Ev.t (v := .string (str text)) rfl rfl)) ?_
  refine w_val (v := .string (str key)) (y_mv (Ev.t (v := .string (str key)) rfl rfl)) ?_
  refine w_call (Try.func28) (by kernel_rfl) rfl (m1 (Ev.t (v := .string (str key)) rfl rfl)) (refNew_l key w2 hok) ?_
  rintro _ w5 ⟨bx, g, cap, rfl, hbn, hge_bx, hge_g, r_bx, r_g⟩
  refine ⟨_, rfl, ?_⟩
  have ge_bx : w0.heap.size ≤ bx := by have := hk.size; omega
  have ge_g : w0.heap.size ≤ g := by have := hk.size; omega
  replace hk := thenB hk hbn
  refine w_val (v := .string (str s)) (y_mv (Ev.t (v := .string (str s)) rfl rfl)) ?_
  refine w_val (v := .int .i64 ((d : Nat) : Int)) (y_mv (Ev.t (v := .int .i64 ((d : Nat) : Int)) rfl rfl)) ?_
  refine w_val (v := .string (str text)) (y_mv (Ev.t (v := .string (str text)) rfl rfl)) ?_
  refine w_val (v := .int .i64 0) ((congrArg (fun m : Nat => Value.int .i64 m) ht) ▸ y_len (Ev.t (v := .string (str text)) rfl rfl) Try.underlying9) ?_
  refine w_call (Try.func39) (by kernel_rfl) rfl (m4 (Ev.t (v := .pointer (some ⟨bx, 0, none⟩)) rfl rfl) (Ev.t (v := .string (str s)) rfl rfl) (Ev.t (v := .int .i64 ((d : Nat) : Int)) rfl rfl) (Ev.t (v := .int .i64 0) rfl rfl)) (refStream_0 bx g cap key s d hok hs h1 h16 w5 r_bx r_g) ?_
  rintro _ w6 ⟨rfl, hb7⟩
  refine ⟨_, rfl, ?_⟩
  replace r_bx := r_bx.step hb7
  replace r_g := r_g.step hb7
  replace hk := thenB hk hb7
  refine w_call (Try.func30) (by kernel_rfl) rfl (m2 (Ev.t (v := .string (str text)) rfl rfl) (Ev.t (v := .string (str ([] : List (BitVec 8)))) rfl rfl)) (refXor_c text ([] : List (BitVec 8)) (by omega) w6) ?_
  rintro _ w8 ⟨rfl, hb9⟩
  refine ⟨_, rfl, ?_⟩
  replace r_bx := r_bx.step hb9
  replace r_g := r_g.step hb9
  replace hk := thenB hk hb9
  refine w_val (v := .string (str (Oct.xor text ([] : List (BitVec 8))))) (y_as (Ev.t (v := .string (str (Oct.xor text ([] : List (BitVec 8))))) rfl rfl)) ?_
  refine w_val (v := .int .i64 0) (y_as (Ev.c (v := .int .i64 0))) ?_
  refine wpList_nil ?_
  refine then_n ?_
  refine wp_ret ?_
  refine fin_ret2 rfl (Ev.t (v := .string (str (Oct.xor text ([] : List (BitVec 8))))) rfl rfl) (Ev.t (v := .int .i64 0) rfl rfl) ?_
  refine ⟨congrArg Ending.returned ?_, hk⟩
  show (.tuple #[.string (str (Oct.xor text ([] : List (BitVec 8)))), .int .i64 0] : Value) = .tuple #[.string (str (Ct.x key s d text)), .int .i64 0]
  unfold Ct.x Ct.stream; rw [ht]; rfl

set_option maxRecDepth 100000 in
set_option maxHeartbeats 1000000 in
theorem refCtr_yy (key text : List (BitVec 8)) (hok : Aes.okKey key.length) (s : List (BitVec 8)) (d : Nat) (hs : s.length = 16) (h1 : 1 ≤ d) (h16 : d ≤ 16) (h0 : 0 < text.length) (ht : text.length ≤ 70000) (w0 : World) : Calls Try.prog 22 #[.string (str key), .string (str s), .int .i64 ((d : Nat) : Int), .string (str text)] w0 fun e w' => e = .returned (.tuple #[.string (str (Ct.x key s d text)), .int .i64 0]) ∧ Below w0.heap.size w0 w' := by
  refine enter (n := 36) Try.func22 rfl rfl rfl ?_
  have hk : Below w0.heap.size w0 w0 := Below.refl _ _
  refine wp_seq ?_
  refine wp_region_lit ?_
  refine w_val (v := .string (str ([] : List (BitVec 8)))) (y_as (Ev.c (v := .string (str ([] : List (BitVec 8)))))) ?_
  refine w_val (v := .int .i64 0) (y_as (Ev.c (v := .int .i64 0))) ?_
  refine wpList_nil ?_
  refine then_n ?_
  refine wp_seq ?_
  refine wp_seq ?_
  refine wp_region_lit ?_
  refine w_val (v := .string (str key)) (y_mv (Ev.t (v := .string (str key)) rfl rfl)) ?_
  refine w_call (Try.func27) (by kernel_rfl) rfl (m1 (Ev.t (v := .string (str key)) rfl rfl)) (right_l key w0 hok) ?_
  rintro _ _ ⟨rfl, rfl⟩
  refine ⟨_, rfl, ?_⟩
  refine w_val (v := .bool false) (y_not (Ev.t (v := .bool true) rfl rfl)) ?_
  refine wpList_nil ?_
  refine then_n ?_
  refine c_ff (Ev.t (v := .bool false) rfl rfl) ?_
  refine wp_skip ?_
  refine then_n ?_
  refine wp_seq ?_
  refine wp_seq ?_
  refine wp_region_lit ?_
  refine w_val (v := .string (str s)) (y_mv (Ev.t (v := .string (str s)) rfl rfl)) ?_
  refine w_val (v := .int .i64 ((d : Nat) : Int)) (y_mv (Ev.t (v := .int .i64 ((d : Nat) : Int)) rfl rfl)) ?_
  refine w_call (Try.func20) (by kernel_rfl) rfl (m3 (Ev.t (v := .string (str s)) rfl rfl) (Ev.t (v := .int .i64 ((d : Nat) : Int)) rfl rfl) (Ev.c (v := U64 (0#64)))) (refNext_y s d hs h1 h16 0 (by omega) w0) ?_
  rintro _ w2 ⟨rfl, hb3⟩
  refine ⟨_, rfl, ?_⟩
  replace hk := thenB hk hb3
  refine w_val (v := .tuple #[.string (str (Ct.nx s d 0)), .int .i64 0]) (y_mv (Ev.t (v := .tuple #[.string (str (Ct.nx s d 0)), .int .i64 0]) rfl rfl)) ?_
  refine w_val (v := .string (str (Ct.nx s d 0))) (y_ext (v := .string (str (Ct.nx s d 0))) (Ev.t (v := .tuple #[.string (str (Ct.nx s d 0)), .int .i64 0]) rfl rfl) rfl) ?_
  refine w_val (v := .int .i64 0) (y_ext (v := .int .i64 0) (Ev.t (v := .tuple #[.string (str (Ct.nx s d 0)), .int .i64 0]) rfl rfl) rfl) ?_
  refine w_val (v := .string (str (Ct.nx s d 0))) (y_as (Ev.t (v := .string (str (Ct.nx s d 0))) rfl rfl)) ?_
  refine w_val (v := .int .i64 0) (y_as (Ev.t (v := .int .i64 0) rfl rfl)) ?_
  refine wpList_nil ?_
  refine then_n ?_
  refine wp_seq ?_
  refine wp_region_lit ?_
  refine w_val (v := .int .i64 0) (y_mv (Ev.t (v := .int .i64 0) rfl rfl)) ?_
  refine w_val (v := .bool false) (y_bin (Ev.t (v := .int .i64 0) rfl rfl) (Ev.c (v := .int .i64 0)) b_neq) ?_
  refine wpList_nil ?_
  refine then_n ?_
  refine c_ff (Ev.t (v := .bool false) rfl rfl) ?_
  refine wp_skip ?_
  refine then_n ?_
  refine wp_seq ?_
  refine wp_seq ?_
  refine wp_region_lit ?_
  refine w_val (v := .string (str text)) (y_mv (Ev.t (v := .string (str text)) rfl rfl)) ?_
  refine w_val (v := .int .i64 ((text.length : Nat) : Int)) (y_len (Ev.t (v := .string (str text)) rfl rfl) Try.underlying9) ?_
  refine w_val (v := .bool (decide (70000 < ((text.length : Nat) : Int)))) (y_bin (Ev.t (v := .int .i64 ((text.length : Nat) : Int)) rfl rfl) (Ev.c (v := .int .i64 70000)) b_gtr) ?_
  refine wpList_nil ?_
  refine then_n ?_
  have hc4 : ¬ (70000 < ((text.length : Nat) : Int)) := by omega
  refine c_f (p := 70000 < ((text.length : Nat) : Int)) (Ev.t (v := .bool (decide (70000 < ((text.length : Nat) : Int)))) rfl rfl) hc4 ?_
  refine wp_skip ?_
  refine then_n ?_
  refine wp_seq ?_
  refine wp_region_lit ?_
  refine w_val (v := .string (str text)) (y_mv (Ev.t (v := .string (str text)) rfl rfl)) ?_
  refine w_val (v := .string (str key)) (y_mv (Ev.t (v := .string (str key)) rfl rfl)) ?_
  refine w_call (Try.func28) (by kernel_rfl) rfl (m1 (Ev.t (v := .string (str key)) rfl rfl)) (refNew_l key w2 hok) ?_
  rintro _ w5 ⟨bx, g, cap, rfl, hbn, hge_bx, hge_g, r_bx, r_g⟩
  refine ⟨_, rfl, ?_⟩
  have ge_bx : w0.heap.size ≤ bx := by have := hk.size; omega
  have ge_g : w0.heap.size ≤ g := by have := hk.size; omega
  replace hk := thenB hk hbn
  refine w_val (v := .string (str s)) (y_mv (Ev.t (v := .string (str s)) rfl rfl)) ?_
  refine w_val (v := .int .i64 ((d : Nat) : Int)) (y_mv (Ev.t (v := .int .i64 ((d : Nat) : Int)) rfl rfl)) ?_
  refine w_val (v := .string (str text)) (y_mv (Ev.t (v := .string (str text)) rfl rfl)) ?_
  refine w_val (v := .int .i64 ((text.length : Nat) : Int)) (y_len (Ev.t (v := .string (str text)) rfl rfl) Try.underlying9) ?_
  refine w_call (Try.func39) (by kernel_rfl) rfl (m4 (Ev.t (v := .pointer (some ⟨bx, 0, none⟩)) rfl rfl) (Ev.t (v := .string (str s)) rfl rfl) (Ev.t (v := .int .i64 ((d : Nat) : Int)) rfl rfl) (Ev.t (v := .int .i64 ((text.length : Nat) : Int)) rfl rfl)) (refStream_y bx g cap key s d hok hs h1 h16 text.length h0 ht w5 r_bx r_g) ?_
  rintro _ w6 ⟨rfl, hb7⟩
  refine ⟨_, rfl, ?_⟩
  replace r_bx := r_bx.step hb7
  replace r_g := r_g.step hb7
  replace hk := thenB hk hb7
  refine w_call (Try.func30) (by kernel_rfl) rfl (m2 (Ev.t (v := .string (str text)) rfl rfl) (Ev.t (v := .string (str (Ct.stream key s d text.length))) rfl rfl)) (refXor_c text (Ct.stream key s d text.length) (by omega) w6) ?_
  rintro _ w8 ⟨rfl, hb9⟩
  refine ⟨_, rfl, ?_⟩
  replace r_bx := r_bx.step hb9
  replace r_g := r_g.step hb9
  replace hk := thenB hk hb9
  refine w_val (v := .string (str (Oct.xor text (Ct.stream key s d text.length)))) (y_as (Ev.t (v := .string (str (Oct.xor text (Ct.stream key s d text.length)))) rfl rfl)) ?_
  refine w_val (v := .int .i64 0) (y_as (Ev.c (v := .int .i64 0))) ?_
  refine wpList_nil ?_
  refine then_n ?_
  refine wp_ret ?_
  refine fin_ret2 rfl (Ev.t (v := .string (str (Oct.xor text (Ct.stream key s d text.length)))) rfl rfl) (Ev.t (v := .int .i64 0) rfl rfl) ?_
  refine ⟨congrArg Ending.returned ?_, hk⟩
  show (.tuple #[.string (str (Oct.xor text (Ct.stream key s d text.length))), .int .i64 0] : Value) = .tuple #[.string (str (Ct.x key s d text)), .int .i64 0]
  rfl
end Go.Proofs.Ythmcoaadigaddaa
