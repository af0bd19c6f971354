/-
  Tags, sealing and opening by the reference. Conditions as each says.
-/
import Derived.Test.YtjdcpejcnmpiaaaRows
import Derived.Test.YtjdcpejcnmpiaaaCcmD
import Derived.Test.YtjdcpejcnmpiaaaAesBase
import Derived.Test.YtjdcpejcnmpiaaaGenSh
import Derived.ProofKit
namespace Go.Proofs.Ytjdcpejcnmpiaaa
open Go.RowKit
set_option linter.unusedSimpArgs false
set_option linter.unusedVariables false
set_option maxRecDepth 100000
set_option maxHeartbeats 1000000
namespace CcmET
theorem mixed : Try.prog.follows .mixedOrders = true := by kernel_rfl
theorem so129 : (Try.prog.underlying 129).isSome = true := by rw [Try.underlying129]; rfl
theorem so3 : (Try.prog.underlying 3).isSome = true := by rw [Try.underlying3]; rfl
end CcmET
theorem cmRefTag (bx g cap : Nat) (key : List (BitVec 8)) (hok : Aes.okKey key.length) (nonce aad text : List (BitVec 8)) (q : Nat) (hq : nonce.length + q = 15) (h2 : 2 ≤ q) (h8 : q ≤ 8) (size : Nat) (h4 : 4 ≤ size) (h16 : size ≤ 16) (hev : size % 2 = 0) (ha : aad.length ≤ 70000) (ht : text.length ≤ 70000) (w0 : World) (r_bx : Row w0 bx 99 513 (fun j => if j < 256 then U8 (Aes.sb j) else if j < 512 then U8 (Aes.bk (j - 256)) else .slice (some ⟨g, 0, none⟩) ((Aes.words key).length) cap)) (r_g : Row w0 g 102 ((Aes.words key).length * 4) (fun j => U8 (Aes.byteOf (Aes.gw (Aes.words key) (j / 4)) (j % 4)))) : Calls Try.prog 75 #[pt bx 0, .string (str nonce), .string (str aad), .string (str text), .int .i64 ((size : Nat) : Int)] w0 fun e w' => e = .returned (.string (str (Cm.tg key nonce aad text q size))) ∧ Below w0.heap.size w0 w' := by
 have hle := fun t => Cb.ch_len key Cb.zero16 (Cb.z (Cm.all nonce aad text q size)) hok rfl t
 have hen := fun x => Cb.enc_len key x hok
 have hbm := Cm.bes_mod aad
 have hzl : (Cb.z (Cm.all nonce aad text q size)).length % 16 = 0 ∧ (Cb.z (Cm.all nonce aad text q size)).length ≤ 150000 := by
   have h := Cb.z_len (Cm.all nonce aad text q size)
   rw [Cm.all_len _ _ _ _ _ hq] at h
   unfold Cb.zn at h
   omega
 refine enter (n := 44) Try.func75 rfl rfl rfl ?_
 have hk : Below w0.heap.size w0 w0 := Below.refl _ _
 have lt_bx := r_bx.lt
 have lt_g := r_g.lt
 refine sr ?_
 refine w_as (evc (.string (str ([] : List (BitVec 8))))) ?_
 refine nt ?_
 refine sr ?_
 refine w_mv es ?_
 refine w_mv es ?_
 refine w_mv es ?_
 refine w_mv ei ?_
 refine w_call (Try.func99) (by kernel_rfl) rfl (m4 es es es ei) (cmRefAll nonce aad text q hq h2 h8 size h4 h16 hev ha ht w0) ?_
 rintro _ w1 ⟨rfl, hb2⟩
 refine ⟨_, rfl, ?_⟩
 replace r_bx := r_bx.step hb2
 replace r_g := r_g.step hb2
 replace hk := thenB hk hb2
 refine w_as es ?_
 refine nt ?_
 refine sr ?_
 refine w_mks (m := 16) (bytes := 1) (zv := U8 (0#8)) Ev.c Ev.c (by omega) (by omega) Try.underlying54 (by kernel_rfl) rfl (by omega) (by omega) ?_
 intro b_19 w3 hbe_b_19 r_b_19 hb4
 have ne_bx_b_19 : bx ≠ b_19 := by have := r_bx.lt; omega
 have ne_g_b_19 : g ≠ b_19 := by have := r_g.lt; omega
 have ge_b_19 : w0.heap.size ≤ b_19 := by have := hk.size; omega
 clear hbe_b_19
 replace r_bx := r_bx.step hb4
 replace r_g := r_g.step hb4
 replace hk := thenB hk hb4
 refine w_val (y_str (l := Cb.zero16) el (by rfl) Try.underlying54 Try.underlying5 Try.underlying9 (fun j hj => (r_b_19.val (by omega) (by exact congrArg U8 (gb_rep 16 _).symm)))) ?_
 refine w_as es ?_
 refine nt ?_
 refine wp_seq ?_
 refine sr ?_
 refine w_as Ev.c ?_
 refine nt ?_
 refine wp_block ?_
 refine c_loop (fun dN aN wl => ∃ (t : Nat), dN = ((Cb.z (Cm.all nonce aad text q size)).length - 16 * t) ∧ ∃ f5, aN = fr 44 f5 ∧ (16 * t ≤ (Cb.z (Cm.all nonce aad text q size)).length) ∧ f5 0 = pt bx 0 ∧ f5 1 = .string (str nonce) ∧ f5 2 = .string (str aad) ∧ f5 3 = .string (str text) ∧ f5 4 = .int .i64 ((size : Nat) : Int) ∧ f5 10 = .string (str ([] : List (BitVec 8))) ∧ f5 11 = .string (str (Cb.z (Cm.all nonce aad text q size))) ∧ f5 12 = .string (str (Cb.ch key Cb.zero16 (Cb.z (Cm.all nonce aad text q size)) t)) ∧ f5 13 = .int .i64 (((16 * t) : Nat) : Int) ∧ Row wl bx 99 513 (fun j => if j < 256 then U8 (Aes.sb j) else if j < 512 then U8 (Aes.bk (j - 256)) else .slice (some ⟨g, 0, none⟩) ((Aes.words key).length) cap) ∧ Row wl g 102 ((Aes.words key).length * 4) (fun j => U8 (Aes.byteOf (Aes.gw (Aes.words key) (j / 4)) (j % 4))) ∧ Below w0.heap.size w0 wl) ((Cb.z (Cm.all nonce aad text q size)).length - 16 * 0) ?_ ?_
 · exact ⟨0, rfl, _, rfl, iv, rfl, rfl, rfl, rfl, rfl, rfl, rfl, (Eq.trans (b := .string (str Cb.zero16)) rfl (by rfl)), (etv (b := .int .i64 0) rfl), r_bx, r_g, hk⟩
 ·skip
  clear r_bx r_g hk
  clear r_b_19
  rintro _ _ w6 ⟨t, rfl, f5, rfl, i1_0, s1_0, s1_1, s1_2, s1_3, s1_4, s1_10, s1_11, s1_12, s1_13, r_bx, r_g, hk⟩
  refine wp_seq ?_
  refine sr ?_
  refine w_mv (ei s1_13) ?_
  refine w_mv (es s1_11) ?_
  refine w_val (y_len es Try.underlying9) ?_
  refine w_val (y_bin ei ei b_lss) ?_
  refine nt ?_
  refine c_if (p := (((16 * t) : Nat) : Int) < (((Cb.z (Cm.all nonce aad text q size)).length : Nat) : Int)) eb (fun hc7 => ?_) (fun hc7 => ?_)
  ·skip
   refine wp_skip ?_
   refine then_n ?_
   refine wp_seq ?_
   refine wp_block ?_
   refine wp_region_lit ?_
   refine w_mv (ex (pt bx 0) s1_0) ?_
   refine w_mv (es s1_12) ?_
   refine w_mv (es s1_11) ?_
   refine w_mv (ei s1_13) ?_
   refine w_mv (ei s1_13) ?_
   refine w_val (y_bin ei Ev.c (b_add (by omega))) ?_
   refine w_val (v := .string (str (((Cb.z (Cm.all nonce aad text q size)).drop (16 * t)).take (((16 * t) + 16) - (16 * t))))) (y_sls (ex (.string (str (Cb.z (Cm.all nonce aad text q size))))) (evo.s ei) (evo.s ei) Try.underlying9 (bnd_lh (l := (16 * t)) (h := ((16 * t) + 16)) (by omega) (by omega) (by (try simp only [Oct.length_xor, hle, hen]); omega) (by (try simp only [Oct.length_xor, hle, hen]); omega))) ?_
   refine w_call (Try.func59) (by kernel_rfl) rfl (m2 es es) (refXor_c (Cb.ch key Cb.zero16 (Cb.z (Cm.all nonce aad text q size)) t) (((Cb.z (Cm.all nonce aad text q size)).drop (16 * t)).take (((16 * t) + 16) - (16 * t))) (by ((try simp only [hle]) <;> omega)) w6) ?_
   rintro _ w8 ⟨rfl, hb9⟩
   refine ⟨_, rfl, ?_⟩
   replace r_bx := r_bx.step hb9
   replace r_g := r_g.step hb9
   replace hk := thenB hk hb9
   refine w_call (Try.func58) (by kernel_rfl) rfl (m2 (ex (pt bx 0)) es) (refEnc_l bx g cap key (Oct.xor (Cb.ch key Cb.zero16 (Cb.z (Cm.all nonce aad text q size)) t) (((Cb.z (Cm.all nonce aad text q size)).drop (16 * t)).take (((16 * t) + 16) - (16 * t)))) w8 hok (by first | exact Cm.cnt_len _ _ _ hq | (simp only [Oct.length_xor, List.length_take, List.length_drop, hle]; omega)) r_bx r_g) ?_
   rintro _ w10 ⟨rfl, hb11⟩
   refine ⟨_, rfl, ?_⟩
   replace r_bx := r_bx.step hb11
   replace r_g := r_g.step hb11
   replace hk := thenB hk hb11
   refine w_as es ?_
   refine wpList_nil ?_
   refine inb_n ?_
   refine then_n ?_
   refine wp_region_lit ?_
   refine w_mv (ei s1_13) ?_
   refine w_val (y_bin ei Ev.c (b_add (by omega))) ?_
   refine w_as ei ?_
   refine wpList_nil ?_
   exact then_n ⟨_, (by omega), t + 1, rfl, _, rfl, iv, s1_0, s1_1, s1_2, s1_3, s1_4, s1_10, s1_11, (Eq.trans (b := .string (str (Aes.enc (Aes.words key) (Oct.xor (Cb.ch key Cb.zero16 (Cb.z (Cm.all nonce aad text q size)) t) (((Cb.z (Cm.all nonce aad text q size)).drop (16 * t)).take (((16 * t) + 16) - (16 * t))))))) rfl (by exact congrArg (fun l => Value.string (str l)) (Cb.ch_at key Cb.zero16 (Cb.z (Cm.all nonce aad text q size)) t _ (by omega)))), (etv (b := .int .i64 ((((16 * t) : Nat) : Int) + 16)) rfl), r_bx, r_g, hk⟩
  ·skip
   refine wp_exit ?_
   refine then_x ?_
   refine then_x ?_
   refine inb_x ?_
   refine then_n ?_
   refine sr ?_
   refine w_mv (es s1_12) ?_
   refine w_mv (ex (pt bx 0) s1_0) ?_
   refine w_mv (es s1_1) ?_
   refine w_call (Try.func98) (by kernel_rfl) rfl (m2 es Ev.c) (cmRefCounter nonce 0 (by omega) q hq h2 h8 w6) ?_
   rintro _ w12 ⟨rfl, hb13⟩
   refine ⟨_, rfl, ?_⟩
   replace r_bx := r_bx.step hb13
   replace r_g := r_g.step hb13
   replace hk := thenB hk hb13
   refine w_call (Try.func58) (by kernel_rfl) rfl (m2 (ex (pt bx 0)) es) (refEnc_l bx g cap key (Cm.cnt nonce q 0) w12 hok (by first | exact Cm.cnt_len _ _ _ hq | (simp only [Oct.length_xor, List.length_take, List.length_drop, hle]; omega)) r_bx r_g) ?_
   rintro _ w14 ⟨rfl, hb15⟩
   refine ⟨_, rfl, ?_⟩
   replace r_bx := r_bx.step hb15
   replace r_g := r_g.step hb15
   replace hk := thenB hk hb15
   refine w_call (Try.func59) (by kernel_rfl) rfl (m2 es es) (refXor_c (Cb.ch key Cb.zero16 (Cb.z (Cm.all nonce aad text q size)) t) (Aes.enc (Aes.words key) (Cm.cnt nonce q 0)) (by ((try simp only [hle]) <;> omega)) w14) ?_
   rintro _ w16 ⟨rfl, hb17⟩
   refine ⟨_, rfl, ?_⟩
   replace r_bx := r_bx.step hb17
   replace r_g := r_g.step hb17
   replace hk := thenB hk hb17
   refine w_mv (ei s1_4) ?_
   refine w_val (v := .string (str ((Oct.xor (Cb.ch key Cb.zero16 (Cb.z (Cm.all nonce aad text q size)) t) (Aes.enc (Aes.words key) (Cm.cnt nonce q 0))).take size))) (y_sls (ex (.string (str (Oct.xor (Cb.ch key Cb.zero16 (Cb.z (Cm.all nonce aad text q size)) t) (Aes.enc (Aes.words key) (Cm.cnt nonce q 0)))))) evo.no (evo.s ei) Try.underlying9 (bnd_h (h := size) (by omega) (by (try simp only [Oct.length_xor, hle, hen]); omega))) ?_
   refine w_as es ?_
   refine nt ?_
   refine wp_ret ?_
   refine fin_ret1 rfl es ?_
   refine ⟨congrArg Ending.returned ?_, hk⟩
   show (.string (str ((Oct.xor (Cb.ch key Cb.zero16 (Cb.z (Cm.all nonce aad text q size)) t) (Aes.enc (Aes.words key) (Cm.cnt nonce q 0))).take size)) : Value) = .string (str (Cm.tg key nonce aad text q size))
   exact congrArg (fun l => Value.string (str l)) (Cm.tag_eq key nonce aad text q size t hok (by omega))

theorem cmRefXor (bx g cap : Nat) (key : List (BitVec 8)) (hok : Aes.okKey key.length) (nonce text : List (BitVec 8)) (q : Nat) (hq : nonce.length + q = 15) (h2 : 2 ≤ q) (h8 : q ≤ 8) (ht : text.length ≤ 70000) (w0 : World) (r_bx : Row w0 bx 99 513 (fun j => if j < 256 then U8 (Aes.sb j) else if j < 512 then U8 (Aes.bk (j - 256)) else .slice (some ⟨g, 0, none⟩) ((Aes.words key).length) cap)) (r_g : Row w0 g 102 ((Aes.words key).length * 4) (fun j => U8 (Aes.byteOf (Aes.gw (Aes.words key) (j / 4)) (j % 4)))) : Calls Try.prog 74 #[pt bx 0, .string (str nonce), .string (str text)] w0 fun e w' => e = .returned (.string (str (Cm.xr key nonce text q))) ∧ Below w0.heap.size w0 w' := by
 have hen := fun x => Cb.enc_len key x hok
 refine enter (n := 27) Try.func74 rfl rfl rfl ?_
 have hk : Below w0.heap.size w0 w0 := Below.refl _ _
 have lt_bx := r_bx.lt
 have lt_g := r_g.lt
 refine sr ?_
 refine w_as (evc (.string (str ([] : List (BitVec 8))))) ?_
 refine nt ?_
 refine sr ?_
 refine w_as Ev.c ?_
 refine nt ?_
 refine wp_seq ?_
 refine sr ?_
 refine w_as Ev.c ?_
 refine nt ?_
 refine wp_block ?_
 refine c_loop (fun dN aN wl => ∃ (k : Nat) (vo : Value), dN = (text.length + 16 - 16 * k) ∧ ∃ f1, aN = fr 27 f1 ∧ (16 * k < text.length + 16) ∧ f1 0 = pt bx 0 ∧ f1 1 = .string (str nonce) ∧ f1 2 = .string (str text) ∧ f1 6 = .string (str ([] : List (BitVec 8))) ∧ f1 7 = vo ∧ f1 8 = .int .i64 (((k + 1) : Nat) : Int) ∧ Row wl bx 99 513 (fun j => if j < 256 then U8 (Aes.sb j) else if j < 512 then U8 (Aes.bk (j - 256)) else .slice (some ⟨g, 0, none⟩) ((Aes.words key).length) cap) ∧ Row wl g 102 ((Aes.words key).length * 4) (fun j => U8 (Aes.byteOf (Aes.gw (Aes.words key) (j / 4)) (j % 4))) ∧ Own wl w0.heap.size 5 1 vo (16 * k) (fun j => U8 (Ct.ks key (Cm.cnt nonce q 1) q j)) ∧ vo.ownBlock ≠ some bx ∧ vo.ownBlock ≠ some g ∧ Below w0.heap.size w0 wl) (text.length + 16 - 16 * 0) ?_ ?_
 · exact ⟨0, (.slice none 0 0), rfl, _, rfl, iv, rfl, rfl, rfl, rfl, (etv (b := .slice none 0 0) rfl), (Eq.trans (b := .int .i64 1) rfl (by rfl)), r_bx, r_g, Own.nil, (fun e => by cases e), (fun e => by cases e), hk⟩
 ·skip
  clear r_bx r_g hk
  rintro _ _ w2 ⟨k, vo, rfl, f1, rfl, i1_0, s1_0, s1_1, s1_2, s1_6, s1_7, s1_8, r_bx, r_g, o_vo, no_vo_bx, no_vo_g, hk⟩
  have hl_ := hen (Cm.cnt nonce q (k + 1))
  refine wp_seq ?_
  refine sr ?_
  refine w_mv (ex vo s1_7) ?_
  refine w_val (v := .int .i64 (((16 * k) : Nat) : Int)) (y_len_own (ex vo) o_vo Try.underlying54) ?_
  refine w_mv (es s1_2) ?_
  refine w_val (y_len es Try.underlying9) ?_
  refine w_val (y_bin ei ei b_lss) ?_
  refine nt ?_
  refine c_if (p := (((16 * k) : Nat) : Int) < ((text.length : Nat) : Int)) eb (fun hc3 => ?_) (fun hc3 => ?_)
  ·skip
   refine wp_skip ?_
   refine then_n ?_
   refine wp_seq ?_
   refine wp_block ?_
   refine wp_region_lit ?_
   refine w_mv (ex vo s1_7) ?_
   refine w_mv (ex (pt bx 0) s1_0) ?_
   refine w_mv (es s1_1) ?_
   refine w_mv (ei s1_8) ?_
   refine w_call (Try.func98) (by kernel_rfl) rfl (m2 es ei) (cmRefCounter nonce (k + 1) (by omega) q hq h2 h8 w2) ?_
   rintro _ w4 ⟨rfl, hb5⟩
   refine ⟨_, rfl, ?_⟩
   replace o_vo := o_vo.step hb5
   replace r_bx := r_bx.step hb5
   replace r_g := r_g.step hb5
   replace hk := thenB hk hb5
   refine w_call (Try.func58) (by kernel_rfl) rfl (m2 (ex (pt bx 0)) es) (refEnc_l bx g cap key (Cm.cnt nonce q (k + 1)) w4 hok (Cm.cnt_len _ _ _ hq) r_bx r_g) ?_
   rintro _ w6 ⟨rfl, hb7⟩
   refine ⟨_, rfl, ?_⟩
   replace o_vo := o_vo.step hb7
   replace r_bx := r_bx.step hb7
   replace r_g := r_g.step hb7
   replace hk := thenB hk hb7
   refine w_apps (K0 := (16 * k)) (l := Aes.enc (Aes.words key) (Cm.cnt nonce q (k + 1))) (ex vo) es Try.underlying54 Try.underlying9 (by kernel_rfl) o_vo hk.size (by omega) ?_
   intro v8 w9 o_v8 hg10 hv11
   have no_v8_bx := no_new no_vo_bx r_bx.lt hv11
   replace r_bx := r_bx.stepO hg10 no_vo_bx
   have no_v8_g := no_new no_vo_g r_g.lt hv11
   replace r_g := r_g.stepO hg10 no_vo_g
   replace hk := thenO hk hg10 (fun g e => (o_vo.block_lt g e).2)
   clear o_vo
   refine w_as (ex v8) ?_
   refine wpList_nil ?_
   refine inb_n ?_
   refine then_n ?_
   refine wp_region_lit ?_
   refine w_mv (ei s1_8) ?_
   refine w_val (y_bin ei Ev.c (b_add (by omega))) ?_
   refine w_as ei ?_
   refine wpList_nil ?_
   exact then_n ⟨_, (by omega), k + 1, v8, rfl, _, rfl, iv, s1_0, s1_1, s1_2, s1_6, rfl, (etv (b := .int .i64 ((((k + 1) : Nat) : Int) + 1)) rfl), r_bx, r_g, (own_n (o_v8.congr (fun j hj => by (try dsimp only); by_cases e : j < 16 * k * 1; (rw [if_pos e]); (rw [if_neg e, Cm.ks_at key nonce q k j hq (by omega) (by omega), show j % 16 = 0 + (j - 16 * k * 1) from by omega]))) (by omega)), no_v8_bx, no_v8_g, hk⟩
  ·skip
   refine wp_exit ?_
   refine then_x ?_
   refine then_x ?_
   refine inb_x ?_
   refine then_n ?_
   refine sr ?_
   refine w_mv (es s1_2) ?_
   refine w_mv (ex vo s1_7) ?_
   refine w_val (v := .string (str (Ct.stream key (Cm.cnt nonce q 1) q (16 * k)))) (y_strown (l := Ct.stream key (Cm.cnt nonce q 1) q (16 * k)) (ex vo) o_vo  (by exact (Ct.length_stream _ _ _ _)) (fun j hj => by exact (by rw [Ct.gb_stream _ _ _ _ _ (by omega)])) Try.underlying54 Try.underlying5 Try.underlying9) ?_
   refine w_call (Try.func59) (by kernel_rfl) rfl (m2 es es) (refXor_c text (Ct.stream key (Cm.cnt nonce q 1) q (16 * k)) (by omega) w2) ?_
   rintro _ w12 ⟨rfl, hb13⟩
   refine ⟨_, rfl, ?_⟩
   replace o_vo := o_vo.step hb13
   replace r_bx := r_bx.step hb13
   replace r_g := r_g.step hb13
   replace hk := thenB hk hb13
   refine w_as es ?_
   refine nt ?_
   refine wp_ret ?_
   refine fin_ret1 rfl es ?_
   refine ⟨congrArg Ending.returned ?_, hk⟩
   show (.string (str (Oct.xor text (Ct.stream key (Cm.cnt nonce q 1) q (16 * k)))) : Value) = .string (str (Cm.xr key nonce text q))
   exact congrArg (fun l => Value.string (str l)) (Cm.xor_stream key _ text q _ (by omega))

theorem cmRefTag5_k (key nonce aad : List (BitVec 8)) (size : Int) (hok : ¬ Aes.okKey key.length) (text : List (BitVec 8)) (w0 : World) : Calls Try.prog 50 #[.string (str key), .string (str nonce), .string (str aad), .string (str text), .int .i64 size] w0 fun e w' => e = .returned (.tuple #[.string (str ([] : List (BitVec 8))), .int .i64 3]) ∧ Below w0.heap.size w0 w' := by
 refine enter (n := 30) Try.func50 rfl rfl rfl ?_
 have hk : Below w0.heap.size w0 w0 := Below.refl _ _
 refine sr ?_
 refine w_as (evc (.string (str ([] : List (BitVec 8))))) ?_
 refine w_as Ev.c ?_
 refine nt ?_
 refine wp_seq ?_
 refine sr ?_
 refine w_mv es ?_
 refine w_mv es ?_
 refine w_mv es ?_
 refine w_mv es ?_
 refine w_val (y_len es Try.underlying9) ?_
 refine w_mv ei ?_
 refine w_call (Try.func73) (by kernel_rfl) rfl (m5 es es es ei ei) (cmRefWrong_k key nonce aad ((text.length : Nat) : Int) size hok w0) ?_
 rintro _ w1 ⟨rfl, hb2⟩
 refine ⟨_, rfl, ?_⟩
 replace hk := thenB hk hb2
 refine w_as ei ?_
 refine nt ?_
 refine sr ?_
 refine w_mv ei ?_
 refine w_val (y_bin ei Ev.c b_neq) ?_
 refine nt ?_
 refine c_tt eb ?_
 refine sr ?_
 refine w_mv ei ?_
 refine w_as (evc (.string (str ([] : List (BitVec 8))))) ?_
 refine w_as ei ?_
 refine nt ?_
 refine wp_ret ?_
 refine then_r ?_
 refine fin_ret2 rfl es ei ?_
 exact ⟨rfl, hk⟩

theorem cmRefTag5_n (key nonce aad : List (BitVec 8)) (size : Int) (hok : Aes.okKey key.length) (hn : ¬ (7 ≤ nonce.length ∧ nonce.length ≤ 13)) (text : List (BitVec 8)) (w0 : World) : Calls Try.prog 50 #[.string (str key), .string (str nonce), .string (str aad), .string (str text), .int .i64 size] w0 fun e w' => e = .returned (.tuple #[.string (str ([] : List (BitVec 8))), .int .i64 4]) ∧ Below w0.heap.size w0 w' := by
 refine enter (n := 30) Try.func50 rfl rfl rfl ?_
 have hk : Below w0.heap.size w0 w0 := Below.refl _ _
 refine sr ?_
 refine w_as (evc (.string (str ([] : List (BitVec 8))))) ?_
 refine w_as Ev.c ?_
 refine nt ?_
 refine wp_seq ?_
 refine sr ?_
 refine w_mv es ?_
 refine w_mv es ?_
 refine w_mv es ?_
 refine w_mv es ?_
 refine w_val (y_len es Try.underlying9) ?_
 refine w_mv ei ?_
 refine w_call (Try.func73) (by kernel_rfl) rfl (m5 es es es ei ei) (cmRefWrong_n key nonce aad ((text.length : Nat) : Int) size hok hn w0) ?_
 rintro _ w1 ⟨rfl, hb2⟩
 refine ⟨_, rfl, ?_⟩
 replace hk := thenB hk hb2
 refine w_as ei ?_
 refine nt ?_
 refine sr ?_
 refine w_mv ei ?_
 refine w_val (y_bin ei Ev.c b_neq) ?_
 refine nt ?_
 refine c_tt eb ?_
 refine sr ?_
 refine w_mv ei ?_
 refine w_as (evc (.string (str ([] : List (BitVec 8))))) ?_
 refine w_as ei ?_
 refine nt ?_
 refine wp_ret ?_
 refine then_r ?_
 refine fin_ret2 rfl es ei ?_
 exact ⟨rfl, hk⟩

theorem cmRefTag5_t (key nonce aad : List (BitVec 8)) (size : Int) (hok : Aes.okKey key.length) (hn : 7 ≤ nonce.length ∧ nonce.length ≤ 13) (ht : ¬ (4 ≤ size ∧ size ≤ 16 ∧ size % 2 = 0)) (text : List (BitVec 8)) (w0 : World) : Calls Try.prog 50 #[.string (str key), .string (str nonce), .string (str aad), .string (str text), .int .i64 size] w0 fun e w' => e = .returned (.tuple #[.string (str ([] : List (BitVec 8))), .int .i64 5]) ∧ Below w0.heap.size w0 w' := by
 refine enter (n := 30) Try.func50 rfl rfl rfl ?_
 have hk : Below w0.heap.size w0 w0 := Below.refl _ _
 refine sr ?_
 refine w_as (evc (.string (str ([] : List (BitVec 8))))) ?_
 refine w_as Ev.c ?_
 refine nt ?_
 refine wp_seq ?_
 refine sr ?_
 refine w_mv es ?_
 refine w_mv es ?_
 refine w_mv es ?_
 refine w_mv es ?_
 refine w_val (y_len es Try.underlying9) ?_
 refine w_mv ei ?_
 refine w_call (Try.func73) (by kernel_rfl) rfl (m5 es es es ei ei) (cmRefWrong_t key nonce aad ((text.length : Nat) : Int) size hok hn ht w0) ?_
 rintro _ w1 ⟨rfl, hb2⟩
 refine ⟨_, rfl, ?_⟩
 replace hk := thenB hk hb2
 refine w_as ei ?_
 refine nt ?_
 refine sr ?_
 refine w_mv ei ?_
 refine w_val (y_bin ei Ev.c b_neq) ?_
 refine nt ?_
 refine c_tt eb ?_
 refine sr ?_
 refine w_mv ei ?_
 refine w_as (evc (.string (str ([] : List (BitVec 8))))) ?_
 refine w_as ei ?_
 refine nt ?_
 refine wp_ret ?_
 refine then_r ?_
 refine fin_ret2 rfl es ei ?_
 exact ⟨rfl, hk⟩

theorem cmRefTag5_a (key nonce aad : List (BitVec 8)) (size : Nat) (hok : Aes.okKey key.length) (hn : 7 ≤ nonce.length ∧ nonce.length ≤ 13) (h4 : 4 ≤ size) (h16 : size ≤ 16) (hev : size % 2 = 0) (ha : 70000 < aad.length) (text : List (BitVec 8)) (w0 : World) : Calls Try.prog 50 #[.string (str key), .string (str nonce), .string (str aad), .string (str text), .int .i64 ((size : Nat) : Int)] w0 fun e w' => e = .returned (.tuple #[.string (str ([] : List (BitVec 8))), .int .i64 6]) ∧ Below w0.heap.size w0 w' := by
 refine enter (n := 30) Try.func50 rfl rfl rfl ?_
 have hk : Below w0.heap.size w0 w0 := Below.refl _ _
 refine sr ?_
 refine w_as (evc (.string (str ([] : List (BitVec 8))))) ?_
 refine w_as Ev.c ?_
 refine nt ?_
 refine wp_seq ?_
 refine sr ?_
 refine w_mv es ?_
 refine w_mv es ?_
 refine w_mv es ?_
 refine w_mv es ?_
 refine w_val (y_len es Try.underlying9) ?_
 refine w_mv ei ?_
 refine w_call (Try.func73) (by kernel_rfl) rfl (m5 es es es ei ei) (cmRefWrong_a key nonce aad ((text.length : Nat) : Int) size hok hn h4 h16 hev ha w0) ?_
 rintro _ w1 ⟨rfl, hb2⟩
 refine ⟨_, rfl, ?_⟩
 replace hk := thenB hk hb2
 refine w_as ei ?_
 refine nt ?_
 refine sr ?_
 refine w_mv ei ?_
 refine w_val (y_bin ei Ev.c b_neq) ?_
 refine nt ?_
 refine c_tt eb ?_
 refine sr ?_
 refine w_mv ei ?_
 refine w_as (evc (.string (str ([] : List (BitVec 8))))) ?_
 refine w_as ei ?_
 refine nt ?_
 refine wp_ret ?_
 refine then_r ?_
 refine fin_ret2 rfl es ei ?_
 exact ⟨rfl, hk⟩

theorem cmRefTag5_z (key nonce aad : List (BitVec 8)) (size : Nat) (hok : Aes.okKey key.length) (hn : 7 ≤ nonce.length ∧ nonce.length ≤ 13) (h4 : 4 ≤ size) (h16 : size ≤ 16) (hev : size % 2 = 0) (ha : aad.length ≤ 70000) (text : List (BitVec 8)) (hl : text.length ≤ 1000000000000000) (hf : ¬ Cm.Fit text.length nonce) (w0 : World) : Calls Try.prog 50 #[.string (str key), .string (str nonce), .string (str aad), .string (str text), .int .i64 ((size : Nat) : Int)] w0 fun e w' => e = .returned (.tuple #[.string (str ([] : List (BitVec 8))), .int .i64 6]) ∧ Below w0.heap.size w0 w' := by
 refine enter (n := 30) Try.func50 rfl rfl rfl ?_
 have hk : Below w0.heap.size w0 w0 := Below.refl _ _
 refine sr ?_
 refine w_as (evc (.string (str ([] : List (BitVec 8))))) ?_
 refine w_as Ev.c ?_
 refine nt ?_
 refine wp_seq ?_
 refine sr ?_
 refine w_mv es ?_
 refine w_mv es ?_
 refine w_mv es ?_
 refine w_mv es ?_
 refine w_val (y_len es Try.underlying9) ?_
 refine w_mv ei ?_
 refine w_call (Try.func73) (by kernel_rfl) rfl (m5 es es es ei ei) (cmRefWrong_z key nonce aad text.length size hok hn h4 h16 hev ha hf w0) ?_
 rintro _ w1 ⟨rfl, hb2⟩
 refine ⟨_, rfl, ?_⟩
 replace hk := thenB hk hb2
 refine w_as ei ?_
 refine nt ?_
 refine sr ?_
 refine w_mv ei ?_
 refine w_val (y_bin ei Ev.c b_neq) ?_
 refine nt ?_
 refine c_tt eb ?_
 refine sr ?_
 refine w_mv ei ?_
 refine w_as (evc (.string (str ([] : List (BitVec 8))))) ?_
 refine w_as ei ?_
 refine nt ?_
 refine wp_ret ?_
 refine then_r ?_
 refine fin_ret2 rfl es ei ?_
 exact ⟨rfl, hk⟩

theorem cmRefTag5_y (key nonce aad : List (BitVec 8)) (size : Nat) (hok : Aes.okKey key.length) (hn : 7 ≤ nonce.length ∧ nonce.length ≤ 13) (h4 : 4 ≤ size) (h16 : size ≤ 16) (hev : size % 2 = 0) (ha : aad.length ≤ 70000) (text : List (BitVec 8)) (hl : text.length ≤ 1000000000000000) (hf : Cm.Fit text.length nonce) (w0 : World) : Calls Try.prog 50 #[.string (str key), .string (str nonce), .string (str aad), .string (str text), .int .i64 ((size : Nat) : Int)] w0 fun e w' => e = .returned (.tuple #[.string (str (Cm.tg key nonce aad text (15 - nonce.length) size)), .int .i64 0]) ∧ Below w0.heap.size w0 w' := by
 have hf1 := hf.1
 refine enter (n := 30) Try.func50 rfl rfl rfl ?_
 have hk : Below w0.heap.size w0 w0 := Below.refl _ _
 refine sr ?_
 refine w_as (evc (.string (str ([] : List (BitVec 8))))) ?_
 refine w_as Ev.c ?_
 refine nt ?_
 refine wp_seq ?_
 refine sr ?_
 refine w_mv es ?_
 refine w_mv es ?_
 refine w_mv es ?_
 refine w_mv es ?_
 refine w_val (y_len es Try.underlying9) ?_
 refine w_mv ei ?_
 refine w_call (Try.func73) (by kernel_rfl) rfl (m5 es es es ei ei) (cmRefWrong_y key nonce aad text.length size hok hn h4 h16 hev ha hf w0) ?_
 rintro _ w1 ⟨rfl, hb2⟩
 refine ⟨_, rfl, ?_⟩
 replace hk := thenB hk hb2
 refine w_as ei ?_
 refine nt ?_
 refine sr ?_
 refine w_mv ei ?_
 refine w_val (y_bin ei Ev.c b_neq) ?_
 refine nt ?_
 refine c_ff eb ?_
 refine wp_skip ?_
 refine then_n ?_
 refine sr ?_
 refine w_mv es ?_
 refine w_call (Try.func56) (by kernel_rfl) rfl (m1 es) (refNew_l key w1 hok) ?_
 rintro _ w3 ⟨bx, g, cap, rfl, hbn, hge_bx, hge_g, r_bx, r_g⟩
 refine ⟨_, rfl, ?_⟩
 have ge_bx : w0.heap.size ≤ bx := by have := hk.size; omega
 have ge_g : w0.heap.size ≤ g := by have := hk.size; omega
 replace hk := thenB hk hbn
 refine w_mv es ?_
 refine w_mv es ?_
 refine w_mv es ?_
 refine w_mv ei ?_
 refine w_call (Try.func75) (by kernel_rfl) rfl (m5 (ex (pt bx 0)) es es es ei) (cmRefTag bx g cap key hok nonce aad text (15 - nonce.length) (by omega) (by omega) (by omega) size h4 h16 hev ha hf1 w3 r_bx r_g) ?_
 rintro _ w4 ⟨rfl, hb5⟩
 refine ⟨_, rfl, ?_⟩
 replace r_bx := r_bx.step hb5
 replace r_g := r_g.step hb5
 replace hk := thenB hk hb5
 refine w_as es ?_
 refine w_as Ev.c ?_
 refine nt ?_
 refine wp_ret ?_
 refine fin_ret2 rfl es ei ?_
 exact ⟨rfl, hk⟩

theorem cmRefSeal_k (key nonce aad : List (BitVec 8)) (size : Int) (hok : ¬ Aes.okKey key.length) (text : List (BitVec 8)) (w0 : World) : Calls Try.prog 46 #[.string (str key), .string (str nonce), .string (str aad), .string (str text), .int .i64 size] w0 fun e w' => e = .returned (.tuple #[.string (str ([] : List (BitVec 8))), .int .i64 3]) ∧ Below w0.heap.size w0 w' := by
 refine enter (n := 37) Try.func46 rfl rfl rfl ?_
 have hk : Below w0.heap.size w0 w0 := Below.refl _ _
 refine sr ?_
 refine w_as (evc (.string (str ([] : List (BitVec 8))))) ?_
 refine w_as Ev.c ?_
 refine nt ?_
 refine wp_seq ?_
 refine sr ?_
 refine w_mv es ?_
 refine w_mv es ?_
 refine w_mv es ?_
 refine w_mv es ?_
 refine w_val (y_len es Try.underlying9) ?_
 refine w_mv ei ?_
 refine w_call (Try.func73) (by kernel_rfl) rfl (m5 es es es ei ei) (cmRefWrong_k key nonce aad ((text.length : Nat) : Int) size hok w0) ?_
 rintro _ w1 ⟨rfl, hb2⟩
 refine ⟨_, rfl, ?_⟩
 replace hk := thenB hk hb2
 refine w_as ei ?_
 refine nt ?_
 refine sr ?_
 refine w_mv ei ?_
 refine w_val (y_bin ei Ev.c b_neq) ?_
 refine nt ?_
 refine c_tt eb ?_
 refine sr ?_
 refine w_mv ei ?_
 refine w_as (evc (.string (str ([] : List (BitVec 8))))) ?_
 refine w_as ei ?_
 refine nt ?_
 refine wp_ret ?_
 refine then_r ?_
 refine fin_ret2 rfl es ei ?_
 exact ⟨rfl, hk⟩

theorem cmRefSeal_n (key nonce aad : List (BitVec 8)) (size : Int) (hok : Aes.okKey key.length) (hn : ¬ (7 ≤ nonce.length ∧ nonce.length ≤ 13)) (text : List (BitVec 8)) (w0 : World) : Calls Try.prog 46 #[.string (str key), .string (str nonce), .string (str aad), .string (str text), .int .i64 size] w0 fun e w' => e = .returned (.tuple #[.string (str ([] : List (BitVec 8))), .int .i64 4]) ∧ Below w0.heap.size w0 w' := by
 refine enter (n := 37) Try.func46 rfl rfl rfl ?_
 have hk : Below w0.heap.size w0 w0 := Below.refl _ _
 refine sr ?_
 refine w_as (evc (.string (str ([] : List (BitVec 8))))) ?_
 refine w_as Ev.c ?_
 refine nt ?_
 refine wp_seq ?_
 refine sr ?_
 refine w_mv es ?_
 refine w_mv es ?_
 refine w_mv es ?_
 refine w_mv es ?_
 refine w_val (y_len es Try.underlying9) ?_
 refine w_mv ei ?_
 refine w_call (Try.func73) (by kernel_rfl) rfl (m5 es es es ei ei) (cmRefWrong_n key nonce aad ((text.length : Nat) : Int) size hok hn w0) ?_
 rintro _ w1 ⟨rfl, hb2⟩
 refine ⟨_, rfl, ?_⟩
 replace hk := thenB hk hb2
 refine w_as ei ?_
 refine nt ?_
 refine sr ?_
 refine w_mv ei ?_
 refine w_val (y_bin ei Ev.c b_neq) ?_
 refine nt ?_
 refine c_tt eb ?_
 refine sr ?_
 refine w_mv ei ?_
 refine w_as (evc (.string (str ([] : List (BitVec 8))))) ?_
 refine w_as ei ?_
 refine nt ?_
 refine wp_ret ?_
 refine then_r ?_
 refine fin_ret2 rfl es ei ?_
 exact ⟨rfl, hk⟩

theorem cmRefSeal_t (key nonce aad : List (BitVec 8)) (size : Int) (hok : Aes.okKey key.length) (hn : 7 ≤ nonce.length ∧ nonce.length ≤ 13) (ht : ¬ (4 ≤ size ∧ size ≤ 16 ∧ size % 2 = 0)) (text : List (BitVec 8)) (w0 : World) : Calls Try.prog 46 #[.string (str key), .string (str nonce), .string (str aad), .string (str text), .int .i64 size] w0 fun e w' => e = .returned (.tuple #[.string (str ([] : List (BitVec 8))), .int .i64 5]) ∧ Below w0.heap.size w0 w' := by
 refine enter (n := 37) Try.func46 rfl rfl rfl ?_
 have hk : Below w0.heap.size w0 w0 := Below.refl _ _
 refine sr ?_
 refine w_as (evc (.string (str ([] : List (BitVec 8))))) ?_
 refine w_as Ev.c ?_
 refine nt ?_
 refine wp_seq ?_
 refine sr ?_
 refine w_mv es ?_
 refine w_mv es ?_
 refine w_mv es ?_
 refine w_mv es ?_
 refine w_val (y_len es Try.underlying9) ?_
 refine w_mv ei ?_
 refine w_call (Try.func73) (by kernel_rfl) rfl (m5 es es es ei ei) (cmRefWrong_t key nonce aad ((text.length : Nat) : Int) size hok hn ht w0) ?_
 rintro _ w1 ⟨rfl, hb2⟩
 refine ⟨_, rfl, ?_⟩
 replace hk := thenB hk hb2
 refine w_as ei ?_
 refine nt ?_
 refine sr ?_
 refine w_mv ei ?_
 refine w_val (y_bin ei Ev.c b_neq) ?_
 refine nt ?_
 refine c_tt eb ?_
 refine sr ?_
 refine w_mv ei ?_
 refine w_as (evc (.string (str ([] : List (BitVec 8))))) ?_
 refine w_as ei ?_
 refine nt ?_
 refine wp_ret ?_
 refine then_r ?_
 refine fin_ret2 rfl es ei ?_
 exact ⟨rfl, hk⟩

theorem cmRefSeal_a (key nonce aad : List (BitVec 8)) (size : Nat) (hok : Aes.okKey key.length) (hn : 7 ≤ nonce.length ∧ nonce.length ≤ 13) (h4 : 4 ≤ size) (h16 : size ≤ 16) (hev : size % 2 = 0) (ha : 70000 < aad.length) (text : List (BitVec 8)) (w0 : World) : Calls Try.prog 46 #[.string (str key), .string (str nonce), .string (str aad), .string (str text), .int .i64 ((size : Nat) : Int)] w0 fun e w' => e = .returned (.tuple #[.string (str ([] : List (BitVec 8))), .int .i64 6]) ∧ Below w0.heap.size w0 w' := by
 refine enter (n := 37) Try.func46 rfl rfl rfl ?_
 have hk : Below w0.heap.size w0 w0 := Below.refl _ _
 refine sr ?_
 refine w_as (evc (.string (str ([] : List (BitVec 8))))) ?_
 refine w_as Ev.c ?_
 refine nt ?_
 refine wp_seq ?_
 refine sr ?_
 refine w_mv es ?_
 refine w_mv es ?_
 refine w_mv es ?_
 refine w_mv es ?_
 refine w_val (y_len es Try.underlying9) ?_
 refine w_mv ei ?_
 refine w_call (Try.func73) (by kernel_rfl) rfl (m5 es es es ei ei) (cmRefWrong_a key nonce aad ((text.length : Nat) : Int) size hok hn h4 h16 hev ha w0) ?_
 rintro _ w1 ⟨rfl, hb2⟩
 refine ⟨_, rfl, ?_⟩
 replace hk := thenB hk hb2
 refine w_as ei ?_
 refine nt ?_
 refine sr ?_
 refine w_mv ei ?_
 refine w_val (y_bin ei Ev.c b_neq) ?_
 refine nt ?_
 refine c_tt eb ?_
 refine sr ?_
 refine w_mv ei ?_
 refine w_as (evc (.string (str ([] : List (BitVec 8))))) ?_
 refine w_as ei ?_
 refine nt ?_
 refine wp_ret ?_
 refine then_r ?_
 refine fin_ret2 rfl es ei ?_
 exact ⟨rfl, hk⟩

theorem cmRefSeal_z (key nonce aad : List (BitVec 8)) (size : Nat) (hok : Aes.okKey key.length) (hn : 7 ≤ nonce.length ∧ nonce.length ≤ 13) (h4 : 4 ≤ size) (h16 : size ≤ 16) (hev : size % 2 = 0) (ha : aad.length ≤ 70000) (text : List (BitVec 8)) (hl : text.length ≤ 1000000000000000) (hf : ¬ Cm.Fit text.length nonce) (w0 : World) : Calls Try.prog 46 #[.string (str key), .string (str nonce), .string (str aad), .string (str text), .int .i64 ((size : Nat) : Int)] w0 fun e w' => e = .returned (.tuple #[.string (str ([] : List (BitVec 8))), .int .i64 6]) ∧ Below w0.heap.size w0 w' := by
 refine enter (n := 37) Try.func46 rfl rfl rfl ?_
 have hk : Below w0.heap.size w0 w0 := Below.refl _ _
 refine sr ?_
 refine w_as (evc (.string (str ([] : List (BitVec 8))))) ?_
 refine w_as Ev.c ?_
 refine nt ?_
 refine wp_seq ?_
 refine sr ?_
 refine w_mv es ?_
 refine w_mv es ?_
 refine w_mv es ?_
 refine w_mv es ?_
 refine w_val (y_len es Try.underlying9) ?_
 refine w_mv ei ?_
 refine w_call (Try.func73) (by kernel_rfl) rfl (m5 es es es ei ei) (cmRefWrong_z key nonce aad text.length size hok hn h4 h16 hev ha hf w0) ?_
 rintro _ w1 ⟨rfl, hb2⟩
 refine ⟨_, rfl, ?_⟩
 replace hk := thenB hk hb2
 refine w_as ei ?_
 refine nt ?_
 refine sr ?_
 refine w_mv ei ?_
 refine w_val (y_bin ei Ev.c b_neq) ?_
 refine nt ?_
 refine c_tt eb ?_
 refine sr ?_
 refine w_mv ei ?_
 refine w_as (evc (.string (str ([] : List (BitVec 8))))) ?_
 refine w_as ei ?_
 refine nt ?_
 refine wp_ret ?_
 refine then_r ?_
 refine fin_ret2 rfl es ei ?_
 exact ⟨rfl, hk⟩

theorem cmRefSeal_y (key nonce aad : List (BitVec 8)) (size : Nat) (hok : Aes.okKey key.length) (hn : 7 ≤ nonce.length ∧ nonce.length ≤ 13) (h4 : 4 ≤ size) (h16 : size ≤ 16) (hev : size % 2 = 0) (ha : aad.length ≤ 70000) (text : List (BitVec 8)) (hl : text.length ≤ 1000000000000000) (hf : Cm.Fit text.length nonce) (w0 : World) : Calls Try.prog 46 #[.string (str key), .string (str nonce), .string (str aad), .string (str text), .int .i64 ((size : Nat) : Int)] w0 fun e w' => e = .returned (.tuple #[.string (str (Cm.sealed key nonce aad text (15 - nonce.length) size)), .int .i64 0]) ∧ Below w0.heap.size w0 w' := by
 have hf1 := hf.1
 refine enter (n := 37) Try.func46 rfl rfl rfl ?_
 have hk : Below w0.heap.size w0 w0 := Below.refl _ _
 refine sr ?_
 refine w_as (evc (.string (str ([] : List (BitVec 8))))) ?_
 refine w_as Ev.c ?_
 refine nt ?_
 refine wp_seq ?_
 refine sr ?_
 refine w_mv es ?_
 refine w_mv es ?_
 refine w_mv es ?_
 refine w_mv es ?_
 refine w_val (y_len es Try.underlying9) ?_
 refine w_mv ei ?_
 refine w_call (Try.func73) (by kernel_rfl) rfl (m5 es es es ei ei) (cmRefWrong_y key nonce aad text.length size hok hn h4 h16 hev ha hf w0) ?_
 rintro _ w1 ⟨rfl, hb2⟩
 refine ⟨_, rfl, ?_⟩
 replace hk := thenB hk hb2
 refine w_as ei ?_
 refine nt ?_
 refine sr ?_
 refine w_mv ei ?_
 refine w_val (y_bin ei Ev.c b_neq) ?_
 refine nt ?_
 refine c_ff eb ?_
 refine wp_skip ?_
 refine then_n ?_
 refine sr ?_
 refine w_mv es ?_
 refine w_call (Try.func56) (by kernel_rfl) rfl (m1 es) (refNew_l key w1 hok) ?_
 rintro _ w3 ⟨bx, g, cap, rfl, hbn, hge_bx, hge_g, r_bx, r_g⟩
 refine ⟨_, rfl, ?_⟩
 have ge_bx : w0.heap.size ≤ bx := by have := hk.size; omega
 have ge_g : w0.heap.size ≤ g := by have := hk.size; omega
 replace hk := thenB hk hbn
 refine w_as (ex (pt bx 0)) ?_
 refine nt ?_
 refine sr ?_
 refine w_mv (ex (pt bx 0)) ?_
 refine w_mv es ?_
 refine w_mv es ?_
 refine w_call (Try.func74) (by kernel_rfl) rfl (m3 (ex (pt bx 0)) es es) (cmRefXor bx g cap key hok nonce text (15 - nonce.length) (by omega) (by omega) (by omega) hf1 w3 r_bx r_g) ?_
 rintro _ w4 ⟨rfl, hb5⟩
 refine ⟨_, rfl, ?_⟩
 replace r_bx := r_bx.step hb5
 replace r_g := r_g.step hb5
 replace hk := thenB hk hb5
 refine w_mv (ex (pt bx 0)) ?_
 refine w_mv es ?_
 refine w_mv es ?_
 refine w_mv es ?_
 refine w_mv ei ?_
 refine w_call (Try.func75) (by kernel_rfl) rfl (m5 (ex (pt bx 0)) es es es ei) (cmRefTag bx g cap key hok nonce aad text (15 - nonce.length) (by omega) (by omega) (by omega) size h4 h16 hev ha hf1 w4 r_bx r_g) ?_
 rintro _ w6 ⟨rfl, hb7⟩
 refine ⟨_, rfl, ?_⟩
 replace r_bx := r_bx.step hb7
 replace r_g := r_g.step hb7
 replace hk := thenB hk hb7
 refine w_val (y_bin es es (b_cat (by rw [Cm.xr_len, Cm.tg_len _ _ _ _ _ _ hok h16]; omega))) ?_
 refine w_as es ?_
 refine w_as Ev.c ?_
 refine nt ?_
 refine wp_ret ?_
 refine fin_ret2 rfl es ei ?_
 refine ⟨congrArg Ending.returned ?_, hk⟩
 show (.tuple #[.string (str ((Cm.xr key nonce text (15 - nonce.length)) ++ (Cm.tg key nonce aad text (15 - nonce.length) size))), .int .i64 0] : Value) = .tuple #[.string (str (Cm.sealed key nonce aad text (15 - nonce.length) size)), .int .i64 0]
 first | with_reducible rfl | (with_reducible congr 1 <;> omega) | (with_reducible congr 2 <;> omega) | (with_reducible congr 3 <;> omega) | rfl

theorem cmRefOpen_k (key nonce aad : List (BitVec 8)) (size : Int) (hok : ¬ Aes.okKey key.length) (text : List (BitVec 8)) (w0 : World) : Calls Try.prog 48 #[.string (str key), .string (str nonce), .string (str aad), .string (str text), .int .i64 size] w0 fun e w' => e = .returned (.tuple #[.string (str ([] : List (BitVec 8))), .int .i64 3]) ∧ Below w0.heap.size w0 w' := by
 refine enter (n := 61) Try.func48 rfl rfl rfl ?_
 have hk : Below w0.heap.size w0 w0 := Below.refl _ _
 refine sr ?_
 refine w_as (evc (.string (str ([] : List (BitVec 8))))) ?_
 refine w_as Ev.c ?_
 refine nt ?_
 refine wp_seq ?_
 refine sr ?_
 refine w_mv es ?_
 refine w_mv es ?_
 refine w_mv es ?_
 refine w_mv ei ?_
 refine w_call (Try.func73) (by kernel_rfl) rfl (m5 es es es Ev.c ei) (cmRefWrong_k key nonce aad 0 size hok w0) ?_
 rintro _ w1 ⟨rfl, hb2⟩
 refine ⟨_, rfl, ?_⟩
 replace hk := thenB hk hb2
 refine w_as ei ?_
 refine nt ?_
 refine sr ?_
 refine w_mv ei ?_
 refine w_val (y_bin ei Ev.c b_neq) ?_
 refine nt ?_
 refine c_tt eb ?_
 refine sr ?_
 refine w_mv ei ?_
 refine w_as (evc (.string (str ([] : List (BitVec 8))))) ?_
 refine w_as ei ?_
 refine nt ?_
 refine wp_ret ?_
 refine then_r ?_
 refine fin_ret2 rfl es ei ?_
 exact ⟨rfl, hk⟩

theorem cmRefOpen_n (key nonce aad : List (BitVec 8)) (size : Int) (hok : Aes.okKey key.length) (hn : ¬ (7 ≤ nonce.length ∧ nonce.length ≤ 13)) (text : List (BitVec 8)) (w0 : World) : Calls Try.prog 48 #[.string (str key), .string (str nonce), .string (str aad), .string (str text), .int .i64 size] w0 fun e w' => e = .returned (.tuple #[.string (str ([] : List (BitVec 8))), .int .i64 4]) ∧ Below w0.heap.size w0 w' := by
 refine enter (n := 61) Try.func48 rfl rfl rfl ?_
 have hk : Below w0.heap.size w0 w0 := Below.refl _ _
 refine sr ?_
 refine w_as (evc (.string (str ([] : List (BitVec 8))))) ?_
 refine w_as Ev.c ?_
 refine nt ?_
 refine wp_seq ?_
 refine sr ?_
 refine w_mv es ?_
 refine w_mv es ?_
 refine w_mv es ?_
 refine w_mv ei ?_
 refine w_call (Try.func73) (by kernel_rfl) rfl (m5 es es es Ev.c ei) (cmRefWrong_n key nonce aad 0 size hok hn w0) ?_
 rintro _ w1 ⟨rfl, hb2⟩
 refine ⟨_, rfl, ?_⟩
 replace hk := thenB hk hb2
 refine w_as ei ?_
 refine nt ?_
 refine sr ?_
 refine w_mv ei ?_
 refine w_val (y_bin ei Ev.c b_neq) ?_
 refine nt ?_
 refine c_tt eb ?_
 refine sr ?_
 refine w_mv ei ?_
 refine w_as (evc (.string (str ([] : List (BitVec 8))))) ?_
 refine w_as ei ?_
 refine nt ?_
 refine wp_ret ?_
 refine then_r ?_
 refine fin_ret2 rfl es ei ?_
 exact ⟨rfl, hk⟩

theorem cmRefOpen_t (key nonce aad : List (BitVec 8)) (size : Int) (hok : Aes.okKey key.length) (hn : 7 ≤ nonce.length ∧ nonce.length ≤ 13) (ht : ¬ (4 ≤ size ∧ size ≤ 16 ∧ size % 2 = 0)) (text : List (BitVec 8)) (w0 : World) : Calls Try.prog 48 #[.string (str key), .string (str nonce), .string (str aad), .string (str text), .int .i64 size] w0 fun e w' => e = .returned (.tuple #[.string (str ([] : List (BitVec 8))), .int .i64 5]) ∧ Below w0.heap.size w0 w' := by
 refine enter (n := 61) Try.func48 rfl rfl rfl ?_
 have hk : Below w0.heap.size w0 w0 := Below.refl _ _
 refine sr ?_
 refine w_as (evc (.string (str ([] : List (BitVec 8))))) ?_
 refine w_as Ev.c ?_
 refine nt ?_
 refine wp_seq ?_
 refine sr ?_
 refine w_mv es ?_
 refine w_mv es ?_
 refine w_mv es ?_
 refine w_mv ei ?_
 refine w_call (Try.func73) (by kernel_rfl) rfl (m5 es es es Ev.c ei) (cmRefWrong_t key nonce aad 0 size hok hn ht w0) ?_
 rintro _ w1 ⟨rfl, hb2⟩
 refine ⟨_, rfl, ?_⟩
 replace hk := thenB hk hb2
 refine w_as ei ?_
 refine nt ?_
 refine sr ?_
 refine w_mv ei ?_
 refine w_val (y_bin ei Ev.c b_neq) ?_
 refine nt ?_
 refine c_tt eb ?_
 refine sr ?_
 refine w_mv ei ?_
 refine w_as (evc (.string (str ([] : List (BitVec 8))))) ?_
 refine w_as ei ?_
 refine nt ?_
 refine wp_ret ?_
 refine then_r ?_
 refine fin_ret2 rfl es ei ?_
 exact ⟨rfl, hk⟩

theorem cmRefOpen_a (key nonce aad : List (BitVec 8)) (size : Nat) (hok : Aes.okKey key.length) (hn : 7 ≤ nonce.length ∧ nonce.length ≤ 13) (h4 : 4 ≤ size) (h16 : size ≤ 16) (hev : size % 2 = 0) (ha : 70000 < aad.length) (text : List (BitVec 8)) (w0 : World) : Calls Try.prog 48 #[.string (str key), .string (str nonce), .string (str aad), .string (str text), .int .i64 ((size : Nat) : Int)] w0 fun e w' => e = .returned (.tuple #[.string (str ([] : List (BitVec 8))), .int .i64 6]) ∧ Below w0.heap.size w0 w' := by
 refine enter (n := 61) Try.func48 rfl rfl rfl ?_
 have hk : Below w0.heap.size w0 w0 := Below.refl _ _
 refine sr ?_
 refine w_as (evc (.string (str ([] : List (BitVec 8))))) ?_
 refine w_as Ev.c ?_
 refine nt ?_
 refine wp_seq ?_
 refine sr ?_
 refine w_mv es ?_
 refine w_mv es ?_
 refine w_mv es ?_
 refine w_mv ei ?_
 refine w_call (Try.func73) (by kernel_rfl) rfl (m5 es es es Ev.c ei) (cmRefWrong_a key nonce aad 0 size hok hn h4 h16 hev ha w0) ?_
 rintro _ w1 ⟨rfl, hb2⟩
 refine ⟨_, rfl, ?_⟩
 replace hk := thenB hk hb2
 refine w_as ei ?_
 refine nt ?_
 refine sr ?_
 refine w_mv ei ?_
 refine w_val (y_bin ei Ev.c b_neq) ?_
 refine nt ?_
 refine c_tt eb ?_
 refine sr ?_
 refine w_mv ei ?_
 refine w_as (evc (.string (str ([] : List (BitVec 8))))) ?_
 refine w_as ei ?_
 refine nt ?_
 refine wp_ret ?_
 refine then_r ?_
 refine fin_ret2 rfl es ei ?_
 exact ⟨rfl, hk⟩

theorem cmRefOpen_s (key nonce aad : List (BitVec 8)) (size : Nat) (hok : Aes.okKey key.length) (hn : 7 ≤ nonce.length ∧ nonce.length ≤ 13) (h4 : 4 ≤ size) (h16 : size ≤ 16) (hev : size % 2 = 0) (ha : aad.length ≤ 70000) (text : List (BitVec 8)) (hl : text.length ≤ 1000000000000000) (hs : text.length < size) (w0 : World) : Calls Try.prog 48 #[.string (str key), .string (str nonce), .string (str aad), .string (str text), .int .i64 ((size : Nat) : Int)] w0 fun e w' => e = .returned (.tuple #[.string (str ([] : List (BitVec 8))), .int .i64 6]) ∧ Below w0.heap.size w0 w' := by
 refine enter (n := 61) Try.func48 rfl rfl rfl ?_
 have hk : Below w0.heap.size w0 w0 := Below.refl _ _
 refine sr ?_
 refine w_as (evc (.string (str ([] : List (BitVec 8))))) ?_
 refine w_as Ev.c ?_
 refine nt ?_
 refine wp_seq ?_
 refine sr ?_
 refine w_mv es ?_
 refine w_mv es ?_
 refine w_mv es ?_
 refine w_mv ei ?_
 refine w_call (Try.func73) (by kernel_rfl) rfl (m5 es es es Ev.c ei) (cmRefWrong_y key nonce aad 0 size hok hn h4 h16 hev ha ⟨by omega, Or.inr (by omega)⟩ w0) ?_
 rintro _ w1 ⟨rfl, hb2⟩
 refine ⟨_, rfl, ?_⟩
 replace hk := thenB hk hb2
 refine w_as ei ?_
 refine nt ?_
 refine sr ?_
 refine w_mv ei ?_
 refine w_val (y_bin ei Ev.c b_neq) ?_
 refine nt ?_
 refine c_ff eb ?_
 refine wp_skip ?_
 refine then_n ?_
 refine wp_seq ?_
 refine sr ?_
 refine w_mv es ?_
 refine w_val (y_len es Try.underlying9) ?_
 refine w_mv ei ?_
 refine w_val (y_bin ei ei b_lss) ?_
 refine nt ?_
 have hc3 : ((text.length : Nat) : Int) < ((size : Nat) : Int) := by omega
 refine c_t (p := ((text.length : Nat) : Int) < ((size : Nat) : Int)) eb hc3 ?_
 refine sr ?_
 refine w_as (evc (.string (str ([] : List (BitVec 8))))) ?_
 refine w_as Ev.c ?_
 refine nt ?_
 refine wp_ret ?_
 refine then_r ?_
 refine fin_ret2 rfl es ei ?_
 exact ⟨rfl, hk⟩

theorem cmRefOpen_z (key nonce aad : List (BitVec 8)) (size : Nat) (hok : Aes.okKey key.length) (hn : 7 ≤ nonce.length ∧ nonce.length ≤ 13) (h4 : 4 ≤ size) (h16 : size ≤ 16) (hev : size % 2 = 0) (ha : aad.length ≤ 70000) (text : List (BitVec 8)) (hl : text.length ≤ 1000000000000000) (m : Nat) (hm : text.length = m + size) (hf : ¬ Cm.Fit m nonce) (w0 : World) : Calls Try.prog 48 #[.string (str key), .string (str nonce), .string (str aad), .string (str text), .int .i64 ((size : Nat) : Int)] w0 fun e w' => e = .returned (.tuple #[.string (str ([] : List (BitVec 8))), .int .i64 6]) ∧ Below w0.heap.size w0 w' := by
 refine enter (n := 61) Try.func48 rfl rfl rfl ?_
 have hk : Below w0.heap.size w0 w0 := Below.refl _ _
 refine sr ?_
 refine w_as (evc (.string (str ([] : List (BitVec 8))))) ?_
 refine w_as Ev.c ?_
 refine nt ?_
 refine wp_seq ?_
 refine sr ?_
 refine w_mv es ?_
 refine w_mv es ?_
 refine w_mv es ?_
 refine w_mv ei ?_
 refine w_call (Try.func73) (by kernel_rfl) rfl (m5 es es es Ev.c ei) (cmRefWrong_y key nonce aad 0 size hok hn h4 h16 hev ha ⟨by omega, Or.inr (by omega)⟩ w0) ?_
 rintro _ w1 ⟨rfl, hb2⟩
 refine ⟨_, rfl, ?_⟩
 replace hk := thenB hk hb2
 refine w_as ei ?_
 refine nt ?_
 refine sr ?_
 refine w_mv ei ?_
 refine w_val (y_bin ei Ev.c b_neq) ?_
 refine nt ?_
 refine c_ff eb ?_
 refine wp_skip ?_
 refine then_n ?_
 refine wp_seq ?_
 refine sr ?_
 refine w_mv es ?_
 refine w_val (y_len es Try.underlying9) ?_
 refine w_mv ei ?_
 refine w_val (y_bin ei ei b_lss) ?_
 refine nt ?_
 have hc3 : ¬ (((text.length : Nat) : Int) < ((size : Nat) : Int)) := by omega
 refine c_f (p := ((text.length : Nat) : Int) < ((size : Nat) : Int)) eb hc3 ?_
 refine wp_skip ?_
 refine then_n ?_
 refine sr ?_
 refine w_mv es ?_
 refine w_val (y_len es Try.underlying9) ?_
 refine w_mv ei ?_
 refine w_val (y_bin ei ei (b_sub (by omega))) ?_
 refine w_as ei ?_
 refine nt ?_
 refine wp_seq ?_
 refine sr ?_
 refine w_mv es ?_
 refine w_mv es ?_
 refine w_mv es ?_
 refine w_mv (ex (.int .i64 ((m : Nat) : Int)) (Eq.trans (b := .int .i64 (((text.length : Nat) : Int) - ((size : Nat) : Int))) rfl (by congr 1; omega))) ?_
 refine w_mv ei ?_
 refine w_call (Try.func73) (by kernel_rfl) rfl (m5 es es es ei ei) (cmRefWrong_z key nonce aad m size hok hn h4 h16 hev ha hf w1) ?_
 rintro _ w4 ⟨rfl, hb5⟩
 refine ⟨_, rfl, ?_⟩
 replace hk := thenB hk hb5
 refine w_as ei ?_
 refine nt ?_
 refine sr ?_
 refine w_mv ei ?_
 refine w_val (y_bin ei Ev.c b_neq) ?_
 refine nt ?_
 refine c_tt eb ?_
 refine sr ?_
 refine w_mv ei ?_
 refine w_as (evc (.string (str ([] : List (BitVec 8))))) ?_
 refine w_as ei ?_
 refine nt ?_
 refine wp_ret ?_
 refine then_r ?_
 refine fin_ret2 rfl es ei ?_
 exact ⟨rfl, hk⟩

theorem cmRefOpen_y (key nonce aad : List (BitVec 8)) (size : Nat) (hok : Aes.okKey key.length) (hn : 7 ≤ nonce.length ∧ nonce.length ≤ 13) (h4 : 4 ≤ size) (h16 : size ≤ 16) (hev : size % 2 = 0) (ha : aad.length ≤ 70000) (text : List (BitVec 8)) (hl : text.length ≤ 1000000000000000) (m : Nat) (hm : text.length = m + size) (hf : Cm.Fit m nonce) (hb : Cm.tg key nonce aad (Cm.xr key nonce (text.take m) (15 - nonce.length)) (15 - nonce.length) size = text.drop m) (w0 : World) : Calls Try.prog 48 #[.string (str key), .string (str nonce), .string (str aad), .string (str text), .int .i64 ((size : Nat) : Int)] w0 fun e w' => e = .returned (.tuple #[.string (str (Cm.xr key nonce (text.take m) (15 - nonce.length))), .int .i64 0]) ∧ Below w0.heap.size w0 w' := by
 have hf1 := hf.1
 have htl : (text.take m).length = m := by rw [List.length_take]; omega
 have hxl : (Cm.xr key nonce (text.take m) (15 - nonce.length)).length = m := by rw [Cm.xr_len, htl]
 refine enter (n := 61) Try.func48 rfl rfl rfl ?_
 have hk : Below w0.heap.size w0 w0 := Below.refl _ _
 refine sr ?_
 refine w_as (evc (.string (str ([] : List (BitVec 8))))) ?_
 refine w_as Ev.c ?_
 refine nt ?_
 refine wp_seq ?_
 refine sr ?_
 refine w_mv es ?_
 refine w_mv es ?_
 refine w_mv es ?_
 refine w_mv ei ?_
 refine w_call (Try.func73) (by kernel_rfl) rfl (m5 es es es Ev.c ei) (cmRefWrong_y key nonce aad 0 size hok hn h4 h16 hev ha ⟨by omega, Or.inr (by omega)⟩ w0) ?_
 rintro _ w1 ⟨rfl, hb2⟩
 refine ⟨_, rfl, ?_⟩
 replace hk := thenB hk hb2
 refine w_as ei ?_
 refine nt ?_
 refine sr ?_
 refine w_mv ei ?_
 refine w_val (y_bin ei Ev.c b_neq) ?_
 refine nt ?_
 refine c_ff eb ?_
 refine wp_skip ?_
 refine then_n ?_
 refine wp_seq ?_
 refine sr ?_
 refine w_mv es ?_
 refine w_val (y_len es Try.underlying9) ?_
 refine w_mv ei ?_
 refine w_val (y_bin ei ei b_lss) ?_
 refine nt ?_
 have hc3 : ¬ (((text.length : Nat) : Int) < ((size : Nat) : Int)) := by omega
 refine c_f (p := ((text.length : Nat) : Int) < ((size : Nat) : Int)) eb hc3 ?_
 refine wp_skip ?_
 refine then_n ?_
 refine sr ?_
 refine w_mv es ?_
 refine w_val (y_len es Try.underlying9) ?_
 refine w_mv ei ?_
 refine w_val (y_bin ei ei (b_sub (by omega))) ?_
 refine w_as ei ?_
 refine nt ?_
 refine wp_seq ?_
 refine sr ?_
 refine w_mv es ?_
 refine w_mv es ?_
 refine w_mv es ?_
 refine w_mv (ex (.int .i64 ((m : Nat) : Int)) (Eq.trans (b := .int .i64 (((text.length : Nat) : Int) - ((size : Nat) : Int))) rfl (by congr 1; omega))) ?_
 refine w_mv ei ?_
 refine w_call (Try.func73) (by kernel_rfl) rfl (m5 es es es ei ei) (cmRefWrong_y key nonce aad m size hok hn h4 h16 hev ha hf w1) ?_
 rintro _ w4 ⟨rfl, hb5⟩
 refine ⟨_, rfl, ?_⟩
 replace hk := thenB hk hb5
 refine w_as ei ?_
 refine nt ?_
 refine sr ?_
 refine w_mv ei ?_
 refine w_val (y_bin ei Ev.c b_neq) ?_
 refine nt ?_
 refine c_ff eb ?_
 refine wp_skip ?_
 refine then_n ?_
 refine sr ?_
 refine w_mv es ?_
 refine w_call (Try.func56) (by kernel_rfl) rfl (m1 es) (refNew_l key w4 hok) ?_
 rintro _ w6 ⟨bx, g, cap, rfl, hbn, hge_bx, hge_g, r_bx, r_g⟩
 refine ⟨_, rfl, ?_⟩
 have ge_bx : w0.heap.size ≤ bx := by have := hk.size; omega
 have ge_g : w0.heap.size ≤ g := by have := hk.size; omega
 replace hk := thenB hk hbn
 refine w_as (ex (pt bx 0)) ?_
 refine nt ?_
 refine sr ?_
 refine w_mv (ex (pt bx 0)) ?_
 refine w_mv es ?_
 refine w_mv es ?_
 refine w_mv (ex (.int .i64 ((m : Nat) : Int)) (Eq.trans (b := .int .i64 (((text.length : Nat) : Int) - ((size : Nat) : Int))) rfl (by congr 1; omega))) ?_
 refine w_val (v := .string (str (text.take m))) (y_sls (ex (.string (str text))) evo.no (evo.s ei) Try.underlying9 (bnd_h (h := m) (by omega) (by omega))) ?_
 refine w_call (Try.func74) (by kernel_rfl) rfl (m3 (ex (pt bx 0)) es es) (cmRefXor bx g cap key hok nonce (text.take m) (15 - nonce.length) (by omega) (by omega) (by omega) (by rw [htl]; exact hf1) w6 r_bx r_g) ?_
 rintro _ w7 ⟨rfl, hb8⟩
 refine ⟨_, rfl, ?_⟩
 replace r_bx := r_bx.step hb8
 replace r_g := r_g.step hb8
 replace hk := thenB hk hb8
 refine w_as es ?_
 refine nt ?_
 refine ss ?_
 refine region_dc (Nat.testBit 0) 10 CcmET.mixed rfl ?_
 intro w9 hb10
 replace r_bx := r_bx.step hb10
 replace r_g := r_g.step hb10
 replace hk := thenB hk hb10
 have hS : Cls w9 w9 := Below.refl _ _
 refine dp 0 rfl (fun w' => y_mv (ex (pt bx 0))) ?_
 refine dp 1 rfl (fun w' => y_mv es) ?_
 refine dp 2 rfl (fun w' => y_mv es) ?_
 refine dp 3 rfl (fun w' => y_mv es) ?_
 refine dp 4 rfl (fun w' => y_mv ei) ?_
 refine dp 6 rfl (fun w' => y_mv es) ?_
 refine dp 7 rfl (fun w' => y_mv (ex (.int .i64 ((m : Nat) : Int)) (Eq.trans (b := .int .i64 (((text.length : Nat) : Int) - ((size : Nat) : Int))) rfl (by congr 1; omega)))) ?_
 refine dp (v := .string (str (text.drop m))) 8 rfl (fun w' => y_slf (ex (.string (str text))) (evo.s ei) Try.underlying9 (bnd_l (l := m) (by omega) (by omega))) ?_
 refine d_one 5 (by kernel_rfl) rfl ?_
 refine w_call (Try.func75) (by kernel_rfl) rfl (m5 (ex (pt bx 0)) es es es ei) (cmRefTag bx g cap key hok nonce aad (Cm.xr key nonce (text.take m) (15 - nonce.length)) (15 - nonce.length) (by omega) (by omega) (by omega) size h4 h16 hev ha (by rw [hxl]; exact hf1) w9 r_bx r_g) ?_
 rintro _ w11 ⟨rfl, hb12⟩
 refine ⟨_, rfl, ?_⟩
 replace r_bx := r_bx.step hb12
 replace r_g := r_g.step hb12
 replace hk := thenB hk hb12
 replace hS := thenB hS hb12
 refine wpList_nil ?_
 refine then_n ⟨fun _ h => thenB h (by assumption), ?_⟩
 refine dp (v := .bool (decide ((Cm.tg key nonce aad (Cm.xr key nonce (text.take m) (15 - nonce.length)) (15 - nonce.length) size) ≠ (text.drop m)))) 9 rfl (fun w' => y_bin es es b_nes) ?_
 refine d_done (by kernel_rfl) ?_
 clear hS
 refine then_n ?_
 have hc13 : ¬ ((Cm.tg key nonce aad (Cm.xr key nonce (text.take m) (15 - nonce.length)) (15 - nonce.length) size) ≠ (text.drop m)) := by exact fun h => h hb
 refine c_f (p := (Cm.tg key nonce aad (Cm.xr key nonce (text.take m) (15 - nonce.length)) (15 - nonce.length) size) ≠ (text.drop m)) eb hc13 ?_
 refine wp_skip ?_
 refine then_n ?_
 refine sr ?_
 refine w_mv es ?_
 refine w_as es ?_
 refine w_as Ev.c ?_
 refine nt ?_
 refine wp_ret ?_
 refine fin_ret2 rfl es ei ?_
 exact ⟨rfl, hk⟩

theorem cmRefOpen_b (key nonce aad : List (BitVec 8)) (size : Nat) (hok : Aes.okKey key.length) (hn : 7 ≤ nonce.length ∧ nonce.length ≤ 13) (h4 : 4 ≤ size) (h16 : size ≤ 16) (hev : size % 2 = 0) (ha : aad.length ≤ 70000) (text : List (BitVec 8)) (hl : text.length ≤ 1000000000000000) (m : Nat) (hm : text.length = m + size) (hf : Cm.Fit m nonce) (hb : ¬ Cm.tg key nonce aad (Cm.xr key nonce (text.take m) (15 - nonce.length)) (15 - nonce.length) size = text.drop m) (w0 : World) : Calls Try.prog 48 #[.string (str key), .string (str nonce), .string (str aad), .string (str text), .int .i64 ((size : Nat) : Int)] w0 fun e w' => e = .returned (.tuple #[.string (str ([] : List (BitVec 8))), .int .i64 8]) ∧ Below w0.heap.size w0 w' := by
 have hf1 := hf.1
 have htl : (text.take m).length = m := by rw [List.length_take]; omega
 have hxl : (Cm.xr key nonce (text.take m) (15 - nonce.length)).length = m := by rw [Cm.xr_len, htl]
 refine enter (n := 61) Try.func48 rfl rfl rfl ?_
 have hk : Below w0.heap.size w0 w0 := Below.refl _ _
 refine sr ?_
 refine w_as (evc (.string (str ([] : List (BitVec 8))))) ?_
 refine w_as Ev.c ?_
 refine nt ?_
 refine wp_seq ?_
 refine sr ?_
 refine w_mv es ?_
 refine w_mv es ?_
 refine w_mv es ?_
 refine w_mv ei ?_
 refine w_call (Try.func73) (by kernel_rfl) rfl (m5 es es es Ev.c ei) (cmRefWrong_y key nonce aad 0 size hok hn h4 h16 hev ha ⟨by omega, Or.inr (by omega)⟩ w0) ?_
 rintro _ w1 ⟨rfl, hb2⟩
 refine ⟨_, rfl, ?_⟩
 replace hk := thenB hk hb2
 refine w_as ei ?_
 refine nt ?_
 refine sr ?_
 refine w_mv ei ?_
 refine w_val (y_bin ei Ev.c b_neq) ?_
 refine nt ?_
 refine c_ff eb ?_
 refine wp_skip ?_
 refine then_n ?_
 refine wp_seq ?_
 refine sr ?_
 refine w_mv es ?_
 refine w_val (y_len es Try.underlying9) ?_
 refine w_mv ei ?_
 refine w_val (y_bin ei ei b_lss) ?_
 refine nt ?_
 have hc3 : ¬ (((text.length : Nat) : Int) < ((size : Nat) : Int)) := by omega
 refine c_f (p := ((text.length : Nat) : Int) < ((size : Nat) : Int)) eb hc3 ?_
 refine wp_skip ?_
 refine then_n ?_
 refine sr ?_
 refine w_mv es ?_
 refine w_val (y_len es Try.underlying9) ?_
 refine w_mv ei ?_
 refine w_val (y_bin ei ei (b_sub (by omega))) ?_
 refine w_as ei ?_
 refine nt ?_
 refine wp_seq ?_
 refine sr ?_
 refine w_mv es ?_
 refine w_mv es ?_
 refine w_mv es ?_
 refine w_mv (ex (.int .i64 ((m : Nat) : Int)) (Eq.trans (b := .int .i64 (((text.length : Nat) : Int) - ((size : Nat) : Int))) rfl (by congr 1; omega))) ?_
 refine w_mv ei ?_
 refine w_call (Try.func73) (by kernel_rfl) rfl (m5 es es es ei ei) (cmRefWrong_y key nonce aad m size hok hn h4 h16 hev ha hf w1) ?_
 rintro _ w4 ⟨rfl, hb5⟩
 refine ⟨_, rfl, ?_⟩
 replace hk := thenB hk hb5
 refine w_as ei ?_
 refine nt ?_
 refine sr ?_
 refine w_mv ei ?_
 refine w_val (y_bin ei Ev.c b_neq) ?_
 refine nt ?_
 refine c_ff eb ?_
 refine wp_skip ?_
 refine then_n ?_
 refine sr ?_
 refine w_mv es ?_
 refine w_call (Try.func56) (by kernel_rfl) rfl (m1 es) (refNew_l key w4 hok) ?_
 rintro _ w6 ⟨bx, g, cap, rfl, hbn, hge_bx, hge_g, r_bx, r_g⟩
 refine ⟨_, rfl, ?_⟩
 have ge_bx : w0.heap.size ≤ bx := by have := hk.size; omega
 have ge_g : w0.heap.size ≤ g := by have := hk.size; omega
 replace hk := thenB hk hbn
 refine w_as (ex (pt bx 0)) ?_
 refine nt ?_
 refine sr ?_
 refine w_mv (ex (pt bx 0)) ?_
 refine w_mv es ?_
 refine w_mv es ?_
 refine w_mv (ex (.int .i64 ((m : Nat) : Int)) (Eq.trans (b := .int .i64 (((text.length : Nat) : Int) - ((size : Nat) : Int))) rfl (by congr 1; omega))) ?_
 refine w_val (v := .string (str (text.take m))) (y_sls (ex (.string (str text))) evo.no (evo.s ei) Try.underlying9 (bnd_h (h := m) (by omega) (by omega))) ?_
 refine w_call (Try.func74) (by kernel_rfl) rfl (m3 (ex (pt bx 0)) es es) (cmRefXor bx g cap key hok nonce (text.take m) (15 - nonce.length) (by omega) (by omega) (by omega) (by rw [htl]; exact hf1) w6 r_bx r_g) ?_
 rintro _ w7 ⟨rfl, hb8⟩
 refine ⟨_, rfl, ?_⟩
 replace r_bx := r_bx.step hb8
 replace r_g := r_g.step hb8
 replace hk := thenB hk hb8
 refine w_as es ?_
 refine nt ?_
 refine ss ?_
 refine region_dc (Nat.testBit 0) 10 CcmET.mixed rfl ?_
 intro w9 hb10
 replace r_bx := r_bx.step hb10
 replace r_g := r_g.step hb10
 replace hk := thenB hk hb10
 have hS : Cls w9 w9 := Below.refl _ _
 refine dp 0 rfl (fun w' => y_mv (ex (pt bx 0))) ?_
 refine dp 1 rfl (fun w' => y_mv es) ?_
 refine dp 2 rfl (fun w' => y_mv es) ?_
 refine dp 3 rfl (fun w' => y_mv es) ?_
 refine dp 4 rfl (fun w' => y_mv ei) ?_
 refine dp 6 rfl (fun w' => y_mv es) ?_
 refine dp 7 rfl (fun w' => y_mv (ex (.int .i64 ((m : Nat) : Int)) (Eq.trans (b := .int .i64 (((text.length : Nat) : Int) - ((size : Nat) : Int))) rfl (by congr 1; omega)))) ?_
 refine dp (v := .string (str (text.drop m))) 8 rfl (fun w' => y_slf (ex (.string (str text))) (evo.s ei) Try.underlying9 (bnd_l (l := m) (by omega) (by omega))) ?_
 refine d_one 5 (by kernel_rfl) rfl ?_
 refine w_call (Try.func75) (by kernel_rfl) rfl (m5 (ex (pt bx 0)) es es es ei) (cmRefTag bx g cap key hok nonce aad (Cm.xr key nonce (text.take m) (15 - nonce.length)) (15 - nonce.length) (by omega) (by omega) (by omega) size h4 h16 hev ha (by rw [hxl]; exact hf1) w9 r_bx r_g) ?_
 rintro _ w11 ⟨rfl, hb12⟩
 refine ⟨_, rfl, ?_⟩
 replace r_bx := r_bx.step hb12
 replace r_g := r_g.step hb12
 replace hk := thenB hk hb12
 replace hS := thenB hS hb12
 refine wpList_nil ?_
 refine then_n ⟨fun _ h => thenB h (by assumption), ?_⟩
 refine dp (v := .bool (decide ((Cm.tg key nonce aad (Cm.xr key nonce (text.take m) (15 - nonce.length)) (15 - nonce.length) size) ≠ (text.drop m)))) 9 rfl (fun w' => y_bin es es b_nes) ?_
 refine d_done (by kernel_rfl) ?_
 clear hS
 refine then_n ?_
 have hc13 : (Cm.tg key nonce aad (Cm.xr key nonce (text.take m) (15 - nonce.length)) (15 - nonce.length) size) ≠ (text.drop m) := by exact hb
 refine c_t (p := (Cm.tg key nonce aad (Cm.xr key nonce (text.take m) (15 - nonce.length)) (15 - nonce.length) size) ≠ (text.drop m)) eb hc13 ?_
 refine sr ?_
 refine w_as (evc (.string (str ([] : List (BitVec 8))))) ?_
 refine w_as Ev.c ?_
 refine nt ?_
 refine wp_ret ?_
 refine then_r ?_
 refine fin_ret2 rfl es ei ?_
 exact ⟨rfl, hk⟩
end Go.Proofs.Ytjdcpejcnmpiaaa
