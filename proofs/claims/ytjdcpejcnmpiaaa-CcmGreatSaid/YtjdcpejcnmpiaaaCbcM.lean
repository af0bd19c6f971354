/-
  The last block of a chain alone, by the program. Conditions as each says.
-/
import Derived.Test.YtjdcpejcnmpiaaaRows
import Derived.Test.YtjdcpejcnmpiaaaGenMore
import Derived.Test.YtjdcpejcnmpiaaaCbcPlain
import Derived.Test.YtjdcpejcnmpiaaaGenSh
import Derived.ProofKit
namespace Go.Proofs.Ytjdcpejcnmpiaaa
open Go.RowKit
set_option linter.unusedSimpArgs false
set_option linter.unusedVariables false
set_option maxRecDepth 100000
set_option maxHeartbeats 1000000
namespace CbcMT
theorem mixed : Try.prog.follows .mixedOrders = true := by kernel_rfl
theorem sc5 : (Try.prog.underlying 5).map scal = some true := by rw [Try.underlying5]; rfl
theorem sc9 : (Try.prog.underlying 9).map scal = some true := by rw [Try.underlying9]; rfl
theorem so3 : (Try.prog.underlying 3).isSome = true := by rw [Try.underlying3]; rfl
theorem so5 : (Try.prog.underlying 5).isSome = true := by rw [Try.underlying5]; rfl
theorem sz5 : (Try.prog.info? 5).map (·.size) = some 1 := by kernel_rfl
theorem sz9 : (Try.prog.info? 9).map (·.size) = some 1 := by kernel_rfl
end CbcMT
theorem mac_k (key : List (BitVec 8)) (hok : ¬ Aes.okKey key.length) (text : List (BitVec 8)) (w0 : World) : Calls Try.prog 32 #[.string (str key), .string (str text)] w0 fun e w' => e = .returned (.tuple #[.string (str ([] : List (BitVec 8))), .int .i64 3]) ∧ Below w0.heap.size w0 w' := by
 refine enter (n := 61) Try.func32 rfl rfl rfl ?_
 have hk : Below w0.heap.size w0 w0 := Below.refl _ _
 refine sr ?_
 refine w_as (evc (.string (str ([] : List (BitVec 8))))) ?_
 refine w_as Ev.c ?_
 refine nt ?_
 refine sr ?_
 refine w_mv es ?_
 refine w_call (Try.func62) (by kernel_rfl) rfl (m1 es) (new_l_no key w0 hok) ?_
 rintro _ _ ⟨rfl, rfl⟩
 refine ⟨_, rfl, ?_⟩
 refine w_mv (ex (.tuple #[.pointer none, .int .i64 3])) ?_
 refine w_val ye ?_
 refine w_val ye ?_
 refine w_as (ex (.pointer none)) ?_
 refine w_as ei ?_
 refine nt ?_
 refine wp_seq ?_
 refine sr ?_
 refine w_mv ei ?_
 refine w_val (y_bin ei Ev.c b_neq) ?_
 refine nt ?_
 refine c_tt eb ?_
 refine sr ?_
 refine w_mv ei ?_
 refine w_as (evc (.string (str ([] : List (BitVec 8))))) ?_
 refine w_as ei ?_
 refine nt ?_
 refine wp_ret ?_
 refine then_r ?_
 refine fin_ret2 rfl es ei ?_
 exact ⟨rfl, hk⟩

theorem mac_z (key : List (BitVec 8)) (hok : Aes.okKey key.length) (text : List (BitVec 8)) (hz : 140000 < text.length) (w0 : World) : Calls Try.prog 32 #[.string (str key), .string (str text)] w0 fun e w' => e = .returned (.tuple #[.string (str ([] : List (BitVec 8))), .int .i64 6]) ∧ Below w0.heap.size w0 w' := by
 refine enter (n := 61) Try.func32 rfl rfl rfl ?_
 have hk : Below w0.heap.size w0 w0 := Below.refl _ _
 refine sr ?_
 refine w_as (evc (.string (str ([] : List (BitVec 8))))) ?_
 refine w_as Ev.c ?_
 refine nt ?_
 refine sr ?_
 refine w_mv es ?_
 refine w_call (Try.func62) (by kernel_rfl) rfl (m1 es) (new_l key w0 hok) ?_
 rintro _ w1 ⟨p, rfl, hge_p, hc, hb_p⟩
 refine ⟨_, rfl, ?_⟩
 have ge_p : w0.heap.size ≤ p := by have := hk.size; omega
 replace hk := thenB hk hb_p
 refine w_mv (ex (.tuple #[pt p 0, .int .i64 0])) ?_
 refine w_val ye ?_
 refine w_val ye ?_
 refine w_as (ex (pt p 0)) ?_
 refine w_as ei ?_
 refine nt ?_
 refine wp_seq ?_
 refine sr ?_
 refine w_mv ei ?_
 refine w_val (y_bin ei Ev.c b_neq) ?_
 refine nt ?_
 refine c_ff eb ?_
 refine wp_skip ?_
 refine then_n ?_
 refine wp_seq ?_
 refine sr ?_
 refine w_mv es ?_
 refine w_val (y_len es Try.underlying9) ?_
 refine w_val (y_bin ei Ev.c b_gtr) ?_
 refine nt ?_
 have hc2 : 140000 < ((text.length : Nat) : Int) := by omega
 refine c_t (p := 140000 < ((text.length : Nat) : Int)) eb hc2 ?_
 refine sr ?_
 refine w_as (evc (.string (str ([] : List (BitVec 8))))) ?_
 refine w_as Ev.c ?_
 refine nt ?_
 refine wp_ret ?_
 refine then_r ?_
 refine fin_ret2 rfl es ei ?_
 exact ⟨rfl, hk⟩

theorem mac_y (key : List (BitVec 8)) (hok : Aes.okKey key.length) (text : List (BitVec 8)) (hz : text.length ≤ 140000) (w0 : World) : Calls Try.prog 32 #[.string (str key), .string (str text)] w0 fun e w' => e = .returned (.tuple #[.string (str (Cb.mac key text)), .int .i64 0]) ∧ Below w0.heap.size w0 w' := by
 have hle := fun t => Cb.ch_len key Cb.zero16 (Cb.z text) hok rfl t
 have hzl : (Cb.z text).length = text.length + (16 - text.length % 16) % 16 := Cb.z_len text
 refine enter (n := 61) Try.func32 rfl rfl rfl ?_
 have hk : Below w0.heap.size w0 w0 := Below.refl _ _
 refine sr ?_
 refine w_as (evc (.string (str ([] : List (BitVec 8))))) ?_
 refine w_as Ev.c ?_
 refine nt ?_
 refine sr ?_
 refine w_mv es ?_
 refine w_call (Try.func62) (by kernel_rfl) rfl (m1 es) (new_l key w0 hok) ?_
 rintro _ w1 ⟨p, rfl, hge_p, hc, hb_p⟩
 refine ⟨_, rfl, ?_⟩
 have ge_p : w0.heap.size ≤ p := by have := hk.size; omega
 replace hk := thenB hk hb_p
 refine w_mv (ex (.tuple #[pt p 0, .int .i64 0])) ?_
 refine w_val ye ?_
 refine w_val ye ?_
 refine w_as (ex (pt p 0)) ?_
 refine w_as ei ?_
 refine nt ?_
 refine wp_seq ?_
 refine sr ?_
 refine w_mv ei ?_
 refine w_val (y_bin ei Ev.c b_neq) ?_
 refine nt ?_
 refine c_ff eb ?_
 refine wp_skip ?_
 refine then_n ?_
 refine wp_seq ?_
 refine sr ?_
 refine w_mv es ?_
 refine w_val (y_len es Try.underlying9) ?_
 refine w_val (y_bin ei Ev.c b_gtr) ?_
 refine nt ?_
 have hc2 : ¬ (140000 < ((text.length : Nat) : Int)) := by omega
 refine c_f (p := 140000 < ((text.length : Nat) : Int)) eb hc2 ?_
 refine wp_skip ?_
 refine then_n ?_
 refine sr ?_
 refine w_alloc (m := 16) (F := fun j => U8 (0#8)) (by kernel_rfl) ?_
 intro b_x w3 hbe_b_x r_b_x hb4
 have ge_b_x : w0.heap.size ≤ b_x := by have := hk.size; omega
 clear hbe_b_x
 replace hk := thenB hk hb4
 replace hc := hc.below hb4
 refine nt ?_
 refine wp_seq ?_
 refine sr ?_
 refine w_as Ev.c ?_
 refine nt ?_
 refine wp_block ?_
 refine c_loop (fun dN aN wl => ∃ (t : Nat), dN = (text.length + 16 - 16 * t) ∧ ∃ f5, aN = fr 61 f5 ∧ (16 * t < text.length + 16) ∧ f5 0 = .string (str key) ∧ f5 1 = .string (str text) ∧ f5 4 = .string (str ([] : List (BitVec 8))) ∧ f5 5 = .int .i64 0 ∧ f5 6 = pt p 0 ∧ f5 7 = .int .i64 0 ∧ f5 8 = pt b_x 0 ∧ f5 9 = .int .i64 (((16 * t) : Nat) : Int) ∧ Row wl b_x 73 16 (fun j => U8 (gb (Cb.ch key Cb.zero16 (Cb.z text) t) j)) ∧ CiphAt Aes.bk Aes.undo wl p (Aes.words key) ∧ Below w0.heap.size w0 wl) (text.length + 16 - 16 * 0) ?_ ?_
 · exact ⟨0, rfl, _, rfl, iv, rfl, rfl, rfl, rfl, rfl, rfl, rfl, (etv (b := .int .i64 0) rfl), (r_b_x.congr (fun j hj => by exact congrArg U8 (gb_rep 16 j).symm)), hc, hk⟩
 ·skip
  clear r_b_x hc hk
  rintro _ _ w6 ⟨t, rfl, f5, rfl, i1_0, s1_0, s1_1, s1_4, s1_5, s1_6, s1_7, s1_8, s1_9, r_b_x, hc, hk⟩
  refine wp_seq ?_
  refine sr ?_
  refine w_mv (ei s1_9) ?_
  refine w_mv (es s1_1) ?_
  refine w_val (y_len es Try.underlying9) ?_
  refine w_val (y_bin ei ei b_lss) ?_
  refine nt ?_
  refine c_if (p := (((16 * t) : Nat) : Int) < ((text.length : Nat) : Int)) eb (fun hc7 => ?_) (fun hc7 => ?_)
  ·skip
   refine wp_skip ?_
   refine then_n ?_
   refine wp_seq ?_
   refine wp_block ?_
   refine wp_seq ?_
   refine sr ?_
   refine w_mv (es s1_1) ?_
   refine w_val (y_len es Try.underlying9) ?_
   refine w_mv (ei s1_9) ?_
   refine w_val (y_bin ei ei (b_sub (by omega))) ?_
   refine w_val (v := .int .i64 (min 16 (((text.length : Nat) : Int) - (((16 * t) : Nat) : Int)))) (y_min Ev.c ei) ?_
   refine w_mv Ev.c ?_
   refine nt ?_
   refine wp_block ?_
   refine c_loop (fun dN aN wl => ∃ (k : Nat), dN = (16 - k) ∧ ∃ f8, aN = fr 61 f8 ∧ (k ≤ 16) ∧ (16 * t + k ≤ text.length) ∧ f8 0 = .string (str key) ∧ f8 1 = .string (str text) ∧ f8 4 = .string (str ([] : List (BitVec 8))) ∧ f8 5 = .int .i64 0 ∧ f8 6 = pt p 0 ∧ f8 7 = .int .i64 0 ∧ f8 8 = pt b_x 0 ∧ f8 9 = .int .i64 (((16 * t) : Nat) : Int) ∧ f8 34 = .int .i64 (min 16 (((text.length : Nat) : Int) - (((16 * t) : Nat) : Int))) ∧ f8 35 = .int .i64 ((k : Nat) : Int) ∧ Row wl b_x 73 16 (fun j => if j < k then (fun j => U8 (gb (Cb.ch key Cb.zero16 (Cb.z text) t) j ^^^ gb text (16 * t + j))) j else (fun j => U8 (gb (Cb.ch key Cb.zero16 (Cb.z text) t) j)) j) ∧ CiphAt Aes.bk Aes.undo wl p (Aes.words key) ∧ Below w0.heap.size w0 wl) (16 - 0) ?_ ?_
   · exact ⟨0, rfl, _, rfl, iv, iv, s1_0, s1_1, s1_4, s1_5, s1_6, s1_7, s1_8, s1_9, rfl, (etv (b := .int .i64 0) rfl), (r_b_x.congr (fun j hj => by (try dsimp only); rw [if_neg (by omega)])), hc, hk⟩
   ·skip
    clear r_b_x hc hk
    rintro _ _ w9 ⟨k, rfl, f8, rfl, i2_0, i2_1, s2_0, s2_1, s2_4, s2_5, s2_6, s2_7, s2_8, s2_9, s2_34, s2_35, r_b_x, hc, hk⟩
    refine sr ?_
    refine w_val (y_bin (ei s2_35) (ei s2_34) b_lss) ?_
    refine nt ?_
    refine wp_seq ?_
    refine c_if (p := ((k : Nat) : Int) < (min 16 (((text.length : Nat) : Int) - (((16 * t) : Nat) : Int)))) eb (fun hc10 => ?_) (fun hc10 => ?_)
    ·skip
     refine wp_skip ?_
     refine then_n ?_
     refine wp_seq ?_
     refine wp_block ?_
     refine sr ?_
     refine w_mv (ei s2_35) ?_
     refine w_as ei ?_
     refine nt ?_
     refine region_t 10 CbcMT.mixed (by kernel_rfl) ?_
     simp only [List.take_succ_cons, List.take_zero, List.drop_succ_cons, List.drop_zero]
     refine q_mv ei ?_
     refine q_val (fun w' hw' => y_ia1z (i := k) (ex (pt b_x 0) s2_8) ei Try.underlying73 CbcMT.sz5 (by omega) (by omega)) ?_
     refine q_val (v := U8 (gb (Cb.ch key Cb.zero16 (Cb.z text) t) k)) (fun w' hw' => y_ld (ex (pt b_x k)) CbcMT.sc5 (cls_cell (r_b_x.val (by omega) ((if_neg (by omega)).trans rfl)) r_b_x.lt w' hw')) ?_
     refine q_mv (es s2_1) ?_
     refine q_mv (ei s2_9) ?_
     refine q_mv ei ?_
     refine q_val (fun w' hw' => y_bin ei ei (b_add (by omega))) ?_
     refine q_val (v := U8 (gb text ((16 * t) + k))) (fun w' hw' => y_idx (ex (.string (str text))) ei Try.underlying9 (by omega) (by omega)) ?_
     refine q_val (fun w' hw' => y_bin e8 e8 xor8) ?_
     refine q_val (fun w' hw' => y_ia1z (i := k) (ex (pt b_x 0) s2_8) ei Try.underlying73 CbcMT.sz5 (by omega) (by omega)) ?_
     refine q_nil ?_
     intro w11 hb12
     replace r_b_x := r_b_x.step hb12
     replace hk := thenB hk hb12
     replace hc := hc.below hb12
     have hx_hc := CiphAt.onward hc r_b_x (by decide) (by decide)
     refine w_st (v := U8 ((gb (Cb.ch key Cb.zero16 (Cb.z text) t) k) ^^^ (gb text ((16 * t) + k)))) (ex (pt b_x k)) e8 rfl rfl CbcMT.sz5 r_b_x (by omega) ?_
     clear r_b_x; intro w13 r_b_x hg14 _
     replace hk := thenG hk hg14 (by omega)
     replace hc := hx_hc _ hg14
     refine wpList_nil ?_
     refine inb_n ?_
     refine then_n ?_
     refine wp_region_lit ?_
     refine w_val (y_bin (ei s2_35) Ev.c (b_add (by omega))) ?_
     refine w_mv ei ?_
     refine wpList_nil ?_
     exact then_n ⟨_, (by omega), k + 1, rfl, _, rfl, iv, iv, s2_0, s2_1, s2_4, s2_5, s2_6, s2_7, s2_8, s2_9, s2_34, (etv (b := .int .i64 (((k : Nat) : Int) + 1)) rfl), (r_b_x.congr (fun j hj => by (try dsimp only); by_cases e : j = k; (rw [if_pos e, if_pos (by omega), e]); (rw [if_neg e]; by_cases e2 : j < k; (rw [if_pos e2, if_pos (by omega)]); (rw [if_neg e2, if_neg (by omega)])))), hc, hk⟩
    ·skip
     refine wp_exit ?_
     refine then_x ?_
     have hxl : (Oct.xor (Cb.ch key Cb.zero16 (Cb.z text) t) (Cb.bk (Cb.z text) t)).length = 16 := by rw [Oct.length_xor, hle, Cb.bk_len _ _ (by omega)]; rfl
     have hE : (Aes.enc (Aes.words key) (Oct.xor (Cb.ch key Cb.zero16 (Cb.z text) t) (Cb.bk (Cb.z text) t))).length = 16 := Cb.enc_len key _ hok
     replace r_b_x := r_b_x.congr (g := fun j => U8 (gb (Oct.xor (Cb.ch key Cb.zero16 (Cb.z text) t) (Cb.bk (Cb.z text) t)) j)) (fun j hj => by (try dsimp only); rw [Cb.mac_step key text t k j hok hj (by omega) (by omega)]; split <;> rfl)
     refine then_x ?_
     refine inb_x ?_
     refine then_n ?_
     refine sr ?_
     refine w_mv (ex (pt p 0) s2_6) ?_
     refine w_val (v := .slice (some ⟨b_x, 0, none⟩) 16 16) (y_sloff (y_slp (ex (pt b_x 0) s2_8) evo.no evo.no Try.underlying73 CbcMT.sz5 bnd_ (by omega)) (by first | rfl | omega) rfl) ?_
     refine w_val (y_str (l := Oct.xor (Cb.ch key Cb.zero16 (Cb.z text) t) (Cb.bk (Cb.z text) t)) el (by first | rfl | assumption | (simp; omega) | omega) Try.underlying54 Try.underlying5 Try.underlying9 (fun j hj => by rw [Nat.zero_add]; exact (r_b_x.cell (by omega)))) ?_
     refine w_call (Try.func63) (by kernel_rfl) rfl (m2 (ex (pt p 0)) es) (enc_l p key (Oct.xor (Cb.ch key Cb.zero16 (Cb.z text) t) (Cb.bk (Cb.z text) t)) w9 hok hc hxl) ?_
     rintro _ w15 ⟨rfl, hb16⟩
     refine ⟨_, rfl, ?_⟩
     replace r_b_x := r_b_x.step hb16
     replace hk := thenB hk hb16
     replace hc := hc.below hb16
     refine w_mv (ex (.tuple #[.string (str (Aes.enc (Aes.words key) (Oct.xor (Cb.ch key Cb.zero16 (Cb.z text) t) (Cb.bk (Cb.z text) t)))), .int .i64 0])) ?_
     refine w_val ye ?_
     refine w_val ye ?_
     refine w_as es ?_
     refine w_as ei ?_
     refine nt ?_
     refine wp_region_lit ?_
     refine w_val (v := .slice (some ⟨b_x, 0, none⟩) 16 16) (y_sloff (y_slp (ex (pt b_x 0) s2_8) evo.no evo.no Try.underlying73 CbcMT.sz5 bnd_ (by omega)) (by first | rfl | omega) rfl) ?_
     refine w_mv es ?_
     have hx_hc := CiphAt.onward hc r_b_x (by decide) (by decide)
     refine w_copys (l := Aes.enc (Aes.words key) (Oct.xor (Cb.ch key Cb.zero16 (Cb.z text) t) (Cb.bk (Cb.z text) t))) el es Try.underlying54 CbcMT.sz5 r_b_x (by omega) ?_
     clear r_b_x; intro w17 r_b_x hg18 _
     replace hk := thenG hk hg18 (by omega)
     replace hc := hx_hc _ hg18
     refine wpList_nil ?_
     refine inb_n ?_
     refine then_n ?_
     refine wp_region_lit ?_
     refine w_mv (ei s2_9) ?_
     refine w_val (y_bin ei Ev.c (b_add (by omega))) ?_
     refine w_as ei ?_
     refine wpList_nil ?_
     exact then_n ⟨_, (by omega), t + 1, rfl, _, rfl, iv, s2_0, s2_1, s2_4, s2_5, s2_6, s2_7, s2_8, (etv (b := .int .i64 ((((16 * t) : Nat) : Int) + 16)) rfl), (r_b_x.congr (fun j hj => by (try dsimp only); rw [if_pos (by omega), Nat.sub_zero]; rfl)), hc, hk⟩
  ·skip
   refine wp_exit ?_
   refine then_x ?_
   refine then_x ?_
   refine inb_x ?_
   refine then_n ?_
   refine wp_seq ?_
   have hxl := hle t
   refine wp_region_lit ?_
   refine w_val (v := .slice (some ⟨b_x, 0, none⟩) 16 16) (y_sloff (y_slp (ex (pt b_x 0) s1_8) evo.no evo.no Try.underlying73 CbcMT.sz5 bnd_ (by omega)) (by first | rfl | omega) rfl) ?_
   refine w_val (y_str (l := Cb.ch key Cb.zero16 (Cb.z text) t) el (by first | rfl | assumption | (simp; omega) | omega) Try.underlying54 Try.underlying5 Try.underlying9 (fun j hj => by rw [Nat.zero_add]; exact (r_b_x.cell (by omega)))) ?_
   refine w_as es ?_
   refine w_as Ev.c ?_
   refine nt ?_
   refine wp_ret ?_
   refine fin_ret2 rfl es ei ?_
   refine ⟨congrArg Ending.returned ?_, hk⟩
   show (.tuple #[.string (str (Cb.ch key Cb.zero16 (Cb.z text) t)), .int .i64 0] : Value) = .tuple #[.string (str (Cb.mac key text)), .int .i64 0]
   rw [show t = (text.length + 15) / 16 from by omega]; rfl
end Go.Proofs.Ytjdcpejcnmpiaaa
