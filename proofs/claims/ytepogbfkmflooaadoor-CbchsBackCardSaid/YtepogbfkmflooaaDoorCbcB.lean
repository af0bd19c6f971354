/-
  Chains of blocks: the program's inner functions. Conditions as each says.
-/
import Derived.Test.YtepogbfkmflooaaDoorRows
import Derived.Test.YtepogbfkmflooaaDoorCbcA
import Derived.Test.YtepogbfkmflooaaDoorOctW
import Derived.Test.YtepogbfkmflooaaDoorGenSh
import Derived.ProofKit
namespace Go.Proofs.YtepogbfkmflooaaDoor
open Go.RowKit
set_option linter.unusedSimpArgs false
set_option linter.unusedVariables false
set_option maxRecDepth 100000
set_option maxHeartbeats 1000000
namespace CbcBT
theorem mixed : Tryd.prog.follows .mixedOrders = true := by kernel_rfl
theorem so3 : (Tryd.prog.underlying 3).isSome = true := by rw [Tryd.underlying3]; rfl
theorem so5 : (Tryd.prog.underlying 5).isSome = true := by rw [Tryd.underlying5]; rfl
end CbcBT
theorem ready_y (key vi : List (BitVec 8)) (hok : Aes.okKey key.length) (hiv : vi.length = 16) (w0 : World) : Calls Tryd.prog 24 #[.string (str key), .string (str vi)] w0 fun e w' => ∃ b, e = .returned (.tuple #[.pointer (some ⟨b, 0, none⟩), .int .i64 0]) ∧ w0.heap.size ≤ b ∧ CiphAt Aes.bk Aes.undo w' b (Aes.words key) ∧ Below w0.heap.size w0 w' := by
 refine enter (n := 20) Tryd.func24 rfl rfl rfl ?_
 have hk : Below w0.heap.size w0 w0 := Below.refl _ _
 refine sr (w_as Ev.c (w_as Ev.c (nt (sr (w_mv es (w_call (Tryd.func44) kr rfl (m1 es) (new_l key w0 hok) ?_))))))
 rintro _ w1 ⟨p, rfl, ac, hc, aa⟩
 refine ⟨_, rfl, ?_⟩
 have ab : w0.heap.size ≤ p := by have := hk.size; omega
 replace hk := thenB hk aa
 refine w_mv (ex (.tuple #[pt p 0, .int .i64 0])) (w_val ye (w_val ye (w_as (ex (pt p 0)) (w_as ei (nt (wp_seq (sr (w_mv ei (w_val (y_bin ei Ev.c b_neq) (nt (c_ff eb (wp_skip (then_n (wp_seq (sr (w_mv es (w_val (y_len es Tryd.underlying9) (w_val (y_bin ei Ev.c b_neq) (nt ?_)))))))))))))))))))
 have ad : ¬ (((vi.length : Nat) : Int) ≠ 16) := by omega
 refine c_f (p := ((vi.length : Nat) : Int) ≠ 16) eb ad (wp_skip (then_n (sr (w_mv (ex (pt p 0)) (w_as (ex (pt p 0)) (w_as Ev.c (nt (wp_ret (fin_ret2 rfl (ex (pt p 0)) ei ?_)))))))))
 exact ⟨p, rfl, ab, hc, hk⟩

theorem chain_l (p : Nat) (key vi : List (BitVec 8)) (hok : Aes.okKey key.length) (hiv : vi.length = 16) (text : List (BitVec 8)) (ht : text.length % 16 = 0) (hl : text.length ≤ 70016) (w0 : World) (hc : CiphAt Aes.bk Aes.undo w0 p (Aes.words key)) : Calls Tryd.prog 26 #[pt p 0, .string (str vi), .string (str text)] w0 fun e w' => e = .returned (.string (str (Cb.chain key vi text))) ∧ Below w0.heap.size w0 w' := by
 have ao := fun t => Cb.ch_len key vi text hok hiv t
 refine enter (n := 35) Tryd.func26 rfl rfl rfl ?_
 have hk : Below w0.heap.size w0 w0 := Below.refl _ _
 refine sr (w_as (evc (.string (str ([] : List (BitVec 8))))) (nt (sr (w_mv es (w_val (y_len es Tryd.underlying9) (w_mk0 (c := text.length) (bytes := 1) (size := 1) (zv := U8 (0#8)) (F := fun _ => undef) Ev.c ei rfl rfl Tryd.underlying63 kr om (by simp only [maxLen]; omega) hk.size ?_))))))
 intro v1 w2 af ar am
 replace hk := thenB hk am
 replace hc := hc.below am
 refine w_as (ex v1) (nt (wp_seq (sr (w_as Ev.c (nt (wp_block ?_))))))
 refine c_loop (fun dN aN wl => ∃ (t : Nat) (vo : Value), dN = (text.length - 16 * t) ∧ ∃ f5, aN = fr 35 f5 ∧ (16 * t ≤ text.length) ∧ f5 0 = pt p 0 ∧ f5 1 = .string (str (Cb.ch key vi text t)) ∧ f5 2 = .string (str text) ∧ f5 6 = .string (str ([] : List (BitVec 8))) ∧ f5 7 = vo ∧ f5 8 = .int .i64 (((16 * t) : Nat) : Int) ∧ Own wl w0.heap.size 5 1 vo (16 * t) (fun j => U8 (gb (Cb.ch key vi text (j / 16 + 1)) (j % 16))) ∧ CiphAt Aes.bk Aes.undo wl p (Aes.words key) ∧ Below w0.heap.size w0 wl) (text.length - 16 * 0) ?_ ?_
 · exact ⟨0, v1, rfl, _, rfl, iv, rfl, (Eq.trans (b := .string (str vi)) rfl (by rfl)), rfl, rfl, (etv (b := v1) rfl), ti, (own_n (af.cg) om), hc, hk⟩
 ·skip
  clear af hc hk
  rintro _ _ w6 ⟨t, vo, rfl, f5, rfl, aq, ag, al, ac, aj, ae, ab, aa, hc, hk⟩
  have hE : (Aes.enc (Aes.words key) (Oct.xor (Cb.ch key vi text t) ((text.drop (16 * t)).take (16 * t + 16 - 16 * t)))).length = 16 := Cb.enc_len key _ hok
  refine wp_seq (sr (w_mv (ei ab) (w_mv (es ac) (w_val (y_len es Tryd.underlying9) (w_val (y_bin ei ei b_lss) (nt ?_))))))
  refine c_if (p := (((16 * t) : Nat) : Int) < ((text.length : Nat) : Int)) eb (fun hc7 => ?_) (fun hc7 => ?_)
  ·skip
   refine wp_skip (then_n (wp_seq (wp_block (sr (w_mv (ex (pt p 0) ag) (w_mv (es al) (w_mv (es ac) (w_mv (ei ab) (w_mv (ei ab) (w_val (y_bin ei Ev.c (b_add om)) (w_val (v := .string (str ((text.drop (16 * t)).take (((16 * t) + 16) - (16 * t))))) (y_sls (ex (.string (str text))) (evo.s ei) (evo.s ei) Tryd.underlying9 (bnd_lh (l := (16 * t)) (h := ((16 * t) + 16)) om om om om)) (w_call (Tryd.func36) kr rfl (m2 es es) (xor_c (Cb.ch key vi text t) ((text.drop (16 * t)).take (((16 * t) + 16) - (16 * t))) (by (try simp only [ao, List.length_take, List.length_drop, Cb.dec_len]); omega) w6) ?_))))))))))))
   rintro _ w8 ⟨rfl, ak⟩
   refine ⟨_, rfl, ?_⟩
   replace aa := aa.step ak
   replace hk := thenB hk ak
   replace hc := hc.below ak
   refine w_call (Tryd.func46) kr rfl (m2 (ex (pt p 0)) es) (enc_l p key (Oct.xor (Cb.ch key vi text t) ((text.drop (16 * t)).take (((16 * t) + 16) - (16 * t)))) w8 hok hc (by simp only [Oct.length_xor, List.length_take, List.length_drop, ao]; omega)) ?_
   rintro _ av ⟨rfl, ad⟩
   refine ⟨_, rfl, ?_⟩
   replace aa := aa.step ad
   replace hk := thenB hk ad
   replace hc := hc.below ad
   refine w_mv (ex (.tuple #[.string (str (Aes.enc (Aes.words key) (Oct.xor (Cb.ch key vi text t) ((text.drop (16 * t)).take (((16 * t) + 16) - (16 * t)))))), .int .i64 0])) (w_val ye (w_val ye (w_as es (nt (wp_region_lit (w_mv (ex vo ae) (w_mv es (w_apps (K0 := (16 * t)) (l := Aes.enc (Aes.words key) (Oct.xor (Cb.ch key vi text t) ((text.drop (16 * t)).take (((16 * t) + 16) - (16 * t))))) (ex vo) es Tryd.underlying63 Tryd.underlying9 kr aa hk.size om ?_))))))))
   intro an au ai ah ap
   replace hk := thenO hk ah (fun g e => (aa.block_lt g e).2)
   replace hc := CiphAt.onwardO hc aa (by decide) (by decide) _ ah
   clear aa
   refine w_as (ex an) (wpList_nil (inb_n (then_n (wp_region_lit (w_mv (ei ab) (w_val (y_bin ei Ev.c (b_add om)) (w_as ei (wpList_nil ?_))))))))
   exact then_n ⟨_, om, t + 1, an, rfl, _, rfl, iv, ag, (Eq.trans (b := .string (str (Aes.enc (Aes.words key) (Oct.xor (Cb.ch key vi text t) ((text.drop (16 * t)).take (((16 * t) + 16) - (16 * t))))))) rfl (by exact congrArg (fun l => Value.string (str l)) (Cb.ch_at key vi text t _ om))), ac, aj, rfl, ti, (own_n (ai.congr (fun j hj => by (try dsimp only); by_cases e : j < 16 * t * 1; (rw [if_pos e]); (rw [if_neg e, Cb.ch_at key vi text t _ om, show j / 16 = t from by omega, show j % 16 = 0 + (j - 16 * t * 1) from by omega]))) om), hc, hk⟩
  ·skip
   refine wp_exit (then_x (then_x (inb_x (then_n (sr (w_mv (ex vo ae) (w_val (v := .string (str (Cb.chain key vi text))) (y_strown (l := Cb.chain key vi text) (ex vo) aa  (by exact (by rw [Cb.chain_len]; omega)) (fun j hj => by exact (by rw [Cb.gb_chain _ _ _ _ om])) Tryd.underlying63 Tryd.underlying5 Tryd.underlying9) (w_as es (nt (wp_ret (fin_ret1 rfl es ?_)))))))))))
   exact ⟨rfl, hk⟩

theorem unchain_l (p : Nat) (key vi : List (BitVec 8)) (hok : Aes.okKey key.length) (hiv : vi.length = 16) (text : List (BitVec 8)) (ht : text.length % 16 = 0) (hl : text.length ≤ 70016) (w0 : World) (hc : CiphAt Aes.bk Aes.undo w0 p (Aes.words key)) : Calls Tryd.prog 32 #[pt p 0, .string (str vi), .string (str text)] w0 fun e w' => e = .returned (.string (str (Cb.unchain key vi text))) ∧ w0.grownBy w' (some p) ∧ CiphAt Aes.bk Aes.undo w' p (Aes.words key) := by
 refine enter (n := 40) Tryd.func32 rfl rfl rfl ?_
 have hk : w0.grownBy w0 (some p) := grown_refl _ _
 refine sr (w_as (evc (.string (str ([] : List (BitVec 8))))) (nt (sr (w_mv es (w_val (y_len es Tryd.underlying9) (w_mk0 (c := text.length) (bytes := 1) (size := 1) (zv := U8 (0#8)) (F := fun _ => undef) Ev.c ei rfl rfl Tryd.underlying63 kr om (by simp only [maxLen]; omega) hk.size ?_))))))
 intro v1 w2 ah av an
 replace hk := grown_thenB hk an
 replace hc := hc.below an
 refine w_as (ex v1) (nt (wp_seq (sr (w_as Ev.c (nt (wp_block ?_))))))
 refine c_loop (fun dN aN wl => ∃ (t : Nat) (vo : Value), dN = (text.length - 16 * t) ∧ ∃ f5, aN = fr 40 f5 ∧ (16 * t ≤ text.length) ∧ f5 0 = pt p 0 ∧ f5 1 = .string (str (Cb.bk (vi ++ text) t)) ∧ f5 2 = .string (str text) ∧ f5 6 = .string (str ([] : List (BitVec 8))) ∧ f5 7 = vo ∧ f5 8 = .int .i64 (((16 * t) : Nat) : Int) ∧ Own wl w0.heap.size 5 1 vo (16 * t) (fun j => U8 (gb (Cb.un key vi text (j / 16)) (j % 16))) ∧ CiphAt Aes.bk Aes.undo wl p (Aes.words key) ∧ w0.grownBy wl (some p)) (text.length - 16 * 0) ?_ ?_
 · exact ⟨0, v1, rfl, _, rfl, iv, rfl, (Eq.trans (b := .string (str vi)) rfl (by exact congrArg (fun l => Value.string (str l)) (Cb.bk_cat0 _ _ hiv).symm)), rfl, rfl, (etv (b := v1) rfl), ti, (own_n (ah.cg) om), hc, hk⟩
 ·skip
  clear ah hc hk
  rintro _ _ w6 ⟨t, vo, rfl, f5, rfl, ap, ai, al, ad, ak, ag, ab, aa, hc, hk⟩
  have au : (Cb.bk (vi ++ text) t).length = 16 := Cb.bk_len _ _ (by rw [List.length_append]; omega)
  have hE : 16 * t + 16 ≤ text.length → (Oct.xor (Aes.dec (Aes.words key) ((text.drop (16 * t)).take (16 * t + 16 - 16 * t))) (Cb.bk (vi ++ text) t)).length = 16 := fun _ => by rw [Oct.length_xor, Cb.dec_len, au]; rfl
  refine wp_seq (sr (w_mv (ei ab) (w_mv (es ad) (w_val (y_len es Tryd.underlying9) (w_val (y_bin ei ei b_lss) (nt ?_))))))
  refine c_if (p := (((16 * t) : Nat) : Int) < ((text.length : Nat) : Int)) eb (fun hc7 => ?_) (fun hc7 => ?_)
  ·skip
   refine wp_skip (then_n (wp_seq (wp_block (sr (w_mv (es ad) (w_mv (ei ab) (w_mv (ei ab) (w_val (y_bin ei Ev.c (b_add om)) (w_val (v := .string (str ((text.drop (16 * t)).take (((16 * t) + 16) - (16 * t))))) (y_sls (ex (.string (str text))) (evo.s ei) (evo.s ei) Tryd.underlying9 (bnd_lh (l := (16 * t)) (h := ((16 * t) + 16)) om om om om)) (w_as es (nt (sr (w_mv (ex (pt p 0) ai) (w_mv es ?_))))))))))))))
   have ac : vo.ownBlock ≠ some p := CiphAt.ne_own hc aa (by decide)
   have aq := hc
   refine w_call (Tryd.func52) kr rfl (m2 (ex (pt p 0)) es) (dec_g p key ((text.drop (16 * t)).take (((16 * t) + 16) - (16 * t))) w6 hok aq (by simp only [List.length_take, List.length_drop]; omega)) ?_
   rintro _ w8 ⟨rfl, am, hc⟩
   refine ⟨_, rfl, ?_⟩
   replace aa := aa.stepG am ac
   replace hk := grown_thenG hk am om
   refine w_mv (ex (.tuple #[.string (str (Aes.dec (Aes.words key) ((text.drop (16 * t)).take (((16 * t) + 16) - (16 * t))))), .int .i64 0])) (w_val ye (w_val ye (w_as es (w_as ei (nt (sr (w_mv (ex vo ag) (w_mv es (w_mv (es al) (w_call (Tryd.func36) kr rfl (m2 es es) (xor_c (Aes.dec (Aes.words key) ((text.drop (16 * t)).take (((16 * t) + 16) - (16 * t)))) (Cb.bk (vi ++ text) t) (by rw [Cb.dec_len]; omega) w8) ?_))))))))))
   rintro _ w9 ⟨rfl, ae⟩
   refine ⟨_, rfl, ?_⟩
   replace aa := aa.step ae
   replace hk := grown_thenB hk ae
   replace hc := hc.below ae
   refine w_apps (K0 := (16 * t)) (l := Oct.xor (Aes.dec (Aes.words key) ((text.drop (16 * t)).take (((16 * t) + 16) - (16 * t)))) (Cb.bk (vi ++ text) t)) (ex vo) es Tryd.underlying63 Tryd.underlying9 kr aa hk.size om ?_
   intro ao aw af aj ar
   replace hk := grown_thenO hk aj (fun g e => (aa.block_lt g e).2)
   replace hc := CiphAt.onwardO hc aa (by decide) (by decide) _ aj
   clear aa
   refine w_as (ex ao) (nt (wp_region_lit (w_mv es (w_as es (wpList_nil (inb_n (then_n (wp_region_lit (w_mv (ei ab) (w_val (y_bin ei Ev.c (b_add om)) (w_as ei (wpList_nil ?_))))))))))))
   exact then_n ⟨_, om, t + 1, ao, rfl, _, rfl, iv, ai, (Eq.trans (b := .string (str ((text.drop (16 * t)).take (((16 * t) + 16) - (16 * t))))) rfl (by exact congrArg (fun l => Value.string (str l)) ((Cb.bk_at text t _ om).trans (Cb.bk_cat _ _ _ hiv).symm))), ad, ak, rfl, ti, (own_n (af.congr (fun j hj => by (try dsimp only); by_cases e : j < 16 * t * 1; (rw [if_pos e]); (rw [if_neg e, Cb.bk_at text t _ om, ← Cb.bk_cat vi text t hiv, show j / 16 = t from by omega, show j % 16 = 0 + (j - 16 * t * 1) from by omega]; rfl))) om), hc, hk⟩
  ·skip
   refine wp_exit (then_x (then_x (inb_x (then_n (sr (w_mv (ex vo ag) (w_val (v := .string (str (Cb.unchain key vi text))) (y_strown (l := Cb.unchain key vi text) (ex vo) aa  (by exact (by rw [Cb.unchain_len]; omega)) (fun j hj => by exact (by rw [Cb.gb_unchain _ _ _ _ om])) Tryd.underlying63 Tryd.underlying5 Tryd.underlying9) (w_as es (nt (wp_ret (fin_ret1 rfl es ?_)))))))))))
   refine ⟨congrArg Ending.returned ?_, hk, hc⟩
   show (.string (str (Cb.unchain key vi text)) : Value) = .string (str (Cb.unchain key vi text))
   rfl
end Go.Proofs.YtepogbfkmflooaaDoor
