/-
  Chains of blocks: the reference's blocks. Conditions as each says. AES: the reference's way back, said of lists of bytes (in a seat that holds it). Conditions as it says. Digests: of texts; the example. Conditions as each says. Digests with a key, plainly. No conditions.
-/
import Derived.Test.YtepogbfkmflooaaGreatDoorRows
import Derived.Test.YtepogbfkmflooaaGreatDoorCbcB
import Derived.Test.YtepogbfkmflooaaGreatDoorGenSh
import Derived.ProofKit
import Derived.Test.YtepogbfkmflooaaGreatDoorShaUse
namespace Go.Proofs.YtepogbfkmflooaaGreatDoor
open Go.RowKit
set_option linter.unusedSimpArgs false
set_option linter.unusedVariables false
set_option maxRecDepth 100000
set_option maxHeartbeats 1000000
namespace CbcCT
theorem mixed : Tryz.prog.follows .mixedOrders = true := by kernel_rfl
theorem so3 : (Tryz.prog.underlying 3).isSome = true := by rw [Tryz.underlying3]; rfl
theorem so5 : (Tryz.prog.underlying 5).isSome = true := by rw [Tryz.underlying5]; rfl
end CbcCT
theorem refBlocks_y (s : List (BitVec 8)) (h : 16 ≤ s.length) (hs : s.length ≤ 1000000) (w0 : World) : Calls Tryz.prog 29 #[.string (str s)] w0 fun e w' => ∃ g cap, e = .returned (.slice (some ⟨g, 0, none⟩) (s.length / 16) cap) ∧ w0.heap.size ≤ g ∧ Row w' g 9 (s.length / 16 * 1) (fun j => .string (str (Cb.bk s j))) ∧ Below w0.heap.size w0 w' := by
 refine enter (n := 21) Tryz.func29 rfl rfl rfl ?_
 have hk : Below w0.heap.size w0 w0 := Below.refl _ _
 refine sr (w_as Ev.c (nt (sr (w_as Ev.c (nt (wp_seq (sr (w_as Ev.c (nt (wp_block ?_))))))))))
 refine c_loop (fun dN aN wl => ∃ (i : Nat) (vo : Value), dN = (s.length - 16 * i) ∧ ∃ f1, aN = fr 21 f1 ∧ (16 * i ≤ s.length) ∧ f1 0 = .string (str s) ∧ f1 2 = .slice none 0 0 ∧ f1 3 = vo ∧ f1 4 = .int .i64 (((16 * i) : Nat) : Int) ∧ Own wl w0.heap.size 9 1 vo i (fun j => .string (str (Cb.bk s j))) ∧ Below w0.heap.size w0 wl) (s.length - 16 * 0) ?_ ?_
 · exact ⟨0, (.slice none 0 0), rfl, _, rfl, iv, rfl, rfl, (etv (b := .slice none 0 0) rfl), ti, Own.nil, hk⟩
 ·skip
  clear hk
  rintro _ _ w2 ⟨i, vo, rfl, f1, rfl, i1_0, s1_0, s1_2, s1_3, s1_4, o_vo, hk⟩
  refine wp_seq (sr (w_mv (ei s1_4) (w_val (y_bin ei Ev.c (b_add om)) (w_mv (es s1_0) (w_val (y_len es Tryz.underlying9) (w_val (y_bin ei ei b_leq) (nt ?_)))))))
  refine c_if (p := ((((16 * i) : Nat) : Int) + 16) ≤ ((s.length : Nat) : Int)) eb (fun hc3 => ?_) (fun hc3 => ?_)
  ·skip
   refine wp_skip (then_n (wp_seq (wp_block (wp_region_lit (w_mv (ex vo s1_3) (w_mv (es s1_0) (w_mv (ei s1_4) (w_mv (ei s1_4) (w_val (y_bin ei Ev.c (b_add om)) (w_val (v := .string (str ((s.drop (16 * i)).take (((16 * i) + 16) - (16 * i))))) (y_sls (ex (.string (str s))) (evo.s ei) (evo.s ei) Tryz.underlying9 (bnd_lh (l := (16 * i)) (h := ((16 * i) + 16)) om om om om)) (w_bs1 (m := 1) (e := 9) (F := fun j => .string (str ((s.drop (16 * i)).take (((16 * i) + 16) - (16 * i))))) es (fun w => by kernel_rfl) ?_)))))))))))
   intro b_18 w4 hbe_b_18 r_b_18 hb5
   have no_vo_b_18 : vo.ownBlock ≠ some b_18 := o_vo.apart om
   have ge_b_18 := gb_ hk.size hbe_b_18
   clear hbe_b_18
   replace o_vo := o_vo.step hb5
   replace hk := thenB hk hb5
   refine w_app (k := i) (m := 1) (size := 1) (bytes := 16) (ex vo) el Tryz.underlying45 kr (by decide) o_vo hk.size r_b_18 om oca (by simp only [maxLen]; omega) om ?_
   intro v6 w7 o_v6 hg8 hv9
   have no_v6_b_18 := no_new no_vo_b_18 r_b_18.lt hv9
   replace r_b_18 := r_b_18.stepO hg8 no_vo_b_18
   replace hk := thenO hk hg8 (fun g e => (o_vo.block_lt g e).2)
   clear o_vo
   refine w_as (ex v6) (wpList_nil (inb_n (then_n (wp_region_lit (w_mv (ei s1_4) (w_val (y_bin ei Ev.c (b_add om)) (w_as ei (wpList_nil ?_))))))))
   exact then_n ⟨_, om, i + 1, v6, rfl, _, rfl, iv, s1_0, s1_2, rfl, ti, (own_n (o_v6.congr (fun j hj => by (try dsimp only); by_cases e : j < i * 1; (rw [if_pos e]); (rw [if_neg e]; exact congrArg (fun l => Value.string (str l)) (by rw [show j = i from by omega]; exact Cb.bk_at s i _ om)))) om), hk⟩
  ·skip
   refine wp_exit (then_x ?_)
   replace o_vo := own_n (k' := (s.length / 16)) (o_vo.congr (G := fun j => .string (str (Cb.bk s j))) (fun j hj => by rfl)) om
   refine then_x (inb_x (then_n (wp_seq ?_)))
   obtain ⟨g10, cap10, hv10, ge_g10, hc_g10, hob_g10, r_g10⟩ := o_vo.opened om
   refine wp_region_lit (w_mv (ex vo s1_3) (w_as (ex vo) (nt (wp_ret (fin_ret1 rfl (ex (.slice (some ⟨g10, 0, none⟩) (s.length / 16) cap10) (Eq.trans (b := vo) rfl hv10)) ?_)))))
   exact ⟨g10, cap10, rfl, ge_g10, r_g10, hk⟩
end Go.Proofs.YtepogbfkmflooaaGreatDoor
namespace Go.Proofs.YtepogbfkmflooaaGreatDoor
open Go.RowKit
set_option linter.unusedSimpArgs false
set_option linter.unusedVariables false
theorem refDec_l (bx g cap : Nat) (key s : List (BitVec 8)) (w : World) (hk : Aes.okKey key.length) (hs : s.length = 16) (r1 : Row w bx 74 513 (fun j => if j < 256 then U8 (Aes.sb j) else if j < 512 then U8 (Aes.bk (j - 256)) else .slice (some ⟨g, 0, none⟩) (Aes.words key).length cap))
    (r2 : Row w g 77 ((Aes.words key).length * 4) (fun j => U8 (Aes.byteOf (Aes.gw (Aes.words key) (j / 4)) (j % 4)))) :
    Calls Tryz.prog 63 #[.pointer (some ⟨bx, 0, none⟩), .string (str s)] w fun e w' => e = .returned (.string (str (Aes.dec (Aes.words key) s))) ∧ Below w.heap.size w w' := by
  obtain ⟨R, h1, h2, h3⟩ := Aes.words_len key hk
  rw [← Aes.rDec_dec (Aes.words key) R s h1 h2 hs]
  exact refDec_c bx g _ cap R (Aes.words key) s hs h1 h3 w r1 r2
end Go.Proofs.YtepogbfkmflooaaGreatDoor
namespace Go.Proofs.YtepogbfkmflooaaGreatDoor
open Go.RowKit
set_option linter.unusedSimpArgs false
set_option linter.unusedVariables false
set_option maxRecDepth 100000
set_option maxHeartbeats 1000000
namespace ShaWT
theorem mixed : Tryz.prog.follows .mixedOrders = true := by kernel_rfl
end ShaWT
theorem shaText_l (kind : Nat) (hkd : Sha.Known kind) (s : List (BitVec 8)) (hs : s.length ≤ 140737488351232) (w0 : World) (hT : Sha.Tabs w0) : Calls Tryz.prog 57 #[.int .i64 ((kind : Nat) : Int), .string (str s)] w0 fun e w' => e = .returned (.tuple #[.string (str (Sha.sum kind s)), .int .i64 0]) ∧ Below w0.heap.size w0 w' := by
 have hT0 := hT.lt
 refine enter (n := 23) Tryz.func57 rfl rfl rfl ?_
 have hk : Below w0.heap.size w0 w0 := Below.refl _ _
 refine sr (w_as (evc (.string (str ([] : List (BitVec 8))))) (w_as Ev.c (nt (sr (w_mv ei (w_call (Tryz.func58) kr rfl (m1 ei) (new_at kind w0 hkd) ?_))))))
 rintro _ w1 ⟨p, rfl, hge_p, ha, hb_p⟩
 refine ⟨_, rfl, ?_⟩
 have ge_p : w0.heap.size ≤ p := by have := hk.size; omega
 replace hk := thenB hk hb_p
 replace hT := Sha.Tabs.below hT hb_p
 refine w_mv (ex (.tuple #[pt p 0, .int .i64 0])) (w_val ye (w_val ye (w_as (ex (pt p 0)) (w_as ei (nt (wp_seq (sr (w_mv ei (w_val (y_bin ei Ev.c b_neq) (nt (c_ff eb (wp_skip (then_n (sr (w_mv (ex (pt p 0)) (w_mv es ?_))))))))))))))))
 have hw_ := ha
 clear ha
 refine w_call (Tryz.func59) kr rfl (m2 (ex (pt p 0)) es) (write_l kind ([]) s w1 p om hkd om hw_ hT) ?_
 rintro _ w2 ⟨rfl, ha, hgw⟩
 refine ⟨_, rfl, ?_⟩
 replace hk := thenG hk hgw om
 replace hT := Sha.Tabs.grown hT hgw om om
 refine nt (sr (w_mv (ex (pt p 0)) (w_call (Tryz.func61) kr rfl (m1 (ex (pt p 0))) (sum_l kind (([]) ++ s) w2 p om hkd (by (try simp only [List.nil_append, List.length_append, List.length_nil, Sha.length_sum]); omega) ha hT) ?_)))
 rintro _ w3 ⟨rfl, hb4⟩
 refine ⟨_, rfl, ?_⟩
 replace hk := thenB hk hb4
 replace hT := Sha.Tabs.below hT hb4
 replace ha := Sha.At.below ha hb4
 refine w_val ye (w_val ye (w_as es (w_as ei (nt (wp_ret (fin_ret2 rfl es ei ?_))))))
 refine ⟨congrArg Ending.returned ?_, hk⟩
 show (.tuple #[.string (str (Sha.sum kind (([]) ++ s))), .int .i64 0] : Value) = .tuple #[.string (str (Sha.sum kind s)), .int .i64 0]
 simp only [List.nil_append]

end Go.Proofs.YtepogbfkmflooaaGreatDoor
namespace Go.Proofs.YtepogbfkmflooaaGreatDoor
open Go.RowKit
set_option linter.unusedSimpArgs false
set_option linter.unusedVariables false
namespace Hm
/-- the key, no longer than a block -/
def kk (kind : Nat) (key : List (BitVec 8)) : List (BitVec 8) := if Sha.bs kind < key.length then Sha.sum kind key else key
def pd (kind : Nat) (key : List (BitVec 8)) (c : BitVec 8) : List (BitVec 8) := (List.range (Sha.bs kind)).map fun i => gb (kk kind key) i ^^^ c
def mac (kind : Nat) (key text : List (BitVec 8)) : List (BitVec 8) := Sha.sum kind (pd kind key 92#8 ++ Sha.sum kind (pd kind key 54#8 ++ text))
theorem kk_len (kind : Nat) (key : List (BitVec 8)) : (kk kind key).length ≤ Sha.bs kind := by
  unfold kk
  split
  · rw [Sha.length_sum]; exact Sha.ol_bs kind
  · omega
theorem pd_len (kind : Nat) (key : List (BitVec 8)) (c : BitVec 8) : (pd kind key c).length = Sha.bs kind := by simp [pd]
theorem gb_pd (kind : Nat) (key : List (BitVec 8)) (c : BitVec 8) (i : Nat) (h : i < Sha.bs kind) : gb (pd kind key c) i = gb (kk kind key) i ^^^ c := gb_map _ _ _ h
theorem mac_len (kind : Nat) (key text : List (BitVec 8)) : (mac kind key text).length = Sha.ol kind := Sha.length_sum _ _
end Hm
end Go.Proofs.YtepogbfkmflooaaGreatDoor
