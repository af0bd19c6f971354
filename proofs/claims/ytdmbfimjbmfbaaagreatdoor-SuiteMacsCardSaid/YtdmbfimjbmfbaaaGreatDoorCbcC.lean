/-
  Texts joined with counters, plainly. Conditions as each says. Digests with a key, plainly. No conditions. Chains of blocks: the reference's blocks. Conditions as each says. AES: the reference's way back, said of lists of bytes (in a seat that holds it). Conditions as it says. Chains of blocks: the reference's chains. Conditions as each says.
-/
import Derived.Test.YtdmbfimjbmfbaaaGreatDoorOct
import Derived.Test.YtdmbfimjbmfbaaaGreatDoorWrapPlain
import Derived.Test.YtdmbfimjbmfbaaaGreatDoorAesMulRef
import Derived.Test.YtdmbfimjbmfbaaaGreatDoorRows
import Derived.Test.YtdmbfimjbmfbaaaGreatDoorCbcM
import Derived.Test.YtdmbfimjbmfbaaaGreatDoorGenSh
import Derived.ProofKit
import Derived.Test.YtdmbfimjbmfbaaaGreatDoorAesRefEq
namespace Go.Proofs.YtdmbfimjbmfbaaaGreatDoor
namespace Ct
/-- the counter that grew -/
def nx (s : List (BitVec 8)) (d n : Nat) : List (BitVec 8) := s.take (16 - d) ++ Oct.add (s.drop (16 - d)) n
theorem length_nx (s : List (BitVec 8)) (d n : Nat) (hs : s.length = 16) : (nx s d n).length = 16 := by
  unfold nx
  rw [List.length_append, Oct.length_add, List.length_take, List.length_drop]; omega
theorem nx_add (s : List (BitVec 8)) (d a b : Nat) (hs : s.length = 16) : nx (nx s d a) d b = nx s d (a + b) := by
  have hl : (s.take (16 - d)).length = 16 - d := by rw [List.length_take]; omega
  unfold nx
  rw [List.take_append_of_le_length (by omega), List.take_of_length_le (by omega), List.drop_append, hl, Nat.sub_self, List.drop_zero, List.drop_eq_nil_of_le (by omega), List.nil_append, Oct.add_two]
theorem nx_zero (s : List (BitVec 8)) (d : Nat) : nx s d 0 = s := by
  unfold nx
  rw [Oct.add_zero, List.take_append_drop]
/-- what is joined with -/
def ks (key s : List (BitVec 8)) (d j : Nat) : BitVec 8 := gb (Aes.enc (Aes.words key) (nx s d (j / 16))) (j % 16)
def stream (key s : List (BitVec 8)) (d n : Nat) : List (BitVec 8) := (List.range n).map (ks key s d)
theorem length_stream (key s : List (BitVec 8)) (d n : Nat) : (stream key s d n).length = n := by unfold stream; rw [List.length_map, List.length_range]
theorem gb_stream (key s : List (BitVec 8)) (d n j : Nat) (h : j < n) : gb (stream key s d n) j = ks key s d j := by
  unfold stream
  rw [gb_map _ _ _ h]
def x (key s : List (BitVec 8)) (d : Nat) (t : List (BitVec 8)) : List (BitVec 8) := Oct.xor t (stream key s d t.length)
theorem length_x (key s : List (BitVec 8)) (d : Nat) (t : List (BitVec 8)) : (x key s d t).length = t.length := by
  unfold x; rw [Oct.length_xor, length_stream, Nat.min_self]
theorem gb_x (key s : List (BitVec 8)) (d : Nat) (t : List (BitVec 8)) (j : Nat) (h : j < t.length) : gb (x key s d t) j = gb t j ^^^ ks key s d j := by
  unfold x; rw [Oct.gb_xor _ _ _ (by rw [length_stream]; omega), gb_stream _ _ _ _ _ h]
theorem x_x (key s : List (BitVec 8)) (d : Nat) (t : List (BitVec 8)) : x key s d (x key s d t) = t := by
  unfold x
  rw [Oct.length_xor, length_stream, Nat.min_self]
  exact Oct.xor_xor _ _ (by rw [length_stream]; exact Nat.le_refl _)
def wk : List (BitVec 8) := [48#8, 49#8, 50#8, 51#8, 52#8, 53#8, 54#8, 55#8, 56#8, 57#8, 97#8, 98#8, 99#8, 100#8, 101#8, 102#8]
def wt : List (BitVec 8) := [97#8, 98#8, 99#8]
end Ct
end Go.Proofs.YtdmbfimjbmfbaaaGreatDoor
namespace Go.Proofs.YtdmbfimjbmfbaaaGreatDoor
open Go.RowKit
set_option linter.unusedSimpArgs false
set_option linter.unusedVariables false
namespace Hm
/-- the key, no longer than a block -/
def kk (kind : Nat) (key : List (BitVec 8)) : List (BitVec 8) := if Sha.bs kind < key.length then Sha.sum kind key else key
def pd (kind : Nat) (key : List (BitVec 8)) (c : BitVec 8) : List (BitVec 8) := (List.range (Sha.bs kind)).map fun i => gb (kk kind key) i ^^^ c
def mac (kind : Nat) (key text : List (BitVec 8)) : List (BitVec 8) := Sha.sum kind (pd kind key 92#8 ++ Sha.sum kind (pd kind key 54#8 ++ text))
theorem kk_len (kind : Nat) (key : List (BitVec 8)) : (kk kind key).length ≤ Sha.bs kind := by
  unfold kk
  split
  · rw [Sha.length_sum]; exact Sha.ol_bs kind
  · omega
theorem pd_len (kind : Nat) (key : List (BitVec 8)) (c : BitVec 8) : (pd kind key c).length = Sha.bs kind := by simp [pd]
theorem gb_pd (kind : Nat) (key : List (BitVec 8)) (c : BitVec 8) (i : Nat) (h : i < Sha.bs kind) : gb (pd kind key c) i = gb (kk kind key) i ^^^ c := gb_map _ _ _ h
theorem mac_len (kind : Nat) (key text : List (BitVec 8)) : (mac kind key text).length = Sha.ol kind := Sha.length_sum _ _
end Hm
end Go.Proofs.YtdmbfimjbmfbaaaGreatDoor
namespace Go.Proofs.YtdmbfimjbmfbaaaGreatDoor
open Go.RowKit
set_option linter.unusedSimpArgs false
set_option linter.unusedVariables false
set_option maxRecDepth 100000
set_option maxHeartbeats 1000000
namespace CbcCT
theorem mixed : Tryz.prog.follows .mixedOrders = true := by kernel_rfl
theorem so3 : (Tryz.prog.underlying 3).isSome = true := by rw [Tryz.underlying3]; rfl
theorem so5 : (Tryz.prog.underlying 5).isSome = true := by rw [Tryz.underlying5]; rfl
end CbcCT
theorem refBlocks_0 (s : List (BitVec 8)) (h : s.length < 16) (w0 : World) : Calls Tryz.prog 24 #[.string (str s)] w0 fun e w' => e = .returned (.slice none 0 0) ∧ Below w0.heap.size w0 w' := by
 refine enter (n := 21) Tryz.func24 rfl rfl rfl ?_
 have hk : Below w0.heap.size w0 w0 := Below.refl _ _
 refine sr (w_as Ev.c (nt (sr (w_as Ev.c (nt (wp_seq (sr (w_as Ev.c (nt (wp_block ?_))))))))))
 refine c_loop (fun dN aN wl => dN = 0 ∧ ∃ f1, aN = fr 21 f1 ∧ f1 0 = .string (str s) ∧ f1 2 = .slice none 0 0 ∧ f1 3 = .slice none 0 0 ∧ f1 4 = .int .i64 0 ∧ Below w0.heap.size w0 wl) 0 ?_ ?_
 · exact ⟨rfl, _, rfl, rfl, rfl, rfl, rfl, hk⟩
 ·skip
  clear hk
  rintro _ _ w2 ⟨rfl, f1, rfl, ab, ad, ac, aa, hk⟩
  refine wp_seq (sr (w_mv (ei aa) (w_val (y_bin ei Ev.c (b_add om)) (w_mv (es ab) (w_val (y_len es Tryz.underlying9) (w_val (y_bin ei ei b_leq) (nt ?_)))))))
  have ae : ¬ (16 ≤ ((s.length : Nat) : Int)) := by omega
  refine c_f (p := 16 ≤ ((s.length : Nat) : Int)) eb ae (wp_exit (then_x (then_x (inb_x (then_n (sr (w_mv (ex (.slice none 0 0) ac) (w_as (ex (.slice none 0 0)) (nt (wp_ret (fin_ret1 rfl (ex (.slice none 0 0)) ?_)))))))))))
  exact ⟨rfl, hk⟩

theorem refBlocks_y (s : List (BitVec 8)) (h : 16 ≤ s.length) (hs : s.length ≤ 1000000) (w0 : World) : Calls Tryz.prog 24 #[.string (str s)] w0 fun e w' => ∃ g cap, e = .returned (.slice (some ⟨g, 0, none⟩) (s.length / 16) cap) ∧ w0.heap.size ≤ g ∧ Row w' g 9 (s.length / 16 * 1) (fun j => .string (str (Cb.bk s j))) ∧ Below w0.heap.size w0 w' := by
 refine enter (n := 21) Tryz.func24 rfl rfl rfl ?_
 have hk : Below w0.heap.size w0 w0 := Below.refl _ _
 refine sr (w_as Ev.c (nt (sr (w_as Ev.c (nt (wp_seq (sr (w_as Ev.c (nt (wp_block ?_))))))))))
 refine c_loop (fun dN aN wl => ∃ (i : Nat) (vo : Value), dN = (s.length - 16 * i) ∧ ∃ f1, aN = fr 21 f1 ∧ (16 * i ≤ s.length) ∧ f1 0 = .string (str s) ∧ f1 2 = .slice none 0 0 ∧ f1 3 = vo ∧ f1 4 = .int .i64 (((16 * i) : Nat) : Int) ∧ Own wl w0.heap.size 9 1 vo i (fun j => .string (str (Cb.bk s j))) ∧ Below w0.heap.size w0 wl) (s.length - 16 * 0) ?_ ?_
 · exact ⟨0, (.slice none 0 0), rfl, _, rfl, iv, rfl, rfl, (etv (b := .slice none 0 0) rfl), ti, Own.nil, hk⟩
 ·skip
  clear hk
  rintro _ _ w2 ⟨i, vo, rfl, f1, rfl, ax, ah, aq, ak, ae, ac, hk⟩
  refine wp_seq (sr (w_mv (ei ae) (w_val (y_bin ei Ev.c (b_add om)) (w_mv (es ah) (w_val (y_len es Tryz.underlying9) (w_val (y_bin ei ei b_leq) (nt ?_)))))))
  refine c_if (p := ((((16 * i) : Nat) : Int) + 16) ≤ ((s.length : Nat) : Int)) eb (fun hc3 => ?_) (fun hc3 => ?_)
  ·skip
   refine wp_skip (then_n (wp_seq (wp_block (wp_region_lit (w_mv (ex vo ak) (w_mv (es ah) (w_mv (ei ae) (w_mv (ei ae) (w_val (y_bin ei Ev.c (b_add om)) (w_val (v := .string (str ((s.drop (16 * i)).take (((16 * i) + 16) - (16 * i))))) (y_sls (ex (.string (str s))) (evo.s ei) (evo.s ei) Tryz.underlying9 (bnd_lh (l := (16 * i)) (h := ((16 * i) + 16)) om om om om)) (w_bs1 (m := 1) (e := 9) (F := fun j => .string (str ((s.drop (16 * i)).take (((16 * i) + 16) - (16 * i))))) es (fun w => by kernel_rfl) ?_)))))))))))
   intro an w4 ad ab au
   have aa : vo.ownBlock ≠ some an := ac.apart om
   have al := gb_ hk.size ad
   clear ad
   replace ac := ac.step au
   replace hk := thenB hk au
   refine w_app (k := i) (m := 1) (size := 1) (bytes := 16) (ex vo) el Tryz.underlying58 kr (by decide) ac hk.size ab om oca (by simp only [maxLen]; omega) om ?_
   intro v6 w7 ar aw ay
   have ag := no_new aa ab.lt ay
   replace ab := ab.stepO aw aa
   replace hk := thenO hk aw (fun g e => (ac.block_lt g e).2)
   clear ac
   refine w_as (ex v6) (wpList_nil (inb_n (then_n (wp_region_lit (w_mv (ei ae) (w_val (y_bin ei Ev.c (b_add om)) (w_as ei (wpList_nil ?_))))))))
   exact then_n ⟨_, om, i + 1, v6, rfl, _, rfl, iv, ah, aq, rfl, ti, (own_n (ar.congr (fun j hj => by (try dsimp only); by_cases e : j < i * 1; (rw [if_pos e]); (rw [if_neg e]; exact congrArg (fun l => Value.string (str l)) (by rw [show j = i from by omega]; exact Cb.bk_at s i _ om)))) om), hk⟩
  ·skip
   refine wp_exit (then_x ?_)
   replace ac := own_n (k' := (s.length / 16)) (ac.congr (G := fun j => .string (str (Cb.bk s j))) (fun j hj => by rfl)) om
   refine then_x (inb_x (then_n (wp_seq ?_)))
   obtain ⟨av, af, ap, ai, ao, am, aj⟩ := ac.opened om
   refine wp_region_lit (w_mv (ex vo ak) (w_as (ex vo) (nt (wp_ret (fin_ret1 rfl (ex (.slice (some ⟨av, 0, none⟩) (s.length / 16) af) (Eq.trans (b := vo) rfl ap)) ?_)))))
   exact ⟨av, af, rfl, ai, aj, hk⟩
end Go.Proofs.YtdmbfimjbmfbaaaGreatDoor
namespace Go.Proofs.YtdmbfimjbmfbaaaGreatDoor
open Go.RowKit
set_option linter.unusedSimpArgs false
set_option linter.unusedVariables false
end Go.Proofs.YtdmbfimjbmfbaaaGreatDoor
namespace Go.Proofs.YtdmbfimjbmfbaaaGreatDoor
open Go.RowKit
set_option linter.unusedSimpArgs false
set_option linter.unusedVariables false
set_option maxRecDepth 100000
set_option maxHeartbeats 1000000
namespace CbcDT
theorem mixed : Tryz.prog.follows .mixedOrders = true := by kernel_rfl
theorem so3 : (Tryz.prog.underlying 3).isSome = true := by rw [Tryz.underlying3]; rfl
theorem so5 : (Tryz.prog.underlying 5).isSome = true := by rw [Tryz.underlying5]; rfl
end CbcDT
end Go.Proofs.YtdmbfimjbmfbaaaGreatDoor
