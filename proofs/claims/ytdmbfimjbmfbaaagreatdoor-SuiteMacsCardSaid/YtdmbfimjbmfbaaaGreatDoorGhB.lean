/-
  Sums over the field, by the program. Conditions as each says. Counters: what the program and the reference compute. Conditions as each says. Texts that are sealed by a counter and a sum over a field, plainly. Conditions as each says.
-/
import Derived.Test.YtdmbfimjbmfbaaaGreatDoorRows
import Derived.Test.YtdmbfimjbmfbaaaGreatDoorGhA
import Derived.Test.YtdmbfimjbmfbaaaGreatDoorGenSh
import Derived.ProofKit
import Derived.Test.YtdmbfimjbmfbaaaGreatDoorGenMore
import Derived.Test.YtdmbfimjbmfbaaaGreatDoorAesRefEq
import Derived.Test.YtdmbfimjbmfbaaaGreatDoorOctW
import Derived.Test.YtdmbfimjbmfbaaaGreatDoorCbcC
import Derived.Test.YtdmbfimjbmfbaaaGreatDoorSuPlain
namespace Go.Proofs.YtdmbfimjbmfbaaaGreatDoor
open Go.RowKit
set_option linter.unusedSimpArgs false
set_option linter.unusedVariables false
set_option maxRecDepth 100000
set_option maxHeartbeats 1000000
namespace GhBT
theorem mixed : Tryz.prog.follows .mixedOrders = true := by kernel_rfl
theorem ag187 : (Tryz.prog.underlying 187).map isAggD = some true := by rw [Tryz.underlying187]; rfl
theorem ag188 : (Tryz.prog.underlying 188).map isAggD = some true := by rw [Tryz.underlying188]; rfl
theorem fa187_0 (g off : Nat) : ∀ w, (Instr.fieldAt 187 (.pointer (some ⟨g, off, none⟩)) 0).run Tryz.prog w = .ok (.pointer (some ⟨g, off + 0, none⟩)) w := fun w => by kernel_rfl
theorem fa187_1 (g off : Nat) : ∀ w, (Instr.fieldAt 187 (.pointer (some ⟨g, off, none⟩)) 1).run Tryz.prog w = .ok (.pointer (some ⟨g, off + 1, none⟩)) w := fun w => by kernel_rfl
theorem sc92 : (Tryz.prog.underlying 92).map scal = some true := by rw [Tryz.underlying92]; rfl
theorem so5 : (Tryz.prog.underlying 5).isSome = true := by rw [Tryz.underlying5]; rfl
theorem so92 : (Tryz.prog.underlying 92).isSome = true := by rw [Tryz.underlying92]; rfl
theorem sz187 : (Tryz.prog.info? 187).map (·.size) = some 2 := by kernel_rfl
theorem sz188 : (Tryz.prog.info? 188).map (·.size) = some 32 := by kernel_rfl
theorem sz5 : (Tryz.prog.info? 5).map (·.size) = some 1 := by kernel_rfl
theorem sz92 : (Tryz.prog.info? 92).map (·.size) = some 1 := by kernel_rfl
end GhBT
theorem ghSum (f : Nat → BitVec 64) (key s : List (BitVec 8)) (hk16 : key.length = 16) (h16 : s.length % 16 = 0) (hl : s.length ≤ 210000) (w0 : World) (hF : Gh.Fold w0 f) : Calls Tryz.prog 95 #[.string (str key), .string (str s)] w0 fun e w' => e = .returned (.tuple #[.string (str (Gh.sum f key s)), .int .i64 0]) ∧ Below w0.heap.size w0 w' := by
 have bl := hF.2
 refine enter (n := 51) Tryz.func95 rfl rfl rfl ?_
 have hk : Below w0.heap.size w0 w0 := Below.refl _ _
 refine sr (w_as (evc (.string (str ([] : List (BitVec 8))))) (w_as Ev.c (nt (wp_seq (sr (w_mv es (w_val (y_len es Tryz.underlying9) (w_val (y_bin ei Ev.c b_neq) (nt ?_)))))))))
 have bc : ¬ (((key.length : Nat) : Int) ≠ 16) := by omega
 refine c_f (p := ((key.length : Nat) : Int) ≠ 16) eb bc (wp_skip (then_n (wp_seq (sr (w_mv es (w_val (y_len es Tryz.underlying9) (w_val (y_bin ei Ev.c (b_rem om)) (w_val (y_bin ei Ev.c b_neq) (w_mv eb ?_)))))))))
 have a1 : ¬ ((((s.length : Nat) : Int) % 16) ≠ 0) := by omega
 refine w_val_g (v := .string (str s)) (wy rfl rfl (eb (df a1))) (y_mv es) (w_val_g (wy rfl rfl (eb (df a1))) (y_len es Tryz.underlying9) (w_val_g (wy rfl rfl (eb (df a1))) (y_bin ei Ev.c b_gtr) (w_val (y_pick_f (eb (df a1)) eb) (nt ?_))))
 have be : ¬ (210000 < ((s.length : Nat) : Int)) := by omega
 refine c_f (p := 210000 < ((s.length : Nat) : Int)) eb be (wp_skip (then_n (sr (w_mv es (w_call (Tryz.func108) kr rfl (m1 es) (ghLoad key hk16 w0) ?_)))))
 rintro _ w4 ⟨rfl, a8⟩
 refine ⟨_, rfl, ?_⟩
 replace hk := thenB hk a8
 replace hF := Gh.Fold.below hF a8
 refine w_call (Tryz.func107) kr rfl (m1 ea) (ghMultiples (Gh.lw key) w4) ?_
 rintro _ w6 ⟨rfl, a9⟩
 refine ⟨_, rfl, ?_⟩
 replace hk := thenB hk a9
 replace hF := Gh.Fold.below hF a9
 refine w_alloc (m := 32) (F := fun j => U64 (0#64)) kr ?_
 intro ay w8 af aa a7
 have a5 := gb_ hk.size af
 clear af
 replace hk := thenB hk a7
 replace hF := Gh.Fold.below hF a7
 refine w_sta (k := 32) (G := fun j => U64 (Gh.cl (Gh.mw (Gh.lw key) (j / 2)) (j % 2))) (ex (pt ay 0)) ea oc GhBT.sz188 aa om ?_
 clear aa; intro bh aa az _
 replace aa := aa.congr (g := fun j => U64 (Gh.cl (Gh.mw (Gh.lw key) (j / 2)) (j % 2))) (fun j hj => by rw [if_pos ⟨Nat.zero_le _, by omega⟩]; first | rfl | (simp only [Nat.sub_zero]))
 replace hk := thenG hk az om
 replace hF := Gh.Fold.grown hF az om
 refine nt (sr (w_alloc (m := 2) (F := fun j => if j < 1 then U64 (0#64) else U64 (0#64)) kr ?_))
 intro ai bg ae ab aw
 have au := aa.nb ae
 have a4 := gb_ hk.size ae
 clear ae
 replace aa := aa.step aw
 replace hk := thenB hk aw
 replace hF := Gh.Fold.below hF aw
 refine nt (wp_seq (sr (w_as Ev.c (nt (wp_block ?_)))))
 refine c_loop (fun dN aN wl => ∃ (t : Nat), dN = (s.length - 16 * t) ∧ ∃ ap, aN = fr 51 ap ∧ (16 * t ≤ s.length) ∧ ap 1 = .string (str s) ∧ ap 4 = .string (str ([] : List (BitVec 8))) ∧ ap 5 = .int .i64 0 ∧ ap 6 = pt ay 0 ∧ ap 7 = pt ai 0 ∧ ap 8 = .int .i64 (((16 * t) : Nat) : Int) ∧ Row wl ay 188 32 (fun j => U64 (Gh.cl (Gh.mw (Gh.lw key) (j / 2)) (j % 2))) ∧ Row wl ai 187 2 (fun j => U64 (Gh.cl (Gh.gw f key s t) j)) ∧ Gh.Fold wl f ∧ Below w0.heap.size w0 wl) (s.length - 16 * 0) ?_ ?_
 · exact ⟨0, rfl, _, rfl, iv, rfl, rfl, rfl, rfl, rfl, ti, aa, (ab.congr (fun j hj => by exact Gh.zz_0 f Gh.z2 Gh.z2 j hj)), hF, hk⟩
 ·skip
  clear aa ab hF hk
  rintro _ _ ba ⟨t, rfl, ap, rfl, bb, av, a6, a3, a0, ag, an, aa, ab, hF, hk⟩
  refine wp_seq (sr (w_mv (ei an) (w_mv (es av) (w_val (y_len es Tryz.underlying9) (w_val (y_bin ei ei b_lss) (nt ?_))))))
  refine c_if (p := (((16 * t) : Nat) : Int) < ((s.length : Nat) : Int)) eb (fun hc16 => ?_) (fun hc16 => ?_)
  ·skip
   refine wp_skip (then_n (wp_seq (wp_block (sr (w_mv (es av) (w_mv (ei an) (w_mv (ei an) (w_val (y_bin ei Ev.c (b_add om)) (w_val (v := .string (str ((s.drop (16 * t)).take (((16 * t) + 16) - (16 * t))))) (y_sls (ex (.string (str s))) (evo.s ei) (evo.s ei) Tryz.underlying9 (bnd_lh (l := (16 * t)) (h := ((16 * t) + 16)) om om om om)) (w_call (Tryz.func108) kr rfl (m1 es) (ghLoad ((s.drop (16 * t)).take (((16 * t) + 16) - (16 * t))) (by simp only [List.length_take, List.length_drop]; omega) ba) ?_))))))))))
   rintro _ bk ⟨rfl, al⟩
   refine ⟨_, rfl, ?_⟩
   replace aa := aa.step al
   replace ab := ab.step al
   replace hk := thenB hk al
   replace hF := Gh.Fold.below hF al
   refine w_alloc (m := 2) (F := fun j => if j < 1 then U64 (0#64) else U64 (0#64)) kr ?_
   intro ar bi ad ac aj
   have ax := aa.nb ad
   have aq := ab.nb ad
   have a2 := gb_ hk.size ad
   clear ad
   replace aa := aa.step aj
   replace ab := ab.step aj
   replace hk := thenB hk aj
   replace hF := Gh.Fold.below hF aj
   refine w_sta (k := 2) (G := fun j => U64 (Gh.cl (Gh.lw ((s.drop (16 * t)).take (((16 * t) + 16) - (16 * t)))) j)) (ex (pt ar 0)) ea oc GhBT.sz187 ac om ?_
   clear ac; intro bd ac am _
   replace ac := ac.congr (g := fun j => U64 (Gh.cl (Gh.lw ((s.drop (16 * t)).take (((16 * t) + 16) - (16 * t)))) j)) (fun j hj => by rw [if_pos ⟨Nat.zero_le _, by omega⟩]; first | rfl | (simp only [Nat.sub_zero]))
   replace aa := aa.stepG am om
   replace ab := ab.stepG am om
   replace hk := thenG hk am om
   replace hF := Gh.Fold.grown hF am om
   refine nt (wp_region_lit (w_val (v := pt ai 0) (y_off (y_fa (ex (pt ai 0) ag) (GhBT.fa187_0 _ _)) ro) (w_val (v := U64 (Gh.cl (Gh.gw f key s t) 0)) (y_ld (ex (pt ai 0)) GhBT.sc92 (ab.val om rfl)) (w_val (v := pt ar 0) (y_off (y_fa (ex (pt ar 0)) (GhBT.fa187_0 _ _)) ro) (w_val (v := U64 (Gh.cl (Gh.lw ((s.drop (16 * t)).take (((16 * t) + 16) - (16 * t)))) 0)) (y_ld (ex (pt ar 0)) GhBT.sc92 (ac.val om rfl)) (w_val (y_bin e6 e6 xor64) (w_val (v := pt ai 1) (y_off (y_fa (ex (pt ai 0) ag) (GhBT.fa187_1 _ _)) ro) (w_val (v := U64 (Gh.cl (Gh.gw f key s t) 1)) (y_ld (ex (pt ai 1)) GhBT.sc92 (ab.val om rfl)) (w_val (v := pt ar 1) (y_off (y_fa (ex (pt ar 0)) (GhBT.fa187_1 _ _)) ro) (w_val (v := U64 (Gh.cl (Gh.lw ((s.drop (16 * t)).take (((16 * t) + 16) - (16 * t)))) 1)) (y_ld (ex (pt ar 1)) GhBT.sc92 (ac.val om rfl)) (w_val (y_bin e6 e6 xor64) (w_val (v := .agg (arr 2 (fun j => U64 (Gh.cl (Gh.xw (Gh.gw f key s t) (Gh.lw ((s.drop (16 * t)).take (16 * t + 16 - 16 * t)))) j)))) (y_build (vs := #[(0, U64 ((Gh.cl (Gh.gw f key s t) 0) ^^^ (Gh.cl (Gh.lw ((s.drop (16 * t)).take (((16 * t) + 16) - (16 * t)))) 0))), (1, U64 ((Gh.cl (Gh.gw f key s t) 1) ^^^ (Gh.cl (Gh.lw ((s.drop (16 * t)).take (((16 * t) + 16) - (16 * t)))) 1)))]) (mp_cons e6 (mp_cons e6 mp0)) (fun w => by kernel_rfl)) (w_call (Tryz.func109) kr rfl (m2 ea (ex (pt ay 0) a0)) (ghBy f (Gh.xw (Gh.gw f key s t) (Gh.lw ((s.drop (16 * t)).take (16 * t + 16 - 16 * t)))) (Gh.lw key) ay bd aa hF) ?_)))))))))))))
   rintro _ bf ⟨rfl, ah⟩
   refine ⟨_, rfl, ?_⟩
   replace aa := aa.step ah
   replace ab := ab.step ah
   replace ac := ac.step ah
   replace hk := thenB hk ah
   replace hF := Gh.Fold.below hF ah
   refine w_sta (k := 2) (G := fun j => U64 (Gh.cl (Gh.byw f (Gh.xw (Gh.gw f key s t) (Gh.lw ((s.drop (16 * t)).take (16 * t + 16 - 16 * t)))) (Gh.lw key)) j)) (ex (pt ai 0) ag) ea oc GhBT.sz187 ab om ?_
   clear ab; intro bj ab ao _
   replace ab := ab.congr (g := fun j => U64 (Gh.cl (Gh.byw f (Gh.xw (Gh.gw f key s t) (Gh.lw ((s.drop (16 * t)).take (16 * t + 16 - 16 * t)))) (Gh.lw key)) j)) (fun j hj => by rw [if_pos ⟨Nat.zero_le _, by omega⟩]; first | rfl | (simp only [Nat.sub_zero]))
   replace aa := aa.stepG ao om
   replace ac := ac.stepG ao om
   replace hk := thenG hk ao om
   replace hF := Gh.Fold.grown hF ao om
   refine wpList_nil (inb_n (then_n (wp_region_lit (w_mv (ei an) (w_val (y_bin ei Ev.c (b_add om)) (w_as ei (wpList_nil ?_)))))))
   exact then_n ⟨_, om, t + 1, rfl, _, rfl, iv, av, a6, a3, a0, ag, ti, aa, (ab.congr (fun j hj => by rw [Cb.bk_at s t _ om]; rfl)), hF, hk⟩
  ·skip
   refine wp_exit (then_x (then_x (inb_x (then_n (sr (w_val (v := .agg (arr 2 (fun j => U64 (Gh.cl (Gh.gw f key s t) j)))) (y_lda (ex (pt ai 0) ag) GhBT.ag187 GhBT.sz187 (fun j hj => by rw [Nat.zero_add]; exact (ab.cell om))) (w_call (Tryz.func110) kr rfl (m1 ea) (ghStore (Gh.gw f key s t) ba) ?_)))))))
   rintro _ bm ⟨rfl, ak⟩
   refine ⟨_, rfl, ?_⟩
   replace aa := aa.step ak
   replace ab := ab.step ak
   replace hk := thenB hk ak
   replace hF := Gh.Fold.below hF ak
   refine w_as es (w_as Ev.c (nt (wp_ret (fin_ret2 rfl es ei ?_))))
   refine ⟨congrArg Ending.returned ?_, hk⟩
   show (.tuple #[.string (str (Gh.st (Gh.gw f key s t))), .int .i64 0] : Value) = .tuple #[.string (str (Gh.sum f key s)), .int .i64 0]
   obtain rfl : t = s.length / 16 := by omega
   rfl
end Go.Proofs.YtdmbfimjbmfbaaaGreatDoor
namespace Go.Proofs.YtdmbfimjbmfbaaaGreatDoor
open Go.RowKit
set_option linter.unusedSimpArgs false
set_option linter.unusedVariables false
set_option maxRecDepth 100000
set_option maxHeartbeats 1000000
namespace CtrAT
theorem mixed : Tryz.prog.follows .mixedOrders = true := by kernel_rfl
end CtrAT
theorem wrong_y (s : List (BitVec 8)) (d : Nat) (hs : s.length = 16) (h1 : 1 ≤ d) (h16 : d ≤ 16) (w0 : World) : Calls Tryz.prog 112 #[.string (str s), .int .i64 ((d : Nat) : Int)] w0 fun e w' => e = .returned (.int .i64 0) ∧ Below w0.heap.size w0 w' := by
 refine enter (n := 14) Tryz.func112 rfl rfl rfl ?_
 have hk : Below w0.heap.size w0 w0 := Below.refl _ _
 refine sr (w_as Ev.c (nt (wp_seq (sr (w_mv es (w_val (y_len es Tryz.underlying9) (w_val (y_bin ei Ev.c b_neq) (nt ?_))))))))
 have ac : ¬ (((s.length : Nat) : Int) ≠ 16) := by omega
 refine c_f (p := ((s.length : Nat) : Int) ≠ 16) eb ac (wp_skip (then_n (wp_seq (sr (w_mv ei (w_val (y_bin ei Ev.c b_lss) (w_mv eb ?_)))))))
 have aa : ¬ (((d : Nat) : Int) < 1) := by omega
 refine w_val_g (v := .int .i64 ((d : Nat) : Int)) (wy rfl rfl (eb (df aa))) (y_mv ei) (w_val_g (wy rfl rfl (eb (df aa))) (y_bin ei Ev.c b_gtr) (w_val (y_pick_f (eb (df aa)) eb) (nt ?_)))
 have ab : ¬ (16 < ((d : Nat) : Int)) := by omega
 refine c_f (p := 16 < ((d : Nat) : Int)) eb ab (wp_skip (then_n (sr (w_as Ev.c (nt (wp_ret (fin_ret1 rfl ei ?_)))))))
 exact ⟨rfl, hk⟩

theorem next_y (s : List (BitVec 8)) (d : Nat) (hs : s.length = 16) (h1 : 1 ≤ d) (h16 : d ≤ 16) (n : Nat) (hn : n < 18446744073709551616) (w0 : World) : Calls Tryz.prog 99 #[.string (str s), .int .i64 ((d : Nat) : Int), U64 (BitVec.ofNat 64 n)] w0 fun e w' => e = .returned (.tuple #[.string (str (Ct.nx s d n)), .int .i64 0]) ∧ Below w0.heap.size w0 w' := by
 have ac : (BitVec.ofNat 64 n).toNat = n := by rw [BitVec.toNat_ofNat]; omega
 refine enter (n := 26) Tryz.func99 rfl rfl rfl ?_
 have hk : Below w0.heap.size w0 w0 := Below.refl _ _
 refine sr (w_as (evc (.string (str ([] : List (BitVec 8))))) (w_as Ev.c (nt (wp_seq (sr (w_mv es (w_mv ei (w_call (Tryz.func112) kr rfl (m2 es ei) (wrong_y s d hs h1 h16 w0) ?_))))))))
 rintro _ w1 ⟨rfl, aa⟩
 refine ⟨_, rfl, ?_⟩
 replace hk := thenB hk aa
 refine w_as ei (nt (sr (w_mv ei (w_val (y_bin ei Ev.c b_neq) (nt (c_ff eb (wp_skip (then_n (wp_seq (region_q CtrAT.mixed kr (q_mv es (q_mv ei (q_val (fun w' hw' => y_bin Ev.c ei (b_sub om)) (q_val (v := .string (str (s.take (16 - d)))) (fun w' hw' => y_sls (ex (.string (str s))) evo.no (evo.s ei) Tryz.underlying9 (bnd_h (h := (16 - d)) om om)) (q_mv es (q_mv ei (q_val (fun w' hw' => y_bin Ev.c ei (b_sub om)) (q_val (v := .string (str (s.drop (16 - d)))) (fun w' hw' => y_slf (ex (.string (str s))) (evo.s ei) Tryz.underlying9 (bnd_l (l := (16 - d)) om om)) (q_mv e6 (q_call (v := .string (str (Oct.add (s.drop (16 - d)) (BitVec.ofNat 64 n).toNat))) (Tryz.func113) kr rfl (m2 es e6) (fun w' hw' => add_c (s.drop (16 - d)) (BitVec.ofNat 64 n) (by rw [List.length_drop]; omega) w') (q_val (fun w' hw' => y_bin es es (b_cat (by simp only [List.length_append, List.length_take, List.length_drop, Oct.length_add]; omega))) (q_as es (q_as Ev.c (q_nil ?_))))))))))))))))))))))))
 intro w3 ab
 replace hk := thenB hk ab
 refine then_n (wp_ret (fin_ret2 rfl es ei ?_))
 refine ⟨congrArg Ending.returned ?_, hk⟩
 show (.tuple #[.string (str ((s.take (16 - d)) ++ (Oct.add (s.drop (16 - d)) (BitVec.ofNat 64 n).toNat))), .int .i64 0] : Value) = .tuple #[.string (str (Ct.nx s d n)), .int .i64 0]
 rw [ac]; rfl
end Go.Proofs.YtdmbfimjbmfbaaaGreatDoor
namespace Go.Proofs.YtdmbfimjbmfbaaaGreatDoor
open Go.RowKit
set_option linter.unusedSimpArgs false
set_option linter.unusedVariables false
namespace Gm
abbrev L8 := List (BitVec 8)
def hk (key : L8) : L8 := Aes.enc (Aes.words key) Cb.zero16
def bl (s : L8) : L8 := Oct.be (BitVec.ofNat 64 (8 * s.length)) 8
theorem bl_len (s : L8) : (bl s).length = 8 := Oct.length_be _ _
def z8 : L8 := List.replicate 8 0#8
def n1 : L8 := [0#8, 0#8, 0#8, 1#8]
def first (f : Nat → BitVec 64) (key v : L8) : L8 := if v.length = 12 then v ++ n1 else Gh.sum f (hk key) ((Cb.z v ++ z8) ++ bl v)
theorem first_12 (f : Nat → BitVec 64) (key v : L8) (h : v.length = 12) : v ++ n1 = first f key v := by
  unfold first
  rw [if_pos h]
theorem first_n (f : Nat → BitVec 64) (key v : L8) (h : v.length ≠ 12) : Gh.sum f (Aes.enc (Aes.words key) (List.replicate 16 0#8)) ((Cb.z v ++ List.replicate 8 0#8) ++ bl v) = first f key v := by
  unfold first
  rw [if_neg h]; rfl
theorem mul8 (n : Nat) : BitVec.ofNat 64 n * 8#64 = BitVec.ofNat 64 (8 * n) := by
  rw [Nat.mul_comm]
  exact (BitVec.ofNat_mul (n := 64) n 8).symm
theorem first_len (f : Nat → BitVec 64) (key v : L8) : (first f key v).length = 16 := by
  unfold first
  split
  · rename_i h; rw [List.length_append, h]; rfl
  · exact Gh.sum_len _ _ _
def body (aad c : L8) : L8 := ((Cb.z aad ++ Cb.z c) ++ bl aad) ++ bl c
theorem z_len16 (s : L8) : (Cb.z s).length % 16 = 0 ∧ s.length ≤ (Cb.z s).length ∧ (Cb.z s).length ≤ s.length + 15 := by
  have h : (Cb.z s).length = s.length + (16 - s.length % 16) % 16 := Cb.z_len s
  omega
theorem body_len (aad c : L8) : (body aad c).length % 16 = 0 ∧ (body aad c).length ≤ aad.length + c.length + 46 := by
  have h1 := z_len16 aad
  have h2 := z_len16 c
  unfold body
  simp only [List.length_append, bl_len]
  omega
def tg (f : Nat → BitVec 64) (key v aad c : L8) (size : Nat) : L8 := (Oct.xor (Gh.sum f (hk key) (body aad c)) (Aes.enc (Aes.words key) (first f key v))).take size
theorem tg_len (f : Nat → BitVec 64) (key v aad c : L8) (size : Nat) (hok : Aes.okKey key.length) (h : size ≤ 16) : (tg f key v aad c size).length = size := by
  unfold tg
  rw [List.length_take, Oct.length_xor, Gh.sum_len, Cb.enc_len _ _ hok]; omega
def xr (f : Nat → BitVec 64) (key v t : L8) : L8 := Ct.x key (Ct.nx (first f key v) 4 1) 4 t
theorem xr_len (f : Nat → BitVec 64) (key v t : L8) : (xr f key v t).length = t.length := Ct.length_x _ _ _ _
theorem xr_xr (f : Nat → BitVec 64) (key v t : L8) : xr f key v (xr f key v t) = t := Ct.x_x _ _ _ _
def sealed (f : Nat → BitVec 64) (key v aad t : L8) (size : Nat) : L8 := xr f key v t ++ tg f key v aad (xr f key v t) size
theorem sealed_len (f : Nat → BitVec 64) (key v aad t : L8) (size : Nat) (hok : Aes.okKey key.length) (h : size ≤ 16) : (sealed f key v aad t size).length = t.length + size := by
  unfold sealed
  rw [List.length_append, xr_len, tg_len _ _ _ _ _ _ hok h]
theorem sealed_take (f : Nat → BitVec 64) (key v aad t : L8) (size : Nat) : (sealed f key v aad t size).take t.length = xr f key v t := by
  unfold sealed
  have h := xr_len f key v t
  rw [← h]
  exact List.take_left ..
theorem sealed_drop (f : Nat → BitVec 64) (key v aad t : L8) (size : Nat) : (sealed f key v aad t size).drop t.length = tg f key v aad (xr f key v t) size := by
  unfold sealed
  have h := xr_len f key v t
  rw [← h]
  exact List.drop_left ..
/-- a text with some bits of a byte turned -/
def turn (s : L8) (a : Nat) (x : BitVec 8) : L8 := (List.range s.length).map fun j => if j = a % s.length then gb s j ^^^ x else gb s j
def turned (s : L8) (a : Int) (x : BitVec 8) : L8 := if s.length = 0 ∨ a < 0 then s else turn s a.toNat x
/-- what is opened, and the error -/
def opened (f : Nat → BitVec 64) (key v aad t : L8) (m size : Nat) : L8 := if tg f key v aad (t.take m) size = t.drop m then xr f key v (t.take m) else []
def wo : L8 := [0x58#8, 0xe2#8, 0xfc#8, 0xce#8, 0xfa#8, 0x7e#8, 0x30#8, 0x61#8, 0x36#8, 0x7f#8, 0x1d#8, 0x57#8, 0xa4#8, 0xe7#8, 0x45#8, 0x5a#8]
end Gm
end Go.Proofs.YtdmbfimjbmfbaaaGreatDoor
