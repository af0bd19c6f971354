/-
  Digests: some bytes more. Conditions as each says.
-/
import Derived.Test.YtieepglpejlkoaaDoorRows
import Derived.Test.YtieepglpejlkoaaDoorShaB
import Derived.ProofKit
namespace Go.Proofs.YtieepglpejlkoaaDoor
open Go.RowKit
set_option linter.unusedSimpArgs false
set_option linter.unusedVariables false
namespace ShaCT
theorem mixed : Tryd.prog.follows .mixedOrders = true := by kernel_rfl
theorem ag40 : (Tryd.prog.underlying 40).map isAggD = some true := by rw [Tryd.underlying40]; rfl
theorem fa53_0 (g off : Nat) : ∀ w, (Instr.fieldAt 53 (.pointer (some ⟨g, off, none⟩)) 0).run Tryd.prog w = .ok (.pointer (some ⟨g, off + 0, none⟩)) w := fun w => by kernel_rfl
theorem fa53_1 (g off : Nat) : ∀ w, (Instr.fieldAt 53 (.pointer (some ⟨g, off, none⟩)) 1).run Tryd.prog w = .ok (.pointer (some ⟨g, off + 1, none⟩)) w := fun w => by kernel_rfl
theorem fa53_2 (g off : Nat) : ∀ w, (Instr.fieldAt 53 (.pointer (some ⟨g, off, none⟩)) 2).run Tryd.prog w = .ok (.pointer (some ⟨g, off + 9, none⟩)) w := fun w => by kernel_rfl
theorem fa53_3 (g off : Nat) : ∀ w, (Instr.fieldAt 53 (.pointer (some ⟨g, off, none⟩)) 3).run Tryd.prog w = .ok (.pointer (some ⟨g, off + 137, none⟩)) w := fun w => by kernel_rfl
theorem sc3 : (Tryd.prog.underlying 3).map scal = some true := by rw [Tryd.underlying3]; rfl
theorem sc39 : (Tryd.prog.underlying 39).map scal = some true := by rw [Tryd.underlying39]; rfl
theorem sc5 : (Tryd.prog.underlying 5).map scal = some true := by rw [Tryd.underlying5]; rfl
theorem sc93 : (Tryd.prog.underlying 93).map scal = some true := by rw [Tryd.underlying93]; rfl
theorem so3 : (Tryd.prog.underlying 3).isSome = true := by rw [Tryd.underlying3]; rfl
theorem so39 : (Tryd.prog.underlying 39).isSome = true := by rw [Tryd.underlying39]; rfl
theorem so5 : (Tryd.prog.underlying 5).isSome = true := by rw [Tryd.underlying5]; rfl
theorem so93 : (Tryd.prog.underlying 93).isSome = true := by rw [Tryd.underlying93]; rfl
theorem sz3 : (Tryd.prog.info? 3).map (·.size) = some 1 := by kernel_rfl
theorem sz39 : (Tryd.prog.info? 39).map (·.size) = some 1 := by kernel_rfl
theorem sz40 : (Tryd.prog.info? 40).map (·.size) = some 8 := by kernel_rfl
theorem sz5 : (Tryd.prog.info? 5).map (·.size) = some 1 := by kernel_rfl
theorem sz93 : (Tryd.prog.info? 93).map (·.size) = some 1 := by kernel_rfl
theorem sz96 : (Tryd.prog.info? 96).map (·.size) = some 8 := by kernel_rfl
end ShaCT
set_option maxRecDepth 100000 in
set_option maxHeartbeats 1000000 in
theorem put_256 (h : Nat) (h1 : 0 < h ∧ 1 < h) (m s : List (BitVec 8)) (hs : s.length ≤ 140737488351232) (rr : Nat → BitVec 8) (al : BitVec 64) (hr : ∀ j, j < m.length % 64 → rr j = gb m (64 * (m.length / 64) + j)) (w0 : World) (r_h : Row w0 h 53 139 (Sha.hrow (.int .i64 256) (Sha.st 256 (gb m) (m.length / 64)) rr (.int .i64 (((m.length % 64) : Nat) : Int)) (U64 al))) (hT : Sha.Tabs w0) : Calls Tryd.prog 41 #[pt h 0, .string (str s)] w0 fun e w' => e = .returned (.tuple #[]) ∧ ∃ rr' : Nat → BitVec 8, (∀ j, j < (m.length + s.length) % 64 → rr' j = gb (m ++ s) (64 * ((m.length + s.length) / 64) + j)) ∧ Row w' h 53 139 (Sha.hrow (.int .i64 256) (Sha.st 256 (gb (m ++ s)) ((m.length + s.length) / 64)) rr' (.int .i64 ((((m.length + s.length) % 64) : Nat) : Int)) (U64 al)) ∧ w0.grownBy w' (some h) := by
 have hT0 := hT.lt
 refine enter (n := 60) Tryd.func41 rfl rfl rfl ?_
 have hk : w0.grownBy w0 (some h) := grown_refl _ _
 have lt_h := r_h.lt
 refine sr ?_
 refine w_mv (ev (pt h 0) rfl rfl) ?_
 refine w_val (y_nc (ev (pt h 0) rfl rfl)) ?_
 refine w_val (v := pt h 0) (y_off (y_fa (ev (pt h 0) rfl rfl) (ShaCT.fa53_0 _ _)) (by first | rfl | omega)) ?_
 refine w_val (v := .int .i64 256) (y_ld (ev (pt h 0) rfl rfl) ShaCT.sc3 (r_h.val (by omega) (etv (if_pos (by omega))))) ?_
 refine w_call (Tryd.func19) (by kernel_rfl) rfl (m1 (ev (.int .i64 256) rfl rfl)) (shaSize_256  w0) ?_
 rintro _ w1 ⟨rfl, hb2⟩
 refine ⟨_, rfl, ?_⟩
 replace r_h := r_h.step hb2
 replace hk := grown_thenB hk hb2
 replace hT := Sha.Tabs.below hT hb2
 refine w_mv (ev (.tuple #[.int .i64 32, .int .i64 64, .int .i64 0]) rfl rfl) ?_
 refine w_val (y_ext (v := .int .i64 32) (ev (.tuple #[.int .i64 32, .int .i64 64, .int .i64 0]) rfl rfl) rfl) ?_
 refine w_val (y_ext (v := .int .i64 64) (ev (.tuple #[.int .i64 32, .int .i64 64, .int .i64 0]) rfl rfl) rfl) ?_
 refine w_val (y_ext (v := .int .i64 0) (ev (.tuple #[.int .i64 32, .int .i64 64, .int .i64 0]) rfl rfl) rfl) ?_
 refine w_as (ev (.int .i64 32) rfl rfl) ?_
 refine w_as (ev (.int .i64 64) rfl rfl) ?_
 refine w_as (ev (.int .i64 0) rfl rfl) ?_
 refine nt ?_
 refine wp_block ?_
 refine c_loop (fun dN aN wl => ∃ (c : Nat) (r : Nat → BitVec 8), dN = (s.length - c) ∧ ∃ f3, aN = fr 60 f3 ∧ (c ≤ s.length) ∧ (∀ j, j < ((m.length + c) % 64) → r j = gb (m ++ s) (64 * ((m.length + c) / 64) + j)) ∧ f3 0 = pt h 0 ∧ f3 1 = .string (str (s.drop c)) ∧ f3 5 = .int .i64 64 ∧ Row wl h 53 139 (Sha.hrow (.int .i64 256) (Sha.st 256 (gb (m ++ s)) ((m.length + c) / 64)) r (.int .i64 ((((m.length + c) % 64) : Nat) : Int)) (U64 al)) ∧ Sha.Tabs wl ∧ w0.grownBy wl (some h)) (s.length - 0) ?_ ?_
 · exact ⟨0, rr, rfl, _, rfl, iv, (by intro j hj; rw [hr j (by omega), gb_append, if_pos (by omega)]; rfl), rfl, (Eq.trans (b := .string (str s)) rfl (by rfl)), rfl, (r_h.congr (fun j hj => by rw [Sha.put_init 256 64 rfl m s] <;> rfl)), hT, hk⟩
 ·skip
  clear r_h hT hk
  rintro _ _ w4 ⟨c, r, rfl, f3, rfl, i1_0, i1_1, s1_0, s1_1, s1_5, r_h, hT, hk⟩
  have hld : (s.drop c).length = s.length - c := List.length_drop
  refine wp_seq ?_
  refine sr ?_
  refine w_mv (ev (.string (str (s.drop c))) s1_1 rfl) ?_
  refine w_val (y_len (ev (.string (str (s.drop c))) rfl rfl) Tryd.underlying9) ?_
  refine w_val (y_bin (ev (.int .i64 (((s.drop c).length : Nat) : Int)) rfl rfl) (evc (.int .i64 0)) b_gtr) ?_
  refine nt ?_
  refine c_if (p := 0 < (((s.drop c).length : Nat) : Int)) (ev (.bool (decide (0 < (((s.drop c).length : Nat) : Int)))) rfl rfl) (fun hc5 => ?_) (fun hc5 => ?_)
  ·skip
   refine wp_skip ?_
   refine then_n ?_
   refine wp_block ?_
   refine wp_seq ?_
   refine region_t 10 ShaCT.mixed (by kernel_rfl) ?_
   simp only [List.take_succ_cons, List.take_zero, List.drop_succ_cons, List.drop_zero]
   refine q_mv (ev (pt h 0) s1_0 rfl) ?_
   refine q_val (fun w' hw' => y_nc (ev (pt h 0) rfl rfl)) ?_
   refine q_val (v := pt h 9) (fun w' hw' => y_off (y_fa (ev (pt h 0) rfl rfl) (ShaCT.fa53_2 _ _)) (by first | rfl | omega)) ?_
   refine q_mv (ev (pt h 0) s1_0 rfl) ?_
   refine q_val (fun w' hw' => y_nc (ev (pt h 0) rfl rfl)) ?_
   refine q_val (v := pt h 137) (fun w' hw' => y_off (y_fa (ev (pt h 0) rfl rfl) (ShaCT.fa53_3 _ _)) (by first | rfl | omega)) ?_
   refine q_val (v := .int .i64 ((((m.length + c) % 64) : Nat) : Int)) (fun w' hw' => y_ld (ev (pt h 137) rfl rfl) ShaCT.sc3 (cls_cell (r_h.val (by omega) ((if_neg (by omega)).trans ((if_neg (by omega)).trans ((if_neg (by omega)).trans (etv (if_pos (by omega))))))) r_h.lt w' hw')) ?_
   refine q_mv (ev (.int .i64 64) s1_5 rfl) ?_
   refine q_val (v := .slice (some ⟨h, (9 + ((m.length + c) % 64)), none⟩) (64 - ((m.length + c) % 64)) (128 - ((m.length + c) % 64))) (fun w' hw' => y_sloff (y_slp (ev (pt h 9) rfl rfl) (evo.s (ev (.int .i64 ((((m.length + c) % 64) : Nat) : Int)) rfl rfl)) (evo.s (ev (.int .i64 64) rfl rfl)) Tryd.underlying51 ShaCT.sz5 (bnd_lh (l := ((m.length + c) % 64)) (h := 64) (by omega) (by omega) (by omega) (by omega)) (by omega)) (by first | rfl | omega) rfl) ?_
   refine q_mv (ev (.string (str (s.drop c))) s1_1 rfl) ?_
   refine q_nil ?_
   intro w6 hb7
   replace r_h := r_h.step hb7
   replace hk := grown_thenB hk hb7
   replace hT := Sha.Tabs.below hT hb7
   refine w_copys (l := s.drop c) (ev (.slice (some ⟨h, (9 + ((m.length + c) % 64)), none⟩) (64 - ((m.length + c) % 64)) (128 - ((m.length + c) % 64))) rfl rfl) (ev (.string (str (s.drop c))) rfl rfl) Tryd.underlying76 ShaCT.sz5 r_h (by omega) ?_
   clear r_h; intro w8 r_h hg9 _
   replace hk := grown_thenG hk hg9 (by omega)
   replace hT := Sha.Tabs.grown hT hg9 (by omega) (by omega)
   refine w_as (ev (.int .i64 (((min (s.drop c).length (64 - ((m.length + c) % 64))) : Nat) : Int)) rfl rfl) ?_
   refine nt ?_
   refine sr ?_
   refine w_mv (ev (.string (str (s.drop c))) s1_1 rfl) ?_
   refine w_mv (ev (.int .i64 (((min (s.drop c).length (64 - ((m.length + c) % 64))) : Nat) : Int)) rfl rfl) ?_
   refine w_val (v := .string (str ((s.drop c).drop (min (s.drop c).length (64 - ((m.length + c) % 64)))))) (y_slf (ev (.string (str (s.drop c))) rfl rfl) (evo.s (ev (.int .i64 (((min (s.drop c).length (64 - ((m.length + c) % 64))) : Nat) : Int)) rfl rfl)) Tryd.underlying9 (bnd_l (l := (min (s.drop c).length (64 - ((m.length + c) % 64)))) (by omega) (by omega))) ?_
   refine w_as (ev (.string (str ((s.drop c).drop (min (s.drop c).length (64 - ((m.length + c) % 64)))))) rfl rfl) ?_
   refine nt ?_
   refine wp_seq ?_
   replace r_h := r_h.congr (g := Sha.hrow (.int .i64 256) (Sha.st 256 (gb (m ++ s)) ((m.length + c) / 64)) (fun i => if ((m.length + c) % 64) ≤ i ∧ i < ((m.length + c) % 64) + (min (s.drop c).length (64 - ((m.length + c) % 64))) then gb (s.drop c) (i - ((m.length + c) % 64)) else r i) (.int .i64 ((((m.length + c) % 64) : Nat) : Int)) (U64 al)) (fun j hj => Sha.rest_row _ _ _ _ _ _ _ _ j (by omega))
   refine wp_region_lit ?_
   refine w_mv (ev (pt h 0) s1_0 rfl) ?_
   refine w_val (y_nc (ev (pt h 0) rfl rfl)) ?_
   refine w_val (v := pt h 137) (y_off (y_fa (ev (pt h 0) rfl rfl) (ShaCT.fa53_3 _ _)) (by first | rfl | omega)) ?_
   refine w_val (v := .int .i64 ((((m.length + c) % 64) : Nat) : Int)) (y_ld (ev (pt h 137) rfl rfl) ShaCT.sc3 (r_h.val (by omega) ((if_neg (by omega)).trans ((if_neg (by omega)).trans ((if_neg (by omega)).trans (etv (if_pos (by omega)))))))) ?_
   refine w_mv (ev (.int .i64 (((min (s.drop c).length (64 - ((m.length + c) % 64))) : Nat) : Int)) rfl rfl) ?_
   refine w_val (y_bin (ev (.int .i64 ((((m.length + c) % 64) : Nat) : Int)) rfl rfl) (ev (.int .i64 (((min (s.drop c).length (64 - ((m.length + c) % 64))) : Nat) : Int)) rfl rfl) (b_add (by omega))) ?_
   refine w_val (y_nc (ev (pt h 0) rfl rfl)) ?_
   refine w_val (v := pt h 137) (y_off (y_fa (ev (pt h 0) rfl rfl) (ShaCT.fa53_3 _ _)) (by first | rfl | omega)) ?_
   refine w_st (v := .int .i64 (((((m.length + c) % 64) : Nat) : Int) + (((min (s.drop c).length (64 - ((m.length + c) % 64))) : Nat) : Int))) (ev (pt h 137) rfl rfl) (ev (.int .i64 (((((m.length + c) % 64) : Nat) : Int) + (((min (s.drop c).length (64 - ((m.length + c) % 64))) : Nat) : Int))) rfl rfl) rfl rfl ShaCT.sz3 r_h (by omega) ?_
   clear r_h; intro w10 r_h hg11 _
   replace hk := grown_thenG hk hg11 (by omega)
   replace hT := Sha.Tabs.grown hT hg11 (by omega) (by omega)
   refine nt ?_
   refine wp_seq ?_
   refine sr ?_
   refine w_mv (ev (pt h 0) s1_0 rfl) ?_
   refine w_val (y_nc (ev (pt h 0) rfl rfl)) ?_
   refine w_val (v := pt h 137) (y_off (y_fa (ev (pt h 0) rfl rfl) (ShaCT.fa53_3 _ _)) (by first | rfl | omega)) ?_
   refine w_val (v := .int .i64 (((((m.length + c) % 64) : Nat) : Int) + (((min (s.drop c).length (64 - ((m.length + c) % 64))) : Nat) : Int))) (y_ld (ev (pt h 137) rfl rfl) ShaCT.sc3 (r_h.val (by omega) (if_pos rfl))) ?_
   refine w_mv (ev (.int .i64 64) s1_5 rfl) ?_
   refine w_val (y_bin (ev (.int .i64 (((((m.length + c) % 64) : Nat) : Int) + (((min (s.drop c).length (64 - ((m.length + c) % 64))) : Nat) : Int))) rfl rfl) (ev (.int .i64 64) rfl rfl) b_lss) ?_
   refine nt ?_
   refine c_if (p := (((((m.length + c) % 64) : Nat) : Int) + (((min (s.drop c).length (64 - ((m.length + c) % 64))) : Nat) : Int)) < 64) (ev (.bool (decide ((((((m.length + c) % 64) : Nat) : Int) + (((min (s.drop c).length (64 - ((m.length + c) % 64))) : Nat) : Int)) < 64))) rfl rfl) (fun hc12 => ?_) (fun hc12 => ?_)
   ·skip
    refine wp_ret ?_
    refine then_r ?_
    refine inb_r ?_
    refine then_r ?_
    refine inb_r ?_
    refine fin_ret0 rfl ?_
    have e1 : (m.length + s.length) % 64 = ((m.length + c) % 64) + (min (s.drop c).length (64 - ((m.length + c) % 64))) := by omega
    have e2 : (m.length + s.length) / 64 = ((m.length + c) / 64) := by omega
    rw [e1, e2]
    exact ⟨rfl, fun i => if ((m.length + c) % 64) ≤ i ∧ i < ((m.length + c) % 64) + (min (s.drop c).length (64 - ((m.length + c) % 64))) then gb (s.drop c) (i - ((m.length + c) % 64)) else r i, Sha.put_kept 64 c ((m.length + c) % 64) (min (s.drop c).length (64 - ((m.length + c) % 64))) m s r rfl i1_1, r_h.congr (g := Sha.hrow (.int .i64 256) (Sha.st 256 (gb (m ++ s)) ((m.length + c) / 64)) (fun i => if ((m.length + c) % 64) ≤ i ∧ i < ((m.length + c) % 64) + (min (s.drop c).length (64 - ((m.length + c) % 64))) then gb (s.drop c) (i - ((m.length + c) % 64)) else r i) (.int .i64 ((((m.length + c) % 64) + (min (s.drop c).length (64 - ((m.length + c) % 64))) : Nat) : Int)) (U64 al)) (fun j hj => by refine Sha.num_row (.int .i64 256) (Sha.st 256 (gb (m ++ s)) ((m.length + c) / 64)) (fun i => if ((m.length + c) % 64) ≤ i ∧ i < ((m.length + c) % 64) + (min (s.drop c).length (64 - ((m.length + c) % 64))) then gb (s.drop c) (i - ((m.length + c) % 64)) else r i) _ _ _ _ j ?_; congr 1), hk⟩
   ·skip
    refine wp_skip ?_
    refine then_n ?_
    refine wp_seq ?_
    refine sr ?_
    refine w_mv (ev (pt h 0) s1_0 rfl) ?_
    refine w_val (y_nc (ev (pt h 0) rfl rfl)) ?_
    refine w_val (v := pt h 0) (y_off (y_fa (ev (pt h 0) rfl rfl) (ShaCT.fa53_0 _ _)) (by first | rfl | omega)) ?_
    refine w_val (v := .int .i64 256) (y_ld (ev (pt h 0) rfl rfl) ShaCT.sc3 (r_h.val (by omega) ((if_neg (by omega)).trans (etv (if_pos (by omega)))))) ?_
    refine w_val (y_bin (ev (.int .i64 256) rfl rfl) (evc (.int .i64 256)) b_eql) ?_
    refine nt ?_
    refine c_tt (ev (.bool true) rfl rfl) ?_
    refine wp_region_lit ?_
    refine w_mv (ev (pt h 0) s1_0 rfl) ?_
    replace r_h := r_h.congr (g := Sha.hrow (.int .i64 256) (Sha.st 256 (gb (m ++ s)) ((m.length + c) / 64)) (fun i => if ((m.length + c) % 64) ≤ i ∧ i < ((m.length + c) % 64) + (min (s.drop c).length (64 - ((m.length + c) % 64))) then gb (s.drop c) (i - ((m.length + c) % 64)) else r i) (.int .i64 ((64 : Nat) : Int)) (U64 al)) (fun j hj => Sha.num_row (.int .i64 256) (Sha.st 256 (gb (m ++ s)) ((m.length + c) / 64)) (fun i => if ((m.length + c) % 64) ≤ i ∧ i < ((m.length + c) % 64) + (min (s.drop c).length (64 - ((m.length + c) % 64))) then gb (s.drop c) (i - ((m.length + c) % 64)) else r i) _ _ _ _ j (by congr 1 <;> omega))
    have rh_ := r_h
    clear r_h
    refine w_call (Tryd.func49) (by kernel_rfl) rfl (m1 (ev (pt h 0) rfl rfl)) (few_c h 64 h1 256 (Sha.st 256 (gb (m ++ s)) ((m.length + c) / 64)) (fun i => if ((m.length + c) % 64) ≤ i ∧ i < ((m.length + c) % 64) + (min (s.drop c).length (64 - ((m.length + c) % 64))) then gb (s.drop c) (i - ((m.length + c) % 64)) else r i) al (Sha.st_small _ _) w10 rh_ hT) ?_
    rintro _ w13 ⟨rfl, r_h, hgf⟩
    refine ⟨_, rfl, ?_⟩
    replace hk := grown_thenG hk hgf (by omega)
    replace hT := Sha.Tabs.grown hT hgf (by omega) (by omega)
    refine nt ?_
    refine wp_region_lit ?_
    refine w_mv (ev (pt h 0) s1_0 rfl) ?_
    refine w_val (y_nc (ev (pt h 0) rfl rfl)) ?_
    refine w_val (v := pt h 137) (y_off (y_fa (ev (pt h 0) rfl rfl) (ShaCT.fa53_3 _ _)) (by first | rfl | omega)) ?_
    refine w_st (v := .int .i64 0) (ev (pt h 137) rfl rfl) (evc (.int .i64 0)) rfl rfl ShaCT.sz3 r_h (by omega) ?_
    clear r_h; intro w14 r_h hg15 _
    replace hk := grown_thenG hk hg15 (by omega)
    replace hT := Sha.Tabs.grown hT hg15 (by omega) (by omega)
    refine wpList_nil ?_
    refine inb_n ?_
    exact then_n ⟨_, (by omega), c + (min (s.drop c).length (64 - ((m.length + c) % 64))), fun i => if ((m.length + c) % 64) ≤ i ∧ i < ((m.length + c) % 64) + (min (s.drop c).length (64 - ((m.length + c) % 64))) then gb (s.drop c) (i - ((m.length + c) % 64)) else r i, rfl, _, rfl, iv, (by intro j hj; exfalso; omega), s1_0, (Eq.trans (b := .string (str ((s.drop c).drop (min (s.drop c).length (64 - ((m.length + c) % 64)))))) rfl (by rw [List.drop_drop])), s1_5, (r_h.congr (fun j hj => by refine (Sha.num_row (.int .i64 256) (Sha.comp true (fun i => if ((m.length + c) % 64) ≤ i ∧ i < ((m.length + c) % 64) + (min (s.drop c).length (64 - ((m.length + c) % 64))) then gb (s.drop c) (i - ((m.length + c) % 64)) else r i) (Sha.st 256 (gb (m ++ s)) ((m.length + c) / 64))) (fun i => if ((m.length + c) % 64) ≤ i ∧ i < ((m.length + c) % 64) + (min (s.drop c).length (64 - ((m.length + c) % 64))) then gb (s.drop c) (i - ((m.length + c) % 64)) else r i) _ _ _ _ j rfl).trans ?_; rw [show (m.length + (c + (min (s.drop c).length (64 - ((m.length + c) % 64))))) % 64 = 0 from by omega, ← Sha.put_next 256 64 c ((m.length + c) % 64) (min (s.drop c).length (64 - ((m.length + c) % 64))) ((m.length + (c + (min (s.drop c).length (64 - ((m.length + c) % 64))))) / 64) rfl m s r rfl i1_1 (by omega) (by omega)] <;> rfl)), hT, hk⟩
  ·skip
   refine wp_exit ?_
   refine then_x ?_
   refine then_x ?_
   refine inb_x ?_
   refine fin_end0 rfl ?_
   obtain rfl : c = s.length := by omega
   exact ⟨rfl, r, i1_1, r_h, hk⟩

set_option maxRecDepth 100000 in
set_option maxHeartbeats 1000000 in
theorem put_384 (h : Nat) (h1 : 0 < h ∧ 1 < h) (m s : List (BitVec 8)) (hs : s.length ≤ 140737488351232) (rr : Nat → BitVec 8) (al : BitVec 64) (hr : ∀ j, j < m.length % 128 → rr j = gb m (128 * (m.length / 128) + j)) (w0 : World) (r_h : Row w0 h 53 139 (Sha.hrow (.int .i64 384) (Sha.st 384 (gb m) (m.length / 128)) rr (.int .i64 (((m.length % 128) : Nat) : Int)) (U64 al))) (hT : Sha.Tabs w0) : Calls Tryd.prog 41 #[pt h 0, .string (str s)] w0 fun e w' => e = .returned (.tuple #[]) ∧ ∃ rr' : Nat → BitVec 8, (∀ j, j < (m.length + s.length) % 128 → rr' j = gb (m ++ s) (128 * ((m.length + s.length) / 128) + j)) ∧ Row w' h 53 139 (Sha.hrow (.int .i64 384) (Sha.st 384 (gb (m ++ s)) ((m.length + s.length) / 128)) rr' (.int .i64 ((((m.length + s.length) % 128) : Nat) : Int)) (U64 al)) ∧ w0.grownBy w' (some h) := by
 have hT0 := hT.lt
 refine enter (n := 60) Tryd.func41 rfl rfl rfl ?_
 have hk : w0.grownBy w0 (some h) := grown_refl _ _
 have lt_h := r_h.lt
 refine sr ?_
 refine w_mv (ev (pt h 0) rfl rfl) ?_
 refine w_val (y_nc (ev (pt h 0) rfl rfl)) ?_
 refine w_val (v := pt h 0) (y_off (y_fa (ev (pt h 0) rfl rfl) (ShaCT.fa53_0 _ _)) (by first | rfl | omega)) ?_
 refine w_val (v := .int .i64 384) (y_ld (ev (pt h 0) rfl rfl) ShaCT.sc3 (r_h.val (by omega) (etv (if_pos (by omega))))) ?_
 refine w_call (Tryd.func19) (by kernel_rfl) rfl (m1 (ev (.int .i64 384) rfl rfl)) (shaSize_384  w0) ?_
 rintro _ w1 ⟨rfl, hb2⟩
 refine ⟨_, rfl, ?_⟩
 replace r_h := r_h.step hb2
 replace hk := grown_thenB hk hb2
 replace hT := Sha.Tabs.below hT hb2
 refine w_mv (ev (.tuple #[.int .i64 48, .int .i64 128, .int .i64 0]) rfl rfl) ?_
 refine w_val (y_ext (v := .int .i64 48) (ev (.tuple #[.int .i64 48, .int .i64 128, .int .i64 0]) rfl rfl) rfl) ?_
 refine w_val (y_ext (v := .int .i64 128) (ev (.tuple #[.int .i64 48, .int .i64 128, .int .i64 0]) rfl rfl) rfl) ?_
 refine w_val (y_ext (v := .int .i64 0) (ev (.tuple #[.int .i64 48, .int .i64 128, .int .i64 0]) rfl rfl) rfl) ?_
 refine w_as (ev (.int .i64 48) rfl rfl) ?_
 refine w_as (ev (.int .i64 128) rfl rfl) ?_
 refine w_as (ev (.int .i64 0) rfl rfl) ?_
 refine nt ?_
 refine wp_block ?_
 refine c_loop (fun dN aN wl => ∃ (c : Nat) (r : Nat → BitVec 8), dN = (s.length - c) ∧ ∃ f3, aN = fr 60 f3 ∧ (c ≤ s.length) ∧ (∀ j, j < ((m.length + c) % 128) → r j = gb (m ++ s) (128 * ((m.length + c) / 128) + j)) ∧ f3 0 = pt h 0 ∧ f3 1 = .string (str (s.drop c)) ∧ f3 5 = .int .i64 128 ∧ Row wl h 53 139 (Sha.hrow (.int .i64 384) (Sha.st 384 (gb (m ++ s)) ((m.length + c) / 128)) r (.int .i64 ((((m.length + c) % 128) : Nat) : Int)) (U64 al)) ∧ Sha.Tabs wl ∧ w0.grownBy wl (some h)) (s.length - 0) ?_ ?_
 · exact ⟨0, rr, rfl, _, rfl, iv, (by intro j hj; rw [hr j (by omega), gb_append, if_pos (by omega)]; rfl), rfl, (Eq.trans (b := .string (str s)) rfl (by rfl)), rfl, (r_h.congr (fun j hj => by rw [Sha.put_init 384 128 rfl m s] <;> rfl)), hT, hk⟩
 ·skip
  clear r_h hT hk
  rintro _ _ w4 ⟨c, r, rfl, f3, rfl, i1_0, i1_1, s1_0, s1_1, s1_5, r_h, hT, hk⟩
  have hld : (s.drop c).length = s.length - c := List.length_drop
  refine wp_seq ?_
  refine sr ?_
  refine w_mv (ev (.string (str (s.drop c))) s1_1 rfl) ?_
  refine w_val (y_len (ev (.string (str (s.drop c))) rfl rfl) Tryd.underlying9) ?_
  refine w_val (y_bin (ev (.int .i64 (((s.drop c).length : Nat) : Int)) rfl rfl) (evc (.int .i64 0)) b_gtr) ?_
  refine nt ?_
  refine c_if (p := 0 < (((s.drop c).length : Nat) : Int)) (ev (.bool (decide (0 < (((s.drop c).length : Nat) : Int)))) rfl rfl) (fun hc5 => ?_) (fun hc5 => ?_)
  ·skip
   refine wp_skip ?_
   refine then_n ?_
   refine wp_block ?_
   refine wp_seq ?_
   refine region_t 10 ShaCT.mixed (by kernel_rfl) ?_
   simp only [List.take_succ_cons, List.take_zero, List.drop_succ_cons, List.drop_zero]
   refine q_mv (ev (pt h 0) s1_0 rfl) ?_
   refine q_val (fun w' hw' => y_nc (ev (pt h 0) rfl rfl)) ?_
   refine q_val (v := pt h 9) (fun w' hw' => y_off (y_fa (ev (pt h 0) rfl rfl) (ShaCT.fa53_2 _ _)) (by first | rfl | omega)) ?_
   refine q_mv (ev (pt h 0) s1_0 rfl) ?_
   refine q_val (fun w' hw' => y_nc (ev (pt h 0) rfl rfl)) ?_
   refine q_val (v := pt h 137) (fun w' hw' => y_off (y_fa (ev (pt h 0) rfl rfl) (ShaCT.fa53_3 _ _)) (by first | rfl | omega)) ?_
   refine q_val (v := .int .i64 ((((m.length + c) % 128) : Nat) : Int)) (fun w' hw' => y_ld (ev (pt h 137) rfl rfl) ShaCT.sc3 (cls_cell (r_h.val (by omega) ((if_neg (by omega)).trans ((if_neg (by omega)).trans ((if_neg (by omega)).trans (etv (if_pos (by omega))))))) r_h.lt w' hw')) ?_
   refine q_mv (ev (.int .i64 128) s1_5 rfl) ?_
   refine q_val (v := .slice (some ⟨h, (9 + ((m.length + c) % 128)), none⟩) (128 - ((m.length + c) % 128)) (128 - ((m.length + c) % 128))) (fun w' hw' => y_sloff (y_slp (ev (pt h 9) rfl rfl) (evo.s (ev (.int .i64 ((((m.length + c) % 128) : Nat) : Int)) rfl rfl)) (evo.s (ev (.int .i64 128) rfl rfl)) Tryd.underlying51 ShaCT.sz5 (bnd_lh (l := ((m.length + c) % 128)) (h := 128) (by omega) (by omega) (by omega) (by omega)) (by omega)) (by first | rfl | omega) rfl) ?_
   refine q_mv (ev (.string (str (s.drop c))) s1_1 rfl) ?_
   refine q_nil ?_
   intro w6 hb7
   replace r_h := r_h.step hb7
   replace hk := grown_thenB hk hb7
   replace hT := Sha.Tabs.below hT hb7
   refine w_copys (l := s.drop c) (ev (.slice (some ⟨h, (9 + ((m.length + c) % 128)), none⟩) (128 - ((m.length + c) % 128)) (128 - ((m.length + c) % 128))) rfl rfl) (ev (.string (str (s.drop c))) rfl rfl) Tryd.underlying76 ShaCT.sz5 r_h (by omega) ?_
   clear r_h; intro w8 r_h hg9 _
   replace hk := grown_thenG hk hg9 (by omega)
   replace hT := Sha.Tabs.grown hT hg9 (by omega) (by omega)
   refine w_as (ev (.int .i64 (((min (s.drop c).length (128 - ((m.length + c) % 128))) : Nat) : Int)) rfl rfl) ?_
   refine nt ?_
   refine sr ?_
   refine w_mv (ev (.string (str (s.drop c))) s1_1 rfl) ?_
   refine w_mv (ev (.int .i64 (((min (s.drop c).length (128 - ((m.length + c) % 128))) : Nat) : Int)) rfl rfl) ?_
   refine w_val (v := .string (str ((s.drop c).drop (min (s.drop c).length (128 - ((m.length + c) % 128)))))) (y_slf (ev (.string (str (s.drop c))) rfl rfl) (evo.s (ev (.int .i64 (((min (s.drop c).length (128 - ((m.length + c) % 128))) : Nat) : Int)) rfl rfl)) Tryd.underlying9 (bnd_l (l := (min (s.drop c).length (128 - ((m.length + c) % 128)))) (by omega) (by omega))) ?_
   refine w_as (ev (.string (str ((s.drop c).drop (min (s.drop c).length (128 - ((m.length + c) % 128)))))) rfl rfl) ?_
   refine nt ?_
   refine wp_seq ?_
   replace r_h := r_h.congr (g := Sha.hrow (.int .i64 384) (Sha.st 384 (gb (m ++ s)) ((m.length + c) / 128)) (fun i => if ((m.length + c) % 128) ≤ i ∧ i < ((m.length + c) % 128) + (min (s.drop c).length (128 - ((m.length + c) % 128))) then gb (s.drop c) (i - ((m.length + c) % 128)) else r i) (.int .i64 ((((m.length + c) % 128) : Nat) : Int)) (U64 al)) (fun j hj => Sha.rest_row _ _ _ _ _ _ _ _ j (by omega))
   refine wp_region_lit ?_
   refine w_mv (ev (pt h 0) s1_0 rfl) ?_
   refine w_val (y_nc (ev (pt h 0) rfl rfl)) ?_
   refine w_val (v := pt h 137) (y_off (y_fa (ev (pt h 0) rfl rfl) (ShaCT.fa53_3 _ _)) (by first | rfl | omega)) ?_
   refine w_val (v := .int .i64 ((((m.length + c) % 128) : Nat) : Int)) (y_ld (ev (pt h 137) rfl rfl) ShaCT.sc3 (r_h.val (by omega) ((if_neg (by omega)).trans ((if_neg (by omega)).trans ((if_neg (by omega)).trans (etv (if_pos (by omega)))))))) ?_
   refine w_mv (ev (.int .i64 (((min (s.drop c).length (128 - ((m.length + c) % 128))) : Nat) : Int)) rfl rfl) ?_
   refine w_val (y_bin (ev (.int .i64 ((((m.length + c) % 128) : Nat) : Int)) rfl rfl) (ev (.int .i64 (((min (s.drop c).length (128 - ((m.length + c) % 128))) : Nat) : Int)) rfl rfl) (b_add (by omega))) ?_
   refine w_val (y_nc (ev (pt h 0) rfl rfl)) ?_
   refine w_val (v := pt h 137) (y_off (y_fa (ev (pt h 0) rfl rfl) (ShaCT.fa53_3 _ _)) (by first | rfl | omega)) ?_
   refine w_st (v := .int .i64 (((((m.length + c) % 128) : Nat) : Int) + (((min (s.drop c).length (128 - ((m.length + c) % 128))) : Nat) : Int))) (ev (pt h 137) rfl rfl) (ev (.int .i64 (((((m.length + c) % 128) : Nat) : Int) + (((min (s.drop c).length (128 - ((m.length + c) % 128))) : Nat) : Int))) rfl rfl) rfl rfl ShaCT.sz3 r_h (by omega) ?_
   clear r_h; intro w10 r_h hg11 _
   replace hk := grown_thenG hk hg11 (by omega)
   replace hT := Sha.Tabs.grown hT hg11 (by omega) (by omega)
   refine nt ?_
   refine wp_seq ?_
   refine sr ?_
   refine w_mv (ev (pt h 0) s1_0 rfl) ?_
   refine w_val (y_nc (ev (pt h 0) rfl rfl)) ?_
   refine w_val (v := pt h 137) (y_off (y_fa (ev (pt h 0) rfl rfl) (ShaCT.fa53_3 _ _)) (by first | rfl | omega)) ?_
   refine w_val (v := .int .i64 (((((m.length + c) % 128) : Nat) : Int) + (((min (s.drop c).length (128 - ((m.length + c) % 128))) : Nat) : Int))) (y_ld (ev (pt h 137) rfl rfl) ShaCT.sc3 (r_h.val (by omega) (if_pos rfl))) ?_
   refine w_mv (ev (.int .i64 128) s1_5 rfl) ?_
   refine w_val (y_bin (ev (.int .i64 (((((m.length + c) % 128) : Nat) : Int) + (((min (s.drop c).length (128 - ((m.length + c) % 128))) : Nat) : Int))) rfl rfl) (ev (.int .i64 128) rfl rfl) b_lss) ?_
   refine nt ?_
   refine c_if (p := (((((m.length + c) % 128) : Nat) : Int) + (((min (s.drop c).length (128 - ((m.length + c) % 128))) : Nat) : Int)) < 128) (ev (.bool (decide ((((((m.length + c) % 128) : Nat) : Int) + (((min (s.drop c).length (128 - ((m.length + c) % 128))) : Nat) : Int)) < 128))) rfl rfl) (fun hc12 => ?_) (fun hc12 => ?_)
   ·skip
    refine wp_ret ?_
    refine then_r ?_
    refine inb_r ?_
    refine then_r ?_
    refine inb_r ?_
    refine fin_ret0 rfl ?_
    have e1 : (m.length + s.length) % 128 = ((m.length + c) % 128) + (min (s.drop c).length (128 - ((m.length + c) % 128))) := by omega
    have e2 : (m.length + s.length) / 128 = ((m.length + c) / 128) := by omega
    rw [e1, e2]
    exact ⟨rfl, fun i => if ((m.length + c) % 128) ≤ i ∧ i < ((m.length + c) % 128) + (min (s.drop c).length (128 - ((m.length + c) % 128))) then gb (s.drop c) (i - ((m.length + c) % 128)) else r i, Sha.put_kept 128 c ((m.length + c) % 128) (min (s.drop c).length (128 - ((m.length + c) % 128))) m s r rfl i1_1, r_h.congr (g := Sha.hrow (.int .i64 384) (Sha.st 384 (gb (m ++ s)) ((m.length + c) / 128)) (fun i => if ((m.length + c) % 128) ≤ i ∧ i < ((m.length + c) % 128) + (min (s.drop c).length (128 - ((m.length + c) % 128))) then gb (s.drop c) (i - ((m.length + c) % 128)) else r i) (.int .i64 ((((m.length + c) % 128) + (min (s.drop c).length (128 - ((m.length + c) % 128))) : Nat) : Int)) (U64 al)) (fun j hj => by refine Sha.num_row (.int .i64 384) (Sha.st 384 (gb (m ++ s)) ((m.length + c) / 128)) (fun i => if ((m.length + c) % 128) ≤ i ∧ i < ((m.length + c) % 128) + (min (s.drop c).length (128 - ((m.length + c) % 128))) then gb (s.drop c) (i - ((m.length + c) % 128)) else r i) _ _ _ _ j ?_; congr 1), hk⟩
   ·skip
    refine wp_skip ?_
    refine then_n ?_
    refine wp_seq ?_
    refine sr ?_
    refine w_mv (ev (pt h 0) s1_0 rfl) ?_
    refine w_val (y_nc (ev (pt h 0) rfl rfl)) ?_
    refine w_val (v := pt h 0) (y_off (y_fa (ev (pt h 0) rfl rfl) (ShaCT.fa53_0 _ _)) (by first | rfl | omega)) ?_
    refine w_val (v := .int .i64 384) (y_ld (ev (pt h 0) rfl rfl) ShaCT.sc3 (r_h.val (by omega) ((if_neg (by omega)).trans (etv (if_pos (by omega)))))) ?_
    refine w_val (y_bin (ev (.int .i64 384) rfl rfl) (evc (.int .i64 256)) b_eql) ?_
    refine nt ?_
    refine c_ff (ev (.bool false) rfl rfl) ?_
    refine wp_region_lit ?_
    refine w_mv (ev (pt h 0) s1_0 rfl) ?_
    replace r_h := r_h.congr (g := Sha.hrow (.int .i64 384) (Sha.st 384 (gb (m ++ s)) ((m.length + c) / 128)) (fun i => if ((m.length + c) % 128) ≤ i ∧ i < ((m.length + c) % 128) + (min (s.drop c).length (128 - ((m.length + c) % 128))) then gb (s.drop c) (i - ((m.length + c) % 128)) else r i) (.int .i64 ((128 : Nat) : Int)) (U64 al)) (fun j hj => Sha.num_row (.int .i64 384) (Sha.st 384 (gb (m ++ s)) ((m.length + c) / 128)) (fun i => if ((m.length + c) % 128) ≤ i ∧ i < ((m.length + c) % 128) + (min (s.drop c).length (128 - ((m.length + c) % 128))) then gb (s.drop c) (i - ((m.length + c) % 128)) else r i) _ _ _ _ j (by congr 1 <;> omega))
    have rh_ := r_h
    clear r_h
    refine w_call (Tryd.func50) (by kernel_rfl) rfl (m1 (ev (pt h 0) rfl rfl)) (many_c h 128 h1 384 (Sha.st 384 (gb (m ++ s)) ((m.length + c) / 128)) (fun i => if ((m.length + c) % 128) ≤ i ∧ i < ((m.length + c) % 128) + (min (s.drop c).length (128 - ((m.length + c) % 128))) then gb (s.drop c) (i - ((m.length + c) % 128)) else r i) al w10 rh_ hT) ?_
    rintro _ w13 ⟨rfl, r_h, hgf⟩
    refine ⟨_, rfl, ?_⟩
    replace hk := grown_thenG hk hgf (by omega)
    replace hT := Sha.Tabs.grown hT hgf (by omega) (by omega)
    refine nt ?_
    refine wp_region_lit ?_
    refine w_mv (ev (pt h 0) s1_0 rfl) ?_
    refine w_val (y_nc (ev (pt h 0) rfl rfl)) ?_
    refine w_val (v := pt h 137) (y_off (y_fa (ev (pt h 0) rfl rfl) (ShaCT.fa53_3 _ _)) (by first | rfl | omega)) ?_
    refine w_st (v := .int .i64 0) (ev (pt h 137) rfl rfl) (evc (.int .i64 0)) rfl rfl ShaCT.sz3 r_h (by omega) ?_
    clear r_h; intro w14 r_h hg15 _
    replace hk := grown_thenG hk hg15 (by omega)
    replace hT := Sha.Tabs.grown hT hg15 (by omega) (by omega)
    refine wpList_nil ?_
    refine inb_n ?_
    exact then_n ⟨_, (by omega), c + (min (s.drop c).length (128 - ((m.length + c) % 128))), fun i => if ((m.length + c) % 128) ≤ i ∧ i < ((m.length + c) % 128) + (min (s.drop c).length (128 - ((m.length + c) % 128))) then gb (s.drop c) (i - ((m.length + c) % 128)) else r i, rfl, _, rfl, iv, (by intro j hj; exfalso; omega), s1_0, (Eq.trans (b := .string (str ((s.drop c).drop (min (s.drop c).length (128 - ((m.length + c) % 128)))))) rfl (by rw [List.drop_drop])), s1_5, (r_h.congr (fun j hj => by refine (Sha.num_row (.int .i64 384) (Sha.comp false (fun i => if ((m.length + c) % 128) ≤ i ∧ i < ((m.length + c) % 128) + (min (s.drop c).length (128 - ((m.length + c) % 128))) then gb (s.drop c) (i - ((m.length + c) % 128)) else r i) (Sha.st 384 (gb (m ++ s)) ((m.length + c) / 128))) (fun i => if ((m.length + c) % 128) ≤ i ∧ i < ((m.length + c) % 128) + (min (s.drop c).length (128 - ((m.length + c) % 128))) then gb (s.drop c) (i - ((m.length + c) % 128)) else r i) _ _ _ _ j rfl).trans ?_; rw [show (m.length + (c + (min (s.drop c).length (128 - ((m.length + c) % 128))))) % 128 = 0 from by omega, ← Sha.put_next 384 128 c ((m.length + c) % 128) (min (s.drop c).length (128 - ((m.length + c) % 128))) ((m.length + (c + (min (s.drop c).length (128 - ((m.length + c) % 128))))) / 128) rfl m s r rfl i1_1 (by omega) (by omega)] <;> rfl)), hT, hk⟩
  ·skip
   refine wp_exit ?_
   refine then_x ?_
   refine then_x ?_
   refine inb_x ?_
   refine fin_end0 rfl ?_
   obtain rfl : c = s.length := by omega
   exact ⟨rfl, r, i1_1, r_h, hk⟩

set_option maxRecDepth 100000 in
set_option maxHeartbeats 1000000 in
theorem put_512 (h : Nat) (h1 : 0 < h ∧ 1 < h) (m s : List (BitVec 8)) (hs : s.length ≤ 140737488351232) (rr : Nat → BitVec 8) (al : BitVec 64) (hr : ∀ j, j < m.length % 128 → rr j = gb m (128 * (m.length / 128) + j)) (w0 : World) (r_h : Row w0 h 53 139 (Sha.hrow (.int .i64 512) (Sha.st 512 (gb m) (m.length / 128)) rr (.int .i64 (((m.length % 128) : Nat) : Int)) (U64 al))) (hT : Sha.Tabs w0) : Calls Tryd.prog 41 #[pt h 0, .string (str s)] w0 fun e w' => e = .returned (.tuple #[]) ∧ ∃ rr' : Nat → BitVec 8, (∀ j, j < (m.length + s.length) % 128 → rr' j = gb (m ++ s) (128 * ((m.length + s.length) / 128) + j)) ∧ Row w' h 53 139 (Sha.hrow (.int .i64 512) (Sha.st 512 (gb (m ++ s)) ((m.length + s.length) / 128)) rr' (.int .i64 ((((m.length + s.length) % 128) : Nat) : Int)) (U64 al)) ∧ w0.grownBy w' (some h) := by
 have hT0 := hT.lt
 refine enter (n := 60) Tryd.func41 rfl rfl rfl ?_
 have hk : w0.grownBy w0 (some h) := grown_refl _ _
 have lt_h := r_h.lt
 refine sr ?_
 refine w_mv (ev (pt h 0) rfl rfl) ?_
 refine w_val (y_nc (ev (pt h 0) rfl rfl)) ?_
 refine w_val (v := pt h 0) (y_off (y_fa (ev (pt h 0) rfl rfl) (ShaCT.fa53_0 _ _)) (by first | rfl | omega)) ?_
 refine w_val (v := .int .i64 512) (y_ld (ev (pt h 0) rfl rfl) ShaCT.sc3 (r_h.val (by omega) (etv (if_pos (by omega))))) ?_
 refine w_call (Tryd.func19) (by kernel_rfl) rfl (m1 (ev (.int .i64 512) rfl rfl)) (shaSize_512  w0) ?_
 rintro _ w1 ⟨rfl, hb2⟩
 refine ⟨_, rfl, ?_⟩
 replace r_h := r_h.step hb2
 replace hk := grown_thenB hk hb2
 replace hT := Sha.Tabs.below hT hb2
 refine w_mv (ev (.tuple #[.int .i64 64, .int .i64 128, .int .i64 0]) rfl rfl) ?_
 refine w_val (y_ext (v := .int .i64 64) (ev (.tuple #[.int .i64 64, .int .i64 128, .int .i64 0]) rfl rfl) rfl) ?_
 refine w_val (y_ext (v := .int .i64 128) (ev (.tuple #[.int .i64 64, .int .i64 128, .int .i64 0]) rfl rfl) rfl) ?_
 refine w_val (y_ext (v := .int .i64 0) (ev (.tuple #[.int .i64 64, .int .i64 128, .int .i64 0]) rfl rfl) rfl) ?_
 refine w_as (ev (.int .i64 64) rfl rfl) ?_
 refine w_as (ev (.int .i64 128) rfl rfl) ?_
 refine w_as (ev (.int .i64 0) rfl rfl) ?_
 refine nt ?_
 refine wp_block ?_
 refine c_loop (fun dN aN wl => ∃ (c : Nat) (r : Nat → BitVec 8), dN = (s.length - c) ∧ ∃ f3, aN = fr 60 f3 ∧ (c ≤ s.length) ∧ (∀ j, j < ((m.length + c) % 128) → r j = gb (m ++ s) (128 * ((m.length + c) / 128) + j)) ∧ f3 0 = pt h 0 ∧ f3 1 = .string (str (s.drop c)) ∧ f3 5 = .int .i64 128 ∧ Row wl h 53 139 (Sha.hrow (.int .i64 512) (Sha.st 512 (gb (m ++ s)) ((m.length + c) / 128)) r (.int .i64 ((((m.length + c) % 128) : Nat) : Int)) (U64 al)) ∧ Sha.Tabs wl ∧ w0.grownBy wl (some h)) (s.length - 0) ?_ ?_
 · exact ⟨0, rr, rfl, _, rfl, iv, (by intro j hj; rw [hr j (by omega), gb_append, if_pos (by omega)]; rfl), rfl, (Eq.trans (b := .string (str s)) rfl (by rfl)), rfl, (r_h.congr (fun j hj => by rw [Sha.put_init 512 128 rfl m s] <;> rfl)), hT, hk⟩
 ·skip
  clear r_h hT hk
  rintro _ _ w4 ⟨c, r, rfl, f3, rfl, i1_0, i1_1, s1_0, s1_1, s1_5, r_h, hT, hk⟩
  have hld : (s.drop c).length = s.length - c := List.length_drop
  refine wp_seq ?_
  refine sr ?_
  refine w_mv (ev (.string (str (s.drop c))) s1_1 rfl) ?_
  refine w_val (y_len (ev (.string (str (s.drop c))) rfl rfl) Tryd.underlying9) ?_
  refine w_val (y_bin (ev (.int .i64 (((s.drop c).length : Nat) : Int)) rfl rfl) (evc (.int .i64 0)) b_gtr) ?_
  refine nt ?_
  refine c_if (p := 0 < (((s.drop c).length : Nat) : Int)) (ev (.bool (decide (0 < (((s.drop c).length : Nat) : Int)))) rfl rfl) (fun hc5 => ?_) (fun hc5 => ?_)
  ·skip
   refine wp_skip ?_
   refine then_n ?_
   refine wp_block ?_
   refine wp_seq ?_
   refine region_t 10 ShaCT.mixed (by kernel_rfl) ?_
   simp only [List.take_succ_cons, List.take_zero, List.drop_succ_cons, List.drop_zero]
   refine q_mv (ev (pt h 0) s1_0 rfl) ?_
   refine q_val (fun w' hw' => y_nc (ev (pt h 0) rfl rfl)) ?_
   refine q_val (v := pt h 9) (fun w' hw' => y_off (y_fa (ev (pt h 0) rfl rfl) (ShaCT.fa53_2 _ _)) (by first | rfl | omega)) ?_
   refine q_mv (ev (pt h 0) s1_0 rfl) ?_
   refine q_val (fun w' hw' => y_nc (ev (pt h 0) rfl rfl)) ?_
   refine q_val (v := pt h 137) (fun w' hw' => y_off (y_fa (ev (pt h 0) rfl rfl) (ShaCT.fa53_3 _ _)) (by first | rfl | omega)) ?_
   refine q_val (v := .int .i64 ((((m.length + c) % 128) : Nat) : Int)) (fun w' hw' => y_ld (ev (pt h 137) rfl rfl) ShaCT.sc3 (cls_cell (r_h.val (by omega) ((if_neg (by omega)).trans ((if_neg (by omega)).trans ((if_neg (by omega)).trans (etv (if_pos (by omega))))))) r_h.lt w' hw')) ?_
   refine q_mv (ev (.int .i64 128) s1_5 rfl) ?_
   refine q_val (v := .slice (some ⟨h, (9 + ((m.length + c) % 128)), none⟩) (128 - ((m.length + c) % 128)) (128 - ((m.length + c) % 128))) (fun w' hw' => y_sloff (y_slp (ev (pt h 9) rfl rfl) (evo.s (ev (.int .i64 ((((m.length + c) % 128) : Nat) : Int)) rfl rfl)) (evo.s (ev (.int .i64 128) rfl rfl)) Tryd.underlying51 ShaCT.sz5 (bnd_lh (l := ((m.length + c) % 128)) (h := 128) (by omega) (by omega) (by omega) (by omega)) (by omega)) (by first | rfl | omega) rfl) ?_
   refine q_mv (ev (.string (str (s.drop c))) s1_1 rfl) ?_
   refine q_nil ?_
   intro w6 hb7
   replace r_h := r_h.step hb7
   replace hk := grown_thenB hk hb7
   replace hT := Sha.Tabs.below hT hb7
   refine w_copys (l := s.drop c) (ev (.slice (some ⟨h, (9 + ((m.length + c) % 128)), none⟩) (128 - ((m.length + c) % 128)) (128 - ((m.length + c) % 128))) rfl rfl) (ev (.string (str (s.drop c))) rfl rfl) Tryd.underlying76 ShaCT.sz5 r_h (by omega) ?_
   clear r_h; intro w8 r_h hg9 _
   replace hk := grown_thenG hk hg9 (by omega)
   replace hT := Sha.Tabs.grown hT hg9 (by omega) (by omega)
   refine w_as (ev (.int .i64 (((min (s.drop c).length (128 - ((m.length + c) % 128))) : Nat) : Int)) rfl rfl) ?_
   refine nt ?_
   refine sr ?_
   refine w_mv (ev (.string (str (s.drop c))) s1_1 rfl) ?_
   refine w_mv (ev (.int .i64 (((min (s.drop c).length (128 - ((m.length + c) % 128))) : Nat) : Int)) rfl rfl) ?_
   refine w_val (v := .string (str ((s.drop c).drop (min (s.drop c).length (128 - ((m.length + c) % 128)))))) (y_slf (ev (.string (str (s.drop c))) rfl rfl) (evo.s (ev (.int .i64 (((min (s.drop c).length (128 - ((m.length + c) % 128))) : Nat) : Int)) rfl rfl)) Tryd.underlying9 (bnd_l (l := (min (s.drop c).length (128 - ((m.length + c) % 128)))) (by omega) (by omega))) ?_
   refine w_as (ev (.string (str ((s.drop c).drop (min (s.drop c).length (128 - ((m.length + c) % 128)))))) rfl rfl) ?_
   refine nt ?_
   refine wp_seq ?_
   replace r_h := r_h.congr (g := Sha.hrow (.int .i64 512) (Sha.st 512 (gb (m ++ s)) ((m.length + c) / 128)) (fun i => if ((m.length + c) % 128) ≤ i ∧ i < ((m.length + c) % 128) + (min (s.drop c).length (128 - ((m.length + c) % 128))) then gb (s.drop c) (i - ((m.length + c) % 128)) else r i) (.int .i64 ((((m.length + c) % 128) : Nat) : Int)) (U64 al)) (fun j hj => Sha.rest_row _ _ _ _ _ _ _ _ j (by omega))
   refine wp_region_lit ?_
   refine w_mv (ev (pt h 0) s1_0 rfl) ?_
   refine w_val (y_nc (ev (pt h 0) rfl rfl)) ?_
   refine w_val (v := pt h 137) (y_off (y_fa (ev (pt h 0) rfl rfl) (ShaCT.fa53_3 _ _)) (by first | rfl | omega)) ?_
   refine w_val (v := .int .i64 ((((m.length + c) % 128) : Nat) : Int)) (y_ld (ev (pt h 137) rfl rfl) ShaCT.sc3 (r_h.val (by omega) ((if_neg (by omega)).trans ((if_neg (by omega)).trans ((if_neg (by omega)).trans (etv (if_pos (by omega)))))))) ?_
   refine w_mv (ev (.int .i64 (((min (s.drop c).length (128 - ((m.length + c) % 128))) : Nat) : Int)) rfl rfl) ?_
   refine w_val (y_bin (ev (.int .i64 ((((m.length + c) % 128) : Nat) : Int)) rfl rfl) (ev (.int .i64 (((min (s.drop c).length (128 - ((m.length + c) % 128))) : Nat) : Int)) rfl rfl) (b_add (by omega))) ?_
   refine w_val (y_nc (ev (pt h 0) rfl rfl)) ?_
   refine w_val (v := pt h 137) (y_off (y_fa (ev (pt h 0) rfl rfl) (ShaCT.fa53_3 _ _)) (by first | rfl | omega)) ?_
   refine w_st (v := .int .i64 (((((m.length + c) % 128) : Nat) : Int) + (((min (s.drop c).length (128 - ((m.length + c) % 128))) : Nat) : Int))) (ev (pt h 137) rfl rfl) (ev (.int .i64 (((((m.length + c) % 128) : Nat) : Int) + (((min (s.drop c).length (128 - ((m.length + c) % 128))) : Nat) : Int))) rfl rfl) rfl rfl ShaCT.sz3 r_h (by omega) ?_
   clear r_h; intro w10 r_h hg11 _
   replace hk := grown_thenG hk hg11 (by omega)
   replace hT := Sha.Tabs.grown hT hg11 (by omega) (by omega)
   refine nt ?_
   refine wp_seq ?_
   refine sr ?_
   refine w_mv (ev (pt h 0) s1_0 rfl) ?_
   refine w_val (y_nc (ev (pt h 0) rfl rfl)) ?_
   refine w_val (v := pt h 137) (y_off (y_fa (ev (pt h 0) rfl rfl) (ShaCT.fa53_3 _ _)) (by first | rfl | omega)) ?_
   refine w_val (v := .int .i64 (((((m.length + c) % 128) : Nat) : Int) + (((min (s.drop c).length (128 - ((m.length + c) % 128))) : Nat) : Int))) (y_ld (ev (pt h 137) rfl rfl) ShaCT.sc3 (r_h.val (by omega) (if_pos rfl))) ?_
   refine w_mv (ev (.int .i64 128) s1_5 rfl) ?_
   refine w_val (y_bin (ev (.int .i64 (((((m.length + c) % 128) : Nat) : Int) + (((min (s.drop c).length (128 - ((m.length + c) % 128))) : Nat) : Int))) rfl rfl) (ev (.int .i64 128) rfl rfl) b_lss) ?_
   refine nt ?_
   refine c_if (p := (((((m.length + c) % 128) : Nat) : Int) + (((min (s.drop c).length (128 - ((m.length + c) % 128))) : Nat) : Int)) < 128) (ev (.bool (decide ((((((m.length + c) % 128) : Nat) : Int) + (((min (s.drop c).length (128 - ((m.length + c) % 128))) : Nat) : Int)) < 128))) rfl rfl) (fun hc12 => ?_) (fun hc12 => ?_)
   ·skip
    refine wp_ret ?_
    refine then_r ?_
    refine inb_r ?_
    refine then_r ?_
    refine inb_r ?_
    refine fin_ret0 rfl ?_
    have e1 : (m.length + s.length) % 128 = ((m.length + c) % 128) + (min (s.drop c).length (128 - ((m.length + c) % 128))) := by omega
    have e2 : (m.length + s.length) / 128 = ((m.length + c) / 128) := by omega
    rw [e1, e2]
    exact ⟨rfl, fun i => if ((m.length + c) % 128) ≤ i ∧ i < ((m.length + c) % 128) + (min (s.drop c).length (128 - ((m.length + c) % 128))) then gb (s.drop c) (i - ((m.length + c) % 128)) else r i, Sha.put_kept 128 c ((m.length + c) % 128) (min (s.drop c).length (128 - ((m.length + c) % 128))) m s r rfl i1_1, r_h.congr (g := Sha.hrow (.int .i64 512) (Sha.st 512 (gb (m ++ s)) ((m.length + c) / 128)) (fun i => if ((m.length + c) % 128) ≤ i ∧ i < ((m.length + c) % 128) + (min (s.drop c).length (128 - ((m.length + c) % 128))) then gb (s.drop c) (i - ((m.length + c) % 128)) else r i) (.int .i64 ((((m.length + c) % 128) + (min (s.drop c).length (128 - ((m.length + c) % 128))) : Nat) : Int)) (U64 al)) (fun j hj => by refine Sha.num_row (.int .i64 512) (Sha.st 512 (gb (m ++ s)) ((m.length + c) / 128)) (fun i => if ((m.length + c) % 128) ≤ i ∧ i < ((m.length + c) % 128) + (min (s.drop c).length (128 - ((m.length + c) % 128))) then gb (s.drop c) (i - ((m.length + c) % 128)) else r i) _ _ _ _ j ?_; congr 1), hk⟩
   ·skip
    refine wp_skip ?_
    refine then_n ?_
    refine wp_seq ?_
    refine sr ?_
    refine w_mv (ev (pt h 0) s1_0 rfl) ?_
    refine w_val (y_nc (ev (pt h 0) rfl rfl)) ?_
    refine w_val (v := pt h 0) (y_off (y_fa (ev (pt h 0) rfl rfl) (ShaCT.fa53_0 _ _)) (by first | rfl | omega)) ?_
    refine w_val (v := .int .i64 512) (y_ld (ev (pt h 0) rfl rfl) ShaCT.sc3 (r_h.val (by omega) ((if_neg (by omega)).trans (etv (if_pos (by omega)))))) ?_
    refine w_val (y_bin (ev (.int .i64 512) rfl rfl) (evc (.int .i64 256)) b_eql) ?_
    refine nt ?_
    refine c_ff (ev (.bool false) rfl rfl) ?_
    refine wp_region_lit ?_
    refine w_mv (ev (pt h 0) s1_0 rfl) ?_
    replace r_h := r_h.congr (g := Sha.hrow (.int .i64 512) (Sha.st 512 (gb (m ++ s)) ((m.length + c) / 128)) (fun i => if ((m.length + c) % 128) ≤ i ∧ i < ((m.length + c) % 128) + (min (s.drop c).length (128 - ((m.length + c) % 128))) then gb (s.drop c) (i - ((m.length + c) % 128)) else r i) (.int .i64 ((128 : Nat) : Int)) (U64 al)) (fun j hj => Sha.num_row (.int .i64 512) (Sha.st 512 (gb (m ++ s)) ((m.length + c) / 128)) (fun i => if ((m.length + c) % 128) ≤ i ∧ i < ((m.length + c) % 128) + (min (s.drop c).length (128 - ((m.length + c) % 128))) then gb (s.drop c) (i - ((m.length + c) % 128)) else r i) _ _ _ _ j (by congr 1 <;> omega))
    have rh_ := r_h
    clear r_h
    refine w_call (Tryd.func50) (by kernel_rfl) rfl (m1 (ev (pt h 0) rfl rfl)) (many_c h 128 h1 512 (Sha.st 512 (gb (m ++ s)) ((m.length + c) / 128)) (fun i => if ((m.length + c) % 128) ≤ i ∧ i < ((m.length + c) % 128) + (min (s.drop c).length (128 - ((m.length + c) % 128))) then gb (s.drop c) (i - ((m.length + c) % 128)) else r i) al w10 rh_ hT) ?_
    rintro _ w13 ⟨rfl, r_h, hgf⟩
    refine ⟨_, rfl, ?_⟩
    replace hk := grown_thenG hk hgf (by omega)
    replace hT := Sha.Tabs.grown hT hgf (by omega) (by omega)
    refine nt ?_
    refine wp_region_lit ?_
    refine w_mv (ev (pt h 0) s1_0 rfl) ?_
    refine w_val (y_nc (ev (pt h 0) rfl rfl)) ?_
    refine w_val (v := pt h 137) (y_off (y_fa (ev (pt h 0) rfl rfl) (ShaCT.fa53_3 _ _)) (by first | rfl | omega)) ?_
    refine w_st (v := .int .i64 0) (ev (pt h 137) rfl rfl) (evc (.int .i64 0)) rfl rfl ShaCT.sz3 r_h (by omega) ?_
    clear r_h; intro w14 r_h hg15 _
    replace hk := grown_thenG hk hg15 (by omega)
    replace hT := Sha.Tabs.grown hT hg15 (by omega) (by omega)
    refine wpList_nil ?_
    refine inb_n ?_
    exact then_n ⟨_, (by omega), c + (min (s.drop c).length (128 - ((m.length + c) % 128))), fun i => if ((m.length + c) % 128) ≤ i ∧ i < ((m.length + c) % 128) + (min (s.drop c).length (128 - ((m.length + c) % 128))) then gb (s.drop c) (i - ((m.length + c) % 128)) else r i, rfl, _, rfl, iv, (by intro j hj; exfalso; omega), s1_0, (Eq.trans (b := .string (str ((s.drop c).drop (min (s.drop c).length (128 - ((m.length + c) % 128)))))) rfl (by rw [List.drop_drop])), s1_5, (r_h.congr (fun j hj => by refine (Sha.num_row (.int .i64 512) (Sha.comp false (fun i => if ((m.length + c) % 128) ≤ i ∧ i < ((m.length + c) % 128) + (min (s.drop c).length (128 - ((m.length + c) % 128))) then gb (s.drop c) (i - ((m.length + c) % 128)) else r i) (Sha.st 512 (gb (m ++ s)) ((m.length + c) / 128))) (fun i => if ((m.length + c) % 128) ≤ i ∧ i < ((m.length + c) % 128) + (min (s.drop c).length (128 - ((m.length + c) % 128))) then gb (s.drop c) (i - ((m.length + c) % 128)) else r i) _ _ _ _ j rfl).trans ?_; rw [show (m.length + (c + (min (s.drop c).length (128 - ((m.length + c) % 128))))) % 128 = 0 from by omega, ← Sha.put_next 512 128 c ((m.length + c) % 128) (min (s.drop c).length (128 - ((m.length + c) % 128))) ((m.length + (c + (min (s.drop c).length (128 - ((m.length + c) % 128))))) / 128) rfl m s r rfl i1_1 (by omega) (by omega)] <;> rfl)), hT, hk⟩
  ·skip
   refine wp_exit ?_
   refine then_x ?_
   refine then_x ?_
   refine inb_x ?_
   refine fin_end0 rfl ?_
   obtain rfl : c = s.length := by omega
   exact ⟨rfl, r, i1_1, r_h, hk⟩
end Go.Proofs.YtieepglpejlkoaaDoor
