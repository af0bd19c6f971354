/-
  Digests: some bytes more. Conditions as each says.
-/
import Derived.Test.YtdmbfimjbmfbaaaGreatDoorRows
import Derived.Test.YtdmbfimjbmfbaaaGreatDoorShaB
import Derived.Test.YtdmbfimjbmfbaaaGreatDoorGenSh
import Derived.ProofKit
namespace Go.Proofs.YtdmbfimjbmfbaaaGreatDoor
open Go.RowKit
set_option linter.unusedSimpArgs false
set_option linter.unusedVariables false
set_option maxRecDepth 100000
set_option maxHeartbeats 1000000
namespace ShaCT
theorem mixed : Tryz.prog.follows .mixedOrders = true := by kernel_rfl
theorem ag93 : (Tryz.prog.underlying 93).map isAggD = some true := by rw [Tryz.underlying93]; rfl
theorem fa139_0 (g off : Nat) : ∀ w, (Instr.fieldAt 139 (.pointer (some ⟨g, off, none⟩)) 0).run Tryz.prog w = .ok (.pointer (some ⟨g, off + 0, none⟩)) w := fun w => by kernel_rfl
theorem fa139_1 (g off : Nat) : ∀ w, (Instr.fieldAt 139 (.pointer (some ⟨g, off, none⟩)) 1).run Tryz.prog w = .ok (.pointer (some ⟨g, off + 1, none⟩)) w := fun w => by kernel_rfl
theorem fa139_2 (g off : Nat) : ∀ w, (Instr.fieldAt 139 (.pointer (some ⟨g, off, none⟩)) 2).run Tryz.prog w = .ok (.pointer (some ⟨g, off + 9, none⟩)) w := fun w => by kernel_rfl
theorem fa139_3 (g off : Nat) : ∀ w, (Instr.fieldAt 139 (.pointer (some ⟨g, off, none⟩)) 3).run Tryz.prog w = .ok (.pointer (some ⟨g, off + 137, none⟩)) w := fun w => by kernel_rfl
theorem sc103 : (Tryz.prog.underlying 103).map scal = some true := by rw [Tryz.underlying103]; rfl
theorem sc3 : (Tryz.prog.underlying 3).map scal = some true := by rw [Tryz.underlying3]; rfl
theorem sc5 : (Tryz.prog.underlying 5).map scal = some true := by rw [Tryz.underlying5]; rfl
theorem sc92 : (Tryz.prog.underlying 92).map scal = some true := by rw [Tryz.underlying92]; rfl
theorem so103 : (Tryz.prog.underlying 103).isSome = true := by rw [Tryz.underlying103]; rfl
theorem so3 : (Tryz.prog.underlying 3).isSome = true := by rw [Tryz.underlying3]; rfl
theorem so5 : (Tryz.prog.underlying 5).isSome = true := by rw [Tryz.underlying5]; rfl
theorem so92 : (Tryz.prog.underlying 92).isSome = true := by rw [Tryz.underlying92]; rfl
theorem sz103 : (Tryz.prog.info? 103).map (·.size) = some 1 := by kernel_rfl
theorem sz147 : (Tryz.prog.info? 147).map (·.size) = some 8 := by kernel_rfl
theorem sz3 : (Tryz.prog.info? 3).map (·.size) = some 1 := by kernel_rfl
theorem sz5 : (Tryz.prog.info? 5).map (·.size) = some 1 := by kernel_rfl
theorem sz92 : (Tryz.prog.info? 92).map (·.size) = some 1 := by kernel_rfl
theorem sz93 : (Tryz.prog.info? 93).map (·.size) = some 8 := by kernel_rfl
end ShaCT
theorem put_256 (h : Nat) (h1 : 0 < h ∧ 1 < h) (m s : List (BitVec 8)) (hs : s.length ≤ 140737488351232) (rr : Nat → BitVec 8) (al : BitVec 64) (hr : ∀ j, j < m.length % 64 → rr j = gb m (64 * (m.length / 64) + j)) (w0 : World) (r_h : Row w0 h 139 139 (Sha.hrow (.int .i64 256) (Sha.st 256 (gb m) (m.length / 64)) rr (.int .i64 (((m.length % 64) : Nat) : Int)) (U64 al))) (hT : Sha.Tabs w0) : Calls Tryz.prog 61 #[pt h 0, .string (str s)] w0 fun e w' => e = .returned (.tuple #[]) ∧ ∃ rr' : Nat → BitVec 8, (∀ j, j < (m.length + s.length) % 64 → rr' j = gb (m ++ s) (64 * ((m.length + s.length) / 64) + j)) ∧ Row w' h 139 139 (Sha.hrow (.int .i64 256) (Sha.st 256 (gb (m ++ s)) ((m.length + s.length) / 64)) rr' (.int .i64 ((((m.length + s.length) % 64) : Nat) : Int)) (U64 al)) ∧ w0.grownBy w' (some h) := by
 have au := hT.lt
 refine enter (n := 60) Tryz.func61 rfl rfl rfl ?_
 have hk : w0.grownBy w0 (some h) := grown_refl _ _
 have ao := r_h.lt
 refine sr (w_mv (ex (pt h 0)) (w_val (y_nc (ex (pt h 0))) (w_val (v := pt h 0) (y_off (y_fa (ex (pt h 0)) (ShaCT.fa139_0 _ _)) ro) (w_val (v := .int .i64 256) (y_ld (ex (pt h 0)) ShaCT.sc3 (r_h.val om pz)) (w_call (Tryz.func48) kr rfl (m1 ei) (shaSize_256  w0) ?_)))))
 rintro _ w1 ⟨rfl, ag⟩
 refine ⟨_, rfl, ?_⟩
 replace r_h := r_h.step ag
 replace hk := grown_thenB hk ag
 replace hT := Sha.Tabs.below hT ag
 refine w_mv (ex (.tuple #[.int .i64 32, .int .i64 64, .int .i64 0])) (w_val ye (w_val ye (w_val ye (w_as ei (w_as ei (w_as ei (nt (wp_block ?_))))))))
 refine c_loop (fun dN aN wl => ∃ (c : Nat) (r : Nat → BitVec 8), dN = (s.length - c) ∧ ∃ f3, aN = fr 60 f3 ∧ (c ≤ s.length) ∧ (∀ j, j < ((m.length + c) % 64) → r j = gb (m ++ s) (64 * ((m.length + c) / 64) + j)) ∧ f3 0 = pt h 0 ∧ f3 1 = .string (str (s.drop c)) ∧ f3 5 = .int .i64 64 ∧ Row wl h 139 139 (Sha.hrow (.int .i64 256) (Sha.st 256 (gb (m ++ s)) ((m.length + c) / 64)) r (.int .i64 ((((m.length + c) % 64) : Nat) : Int)) (U64 al)) ∧ Sha.Tabs wl ∧ w0.grownBy wl (some h)) (s.length - 0) ?_ ?_
 · exact ⟨0, rr, rfl, _, rfl, iv, (by intro j hj; rw [hr j om, gb_append, if_pos om]; rfl), rfl, (Eq.trans (b := .string (str s)) rfl (by rfl)), rfl, (r_h.congr (fun j hj => by rw [Sha.put_init 256 64 rfl m s] <;> rfl)), hT, hk⟩
 ·skip
  clear r_h hT hk
  rintro _ _ w4 ⟨c, r, rfl, f3, rfl, ak, ac, aa, ab, ad, r_h, hT, hk⟩
  have ap : (s.drop c).length = s.length - c := List.length_drop
  refine wp_seq (sr (w_mv (es ab) (w_val (y_len es Tryz.underlying9) (w_val (y_bin ei Ev.c b_gtr) (nt ?_)))))
  refine c_if (p := 0 < (((s.drop c).length : Nat) : Int)) eb (fun hc5 => ?_) (fun hc5 => ?_)
  ·skip
   refine wp_skip (then_n (wp_block (wp_seq (region_t 10 ShaCT.mixed kr ?_))))
   simp only [List.take_succ_cons, List.take_zero, List.drop_succ_cons, List.drop_zero]
   refine q_mv (ex (pt h 0) aa) (q_val (fun w' hw' => y_nc (ex (pt h 0))) (q_val (v := pt h 9) (fun w' hw' => y_off (y_fa (ex (pt h 0)) (ShaCT.fa139_2 _ _)) ro) (q_mv (ex (pt h 0) aa) (q_val (fun w' hw' => y_nc (ex (pt h 0))) (q_val (v := pt h 137) (fun w' hw' => y_off (y_fa (ex (pt h 0)) (ShaCT.fa139_3 _ _)) ro) (q_val (v := .int .i64 ((((m.length + c) % 64) : Nat) : Int)) (fun w' hw' => y_ld (ex (pt h 137)) ShaCT.sc3 (cls_cell (r_h.val om (ng (ng (ng pz)))) r_h.lt w' hw')) (q_mv (ei ad) (q_val (v := .slice (some ⟨h, (9 + ((m.length + c) % 64)), none⟩) (64 - ((m.length + c) % 64)) (128 - ((m.length + c) % 64))) (fun w' hw' => y_sloff (y_slp (ex (pt h 9)) (evo.s ei) (evo.s ei) Tryz.underlying137 ShaCT.sz5 (bnd_lh (l := ((m.length + c) % 64)) (h := 64) om om om om) om) ro rfl) (q_mv (es ab) (q_nil ?_))))))))))
   intro w6 ah
   replace r_h := r_h.step ah
   replace hk := grown_thenB hk ah
   replace hT := Sha.Tabs.below hT ah
   refine w_copys (l := s.drop c) el es Tryz.underlying55 ShaCT.sz5 r_h om ?_
   clear r_h; intro w8 r_h ai _
   replace hk := grown_thenG hk ai om
   replace hT := Sha.Tabs.grown hT ai om om
   refine w_as ei (nt (sr (w_mv (es ab) (w_mv ei (w_val (v := .string (str ((s.drop c).drop (min (s.drop c).length (64 - ((m.length + c) % 64)))))) (y_slf (ex (.string (str (s.drop c)))) (evo.s ei) Tryz.underlying9 (bnd_l (l := (min (s.drop c).length (64 - ((m.length + c) % 64)))) om om)) (w_as es (nt (wp_seq ?_))))))))
   replace r_h := r_h.congr (g := Sha.hrow (.int .i64 256) (Sha.st 256 (gb (m ++ s)) ((m.length + c) / 64)) (fun i => if ((m.length + c) % 64) ≤ i ∧ i < ((m.length + c) % 64) + (min (s.drop c).length (64 - ((m.length + c) % 64))) then gb (s.drop c) (i - ((m.length + c) % 64)) else r i) (.int .i64 ((((m.length + c) % 64) : Nat) : Int)) (U64 al)) (fun j hj => Sha.rest_row _ _ _ _ _ _ _ _ j om)
   refine wp_region_lit (w_mv (ex (pt h 0) aa) (w_val (y_nc (ex (pt h 0))) (w_val (v := pt h 137) (y_off (y_fa (ex (pt h 0)) (ShaCT.fa139_3 _ _)) ro) (w_val (v := .int .i64 ((((m.length + c) % 64) : Nat) : Int)) (y_ld (ex (pt h 137)) ShaCT.sc3 (r_h.val om (ng (ng (ng pz))))) (w_mv ei (w_val (y_bin ei ei (b_add om)) (w_val (y_nc (ex (pt h 0))) (w_val (v := pt h 137) (y_off (y_fa (ex (pt h 0)) (ShaCT.fa139_3 _ _)) ro) (w_st (v := .int .i64 (((((m.length + c) % 64) : Nat) : Int) + (((min (s.drop c).length (64 - ((m.length + c) % 64))) : Nat) : Int))) (ex (pt h 137)) ei rfl rfl ShaCT.sz3 r_h om ?_)))))))))
   clear r_h; intro an r_h ae _
   replace hk := grown_thenG hk ae om
   replace hT := Sha.Tabs.grown hT ae om om
   refine nt (wp_seq (sr (w_mv (ex (pt h 0) aa) (w_val (y_nc (ex (pt h 0))) (w_val (v := pt h 137) (y_off (y_fa (ex (pt h 0)) (ShaCT.fa139_3 _ _)) ro) (w_val (v := .int .i64 (((((m.length + c) % 64) : Nat) : Int) + (((min (s.drop c).length (64 - ((m.length + c) % 64))) : Nat) : Int))) (y_ld (ex (pt h 137)) ShaCT.sc3 (r_h.val om (if_pos rfl))) (w_mv (ei ad) (w_val (y_bin ei ei b_lss) (nt ?_)))))))))
   refine c_if (p := (((((m.length + c) % 64) : Nat) : Int) + (((min (s.drop c).length (64 - ((m.length + c) % 64))) : Nat) : Int)) < 64) eb (fun hc12 => ?_) (fun hc12 => ?_)
   ·skip
    refine wp_ret (then_r (inb_r (then_r (inb_r (fin_ret0 rfl ?_)))))
    have e1 : (m.length + s.length) % 64 = ((m.length + c) % 64) + (min (s.drop c).length (64 - ((m.length + c) % 64))) := by omega
    have e2 : (m.length + s.length) / 64 = ((m.length + c) / 64) := by omega
    rw [e1, e2]
    exact ⟨rfl, fun i => if ((m.length + c) % 64) ≤ i ∧ i < ((m.length + c) % 64) + (min (s.drop c).length (64 - ((m.length + c) % 64))) then gb (s.drop c) (i - ((m.length + c) % 64)) else r i, Sha.put_kept 64 c ((m.length + c) % 64) (min (s.drop c).length (64 - ((m.length + c) % 64))) m s r rfl ac, r_h.congr (g := Sha.hrow (.int .i64 256) (Sha.st 256 (gb (m ++ s)) ((m.length + c) / 64)) (fun i => if ((m.length + c) % 64) ≤ i ∧ i < ((m.length + c) % 64) + (min (s.drop c).length (64 - ((m.length + c) % 64))) then gb (s.drop c) (i - ((m.length + c) % 64)) else r i) (.int .i64 ((((m.length + c) % 64) + (min (s.drop c).length (64 - ((m.length + c) % 64))) : Nat) : Int)) (U64 al)) (fun j hj => by refine Sha.num_row (.int .i64 256) (Sha.st 256 (gb (m ++ s)) ((m.length + c) / 64)) (fun i => if ((m.length + c) % 64) ≤ i ∧ i < ((m.length + c) % 64) + (min (s.drop c).length (64 - ((m.length + c) % 64))) then gb (s.drop c) (i - ((m.length + c) % 64)) else r i) _ _ _ _ j ?_; congr 1), hk⟩
   ·skip
    refine wp_skip (then_n (wp_seq (sr (w_mv (ex (pt h 0) aa) (w_val (y_nc (ex (pt h 0))) (w_val (v := pt h 0) (y_off (y_fa (ex (pt h 0)) (ShaCT.fa139_0 _ _)) ro) (w_val (v := .int .i64 256) (y_ld (ex (pt h 0)) ShaCT.sc3 (r_h.val om (ng pz))) (w_val (y_bin ei Ev.c b_eql) (nt (c_tt eb (wp_region_lit (w_mv (ex (pt h 0) aa) ?_))))))))))))
    replace r_h := r_h.congr (g := Sha.hrow (.int .i64 256) (Sha.st 256 (gb (m ++ s)) ((m.length + c) / 64)) (fun i => if ((m.length + c) % 64) ≤ i ∧ i < ((m.length + c) % 64) + (min (s.drop c).length (64 - ((m.length + c) % 64))) then gb (s.drop c) (i - ((m.length + c) % 64)) else r i) (.int .i64 ((64 : Nat) : Int)) (U64 al)) (fun j hj => Sha.num_row (.int .i64 256) (Sha.st 256 (gb (m ++ s)) ((m.length + c) / 64)) (fun i => if ((m.length + c) % 64) ≤ i ∧ i < ((m.length + c) % 64) + (min (s.drop c).length (64 - ((m.length + c) % 64))) then gb (s.drop c) (i - ((m.length + c) % 64)) else r i) _ _ _ _ j (by congr 1 <;> omega))
    have am := r_h
    clear r_h
    refine w_call (Tryz.func65) kr rfl (m1 (ex (pt h 0))) (few_c h 64 h1 256 (Sha.st 256 (gb (m ++ s)) ((m.length + c) / 64)) (fun i => if ((m.length + c) % 64) ≤ i ∧ i < ((m.length + c) % 64) + (min (s.drop c).length (64 - ((m.length + c) % 64))) then gb (s.drop c) (i - ((m.length + c) % 64)) else r i) al (Sha.st_small _ _) an am hT) ?_
    rintro _ ar ⟨rfl, r_h, aj⟩
    refine ⟨_, rfl, ?_⟩
    replace hk := grown_thenG hk aj om
    replace hT := Sha.Tabs.grown hT aj om om
    refine nt (wp_region_lit (w_mv (ex (pt h 0) aa) (w_val (y_nc (ex (pt h 0))) (w_val (v := pt h 137) (y_off (y_fa (ex (pt h 0)) (ShaCT.fa139_3 _ _)) ro) (w_st (v := .int .i64 0) (ex (pt h 137)) Ev.c rfl rfl ShaCT.sz3 r_h om ?_)))))
    clear r_h; intro aq r_h af _
    replace hk := grown_thenG hk af om
    replace hT := Sha.Tabs.grown hT af om om
    refine wpList_nil (inb_n ?_)
    exact then_n ⟨_, om, c + (min (s.drop c).length (64 - ((m.length + c) % 64))), fun i => if ((m.length + c) % 64) ≤ i ∧ i < ((m.length + c) % 64) + (min (s.drop c).length (64 - ((m.length + c) % 64))) then gb (s.drop c) (i - ((m.length + c) % 64)) else r i, rfl, _, rfl, iv, (by intro j hj; exfalso; omega), aa, (Eq.trans (b := .string (str ((s.drop c).drop (min (s.drop c).length (64 - ((m.length + c) % 64)))))) rfl (by rw [List.drop_drop])), ad, (r_h.congr (fun j hj => by refine (Sha.num_row (.int .i64 256) (Sha.comp true (fun i => if ((m.length + c) % 64) ≤ i ∧ i < ((m.length + c) % 64) + (min (s.drop c).length (64 - ((m.length + c) % 64))) then gb (s.drop c) (i - ((m.length + c) % 64)) else r i) (Sha.st 256 (gb (m ++ s)) ((m.length + c) / 64))) (fun i => if ((m.length + c) % 64) ≤ i ∧ i < ((m.length + c) % 64) + (min (s.drop c).length (64 - ((m.length + c) % 64))) then gb (s.drop c) (i - ((m.length + c) % 64)) else r i) _ _ _ _ j rfl).trans ?_; rw [show (m.length + (c + (min (s.drop c).length (64 - ((m.length + c) % 64))))) % 64 = 0 from by omega, ← Sha.put_next 256 64 c ((m.length + c) % 64) (min (s.drop c).length (64 - ((m.length + c) % 64))) ((m.length + (c + (min (s.drop c).length (64 - ((m.length + c) % 64))))) / 64) rfl m s r rfl ac om om] <;> rfl)), hT, hk⟩
  ·skip
   refine wp_exit (then_x (then_x (inb_x (fin_end0 rfl ?_))))
   obtain rfl : c = s.length := by omega
   exact ⟨rfl, r, ac, r_h, hk⟩

theorem put_384 (h : Nat) (h1 : 0 < h ∧ 1 < h) (m s : List (BitVec 8)) (hs : s.length ≤ 140737488351232) (rr : Nat → BitVec 8) (al : BitVec 64) (hr : ∀ j, j < m.length % 128 → rr j = gb m (128 * (m.length / 128) + j)) (w0 : World) (r_h : Row w0 h 139 139 (Sha.hrow (.int .i64 384) (Sha.st 384 (gb m) (m.length / 128)) rr (.int .i64 (((m.length % 128) : Nat) : Int)) (U64 al))) (hT : Sha.Tabs w0) : Calls Tryz.prog 61 #[pt h 0, .string (str s)] w0 fun e w' => e = .returned (.tuple #[]) ∧ ∃ rr' : Nat → BitVec 8, (∀ j, j < (m.length + s.length) % 128 → rr' j = gb (m ++ s) (128 * ((m.length + s.length) / 128) + j)) ∧ Row w' h 139 139 (Sha.hrow (.int .i64 384) (Sha.st 384 (gb (m ++ s)) ((m.length + s.length) / 128)) rr' (.int .i64 ((((m.length + s.length) % 128) : Nat) : Int)) (U64 al)) ∧ w0.grownBy w' (some h) := by
 have au := hT.lt
 refine enter (n := 60) Tryz.func61 rfl rfl rfl ?_
 have hk : w0.grownBy w0 (some h) := grown_refl _ _
 have ao := r_h.lt
 refine sr (w_mv (ex (pt h 0)) (w_val (y_nc (ex (pt h 0))) (w_val (v := pt h 0) (y_off (y_fa (ex (pt h 0)) (ShaCT.fa139_0 _ _)) ro) (w_val (v := .int .i64 384) (y_ld (ex (pt h 0)) ShaCT.sc3 (r_h.val om pz)) (w_call (Tryz.func48) kr rfl (m1 ei) (shaSize_384  w0) ?_)))))
 rintro _ w1 ⟨rfl, ag⟩
 refine ⟨_, rfl, ?_⟩
 replace r_h := r_h.step ag
 replace hk := grown_thenB hk ag
 replace hT := Sha.Tabs.below hT ag
 refine w_mv (ex (.tuple #[.int .i64 48, .int .i64 128, .int .i64 0])) (w_val ye (w_val ye (w_val ye (w_as ei (w_as ei (w_as ei (nt (wp_block ?_))))))))
 refine c_loop (fun dN aN wl => ∃ (c : Nat) (r : Nat → BitVec 8), dN = (s.length - c) ∧ ∃ f3, aN = fr 60 f3 ∧ (c ≤ s.length) ∧ (∀ j, j < ((m.length + c) % 128) → r j = gb (m ++ s) (128 * ((m.length + c) / 128) + j)) ∧ f3 0 = pt h 0 ∧ f3 1 = .string (str (s.drop c)) ∧ f3 5 = .int .i64 128 ∧ Row wl h 139 139 (Sha.hrow (.int .i64 384) (Sha.st 384 (gb (m ++ s)) ((m.length + c) / 128)) r (.int .i64 ((((m.length + c) % 128) : Nat) : Int)) (U64 al)) ∧ Sha.Tabs wl ∧ w0.grownBy wl (some h)) (s.length - 0) ?_ ?_
 · exact ⟨0, rr, rfl, _, rfl, iv, (by intro j hj; rw [hr j om, gb_append, if_pos om]; rfl), rfl, (Eq.trans (b := .string (str s)) rfl (by rfl)), rfl, (r_h.congr (fun j hj => by rw [Sha.put_init 384 128 rfl m s] <;> rfl)), hT, hk⟩
 ·skip
  clear r_h hT hk
  rintro _ _ w4 ⟨c, r, rfl, f3, rfl, ak, ac, aa, ab, ad, r_h, hT, hk⟩
  have ap : (s.drop c).length = s.length - c := List.length_drop
  refine wp_seq (sr (w_mv (es ab) (w_val (y_len es Tryz.underlying9) (w_val (y_bin ei Ev.c b_gtr) (nt ?_)))))
  refine c_if (p := 0 < (((s.drop c).length : Nat) : Int)) eb (fun hc5 => ?_) (fun hc5 => ?_)
  ·skip
   refine wp_skip (then_n (wp_block (wp_seq (region_t 10 ShaCT.mixed kr ?_))))
   simp only [List.take_succ_cons, List.take_zero, List.drop_succ_cons, List.drop_zero]
   refine q_mv (ex (pt h 0) aa) (q_val (fun w' hw' => y_nc (ex (pt h 0))) (q_val (v := pt h 9) (fun w' hw' => y_off (y_fa (ex (pt h 0)) (ShaCT.fa139_2 _ _)) ro) (q_mv (ex (pt h 0) aa) (q_val (fun w' hw' => y_nc (ex (pt h 0))) (q_val (v := pt h 137) (fun w' hw' => y_off (y_fa (ex (pt h 0)) (ShaCT.fa139_3 _ _)) ro) (q_val (v := .int .i64 ((((m.length + c) % 128) : Nat) : Int)) (fun w' hw' => y_ld (ex (pt h 137)) ShaCT.sc3 (cls_cell (r_h.val om (ng (ng (ng pz)))) r_h.lt w' hw')) (q_mv (ei ad) (q_val (v := .slice (some ⟨h, (9 + ((m.length + c) % 128)), none⟩) (128 - ((m.length + c) % 128)) (128 - ((m.length + c) % 128))) (fun w' hw' => y_sloff (y_slp (ex (pt h 9)) (evo.s ei) (evo.s ei) Tryz.underlying137 ShaCT.sz5 (bnd_lh (l := ((m.length + c) % 128)) (h := 128) om om om om) om) ro rfl) (q_mv (es ab) (q_nil ?_))))))))))
   intro w6 ah
   replace r_h := r_h.step ah
   replace hk := grown_thenB hk ah
   replace hT := Sha.Tabs.below hT ah
   refine w_copys (l := s.drop c) el es Tryz.underlying55 ShaCT.sz5 r_h om ?_
   clear r_h; intro w8 r_h ai _
   replace hk := grown_thenG hk ai om
   replace hT := Sha.Tabs.grown hT ai om om
   refine w_as ei (nt (sr (w_mv (es ab) (w_mv ei (w_val (v := .string (str ((s.drop c).drop (min (s.drop c).length (128 - ((m.length + c) % 128)))))) (y_slf (ex (.string (str (s.drop c)))) (evo.s ei) Tryz.underlying9 (bnd_l (l := (min (s.drop c).length (128 - ((m.length + c) % 128)))) om om)) (w_as es (nt (wp_seq ?_))))))))
   replace r_h := r_h.congr (g := Sha.hrow (.int .i64 384) (Sha.st 384 (gb (m ++ s)) ((m.length + c) / 128)) (fun i => if ((m.length + c) % 128) ≤ i ∧ i < ((m.length + c) % 128) + (min (s.drop c).length (128 - ((m.length + c) % 128))) then gb (s.drop c) (i - ((m.length + c) % 128)) else r i) (.int .i64 ((((m.length + c) % 128) : Nat) : Int)) (U64 al)) (fun j hj => Sha.rest_row _ _ _ _ _ _ _ _ j om)
   refine wp_region_lit (w_mv (ex (pt h 0) aa) (w_val (y_nc (ex (pt h 0))) (w_val (v := pt h 137) (y_off (y_fa (ex (pt h 0)) (ShaCT.fa139_3 _ _)) ro) (w_val (v := .int .i64 ((((m.length + c) % 128) : Nat) : Int)) (y_ld (ex (pt h 137)) ShaCT.sc3 (r_h.val om (ng (ng (ng pz))))) (w_mv ei (w_val (y_bin ei ei (b_add om)) (w_val (y_nc (ex (pt h 0))) (w_val (v := pt h 137) (y_off (y_fa (ex (pt h 0)) (ShaCT.fa139_3 _ _)) ro) (w_st (v := .int .i64 (((((m.length + c) % 128) : Nat) : Int) + (((min (s.drop c).length (128 - ((m.length + c) % 128))) : Nat) : Int))) (ex (pt h 137)) ei rfl rfl ShaCT.sz3 r_h om ?_)))))))))
   clear r_h; intro an r_h ae _
   replace hk := grown_thenG hk ae om
   replace hT := Sha.Tabs.grown hT ae om om
   refine nt (wp_seq (sr (w_mv (ex (pt h 0) aa) (w_val (y_nc (ex (pt h 0))) (w_val (v := pt h 137) (y_off (y_fa (ex (pt h 0)) (ShaCT.fa139_3 _ _)) ro) (w_val (v := .int .i64 (((((m.length + c) % 128) : Nat) : Int) + (((min (s.drop c).length (128 - ((m.length + c) % 128))) : Nat) : Int))) (y_ld (ex (pt h 137)) ShaCT.sc3 (r_h.val om (if_pos rfl))) (w_mv (ei ad) (w_val (y_bin ei ei b_lss) (nt ?_)))))))))
   refine c_if (p := (((((m.length + c) % 128) : Nat) : Int) + (((min (s.drop c).length (128 - ((m.length + c) % 128))) : Nat) : Int)) < 128) eb (fun hc12 => ?_) (fun hc12 => ?_)
   ·skip
    refine wp_ret (then_r (inb_r (then_r (inb_r (fin_ret0 rfl ?_)))))
    have e1 : (m.length + s.length) % 128 = ((m.length + c) % 128) + (min (s.drop c).length (128 - ((m.length + c) % 128))) := by omega
    have e2 : (m.length + s.length) / 128 = ((m.length + c) / 128) := by omega
    rw [e1, e2]
    exact ⟨rfl, fun i => if ((m.length + c) % 128) ≤ i ∧ i < ((m.length + c) % 128) + (min (s.drop c).length (128 - ((m.length + c) % 128))) then gb (s.drop c) (i - ((m.length + c) % 128)) else r i, Sha.put_kept 128 c ((m.length + c) % 128) (min (s.drop c).length (128 - ((m.length + c) % 128))) m s r rfl ac, r_h.congr (g := Sha.hrow (.int .i64 384) (Sha.st 384 (gb (m ++ s)) ((m.length + c) / 128)) (fun i => if ((m.length + c) % 128) ≤ i ∧ i < ((m.length + c) % 128) + (min (s.drop c).length (128 - ((m.length + c) % 128))) then gb (s.drop c) (i - ((m.length + c) % 128)) else r i) (.int .i64 ((((m.length + c) % 128) + (min (s.drop c).length (128 - ((m.length + c) % 128))) : Nat) : Int)) (U64 al)) (fun j hj => by refine Sha.num_row (.int .i64 384) (Sha.st 384 (gb (m ++ s)) ((m.length + c) / 128)) (fun i => if ((m.length + c) % 128) ≤ i ∧ i < ((m.length + c) % 128) + (min (s.drop c).length (128 - ((m.length + c) % 128))) then gb (s.drop c) (i - ((m.length + c) % 128)) else r i) _ _ _ _ j ?_; congr 1), hk⟩
   ·skip
    refine wp_skip (then_n (wp_seq (sr (w_mv (ex (pt h 0) aa) (w_val (y_nc (ex (pt h 0))) (w_val (v := pt h 0) (y_off (y_fa (ex (pt h 0)) (ShaCT.fa139_0 _ _)) ro) (w_val (v := .int .i64 384) (y_ld (ex (pt h 0)) ShaCT.sc3 (r_h.val om (ng pz))) (w_val (y_bin ei Ev.c b_eql) (nt (c_ff eb (wp_region_lit (w_mv (ex (pt h 0) aa) ?_))))))))))))
    replace r_h := r_h.congr (g := Sha.hrow (.int .i64 384) (Sha.st 384 (gb (m ++ s)) ((m.length + c) / 128)) (fun i => if ((m.length + c) % 128) ≤ i ∧ i < ((m.length + c) % 128) + (min (s.drop c).length (128 - ((m.length + c) % 128))) then gb (s.drop c) (i - ((m.length + c) % 128)) else r i) (.int .i64 ((128 : Nat) : Int)) (U64 al)) (fun j hj => Sha.num_row (.int .i64 384) (Sha.st 384 (gb (m ++ s)) ((m.length + c) / 128)) (fun i => if ((m.length + c) % 128) ≤ i ∧ i < ((m.length + c) % 128) + (min (s.drop c).length (128 - ((m.length + c) % 128))) then gb (s.drop c) (i - ((m.length + c) % 128)) else r i) _ _ _ _ j (by congr 1 <;> omega))
    have am := r_h
    clear r_h
    refine w_call (Tryz.func66) kr rfl (m1 (ex (pt h 0))) (many_c h 128 h1 384 (Sha.st 384 (gb (m ++ s)) ((m.length + c) / 128)) (fun i => if ((m.length + c) % 128) ≤ i ∧ i < ((m.length + c) % 128) + (min (s.drop c).length (128 - ((m.length + c) % 128))) then gb (s.drop c) (i - ((m.length + c) % 128)) else r i) al an am hT) ?_
    rintro _ ar ⟨rfl, r_h, aj⟩
    refine ⟨_, rfl, ?_⟩
    replace hk := grown_thenG hk aj om
    replace hT := Sha.Tabs.grown hT aj om om
    refine nt (wp_region_lit (w_mv (ex (pt h 0) aa) (w_val (y_nc (ex (pt h 0))) (w_val (v := pt h 137) (y_off (y_fa (ex (pt h 0)) (ShaCT.fa139_3 _ _)) ro) (w_st (v := .int .i64 0) (ex (pt h 137)) Ev.c rfl rfl ShaCT.sz3 r_h om ?_)))))
    clear r_h; intro aq r_h af _
    replace hk := grown_thenG hk af om
    replace hT := Sha.Tabs.grown hT af om om
    refine wpList_nil (inb_n ?_)
    exact then_n ⟨_, om, c + (min (s.drop c).length (128 - ((m.length + c) % 128))), fun i => if ((m.length + c) % 128) ≤ i ∧ i < ((m.length + c) % 128) + (min (s.drop c).length (128 - ((m.length + c) % 128))) then gb (s.drop c) (i - ((m.length + c) % 128)) else r i, rfl, _, rfl, iv, (by intro j hj; exfalso; omega), aa, (Eq.trans (b := .string (str ((s.drop c).drop (min (s.drop c).length (128 - ((m.length + c) % 128)))))) rfl (by rw [List.drop_drop])), ad, (r_h.congr (fun j hj => by refine (Sha.num_row (.int .i64 384) (Sha.comp false (fun i => if ((m.length + c) % 128) ≤ i ∧ i < ((m.length + c) % 128) + (min (s.drop c).length (128 - ((m.length + c) % 128))) then gb (s.drop c) (i - ((m.length + c) % 128)) else r i) (Sha.st 384 (gb (m ++ s)) ((m.length + c) / 128))) (fun i => if ((m.length + c) % 128) ≤ i ∧ i < ((m.length + c) % 128) + (min (s.drop c).length (128 - ((m.length + c) % 128))) then gb (s.drop c) (i - ((m.length + c) % 128)) else r i) _ _ _ _ j rfl).trans ?_; rw [show (m.length + (c + (min (s.drop c).length (128 - ((m.length + c) % 128))))) % 128 = 0 from by omega, ← Sha.put_next 384 128 c ((m.length + c) % 128) (min (s.drop c).length (128 - ((m.length + c) % 128))) ((m.length + (c + (min (s.drop c).length (128 - ((m.length + c) % 128))))) / 128) rfl m s r rfl ac om om] <;> rfl)), hT, hk⟩
  ·skip
   refine wp_exit (then_x (then_x (inb_x (fin_end0 rfl ?_))))
   obtain rfl : c = s.length := by omega
   exact ⟨rfl, r, ac, r_h, hk⟩

theorem put_512 (h : Nat) (h1 : 0 < h ∧ 1 < h) (m s : List (BitVec 8)) (hs : s.length ≤ 140737488351232) (rr : Nat → BitVec 8) (al : BitVec 64) (hr : ∀ j, j < m.length % 128 → rr j = gb m (128 * (m.length / 128) + j)) (w0 : World) (r_h : Row w0 h 139 139 (Sha.hrow (.int .i64 512) (Sha.st 512 (gb m) (m.length / 128)) rr (.int .i64 (((m.length % 128) : Nat) : Int)) (U64 al))) (hT : Sha.Tabs w0) : Calls Tryz.prog 61 #[pt h 0, .string (str s)] w0 fun e w' => e = .returned (.tuple #[]) ∧ ∃ rr' : Nat → BitVec 8, (∀ j, j < (m.length + s.length) % 128 → rr' j = gb (m ++ s) (128 * ((m.length + s.length) / 128) + j)) ∧ Row w' h 139 139 (Sha.hrow (.int .i64 512) (Sha.st 512 (gb (m ++ s)) ((m.length + s.length) / 128)) rr' (.int .i64 ((((m.length + s.length) % 128) : Nat) : Int)) (U64 al)) ∧ w0.grownBy w' (some h) := by
 have au := hT.lt
 refine enter (n := 60) Tryz.func61 rfl rfl rfl ?_
 have hk : w0.grownBy w0 (some h) := grown_refl _ _
 have ao := r_h.lt
 refine sr (w_mv (ex (pt h 0)) (w_val (y_nc (ex (pt h 0))) (w_val (v := pt h 0) (y_off (y_fa (ex (pt h 0)) (ShaCT.fa139_0 _ _)) ro) (w_val (v := .int .i64 512) (y_ld (ex (pt h 0)) ShaCT.sc3 (r_h.val om pz)) (w_call (Tryz.func48) kr rfl (m1 ei) (shaSize_512  w0) ?_)))))
 rintro _ w1 ⟨rfl, ag⟩
 refine ⟨_, rfl, ?_⟩
 replace r_h := r_h.step ag
 replace hk := grown_thenB hk ag
 replace hT := Sha.Tabs.below hT ag
 refine w_mv (ex (.tuple #[.int .i64 64, .int .i64 128, .int .i64 0])) (w_val ye (w_val ye (w_val ye (w_as ei (w_as ei (w_as ei (nt (wp_block ?_))))))))
 refine c_loop (fun dN aN wl => ∃ (c : Nat) (r : Nat → BitVec 8), dN = (s.length - c) ∧ ∃ f3, aN = fr 60 f3 ∧ (c ≤ s.length) ∧ (∀ j, j < ((m.length + c) % 128) → r j = gb (m ++ s) (128 * ((m.length + c) / 128) + j)) ∧ f3 0 = pt h 0 ∧ f3 1 = .string (str (s.drop c)) ∧ f3 5 = .int .i64 128 ∧ Row wl h 139 139 (Sha.hrow (.int .i64 512) (Sha.st 512 (gb (m ++ s)) ((m.length + c) / 128)) r (.int .i64 ((((m.length + c) % 128) : Nat) : Int)) (U64 al)) ∧ Sha.Tabs wl ∧ w0.grownBy wl (some h)) (s.length - 0) ?_ ?_
 · exact ⟨0, rr, rfl, _, rfl, iv, (by intro j hj; rw [hr j om, gb_append, if_pos om]; rfl), rfl, (Eq.trans (b := .string (str s)) rfl (by rfl)), rfl, (r_h.congr (fun j hj => by rw [Sha.put_init 512 128 rfl m s] <;> rfl)), hT, hk⟩
 ·skip
  clear r_h hT hk
  rintro _ _ w4 ⟨c, r, rfl, f3, rfl, ak, ac, aa, ab, ad, r_h, hT, hk⟩
  have ap : (s.drop c).length = s.length - c := List.length_drop
  refine wp_seq (sr (w_mv (es ab) (w_val (y_len es Tryz.underlying9) (w_val (y_bin ei Ev.c b_gtr) (nt ?_)))))
  refine c_if (p := 0 < (((s.drop c).length : Nat) : Int)) eb (fun hc5 => ?_) (fun hc5 => ?_)
  ·skip
   refine wp_skip (then_n (wp_block (wp_seq (region_t 10 ShaCT.mixed kr ?_))))
   simp only [List.take_succ_cons, List.take_zero, List.drop_succ_cons, List.drop_zero]
   refine q_mv (ex (pt h 0) aa) (q_val (fun w' hw' => y_nc (ex (pt h 0))) (q_val (v := pt h 9) (fun w' hw' => y_off (y_fa (ex (pt h 0)) (ShaCT.fa139_2 _ _)) ro) (q_mv (ex (pt h 0) aa) (q_val (fun w' hw' => y_nc (ex (pt h 0))) (q_val (v := pt h 137) (fun w' hw' => y_off (y_fa (ex (pt h 0)) (ShaCT.fa139_3 _ _)) ro) (q_val (v := .int .i64 ((((m.length + c) % 128) : Nat) : Int)) (fun w' hw' => y_ld (ex (pt h 137)) ShaCT.sc3 (cls_cell (r_h.val om (ng (ng (ng pz)))) r_h.lt w' hw')) (q_mv (ei ad) (q_val (v := .slice (some ⟨h, (9 + ((m.length + c) % 128)), none⟩) (128 - ((m.length + c) % 128)) (128 - ((m.length + c) % 128))) (fun w' hw' => y_sloff (y_slp (ex (pt h 9)) (evo.s ei) (evo.s ei) Tryz.underlying137 ShaCT.sz5 (bnd_lh (l := ((m.length + c) % 128)) (h := 128) om om om om) om) ro rfl) (q_mv (es ab) (q_nil ?_))))))))))
   intro w6 ah
   replace r_h := r_h.step ah
   replace hk := grown_thenB hk ah
   replace hT := Sha.Tabs.below hT ah
   refine w_copys (l := s.drop c) el es Tryz.underlying55 ShaCT.sz5 r_h om ?_
   clear r_h; intro w8 r_h ai _
   replace hk := grown_thenG hk ai om
   replace hT := Sha.Tabs.grown hT ai om om
   refine w_as ei (nt (sr (w_mv (es ab) (w_mv ei (w_val (v := .string (str ((s.drop c).drop (min (s.drop c).length (128 - ((m.length + c) % 128)))))) (y_slf (ex (.string (str (s.drop c)))) (evo.s ei) Tryz.underlying9 (bnd_l (l := (min (s.drop c).length (128 - ((m.length + c) % 128)))) om om)) (w_as es (nt (wp_seq ?_))))))))
   replace r_h := r_h.congr (g := Sha.hrow (.int .i64 512) (Sha.st 512 (gb (m ++ s)) ((m.length + c) / 128)) (fun i => if ((m.length + c) % 128) ≤ i ∧ i < ((m.length + c) % 128) + (min (s.drop c).length (128 - ((m.length + c) % 128))) then gb (s.drop c) (i - ((m.length + c) % 128)) else r i) (.int .i64 ((((m.length + c) % 128) : Nat) : Int)) (U64 al)) (fun j hj => Sha.rest_row _ _ _ _ _ _ _ _ j om)
   refine wp_region_lit (w_mv (ex (pt h 0) aa) (w_val (y_nc (ex (pt h 0))) (w_val (v := pt h 137) (y_off (y_fa (ex (pt h 0)) (ShaCT.fa139_3 _ _)) ro) (w_val (v := .int .i64 ((((m.length + c) % 128) : Nat) : Int)) (y_ld (ex (pt h 137)) ShaCT.sc3 (r_h.val om (ng (ng (ng pz))))) (w_mv ei (w_val (y_bin ei ei (b_add om)) (w_val (y_nc (ex (pt h 0))) (w_val (v := pt h 137) (y_off (y_fa (ex (pt h 0)) (ShaCT.fa139_3 _ _)) ro) (w_st (v := .int .i64 (((((m.length + c) % 128) : Nat) : Int) + (((min (s.drop c).length (128 - ((m.length + c) % 128))) : Nat) : Int))) (ex (pt h 137)) ei rfl rfl ShaCT.sz3 r_h om ?_)))))))))
   clear r_h; intro an r_h ae _
   replace hk := grown_thenG hk ae om
   replace hT := Sha.Tabs.grown hT ae om om
   refine nt (wp_seq (sr (w_mv (ex (pt h 0) aa) (w_val (y_nc (ex (pt h 0))) (w_val (v := pt h 137) (y_off (y_fa (ex (pt h 0)) (ShaCT.fa139_3 _ _)) ro) (w_val (v := .int .i64 (((((m.length + c) % 128) : Nat) : Int) + (((min (s.drop c).length (128 - ((m.length + c) % 128))) : Nat) : Int))) (y_ld (ex (pt h 137)) ShaCT.sc3 (r_h.val om (if_pos rfl))) (w_mv (ei ad) (w_val (y_bin ei ei b_lss) (nt ?_)))))))))
   refine c_if (p := (((((m.length + c) % 128) : Nat) : Int) + (((min (s.drop c).length (128 - ((m.length + c) % 128))) : Nat) : Int)) < 128) eb (fun hc12 => ?_) (fun hc12 => ?_)
   ·skip
    refine wp_ret (then_r (inb_r (then_r (inb_r (fin_ret0 rfl ?_)))))
    have e1 : (m.length + s.length) % 128 = ((m.length + c) % 128) + (min (s.drop c).length (128 - ((m.length + c) % 128))) := by omega
    have e2 : (m.length + s.length) / 128 = ((m.length + c) / 128) := by omega
    rw [e1, e2]
    exact ⟨rfl, fun i => if ((m.length + c) % 128) ≤ i ∧ i < ((m.length + c) % 128) + (min (s.drop c).length (128 - ((m.length + c) % 128))) then gb (s.drop c) (i - ((m.length + c) % 128)) else r i, Sha.put_kept 128 c ((m.length + c) % 128) (min (s.drop c).length (128 - ((m.length + c) % 128))) m s r rfl ac, r_h.congr (g := Sha.hrow (.int .i64 512) (Sha.st 512 (gb (m ++ s)) ((m.length + c) / 128)) (fun i => if ((m.length + c) % 128) ≤ i ∧ i < ((m.length + c) % 128) + (min (s.drop c).length (128 - ((m.length + c) % 128))) then gb (s.drop c) (i - ((m.length + c) % 128)) else r i) (.int .i64 ((((m.length + c) % 128) + (min (s.drop c).length (128 - ((m.length + c) % 128))) : Nat) : Int)) (U64 al)) (fun j hj => by refine Sha.num_row (.int .i64 512) (Sha.st 512 (gb (m ++ s)) ((m.length + c) / 128)) (fun i => if ((m.length + c) % 128) ≤ i ∧ i < ((m.length + c) % 128) + (min (s.drop c).length (128 - ((m.length + c) % 128))) then gb (s.drop c) (i - ((m.length + c) % 128)) else r i) _ _ _ _ j ?_; congr 1), hk⟩
   ·skip
    refine wp_skip (then_n (wp_seq (sr (w_mv (ex (pt h 0) aa) (w_val (y_nc (ex (pt h 0))) (w_val (v := pt h 0) (y_off (y_fa (ex (pt h 0)) (ShaCT.fa139_0 _ _)) ro) (w_val (v := .int .i64 512) (y_ld (ex (pt h 0)) ShaCT.sc3 (r_h.val om (ng pz))) (w_val (y_bin ei Ev.c b_eql) (nt (c_ff eb (wp_region_lit (w_mv (ex (pt h 0) aa) ?_))))))))))))
    replace r_h := r_h.congr (g := Sha.hrow (.int .i64 512) (Sha.st 512 (gb (m ++ s)) ((m.length + c) / 128)) (fun i => if ((m.length + c) % 128) ≤ i ∧ i < ((m.length + c) % 128) + (min (s.drop c).length (128 - ((m.length + c) % 128))) then gb (s.drop c) (i - ((m.length + c) % 128)) else r i) (.int .i64 ((128 : Nat) : Int)) (U64 al)) (fun j hj => Sha.num_row (.int .i64 512) (Sha.st 512 (gb (m ++ s)) ((m.length + c) / 128)) (fun i => if ((m.length + c) % 128) ≤ i ∧ i < ((m.length + c) % 128) + (min (s.drop c).length (128 - ((m.length + c) % 128))) then gb (s.drop c) (i - ((m.length + c) % 128)) else r i) _ _ _ _ j (by congr 1 <;> omega))
    have am := r_h
    clear r_h
    refine w_call (Tryz.func66) kr rfl (m1 (ex (pt h 0))) (many_c h 128 h1 512 (Sha.st 512 (gb (m ++ s)) ((m.length + c) / 128)) (fun i => if ((m.length + c) % 128) ≤ i ∧ i < ((m.length + c) % 128) + (min (s.drop c).length (128 - ((m.length + c) % 128))) then gb (s.drop c) (i - ((m.length + c) % 128)) else r i) al an am hT) ?_
    rintro _ ar ⟨rfl, r_h, aj⟩
    refine ⟨_, rfl, ?_⟩
    replace hk := grown_thenG hk aj om
    replace hT := Sha.Tabs.grown hT aj om om
    refine nt (wp_region_lit (w_mv (ex (pt h 0) aa) (w_val (y_nc (ex (pt h 0))) (w_val (v := pt h 137) (y_off (y_fa (ex (pt h 0)) (ShaCT.fa139_3 _ _)) ro) (w_st (v := .int .i64 0) (ex (pt h 137)) Ev.c rfl rfl ShaCT.sz3 r_h om ?_)))))
    clear r_h; intro aq r_h af _
    replace hk := grown_thenG hk af om
    replace hT := Sha.Tabs.grown hT af om om
    refine wpList_nil (inb_n ?_)
    exact then_n ⟨_, om, c + (min (s.drop c).length (128 - ((m.length + c) % 128))), fun i => if ((m.length + c) % 128) ≤ i ∧ i < ((m.length + c) % 128) + (min (s.drop c).length (128 - ((m.length + c) % 128))) then gb (s.drop c) (i - ((m.length + c) % 128)) else r i, rfl, _, rfl, iv, (by intro j hj; exfalso; omega), aa, (Eq.trans (b := .string (str ((s.drop c).drop (min (s.drop c).length (128 - ((m.length + c) % 128)))))) rfl (by rw [List.drop_drop])), ad, (r_h.congr (fun j hj => by refine (Sha.num_row (.int .i64 512) (Sha.comp false (fun i => if ((m.length + c) % 128) ≤ i ∧ i < ((m.length + c) % 128) + (min (s.drop c).length (128 - ((m.length + c) % 128))) then gb (s.drop c) (i - ((m.length + c) % 128)) else r i) (Sha.st 512 (gb (m ++ s)) ((m.length + c) / 128))) (fun i => if ((m.length + c) % 128) ≤ i ∧ i < ((m.length + c) % 128) + (min (s.drop c).length (128 - ((m.length + c) % 128))) then gb (s.drop c) (i - ((m.length + c) % 128)) else r i) _ _ _ _ j rfl).trans ?_; rw [show (m.length + (c + (min (s.drop c).length (128 - ((m.length + c) % 128))))) % 128 = 0 from by omega, ← Sha.put_next 512 128 c ((m.length + c) % 128) (min (s.drop c).length (128 - ((m.length + c) % 128))) ((m.length + (c + (min (s.drop c).length (128 - ((m.length + c) % 128))))) / 128) rfl m s r rfl ac om om] <;> rfl)), hT, hk⟩
  ·skip
   refine wp_exit (then_x (then_x (inb_x (fin_end0 rfl ?_))))
   obtain rfl : c = s.length := by omega
   exact ⟨rfl, r, ac, r_h, hk⟩
end Go.Proofs.YtdmbfimjbmfbaaaGreatDoor
