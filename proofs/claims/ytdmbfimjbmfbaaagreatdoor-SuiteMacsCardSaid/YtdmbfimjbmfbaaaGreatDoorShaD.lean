/-
  Digests: writing, copying, summing. Conditions as each says.
-/
import Derived.Test.YtdmbfimjbmfbaaaGreatDoorRows
import Derived.Test.YtdmbfimjbmfbaaaGreatDoorShaC
import Derived.Test.YtdmbfimjbmfbaaaGreatDoorGenSh
import Derived.ProofKit
namespace Go.Proofs.YtdmbfimjbmfbaaaGreatDoor
open Go.RowKit
set_option linter.unusedSimpArgs false
set_option linter.unusedVariables false
set_option maxRecDepth 100000
set_option maxHeartbeats 1000000
namespace ShaDT
theorem mixed : Tryz.prog.follows .mixedOrders = true := by kernel_rfl
theorem ag139 : (Tryz.prog.underlying 139).map isAggD = some true := by rw [Tryz.underlying139]; rfl
theorem ag93 : (Tryz.prog.underlying 93).map isAggD = some true := by rw [Tryz.underlying93]; rfl
theorem fa139_0 (g off : Nat) : ∀ w, (Instr.fieldAt 139 (.pointer (some ⟨g, off, none⟩)) 0).run Tryz.prog w = .ok (.pointer (some ⟨g, off + 0, none⟩)) w := fun w => by kernel_rfl
theorem fa139_1 (g off : Nat) : ∀ w, (Instr.fieldAt 139 (.pointer (some ⟨g, off, none⟩)) 1).run Tryz.prog w = .ok (.pointer (some ⟨g, off + 1, none⟩)) w := fun w => by kernel_rfl
theorem fa139_2 (g off : Nat) : ∀ w, (Instr.fieldAt 139 (.pointer (some ⟨g, off, none⟩)) 2).run Tryz.prog w = .ok (.pointer (some ⟨g, off + 9, none⟩)) w := fun w => by kernel_rfl
theorem fa139_3 (g off : Nat) : ∀ w, (Instr.fieldAt 139 (.pointer (some ⟨g, off, none⟩)) 3).run Tryz.prog w = .ok (.pointer (some ⟨g, off + 137, none⟩)) w := fun w => by kernel_rfl
theorem fa139_4 (g off : Nat) : ∀ w, (Instr.fieldAt 139 (.pointer (some ⟨g, off, none⟩)) 4).run Tryz.prog w = .ok (.pointer (some ⟨g, off + 138, none⟩)) w := fun w => by kernel_rfl
theorem sc103 : (Tryz.prog.underlying 103).map scal = some true := by rw [Tryz.underlying103]; rfl
theorem sc3 : (Tryz.prog.underlying 3).map scal = some true := by rw [Tryz.underlying3]; rfl
theorem sc5 : (Tryz.prog.underlying 5).map scal = some true := by rw [Tryz.underlying5]; rfl
theorem sc92 : (Tryz.prog.underlying 92).map scal = some true := by rw [Tryz.underlying92]; rfl
theorem so103 : (Tryz.prog.underlying 103).isSome = true := by rw [Tryz.underlying103]; rfl
theorem so3 : (Tryz.prog.underlying 3).isSome = true := by rw [Tryz.underlying3]; rfl
theorem so5 : (Tryz.prog.underlying 5).isSome = true := by rw [Tryz.underlying5]; rfl
theorem so92 : (Tryz.prog.underlying 92).isSome = true := by rw [Tryz.underlying92]; rfl
theorem sz103 : (Tryz.prog.info? 103).map (·.size) = some 1 := by kernel_rfl
theorem sz139 : (Tryz.prog.info? 139).map (·.size) = some 139 := by kernel_rfl
theorem sz147 : (Tryz.prog.info? 147).map (·.size) = some 8 := by kernel_rfl
theorem sz3 : (Tryz.prog.info? 3).map (·.size) = some 1 := by kernel_rfl
theorem sz5 : (Tryz.prog.info? 5).map (·.size) = some 1 := by kernel_rfl
theorem sz92 : (Tryz.prog.info? 92).map (·.size) = some 1 := by kernel_rfl
theorem sz93 : (Tryz.prog.info? 93).map (·.size) = some 8 := by kernel_rfl
end ShaDT
theorem hrow_one (kd : Value) (hh : Nat → BitVec 64) (rr : Nat → BitVec 8) (n al : Value) (j : Nat) (h1 : kd.oneCell' = true) (h2 : n.oneCell' = true) (h3 : al.oneCell' = true) : (Sha.hrow kd hh rr n al j).oneCell' = true := by
  unfold Sha.hrow
  split
  · exact h1
  split
  · exact U64.oneCell _
  split
  · exact U8.oneCell _
  split
  · exact h2
  · exact h3

theorem write_256 (h : Nat) (h1 : 0 < h ∧ 1 < h) (m : List (BitVec 8)) (s : List (BitVec 8)) (hs : s.length ≤ 140737488351232) (rr : Nat → BitVec 8) (hr : ∀ j, j < m.length % 64 → rr j = gb m (64 * (m.length / 64) + j)) (w0 : World) (r_h : Row w0 h 139 139 (Sha.hrow (.int .i64 256) (Sha.st 256 (gb m) (m.length / 64)) rr (.int .i64 (((m.length % 64) : Nat) : Int)) (U64 (BitVec.ofNat 64 m.length)))) (hT : Sha.Tabs w0) : Calls Tryz.prog 51 #[pt h 0, .string (str s)] w0 fun e w' => e = .returned (.int .i64 0) ∧ Sha.At w' h 256 (m ++ s) ∧ w0.grownBy w' (some h) := by
 have ag := hT.lt
 refine enter (n := 27) Tryz.func51 rfl rfl rfl ?_
 have hk : w0.grownBy w0 (some h) := grown_refl _ _
 have ae := r_h.lt
 refine sr (w_as Ev.c (nt (wp_seq (sr (w_mv (ex (pt h 0)) (w_val (y_bin (ex (pt h 0)) Ev.c (b_eqp Tryz.underlying124)) (w_mv eb (w_val_g (v := pt h 0) (wy rfl rfl eb) (y_mv (ex (pt h 0))) (w_val_g (wy rfl rfl eb) (y_nc (ex (pt h 0))) (w_val_g (v := pt h 0) (wy rfl rfl eb) (y_off (y_fa (ex (pt h 0)) (ShaDT.fa139_0 _ _)) ro) (w_val_g (v := .int .i64 256) (wy rfl rfl eb) (y_ld (ex (pt h 0)) ShaDT.sc3 (r_h.val om pz)) (w_val_g (wy rfl rfl eb) (y_bin ei Ev.c b_eql) (w_val (y_pick_f eb eb) (nt (c_ff eb (wp_skip (then_n (sr (w_mv (ex (pt h 0)) (w_val (y_nc (ex (pt h 0))) (w_val (v := pt h 138) (y_off (y_fa (ex (pt h 0)) (ShaDT.fa139_4 _ _)) ro) (w_val (v := U64 (BitVec.ofNat 64 m.length)) (y_ld (ex (pt h 138)) ShaDT.sc92 (r_h.val om (ng (ng (ng (ng dv)))))) (w_mv es (w_val (y_len es Tryz.underlying9) (w_val (y_nat_u64 (p := s.length) ei om ShaDT.so3 Tryz.underlying92) (w_val (y_bin e6 e6 add64) (w_val (y_nc (ex (pt h 0))) (w_val (v := pt h 138) (y_off (y_fa (ex (pt h 0)) (ShaDT.fa139_4 _ _)) ro) (w_st (v := U64 ((BitVec.ofNat 64 m.length) + (BitVec.ofNat 64 s.length))) (ex (pt h 138)) e6 rfl rfl ShaDT.sz92 r_h om ?_)))))))))))))))))))))))))))))
 clear r_h; intro w1 r_h ab _
 replace hk := grown_thenG hk ab om
 replace hT := Sha.Tabs.grown hT ab om om
 refine nt (sr (w_mv (ex (pt h 0)) (w_mv es ?_)))
 replace r_h := r_h.congr (g := Sha.hrow (.int .i64 256) (Sha.st 256 (gb m) (m.length / 64)) rr (.int .i64 (((m.length % 64) : Nat) : Int)) (U64 ((BitVec.ofNat 64 m.length) + (BitVec.ofNat 64 s.length)))) (fun j hj => Sha.all_row _ _ _ _ _ _ j hj)
 have af := r_h
 clear r_h
 refine w_call (Tryz.func61) kr rfl (m2 (ex (pt h 0)) es) (put_256 h om m s om rr ((BitVec.ofNat 64 m.length) + (BitVec.ofNat 64 s.length)) hr w1 af hT) ?_
 rintro _ w3 ⟨rfl, ac, ad, r_h, aa⟩
 refine ⟨_, rfl, ?_⟩
 replace hk := grown_thenG hk aa om
 replace hT := Sha.Tabs.grown hT aa om om
 refine nt (sr (w_as Ev.c (nt (wp_ret (fin_ret1 rfl ei ?_)))))
 exact ⟨rfl, Sha.At.of 256 64 (m.length + s.length) rfl (m ++ s) List.length_append ac ad (by rw [BitVec.ofNat_add]; exact r_h), hk⟩

theorem copy_256 (h : Nat) (h1 : 0 < h ∧ 1 < h) (m : List (BitVec 8)) (rr : Nat → BitVec 8) (hr : ∀ j, j < m.length % 64 → rr j = gb m (64 * (m.length / 64) + j)) (w0 : World) (r_h : Row w0 h 139 139 (Sha.hrow (.int .i64 256) (Sha.st 256 (gb m) (m.length / 64)) rr (.int .i64 (((m.length % 64) : Nat) : Int)) (U64 (BitVec.ofNat 64 m.length)))) : Calls Tryz.prog 52 #[pt h 0] w0 fun e w' => ∃ p, e = .returned (.pointer (some ⟨p, 0, none⟩)) ∧ w0.heap.size ≤ p ∧ Sha.At w' p 256 m ∧ Below w0.heap.size w0 w' := by
 refine enter (n := 16) Tryz.func52 rfl rfl rfl ?_
 have hk : Below w0.heap.size w0 w0 := Below.refl _ _
 have ah := r_h.lt
 refine sr (w_as Ev.c (nt (wp_seq (sr (w_mv (ex (pt h 0)) (w_val (y_bin (ex (pt h 0)) Ev.c (b_eqp Tryz.underlying124)) (w_mv eb (w_val_g (v := pt h 0) (wy rfl rfl eb) (y_mv (ex (pt h 0))) (w_val_g (wy rfl rfl eb) (y_nc (ex (pt h 0))) (w_val_g (v := pt h 0) (wy rfl rfl eb) (y_off (y_fa (ex (pt h 0)) (ShaDT.fa139_0 _ _)) ro) (w_val_g (v := .int .i64 256) (wy rfl rfl eb) (y_ld (ex (pt h 0)) ShaDT.sc3 (r_h.val om pz)) (w_val_g (wy rfl rfl eb) (y_bin ei Ev.c b_eql) (w_val (y_pick_f eb eb) (nt (c_ff eb (wp_skip (then_n (sr (w_mv (ex (pt h 0)) (w_val (y_nc (ex (pt h 0))) (w_val (v := .agg (arr 139 (Sha.hrow (.int .i64 256) (Sha.st 256 (gb m) (m.length / 64)) rr (.int .i64 (((m.length % 64) : Nat) : Int)) (U64 (BitVec.ofNat 64 m.length))))) (y_lda (ex (pt h 0)) ShaDT.ag139 ShaDT.sz139 (fun j hj => by rw [Nat.zero_add]; exact (r_h.cell om))) (w_alloc (m := 139) (F := fun j => if j < 1 then .int .i64 0 else if j < 9 then U64 (0#64) else if j < 137 then U8 (0#8) else if j < 138 then .int .i64 0 else U64 (0#64)) kr ?_))))))))))))))))))))))
 intro ae w1 ab aa ag
 have ad := r_h.nb ab
 have ac := gb_ hk.size ab
 clear ab
 replace r_h := r_h.step ag
 replace hk := thenB hk ag
 refine w_sta (k := 139) (G := Sha.hrow (.int .i64 256) (Sha.st 256 (gb m) (m.length / 64)) rr (.int .i64 (((m.length % 64) : Nat) : Int)) (U64 (BitVec.ofNat 64 m.length))) (ex (pt ae 0)) ea (fun j _ => by exact hrow_one _ _ _ _ _ j rfl rfl rfl) ShaDT.sz139 aa om ?_
 clear aa; intro w3 aa af _
 replace aa := aa.congr (g := Sha.hrow (.int .i64 256) (Sha.st 256 (gb m) (m.length / 64)) rr (.int .i64 (((m.length % 64) : Nat) : Int)) (U64 (BitVec.ofNat 64 m.length))) (fun j hj => by rw [if_pos ⟨Nat.zero_le _, by omega⟩]; first | rfl | (simp only [Nat.sub_zero]))
 replace r_h := r_h.stepG af om
 replace hk := thenG hk af om
 refine nt (sr (w_as (ex (pt ae 0)) (nt (wp_ret (fin_ret1 rfl (ex (pt ae 0)) ?_)))))
 exact ⟨ae, rfl, ac, Sha.At.of 256 64 m.length rfl m rfl rr hr aa, hk⟩

theorem sum_256 (h : Nat) (h1 : 0 < h ∧ 1 < h) (m : List (BitVec 8)) (hm : m.length ≤ 1152921504606846976) (rr : Nat → BitVec 8) (hr : ∀ j, j < m.length % 64 → rr j = gb m (64 * (m.length / 64) + j)) (w0 : World) (r_h : Row w0 h 139 139 (Sha.hrow (.int .i64 256) (Sha.st 256 (gb m) (m.length / 64)) rr (.int .i64 (((m.length % 64) : Nat) : Int)) (U64 (BitVec.ofNat 64 m.length)))) (hT : Sha.Tabs w0) : Calls Tryz.prog 53 #[pt h 0] w0 fun e w' => e = .returned (.tuple #[.string (str (Sha.sum 256 m)), .int .i64 0]) ∧ Below w0.heap.size w0 w' := by
 have b9 := hT.lt
 have b0 : Sha.padl 256 m.length = ((((119 - (m.length % 64)) % 64) + 1) + 8) := by rw [Sha.padl_eq 256 64 _ rfl]
 have b6 : (Sha.pad 256 m.length).length = ((((119 - (m.length % 64)) % 64) + 1) + 8) := by rw [Sha.length_pad, b0]
 refine enter (n := 117) Tryz.func53 rfl rfl rfl ?_
 have hk : Below w0.heap.size w0 w0 := Below.refl _ _
 have b4 := r_h.lt
 refine sr (w_as (evc (.string (str ([] : List (BitVec 8))))) (w_as Ev.c (nt (wp_seq (sr (w_mv (ex (pt h 0)) (w_val (y_bin (ex (pt h 0)) Ev.c (b_eqp Tryz.underlying124)) (w_mv eb (w_val_g (v := pt h 0) (wy rfl rfl eb) (y_mv (ex (pt h 0))) (w_val_g (wy rfl rfl eb) (y_nc (ex (pt h 0))) (w_val_g (v := pt h 0) (wy rfl rfl eb) (y_off (y_fa (ex (pt h 0)) (ShaDT.fa139_0 _ _)) ro) (w_val_g (v := .int .i64 256) (wy rfl rfl eb) (y_ld (ex (pt h 0)) ShaDT.sc3 (r_h.val om pz)) (w_val_g (wy rfl rfl eb) (y_bin ei Ev.c b_eql) (w_val (y_pick_f eb eb) (nt (c_ff eb (wp_skip (then_n (sr (w_mv (ex (pt h 0)) (w_val (y_nc (ex (pt h 0))) (w_val (v := pt h 0) (y_off (y_fa (ex (pt h 0)) (ShaDT.fa139_0 _ _)) ro) (w_val (v := .int .i64 256) (y_ld (ex (pt h 0)) ShaDT.sc3 (r_h.val om pz)) (w_call (Tryz.func48) kr rfl (m1 ei) (shaSize_256  w0) ?_))))))))))))))))))))))))
 rintro _ w1 ⟨rfl, bp⟩
 refine ⟨_, rfl, ?_⟩
 replace r_h := r_h.step bp
 replace hk := thenB hk bp
 replace hT := Sha.Tabs.below hT bp
 refine w_mv (ex (.tuple #[.int .i64 32, .int .i64 64, .int .i64 0])) (w_val ye (w_val ye (w_val ye (w_as ei (w_as ei (w_as ei (nt (sr (w_mv (ex (pt h 0)) (w_val (y_nc (ex (pt h 0))) (w_val (v := .agg (arr 139 (Sha.hrow (.int .i64 256) (Sha.st 256 (gb m) (m.length / 64)) rr (.int .i64 (((m.length % 64) : Nat) : Int)) (U64 (BitVec.ofNat 64 m.length))))) (y_lda (ex (pt h 0)) ShaDT.ag139 ShaDT.sz139 (fun j hj => by rw [Nat.zero_add]; exact (r_h.cell om))) (w_alloc (m := 139) (F := fun j => if j < 1 then .int .i64 0 else if j < 9 then U64 (0#64) else if j < 137 then U8 (0#8) else if j < 138 then .int .i64 0 else U64 (0#64)) kr ?_))))))))))))
 intro ag w3 ah ab bs
 have a9 := r_h.nb ah
 have bu := gb_ hk.size ah
 clear ah
 replace r_h := r_h.step bs
 replace hk := thenB hk bs
 replace hT := Sha.Tabs.below hT bs
 refine w_sta (k := 139) (G := Sha.hrow (.int .i64 256) (Sha.st 256 (gb m) (m.length / 64)) rr (.int .i64 (((m.length % 64) : Nat) : Int)) (U64 (BitVec.ofNat 64 m.length))) (ex (pt ag 0)) ea (fun j _ => by exact hrow_one _ _ _ _ _ j rfl rfl rfl) ShaDT.sz139 ab om ?_
 clear ab; intro w5 ab bq _
 replace ab := ab.congr (g := Sha.hrow (.int .i64 256) (Sha.st 256 (gb m) (m.length / 64)) rr (.int .i64 (((m.length % 64) : Nat) : Int)) (U64 (BitVec.ofNat 64 m.length))) (fun j hj => by rw [if_pos ⟨Nat.zero_le _, by omega⟩]; first | rfl | (simp only [Nat.sub_zero]))
 replace r_h := r_h.stepG bq om
 replace hk := thenG hk bq om
 replace hT := Sha.Tabs.grown hT bq om om
 refine nt (sr (w_mv ei (w_val (y_bin ei Ev.c (b_quo om)) (w_as ei (nt (sr (w_mv ei (w_val (y_bin Ev.c ei (b_mul om)) (w_mv ei (w_val (y_bin ei ei (b_sub om)) (w_val (y_bin ei Ev.c (b_sub om)) (w_val (v := pt ag 137) (y_off (y_fa (ex (pt ag 0)) (ShaDT.fa139_3 _ _)) ro) (w_val (v := .int .i64 (((m.length % 64) : Nat) : Int)) (y_ld (ex (pt ag 137)) ShaDT.sc3 (ab.val om (ng (ng (ng pz))))) (w_val (y_bin ei ei (b_sub om)) (w_mv ei (w_val (y_bin ei ei (b_rem om)) (w_val (y_bin ei Ev.c (b_add om)) (w_mv ei (w_val (y_bin ei ei (b_add om)) (w_mks (m := ((((119 - (m.length % 64)) % 64) + 1) + 8)) (bytes := 1) (zv := U8 (0#8)) ei ei om om Tryz.underlying55 kr rfl om om ?_))))))))))))))))))))
 intro ai w7 ae aa bn
 have a8 := r_h.nb ae
 have a3 := ab.nb ae
 have bm := gb_ hk.size ae
 clear ae
 replace r_h := r_h.step bn
 replace ab := ab.step bn
 replace hk := thenB hk bn
 replace hT := Sha.Tabs.below hT bn
 refine w_as el (nt (sr (w_mv el (w_val (y_is1z (i := 0) el Ev.c Tryz.underlying55 ShaDT.sz5 om om) (w_st (v := U8 (128#8)) (ex (pt ai 0)) (evc (U8 (128#8))) rfl rfl ShaDT.sz5 aa om ?_)))))
 clear aa; intro w9 aa av _
 replace r_h := r_h.stepG av om
 replace ab := ab.stepG av om
 replace hk := thenG hk av om
 replace hT := Sha.Tabs.grown hT av om om
 refine nt (wp_seq (sr (w_mv Ev.c (nt (wp_block ?_)))))
 refine c_loop (fun dN aN wl => ∃ (i : Nat), dN = (8 - i) ∧ ∃ au, aN = fr 117 au ∧ (i ≤ 8) ∧ au 2 = .string (str ([] : List (BitVec 8))) ∧ au 3 = .int .i64 0 ∧ au 4 = .int .i64 32 ∧ au 5 = .int .i64 64 ∧ au 7 = pt ag 0 ∧ au 8 = .int .i64 8 ∧ au 9 = .slice (some ⟨ai, 0, none⟩) ((((119 - (m.length % 64)) % 64) + 1) + 8) ((((119 - (m.length % 64)) % 64) + 1) + 8) ∧ au 53 = .int .i64 ((i : Nat) : Int) ∧ Row wl h 139 139 (Sha.hrow (.int .i64 256) (Sha.st 256 (gb m) (m.length / 64)) rr (.int .i64 (((m.length % 64) : Nat) : Int)) (U64 (BitVec.ofNat 64 m.length))) ∧ Row wl ag 139 139 (Sha.hrow (.int .i64 256) (Sha.st 256 (gb m) (m.length / 64)) rr (.int .i64 (((m.length % 64) : Nat) : Int)) (U64 (BitVec.ofNat 64 m.length))) ∧ Row wl ai 5 ((((119 - (m.length % 64)) % 64) + 1) + 8) (fun j => if ((((119 - (m.length % 64)) % 64) + 1) + 8) ≤ j + i then (fun j => U8 (gb (Oct.be (BitVec.ofNat 64 (8 * m.length)) 8) (j - (((((119 - (m.length % 64)) % 64) + 1) + 8) - 8)))) j else (fun j => if j = 0 then U8 (128#8) else (fun j => U8 (0#8)) j) j) ∧ Sha.Tabs wl ∧ Below w0.heap.size w0 wl) (8 - 0) ?_ ?_
 · exact ⟨0, rfl, _, rfl, iv, rfl, rfl, rfl, rfl, rfl, rfl, rfl, ti, r_h, ab, (aa.congr (fun j hj => by exact (if_neg om).symm)), hT, hk⟩
 ·skip
  clear r_h ab aa hT hk
  rintro _ _ b1 ⟨i, rfl, au, rfl, bx, bg, bk, bl, bh, aw, bi, az, am, r_h, ab, aa, hT, hk⟩
  refine sr (w_val (y_bin (ei am) Ev.c b_lss) (nt (wp_seq ?_)))
  refine c_if (p := ((i : Nat) : Int) < 8) eb (fun hc13 => ?_) (fun hc13 => ?_)
  ·skip
   refine wp_skip (then_n (wp_seq (wp_block (sr (w_mv (ei am) (w_as ei (nt (wp_region_lit (w_mv (el az) (w_mv (el az) (w_val (v := .int .i64 ((((((119 - (m.length % 64)) % 64) + 1) + 8) : Nat) : Int)) (y_len_sl el Tryz.underlying55) (w_val (y_bin ei Ev.c (b_sub om)) (w_mv ei (w_val (y_bin ei ei (b_sub om)) (w_val (v := pt ag 138) (y_off (y_fa (ex (pt ag 0) aw) (ShaDT.fa139_4 _ _)) ro) (w_val (v := U64 (BitVec.ofNat 64 m.length)) (y_ld (ex (pt ag 138)) ShaDT.sc92 (ab.val om (ng (ng (ng (ng dv)))))) (w_val (y_bin e6 (evc (.int .u64 3)) (shl64 (c := 3) rfl)) (w_mv ei (w_val (y_bin Ev.c ei (b_mul om)) (w_val (y_bin e6 ei (shr64 (c := (8 * i)) om)) (w_val (y_u64_u8 e6 ShaDT.so92 Tryz.underlying5) (w_val (y_is1z (i := ((((((119 - (m.length % 64)) % 64) + 1) + 8) - 1) - i)) el ei Tryz.underlying55 ShaDT.sz5 om om) (w_st (v := U8 ((((BitVec.ofNat 64 m.length) <<< 3) >>> (8 * i)).setWidth 8)) (ex (pt ai ((((((119 - (m.length % 64)) % 64) + 1) + 8) - 1) - i))) e8 rfl rfl ShaDT.sz5 aa om ?_)))))))))))))))))))))))
   clear aa; intro cd aa a1 _
   replace r_h := r_h.stepG a1 om
   replace ab := ab.stepG a1 om
   replace hk := thenG hk a1 om
   replace hT := Sha.Tabs.grown hT a1 om om
   refine wpList_nil (inb_n (then_n (wp_region_lit (w_val (y_bin (ei am) Ev.c (b_add om)) (w_mv ei (wpList_nil ?_))))))
   exact then_n ⟨_, om, i + 1, rfl, _, rfl, iv, bg, bk, bl, bh, aw, bi, az, ti, r_h, ab, (aa.congr (fun j hj => by (try dsimp only); by_cases e : j = ((((119 - (m.length % 64)) % 64) + 1) + 8) - 1 - i; (rw [if_pos e, if_pos om, Sha.len_byte _ _ om]; exact congrArg U8 (congrArg (gb _) om)); (rw [if_neg e]; by_cases e2 : ((((119 - (m.length % 64)) % 64) + 1) + 8) ≤ j + i; (rw [if_pos e2]; exact (if_pos om).symm); (rw [if_neg e2]; exact (if_neg om).symm)))), hT, hk⟩
  ·skip
   refine wp_exit (then_x (then_x (inb_x (then_n (wp_seq (sr (w_mv (ei bi) (w_val (y_bin ei Ev.c b_eql) (nt (c_ff eb (wp_skip (then_n (wp_seq ?_)))))))))))))
   replace aa := aa.congr (g := fun j => U8 (gb (Sha.pad 256 m.length) j)) (fun j hj => by rw [show i = 8 from by omega]; exact Sha.pad_row 256 m.length _ j om hj)
   refine wp_region_lit (w_mv (el az) (w_val (y_str (l := Sha.pad 256 m.length) el (by first | rfl | assumption | (simp; omega) | omega) Tryz.underlying55 Tryz.underlying5 Tryz.underlying9 (fun j hj => by rw [Nat.zero_add]; exact (aa.cell om))) ?_))
   have bz := ab
   clear ab
   refine w_call (Tryz.func61) kr rfl (m2 (ex (pt ag 0) aw) es) (put_256 ag om m (Sha.pad 256 m.length) om rr (BitVec.ofNat 64 m.length) hr b1 bz hT) ?_
   rintro _ b7 ⟨rfl, bv, cb, ab, bo⟩
   refine ⟨_, rfl, ?_⟩
   replace r_h := r_h.stepG bo om
   replace aa := aa.stepG bo om
   replace hk := thenG hk bo om
   replace hT := Sha.Tabs.grown hT bo om om
   refine nt (wp_seq ?_)
   replace ab := ab.congr (g := Sha.hrow (.int .i64 256) (Sha.st 256 (gb (Sha.full 256 m)) (Sha.nb 256 m)) bv (.int .i64 ((((m.length + (Sha.pad 256 m.length).length) % 64) : Nat) : Int)) (U64 (BitVec.ofNat 64 m.length))) (fun j hj => Sha.hrow_congr _ _ _ _ _ _ _ j (fun i _ => by rw [Sha.length_pad]; rfl) (fun _ _ => rfl))
   refine wp_region_lit (w_alloc (m := 64) (F := fun j => U8 (0#8)) kr ?_)
   intro af cc ad ac ak
   have a6 := r_h.nb ad
   have a0 := ab.nb ad
   have ar := aa.nb ad
   have bj := gb_ hk.size ad
   clear ad
   replace r_h := r_h.step ak
   replace ab := ab.step ak
   replace aa := aa.step ak
   replace hk := thenB hk ak
   replace hT := Sha.Tabs.below hT ak
   refine nt (wp_seq (sr (w_mv Ev.c (nt (wp_block ?_)))))
   refine c_loop (fun dN aN wl => ∃ (a : Nat), dN = (8 - a) ∧ ∃ ay, aN = fr 117 ay ∧ (a ≤ 8) ∧ ay 2 = .string (str ([] : List (BitVec 8))) ∧ ay 3 = .int .i64 0 ∧ ay 4 = .int .i64 32 ∧ ay 5 = .int .i64 64 ∧ ay 7 = pt ag 0 ∧ ay 11 = pt af 0 ∧ ay 85 = .int .i64 ((a : Nat) : Int) ∧ Row wl h 139 139 (Sha.hrow (.int .i64 256) (Sha.st 256 (gb m) (m.length / 64)) rr (.int .i64 (((m.length % 64) : Nat) : Int)) (U64 (BitVec.ofNat 64 m.length))) ∧ Row wl ag 139 139 (Sha.hrow (.int .i64 256) (Sha.st 256 (gb (Sha.full 256 m)) (Sha.nb 256 m)) bv (.int .i64 ((((m.length + (Sha.pad 256 m.length).length) % 64) : Nat) : Int)) (U64 (BitVec.ofNat 64 m.length))) ∧ Row wl ai 5 ((((119 - (m.length % 64)) % 64) + 1) + 8) (fun j => U8 (gb (Sha.pad 256 m.length) j)) ∧ Row wl af 141 64 (fun j => if j < (4 * a) then (fun j => U8 ((Sha.st 256 (gb (Sha.full 256 m)) (Sha.nb 256 m) (j / 4) >>> (8 * (3 - j % 4))).setWidth 8)) j else (fun j => U8 (0#8)) j) ∧ Sha.Tabs wl ∧ Below w0.heap.size w0 wl) (8 - 0) ?_ ?_
   · exact ⟨0, rfl, _, rfl, iv, bg, bk, bl, bh, aw, rfl, ti, r_h, ab, aa, (ac.congr (fun j hj => by exact (if_neg om).symm)), hT, hk⟩
   ·skip
    clear r_h ab aa ac hT hk
    rintro _ _ b8 ⟨a, rfl, ay, rfl, b3, bw, bt, bd, bb, br, a2, aq, r_h, ab, aa, ac, hT, hk⟩
    refine sr (w_val (y_bin (ei aq) Ev.c b_lss) (nt (wp_seq ?_)))
    refine c_if (p := ((a : Nat) : Int) < 8) eb (fun hc21 => ?_) (fun hc21 => ?_)
    ·skip
     refine wp_skip (then_n (wp_seq (wp_block (sr (w_mv (ei aq) (w_as ei (nt (sr (w_mv (ei bb) (w_val (y_bin ei Ev.c (b_quo om)) (w_mv Ev.c (nt (wp_block ?_)))))))))))))
     refine c_loop (fun dN aN wl => ∃ (b : Nat), dN = (4 - b) ∧ ∃ aj, aN = fr 117 aj ∧ (b ≤ 4) ∧ aj 2 = .string (str ([] : List (BitVec 8))) ∧ aj 3 = .int .i64 0 ∧ aj 4 = .int .i64 32 ∧ aj 5 = .int .i64 64 ∧ aj 7 = pt ag 0 ∧ aj 11 = pt af 0 ∧ aj 12 = .int .i64 ((a : Nat) : Int) ∧ aj 85 = .int .i64 ((a : Nat) : Int) ∧ aj 89 = .int .i64 4 ∧ aj 90 = .int .i64 ((b : Nat) : Int) ∧ Row wl h 139 139 (Sha.hrow (.int .i64 256) (Sha.st 256 (gb m) (m.length / 64)) rr (.int .i64 (((m.length % 64) : Nat) : Int)) (U64 (BitVec.ofNat 64 m.length))) ∧ Row wl ag 139 139 (Sha.hrow (.int .i64 256) (Sha.st 256 (gb (Sha.full 256 m)) (Sha.nb 256 m)) bv (.int .i64 ((((m.length + (Sha.pad 256 m.length).length) % 64) : Nat) : Int)) (U64 (BitVec.ofNat 64 m.length))) ∧ Row wl ai 5 ((((119 - (m.length % 64)) % 64) + 1) + 8) (fun j => U8 (gb (Sha.pad 256 m.length) j)) ∧ Row wl af 141 64 (fun j => if j < ((a * 4) + b) then (fun j => U8 ((Sha.st 256 (gb (Sha.full 256 m)) (Sha.nb 256 m) (j / 4) >>> (8 * (3 - j % 4))).setWidth 8)) j else (fun j => U8 (0#8)) j) ∧ Sha.Tabs wl ∧ Below w0.heap.size w0 wl) (4 - 0) ?_ ?_
     · exact ⟨0, rfl, _, rfl, iv, bw, bt, bd, bb, br, a2, rfl, aq, rfl, ti, r_h, ab, aa, (ac.congr (fun j hj => by (try dsimp only); by_cases e : j < 4 * a; (rw [if_pos e, if_pos om]); (rw [if_neg e, if_neg om]))), hT, hk⟩
     ·skip
      clear r_h ab aa ac hT hk
      rintro _ _ b5 ⟨b, rfl, aj, rfl, b2, ba, bf, bc, ax, a7, an, al, a5, a4, ap, r_h, ab, aa, ac, hT, hk⟩
      refine sr (w_val (y_bin (ei ap) (ei a4) b_lss) (nt (wp_seq ?_)))
      refine c_if (p := ((b : Nat) : Int) < 4) eb (fun hc24 => ?_) (fun hc24 => ?_)
      ·skip
       refine wp_skip (then_n (wp_seq (wp_block (sr (w_mv (ei ap) (w_as ei (nt (wp_region_lit (w_mv (ei al) (w_mv (ei ax) (w_val (y_bin ei Ev.c (b_quo om)) (w_val (y_bin ei ei (b_mul om)) (w_mv ei (w_val (y_bin ei ei (b_add om)) (w_mv (ei al) (w_val (v := pt ag 1) (y_off (y_fa (ex (pt ag 0) a7) (ShaDT.fa139_1 _ _)) ro) (w_val (v := pt ag (1 + a)) (y_off (y_ia1 (i := a) (ex (pt ag 1)) ei Tryz.underlying93 ShaDT.sz92 om om) ro) (w_val (v := U64 ((Sha.st 256 (gb (Sha.full 256 m)) (Sha.nb 256 m)) a)) (y_ld (ex (pt ag (1 + a))) ShaDT.sc92 (ab.val om (ng pz))) (w_mv (ei ax) (w_val (y_bin ei Ev.c (b_quo om)) (w_val (y_bin ei Ev.c (b_sub om)) (w_mv ei (w_val (y_bin ei ei (b_sub om)) (w_val (y_bin Ev.c ei (b_mul om)) (w_val (y_bin e6 ei (shr64 (c := (8 * (3 - b))) om)) (w_val (y_u64_u8 e6 ShaDT.so92 Tryz.underlying5) (w_val (y_ia1z (i := ((a * 4) + b)) (ex (pt af 0) an) ei Tryz.underlying141 ShaDT.sz5 om om) (w_st (v := U8 ((((Sha.st 256 (gb (Sha.full 256 m)) (Sha.nb 256 m)) a) >>> (8 * (3 - b))).setWidth 8)) (ex (pt af ((a * 4) + b))) e8 rfl rfl ShaDT.sz5 ac om ?_))))))))))))))))))))))))))))
       clear ac; intro ca ac ao _
       replace r_h := r_h.stepG ao om
       replace ab := ab.stepG ao om
       replace aa := aa.stepG ao om
       replace hk := thenG hk ao om
       replace hT := Sha.Tabs.grown hT ao om om
       refine wpList_nil (inb_n (then_n (wp_region_lit (w_val (y_bin (ei ap) Ev.c (b_add om)) (w_mv ei (wpList_nil ?_))))))
       exact then_n ⟨_, om, b + 1, rfl, _, rfl, iv, ba, bf, bc, ax, a7, an, al, a5, a4, ti, r_h, ab, aa, (ac.congr (fun j hj => by (try dsimp only); by_cases e : j = a * 4 + b; (rw [if_pos e, if_pos om, e, show (a * 4 + b) / 4 = a from by omega, show (a * 4 + b) % 4 = b from by omega]); (rw [if_neg e]; by_cases e2 : j < a * 4 + b; (rw [if_pos e2, if_pos om]); (rw [if_neg e2, if_neg om])))), hT, hk⟩
      ·skip
       refine wp_exit (then_x (then_x (inb_x (inb_n (then_n (wp_region_lit (w_val (y_bin (ei a5) Ev.c (b_add om)) (w_mv ei (wpList_nil ?_)))))))))
       exact then_n ⟨_, om, a + 1, rfl, _, rfl, iv, ba, bf, bc, ax, a7, an, ti, r_h, ab, aa, (ac.congr (fun j hj => by (try dsimp only); by_cases e : j < a * 4 + b; (rw [if_pos e, if_pos om]); (rw [if_neg e, if_neg om]))), hT, hk⟩
    ·skip
     refine wp_exit (then_x (then_x (inb_x (then_n (sr (w_mv (ei bd) (w_val (v := .slice (some ⟨af, 0, none⟩) 32 64) (y_sloff (y_slp (ex (pt af 0) a2) evo.no (evo.s ei) Tryz.underlying141 ShaDT.sz5 (bnd_h (h := 32) om om) om) ro rfl) (w_val (y_str (l := Sha.sum 256 m) el (by rw [Sha.length_sum]; rfl) Tryz.underlying55 Tryz.underlying5 Tryz.underlying9 (fun j hj => (ac.val om (by rw [Sha.gb_sum _ _ _ (show j < Sha.ol 256 from hj), Nat.zero_add]; exact if_pos om)))) (w_as es (w_as Ev.c (nt (wp_ret (fin_ret2 rfl es ei ?_)))))))))))))
     exact ⟨rfl, hk⟩

theorem write_384 (h : Nat) (h1 : 0 < h ∧ 1 < h) (m : List (BitVec 8)) (s : List (BitVec 8)) (hs : s.length ≤ 140737488351232) (rr : Nat → BitVec 8) (hr : ∀ j, j < m.length % 128 → rr j = gb m (128 * (m.length / 128) + j)) (w0 : World) (r_h : Row w0 h 139 139 (Sha.hrow (.int .i64 384) (Sha.st 384 (gb m) (m.length / 128)) rr (.int .i64 (((m.length % 128) : Nat) : Int)) (U64 (BitVec.ofNat 64 m.length)))) (hT : Sha.Tabs w0) : Calls Tryz.prog 51 #[pt h 0, .string (str s)] w0 fun e w' => e = .returned (.int .i64 0) ∧ Sha.At w' h 384 (m ++ s) ∧ w0.grownBy w' (some h) := by
 have ag := hT.lt
 refine enter (n := 27) Tryz.func51 rfl rfl rfl ?_
 have hk : w0.grownBy w0 (some h) := grown_refl _ _
 have ae := r_h.lt
 refine sr (w_as Ev.c (nt (wp_seq (sr (w_mv (ex (pt h 0)) (w_val (y_bin (ex (pt h 0)) Ev.c (b_eqp Tryz.underlying124)) (w_mv eb (w_val_g (v := pt h 0) (wy rfl rfl eb) (y_mv (ex (pt h 0))) (w_val_g (wy rfl rfl eb) (y_nc (ex (pt h 0))) (w_val_g (v := pt h 0) (wy rfl rfl eb) (y_off (y_fa (ex (pt h 0)) (ShaDT.fa139_0 _ _)) ro) (w_val_g (v := .int .i64 384) (wy rfl rfl eb) (y_ld (ex (pt h 0)) ShaDT.sc3 (r_h.val om pz)) (w_val_g (wy rfl rfl eb) (y_bin ei Ev.c b_eql) (w_val (y_pick_f eb eb) (nt (c_ff eb (wp_skip (then_n (sr (w_mv (ex (pt h 0)) (w_val (y_nc (ex (pt h 0))) (w_val (v := pt h 138) (y_off (y_fa (ex (pt h 0)) (ShaDT.fa139_4 _ _)) ro) (w_val (v := U64 (BitVec.ofNat 64 m.length)) (y_ld (ex (pt h 138)) ShaDT.sc92 (r_h.val om (ng (ng (ng (ng dv)))))) (w_mv es (w_val (y_len es Tryz.underlying9) (w_val (y_nat_u64 (p := s.length) ei om ShaDT.so3 Tryz.underlying92) (w_val (y_bin e6 e6 add64) (w_val (y_nc (ex (pt h 0))) (w_val (v := pt h 138) (y_off (y_fa (ex (pt h 0)) (ShaDT.fa139_4 _ _)) ro) (w_st (v := U64 ((BitVec.ofNat 64 m.length) + (BitVec.ofNat 64 s.length))) (ex (pt h 138)) e6 rfl rfl ShaDT.sz92 r_h om ?_)))))))))))))))))))))))))))))
 clear r_h; intro w1 r_h ab _
 replace hk := grown_thenG hk ab om
 replace hT := Sha.Tabs.grown hT ab om om
 refine nt (sr (w_mv (ex (pt h 0)) (w_mv es ?_)))
 replace r_h := r_h.congr (g := Sha.hrow (.int .i64 384) (Sha.st 384 (gb m) (m.length / 128)) rr (.int .i64 (((m.length % 128) : Nat) : Int)) (U64 ((BitVec.ofNat 64 m.length) + (BitVec.ofNat 64 s.length)))) (fun j hj => Sha.all_row _ _ _ _ _ _ j hj)
 have af := r_h
 clear r_h
 refine w_call (Tryz.func61) kr rfl (m2 (ex (pt h 0)) es) (put_384 h om m s om rr ((BitVec.ofNat 64 m.length) + (BitVec.ofNat 64 s.length)) hr w1 af hT) ?_
 rintro _ w3 ⟨rfl, ac, ad, r_h, aa⟩
 refine ⟨_, rfl, ?_⟩
 replace hk := grown_thenG hk aa om
 replace hT := Sha.Tabs.grown hT aa om om
 refine nt (sr (w_as Ev.c (nt (wp_ret (fin_ret1 rfl ei ?_)))))
 exact ⟨rfl, Sha.At.of 384 128 (m.length + s.length) rfl (m ++ s) List.length_append ac ad (by rw [BitVec.ofNat_add]; exact r_h), hk⟩

theorem copy_384 (h : Nat) (h1 : 0 < h ∧ 1 < h) (m : List (BitVec 8)) (rr : Nat → BitVec 8) (hr : ∀ j, j < m.length % 128 → rr j = gb m (128 * (m.length / 128) + j)) (w0 : World) (r_h : Row w0 h 139 139 (Sha.hrow (.int .i64 384) (Sha.st 384 (gb m) (m.length / 128)) rr (.int .i64 (((m.length % 128) : Nat) : Int)) (U64 (BitVec.ofNat 64 m.length)))) : Calls Tryz.prog 52 #[pt h 0] w0 fun e w' => ∃ p, e = .returned (.pointer (some ⟨p, 0, none⟩)) ∧ w0.heap.size ≤ p ∧ Sha.At w' p 384 m ∧ Below w0.heap.size w0 w' := by
 refine enter (n := 16) Tryz.func52 rfl rfl rfl ?_
 have hk : Below w0.heap.size w0 w0 := Below.refl _ _
 have ah := r_h.lt
 refine sr (w_as Ev.c (nt (wp_seq (sr (w_mv (ex (pt h 0)) (w_val (y_bin (ex (pt h 0)) Ev.c (b_eqp Tryz.underlying124)) (w_mv eb (w_val_g (v := pt h 0) (wy rfl rfl eb) (y_mv (ex (pt h 0))) (w_val_g (wy rfl rfl eb) (y_nc (ex (pt h 0))) (w_val_g (v := pt h 0) (wy rfl rfl eb) (y_off (y_fa (ex (pt h 0)) (ShaDT.fa139_0 _ _)) ro) (w_val_g (v := .int .i64 384) (wy rfl rfl eb) (y_ld (ex (pt h 0)) ShaDT.sc3 (r_h.val om pz)) (w_val_g (wy rfl rfl eb) (y_bin ei Ev.c b_eql) (w_val (y_pick_f eb eb) (nt (c_ff eb (wp_skip (then_n (sr (w_mv (ex (pt h 0)) (w_val (y_nc (ex (pt h 0))) (w_val (v := .agg (arr 139 (Sha.hrow (.int .i64 384) (Sha.st 384 (gb m) (m.length / 128)) rr (.int .i64 (((m.length % 128) : Nat) : Int)) (U64 (BitVec.ofNat 64 m.length))))) (y_lda (ex (pt h 0)) ShaDT.ag139 ShaDT.sz139 (fun j hj => by rw [Nat.zero_add]; exact (r_h.cell om))) (w_alloc (m := 139) (F := fun j => if j < 1 then .int .i64 0 else if j < 9 then U64 (0#64) else if j < 137 then U8 (0#8) else if j < 138 then .int .i64 0 else U64 (0#64)) kr ?_))))))))))))))))))))))
 intro ae w1 ab aa ag
 have ad := r_h.nb ab
 have ac := gb_ hk.size ab
 clear ab
 replace r_h := r_h.step ag
 replace hk := thenB hk ag
 refine w_sta (k := 139) (G := Sha.hrow (.int .i64 384) (Sha.st 384 (gb m) (m.length / 128)) rr (.int .i64 (((m.length % 128) : Nat) : Int)) (U64 (BitVec.ofNat 64 m.length))) (ex (pt ae 0)) ea (fun j _ => by exact hrow_one _ _ _ _ _ j rfl rfl rfl) ShaDT.sz139 aa om ?_
 clear aa; intro w3 aa af _
 replace aa := aa.congr (g := Sha.hrow (.int .i64 384) (Sha.st 384 (gb m) (m.length / 128)) rr (.int .i64 (((m.length % 128) : Nat) : Int)) (U64 (BitVec.ofNat 64 m.length))) (fun j hj => by rw [if_pos ⟨Nat.zero_le _, by omega⟩]; first | rfl | (simp only [Nat.sub_zero]))
 replace r_h := r_h.stepG af om
 replace hk := thenG hk af om
 refine nt (sr (w_as (ex (pt ae 0)) (nt (wp_ret (fin_ret1 rfl (ex (pt ae 0)) ?_)))))
 exact ⟨ae, rfl, ac, Sha.At.of 384 128 m.length rfl m rfl rr hr aa, hk⟩

theorem sum_384 (h : Nat) (h1 : 0 < h ∧ 1 < h) (m : List (BitVec 8)) (hm : m.length ≤ 1152921504606846976) (rr : Nat → BitVec 8) (hr : ∀ j, j < m.length % 128 → rr j = gb m (128 * (m.length / 128) + j)) (w0 : World) (r_h : Row w0 h 139 139 (Sha.hrow (.int .i64 384) (Sha.st 384 (gb m) (m.length / 128)) rr (.int .i64 (((m.length % 128) : Nat) : Int)) (U64 (BitVec.ofNat 64 m.length)))) (hT : Sha.Tabs w0) : Calls Tryz.prog 53 #[pt h 0] w0 fun e w' => e = .returned (.tuple #[.string (str (Sha.sum 384 m)), .int .i64 0]) ∧ Below w0.heap.size w0 w' := by
 have cb := hT.lt
 have b1 : Sha.padl 384 m.length = ((((239 - (m.length % 128)) % 128) + 1) + 16) := by rw [Sha.padl_eq 384 128 _ rfl]
 have b6 : (Sha.pad 384 m.length).length = ((((239 - (m.length % 128)) % 128) + 1) + 16) := by rw [Sha.length_pad, b1]
 refine enter (n := 117) Tryz.func53 rfl rfl rfl ?_
 have hk : Below w0.heap.size w0 w0 := Below.refl _ _
 have b5 := r_h.lt
 refine sr (w_as (evc (.string (str ([] : List (BitVec 8))))) (w_as Ev.c (nt (wp_seq (sr (w_mv (ex (pt h 0)) (w_val (y_bin (ex (pt h 0)) Ev.c (b_eqp Tryz.underlying124)) (w_mv eb (w_val_g (v := pt h 0) (wy rfl rfl eb) (y_mv (ex (pt h 0))) (w_val_g (wy rfl rfl eb) (y_nc (ex (pt h 0))) (w_val_g (v := pt h 0) (wy rfl rfl eb) (y_off (y_fa (ex (pt h 0)) (ShaDT.fa139_0 _ _)) ro) (w_val_g (v := .int .i64 384) (wy rfl rfl eb) (y_ld (ex (pt h 0)) ShaDT.sc3 (r_h.val om pz)) (w_val_g (wy rfl rfl eb) (y_bin ei Ev.c b_eql) (w_val (y_pick_f eb eb) (nt (c_ff eb (wp_skip (then_n (sr (w_mv (ex (pt h 0)) (w_val (y_nc (ex (pt h 0))) (w_val (v := pt h 0) (y_off (y_fa (ex (pt h 0)) (ShaDT.fa139_0 _ _)) ro) (w_val (v := .int .i64 384) (y_ld (ex (pt h 0)) ShaDT.sc3 (r_h.val om pz)) (w_call (Tryz.func48) kr rfl (m1 ei) (shaSize_384  w0) ?_))))))))))))))))))))))))
 rintro _ w1 ⟨rfl, bq⟩
 refine ⟨_, rfl, ?_⟩
 replace r_h := r_h.step bq
 replace hk := thenB hk bq
 replace hT := Sha.Tabs.below hT bq
 refine w_mv (ex (.tuple #[.int .i64 48, .int .i64 128, .int .i64 0])) (w_val ye (w_val ye (w_val ye (w_as ei (w_as ei (w_as ei (nt (sr (w_mv (ex (pt h 0)) (w_val (y_nc (ex (pt h 0))) (w_val (v := .agg (arr 139 (Sha.hrow (.int .i64 384) (Sha.st 384 (gb m) (m.length / 128)) rr (.int .i64 (((m.length % 128) : Nat) : Int)) (U64 (BitVec.ofNat 64 m.length))))) (y_lda (ex (pt h 0)) ShaDT.ag139 ShaDT.sz139 (fun j hj => by rw [Nat.zero_add]; exact (r_h.cell om))) (w_alloc (m := 139) (F := fun j => if j < 1 then .int .i64 0 else if j < 9 then U64 (0#64) else if j < 137 then U8 (0#8) else if j < 138 then .int .i64 0 else U64 (0#64)) kr ?_))))))))))))
 intro ag w3 ah ab bt
 have ba := r_h.nb ah
 have bv := gb_ hk.size ah
 clear ah
 replace r_h := r_h.step bt
 replace hk := thenB hk bt
 replace hT := Sha.Tabs.below hT bt
 refine w_sta (k := 139) (G := Sha.hrow (.int .i64 384) (Sha.st 384 (gb m) (m.length / 128)) rr (.int .i64 (((m.length % 128) : Nat) : Int)) (U64 (BitVec.ofNat 64 m.length))) (ex (pt ag 0)) ea (fun j _ => by exact hrow_one _ _ _ _ _ j rfl rfl rfl) ShaDT.sz139 ab om ?_
 clear ab; intro w5 ab br _
 replace ab := ab.congr (g := Sha.hrow (.int .i64 384) (Sha.st 384 (gb m) (m.length / 128)) rr (.int .i64 (((m.length % 128) : Nat) : Int)) (U64 (BitVec.ofNat 64 m.length))) (fun j hj => by rw [if_pos ⟨Nat.zero_le _, by omega⟩]; first | rfl | (simp only [Nat.sub_zero]))
 replace r_h := r_h.stepG br om
 replace hk := thenG hk br om
 replace hT := Sha.Tabs.grown hT br om om
 refine nt (sr (w_mv ei (w_val (y_bin ei Ev.c (b_quo om)) (w_as ei (nt (sr (w_mv ei (w_val (y_bin Ev.c ei (b_mul om)) (w_mv ei (w_val (y_bin ei ei (b_sub om)) (w_val (y_bin ei Ev.c (b_sub om)) (w_val (v := pt ag 137) (y_off (y_fa (ex (pt ag 0)) (ShaDT.fa139_3 _ _)) ro) (w_val (v := .int .i64 (((m.length % 128) : Nat) : Int)) (y_ld (ex (pt ag 137)) ShaDT.sc3 (ab.val om (ng (ng (ng pz))))) (w_val (y_bin ei ei (b_sub om)) (w_mv ei (w_val (y_bin ei ei (b_rem om)) (w_val (y_bin ei Ev.c (b_add om)) (w_mv ei (w_val (y_bin ei ei (b_add om)) (w_mks (m := ((((239 - (m.length % 128)) % 128) + 1) + 16)) (bytes := 1) (zv := U8 (0#8)) ei ei om om Tryz.underlying55 kr rfl om om ?_))))))))))))))))))))
 intro ai w7 ae aa bo
 have a9 := r_h.nb ae
 have a4 := ab.nb ae
 have bn := gb_ hk.size ae
 clear ae
 replace r_h := r_h.step bo
 replace ab := ab.step bo
 replace hk := thenB hk bo
 replace hT := Sha.Tabs.below hT bo
 refine w_as el (nt (sr (w_mv el (w_val (y_is1z (i := 0) el Ev.c Tryz.underlying55 ShaDT.sz5 om om) (w_st (v := U8 (128#8)) (ex (pt ai 0)) (evc (U8 (128#8))) rfl rfl ShaDT.sz5 aa om ?_)))))
 clear aa; intro w9 aa ax _
 replace r_h := r_h.stepG ax om
 replace ab := ab.stepG ax om
 replace hk := thenG hk ax om
 replace hT := Sha.Tabs.grown hT ax om om
 refine nt (wp_seq (sr (w_mv Ev.c (nt (wp_block ?_)))))
 refine c_loop (fun dN aN wl => ∃ (i : Nat), dN = (8 - i) ∧ ∃ aw, aN = fr 117 aw ∧ (i ≤ 8) ∧ aw 2 = .string (str ([] : List (BitVec 8))) ∧ aw 3 = .int .i64 0 ∧ aw 4 = .int .i64 48 ∧ aw 5 = .int .i64 128 ∧ aw 7 = pt ag 0 ∧ aw 8 = .int .i64 16 ∧ aw 9 = .slice (some ⟨ai, 0, none⟩) ((((239 - (m.length % 128)) % 128) + 1) + 16) ((((239 - (m.length % 128)) % 128) + 1) + 16) ∧ aw 53 = .int .i64 ((i : Nat) : Int) ∧ Row wl h 139 139 (Sha.hrow (.int .i64 384) (Sha.st 384 (gb m) (m.length / 128)) rr (.int .i64 (((m.length % 128) : Nat) : Int)) (U64 (BitVec.ofNat 64 m.length))) ∧ Row wl ag 139 139 (Sha.hrow (.int .i64 384) (Sha.st 384 (gb m) (m.length / 128)) rr (.int .i64 (((m.length % 128) : Nat) : Int)) (U64 (BitVec.ofNat 64 m.length))) ∧ Row wl ai 5 ((((239 - (m.length % 128)) % 128) + 1) + 16) (fun j => if ((((239 - (m.length % 128)) % 128) + 1) + 16) ≤ j + i then (fun j => U8 (gb (Oct.be (BitVec.ofNat 64 (8 * m.length)) 8) (j - (((((239 - (m.length % 128)) % 128) + 1) + 16) - 8)))) j else (fun j => if j = 0 then U8 (128#8) else (fun j => U8 (0#8)) j) j) ∧ Sha.Tabs wl ∧ Below w0.heap.size w0 wl) (8 - 0) ?_ ?_
 · exact ⟨0, rfl, _, rfl, iv, rfl, rfl, rfl, rfl, rfl, rfl, rfl, ti, r_h, ab, (aa.congr (fun j hj => by exact (if_neg om).symm)), hT, hk⟩
 ·skip
  clear r_h ab aa hT hk
  rintro _ _ b9 ⟨i, rfl, aw, rfl, bz, bh, bl, bm, bi, ao, bj, aj, an, r_h, ab, aa, hT, hk⟩
  refine sr (w_val (y_bin (ei an) Ev.c b_lss) (nt (wp_seq ?_)))
  refine c_if (p := ((i : Nat) : Int) < 8) eb (fun hc13 => ?_) (fun hc13 => ?_)
  ·skip
   refine wp_skip (then_n (wp_seq (wp_block (sr (w_mv (ei an) (w_as ei (nt (wp_region_lit (w_mv (el aj) (w_mv (el aj) (w_val (v := .int .i64 ((((((239 - (m.length % 128)) % 128) + 1) + 16) : Nat) : Int)) (y_len_sl el Tryz.underlying55) (w_val (y_bin ei Ev.c (b_sub om)) (w_mv ei (w_val (y_bin ei ei (b_sub om)) (w_val (v := pt ag 138) (y_off (y_fa (ex (pt ag 0) ao) (ShaDT.fa139_4 _ _)) ro) (w_val (v := U64 (BitVec.ofNat 64 m.length)) (y_ld (ex (pt ag 138)) ShaDT.sc92 (ab.val om (ng (ng (ng (ng dv)))))) (w_val (y_bin e6 (evc (.int .u64 3)) (shl64 (c := 3) rfl)) (w_mv ei (w_val (y_bin Ev.c ei (b_mul om)) (w_val (y_bin e6 ei (shr64 (c := (8 * i)) om)) (w_val (y_u64_u8 e6 ShaDT.so92 Tryz.underlying5) (w_val (y_is1z (i := ((((((239 - (m.length % 128)) % 128) + 1) + 16) - 1) - i)) el ei Tryz.underlying55 ShaDT.sz5 om om) (w_st (v := U8 ((((BitVec.ofNat 64 m.length) <<< 3) >>> (8 * i)).setWidth 8)) (ex (pt ai ((((((239 - (m.length % 128)) % 128) + 1) + 16) - 1) - i))) e8 rfl rfl ShaDT.sz5 aa om ?_)))))))))))))))))))))))
   clear aa; intro ce aa a2 _
   replace r_h := r_h.stepG a2 om
   replace ab := ab.stepG a2 om
   replace hk := thenG hk a2 om
   replace hT := Sha.Tabs.grown hT a2 om om
   refine wpList_nil (inb_n (then_n (wp_region_lit (w_val (y_bin (ei an) Ev.c (b_add om)) (w_mv ei (wpList_nil ?_))))))
   exact then_n ⟨_, om, i + 1, rfl, _, rfl, iv, bh, bl, bm, bi, ao, bj, aj, ti, r_h, ab, (aa.congr (fun j hj => by (try dsimp only); by_cases e : j = ((((239 - (m.length % 128)) % 128) + 1) + 16) - 1 - i; (rw [if_pos e, if_pos om, Sha.len_byte _ _ om]; exact congrArg U8 (congrArg (gb _) om)); (rw [if_neg e]; by_cases e2 : ((((239 - (m.length % 128)) % 128) + 1) + 16) ≤ j + i; (rw [if_pos e2]; exact (if_pos om).symm); (rw [if_neg e2]; exact (if_neg om).symm)))), hT, hk⟩
  ·skip
   refine wp_exit (then_x (then_x (inb_x (then_n (wp_seq (sr (w_mv (ei bj) (w_val (y_bin ei Ev.c b_eql) (nt (c_tt eb (wp_region_lit (w_mv (el aj) (w_mv (el aj) (w_val (v := .int .i64 ((((((239 - (m.length % 128)) % 128) + 1) + 16) : Nat) : Int)) (y_len_sl el Tryz.underlying55) (w_val (y_bin ei Ev.c (b_sub om)) (w_val (v := pt ag 138) (y_off (y_fa (ex (pt ag 0) ao) (ShaDT.fa139_4 _ _)) ro) (w_val (v := U64 (BitVec.ofNat 64 m.length)) (y_ld (ex (pt ag 138)) ShaDT.sc92 (ab.val om (ng (ng (ng (ng dv)))))) (w_val (y_bin e6 (evc (.int .u64 61)) (shr64 (c := 61) rfl)) (w_val (y_u64_u8 e6 ShaDT.so92 Tryz.underlying5) (w_val (y_is1z (i := (((((239 - (m.length % 128)) % 128) + 1) + 16) - 9)) el ei Tryz.underlying55 ShaDT.sz5 om om) (w_st (v := U8 (((BitVec.ofNat 64 m.length) >>> 61).setWidth 8)) (ex (pt ai (((((239 - (m.length % 128)) % 128) + 1) + 16) - 9))) e8 rfl rfl ShaDT.sz5 aa om ?_)))))))))))))))))))))
   clear aa; intro b2 aa az _
   replace r_h := r_h.stepG az om
   replace ab := ab.stepG az om
   replace hk := thenG hk az om
   replace hT := Sha.Tabs.grown hT az om om
   refine nt (wp_seq ?_)
   replace aa := aa.congr (g := fun j => U8 (gb (Sha.pad 384 m.length) j)) (fun j hj => by rw [show i = 8 from by omega]; exact Sha.pad_row2 384 m.length _ j _ (Sha.top_byte _ om) om om hj)
   refine wp_region_lit (w_mv (el aj) (w_val (y_str (l := Sha.pad 384 m.length) el (by first | rfl | assumption | (simp; omega) | omega) Tryz.underlying55 Tryz.underlying5 Tryz.underlying9 (fun j hj => by rw [Nat.zero_add]; exact (aa.cell om))) ?_))
   have b0 := ab
   clear ab
   refine w_call (Tryz.func61) kr rfl (m2 (ex (pt ag 0) ao) es) (put_384 ag om m (Sha.pad 384 m.length) om rr (BitVec.ofNat 64 m.length) hr b2 b0 hT) ?_
   rintro _ b7 ⟨rfl, bw, cd, ab, bp⟩
   refine ⟨_, rfl, ?_⟩
   replace r_h := r_h.stepG bp om
   replace aa := aa.stepG bp om
   replace hk := thenG hk bp om
   replace hT := Sha.Tabs.grown hT bp om om
   refine nt (wp_seq ?_)
   replace ab := ab.congr (g := Sha.hrow (.int .i64 384) (Sha.st 384 (gb (Sha.full 384 m)) (Sha.nb 384 m)) bw (.int .i64 ((((m.length + (Sha.pad 384 m.length).length) % 128) : Nat) : Int)) (U64 (BitVec.ofNat 64 m.length))) (fun j hj => Sha.hrow_congr _ _ _ _ _ _ _ j (fun i _ => by rw [Sha.length_pad]; rfl) (fun _ _ => rfl))
   refine wp_region_lit (w_alloc (m := 64) (F := fun j => U8 (0#8)) kr ?_)
   intro af ca ad ac am
   have a7 := r_h.nb ad
   have a1 := ab.nb ad
   have av := aa.nb ad
   have bk := gb_ hk.size ad
   clear ad
   replace r_h := r_h.step am
   replace ab := ab.step am
   replace aa := aa.step am
   replace hk := thenB hk am
   replace hT := Sha.Tabs.below hT am
   refine nt (wp_seq (sr (w_mv Ev.c (nt (wp_block ?_)))))
   refine c_loop (fun dN aN wl => ∃ (a : Nat), dN = (8 - a) ∧ ∃ ay, aN = fr 117 ay ∧ (a ≤ 8) ∧ ay 2 = .string (str ([] : List (BitVec 8))) ∧ ay 3 = .int .i64 0 ∧ ay 4 = .int .i64 48 ∧ ay 5 = .int .i64 128 ∧ ay 7 = pt ag 0 ∧ ay 11 = pt af 0 ∧ ay 85 = .int .i64 ((a : Nat) : Int) ∧ Row wl h 139 139 (Sha.hrow (.int .i64 384) (Sha.st 384 (gb m) (m.length / 128)) rr (.int .i64 (((m.length % 128) : Nat) : Int)) (U64 (BitVec.ofNat 64 m.length))) ∧ Row wl ag 139 139 (Sha.hrow (.int .i64 384) (Sha.st 384 (gb (Sha.full 384 m)) (Sha.nb 384 m)) bw (.int .i64 ((((m.length + (Sha.pad 384 m.length).length) % 128) : Nat) : Int)) (U64 (BitVec.ofNat 64 m.length))) ∧ Row wl ai 5 ((((239 - (m.length % 128)) % 128) + 1) + 16) (fun j => U8 (gb (Sha.pad 384 m.length) j)) ∧ Row wl af 141 64 (fun j => if j < (8 * a) then (fun j => U8 ((Sha.st 384 (gb (Sha.full 384 m)) (Sha.nb 384 m) (j / 8) >>> (8 * (7 - j % 8))).setWidth 8)) j else (fun j => U8 (0#8)) j) ∧ Sha.Tabs wl ∧ Below w0.heap.size w0 wl) (8 - 0) ?_ ?_
   · exact ⟨0, rfl, _, rfl, iv, bh, bl, bm, bi, ao, rfl, ti, r_h, ab, aa, (ac.congr (fun j hj => by exact (if_neg om).symm)), hT, hk⟩
   ·skip
    clear r_h ab aa ac hT hk
    rintro _ _ b8 ⟨a, rfl, ay, rfl, b4, bx, bu, bf, bc, bs, a3, au, r_h, ab, aa, ac, hT, hk⟩
    refine sr (w_val (y_bin (ei au) Ev.c b_lss) (nt (wp_seq ?_)))
    refine c_if (p := ((a : Nat) : Int) < 8) eb (fun hc23 => ?_) (fun hc23 => ?_)
    ·skip
     refine wp_skip (then_n (wp_seq (wp_block (sr (w_mv (ei au) (w_as ei (nt (sr (w_mv (ei bc) (w_val (y_bin ei Ev.c (b_quo om)) (w_mv Ev.c (nt (wp_block ?_)))))))))))))
     refine c_loop (fun dN aN wl => ∃ (b : Nat), dN = (8 - b) ∧ ∃ ak, aN = fr 117 ak ∧ (b ≤ 8) ∧ ak 2 = .string (str ([] : List (BitVec 8))) ∧ ak 3 = .int .i64 0 ∧ ak 4 = .int .i64 48 ∧ ak 5 = .int .i64 128 ∧ ak 7 = pt ag 0 ∧ ak 11 = pt af 0 ∧ ak 12 = .int .i64 ((a : Nat) : Int) ∧ ak 85 = .int .i64 ((a : Nat) : Int) ∧ ak 89 = .int .i64 8 ∧ ak 90 = .int .i64 ((b : Nat) : Int) ∧ Row wl h 139 139 (Sha.hrow (.int .i64 384) (Sha.st 384 (gb m) (m.length / 128)) rr (.int .i64 (((m.length % 128) : Nat) : Int)) (U64 (BitVec.ofNat 64 m.length))) ∧ Row wl ag 139 139 (Sha.hrow (.int .i64 384) (Sha.st 384 (gb (Sha.full 384 m)) (Sha.nb 384 m)) bw (.int .i64 ((((m.length + (Sha.pad 384 m.length).length) % 128) : Nat) : Int)) (U64 (BitVec.ofNat 64 m.length))) ∧ Row wl ai 5 ((((239 - (m.length % 128)) % 128) + 1) + 16) (fun j => U8 (gb (Sha.pad 384 m.length) j)) ∧ Row wl af 141 64 (fun j => if j < ((a * 8) + b) then (fun j => U8 ((Sha.st 384 (gb (Sha.full 384 m)) (Sha.nb 384 m) (j / 8) >>> (8 * (7 - j % 8))).setWidth 8)) j else (fun j => U8 (0#8)) j) ∧ Sha.Tabs wl ∧ Below w0.heap.size w0 wl) (8 - 0) ?_ ?_
     · exact ⟨0, rfl, _, rfl, iv, bx, bu, bf, bc, bs, a3, rfl, au, rfl, ti, r_h, ab, aa, (ac.congr (fun j hj => by (try dsimp only); by_cases e : j < 8 * a; (rw [if_pos e, if_pos om]); (rw [if_neg e, if_neg om]))), hT, hk⟩
     ·skip
      clear r_h ab aa ac hT hk
      rintro _ _ cc ⟨b, rfl, ak, rfl, b3, bb, bg, bd, a0, a8, ap, al, a6, a5, aq, r_h, ab, aa, ac, hT, hk⟩
      refine sr (w_val (y_bin (ei aq) (ei a5) b_lss) (nt (wp_seq ?_)))
      refine c_if (p := ((b : Nat) : Int) < 8) eb (fun hc26 => ?_) (fun hc26 => ?_)
      ·skip
       refine wp_skip (then_n (wp_seq (wp_block (sr (w_mv (ei aq) (w_as ei (nt (wp_region_lit (w_mv (ei al) (w_mv (ei a0) (w_val (y_bin ei Ev.c (b_quo om)) (w_val (y_bin ei ei (b_mul om)) (w_mv ei (w_val (y_bin ei ei (b_add om)) (w_mv (ei al) (w_val (v := pt ag 1) (y_off (y_fa (ex (pt ag 0) a8) (ShaDT.fa139_1 _ _)) ro) (w_val (v := pt ag (1 + a)) (y_off (y_ia1 (i := a) (ex (pt ag 1)) ei Tryz.underlying93 ShaDT.sz92 om om) ro) (w_val (v := U64 ((Sha.st 384 (gb (Sha.full 384 m)) (Sha.nb 384 m)) a)) (y_ld (ex (pt ag (1 + a))) ShaDT.sc92 (ab.val om (ng pz))) (w_mv (ei a0) (w_val (y_bin ei Ev.c (b_quo om)) (w_val (y_bin ei Ev.c (b_sub om)) (w_mv ei (w_val (y_bin ei ei (b_sub om)) (w_val (y_bin Ev.c ei (b_mul om)) (w_val (y_bin e6 ei (shr64 (c := (8 * (7 - b))) om)) (w_val (y_u64_u8 e6 ShaDT.so92 Tryz.underlying5) (w_val (y_ia1z (i := ((a * 8) + b)) (ex (pt af 0) ap) ei Tryz.underlying141 ShaDT.sz5 om om) (w_st (v := U8 ((((Sha.st 384 (gb (Sha.full 384 m)) (Sha.nb 384 m)) a) >>> (8 * (7 - b))).setWidth 8)) (ex (pt af ((a * 8) + b))) e8 rfl rfl ShaDT.sz5 ac om ?_))))))))))))))))))))))))))))
       clear ac; intro cf ac ar _
       replace r_h := r_h.stepG ar om
       replace ab := ab.stepG ar om
       replace aa := aa.stepG ar om
       replace hk := thenG hk ar om
       replace hT := Sha.Tabs.grown hT ar om om
       refine wpList_nil (inb_n (then_n (wp_region_lit (w_val (y_bin (ei aq) Ev.c (b_add om)) (w_mv ei (wpList_nil ?_))))))
       exact then_n ⟨_, om, b + 1, rfl, _, rfl, iv, bb, bg, bd, a0, a8, ap, al, a6, a5, ti, r_h, ab, aa, (ac.congr (fun j hj => by (try dsimp only); by_cases e : j = a * 8 + b; (rw [if_pos e, if_pos om, e, show (a * 8 + b) / 8 = a from by omega, show (a * 8 + b) % 8 = b from by omega]); (rw [if_neg e]; by_cases e2 : j < a * 8 + b; (rw [if_pos e2, if_pos om]); (rw [if_neg e2, if_neg om])))), hT, hk⟩
      ·skip
       refine wp_exit (then_x (then_x (inb_x (inb_n (then_n (wp_region_lit (w_val (y_bin (ei a6) Ev.c (b_add om)) (w_mv ei (wpList_nil ?_)))))))))
       exact then_n ⟨_, om, a + 1, rfl, _, rfl, iv, bb, bg, bd, a0, a8, ap, ti, r_h, ab, aa, (ac.congr (fun j hj => by (try dsimp only); by_cases e : j < a * 8 + b; (rw [if_pos e, if_pos om]); (rw [if_neg e, if_neg om]))), hT, hk⟩
    ·skip
     refine wp_exit (then_x (then_x (inb_x (then_n (sr (w_mv (ei bf) (w_val (v := .slice (some ⟨af, 0, none⟩) 48 64) (y_sloff (y_slp (ex (pt af 0) a3) evo.no (evo.s ei) Tryz.underlying141 ShaDT.sz5 (bnd_h (h := 48) om om) om) ro rfl) (w_val (y_str (l := Sha.sum 384 m) el (by rw [Sha.length_sum]; rfl) Tryz.underlying55 Tryz.underlying5 Tryz.underlying9 (fun j hj => (ac.val om (by rw [Sha.gb_sum _ _ _ (show j < Sha.ol 384 from hj), Nat.zero_add]; exact if_pos om)))) (w_as es (w_as Ev.c (nt (wp_ret (fin_ret2 rfl es ei ?_)))))))))))))
     exact ⟨rfl, hk⟩

theorem write_512 (h : Nat) (h1 : 0 < h ∧ 1 < h) (m : List (BitVec 8)) (s : List (BitVec 8)) (hs : s.length ≤ 140737488351232) (rr : Nat → BitVec 8) (hr : ∀ j, j < m.length % 128 → rr j = gb m (128 * (m.length / 128) + j)) (w0 : World) (r_h : Row w0 h 139 139 (Sha.hrow (.int .i64 512) (Sha.st 512 (gb m) (m.length / 128)) rr (.int .i64 (((m.length % 128) : Nat) : Int)) (U64 (BitVec.ofNat 64 m.length)))) (hT : Sha.Tabs w0) : Calls Tryz.prog 51 #[pt h 0, .string (str s)] w0 fun e w' => e = .returned (.int .i64 0) ∧ Sha.At w' h 512 (m ++ s) ∧ w0.grownBy w' (some h) := by
 have ag := hT.lt
 refine enter (n := 27) Tryz.func51 rfl rfl rfl ?_
 have hk : w0.grownBy w0 (some h) := grown_refl _ _
 have ae := r_h.lt
 refine sr (w_as Ev.c (nt (wp_seq (sr (w_mv (ex (pt h 0)) (w_val (y_bin (ex (pt h 0)) Ev.c (b_eqp Tryz.underlying124)) (w_mv eb (w_val_g (v := pt h 0) (wy rfl rfl eb) (y_mv (ex (pt h 0))) (w_val_g (wy rfl rfl eb) (y_nc (ex (pt h 0))) (w_val_g (v := pt h 0) (wy rfl rfl eb) (y_off (y_fa (ex (pt h 0)) (ShaDT.fa139_0 _ _)) ro) (w_val_g (v := .int .i64 512) (wy rfl rfl eb) (y_ld (ex (pt h 0)) ShaDT.sc3 (r_h.val om pz)) (w_val_g (wy rfl rfl eb) (y_bin ei Ev.c b_eql) (w_val (y_pick_f eb eb) (nt (c_ff eb (wp_skip (then_n (sr (w_mv (ex (pt h 0)) (w_val (y_nc (ex (pt h 0))) (w_val (v := pt h 138) (y_off (y_fa (ex (pt h 0)) (ShaDT.fa139_4 _ _)) ro) (w_val (v := U64 (BitVec.ofNat 64 m.length)) (y_ld (ex (pt h 138)) ShaDT.sc92 (r_h.val om (ng (ng (ng (ng dv)))))) (w_mv es (w_val (y_len es Tryz.underlying9) (w_val (y_nat_u64 (p := s.length) ei om ShaDT.so3 Tryz.underlying92) (w_val (y_bin e6 e6 add64) (w_val (y_nc (ex (pt h 0))) (w_val (v := pt h 138) (y_off (y_fa (ex (pt h 0)) (ShaDT.fa139_4 _ _)) ro) (w_st (v := U64 ((BitVec.ofNat 64 m.length) + (BitVec.ofNat 64 s.length))) (ex (pt h 138)) e6 rfl rfl ShaDT.sz92 r_h om ?_)))))))))))))))))))))))))))))
 clear r_h; intro w1 r_h ab _
 replace hk := grown_thenG hk ab om
 replace hT := Sha.Tabs.grown hT ab om om
 refine nt (sr (w_mv (ex (pt h 0)) (w_mv es ?_)))
 replace r_h := r_h.congr (g := Sha.hrow (.int .i64 512) (Sha.st 512 (gb m) (m.length / 128)) rr (.int .i64 (((m.length % 128) : Nat) : Int)) (U64 ((BitVec.ofNat 64 m.length) + (BitVec.ofNat 64 s.length)))) (fun j hj => Sha.all_row _ _ _ _ _ _ j hj)
 have af := r_h
 clear r_h
 refine w_call (Tryz.func61) kr rfl (m2 (ex (pt h 0)) es) (put_512 h om m s om rr ((BitVec.ofNat 64 m.length) + (BitVec.ofNat 64 s.length)) hr w1 af hT) ?_
 rintro _ w3 ⟨rfl, ac, ad, r_h, aa⟩
 refine ⟨_, rfl, ?_⟩
 replace hk := grown_thenG hk aa om
 replace hT := Sha.Tabs.grown hT aa om om
 refine nt (sr (w_as Ev.c (nt (wp_ret (fin_ret1 rfl ei ?_)))))
 exact ⟨rfl, Sha.At.of 512 128 (m.length + s.length) rfl (m ++ s) List.length_append ac ad (by rw [BitVec.ofNat_add]; exact r_h), hk⟩

theorem copy_512 (h : Nat) (h1 : 0 < h ∧ 1 < h) (m : List (BitVec 8)) (rr : Nat → BitVec 8) (hr : ∀ j, j < m.length % 128 → rr j = gb m (128 * (m.length / 128) + j)) (w0 : World) (r_h : Row w0 h 139 139 (Sha.hrow (.int .i64 512) (Sha.st 512 (gb m) (m.length / 128)) rr (.int .i64 (((m.length % 128) : Nat) : Int)) (U64 (BitVec.ofNat 64 m.length)))) : Calls Tryz.prog 52 #[pt h 0] w0 fun e w' => ∃ p, e = .returned (.pointer (some ⟨p, 0, none⟩)) ∧ w0.heap.size ≤ p ∧ Sha.At w' p 512 m ∧ Below w0.heap.size w0 w' := by
 refine enter (n := 16) Tryz.func52 rfl rfl rfl ?_
 have hk : Below w0.heap.size w0 w0 := Below.refl _ _
 have ah := r_h.lt
 refine sr (w_as Ev.c (nt (wp_seq (sr (w_mv (ex (pt h 0)) (w_val (y_bin (ex (pt h 0)) Ev.c (b_eqp Tryz.underlying124)) (w_mv eb (w_val_g (v := pt h 0) (wy rfl rfl eb) (y_mv (ex (pt h 0))) (w_val_g (wy rfl rfl eb) (y_nc (ex (pt h 0))) (w_val_g (v := pt h 0) (wy rfl rfl eb) (y_off (y_fa (ex (pt h 0)) (ShaDT.fa139_0 _ _)) ro) (w_val_g (v := .int .i64 512) (wy rfl rfl eb) (y_ld (ex (pt h 0)) ShaDT.sc3 (r_h.val om pz)) (w_val_g (wy rfl rfl eb) (y_bin ei Ev.c b_eql) (w_val (y_pick_f eb eb) (nt (c_ff eb (wp_skip (then_n (sr (w_mv (ex (pt h 0)) (w_val (y_nc (ex (pt h 0))) (w_val (v := .agg (arr 139 (Sha.hrow (.int .i64 512) (Sha.st 512 (gb m) (m.length / 128)) rr (.int .i64 (((m.length % 128) : Nat) : Int)) (U64 (BitVec.ofNat 64 m.length))))) (y_lda (ex (pt h 0)) ShaDT.ag139 ShaDT.sz139 (fun j hj => by rw [Nat.zero_add]; exact (r_h.cell om))) (w_alloc (m := 139) (F := fun j => if j < 1 then .int .i64 0 else if j < 9 then U64 (0#64) else if j < 137 then U8 (0#8) else if j < 138 then .int .i64 0 else U64 (0#64)) kr ?_))))))))))))))))))))))
 intro ae w1 ab aa ag
 have ad := r_h.nb ab
 have ac := gb_ hk.size ab
 clear ab
 replace r_h := r_h.step ag
 replace hk := thenB hk ag
 refine w_sta (k := 139) (G := Sha.hrow (.int .i64 512) (Sha.st 512 (gb m) (m.length / 128)) rr (.int .i64 (((m.length % 128) : Nat) : Int)) (U64 (BitVec.ofNat 64 m.length))) (ex (pt ae 0)) ea (fun j _ => by exact hrow_one _ _ _ _ _ j rfl rfl rfl) ShaDT.sz139 aa om ?_
 clear aa; intro w3 aa af _
 replace aa := aa.congr (g := Sha.hrow (.int .i64 512) (Sha.st 512 (gb m) (m.length / 128)) rr (.int .i64 (((m.length % 128) : Nat) : Int)) (U64 (BitVec.ofNat 64 m.length))) (fun j hj => by rw [if_pos ⟨Nat.zero_le _, by omega⟩]; first | rfl | (simp only [Nat.sub_zero]))
 replace r_h := r_h.stepG af om
 replace hk := thenG hk af om
 refine nt (sr (w_as (ex (pt ae 0)) (nt (wp_ret (fin_ret1 rfl (ex (pt ae 0)) ?_)))))
 exact ⟨ae, rfl, ac, Sha.At.of 512 128 m.length rfl m rfl rr hr aa, hk⟩

theorem sum_512 (h : Nat) (h1 : 0 < h ∧ 1 < h) (m : List (BitVec 8)) (hm : m.length ≤ 1152921504606846976) (rr : Nat → BitVec 8) (hr : ∀ j, j < m.length % 128 → rr j = gb m (128 * (m.length / 128) + j)) (w0 : World) (r_h : Row w0 h 139 139 (Sha.hrow (.int .i64 512) (Sha.st 512 (gb m) (m.length / 128)) rr (.int .i64 (((m.length % 128) : Nat) : Int)) (U64 (BitVec.ofNat 64 m.length)))) (hT : Sha.Tabs w0) : Calls Tryz.prog 53 #[pt h 0] w0 fun e w' => e = .returned (.tuple #[.string (str (Sha.sum 512 m)), .int .i64 0]) ∧ Below w0.heap.size w0 w' := by
 have cb := hT.lt
 have b1 : Sha.padl 512 m.length = ((((239 - (m.length % 128)) % 128) + 1) + 16) := by rw [Sha.padl_eq 512 128 _ rfl]
 have b6 : (Sha.pad 512 m.length).length = ((((239 - (m.length % 128)) % 128) + 1) + 16) := by rw [Sha.length_pad, b1]
 refine enter (n := 117) Tryz.func53 rfl rfl rfl ?_
 have hk : Below w0.heap.size w0 w0 := Below.refl _ _
 have b5 := r_h.lt
 refine sr (w_as (evc (.string (str ([] : List (BitVec 8))))) (w_as Ev.c (nt (wp_seq (sr (w_mv (ex (pt h 0)) (w_val (y_bin (ex (pt h 0)) Ev.c (b_eqp Tryz.underlying124)) (w_mv eb (w_val_g (v := pt h 0) (wy rfl rfl eb) (y_mv (ex (pt h 0))) (w_val_g (wy rfl rfl eb) (y_nc (ex (pt h 0))) (w_val_g (v := pt h 0) (wy rfl rfl eb) (y_off (y_fa (ex (pt h 0)) (ShaDT.fa139_0 _ _)) ro) (w_val_g (v := .int .i64 512) (wy rfl rfl eb) (y_ld (ex (pt h 0)) ShaDT.sc3 (r_h.val om pz)) (w_val_g (wy rfl rfl eb) (y_bin ei Ev.c b_eql) (w_val (y_pick_f eb eb) (nt (c_ff eb (wp_skip (then_n (sr (w_mv (ex (pt h 0)) (w_val (y_nc (ex (pt h 0))) (w_val (v := pt h 0) (y_off (y_fa (ex (pt h 0)) (ShaDT.fa139_0 _ _)) ro) (w_val (v := .int .i64 512) (y_ld (ex (pt h 0)) ShaDT.sc3 (r_h.val om pz)) (w_call (Tryz.func48) kr rfl (m1 ei) (shaSize_512  w0) ?_))))))))))))))))))))))))
 rintro _ w1 ⟨rfl, bq⟩
 refine ⟨_, rfl, ?_⟩
 replace r_h := r_h.step bq
 replace hk := thenB hk bq
 replace hT := Sha.Tabs.below hT bq
 refine w_mv (ex (.tuple #[.int .i64 64, .int .i64 128, .int .i64 0])) (w_val ye (w_val ye (w_val ye (w_as ei (w_as ei (w_as ei (nt (sr (w_mv (ex (pt h 0)) (w_val (y_nc (ex (pt h 0))) (w_val (v := .agg (arr 139 (Sha.hrow (.int .i64 512) (Sha.st 512 (gb m) (m.length / 128)) rr (.int .i64 (((m.length % 128) : Nat) : Int)) (U64 (BitVec.ofNat 64 m.length))))) (y_lda (ex (pt h 0)) ShaDT.ag139 ShaDT.sz139 (fun j hj => by rw [Nat.zero_add]; exact (r_h.cell om))) (w_alloc (m := 139) (F := fun j => if j < 1 then .int .i64 0 else if j < 9 then U64 (0#64) else if j < 137 then U8 (0#8) else if j < 138 then .int .i64 0 else U64 (0#64)) kr ?_))))))))))))
 intro ag w3 ah ab bt
 have ba := r_h.nb ah
 have bv := gb_ hk.size ah
 clear ah
 replace r_h := r_h.step bt
 replace hk := thenB hk bt
 replace hT := Sha.Tabs.below hT bt
 refine w_sta (k := 139) (G := Sha.hrow (.int .i64 512) (Sha.st 512 (gb m) (m.length / 128)) rr (.int .i64 (((m.length % 128) : Nat) : Int)) (U64 (BitVec.ofNat 64 m.length))) (ex (pt ag 0)) ea (fun j _ => by exact hrow_one _ _ _ _ _ j rfl rfl rfl) ShaDT.sz139 ab om ?_
 clear ab; intro w5 ab br _
 replace ab := ab.congr (g := Sha.hrow (.int .i64 512) (Sha.st 512 (gb m) (m.length / 128)) rr (.int .i64 (((m.length % 128) : Nat) : Int)) (U64 (BitVec.ofNat 64 m.length))) (fun j hj => by rw [if_pos ⟨Nat.zero_le _, by omega⟩]; first | rfl | (simp only [Nat.sub_zero]))
 replace r_h := r_h.stepG br om
 replace hk := thenG hk br om
 replace hT := Sha.Tabs.grown hT br om om
 refine nt (sr (w_mv ei (w_val (y_bin ei Ev.c (b_quo om)) (w_as ei (nt (sr (w_mv ei (w_val (y_bin Ev.c ei (b_mul om)) (w_mv ei (w_val (y_bin ei ei (b_sub om)) (w_val (y_bin ei Ev.c (b_sub om)) (w_val (v := pt ag 137) (y_off (y_fa (ex (pt ag 0)) (ShaDT.fa139_3 _ _)) ro) (w_val (v := .int .i64 (((m.length % 128) : Nat) : Int)) (y_ld (ex (pt ag 137)) ShaDT.sc3 (ab.val om (ng (ng (ng pz))))) (w_val (y_bin ei ei (b_sub om)) (w_mv ei (w_val (y_bin ei ei (b_rem om)) (w_val (y_bin ei Ev.c (b_add om)) (w_mv ei (w_val (y_bin ei ei (b_add om)) (w_mks (m := ((((239 - (m.length % 128)) % 128) + 1) + 16)) (bytes := 1) (zv := U8 (0#8)) ei ei om om Tryz.underlying55 kr rfl om om ?_))))))))))))))))))))
 intro ai w7 ae aa bo
 have a9 := r_h.nb ae
 have a4 := ab.nb ae
 have bn := gb_ hk.size ae
 clear ae
 replace r_h := r_h.step bo
 replace ab := ab.step bo
 replace hk := thenB hk bo
 replace hT := Sha.Tabs.below hT bo
 refine w_as el (nt (sr (w_mv el (w_val (y_is1z (i := 0) el Ev.c Tryz.underlying55 ShaDT.sz5 om om) (w_st (v := U8 (128#8)) (ex (pt ai 0)) (evc (U8 (128#8))) rfl rfl ShaDT.sz5 aa om ?_)))))
 clear aa; intro w9 aa ax _
 replace r_h := r_h.stepG ax om
 replace ab := ab.stepG ax om
 replace hk := thenG hk ax om
 replace hT := Sha.Tabs.grown hT ax om om
 refine nt (wp_seq (sr (w_mv Ev.c (nt (wp_block ?_)))))
 refine c_loop (fun dN aN wl => ∃ (i : Nat), dN = (8 - i) ∧ ∃ aw, aN = fr 117 aw ∧ (i ≤ 8) ∧ aw 2 = .string (str ([] : List (BitVec 8))) ∧ aw 3 = .int .i64 0 ∧ aw 4 = .int .i64 64 ∧ aw 5 = .int .i64 128 ∧ aw 7 = pt ag 0 ∧ aw 8 = .int .i64 16 ∧ aw 9 = .slice (some ⟨ai, 0, none⟩) ((((239 - (m.length % 128)) % 128) + 1) + 16) ((((239 - (m.length % 128)) % 128) + 1) + 16) ∧ aw 53 = .int .i64 ((i : Nat) : Int) ∧ Row wl h 139 139 (Sha.hrow (.int .i64 512) (Sha.st 512 (gb m) (m.length / 128)) rr (.int .i64 (((m.length % 128) : Nat) : Int)) (U64 (BitVec.ofNat 64 m.length))) ∧ Row wl ag 139 139 (Sha.hrow (.int .i64 512) (Sha.st 512 (gb m) (m.length / 128)) rr (.int .i64 (((m.length % 128) : Nat) : Int)) (U64 (BitVec.ofNat 64 m.length))) ∧ Row wl ai 5 ((((239 - (m.length % 128)) % 128) + 1) + 16) (fun j => if ((((239 - (m.length % 128)) % 128) + 1) + 16) ≤ j + i then (fun j => U8 (gb (Oct.be (BitVec.ofNat 64 (8 * m.length)) 8) (j - (((((239 - (m.length % 128)) % 128) + 1) + 16) - 8)))) j else (fun j => if j = 0 then U8 (128#8) else (fun j => U8 (0#8)) j) j) ∧ Sha.Tabs wl ∧ Below w0.heap.size w0 wl) (8 - 0) ?_ ?_
 · exact ⟨0, rfl, _, rfl, iv, rfl, rfl, rfl, rfl, rfl, rfl, rfl, ti, r_h, ab, (aa.congr (fun j hj => by exact (if_neg om).symm)), hT, hk⟩
 ·skip
  clear r_h ab aa hT hk
  rintro _ _ b9 ⟨i, rfl, aw, rfl, bz, bh, bl, bm, bi, ao, bj, aj, an, r_h, ab, aa, hT, hk⟩
  refine sr (w_val (y_bin (ei an) Ev.c b_lss) (nt (wp_seq ?_)))
  refine c_if (p := ((i : Nat) : Int) < 8) eb (fun hc13 => ?_) (fun hc13 => ?_)
  ·skip
   refine wp_skip (then_n (wp_seq (wp_block (sr (w_mv (ei an) (w_as ei (nt (wp_region_lit (w_mv (el aj) (w_mv (el aj) (w_val (v := .int .i64 ((((((239 - (m.length % 128)) % 128) + 1) + 16) : Nat) : Int)) (y_len_sl el Tryz.underlying55) (w_val (y_bin ei Ev.c (b_sub om)) (w_mv ei (w_val (y_bin ei ei (b_sub om)) (w_val (v := pt ag 138) (y_off (y_fa (ex (pt ag 0) ao) (ShaDT.fa139_4 _ _)) ro) (w_val (v := U64 (BitVec.ofNat 64 m.length)) (y_ld (ex (pt ag 138)) ShaDT.sc92 (ab.val om (ng (ng (ng (ng dv)))))) (w_val (y_bin e6 (evc (.int .u64 3)) (shl64 (c := 3) rfl)) (w_mv ei (w_val (y_bin Ev.c ei (b_mul om)) (w_val (y_bin e6 ei (shr64 (c := (8 * i)) om)) (w_val (y_u64_u8 e6 ShaDT.so92 Tryz.underlying5) (w_val (y_is1z (i := ((((((239 - (m.length % 128)) % 128) + 1) + 16) - 1) - i)) el ei Tryz.underlying55 ShaDT.sz5 om om) (w_st (v := U8 ((((BitVec.ofNat 64 m.length) <<< 3) >>> (8 * i)).setWidth 8)) (ex (pt ai ((((((239 - (m.length % 128)) % 128) + 1) + 16) - 1) - i))) e8 rfl rfl ShaDT.sz5 aa om ?_)))))))))))))))))))))))
   clear aa; intro ce aa a2 _
   replace r_h := r_h.stepG a2 om
   replace ab := ab.stepG a2 om
   replace hk := thenG hk a2 om
   replace hT := Sha.Tabs.grown hT a2 om om
   refine wpList_nil (inb_n (then_n (wp_region_lit (w_val (y_bin (ei an) Ev.c (b_add om)) (w_mv ei (wpList_nil ?_))))))
   exact then_n ⟨_, om, i + 1, rfl, _, rfl, iv, bh, bl, bm, bi, ao, bj, aj, ti, r_h, ab, (aa.congr (fun j hj => by (try dsimp only); by_cases e : j = ((((239 - (m.length % 128)) % 128) + 1) + 16) - 1 - i; (rw [if_pos e, if_pos om, Sha.len_byte _ _ om]; exact congrArg U8 (congrArg (gb _) om)); (rw [if_neg e]; by_cases e2 : ((((239 - (m.length % 128)) % 128) + 1) + 16) ≤ j + i; (rw [if_pos e2]; exact (if_pos om).symm); (rw [if_neg e2]; exact (if_neg om).symm)))), hT, hk⟩
  ·skip
   refine wp_exit (then_x (then_x (inb_x (then_n (wp_seq (sr (w_mv (ei bj) (w_val (y_bin ei Ev.c b_eql) (nt (c_tt eb (wp_region_lit (w_mv (el aj) (w_mv (el aj) (w_val (v := .int .i64 ((((((239 - (m.length % 128)) % 128) + 1) + 16) : Nat) : Int)) (y_len_sl el Tryz.underlying55) (w_val (y_bin ei Ev.c (b_sub om)) (w_val (v := pt ag 138) (y_off (y_fa (ex (pt ag 0) ao) (ShaDT.fa139_4 _ _)) ro) (w_val (v := U64 (BitVec.ofNat 64 m.length)) (y_ld (ex (pt ag 138)) ShaDT.sc92 (ab.val om (ng (ng (ng (ng dv)))))) (w_val (y_bin e6 (evc (.int .u64 61)) (shr64 (c := 61) rfl)) (w_val (y_u64_u8 e6 ShaDT.so92 Tryz.underlying5) (w_val (y_is1z (i := (((((239 - (m.length % 128)) % 128) + 1) + 16) - 9)) el ei Tryz.underlying55 ShaDT.sz5 om om) (w_st (v := U8 (((BitVec.ofNat 64 m.length) >>> 61).setWidth 8)) (ex (pt ai (((((239 - (m.length % 128)) % 128) + 1) + 16) - 9))) e8 rfl rfl ShaDT.sz5 aa om ?_)))))))))))))))))))))
   clear aa; intro b2 aa az _
   replace r_h := r_h.stepG az om
   replace ab := ab.stepG az om
   replace hk := thenG hk az om
   replace hT := Sha.Tabs.grown hT az om om
   refine nt (wp_seq ?_)
   replace aa := aa.congr (g := fun j => U8 (gb (Sha.pad 512 m.length) j)) (fun j hj => by rw [show i = 8 from by omega]; exact Sha.pad_row2 512 m.length _ j _ (Sha.top_byte _ om) om om hj)
   refine wp_region_lit (w_mv (el aj) (w_val (y_str (l := Sha.pad 512 m.length) el (by first | rfl | assumption | (simp; omega) | omega) Tryz.underlying55 Tryz.underlying5 Tryz.underlying9 (fun j hj => by rw [Nat.zero_add]; exact (aa.cell om))) ?_))
   have b0 := ab
   clear ab
   refine w_call (Tryz.func61) kr rfl (m2 (ex (pt ag 0) ao) es) (put_512 ag om m (Sha.pad 512 m.length) om rr (BitVec.ofNat 64 m.length) hr b2 b0 hT) ?_
   rintro _ b7 ⟨rfl, bw, cd, ab, bp⟩
   refine ⟨_, rfl, ?_⟩
   replace r_h := r_h.stepG bp om
   replace aa := aa.stepG bp om
   replace hk := thenG hk bp om
   replace hT := Sha.Tabs.grown hT bp om om
   refine nt (wp_seq ?_)
   replace ab := ab.congr (g := Sha.hrow (.int .i64 512) (Sha.st 512 (gb (Sha.full 512 m)) (Sha.nb 512 m)) bw (.int .i64 ((((m.length + (Sha.pad 512 m.length).length) % 128) : Nat) : Int)) (U64 (BitVec.ofNat 64 m.length))) (fun j hj => Sha.hrow_congr _ _ _ _ _ _ _ j (fun i _ => by rw [Sha.length_pad]; rfl) (fun _ _ => rfl))
   refine wp_region_lit (w_alloc (m := 64) (F := fun j => U8 (0#8)) kr ?_)
   intro af ca ad ac am
   have a7 := r_h.nb ad
   have a1 := ab.nb ad
   have av := aa.nb ad
   have bk := gb_ hk.size ad
   clear ad
   replace r_h := r_h.step am
   replace ab := ab.step am
   replace aa := aa.step am
   replace hk := thenB hk am
   replace hT := Sha.Tabs.below hT am
   refine nt (wp_seq (sr (w_mv Ev.c (nt (wp_block ?_)))))
   refine c_loop (fun dN aN wl => ∃ (a : Nat), dN = (8 - a) ∧ ∃ ay, aN = fr 117 ay ∧ (a ≤ 8) ∧ ay 2 = .string (str ([] : List (BitVec 8))) ∧ ay 3 = .int .i64 0 ∧ ay 4 = .int .i64 64 ∧ ay 5 = .int .i64 128 ∧ ay 7 = pt ag 0 ∧ ay 11 = pt af 0 ∧ ay 85 = .int .i64 ((a : Nat) : Int) ∧ Row wl h 139 139 (Sha.hrow (.int .i64 512) (Sha.st 512 (gb m) (m.length / 128)) rr (.int .i64 (((m.length % 128) : Nat) : Int)) (U64 (BitVec.ofNat 64 m.length))) ∧ Row wl ag 139 139 (Sha.hrow (.int .i64 512) (Sha.st 512 (gb (Sha.full 512 m)) (Sha.nb 512 m)) bw (.int .i64 ((((m.length + (Sha.pad 512 m.length).length) % 128) : Nat) : Int)) (U64 (BitVec.ofNat 64 m.length))) ∧ Row wl ai 5 ((((239 - (m.length % 128)) % 128) + 1) + 16) (fun j => U8 (gb (Sha.pad 512 m.length) j)) ∧ Row wl af 141 64 (fun j => if j < (8 * a) then (fun j => U8 ((Sha.st 512 (gb (Sha.full 512 m)) (Sha.nb 512 m) (j / 8) >>> (8 * (7 - j % 8))).setWidth 8)) j else (fun j => U8 (0#8)) j) ∧ Sha.Tabs wl ∧ Below w0.heap.size w0 wl) (8 - 0) ?_ ?_
   · exact ⟨0, rfl, _, rfl, iv, bh, bl, bm, bi, ao, rfl, ti, r_h, ab, aa, (ac.congr (fun j hj => by exact (if_neg om).symm)), hT, hk⟩
   ·skip
    clear r_h ab aa ac hT hk
    rintro _ _ b8 ⟨a, rfl, ay, rfl, b4, bx, bu, bf, bc, bs, a3, au, r_h, ab, aa, ac, hT, hk⟩
    refine sr (w_val (y_bin (ei au) Ev.c b_lss) (nt (wp_seq ?_)))
    refine c_if (p := ((a : Nat) : Int) < 8) eb (fun hc23 => ?_) (fun hc23 => ?_)
    ·skip
     refine wp_skip (then_n (wp_seq (wp_block (sr (w_mv (ei au) (w_as ei (nt (sr (w_mv (ei bc) (w_val (y_bin ei Ev.c (b_quo om)) (w_mv Ev.c (nt (wp_block ?_)))))))))))))
     refine c_loop (fun dN aN wl => ∃ (b : Nat), dN = (8 - b) ∧ ∃ ak, aN = fr 117 ak ∧ (b ≤ 8) ∧ ak 2 = .string (str ([] : List (BitVec 8))) ∧ ak 3 = .int .i64 0 ∧ ak 4 = .int .i64 64 ∧ ak 5 = .int .i64 128 ∧ ak 7 = pt ag 0 ∧ ak 11 = pt af 0 ∧ ak 12 = .int .i64 ((a : Nat) : Int) ∧ ak 85 = .int .i64 ((a : Nat) : Int) ∧ ak 89 = .int .i64 8 ∧ ak 90 = .int .i64 ((b : Nat) : Int) ∧ Row wl h 139 139 (Sha.hrow (.int .i64 512) (Sha.st 512 (gb m) (m.length / 128)) rr (.int .i64 (((m.length % 128) : Nat) : Int)) (U64 (BitVec.ofNat 64 m.length))) ∧ Row wl ag 139 139 (Sha.hrow (.int .i64 512) (Sha.st 512 (gb (Sha.full 512 m)) (Sha.nb 512 m)) bw (.int .i64 ((((m.length + (Sha.pad 512 m.length).length) % 128) : Nat) : Int)) (U64 (BitVec.ofNat 64 m.length))) ∧ Row wl ai 5 ((((239 - (m.length % 128)) % 128) + 1) + 16) (fun j => U8 (gb (Sha.pad 512 m.length) j)) ∧ Row wl af 141 64 (fun j => if j < ((a * 8) + b) then (fun j => U8 ((Sha.st 512 (gb (Sha.full 512 m)) (Sha.nb 512 m) (j / 8) >>> (8 * (7 - j % 8))).setWidth 8)) j else (fun j => U8 (0#8)) j) ∧ Sha.Tabs wl ∧ Below w0.heap.size w0 wl) (8 - 0) ?_ ?_
     · exact ⟨0, rfl, _, rfl, iv, bx, bu, bf, bc, bs, a3, rfl, au, rfl, ti, r_h, ab, aa, (ac.congr (fun j hj => by (try dsimp only); by_cases e : j < 8 * a; (rw [if_pos e, if_pos om]); (rw [if_neg e, if_neg om]))), hT, hk⟩
     ·skip
      clear r_h ab aa ac hT hk
      rintro _ _ cc ⟨b, rfl, ak, rfl, b3, bb, bg, bd, a0, a8, ap, al, a6, a5, aq, r_h, ab, aa, ac, hT, hk⟩
      refine sr (w_val (y_bin (ei aq) (ei a5) b_lss) (nt (wp_seq ?_)))
      refine c_if (p := ((b : Nat) : Int) < 8) eb (fun hc26 => ?_) (fun hc26 => ?_)
      ·skip
       refine wp_skip (then_n (wp_seq (wp_block (sr (w_mv (ei aq) (w_as ei (nt (wp_region_lit (w_mv (ei al) (w_mv (ei a0) (w_val (y_bin ei Ev.c (b_quo om)) (w_val (y_bin ei ei (b_mul om)) (w_mv ei (w_val (y_bin ei ei (b_add om)) (w_mv (ei al) (w_val (v := pt ag 1) (y_off (y_fa (ex (pt ag 0) a8) (ShaDT.fa139_1 _ _)) ro) (w_val (v := pt ag (1 + a)) (y_off (y_ia1 (i := a) (ex (pt ag 1)) ei Tryz.underlying93 ShaDT.sz92 om om) ro) (w_val (v := U64 ((Sha.st 512 (gb (Sha.full 512 m)) (Sha.nb 512 m)) a)) (y_ld (ex (pt ag (1 + a))) ShaDT.sc92 (ab.val om (ng pz))) (w_mv (ei a0) (w_val (y_bin ei Ev.c (b_quo om)) (w_val (y_bin ei Ev.c (b_sub om)) (w_mv ei (w_val (y_bin ei ei (b_sub om)) (w_val (y_bin Ev.c ei (b_mul om)) (w_val (y_bin e6 ei (shr64 (c := (8 * (7 - b))) om)) (w_val (y_u64_u8 e6 ShaDT.so92 Tryz.underlying5) (w_val (y_ia1z (i := ((a * 8) + b)) (ex (pt af 0) ap) ei Tryz.underlying141 ShaDT.sz5 om om) (w_st (v := U8 ((((Sha.st 512 (gb (Sha.full 512 m)) (Sha.nb 512 m)) a) >>> (8 * (7 - b))).setWidth 8)) (ex (pt af ((a * 8) + b))) e8 rfl rfl ShaDT.sz5 ac om ?_))))))))))))))))))))))))))))
       clear ac; intro cf ac ar _
       replace r_h := r_h.stepG ar om
       replace ab := ab.stepG ar om
       replace aa := aa.stepG ar om
       replace hk := thenG hk ar om
       replace hT := Sha.Tabs.grown hT ar om om
       refine wpList_nil (inb_n (then_n (wp_region_lit (w_val (y_bin (ei aq) Ev.c (b_add om)) (w_mv ei (wpList_nil ?_))))))
       exact then_n ⟨_, om, b + 1, rfl, _, rfl, iv, bb, bg, bd, a0, a8, ap, al, a6, a5, ti, r_h, ab, aa, (ac.congr (fun j hj => by (try dsimp only); by_cases e : j = a * 8 + b; (rw [if_pos e, if_pos om, e, show (a * 8 + b) / 8 = a from by omega, show (a * 8 + b) % 8 = b from by omega]); (rw [if_neg e]; by_cases e2 : j < a * 8 + b; (rw [if_pos e2, if_pos om]); (rw [if_neg e2, if_neg om])))), hT, hk⟩
      ·skip
       refine wp_exit (then_x (then_x (inb_x (inb_n (then_n (wp_region_lit (w_val (y_bin (ei a6) Ev.c (b_add om)) (w_mv ei (wpList_nil ?_)))))))))
       exact then_n ⟨_, om, a + 1, rfl, _, rfl, iv, bb, bg, bd, a0, a8, ap, ti, r_h, ab, aa, (ac.congr (fun j hj => by (try dsimp only); by_cases e : j < a * 8 + b; (rw [if_pos e, if_pos om]); (rw [if_neg e, if_neg om]))), hT, hk⟩
    ·skip
     refine wp_exit (then_x (then_x (inb_x (then_n (sr (w_mv (ei bf) (w_val (v := .slice (some ⟨af, 0, none⟩) 64 64) (y_sloff (y_slp (ex (pt af 0) a3) evo.no (evo.s ei) Tryz.underlying141 ShaDT.sz5 (bnd_h (h := 64) om om) om) ro rfl) (w_val (y_str (l := Sha.sum 512 m) el (by rw [Sha.length_sum]; rfl) Tryz.underlying55 Tryz.underlying5 Tryz.underlying9 (fun j hj => (ac.val om (by rw [Sha.gb_sum _ _ _ (show j < Sha.ol 512 from hj), Nat.zero_add]; exact if_pos om)))) (w_as es (w_as Ev.c (nt (wp_ret (fin_ret2 rfl es ei ?_)))))))))))))
     exact ⟨rfl, hk⟩
end Go.Proofs.YtdmbfimjbmfbaaaGreatDoor
