/-
  AES: what the program's Encrypt computes. No conditions.
-/
import Derived.Test.YtdmbfimjbmfbaaaGreatDoorAesExpand
import Derived.Deep.DeepMust
namespace Go.Proofs.YtdmbfimjbmfbaaaGreatDoor
open Go.RowKit
set_option linter.unusedSimpArgs false
set_option linter.unusedVariables false
theorem Tryz.colsAgg : (Tryz.prog.underlying 116).map isAggD = some true := by kernel_rfl
theorem Tryz.colsSize : (Tryz.prog.info? 116).map (·.size) = some 4 := by kernel_rfl
theorem Tryz.u32Size : (Tryz.prog.info? 103).map (·.size) = some 1 := by kernel_rfl
set_option maxRecDepth 100000 in
set_option maxHeartbeats 4000000 in
theorem encrypt_w (b g R L : Nat) (W : List (BitVec 32)) (s : ByteArray) (w : World) (hR : L = 4 * (R + 1)) (hR1 : 1 ≤ R) (hR2 : R ≤ 20) (hs : s.size = 16) (hbl : b < w.heap.size) (hgl : g < w.heap.size)
    (hbox : ∀ i, i < 256 → w.cell? ⟨b, 0 + i, none⟩ = some (U8 (Aes.sb i))) (hw : w.cell? ⟨b, 256, none⟩ = some (.slice (some ⟨g, 0, none⟩) L L)) (hrow : ∀ i, i < L → w.cell? ⟨g, i, none⟩ = some (U32 (Aes.gw W i))) :
    Calls Tryz.prog 31 #[.pointer (some ⟨b, 0, none⟩), .string s] w fun e w' => e = .returned (.tuple #[.string (str (Aes.block (Aes.encSt W R (byt s) R))), .int .i64 0]) ∧ Below w.heap.size w w' := by
  have h0 : ((L : Int) == 0) = false := by rw [beq_eq_false_iff_ne]; omega
  have h1 : ((s.size : Int) != 16) = false := by
    have : (s.size : Int) = 16 := by omega
    rw [this]; rfl
  have hL1 : 4 ≤ L := by omega
  have hdiv : (L : Int) / 4 = (R : Int) + 1 := by omega
  have HL := Lib.hid hR
  have HS := Lib.hid hs
  have HB := Lib.hid hbox
  have HW := Lib.hid hrow
  clear hR hs hbox hrow
  go_enter Tryz.func31, Tryz.ntmps31
  go_wp2_with (go_at_call 44; refine (load_c _ _ HS.out).mono ?_; rintro e w1 ⟨rfl, hb1⟩)
  go_loopg [7, 27] 4 (fun d _ i wr => ∃ k : Nat, k ≤ 4 ∧ d = 4 - k ∧ i = .int .i64 k ∧ Row wr w1.heap.size 116 4 (fun j => if j < k then U32 (Aes.encSt W R (byt s) 0 j) else U32 (Aes.col (byt s) j)) ∧ Below w.heap.size w wr)
  case atStart =>
    refine ⟨0, by omega, rfl, rfl, Row.fresh rfl (all4 rfl rfl rfl rfl), hb1.alloc hb1.size _⟩
  case round =>
    obtain ⟨k, hk, rfl, rfl, hx, hb⟩ := hrel
    by_cases hlt : k < 4
    · have hc := hx.cell (i := k) hlt
      rw [if_neg (Nat.lt_irrefl k)] at hc
      have hz := hx.frozen (i := k) hlt
      have hwc := (hb.cell (p := ⟨b, 256, none⟩) hbl).trans hw
      have hgc := (hb.cell (p := ⟨g, k, none⟩) hgl).trans (HW.out k (by omega))
      have hkL : (k : Int) < (L : Int) := by omega
      have HX := Lib.hid hx
      clear hx hdiv
      go_wp2
      refine wp_region_tailD 11 (by kernel_rfl) (by kernel_rfl) ?_
      simp only [List.take_succ_cons, List.take_zero, List.drop_succ_cons, List.drop_zero]
      repeat (go_big_quiet_step (fail))
      refine wpQuiet_nil ?_
      intro w' hw'; obtain ⟨nq, rfl⟩ := hw'
      go_wp2
      go_roundg (4 - (k + 1))
      case measure => omega
      case rel =>
        exact ⟨k + 1, by omega, rfl, by go_num, ((HX.out.drewN nq).set_ _ _).congr (fun i _ => upd_lt _ (fun j => U32 (Aes.encSt W R (byt s) 0 j)) (fun j => U32 (Aes.col (byt s) j)) k rfl i), (below_drewN hb _).setCell hb1.size _⟩
    · obtain rfl : k = 4 := by omega
      have hwc := (hb.cell (p := ⟨b, 256, none⟩) hbl).trans hw
      have HX := Lib.hid (hx.congr (g := fun j => U32 (Aes.encSt W R (byt s) 0 j)) (fun i hi => by rw [if_pos hi]))
      clear hx
      go_wp2
      clear hdiv
      go_loopg [9, 10, 11] R (fun d r _ _ wr => ∃ q : Nat, q ≤ R ∧ d = R - q ∧ r = .int .i64 ((q : Int) + 1) ∧ Row wr w1.heap.size 116 4 (fun j => U32 (Aes.encSt W R (byt s) q j)) ∧ Below w.heap.size w wr)
      case atStart => exact ⟨0, by omega, by omega, rfl, HX.out, hb⟩
      case round =>
        clear HX hwc hb
        rename_i wr0 _
        obtain ⟨q, hq, rfl, rfl, hx, hb⟩ := hrel
        by_cases hqR : q < R
        · have hlt1 := hx.lt
          have HX := Lib.hid hx
          have hqi : (q : Int) + 1 ≤ (R : Int) := by omega
          obtain ⟨wo, rfl⟩ : ∃ wo : World, wo = wr := ⟨_, rfl⟩
          clear hx
          have hbo := hb
          go_wp2
          go_loopg [11, 55] 4 (fun d _ i wi => ∃ k : Nat, k ≤ 4 ∧ d = 4 - k ∧ i = .int .i64 k ∧ Row wi wo.heap.size 116 4 (fun j => if j < k then U32 (Aes.encSt W R (byt s) (q + 1) j) else U32 0#32) ∧
              Row wi w1.heap.size 116 4 (fun j => U32 (Aes.encSt W R (byt s) q j)) ∧ Below w.heap.size w wi)
          case atStart =>
            exact ⟨0, by omega, rfl, rfl, Row.fresh rfl (all4 rfl rfl rfl rfl), HX.out.alloc _, hb.alloc hb.size _⟩
          case round =>
            clear HX hb
            have hXY : (some w1.heap.size : Option Nat) ≠ some wo.heap.size := by simp; omega
            obtain ⟨k, hk, rfl, rfl, hy, hx, hb⟩ := hrel
            by_cases hlt : k < 4
            · have hc := hy.cell (i := k) hlt
              rw [if_neg (Nat.lt_irrefl k)] at hc
              have hz := hy.frozen (i := k) hlt
              have x0 := hx.cell (i := k) hlt
              have x1 := hx.cell (i := (k + 1) % 4) (by omega)
              have x2 := hx.cell (i := (k + 2) % 4) (by omega)
              have x3 := hx.cell (i := (k + 3) % 4) (by omega)
              have HX := Lib.hid hx
              have HY := Lib.hid hy
              have hkL : 4 * ((q : Int) + 1) + (k : Int) < (L : Int) := by have := HL.out; omega
              have hkL0 : 0 ≤ 4 * ((q : Int) + 1) + (k : Int) := by omega
              clear hx hy
              by_cases hlast : q + 1 < R
              · have hlast' : (q : Int) + 1 < (R : Int) := by omega
                clear hlast
                go_wp2
                refine wp_region_tailD 26 (by kernel_rfl) (by kernel_rfl) ?_
                simp only [List.take_succ_cons, List.take_zero, List.drop_succ_cons, List.drop_zero]
                repeat (go_big_quiet_step (fail))
                refine wpQuiet_nil ?_
                intro w' hw'; obtain ⟨nq, rfl⟩ := hw'
                go_wp2_with (with_reducible show wpList _ _ _ (Oper.mk _ (Op.store 103 (.tmp 84) (.tmp 83)) _ _ _ _ :: _) _ _; go_must (refine wpList_store_cell rfl rfl 103 (.tmp 84) (.tmp 83) rfl wo.heap.size k rfl (U32 (Aes.shifted (Aes.encSt W R (byt s) q) k)) rfl (U32.oneCell _) (U32.cells _) Tryz.u32Size 116 4 _ (HY.out.drewN nq) hlt ?_); intro w2 hy2 hg2 hs2)
                have hx2 := ((HX.out.drewN nq).grown hg2 hXY)
                have hb2 : Below w.heap.size w w2 := (below_drewN hb nq).grown hg2 hb.size (fun _ e => by cases e; exact hbo.size)
                have c2 := hy2.cell (i := k) hlt
                rw [if_pos rfl] at c2
                have HB2 := Lib.hid (fun i (hi : i < 256) => (hb2.cell (p := ⟨b, 0 + i, none⟩) hbl).trans (HB.out i hi))
                have HY2 := Lib.hid hy2
                have HX2 := Lib.hid hx2
                clear hy2 hx2 hg2 hs2 hc hz x0 x1 x2 x3 HY HX hb
                refine wp_region_tailD 8 (by kernel_rfl) (by kernel_rfl) ?_
                simp only [List.take_succ_cons, List.take_zero, List.drop_succ_cons, List.drop_zero]
                repeat (go_big_quiet_step ((go_at_call 45; exact Calls.quiet_of (subWord_c b 0 Aes.sb _ _ (fun i hi => HB2.out i hi)))))
                refine wpQuiet_nil ?_
                intro w' hw'; obtain ⟨nq2, rfl⟩ := hw'
                go_wp2_with (first | (go_at_call 46; refine (mix_c _ _).mono ?_; rintro e w' ⟨rfl, rfl⟩) | (with_reducible show wpList _ _ _ (Oper.mk _ (Op.store 103 (.tmp 93) (.tmp 92)) _ _ _ _ :: _) _ _; go_must (refine wpList_store_cell rfl rfl 103 (.tmp 93) (.tmp 92) rfl wo.heap.size k rfl (U32 (Aes.subW Aes.sb (Aes.shifted (Aes.encSt W R (byt s) q) k))) rfl (U32.oneCell _) (U32.cells _) Tryz.u32Size 116 4 _ (HY2.out.drewN nq2) hlt ?_); intro w3 hy3 hg3 hs3; have c3 := hy3.cell (i := k) hlt; rw [if_pos rfl] at c3; have HY3 := Lib.hid hy3; have z3 := hy3.frozen (i := k) hlt; clear hy3) | (with_reducible show wpList _ _ _ (Oper.mk _ (Op.store 103 (.tmp 102) (.tmp 101)) _ _ _ _ :: _) _ _; go_must (refine wpList_store_cell rfl rfl 103 (.tmp 102) (.tmp 101) rfl wo.heap.size k rfl (U32 (Aes.mix (Aes.subW Aes.sb (Aes.shifted (Aes.encSt W R (byt s) q) k)))) rfl (U32.oneCell _) (U32.cells _) Tryz.u32Size 116 4 _ HY3.out hlt ?_); intro w4 hy4 hg4 hs4))
                have hx3 := ((HX2.out.drewN nq2).grown hg3 hXY)
                have hb3 : Below w.heap.size w w3 := (below_drewN hb2 nq2).grown hg3 hb2.size (fun _ e => by cases e; exact hbo.size)
                have HX3 := Lib.hid hx3
                clear hx3 hg3 hs3 c2 HY2 HX2 HB2 hb2
                have hx4 := (HX3.out.grown hg4 hXY)
                have hb4 : Below w.heap.size w w4 := hb3.grown hg4 hb3.size (fun _ e => by cases e; exact hbo.size)
                have c4 := hy4.cell (i := k) hlt
                rw [if_pos rfl] at c4
                have HY4 := Lib.hid hy4
                have HX4 := Lib.hid hx4
                have z4 := hy4.frozen (i := k) hlt
                clear hy4 hx4 hg4 hs4 c3 HY3 HX3 hb3
                have hwc := (hb4.cell (p := ⟨b, 256, none⟩) hbl).trans hw
                have hgc := (hb4.cell (p := ⟨g, 4 * (q + 1) + k, none⟩) hgl).trans (HW.out (4 * (q + 1) + k) (by have := HL.out; omega))
                refine wp_region_tailD 14 (by kernel_rfl) (by kernel_rfl) ?_
                simp only [List.take_succ_cons, List.take_zero, List.drop_succ_cons, List.drop_zero]
                repeat (go_big_quiet_step (fail))
                refine wpQuiet_nil ?_
                intro w' hw'; obtain ⟨nq3, rfl⟩ := hw'
                go_wp2_with (with_reducible show wpList _ _ _ (Oper.mk _ (Op.store 103 (.tmp 117) (.tmp 116)) _ _ _ _ :: _) _ _; go_must (refine wpList_store_cell rfl rfl 103 (.tmp 117) (.tmp 116) rfl wo.heap.size k rfl (U32 (Aes.mix (Aes.subW Aes.sb (Aes.shifted (Aes.encSt W R (byt s) q) k)) ^^^ Aes.gw W (4 * (q + 1) + k))) rfl (U32.oneCell _) (U32.cells _) Tryz.u32Size 116 4 _ (HY4.out.drewN nq3) hlt ?_); intro w5 hy5 hg5 hs5)
                go_roundg (4 - (k + 1))
                case measure => omega
                case rel =>
                  refine ⟨k + 1, by omega, rfl, by go_num, hy5.congr (fun i _ => ?_), (HX4.out.drewN nq3).grown hg5 hXY, (below_drewN hb4 nq3).grown hg5 hb4.size (fun _ e => by cases e; exact hbo.size)⟩
                  by_cases e : i = k
                  · subst e
                    rw [if_pos rfl, if_pos (by omega)]
                    show U32 _ = U32 (Aes.encCol W R (q + 1) (Aes.encSt W R (byt s) q) i)
                    unfold Aes.encCol
                    rw [if_pos (by omega)]
                  · simp only [if_neg e]
                    by_cases e2 : i < k
                    · rw [if_pos e2, if_pos (by omega)]
                    · rw [if_neg e2, if_neg (by omega)]
              · have hlast' : ¬ ((q : Int) + 1 < (R : Int)) := by omega
                clear hlast
                go_wp2
                refine wp_region_tailD 26 (by kernel_rfl) (by kernel_rfl) ?_
                simp only [List.take_succ_cons, List.take_zero, List.drop_succ_cons, List.drop_zero]
                repeat (go_big_quiet_step (fail))
                refine wpQuiet_nil ?_
                intro w' hw'; obtain ⟨nq, rfl⟩ := hw'
                go_wp2_with (with_reducible show wpList _ _ _ (Oper.mk _ (Op.store 103 (.tmp 84) (.tmp 83)) _ _ _ _ :: _) _ _; go_must (refine wpList_store_cell rfl rfl 103 (.tmp 84) (.tmp 83) rfl wo.heap.size k rfl (U32 (Aes.shifted (Aes.encSt W R (byt s) q) k)) rfl (U32.oneCell _) (U32.cells _) Tryz.u32Size 116 4 _ (HY.out.drewN nq) hlt ?_); intro w2 hy2 hg2 hs2)
                have hx2 := ((HX.out.drewN nq).grown hg2 hXY)
                have hb2 : Below w.heap.size w w2 := (below_drewN hb nq).grown hg2 hb.size (fun _ e => by cases e; exact hbo.size)
                have c2 := hy2.cell (i := k) hlt
                rw [if_pos rfl] at c2
                have HB2 := Lib.hid (fun i (hi : i < 256) => (hb2.cell (p := ⟨b, 0 + i, none⟩) hbl).trans (HB.out i hi))
                have HY2 := Lib.hid hy2
                have HX2 := Lib.hid hx2
                clear hy2 hx2 hg2 hs2 hc hz x0 x1 x2 x3 HY HX hb
                refine wp_region_tailD 8 (by kernel_rfl) (by kernel_rfl) ?_
                simp only [List.take_succ_cons, List.take_zero, List.drop_succ_cons, List.drop_zero]
                repeat (go_big_quiet_step ((go_at_call 45; exact Calls.quiet_of (subWord_c b 0 Aes.sb _ _ (fun i hi => HB2.out i hi)))))
                refine wpQuiet_nil ?_
                intro w' hw'; obtain ⟨nq2, rfl⟩ := hw'
                go_wp2_with (with_reducible show wpList _ _ _ (Oper.mk _ (Op.store 103 (.tmp 93) (.tmp 92)) _ _ _ _ :: _) _ _; go_must (refine wpList_store_cell rfl rfl 103 (.tmp 93) (.tmp 92) rfl wo.heap.size k rfl (U32 (Aes.subW Aes.sb (Aes.shifted (Aes.encSt W R (byt s) q) k))) rfl (U32.oneCell _) (U32.cells _) Tryz.u32Size 116 4 _ (HY2.out.drewN nq2) hlt ?_); intro w3 hy3 hg3 hs3; have c3 := hy3.cell (i := k) hlt; rw [if_pos rfl] at c3; have HY3 := Lib.hid hy3; have z3 := hy3.frozen (i := k) hlt; clear hy3)
                have hx3 := ((HX2.out.drewN nq2).grown hg3 hXY)
                have hb3 : Below w.heap.size w w3 := (below_drewN hb2 nq2).grown hg3 hb2.size (fun _ e => by cases e; exact hbo.size)
                have HX3 := Lib.hid hx3
                clear hx3 hg3 hs3 c2 HY2 HX2 HB2 hb2
                have hwc := (hb3.cell (p := ⟨b, 256, none⟩) hbl).trans hw
                have hgc := (hb3.cell (p := ⟨g, 4 * (q + 1) + k, none⟩) hgl).trans (HW.out (4 * (q + 1) + k) (by have := HL.out; omega))
                refine wp_region_tailD 14 (by kernel_rfl) (by kernel_rfl) ?_
                simp only [List.take_succ_cons, List.take_zero, List.drop_succ_cons, List.drop_zero]
                repeat (go_big_quiet_step (fail))
                refine wpQuiet_nil ?_
                intro w' hw'; obtain ⟨nq3, rfl⟩ := hw'
                go_wp2_with (with_reducible show wpList _ _ _ (Oper.mk _ (Op.store 103 (.tmp 117) (.tmp 116)) _ _ _ _ :: _) _ _; go_must (refine wpList_store_cell rfl rfl 103 (.tmp 117) (.tmp 116) rfl wo.heap.size k rfl (U32 (Aes.subW Aes.sb (Aes.shifted (Aes.encSt W R (byt s) q) k) ^^^ Aes.gw W (4 * (q + 1) + k))) rfl (U32.oneCell _) (U32.cells _) Tryz.u32Size 116 4 _ (HY3.out.drewN nq3) hlt ?_); intro w5 hy5 hg5 hs5)
                go_roundg (4 - (k + 1))
                case measure => omega
                case rel =>
                  refine ⟨k + 1, by omega, rfl, by go_num, hy5.congr (fun i _ => ?_), (HX3.out.drewN nq3).grown hg5 hXY, (below_drewN hb3 nq3).grown hg5 hb3.size (fun _ e => by cases e; exact hbo.size)⟩
                  by_cases e : i = k
                  · subst e
                    rw [if_pos rfl, if_pos (by omega)]
                    show U32 _ = U32 (Aes.encCol W R (q + 1) (Aes.encSt W R (byt s) q) i)
                    unfold Aes.encCol
                    rw [if_neg (by omega)]
                  · simp only [if_neg e]
                    by_cases e2 : i < k
                    · rw [if_pos e2, if_pos (by omega)]
                    · rw [if_neg e2, if_neg (by omega)]
            · obtain rfl : k = 4 := by omega
              have HX := Lib.hid hx
              have HY := Lib.hid (hy.congr (g := fun j => U32 (Aes.encSt W R (byt s) (q + 1) j)) (fun i hi => by rw [if_pos hi]))
              clear hx hy
              go_wp2_with (first | (with_reducible show wpList _ _ _ (Oper.mk _ (Op.load 116 (.tmp 10)) _ _ _ _ :: _) _ _; refine wpList_load_arr rfl 116 (.tmp 10) rfl wo.heap.size 0 4 rfl (fun j => U32 (Aes.encSt W R (byt s) (q + 1) j)) Tryz.colsAgg Tryz.colsSize (fun j hj => by rw [Nat.zero_add]; exact HY.out.cell hj) ?_) | (with_reducible show wpList _ _ _ (Oper.mk _ (Op.store 116 (.tmp 6) (.tmp 119)) _ _ _ _ :: _) _ _; refine wpList_store_arr rfl rfl 116 (.tmp 6) (.tmp 119) rfl w1.heap.size 0 4 rfl (fun j => U32 (Aes.encSt W R (byt s) (q + 1) j)) rfl Tryz.colsSize (fun j _ => U32.oneCell _) _ 4 _ HX.out (by decide) ?_; intro w6 hx6 hg6 hs6))
              go_roundg (R - (q + 1))
              case measure => omega
              case rel =>
                exact ⟨q + 1, by omega, rfl, by go_num, hx6.congr (fun i hi => by rw [if_pos (by omega)]; rfl), hb.grown hg6 hb.size (fun _ e => by cases e; exact hb1.size)⟩
        · obtain rfl : q = R := by omega
          have c0 := hx.cell (i := 0) (by omega)
          have c1 := hx.cell (i := 1) (by omega)
          have c2 := hx.cell (i := 2) (by omega)
          have c3 := hx.cell (i := 3) (by omega)
          have hgt : ¬ ((q : Int) + 1 ≤ (q : Int)) := by omega
          clear hx
          go_wp2_with (go_at_call 47; refine (store_c (Aes.encSt W q (byt s) q) _).mono ?_; rintro e w2 ⟨rfl, hb2⟩)
          go_ret2
          exact ⟨rfl, hb.trans (hb2.mono hb.size)⟩
theorem Aes.words_len (key : List (BitVec 8)) (hk : Aes.okKey key.length) : ∃ R, (Aes.words key).length = 4 * (R + 1) ∧ 1 ≤ R ∧ R ≤ 20 :=
  ⟨key.length / 4 + 6, by rw [Aes.length_words], by omega, by unfold Aes.okKey at hk; omega⟩
theorem encrypt_c (bk : Nat → BitVec 8) (U : List (BitVec 32) → List (BitVec 32)) (b : Nat) (key : List (BitVec 8)) (s : ByteArray) (w : World) (hk : Aes.okKey key.length) (h : CiphAt bk U w b (Aes.words key)) (hs : s.size = 16) :
    Calls Tryz.prog 31 #[.pointer (some ⟨b, 0, none⟩), .string s] w fun e w' => e = .returned (.tuple #[.string (str (Aes.enc (Aes.words key) (byt s))), .int .i64 0]) ∧ Below w.heap.size w w' := by
  obtain ⟨R, h1, h2, h3⟩ := Aes.words_len key hk
  obtain ⟨g, D, r1, r2, r3⟩ := h
  rw [← Aes.enc_eq _ _ R h1 h2]
  exact encrypt_w b g R _ (Aes.words key) s w h1 h2 h3 hs r1.lt r2.lt (fun i hi => by rw [Nat.zero_add, r1.cell (by omega)]; simp only [ciph, if_pos hi]) (by rw [r1.cell (by omega)]; rfl) (fun i hi => r2.cell hi)
end Go.Proofs.YtdmbfimjbmfbaaaGreatDoor
