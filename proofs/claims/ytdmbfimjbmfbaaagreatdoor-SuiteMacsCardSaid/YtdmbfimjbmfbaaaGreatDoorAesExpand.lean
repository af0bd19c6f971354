/-
  AES: the round words that the program makes of a key. No conditions. AES: the cipher that the program makes of a key. No conditions. AES: what the program's store computes. No conditions.
-/
import Derived.Test.YtdmbfimjbmfbaaaGreatDoorAesLeaf
import Derived.Deep.OwnRows
import Derived.Test.YtdmbfimjbmfbaaaGreatDoorGenSh
namespace Go.Proofs.YtdmbfimjbmfbaaaGreatDoor
open Go.RowKit
set_option linter.unusedSimpArgs false
set_option linter.unusedVariables false
theorem Tryz.infoU32 : (Tryz.prog.info? 103).map (fun i => (i.zero, i.size, i.bytes)) = some (some (.int .u32 0), 1, 4) := by kernel_rfl
theorem upd_lt {α : Type} (v : α) (f z : Nat → α) (k : Nat) (hv : v = f k) (i : Nat) : (if i = k then v else if i < k then f i else z i) = if i < k + 1 then f i else z i := by
  by_cases e : i = k
  · subst e
    rw [if_pos rfl, if_pos (by omega), hv]
  · rw [if_neg e]
    by_cases h : i < k
    · rw [if_pos h, if_pos (by omega)]
    · rw [if_neg h, if_neg (by omega)]
theorem Aes.rc_step (k n : Nat) (hn : 1 ≤ n) (hk : n ≤ k) (h : k % n = 0) : Aes.xt (Aes.rc ((k - 1) / n)) = Aes.rc ((k + 1 - 1) / n) := by
  obtain ⟨q, rfl⟩ := Nat.dvd_of_mod_eq_zero h
  have hq : 1 ≤ q := by
    rcases Nat.eq_zero_or_pos q with e | e
    · subst e; omega
    · exact e
  have e1 : (n * q - 1) / n = q - 1 := by
    obtain ⟨q, rfl⟩ : ∃ p, q = p + 1 := ⟨q - 1, by omega⟩
    rw [Nat.mul_add, Nat.mul_one, show n * q + n - 1 = n * q + (n - 1) from by omega, Nat.mul_add_div (by omega), Nat.div_eq_of_lt (by omega)]
    simp
  rw [e1, Nat.add_sub_cancel, Nat.mul_div_cancel_left _ (by omega)]
  obtain ⟨q, rfl⟩ : ∃ p, q = p + 1 := ⟨q - 1, by omega⟩
  rfl
theorem Aes.div_pred (k n : Nat) (hn : 1 ≤ n) (hk : n ≤ k) (h : k % n = 0) : (k - 1) / n = k / n - 1 := by
  obtain ⟨q, rfl⟩ := Nat.dvd_of_mod_eq_zero h
  have hq : 1 ≤ q := by
    rcases Nat.eq_zero_or_pos q with e | e
    · subst e; omega
    · exact e
  obtain ⟨q, rfl⟩ : ∃ p, q = p + 1 := ⟨q - 1, by omega⟩
  rw [Nat.mul_div_cancel_left _ (by omega : 0 < n), Nat.mul_add, Nat.mul_one, show n * q + n - 1 = n * q + (n - 1) from by omega, Nat.mul_add_div (by omega), Nat.div_eq_of_lt (by omega)]
  rfl
theorem Aes.rc_same (k n : Nat) (hn : 1 ≤ n) (h : k < n ∨ k % n ≠ 0) : Aes.rc ((k - 1) / n) = Aes.rc ((k + 1 - 1) / n) := by
  congr 1
  rw [Nat.add_sub_cancel]
  rcases h with h | h
  · rw [Nat.div_eq_of_lt h, Nat.div_eq_of_lt (by omega)]
  · have hk : 1 ≤ k := by
      rcases Nat.eq_zero_or_pos k with e | e
      · subst e; simp at h
      · exact e
    obtain ⟨k, rfl⟩ : ∃ j, k = j + 1 := ⟨k - 1, by omega⟩
    rw [Nat.add_sub_cancel, Nat.succ_div, if_neg (fun hd => h (Nat.mod_eq_zero_of_dvd hd))]
    rfl
set_option maxRecDepth 100000 in
set_option maxHeartbeats 2000000 in
theorem expand_w (W : List (BitVec 32)) (g off n m : Nat) (s : ByteArray) (w : World) (hW : ∀ k, k < m → Aes.gw W k = Aes.nextW (byt s) n W k) (hm : m = 4 * (n + 7)) (hs : s.size = 4 * n) (h4 : 4 ≤ n) (h8 : n ≤ 8) (hbox : ∀ i, i < 256 → w.cell? ⟨g, off + i, none⟩ = some (U8 (Aes.sb i))) (hg : g < w.heap.size) :
    Calls Tryz.prog 43 #[.pointer (some ⟨g, off, none⟩), .string s] w fun e w' => e = .returned (.slice (some ⟨w.heap.size, 0, none⟩) m m) ∧
      Row w' w.heap.size 103 m (fun j => U32 (Aes.gw W j)) ∧ Below w.heap.size w w' := by
  have HW : Hid _ := hW
  have hdiv : (s.size : Int) / 4 = (n : Int) := by omega
  have hs1 : 4 * n ≤ s.size := by omega
  have hs2 : s.size ≤ 4 * n := by omega
  have hmk : ∀ w, (Instr.makeSlice 100 (.int .i64 (4 * ((n : Int) + 7))) (.int .i64 (4 * ((n : Int) + 7)))).run Tryz.prog w = .ok (.slice (some ⟨w.heap.size, 0, none⟩) (m) (m)) (w.alloc (.cells (madeCells #[.int .u32 0] (m)) 103)) := fun w => by
    have h := run_make_row' (P := Tryz.prog) 100 103 (.int .u32 0) 4 Tryz.underlying100 Tryz.infoU32 rfl .i64 .i64 (m) (by omega) (by omega) w
    have e : ((m : Nat) : Int) = 4 * ((n : Int) + 7) := by omega
    rwa [e] at h
  have hm1 : n < m := by omega
  have hm2 : m ≤ 60 := by omega
  clear hW hs hm
  go_enter Tryz.func43, Tryz.ntmps43
  go_wp2
  clear hmk hdiv
  go_loopg [7, 19] m (fun d r i wr => ∃ k : Nat, k ≤ m ∧ d = m - k ∧ i = .int .i64 k ∧ r = U8 (Aes.rc ((k - 1) / n)) ∧ Row wr w.heap.size 103 (m) (fun j => if j < k then U32 (Aes.gw W j) else U32 0#32) ∧ Below w.heap.size w wr)
  case atStart =>
    refine ⟨0, by omega, by omega, rfl, ?_, (Row.made w _ _ _).congr (fun i _ => by rw [if_neg (by omega)]; rfl), (Below.refl _ _).alloc (Nat.le_refl _) _⟩
    rw [show (0 - 1) / n = 0 from by simp]
    rfl
  case round =>
    obtain ⟨k, hk, rfl, rfl, rfl, hrow, hb⟩ := hrel
    by_cases hlt : k < m
    · have hkn := HW.out k hlt
      have hc := hrow.cell (i := k) hlt
      rw [if_neg (Nat.lt_irrefl k)] at hc
      have hz := hrow.frozen (i := k) hlt
      by_cases h1 : k < n
      · rw [Aes.nextW, if_pos h1] at hkn
        have hkn' : Hid _ := hkn
        clear hkn
        go_wp2
        refine wp_region_tail (fun w' => ∃ n, w' = wr.drewN n) 31 (by kernel_rfl) (by kernel_rfl) ⟨1, rfl⟩ ?_
        simp only [List.take_succ_cons, List.take_zero, List.drop_succ_cons, List.drop_zero]
        repeat (go_big_quiet_step (fail))
        refine wpQuiet_nil ?_
        intro w' hw'; obtain ⟨nq, rfl⟩ := hw'
        go_wp2
        go_roundg (m - (k + 1))
        case measure => omega
        case rel =>
          refine ⟨k + 1, by omega, rfl, by go_num, by rw [Aes.rc_same k n (by omega) (.inl h1)], ((hrow.drewN nq).set_ _ _).congr (fun i _ => upd_lt _ (fun j => U32 (Aes.gw W j)) (fun _ => U32 0#32) k ?_ i), (below_drewN hb _).setCell (Nat.le_refl _) _⟩
          rw [hkn'.out]
          rfl
      · rw [Aes.nextW, if_neg h1] at hkn
        have hc1 := hrow.cell (i := k - 1) (by omega)
        have hcn := hrow.cell (i := k - n) (by omega)
        rw [if_pos (by omega)] at hc1 hcn
        have hge : n ≤ k := by omega
        have hbw : ∀ i, i < 256 → wr.cell? ⟨g, off + i, none⟩ = some (U8 (Aes.sb i)) := fun i hi => (hb.cell (p := ⟨g, off + i, none⟩) hg).trans (hbox i hi)
        have HB : Hid _ := hbw
        clear hbw
        by_cases h2 : k % n = 0
        · have ht : (((k : Int) % (n : Int)) == 0) = true := by
            rw [beq_iff_eq, ← Int.natCast_emod, h2]; rfl
          rw [if_pos h2, ← Aes.div_pred k n (by omega) hge h2] at hkn
          have hkn' : Hid _ := hkn
          have H2 : Hid (k % n = 0) := h2
          clear hkn h2
          go_wp2_with (first | (go_at_call 45; refine (subWord_c g off Aes.sb _ _ HB.out).mono ?_; rintro e w' ⟨rfl, nq, rfl⟩) | (go_at_call 58; refine (double_c _ _).mono ?_; rintro e w' ⟨rfl, rfl⟩))
          go_roundg (m - (k + 1))
          case measure => omega
          case rel =>
            refine ⟨k + 1, by omega, rfl, by go_num, by rw [Aes.rc_step k n (by omega) hge H2.out], ((hrow.drewN _).set_ _ _).congr (fun i _ => upd_lt _ (fun j => U32 (Aes.gw W j)) (fun _ => U32 0#32) k ?_ i), (below_drewN hb _).setCell (Nat.le_refl _) _⟩
            rw [hkn'.out]
        · have ht : (((k : Int) % (n : Int)) == 0) = false := by
            rw [beq_eq_false_iff_ne, ← Int.natCast_emod]; omega
          rw [if_neg h2] at hkn
          have H2 : Hid (¬ k % n = 0) := h2
          clear h2
          by_cases h3 : n = 8 ∧ k % 8 = 4
          · have ht1 : ((n : Int) == 8) = true := by rw [beq_iff_eq]; omega
            have ht2 : ((k : Int) % 8 == 4) = true := by rw [beq_iff_eq]; omega
            rw [if_pos h3] at hkn
            have hkn' : Hid _ := hkn
            clear hkn h3
            go_wp2_with (go_at_call 45; refine (subWord_c g off Aes.sb _ _ HB.out).mono ?_; rintro e w' ⟨rfl, nq, rfl⟩)
            go_roundg (m - (k + 1))
            case measure => omega
            case rel =>
              refine ⟨k + 1, by omega, rfl, by go_num, by rw [Aes.rc_same k n (by omega) (.inr H2.out)], ((hrow.drewN _).set_ _ _).congr (fun i _ => upd_lt _ (fun j => U32 (Aes.gw W j)) (fun _ => U32 0#32) k ?_ i), (below_drewN hb _).setCell (Nat.le_refl _) _⟩
              rw [hkn'.out]
          · rw [if_neg h3] at hkn
            have hkn' : Hid _ := hkn
            clear hkn
            by_cases h8' : n = 8
            · have ht1 : ((n : Int) == 8) = true := by rw [beq_iff_eq]; omega
              have ht2 : ((k : Int) % 8 == 4) = false := by rw [beq_eq_false_iff_ne]; omega
              clear h3 h8'
              go_wp2
              go_roundg (m - (k + 1))
              case measure => omega
              case rel =>
                refine ⟨k + 1, by omega, rfl, by go_num, by rw [Aes.rc_same k n (by omega) (.inr H2.out)], (hrow.set_ _ _).congr (fun i _ => upd_lt _ (fun j => U32 (Aes.gw W j)) (fun _ => U32 0#32) k ?_ i), (hb).setCell (Nat.le_refl _) _⟩
                rw [hkn'.out]
            · have ht1 : ((n : Int) == 8) = false := by rw [beq_eq_false_iff_ne]; omega
              clear h3 h8'
              go_wp2
              go_roundg (m - (k + 1))
              case measure => omega
              case rel =>
                refine ⟨k + 1, by omega, rfl, by go_num, by rw [Aes.rc_same k n (by omega) (.inr H2.out)], (hrow.set_ _ _).congr (fun i _ => upd_lt _ (fun j => U32 (Aes.gw W j)) (fun _ => U32 0#32) k ?_ i), (hb).setCell (Nat.le_refl _) _⟩
                rw [hkn'.out]
    · obtain rfl : k = m := by omega
      go_wp2
      go_ret
      exact ⟨rfl, hrow.congr (fun i hi => by rw [if_pos hi]), hb⟩
theorem expand_c (g off n : Nat) (s : ByteArray) (w : World) (hs : s.size = 4 * n) (h4 : 4 ≤ n) (h8 : n ≤ 8) (hbox : ∀ i, i < 256 → w.cell? ⟨g, off + i, none⟩ = some (U8 (Aes.sb i))) (hg : g < w.heap.size) :
    Calls Tryz.prog 43 #[.pointer (some ⟨g, off, none⟩), .string s] w fun e w' => e = .returned (.slice (some ⟨w.heap.size, 0, none⟩) (Aes.words (byt s)).length (Aes.words (byt s)).length) ∧
      Row w' w.heap.size 103 (Aes.words (byt s)).length (fun j => U32 (Aes.gw (Aes.words (byt s)) j)) ∧ Below w.heap.size w w' := by
  have e : (byt s).length / 4 = n := by rw [length_byt]; omega
  have hl : (Aes.words (byt s)).length = 4 * (n + 7) := by rw [Aes.length_words, e]
  refine expand_w (Aes.words (byt s)) g off n _ s w ?_ hl hs h4 h8 hbox hg
  rw [hl]
  intro k hk
  unfold Aes.words
  rw [e]
  exact Aes.gw_next _ _ _ _ (by omega) hk
end Go.Proofs.YtdmbfimjbmfbaaaGreatDoor
namespace Go.Proofs.YtdmbfimjbmfbaaaGreatDoor
open Go.RowKit
set_option linter.unusedSimpArgs false
set_option linter.unusedVariables false
/-- what the cells of a cipher hold; D: the block of the words for the way back, once they are made -/
def ciph (bk : Nat → BitVec 8) (L g : Nat) (D : Option Nat) : Nat → Value := fun i =>
  if i < 256 then U8 (Aes.sb i) else if i = 256 then .slice (some ⟨g, 0, none⟩) L L else if i = 257 then .int .u32 (if D.isSome then 1 else 0)
  else if i = 258 then .int .i32 0 else if i = 259 then .int .u32 0 else if i < 516 then (if D.isSome then U8 (bk (i - 260)) else .int .u8 0)
  else match D with
    | none => .slice none 0 0
    | some u => .slice (some ⟨u, 0, none⟩) L L
/-- as it is before its words are laid in -/
def ciph0 (f : Nat → Value) : Nat → Value := fun i =>
  if i < 256 then f i else if i = 256 then .slice none 0 0 else if i = 257 then .int .u32 0 else if i = 258 then .int .i32 0 else if i = 259 then .int .u32 0
  else if i < 516 then .int .u8 0 else .slice none 0 0
/-- a cipher lies at block b -/
def CiphAt (bk : Nat → BitVec 8) (U : List (BitVec 32) → List (BitVec 32)) (w : World) (b : Nat) (W : List (BitVec 32)) : Prop :=
  ∃ (g : Nat) (D : Option Nat), Row w b 113 517 (ciph bk W.length g D) ∧ Row w g 103 W.length (fun j => U32 (Aes.gw W j)) ∧
    ∀ u, D = some u → u ≠ g ∧ Row w u 103 W.length (fun j => U32 (Aes.gw (U W) j))
theorem CiphAt.below {bk U} {w w' : World} {b : Nat} {W} (h : CiphAt bk U w b W) (hb : Below w.heap.size w w') : CiphAt bk U w' b W := by
  obtain ⟨g, D, h1, h2, h3⟩ := h
  exact ⟨g, D, h1.below hb h1.lt, h2.below hb h2.lt, fun u hu => ⟨(h3 u hu).1, (h3 u hu).2.below hb (h3 u hu).2.lt⟩⟩
theorem CiphAt.lt {bk U} {w : World} {b : Nat} {W} (h : CiphAt bk U w b W) : b < w.heap.size := by
  obtain ⟨g, D, h1, h2, h3⟩ := h
  exact h1.lt
theorem build_cipher (f : Nat → Value) (w : World) : (Instr.build 113 #[(0, .agg (arr 256 f))]).run Tryz.prog w = .ok (.agg (arr 517 (ciph0 f))) w := by kernel_rfl
theorem right_yes (n : Int) (w : World) (h : n = 16 ∨ n = 24 ∨ n = 32) : Calls Tryz.prog 41 #[.int .i64 n] w fun e w' => e = .returned (.bool true) ∧ w = w' :=
  (right_c n w).mono fun e w' ⟨he, hw⟩ => ⟨by rw [he, decide_eq_true h], hw⟩
/-- may a key have so many bytes? -/
def Aes.okKey (n : Nat) : Prop := n = 16 ∨ n = 24 ∨ n = 32
set_option maxHeartbeats 1000000 in
theorem new_c (bk : Nat → BitVec 8) (U : List (BitVec 32) → List (BitVec 32)) (s : ByteArray) (w : World) (h : Aes.okKey s.size) :
    Calls Tryz.prog 30 #[.string s] w fun e w' => ∃ b, e = .returned (.tuple #[.pointer (some ⟨b, 0, none⟩), .int .i64 0]) ∧ w.heap.size ≤ b ∧ CiphAt bk U w' b (Aes.words (byt s)) ∧ Below w.heap.size w w' := by
  obtain ⟨n, hn, h4, h8⟩ : ∃ n, s.size = 4 * n ∧ 4 ≤ n ∧ n ≤ 8 := by
    rcases h with h | h | h
    · exact ⟨4, by omega, by omega, by omega⟩
    · exact ⟨6, by omega, by omega, by omega⟩
    · exact ⟨8, by omega, by omega, by omega⟩
  have H : Hid _ := h
  have HN : Hid _ := hn
  clear h hn
  go_enter Tryz.func30, Tryz.ntmps30
  go_wp2_with (first | (go_at_call 41; refine (right_yes _ _ (by have := H.out; unfold Aes.okKey at this; omega)).mono ?_; rintro e w' ⟨rfl, rfl⟩) | (go_at_call 42; refine (box_c _).mono ?_; rintro e w1 ⟨rfl, hb1⟩) | (with_reducible show wpList _ _ _ (Oper.mk _ (Op.build _ _) _ _ _ _ :: _) _ _; refine wpList_build rfl 113 0 (.tmp 9) rfl (.agg (arr 256 fun j => U8 (Aes.sb j))) (.agg (arr 517 (ciph0 fun j => U8 (Aes.sb j)))) rfl (build_cipher fun j => U8 (Aes.sb j)) ?_) | fail)
  have hr1 := Row.of_arr w1 113 517 (ciph0 fun j => U8 (Aes.sb j))
  refine (expand_c w1.heap.size 0 n s _ HN.out h4 h8 (fun i hi => by rw [Nat.zero_add, hr1.cell (by omega)]; simp only [ciph0, if_pos hi]) (by simp)).mono ?_
  rintro e w2 ⟨rfl, hr2, hb2⟩
  rw [World.size_alloc] at hr2
  have hr1' := hr1.below hb2 (by simp)
  have c1 := hr1'.cell (i := 256) (by omega)
  have z1 := hr1'.frozen (i := 256) (by omega)
  have R1 := Lib.hid hr1'
  have R2 := Lib.hid hr2
  clear hr1 hr1' hr2
  go_wp2
  go_ret2
  refine ⟨_, rfl, hb1.size, ⟨w1.heap.size + 1, none, (R1.out.set_ _ _).congr (fun i hi => ?_), R2.out.other (by simp) _, fun u hu => by cases hu⟩, ?_⟩
  · by_cases e : i = 256
    · subst e; rfl
    · rw [if_neg e]
      simp only [ciph0, ciph, if_neg e, Option.isSome_none, Bool.false_eq_true, if_false]
  · exact ((hb1.alloc hb1.size _).trans (hb2.mono (by simp; have := hb1.size; omega))).setCell hb1.size _
end Go.Proofs.YtdmbfimjbmfbaaaGreatDoor
namespace Go.Proofs.YtdmbfimjbmfbaaaGreatDoor
open Go.RowKit
set_option linter.unusedSimpArgs false
set_option linter.unusedVariables false
theorem storeStep (x : Nat → BitVec 32) (k i : Nat) (hi : i < 16) :
    (if i = 4 * k + 3 then U8 ((x k).setWidth 8) else if i = 4 * k + 2 then U8 ((x k >>> 8).setWidth 8) else if i = 4 * k + 1 then U8 ((x k >>> 16).setWidth 8) else if i = 4 * k then U8 ((x k >>> 24).setWidth 8) else if i < 4 * k then U8 (Aes.byteOf (x (i / 4)) (i % 4)) else U8 0#8) =
      if i < 4 * (k + 1) then U8 (Aes.byteOf (x (i / 4)) (i % 4)) else U8 0#8 := by
  by_cases h3 : i = 4 * k + 3
  · subst h3
    rw [if_pos rfl, if_pos (by omega), show (4 * k + 3) / 4 = k from by omega, show (4 * k + 3) % 4 = 3 from by omega]
    simp [Aes.byteOf]
  rw [if_neg h3]
  by_cases h2 : i = 4 * k + 2
  · subst h2
    rw [if_pos rfl, if_pos (by omega), show (4 * k + 2) / 4 = k from by omega, show (4 * k + 2) % 4 = 2 from by omega]
    simp [Aes.byteOf]
  rw [if_neg h2]
  by_cases h1 : i = 4 * k + 1
  · subst h1
    rw [if_pos rfl, if_pos (by omega), show (4 * k + 1) / 4 = k from by omega, show (4 * k + 1) % 4 = 1 from by omega]
    simp [Aes.byteOf]
  rw [if_neg h1]
  by_cases h0 : i = 4 * k
  · subst h0
    rw [if_pos rfl, if_pos (by omega), show (4 * k) / 4 = k from by omega, show (4 * k) % 4 = 0 from by omega]
    simp [Aes.byteOf]
  rw [if_neg h0]
  by_cases h : i < 4 * k
  · rw [if_pos h, if_pos (by omega)]
  · rw [if_neg h, if_neg (by omega)]

set_option maxHeartbeats 4000000 in
theorem store_c (x : Nat → BitVec 32) (w : World) :
    Calls Tryz.prog 47 #[.agg #[U32 (x 0), U32 (x 1), U32 (x 2), U32 (x 3)]] w fun e w' => e = .returned (.string (str (Aes.block x))) ∧ Below w.heap.size w w' := by
  go_enter Tryz.func47, Tryz.ntmps47
  go_wp2
  go_loopw [4, 5] (fun _ i wr => ∃ k : Nat, k ≤ 4 ∧ i = .int .i64 k ∧ Row wr (w.heap.size + 1) 74 16 (fun j => if j < 4 * k then U8 (Aes.byteOf (x (j / 4)) (j % 4)) else U8 0#8) ∧ Row wr w.heap.size 116 4 (fun j => U32 (x j)) ∧ Below w.heap.size w wr) (fun _ i _ => 4 - (intOf i).toNat)
  case atStart =>
    refine ⟨0, by omega, rfl, ?_, ?_, ((Below.refl _ _).alloc (Nat.le_refl _) _).alloc (by simp) _⟩
    · have h := Row.fresh (w := w.alloc (.cells #[U32 (x 0), U32 (x 1), U32 (x 2), U32 (x 3)] 116)) (c := Array.replicate 16 (.int .u8 0)) (t := 74) (n := 16) (f := fun _ => U8 0#8) (by simp) (fun i hi => by simp [hi]; rfl)
      rw [World.size_alloc] at h
      exact h.congr (fun i _ => by rw [if_neg (by omega)])
    · exact (Row.fresh (n := 4) (f := fun j => U32 (x j)) rfl (all4 rfl rfl rfl rfl)).alloc _
  case round =>
    obtain ⟨k, hk, rfl, hrow, hx, hb⟩ := hrel
    by_cases hlt : k < 4
    · have h0 := hrow.cell (i := 4 * k) (by omega)
      have h1 := hrow.cell (i := 4 * k + 1) (by omega)
      have h2 := hrow.cell (i := 4 * k + 2) (by omega)
      have h3 := hrow.cell (i := 4 * k + 3) (by omega)
      rw [if_neg (by omega)] at h0 h1 h2 h3
      have z0 := hrow.frozen (i := 4 * k) (by omega)
      have z1 := hrow.frozen (i := 4 * k + 1) (by omega)
      have z2 := hrow.frozen (i := 4 * k + 2) (by omega)
      have z3 := hrow.frozen (i := 4 * k + 3) (by omega)
      have hc := hx.cell (i := k) hlt
      go_wp2
      have w0 : IntKind.i64.wrap (4 * (k : Int)) = 4 * (k : Int) := IntWalk.i64_in _ (by omega)
      have w1 : IntKind.i64.wrap (4 * (k : Int) + 1) = 4 * (k : Int) + 1 := IntWalk.i64_in _ (by omega)
      have w2 : IntKind.i64.wrap (4 * (k : Int) + 2) = 4 * (k : Int) + 2 := IntWalk.i64_in _ (by omega)
      have w3 : IntKind.i64.wrap (4 * (k : Int) + 3) = 4 * (k : Int) + 3 := IntWalk.i64_in _ (by omega)
      have p0 : (0 : Int) ≤ 4 * (k : Int) := by omega
      have p1 : (0 : Int) ≤ 4 * (k : Int) + 1 := by omega
      have p2 : (0 : Int) ≤ 4 * (k : Int) + 2 := by omega
      have p3 : (0 : Int) ≤ 4 * (k : Int) + 3 := by omega
      have q0 : 4 * (k : Int) < 16 := by omega
      have q1 : 4 * (k : Int) + 1 < 16 := by omega
      have q2 : 4 * (k : Int) + 2 < 16 := by omega
      have q3 : 4 * (k : Int) + 3 < 16 := by omega
      have t0 : (4 * (k : Int)).toNat = 4 * k := by omega
      have t1 : (4 * (k : Int) + 1).toNat = 4 * k + 1 := by omega
      have t2 : (4 * (k : Int) + 2).toNat = 4 * k + 2 := by omega
      have t3 : (4 * (k : Int) + 3).toNat = 4 * k + 3 := by omega
      go_region_held3 (fun w' => w'.cell? ⟨w.heap.size, k, none⟩ = some (U32 (x k))) (go_keep) (first | fail)
      go_wp2
      refine ⟨⟨k + 1, by omega, by go_num, ?_, ?_, ?_⟩, by simp [intOf]; omega⟩
      · exact ((((hrow.drew.set_ _ _).set_ _ _).set_ _ _).set_ _ _).congr (fun i hi => storeStep x k i hi)
      · exact (((hx.drew.other (by simp) _).other (by simp) _).other (by simp) _).other (by simp) _
      · exact (((hb.drew.setCell (by simp) _).setCell (by simp) _).setCell (by simp) _).setCell (by simp) _
    · obtain rfl : k = 4 := by omega
      have hcv := run_string_of (P := Tryz.prog) wr 55 9 5 (w.heap.size + 1) 0 16 16 (Aes.block x) (Aes.length_block x) Tryz.underlying55 Tryz.underlying5 Tryz.underlying9 (fun j hj => by
        rw [Nat.zero_add, hrow.cell hj, if_pos (by omega), Aes.gb_block x j hj])
      go_wp2
      go_ret
      exact ⟨rfl, hb⟩
end Go.Proofs.YtdmbfimjbmfbaaaGreatDoor
