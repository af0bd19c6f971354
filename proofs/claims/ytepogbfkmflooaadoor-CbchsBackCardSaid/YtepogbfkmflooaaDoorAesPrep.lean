/-
  AES: what decrypting wants is made ready. Conditions as each says.
-/
import Derived.Test.YtepogbfkmflooaaDoorAesNew
import Derived.Test.YtepogbfkmflooaaDoorAesBackPlain
import Derived.Test.YtepogbfkmflooaaDoorAesEnc
namespace Go.Proofs.YtepogbfkmflooaaDoor
open Go.RowKit
set_option linter.unusedSimpArgs false
set_option linter.unusedVariables false
/-- the way back, as it fills -/
def Aes.bt : Nat → List (BitVec 8)
  | 0 => List.replicate 256 0#8
  | k + 1 => (Aes.bt k).set (Aes.sb k).toNat (BitVec.ofNat 8 k)
theorem Aes.length_bt (k : Nat) : (Aes.bt k).length = 256 := by
  induction k with
  | zero => exact List.length_replicate
  | succ k ih => simp [Aes.bt, ih]
theorem gr_refl (w : World) (b : Nat) : w.grownBy w (some b) := ⟨rfl, rfl, rfl, Nat.le_refl _, fun _ _ _ => rfl⟩
theorem gr_trans {w a c : World} {b : Nat} (h : w.grownBy a (some b)) (k : a.grownBy c (some b)) : w.grownBy c (some b) :=
  ⟨k.os.trans h.os, k.tape.trans h.tape, k.output.trans h.output, Nat.le_trans h.size k.size, fun i hi hn => (k.block i (Nat.lt_of_lt_of_le hi h.size) hn).trans (h.block i hi hn)⟩
theorem gr_below {w a c : World} {b : Nat} (h : w.grownBy a (some b)) (k : Below w.heap.size a c) : w.grownBy c (some b) :=
  ⟨k.os.trans h.os, k.tape.trans h.tape, k.output.trans h.output, Nat.le_trans h.size k.size, fun i hi hn => (k.block i hi).trans (h.block i hi hn)⟩
theorem gr_drewN {w a : World} {b : Nat} (h : w.grownBy a (some b)) (n : Nat) : w.grownBy (a.drewN n) (some b) := gr_below h (below_drewN (Below.refl _ _) n)
theorem gr_drew {w a : World} {b : Nat} (h : w.grownBy a (some b)) : w.grownBy a.drew (some b) := gr_below h (Below.refl _ _).drew
theorem gr_set {w a : World} {b : Nat} (h : w.grownBy a (some b)) {p : Addr} (hp : p.block = b ∨ w.heap.size ≤ p.block) (u : Value) : w.grownBy (a.setCell p u) (some b) :=
  ⟨h.os, h.tape, h.output, Nat.le_trans h.size (by simp [World.setCell]), fun i hi hn => (Below.heap_setCell _ _ _ _ (by rcases hp with e | e; exact fun e2 => hn (by rw [e2, e]); omega)).trans (h.block i hi hn)⟩
theorem gr_alloc {w a : World} {b : Nat} (h : w.grownBy a (some b)) (o : Obj) : w.grownBy (a.alloc o) (some b) := gr_below h ((Below.refl _ _).alloc h.size o)
theorem Aes.bt_bk : Aes.bt 256 = (List.range 256).map Aes.bk := by decide +kernel
theorem Aes.gb_bt (i : Nat) (h : i < 256) : gb (Aes.bt 256) i = Aes.bk i := by
  rw [Aes.bt_bk]; simp [gb, h]
theorem unmix_c (x : BitVec 32) (w : World) : Calls Tryd.prog 75 #[U32 x] w fun e w' => e = .returned (U32 (Aes.unmix x)) ∧ w = w' := by
  go_enter Tryd.func75, Tryd.ntmps75
  go_wp2_with (first | (go_at_call 87; refine (twice_c _ _).mono ?_; rintro e w' ⟨rfl, rfl⟩) | (go_at_call 70; refine (mix_c _ _).mono ?_; rintro e w' ⟨rfl, rfl⟩))
  go_ret
  exact ⟨rfl, rfl⟩
/-- the cipher's cells while it is made ready -/
def cipP (L g : Nat) (l : List (BitVec 8)) (v : Value) : Nat → Value := fun i =>
  if i < 256 then U8 (Aes.sb i) else if i = 256 then .slice (some ⟨g, 0, none⟩) L L else if i = 257 then .int .u32 0
  else if i = 258 then .int .i32 1 else if i = 259 then .int .u32 0 else if i < 516 then U8 (gb l (i - 260)) else v
theorem cipP_in (L g : Nat) (l : List (BitVec 8)) (v : Value) (j : Nat) (h : j < 256) : cipP L g l v (260 + j) = U8 (gb l j) := by
  unfold cipP
  rw [if_neg (by omega), if_neg (by omega), if_neg (by omega), if_neg (by omega), if_neg (by omega), if_pos (by omega), show 260 + j - 260 = j by omega]
theorem cipP_out (L g : Nat) (l l' : List (BitVec 8)) (v : Value) (i : Nat) (h : ¬ (260 ≤ i ∧ i < 516)) : cipP L g l v i = cipP L g l' v i := by
  unfold cipP
  by_cases e : i < 516
  · by_cases h1 : i < 256
    · rw [if_pos h1, if_pos h1]
    · rw [if_neg h1, if_neg h1]
      by_cases h2 : i = 256
      · rw [if_pos h2, if_pos h2]
      · rw [if_neg h2, if_neg h2]
        by_cases h3 : i = 257
        · rw [if_pos h3, if_pos h3]
        · rw [if_neg h3, if_neg h3]
          by_cases h4 : i = 258
          · rw [if_pos h4, if_pos h4]
          · rw [if_neg h4, if_neg h4, if_pos (by omega), if_pos (by omega)]
  · simp only [if_neg e]
theorem cipP_last (L g : Nat) (l : List (BitVec 8)) (v v' : Value) (i : Nat) (h : i < 517) : (if i = 516 then v' else cipP L g l v i) = cipP L g l v' i := by
  by_cases e : i = 516
  · rw [if_pos e, e]; rfl
  · rw [if_neg e]
    unfold cipP
    have h5 : i < 516 := by omega
    simp only [if_pos h5]
theorem cipP_set (L g k : Nat) (v : Value) (i : Nat) (hk : k < 256) : (if i = 260 + idx (Aes.sb k) then .int .u8 (k : Int) else cipP L g (Aes.bt k) v i) = cipP L g (Aes.bt (k + 1)) v i := by
  have hi := idx_lt (Aes.sb k)
  rw [U8_raw (k : Int) (by omega), Int.toNat_natCast]
  by_cases h : 260 ≤ i ∧ i < 516
  · obtain ⟨j, rfl⟩ : ∃ j, i = 260 + j := ⟨i - 260, by omega⟩
    rw [cipP_in _ _ _ _ _ (by omega), cipP_in _ _ _ _ _ (by omega)]
    show _ = U8 (gb ((Aes.bt k).set (Aes.sb k).toNat (BitVec.ofNat 8 k)) j)
    rw [Aes.gb_set _ _ _ _ (by rw [Aes.length_bt]; omega)]
    have hx : idx (Aes.sb k) = (Aes.sb k).toNat := rfl
    by_cases e : j = (Aes.sb k).toNat
    · rw [if_pos (by omega), if_pos e]
    · rw [if_neg (by omega), if_neg e]
  · rw [if_neg (by omega)]
    exact cipP_out _ _ _ _ _ _ h
set_option maxHeartbeats 2000000 in
set_option maxRecDepth 100000 in
theorem prepare_c (B b g L R : Nat) (W : List (BitVec 32)) (w : World) (hL : W.length = L) (hR : L = 4 * (R + 1)) (hR1 : 1 ≤ R) (hR2 : R ≤ 20) (hB : B ≤ b)
    (hb : Row w b 112 517 (cipP L g (Aes.bt 0) (.slice none 0 0))) (hg : Row w g 102 L (fun j => U32 (Aes.gw W j))) :
    Calls Tryd.prog 74 #[.pointer (some ⟨b, 0, none⟩)] w fun e w' => e = .returned (.tuple #[]) ∧
      Row w' b 112 517 (cipP L g (Aes.bt 256) (.slice (some ⟨w.heap.size, 0, none⟩) L L)) ∧ Row w' g 102 L (fun j => U32 (Aes.gw W j)) ∧
      Row w' w.heap.size 102 L (fun j => U32 (Aes.gw (Aes.undo W) j)) ∧ w.grownBy w' (some b) := by
  have hbg : b ≠ g := hb.ne_ hg (by decide)
  have hblt := hb.lt
  have HL := Lib.hid hL
  have HR := Lib.hid hR
  have HB := Lib.hid hb
  have HG := Lib.hid hg
  clear hL hR hb hg
  go_enter Tryd.func74, Tryd.ntmps74
  go_wp2
  go_loopg [2, 6] 256 (fun d _ i wr => ∃ k : Nat, k ≤ 256 ∧ d = 256 - k ∧ i = .int .i64 k ∧ Row wr b 112 517 (cipP L g (Aes.bt k) (.slice none 0 0)) ∧ Row wr g 102 L (fun j => U32 (Aes.gw W j)) ∧ wr.heap.size = w.heap.size ∧ w.grownBy wr (some b))
  case atStart => exact ⟨0, by omega, rfl, rfl, HB.out, HG.out, rfl, gr_refl _ _⟩
  case round =>
    clear HB HG
    obtain ⟨k, hk, rfl, rfl, hrow, hrg, hsz, hbel⟩ := hrel
    by_cases hlt : k < 256
    · have hi := idx_lt (Aes.sb k)
      have c1 := hrow.cell (i := k) (by omega)
      rw [show cipP L g (Aes.bt k) (.slice none 0 0) k = U8 (Aes.sb k) from if_pos hlt] at c1
      have c2 := hrow.cell (i := 260 + idx (Aes.sb k)) (by omega)
      have z2 := hrow.frozen (i := 260 + idx (Aes.sb k)) (by omega)
      have HROW := Lib.hid hrow
      have HRG := Lib.hid hrg
      clear hrow hrg
      go_wp2
      refine wp_region_tailD 11 (by kernel_rfl) (by kernel_rfl) ?_
      simp only [List.take_succ_cons, List.take_zero, List.drop_succ_cons, List.drop_zero]
      repeat (go_big_quiet_step (fail))
      refine wpQuiet_nil ?_
      intro w' hw'; obtain ⟨nq, rfl⟩ := hw'
      go_wp2
      go_roundg (256 - (k + 1))
      case measure => omega
      case rel =>
        refine ⟨k + 1, by omega, rfl, by go_num, ((HROW.out.drewN nq).set_ _ _).congr (fun i hi => cipP_set L g k _ i hlt), (HRG.out.drewN nq).other (fun h => hbg h.symm) _, by simpa using hsz, gr_set (gr_drewN hbel _) (Or.inl rfl) _⟩
    · have e256 : k = 256 := by omega
      rw [e256] at hrow
      have c1 := hrow.cell (i := 256) (by omega)
      rw [show cipP L g (Aes.bt 256) (.slice none 0 0) 256 = .slice (some ⟨g, 0, none⟩) L L from rfl] at c1
      have c2 := hrow.cell (i := 516) (by omega)
      have z2 := hrow.frozen (i := 516) (by omega)
      have hrow' := hrow.congr (g := fun i => cipP L g (Aes.bt 256) (.slice none 0 0) i) (fun _ _ => rfl)
      have HROW := Lib.hid hrow
      have HRG := Lib.hid hrg
      clear hrow hrow' hrg
      have hmk : ∀ w, (Instr.makeSlice 98 (.int .i64 (L : Int)) (.int .i64 (L : Int))).run Tryd.prog w = .ok (.slice (some ⟨w.heap.size, 0, none⟩) L L) (w.alloc (.cells (madeCells #[.int .u32 0] L) 102)) := fun w =>
        run_make_row' (P := Tryd.prog) 98 102 (.int .u32 0) 4 Tryd.underlying98 Tryd.infoU32 rfl .i64 .i64 L (by have := HR.out; omega) (by have := HR.out; omega) w
      have hL60 : L ≤ 84 := by have := HR.out; omega
      have H256 := Lib.hid e256
      have hnlt : ¬ (k : Int) < 256 := by omega
      clear e256 hlt hk
      go_wp2
      clear hmk
      obtain ⟨v, hv⟩ : ∃ v : Value, v = .slice (some ⟨w.heap.size, 0, none⟩) L L := ⟨_, rfl⟩
      have e : (wr.setCell ⟨b, 516, none⟩ v).heap.size = w.heap.size := by rw [← hsz]; simp
      have hrow2 := ((HROW.out.set_ 516 v).alloc (.cells (madeCells #[.int .u32 0] L) 102)).congr (g := cipP L g (Aes.bt 256) v) (fun i hi => cipP_last _ _ _ _ _ _ hi)
      have hrg2 := ((HRG.out.other (a := ⟨b, 516, none⟩) (fun h => hbg h.symm) v).alloc (.cells (madeCells #[.int .u32 0] L) 102))
      have hru2 := Row.made (wr.setCell ⟨b, 516, none⟩ v) (.int .u32 0) L 102
      rw [e] at hru2
      have hbel2 : w.grownBy ((wr.setCell ⟨b, 516, none⟩ v).alloc (.cells (madeCells #[.int .u32 0] L) 102)) (some b) := gr_alloc (gr_set hbel (Or.inl rfl) v) _
      rw [hv] at hrow2 hrg2 hru2 hbel2
      have hbu : w.heap.size ≠ b := by omega
      have hgu : w.heap.size ≠ g := fun h => by have := HRG.out.lt; omega
      clear e hv
      have HB2 := Lib.hid hrow2
      have HG2 := Lib.hid hrg2
      have HU2 := Lib.hid hru2
      have HW2 := Lib.hid hbel2
      clear hrow2 hrg2 hru2 hbel2 HROW HRG hbel c1 c2 z2
      go_loopg [4, 5, 33] L (fun d _ _ i wi => ∃ j : Nat, j ≤ L ∧ d = L - j ∧ i = .int .i64 j ∧ Row wi b 112 517 (cipP L g (Aes.bt 256) (.slice (some ⟨w.heap.size, 0, none⟩) L L)) ∧
        Row wi g 102 L (fun x => U32 (Aes.gw W x)) ∧ Row wi w.heap.size 102 L (fun x => if x < j then U32 (Aes.gw (Aes.undo W) x) else U32 0#32) ∧ w.grownBy wi (some b))
      case atStart => exact ⟨0, by omega, by omega, rfl, HB2.out, HG2.out, HU2.out.congr (fun i _ => by rw [if_neg (by omega)]; rfl), HW2.out⟩
      case round =>
        clear HB2 HG2 HU2 HW2
        obtain ⟨j, hj, rfl, rfl, hrow, hrg, hru, hbel⟩ := hrel
        by_cases hlt : j < L
        · have hi0 : 0 ≤ (L : Int) - 4 - (j : Int) / 4 * 4 + (j : Int) % 4 := by have := HR.out; omega
          have hi1 : (L : Int) - 4 - (j : Int) / 4 * 4 + (j : Int) % 4 < (L : Int) := by have := HR.out; omega
          have c0 := hrow.cell (i := 256) (by omega)
          rw [show cipP L g (Aes.bt 256) (.slice (some ⟨w.heap.size, 0, none⟩) L L) 256 = .slice (some ⟨g, 0, none⟩) L L from rfl] at c0
          have c1 := hrg.cell (i := L - 4 - j / 4 * 4 + j % 4) (by have := HR.out; omega)
          have c1i : wr.cell? ⟨g, ((L : Int) - 4 - (j : Int) / 4 * 4 + (j : Int) % 4).toNat, none⟩ = some (U32 (Aes.gw W (L - 4 - j / 4 * 4 + j % 4))) := by
            rw [show ((L : Int) - 4 - (j : Int) / 4 * 4 + (j : Int) % 4).toNat = L - 4 - j / 4 * 4 + j % 4 by have := HR.out; omega]
            exact c1
          have c2 := hrow.cell (i := 516) (by omega)
          rw [show cipP L g (Aes.bt 256) (.slice (some ⟨w.heap.size, 0, none⟩) L L) 516 = .slice (some ⟨w.heap.size, 0, none⟩) L L from rfl] at c2
          have c3 := hru.cell (i := j) hlt
          rw [if_neg (Nat.lt_irrefl j)] at c3
          have z3 := hru.frozen (i := j) hlt
          have hu : Aes.gw (Aes.undo W) j = Aes.undoW W j := Aes.gw_undo _ _ (by rw [HL.out]; exact hlt)
          rw [Aes.undoW, HL.out] at hu
          have HU := Lib.hid hu
          have HROW := Lib.hid hrow
          have HRG := Lib.hid hrg
          have HRU := Lib.hid hru
          clear hu hrow hrg hru
          by_cases hm : 4 ≤ j ∧ j < L - 4
          · have hm1 : (4 : Int) ≤ (j : Int) := by omega
            have hm2 : (j : Int) < (L : Int) - 4 := by omega
            have HM := Lib.hid hm
            clear hm
            go_wp2_with (first | (go_at_call 75; refine (unmix_c _ _).mono ?_; rintro e w' ⟨rfl, rfl⟩))
            go_roundg (L - (j + 1))
            case measure => omega
            case rel =>
              refine ⟨j + 1, by omega, rfl, by go_num, HROW.out.other (fun h => hbu h.symm) _, HRG.out.other (fun h => hgu h.symm) _, (HRU.out.set_ _ _).congr (fun i _ => upd_lt _ (fun x => U32 (Aes.gw (Aes.undo W) x)) (fun _ => U32 0#32) j ?_ i), gr_set hbel (Or.inr (Nat.le_refl _)) _⟩
              rw [HU.out, if_pos HM.out]
          · have HM := Lib.hid hm
            by_cases h4 : 4 ≤ j
            · have hm1 : (4 : Int) ≤ (j : Int) := by omega
              have hm2 : ¬ (j : Int) < (L : Int) - 4 := by omega
              clear hm h4
              go_wp2
              go_roundg (L - (j + 1))
              case measure => omega
              case rel =>
                refine ⟨j + 1, by omega, rfl, by go_num, HROW.out.other (fun h => hbu h.symm) _, HRG.out.other (fun h => hgu h.symm) _, (HRU.out.set_ _ _).congr (fun i _ => upd_lt _ (fun x => U32 (Aes.gw (Aes.undo W) x)) (fun _ => U32 0#32) j ?_ i), gr_set hbel (Or.inr (Nat.le_refl _)) _⟩
                rw [HU.out, if_neg HM.out]
            · have hm1 : ¬ (4 : Int) ≤ (j : Int) := by omega
              clear hm h4
              go_wp2
              go_roundg (L - (j + 1))
              case measure => omega
              case rel =>
                refine ⟨j + 1, by omega, rfl, by go_num, HROW.out.other (fun h => hbu h.symm) _, HRG.out.other (fun h => hgu h.symm) _, (HRU.out.set_ _ _).congr (fun i _ => upd_lt _ (fun x => U32 (Aes.gw (Aes.undo W) x)) (fun _ => U32 0#32) j ?_ i), gr_set hbel (Or.inr (Nat.le_refl _)) _⟩
                rw [HU.out, if_neg HM.out]
        · obtain rfl : j = L := by omega
          have HROW := Lib.hid hrow
          have HRG := Lib.hid hrg
          have HRU := Lib.hid hru
          clear hrow hrg hru
          go_wp2
          go_end0
          exact ⟨rfl, HROW.out, HRG.out, HRU.out.congr (fun i hi => by rw [if_pos hi]), hbel⟩
end Go.Proofs.YtepogbfkmflooaaDoor
