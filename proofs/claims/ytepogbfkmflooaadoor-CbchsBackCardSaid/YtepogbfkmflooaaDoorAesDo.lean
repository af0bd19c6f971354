/-
  AES: behind the Once all is ready, whether it was or not. Conditions as each says.
-/
import Derived.Test.YtepogbfkmflooaaDoorAesOnce
import Derived.Test.YtepogbfkmflooaaDoorAesPrep
namespace Go.Proofs.YtepogbfkmflooaaDoor
open Go.RowKit
set_option linter.unusedSimpArgs false
set_option linter.unusedVariables false
theorem cip_start (L g i : Nat) (h : i < 517) : (if i = 258 then .int .i32 1 else ciph Aes.bk L g none i) = cipP L g (Aes.bt 0) (.slice none 0 0) i := by
  have hz : ∀ j, j < 256 → U8 (gb (Aes.bt 0) j) = .int .u8 0 := fun j hj => by
    rw [show gb (Aes.bt 0) j = 0#8 from Aes.gb_zeros j hj]; rfl
  rcases (by omega : i < 256 ∨ i = 256 ∨ i = 257 ∨ i = 258 ∨ i = 259 ∨ i = 516 ∨ (260 ≤ i ∧ i < 516)) with e | e | e | e | e | e | e
  · simp only [ciph, cipP, if_pos e, show ¬ i = 258 by omega, show ¬ i = 257 by omega, if_false]
  · subst e; rfl
  · subst e; rfl
  · subst e; rfl
  · subst e; rfl
  · subst e; rfl
  · simp only [ciph, cipP, show ¬ i = 256 by omega, show ¬ i = 257 by omega, show ¬ i = 258 by omega, show ¬ i = 259 by omega, show ¬ i < 256 by omega, e.2, if_false, if_true]
    rw [hz (i - 260) (by omega)]
    rfl
theorem cip_end (L g u i : Nat) (h : i < 517) : (if i = 258 then .int .i32 0 else if i = 257 then .int .u32 1 else cipP L g (Aes.bt 256) (.slice (some ⟨u, 0, none⟩) L L) i) = ciph Aes.bk L g (some u) i := by
  rcases (by omega : i < 256 ∨ i = 256 ∨ i = 257 ∨ i = 258 ∨ i = 259 ∨ i = 516 ∨ (260 ≤ i ∧ i < 516)) with e | e | e | e | e | e | e
  · simp only [ciph, cipP, if_pos e, show ¬ i = 258 by omega, show ¬ i = 257 by omega, if_false]
  · subst e; rfl
  · subst e; rfl
  · subst e; rfl
  · subst e; rfl
  · subst e; rfl
  · simp only [ciph, cipP, show ¬ i = 256 by omega, show ¬ i = 257 by omega, show ¬ i = 258 by omega, show ¬ i = 259 by omega, show ¬ i < 256 by omega, e.2, if_false, if_true]
    rw [Aes.gb_bt (i - 260) (by omega)]
    rfl
def Ready (w : World) (b : Nat) (W : List (BitVec 32)) (g u : Nat) : Prop :=
  u ≠ g ∧ Row w b 112 517 (ciph Aes.bk W.length g (some u)) ∧ Row w g 102 W.length (fun j => U32 (Aes.gw W j)) ∧ Row w u 102 W.length (fun j => U32 (Aes.gw (Aes.undo W) j))
theorem Ready.ciph {w : World} {b g u : Nat} {W : List (BitVec 32)} (h : Ready w b W g u) : CiphAt Aes.bk Aes.undo w b W :=
  ⟨g, some u, h.2.1, h.2.2.1, fun u' hu => by cases hu; exact ⟨h.1, h.2.2.2⟩⟩
theorem Ready.below {w w' : World} {b g u : Nat} {W : List (BitVec 32)} (h : Ready w b W g u) (hb : Below w.heap.size w w') : Ready w' b W g u :=
  ⟨h.1, h.2.1.below hb h.2.1.lt, h.2.2.1.below hb h.2.2.1.lt, h.2.2.2.below hb h.2.2.2.lt⟩
theorem do_c (B b R : Nat) (W : List (BitVec 32)) (w : World) (hL : W.length = 4 * (R + 1)) (hR1 : 1 ≤ R) (hR2 : R ≤ 20) (hB : B ≤ b) (h : CiphAt Aes.bk Aes.undo w b W) :
    Calls Tryd.prog 73 #[.pointer (some ⟨b, 257, none⟩), .func (.func 74) #[.pointer (some ⟨b, 0, none⟩)] #[]] w fun e w' => e = .returned (.tuple #[]) ∧
      w.grownBy w' (some b) ∧ ∃ g u, Ready w' b W g u := by
  obtain ⟨g, D, h1, h2, h3⟩ := h
  cases D with
  | some u =>
    refine (once_done b _ w (h1.cell (i := 257) (by omega))).mono ?_
    rintro e w' ⟨rfl, rfl⟩
    exact ⟨rfl, gr_refl _ _, g, u, (h3 u rfl).1, h1, h2, (h3 u rfl).2⟩
  | none =>
    have hbg : b ≠ g := h1.ne_ h2 (by decide)
    have hlt := h1.lt
    have r1 := (h1.set_ 258 (.int .i32 1)).congr (g := cipP W.length g (Aes.bt 0) (.slice none 0 0)) (fun i hi => cip_start _ _ _ hi)
    have r2 := h2.other (a := ⟨b, 258, none⟩) (fun h => hbg h.symm) (.int .i32 1)
    have hp := prepare_c B b g W.length R W (w.setCell ⟨b, 258, none⟩ (.int .i32 1)) rfl hL hR1 hR2 hB r1 r2
    refine (once_first b _ w (h1.cell (i := 257) (by omega)) (h1.cell (i := 258) (by omega)) (h1.frozen (i := 258) (by omega)) hp ?_).mono ?_
    · rintro w' ⟨a1, a2, a3, a4⟩
      exact ⟨a1.cell (i := 257) (by omega), a1.cell (i := 258) (by omega), a1.frozen (by omega), a1.frozen (by omega)⟩
    · rintro e w'' ⟨rfl, w', ⟨a1, a2, a3, a4⟩, rfl⟩
      have hs : (w.setCell ⟨b, 258, none⟩ (.int .i32 1)).heap.size = w.heap.size := by simp
      rw [hs] at a1 a3
      have hbu : w.heap.size ≠ b := by omega
      have hgu : w.heap.size ≠ g := fun h => by have := h2.lt; omega
      refine ⟨rfl, ?_, g, w.heap.size, hgu, ?_, ?_, ?_⟩
      · exact gr_set (gr_set (gr_drew (gr_trans (gr_set (gr_refl w b) (Or.inl rfl) _) a4)) (Or.inl rfl) _) (Or.inl rfl) _
      · exact ((a1.drew.set_ 257 _).set_ 258 _).congr (fun i hi => cip_end _ _ _ _ hi)
      · exact (a2.drew.other (fun h => hbg h.symm) _).other (fun h => hbg h.symm) _
      · exact (a3.drew.other hbu _).other hbu _
end Go.Proofs.YtepogbfkmflooaaDoor
