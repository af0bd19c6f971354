/-
  AES: behind the Once all is ready, whether it was or not. Conditions as each says. The condition on the two tables, opened: they lie as the program's text lays them. No conditions. Structs of texts, numbers and bytes as arguments. No conditions.
-/
import Derived.Test.YtepogbfkmflooaaGreatDoorAesOnce
import Derived.Test.YtepogbfkmflooaaGreatDoorAesPrep
import Derived.Test.YtepogbfkmflooaaGreatDoorShaTab
import Derived.Lib.LaidTab
import Derived.LaidMore
import Derived.ChangeArms
import Derived.ProofKit
namespace Go.Proofs.YtepogbfkmflooaaGreatDoor
open Go.RowKit
set_option linter.unusedSimpArgs false
set_option linter.unusedVariables false
theorem cip_start (L g i : Nat) (h : i < 517) : (if i = 258 then .int .i32 1 else ciph Aes.bk L g none i) = cipP L g (Aes.bt 0) (.slice none 0 0) i := by
  have hz : ∀ j, j < 256 → U8 (gb (Aes.bt 0) j) = .int .u8 0 := fun j hj => by
    rw [show gb (Aes.bt 0) j = 0#8 from Aes.gb_zeros j hj]; rfl
  rcases (by omega : i < 256 ∨ i = 256 ∨ i = 257 ∨ i = 258 ∨ i = 259 ∨ i = 516 ∨ (260 ≤ i ∧ i < 516)) with e | e | e | e | e | e | e
  · simp only [ciph, cipP, if_pos e, show ¬ i = 258 by omega, show ¬ i = 257 by omega, if_false]
  · subst e; rfl
  · subst e; rfl
  · subst e; rfl
  · subst e; rfl
  · subst e; rfl
  · simp only [ciph, cipP, show ¬ i = 256 by omega, show ¬ i = 257 by omega, show ¬ i = 258 by omega, show ¬ i = 259 by omega, show ¬ i < 256 by omega, e.2, if_false, if_true]
    rw [hz (i - 260) (by omega)]
    rfl
theorem cip_end (L g u i : Nat) (h : i < 517) : (if i = 258 then .int .i32 0 else if i = 257 then .int .u32 1 else cipP L g (Aes.bt 256) (.slice (some ⟨u, 0, none⟩) L L) i) = ciph Aes.bk L g (some u) i := by
  rcases (by omega : i < 256 ∨ i = 256 ∨ i = 257 ∨ i = 258 ∨ i = 259 ∨ i = 516 ∨ (260 ≤ i ∧ i < 516)) with e | e | e | e | e | e | e
  · simp only [ciph, cipP, if_pos e, show ¬ i = 258 by omega, show ¬ i = 257 by omega, if_false]
  · subst e; rfl
  · subst e; rfl
  · subst e; rfl
  · subst e; rfl
  · subst e; rfl
  · simp only [ciph, cipP, show ¬ i = 256 by omega, show ¬ i = 257 by omega, show ¬ i = 258 by omega, show ¬ i = 259 by omega, show ¬ i < 256 by omega, e.2, if_false, if_true]
    rw [Aes.gb_bt (i - 260) (by omega)]
    rfl
def Ready (w : World) (b : Nat) (W : List (BitVec 32)) (g u : Nat) : Prop :=
  u ≠ g ∧ Row w b 115 517 (ciph Aes.bk W.length g (some u)) ∧ Row w g 105 W.length (fun j => U32 (Aes.gw W j)) ∧ Row w u 105 W.length (fun j => U32 (Aes.gw (Aes.undo W) j))
theorem Ready.ciph {w : World} {b g u : Nat} {W : List (BitVec 32)} (h : Ready w b W g u) : CiphAt Aes.bk Aes.undo w b W :=
  ⟨g, some u, h.2.1, h.2.2.1, fun u' hu => by cases hu; exact ⟨h.1, h.2.2.2⟩⟩
theorem Ready.below {w w' : World} {b g u : Nat} {W : List (BitVec 32)} (h : Ready w b W g u) (hb : Below w.heap.size w w') : Ready w' b W g u :=
  ⟨h.1, h.2.1.below hb h.2.1.lt, h.2.2.1.below hb h.2.2.1.lt, h.2.2.2.below hb h.2.2.2.lt⟩
theorem do_c (B b R : Nat) (W : List (BitVec 32)) (w : World) (hL : W.length = 4 * (R + 1)) (hR1 : 1 ≤ R) (hR2 : R ≤ 20) (hB : B ≤ b) (h : CiphAt Aes.bk Aes.undo w b W) :
    Calls Tryz.prog 81 #[.pointer (some ⟨b, 257, none⟩), .func (.func 82) #[.pointer (some ⟨b, 0, none⟩)] #[]] w fun e w' => e = .returned (.tuple #[]) ∧
      w.grownBy w' (some b) ∧ ∃ g u, Ready w' b W g u := by
  obtain ⟨g, D, h1, h2, h3⟩ := h
  cases D with
  | some u =>
    refine (once_done b _ w (h1.cell (i := 257) (by omega))).mono ?_
    rintro e w' ⟨rfl, rfl⟩
    exact ⟨rfl, gr_refl _ _, g, u, (h3 u rfl).1, h1, h2, (h3 u rfl).2⟩
  | none =>
    have hbg : b ≠ g := h1.ne_ h2 (by decide)
    have hlt := h1.lt
    have r1 := (h1.set_ 258 (.int .i32 1)).congr (g := cipP W.length g (Aes.bt 0) (.slice none 0 0)) (fun i hi => cip_start _ _ _ hi)
    have r2 := h2.other (a := ⟨b, 258, none⟩) (fun h => hbg h.symm) (.int .i32 1)
    have hp := prepare_c B b g W.length R W (w.setCell ⟨b, 258, none⟩ (.int .i32 1)) rfl hL hR1 hR2 hB r1 r2
    refine (once_first b _ w (h1.cell (i := 257) (by omega)) (h1.cell (i := 258) (by omega)) (h1.frozen (i := 258) (by omega)) hp ?_).mono ?_
    · rintro w' ⟨a1, a2, a3, a4⟩
      exact ⟨a1.cell (i := 257) (by omega), a1.cell (i := 258) (by omega), a1.frozen (by omega), a1.frozen (by omega)⟩
    · rintro e w'' ⟨rfl, w', ⟨a1, a2, a3, a4⟩, rfl⟩
      have hs : (w.setCell ⟨b, 258, none⟩ (.int .i32 1)).heap.size = w.heap.size := by simp
      rw [hs] at a1 a3
      have hbu : w.heap.size ≠ b := by omega
      have hgu : w.heap.size ≠ g := fun h => by have := h2.lt; omega
      refine ⟨rfl, ?_, g, w.heap.size, hgu, ?_, ?_, ?_⟩
      · exact gr_set (gr_set (gr_drew (gr_trans (gr_set (gr_refl w b) (Or.inl rfl) _) a4)) (Or.inl rfl) _) (Or.inl rfl) _
      · exact ((a1.drew.set_ 257 _).set_ 258 _).congr (fun i hi => cip_end _ _ _ _ hi)
      · exact (a2.drew.other (fun h => hbg h.symm) _).other (fun h => hbg h.symm) _
      · exact (a3.drew.other hbu _).other hbu _
end Go.Proofs.YtepogbfkmflooaaGreatDoor
namespace Go.Proofs.YtepogbfkmflooaaGreatDoor
open Go.RowKit Go.WideShapes Go.ChangeShapes
set_option linter.unusedVariables false
def laidL : List (String × DataW Unit) := [("pyxis/sha.small", Rows.laid_pyxis_sha_small), ("pyxis/sha.great", Rows.laid_pyxis_sha_great)]
theorem gSmall : Tryz.prog.globalNamed "pyxis/sha.small" = some 0 := by kernel_rfl
theorem gGreat : Tryz.prog.globalNamed "pyxis/sha.great" = some 1 := by kernel_rfl
theorem tSmall : (Tryz.prog.globals[(0 : Nat)]?).map (·.type) = some 159 := by kernel_rfl
theorem tGreat : (Tryz.prog.globals[(1 : Nat)]?).map (·.type) = some 162 := by kernel_rfl
def zSmall : List Int := (List.range 64).map fun i => ((Sha.k32 i).toNat : Int)
def zGreat : List Int := (List.range 80).map fun i => ((Sha.K false i).toNat : Int)
theorem dSmall : (Rows.laid_pyxis_sha_small : DataW Unit) = Lib.tabData .u32 zSmall := by kernel_rfl
theorem dGreat : (Rows.laid_pyxis_sha_great : DataW Unit) = Lib.tabData .u64 zGreat := by kernel_rfl
theorem tabs_of_laid {W : World} (h : laidMetH Tryz.prog laidL W) : Sha.Tabs W := by
  rw [MakeChecks.laidMetH_plain _ _ _ (by kernel_rfl)] at h
  obtain ⟨ps, ⟨g0, t0, cs0, f0, p0, q0, hg0, ht0, hv0, hd0, ⟨g1, t1, cs1, f1, p1, q1, hg1, ht1, hv1, hd1, _, _⟩, _⟩, _, _⟩ := h
  obtain rfl := Option.some.inj (gSmall.symm.trans hg0)
  obtain rfl := Option.some.inj (gGreat.symm.trans hg1)
  obtain rfl := Option.some.inj (tSmall.symm.trans ht0)
  obtain rfl := Option.some.inj (tGreat.symm.trans ht1)
  rw [dSmall] at hd0
  rw [dGreat] at hd1
  have e0 := Lib.cells_of_tab Tryz.underlying159 Tryz.underlying105 (by kernel_rfl) (by kernel_rfl) hd0
  have e1 := Lib.cells_of_tab Tryz.underlying162 Tryz.underlying40 (by kernel_rfl) (by kernel_rfl) hd1
  have h0 : ∀ i, i < 64 → W.cell? ⟨0, i, none⟩ = some (U32 (Sha.k32 i)) := fun i hi => by
    rw [World.var?_cell hg0 hv0 i, ← Array.getElem?_toList, e0]
    simp [zSmall, hi, U32]
  have h1 : ∀ i, i < 80 → W.cell? ⟨1, i, none⟩ = some (U64 (Sha.K false i)) := fun i hi => by
    rw [World.var?_cell hg1 hv1 i, ← Array.getElem?_toList, e1]
    simp [zGreat, hi, U64]
  exact ⟨h0, h1, World.block_lt_of_cell? W _ (h0 0 (by decide)), World.block_lt_of_cell? W _ (h1 0 (by decide))⟩
theorem door_met (os : Os) (args : Array Value) : laidMetH Tryz.prog laidL ((World.doorLaid Tryz.prog 400 os).forCall (fun _ _ => 0) ⟨#[], args, []⟩).memory :=
  laidMetH_of_parts3 (fuel := 8) (laidMet_of_run' 8 (by kernel_rfl) (by kernel_rfl)) (by kernel_rfl) (by kernel_rfl)
end Go.Proofs.YtepogbfkmflooaaGreatDoor
namespace Go.Proofs.YtepogbfkmflooaaGreatDoor
open Go.RowKit Go.WideShapes Go.ChangeShapes
theorem sized_at {H : Type} {P : Program} {ts : List TypeId} {ds : List (DataW H)} (h : (DataW.weightsEach P ts ds).all (· ≤ reachBytes) = true) {j n : Nat} {t : TypeId} {d : DataW H} (ht : ts[j]? = some t) (hd : ds[j]? = some d) (hn : n ∈ d.weights P t) : n ≤ reachBytes := by
  have := List.all_eq_true.1 h n (DataW.weights_mem_each ht hd n hn)
  simpa using this
section
variable {H : Type} {enc : TypeId × Value → H} {P : Program} {w : World} {base : Nat} {sp : Nat → Bool} {held : Bool}
theorem open_sss {t : TypeId} {f0 f1 f2 : Field} {v : Value} {d : DataW H} {ps : List MemPlace} (he : P.underlying t = some (.struct #[f0, f1, f2])) (ce : P.cellsOf t = 3) (ho : f0.offset = 0 ∧ f1.offset = 1 ∧ f2.offset = 2) (hc : P.cellsOf f0.type = 1 ∧ P.cellsOf f1.type = 1 ∧ P.cellsOf f2.type = 1)
    (u0 : P.underlying f0.type = some .string) (u1 : P.underlying f1.type = some .string) (u2 : P.underlying f2.type = some .string) (hd : DataW.Trod enc P w base sp held t v d ps) :
    ∃ (a0 : ByteArray) (a1 : ByteArray) (a2 : ByteArray), v = .agg #[.string a0, .string a1, .string a2] ∧ d = .agg [.lit (.string a0.data.toList), .lit (.string a1.data.toList), .lit (.string a2.data.toList)] ∧ ps = [] ∧ a0.data.toList.length ∈ d.weights P t ∧ a1.data.toList.length ∈ d.weights P t ∧ a2.data.toList.length ∈ d.weights P t := by
  obtain ⟨fuel, hf⟩ := hd
  obtain ⟨xs, k, _, hx, hl, hxl, hfs⟩ := DataW.trod_struct he hf
  rw [ce] at hl
  obtain ⟨o0, o1, o2⟩ := ho
  obtain ⟨c0, c1, c2⟩ := hc
  obtain ⟨cs, hcs⟩ : ∃ cs, v.cells.toList = cs := ⟨_, rfl⟩
  rw [hcs] at hl hfs
  match xs, hxl, cs, hl with
  | [y0, y1, y2], _, [v0, v1, v2], _ =>
    have g0 := hfs 0 f0 rfl
    have g1 := hfs 1 f1 rfl
    have g2 := hfs 2 f2 rfl
    simp [o0, o1, o2, c0, c1, c2] at g0 g1 g2
    obtain ⟨a0, e0, q0, z0⟩ := DataW.trod_string u0 g0
    obtain ⟨a1, e1, q1, z1⟩ := DataW.trod_string u1 g1
    obtain ⟨a2, e2, q2, z2⟩ := DataW.trod_string u2 g2
    simp only [List.cons.injEq, and_true] at e0 e1 e2
    subst e0 e1 e2 q0 q1 q2
    simp only [Prod.mk.injEq] at hx
    obtain ⟨hx1, hx2⟩ := hx
    subst hx1
    refine ⟨a0, a1, a2, ?_, rfl, hx2, by simp [DataW.weights, DataW.weightsEach, he], by simp [DataW.weights, DataW.weightsEach, he], by simp [DataW.weights, DataW.weightsEach, he]⟩
    cases v with
    | agg a =>
      have ha : a.toList = [.string a0, .string a1, .string a2] := hcs
      rw [show a = #[.string a0, .string a1, .string a2] from by rw [← Array.toList_inj, ha]]
    | _ => simp [Value.cells] at hcs
end
end Go.Proofs.YtepogbfkmflooaaGreatDoor
