/-
  Chains of blocks: the reference's blocks. Conditions as each says. AES: the reference's way back, said of lists of bytes (in a seat that holds it). Conditions as it says. Chains of blocks: the reference's chains. Conditions as each says. Chains of blocks: sealing and opening. Conditions as each says. Names of algorithms, by their places. No conditions. The condition on the two tables, opened: they lie as the program's text lays them. No conditions.
-/
import Derived.Test.YtepogbfkmflooaaDoorRows
import Derived.Test.YtepogbfkmflooaaDoorCbcB
import Derived.Test.YtepogbfkmflooaaDoorGenSh
import Derived.ProofKit
import Derived.Test.YtepogbfkmflooaaDoorAesBase
import Derived.Test.YtepogbfkmflooaaDoorRecPlain
import Derived.Test.YtepogbfkmflooaaDoorPbPlain
import Derived.Test.YtepogbfkmflooaaDoorShaTab
import Derived.Lib.LaidTab
import Derived.LaidMore
namespace Go.Proofs.YtepogbfkmflooaaDoor
open Go.RowKit
set_option linter.unusedSimpArgs false
set_option linter.unusedVariables false
set_option maxRecDepth 100000
set_option maxHeartbeats 1000000
namespace CbcCT
theorem mixed : Tryd.prog.follows .mixedOrders = true := by kernel_rfl
theorem so3 : (Tryd.prog.underlying 3).isSome = true := by rw [Tryd.underlying3]; rfl
theorem so5 : (Tryd.prog.underlying 5).isSome = true := by rw [Tryd.underlying5]; rfl
end CbcCT
end Go.Proofs.YtepogbfkmflooaaDoor
namespace Go.Proofs.YtepogbfkmflooaaDoor
open Go.RowKit
set_option linter.unusedSimpArgs false
set_option linter.unusedVariables false
end Go.Proofs.YtepogbfkmflooaaDoor
namespace Go.Proofs.YtepogbfkmflooaaDoor
open Go.RowKit
set_option linter.unusedSimpArgs false
set_option linter.unusedVariables false
set_option maxRecDepth 100000
set_option maxHeartbeats 1000000
namespace CbcDT
theorem mixed : Tryd.prog.follows .mixedOrders = true := by kernel_rfl
theorem so3 : (Tryd.prog.underlying 3).isSome = true := by rw [Tryd.underlying3]; rfl
theorem so5 : (Tryd.prog.underlying 5).isSome = true := by rw [Tryd.underlying5]; rfl
end CbcDT
end Go.Proofs.YtepogbfkmflooaaDoor
namespace Go.Proofs.YtepogbfkmflooaaDoor
open Go.RowKit
set_option linter.unusedSimpArgs false
set_option linter.unusedVariables false
set_option maxRecDepth 100000
set_option maxHeartbeats 1000000
namespace CbcET
theorem mixed : Tryd.prog.follows .mixedOrders = true := by kernel_rfl
theorem so3 : (Tryd.prog.underlying 3).isSome = true := by rw [Tryd.underlying3]; rfl
theorem so5 : (Tryd.prog.underlying 5).isSome = true := by rw [Tryd.underlying5]; rfl
end CbcET
theorem chain_y (key vi : List (BitVec 8)) (hok : Aes.okKey key.length) (hiv : vi.length = 16) (text : List (BitVec 8)) (ht : text.length % 16 = 0) (hl : text.length ≤ 70016) (w0 : World) : Calls Tryd.prog 34 #[.string (str key), .string (str vi), .string (str text)] w0 fun e w' => e = .returned (.tuple #[.string (str (Cb.chain key vi text)), .int .i64 0]) ∧ Below w0.heap.size w0 w' := by
 refine enter (n := 32) Tryd.func34 rfl rfl rfl ?_
 have hk : Below w0.heap.size w0 w0 := Below.refl _ _
 refine sr (w_as (evc (.string (str ([] : List (BitVec 8))))) (w_as Ev.c (nt (sr (w_mv es (w_mv es (w_call (Tryd.func24) kr rfl (m2 es es) (ready_y key vi hok hiv w0) ?_)))))))
 rintro _ w1 ⟨p, rfl, hge_p, hc, hb_p⟩
 refine ⟨_, rfl, ?_⟩
 have ge_p : w0.heap.size ≤ p := by have := hk.size; omega
 replace hk := thenB hk hb_p
 refine w_mv (ex (.tuple #[pt p 0, .int .i64 0])) (w_val ye (w_val ye (w_as (ex (pt p 0)) (w_as ei (nt (wp_seq (sr (w_mv ei (w_val (y_bin ei Ev.c b_neq) (nt (c_ff eb (wp_skip (then_n (wp_seq (sr (w_mv es (w_val (y_len es Tryd.underlying9) (w_val (y_bin ei Ev.c (b_rem om)) (w_val (y_bin ei Ev.c b_neq) (w_mv eb ?_))))))))))))))))))))
 have hc2 : ¬ ((((text.length : Nat) : Int) % 16) ≠ 0) := by omega
 refine w_val_g (v := .string (str text)) (wy rfl rfl (eb (df hc2))) (y_mv es) (w_val_g (wy rfl rfl (eb (df hc2))) (y_len es Tryd.underlying9) (w_val_g (wy rfl rfl (eb (df hc2))) (y_bin ei Ev.c b_gtr) (w_val (y_pick_f (eb (df hc2)) eb) (nt ?_))))
 have hc3 : ¬ (70016 < ((text.length : Nat) : Int)) := by omega
 refine c_f (p := 70016 < ((text.length : Nat) : Int)) eb hc3 (wp_skip (then_n (sr (w_mv (ex (pt p 0)) (w_mv es (w_mv es (w_call (Tryd.func26) kr rfl (m3 (ex (pt p 0)) es es) (chain_l p key vi hok hiv text ht hl w1 hc) ?_)))))))
 rintro _ w4 ⟨rfl, hb5⟩
 refine ⟨_, rfl, ?_⟩
 replace hk := thenB hk hb5
 replace hc := hc.below hb5
 refine w_as es (w_as Ev.c (nt (wp_ret (fin_ret2 rfl es ei ?_))))
 exact ⟨rfl, hk⟩

theorem unchain_y (key vi : List (BitVec 8)) (hok : Aes.okKey key.length) (hiv : vi.length = 16) (text : List (BitVec 8)) (ht : text.length % 16 = 0) (hl : text.length ≤ 70016) (w0 : World) : Calls Tryd.prog 35 #[.string (str key), .string (str vi), .string (str text)] w0 fun e w' => e = .returned (.tuple #[.string (str (Cb.unchain key vi text)), .int .i64 0]) ∧ Below w0.heap.size w0 w' := by
 refine enter (n := 32) Tryd.func35 rfl rfl rfl ?_
 have hk : Below w0.heap.size w0 w0 := Below.refl _ _
 refine sr (w_as (evc (.string (str ([] : List (BitVec 8))))) (w_as Ev.c (nt (sr (w_mv es (w_mv es (w_call (Tryd.func24) kr rfl (m2 es es) (ready_y key vi hok hiv w0) ?_)))))))
 rintro _ w1 ⟨p, rfl, hge_p, hc, hb_p⟩
 refine ⟨_, rfl, ?_⟩
 have ge_p : w0.heap.size ≤ p := by have := hk.size; omega
 replace hk := thenB hk hb_p
 refine w_mv (ex (.tuple #[pt p 0, .int .i64 0])) (w_val ye (w_val ye (w_as (ex (pt p 0)) (w_as ei (nt (wp_seq (sr (w_mv ei (w_val (y_bin ei Ev.c b_neq) (nt (c_ff eb (wp_skip (then_n (wp_seq (sr (w_mv es (w_val (y_len es Tryd.underlying9) (w_val (y_bin ei Ev.c (b_rem om)) (w_val (y_bin ei Ev.c b_neq) (w_mv eb ?_))))))))))))))))))))
 have hc2 : ¬ ((((text.length : Nat) : Int) % 16) ≠ 0) := by omega
 refine w_val_g (v := .string (str text)) (wy rfl rfl (eb (df hc2))) (y_mv es) (w_val_g (wy rfl rfl (eb (df hc2))) (y_len es Tryd.underlying9) (w_val_g (wy rfl rfl (eb (df hc2))) (y_bin ei Ev.c b_gtr) (w_val (y_pick_f (eb (df hc2)) eb) (nt ?_))))
 have hc3 : ¬ (70016 < ((text.length : Nat) : Int)) := by omega
 refine c_f (p := 70016 < ((text.length : Nat) : Int)) eb hc3 (wp_skip (then_n (sr (w_mv (ex (pt p 0)) (w_mv es (w_mv es ?_))))))
 have hw_ := hc
 refine w_call (Tryd.func32) kr rfl (m3 (ex (pt p 0)) es es) (unchain_l p key vi hok hiv text ht hl w1 hw_) ?_
 rintro _ w4 ⟨rfl, hgd, hc⟩
 refine ⟨_, rfl, ?_⟩
 replace hk := thenG hk hgd om
 refine w_as es (w_as Ev.c (nt (wp_ret (fin_ret2 rfl es ei ?_))))
 exact ⟨rfl, hk⟩

end Go.Proofs.YtepogbfkmflooaaDoor
namespace Go.Proofs.YtepogbfkmflooaaDoor
open Go.RowKit
set_option linter.unusedSimpArgs false
set_option linter.unusedVariables false
namespace Rc
def nm (i : Nat) : L8 := if i = 0 then n256 else if i = 1 then n384 else n512
def kd (i : Nat) : Nat := 256 + 128 * i
theorem nm_inj (i j : Nat) (hi : i < 3) (hj : j < 3) (h : nm i = nm j) : i = j := by
  rcases (show i = 0 ∨ i = 1 ∨ i = 2 by omega) with rfl | rfl | rfl <;> rcases (show j = 0 ∨ j = 1 ∨ j = 2 by omega) with rfl | rfl | rfl <;> first | rfl | exact absurd h (by decide)
theorem nm_len (i : Nat) (hi : i < 3) : (nm i).length = 18 := by
  rcases (show i = 0 ∨ i = 1 ∨ i = 2 by omega) with rfl | rfl | rfl <;> rfl
end Rc
end Go.Proofs.YtepogbfkmflooaaDoor
namespace Go.Proofs.YtepogbfkmflooaaDoor
open Go.RowKit Go.WideShapes Go.ChangeShapes
set_option linter.unusedVariables false
def laidL : List (String × DataW Unit) := [("pyxis/sha.small", Rows.laid_pyxis_sha_small), ("pyxis/sha.great", Rows.laid_pyxis_sha_great)]
theorem gSmall : Tryd.prog.globalNamed "pyxis/sha.small" = some 0 := by kernel_rfl
theorem gGreat : Tryd.prog.globalNamed "pyxis/sha.great" = some 1 := by kernel_rfl
theorem tSmall : (Tryd.prog.globals[(0 : Nat)]?).map (·.type) = some 158 := by kernel_rfl
theorem tGreat : (Tryd.prog.globals[(1 : Nat)]?).map (·.type) = some 161 := by kernel_rfl
def zSmall : List Int := (List.range 64).map fun i => ((Sha.k32 i).toNat : Int)
def zGreat : List Int := (List.range 80).map fun i => ((Sha.K false i).toNat : Int)
theorem dSmall : (Rows.laid_pyxis_sha_small : DataW Unit) = Lib.tabData .u32 zSmall := by kernel_rfl
theorem dGreat : (Rows.laid_pyxis_sha_great : DataW Unit) = Lib.tabData .u64 zGreat := by kernel_rfl
theorem tabs_of_laid {W : World} (h : laidMetH Tryd.prog laidL W) : Sha.Tabs W := by
  rw [MakeChecks.laidMetH_plain _ _ _ (by kernel_rfl)] at h
  obtain ⟨ps, ⟨g0, t0, cs0, f0, p0, q0, hg0, ht0, hv0, hd0, ⟨g1, t1, cs1, f1, p1, q1, hg1, ht1, hv1, hd1, _, _⟩, _⟩, _, _⟩ := h
  obtain rfl := Option.some.inj (gSmall.symm.trans hg0)
  obtain rfl := Option.some.inj (gGreat.symm.trans hg1)
  obtain rfl := Option.some.inj (tSmall.symm.trans ht0)
  obtain rfl := Option.some.inj (tGreat.symm.trans ht1)
  rw [dSmall] at hd0
  rw [dGreat] at hd1
  have e0 := Lib.cells_of_tab Tryd.underlying158 Tryd.underlying102 (by kernel_rfl) (by kernel_rfl) hd0
  have e1 := Lib.cells_of_tab Tryd.underlying161 Tryd.underlying58 (by kernel_rfl) (by kernel_rfl) hd1
  have h0 : ∀ i, i < 64 → W.cell? ⟨0, i, none⟩ = some (U32 (Sha.k32 i)) := fun i hi => by
    rw [World.var?_cell hg0 hv0 i, ← Array.getElem?_toList, e0]
    simp [zSmall, hi, U32]
  have h1 : ∀ i, i < 80 → W.cell? ⟨1, i, none⟩ = some (U64 (Sha.K false i)) := fun i hi => by
    rw [World.var?_cell hg1 hv1 i, ← Array.getElem?_toList, e1]
    simp [zGreat, hi, U64]
  exact ⟨h0, h1, World.block_lt_of_cell? W _ (h0 0 (by decide)), World.block_lt_of_cell? W _ (h1 0 (by decide))⟩
theorem door_met (os : Os) (args : Array Value) : laidMetH Tryd.prog laidL ((World.doorLaid Tryd.prog 400 os).forCall (fun _ _ => 0) ⟨#[], args, []⟩).memory :=
  laidMetH_of_parts3 (fuel := 8) (laidMet_of_run' 8 (by kernel_rfl) (by kernel_rfl)) (by kernel_rfl) (by kernel_rfl)
end Go.Proofs.YtepogbfkmflooaaDoor
