/-
  Chains of blocks: the reference's blocks. Conditions as each says. Chains of blocks: the reference's chains. Conditions as each says. Digests with a key: of texts; the reference; the example. Conditions as each says. Structs of texts, numbers and bytes as arguments. No conditions.
-/
import Derived.Test.YtepogbfkmflooaaDoorRows
import Derived.Test.YtepogbfkmflooaaDoorCbcB
import Derived.Test.YtepogbfkmflooaaDoorGenSh
import Derived.ProofKit
import Derived.Test.YtepogbfkmflooaaDoorLiftLaid
import Derived.Test.YtepogbfkmflooaaDoorHmacB
import Derived.Test.YtepogbfkmflooaaDoorLift
import Derived.ChangeArms
namespace Go.Proofs.YtepogbfkmflooaaDoor
open Go.RowKit
set_option linter.unusedSimpArgs false
set_option linter.unusedVariables false
set_option maxRecDepth 100000
set_option maxHeartbeats 1000000
namespace CbcCT
theorem mixed : Tryd.prog.follows .mixedOrders = true := by kernel_rfl
theorem so3 : (Tryd.prog.underlying 3).isSome = true := by rw [Tryd.underlying3]; rfl
theorem so5 : (Tryd.prog.underlying 5).isSome = true := by rw [Tryd.underlying5]; rfl
end CbcCT
end Go.Proofs.YtepogbfkmflooaaDoor
namespace Go.Proofs.YtepogbfkmflooaaDoor
open Go.RowKit
set_option linter.unusedSimpArgs false
set_option linter.unusedVariables false
set_option maxRecDepth 100000
set_option maxHeartbeats 1000000
namespace CbcDT
theorem mixed : Tryd.prog.follows .mixedOrders = true := by kernel_rfl
theorem so3 : (Tryd.prog.underlying 3).isSome = true := by rw [Tryd.underlying3]; rfl
theorem so5 : (Tryd.prog.underlying 5).isSome = true := by rw [Tryd.underlying5]; rfl
end CbcDT
end Go.Proofs.YtepogbfkmflooaaDoor
namespace Go.Proofs.YtepogbfkmflooaaDoor
open Go.RowKit
set_option linter.unusedSimpArgs false
set_option linter.unusedVariables false
set_option maxRecDepth 100000
set_option maxHeartbeats 1000000
namespace HmacWT
theorem mixed : Tryd.prog.follows .mixedOrders = true := by kernel_rfl
theorem fa79_0 (g off : Nat) : ∀ w, (Instr.fieldAt 79 (.pointer (some ⟨g, off, none⟩)) 0).run Tryd.prog w = .ok (.pointer (some ⟨g, off + 0, none⟩)) w := fun w => by kernel_rfl
theorem fa79_1 (g off : Nat) : ∀ w, (Instr.fieldAt 79 (.pointer (some ⟨g, off, none⟩)) 1).run Tryd.prog w = .ok (.pointer (some ⟨g, off + 1, none⟩)) w := fun w => by kernel_rfl
theorem fa79_2 (g off : Nat) : ∀ w, (Instr.fieldAt 79 (.pointer (some ⟨g, off, none⟩)) 2).run Tryd.prog w = .ok (.pointer (some ⟨g, off + 2, none⟩)) w := fun w => by kernel_rfl
theorem sc3 : (Tryd.prog.underlying 3).map scal = some true := by rw [Tryd.underlying3]; rfl
theorem sc5 : (Tryd.prog.underlying 5).map scal = some true := by rw [Tryd.underlying5]; rfl
theorem sc77 : (Tryd.prog.underlying 77).map scal = some true := by rw [Tryd.underlying77]; rfl
theorem sz5 : (Tryd.prog.info? 5).map (·.size) = some 1 := by kernel_rfl
theorem sz77 : (Tryd.prog.info? 77).map (·.size) = some 1 := by kernel_rfl
end HmacWT
end Go.Proofs.YtepogbfkmflooaaDoor
namespace Go.Proofs.YtepogbfkmflooaaDoor
open Go.RowKit Go.WideShapes Go.ChangeShapes
theorem sized_at {H : Type} {P : Program} {ts : List TypeId} {ds : List (DataW H)} (h : (DataW.weightsEach P ts ds).all (· ≤ reachBytes) = true) {j n : Nat} {t : TypeId} {d : DataW H} (ht : ts[j]? = some t) (hd : ds[j]? = some d) (hn : n ∈ d.weights P t) : n ≤ reachBytes := by
  have := List.all_eq_true.1 h n (DataW.weights_mem_each ht hd n hn)
  simpa using this
section
variable {H : Type} {enc : TypeId × Value → H} {P : Program} {w : World} {base : Nat} {sp : Nat → Bool} {held : Bool}
theorem open_sss {t : TypeId} {f0 f1 f2 : Field} {v : Value} {d : DataW H} {ps : List MemPlace} (he : P.underlying t = some (.struct #[f0, f1, f2])) (ce : P.cellsOf t = 3) (ho : f0.offset = 0 ∧ f1.offset = 1 ∧ f2.offset = 2) (hc : P.cellsOf f0.type = 1 ∧ P.cellsOf f1.type = 1 ∧ P.cellsOf f2.type = 1)
    (u0 : P.underlying f0.type = some .string) (u1 : P.underlying f1.type = some .string) (u2 : P.underlying f2.type = some .string) (hd : DataW.Trod enc P w base sp held t v d ps) :
    ∃ (a0 : ByteArray) (a1 : ByteArray) (a2 : ByteArray), v = .agg #[.string a0, .string a1, .string a2] ∧ d = .agg [.lit (.string a0.data.toList), .lit (.string a1.data.toList), .lit (.string a2.data.toList)] ∧ ps = [] ∧ a0.data.toList.length ∈ d.weights P t ∧ a1.data.toList.length ∈ d.weights P t ∧ a2.data.toList.length ∈ d.weights P t := by
  obtain ⟨fuel, hf⟩ := hd
  obtain ⟨xs, k, _, hx, hl, hxl, hfs⟩ := DataW.trod_struct he hf
  rw [ce] at hl
  obtain ⟨o0, o1, o2⟩ := ho
  obtain ⟨c0, c1, c2⟩ := hc
  obtain ⟨cs, hcs⟩ : ∃ cs, v.cells.toList = cs := ⟨_, rfl⟩
  rw [hcs] at hl hfs
  match xs, hxl, cs, hl with
  | [y0, y1, y2], _, [v0, v1, v2], _ =>
    have g0 := hfs 0 f0 rfl
    have g1 := hfs 1 f1 rfl
    have g2 := hfs 2 f2 rfl
    simp [o0, o1, o2, c0, c1, c2] at g0 g1 g2
    obtain ⟨a0, e0, q0, z0⟩ := DataW.trod_string u0 g0
    obtain ⟨a1, e1, q1, z1⟩ := DataW.trod_string u1 g1
    obtain ⟨a2, e2, q2, z2⟩ := DataW.trod_string u2 g2
    simp only [List.cons.injEq, and_true] at e0 e1 e2
    subst e0 e1 e2 q0 q1 q2
    simp only [Prod.mk.injEq] at hx
    obtain ⟨hx1, hx2⟩ := hx
    subst hx1
    refine ⟨a0, a1, a2, ?_, rfl, hx2, by simp [DataW.weights, DataW.weightsEach, he], by simp [DataW.weights, DataW.weightsEach, he], by simp [DataW.weights, DataW.weightsEach, he]⟩
    cases v with
    | agg a =>
      have ha : a.toList = [.string a0, .string a1, .string a2] := hcs
      rw [show a = #[.string a0, .string a1, .string a2] from by rw [← Array.toList_inj, ha]]
    | _ => simp [Value.cells] at hcs
end
end Go.Proofs.YtepogbfkmflooaaDoor
