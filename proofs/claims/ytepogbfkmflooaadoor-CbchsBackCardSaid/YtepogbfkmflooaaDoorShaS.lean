/-
  Numbers and roots of the reference. Conditions as each says. Digests: the reference's rule, word by word and block by block. Conditions as each says. The reference's rules. Conditions as each says. Digests: the reference's Sum by a rule. Conditions as each says.
-/
import Derived.Test.YtepogbfkmflooaaDoorRows
import Derived.Test.YtepogbfkmflooaaDoorGenMore
import Derived.Test.YtepogbfkmflooaaDoorLiftLaid
import Derived.Test.YtepogbfkmflooaaDoorGenSh
import Derived.ProofKit
namespace Go.Proofs.YtepogbfkmflooaaDoor
open Go.RowKit
set_option linter.unusedSimpArgs false
set_option linter.unusedVariables false
set_option maxRecDepth 100000
set_option maxHeartbeats 1000000
namespace ShaNT
theorem mixed : Tryd.prog.follows .mixedOrders = true := by kernel_rfl
theorem sc58 : (Tryd.prog.underlying 58).map scal = some true := by rw [Tryd.underlying58]; rfl
theorem so3 : (Tryd.prog.underlying 3).isSome = true := by rw [Tryd.underlying3]; rfl
theorem sz58 : (Tryd.prog.info? 58).map (·.size) = some 1 := by kernel_rfl
end ShaNT
end Go.Proofs.YtepogbfkmflooaaDoor
namespace Go.Proofs.YtepogbfkmflooaaDoor
open Go.RowKit
set_option linter.unusedSimpArgs false
set_option linter.unusedVariables false
set_option maxRecDepth 100000
set_option maxHeartbeats 1000000
namespace ShaRT
theorem mixed : Tryd.prog.follows .mixedOrders = true := by kernel_rfl
theorem ag88 : (Tryd.prog.underlying 88).map isAggD = some true := by rw [Tryd.underlying88]; rfl
theorem sc3 : (Tryd.prog.underlying 3).map scal = some true := by rw [Tryd.underlying3]; rfl
theorem sc58 : (Tryd.prog.underlying 58).map scal = some true := by rw [Tryd.underlying58]; rfl
theorem so5 : (Tryd.prog.underlying 5).isSome = true := by rw [Tryd.underlying5]; rfl
theorem sz58 : (Tryd.prog.info? 58).map (·.size) = some 1 := by kernel_rfl
theorem sz88 : (Tryd.prog.info? 88).map (·.size) = some 8 := by kernel_rfl
end ShaRT
end Go.Proofs.YtepogbfkmflooaaDoor
namespace Go.Proofs.YtepogbfkmflooaaDoor
open Go.RowKit
set_option linter.unusedSimpArgs false
set_option linter.unusedVariables false
set_option maxRecDepth 100000
set_option maxHeartbeats 1000000
namespace ShaMT
theorem mixed : Tryd.prog.follows .mixedOrders = true := by kernel_rfl
theorem sc3 : (Tryd.prog.underlying 3).map scal = some true := by rw [Tryd.underlying3]; rfl
theorem sc58 : (Tryd.prog.underlying 58).map scal = some true := by rw [Tryd.underlying58]; rfl
theorem so3 : (Tryd.prog.underlying 3).isSome = true := by rw [Tryd.underlying3]; rfl
theorem sz3 : (Tryd.prog.info? 3).map (·.size) = some 1 := by kernel_rfl
theorem sz58 : (Tryd.prog.info? 58).map (·.size) = some 1 := by kernel_rfl
end ShaMT
end Go.Proofs.YtepogbfkmflooaaDoor
namespace Go.Proofs.YtepogbfkmflooaaDoor
open Go.RowKit
set_option linter.unusedSimpArgs false
set_option linter.unusedVariables false
set_option maxRecDepth 100000
set_option maxHeartbeats 1000000
namespace ShaST
theorem mixed : Tryd.prog.follows .mixedOrders = true := by kernel_rfl
theorem ag88 : (Tryd.prog.underlying 88).map isAggD = some true := by rw [Tryd.underlying88]; rfl
theorem sc3 : (Tryd.prog.underlying 3).map scal = some true := by rw [Tryd.underlying3]; rfl
theorem sc58 : (Tryd.prog.underlying 58).map scal = some true := by rw [Tryd.underlying58]; rfl
theorem so3 : (Tryd.prog.underlying 3).isSome = true := by rw [Tryd.underlying3]; rfl
theorem so5 : (Tryd.prog.underlying 5).isSome = true := by rw [Tryd.underlying5]; rfl
theorem so58 : (Tryd.prog.underlying 58).isSome = true := by rw [Tryd.underlying58]; rfl
theorem sz5 : (Tryd.prog.info? 5).map (·.size) = some 1 := by kernel_rfl
theorem sz58 : (Tryd.prog.info? 58).map (·.size) = some 1 := by kernel_rfl
theorem sz88 : (Tryd.prog.info? 88).map (·.size) = some 8 := by kernel_rfl
end ShaST
end Go.Proofs.YtepogbfkmflooaaDoor
