/-
  AES: Decrypt. Conditions as each says. AES: the reference's word on a key's length. No conditions. A struct of a text and a number, opened and shut; a number of 64 bits. No conditions.
-/
import Derived.Test.YtdmbfimjbmfbaaaGreatAesDo
import Derived.Test.YtdmbfimjbmfbaaaGreatAesEnc
import Derived.Test.YtdmbfimjbmfbaaaGreatAesNew
import Derived.Test.YtdmbfimjbmfbaaaGreatLift
import Derived.ChangeArms
import Derived.ProofKit
namespace Go.Proofs.YtdmbfimjbmfbaaaGreat
open Go.RowKit
set_option linter.unusedSimpArgs false
set_option linter.unusedVariables false
end Go.Proofs.YtdmbfimjbmfbaaaGreat
namespace Go.Proofs.YtdmbfimjbmfbaaaGreat
open Go.RowKit
set_option linter.unusedSimpArgs false
set_option linter.unusedVariables false
end Go.Proofs.YtdmbfimjbmfbaaaGreat
namespace Go.Proofs.YtdmbfimjbmfbaaaGreat
open Go.RowKit Go.WideShapes Go.ChangeShapes
section
variable {H : Type} {enc : TypeId × Value → H} {P : Program} {w : World} {base : Nat} {sp : Nat → Bool} {held : Bool}
end
end Go.Proofs.YtdmbfimjbmfbaaaGreat
