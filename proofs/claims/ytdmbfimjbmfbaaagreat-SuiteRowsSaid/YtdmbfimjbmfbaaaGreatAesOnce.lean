/-
  AES: sync.Once about the making ready, in one goroutine. Conditions as each says. AES: what decrypting wants is made ready. Conditions as each says.
-/
import Derived.Test.YtdmbfimjbmfbaaaGreatAesNew
import Derived.Defers
import Derived.Laws.LoneSync
import Derived.RegionCalls
import Derived.Laws.NewBlocks
import Derived.Test.YtdmbfimjbmfbaaaGreatAesBackPlain
import Derived.Test.YtdmbfimjbmfbaaaGreatAesEnc
namespace Go.Proofs.YtdmbfimjbmfbaaaGreat
open Go.RowKit
set_option linter.unusedSimpArgs false
set_option linter.unusedVariables false
end Go.Proofs.YtdmbfimjbmfbaaaGreat
namespace Go.Proofs.YtdmbfimjbmfbaaaGreat
open Go.RowKit
set_option linter.unusedSimpArgs false
set_option linter.unusedVariables false
end Go.Proofs.YtdmbfimjbmfbaaaGreat
