/-
  AES: behind the Once all is ready, whether it was or not. Conditions as each says.
-/
import Derived.Test.YtdmbfimjbmfbaaaGreatAesOnce
namespace Go.Proofs.YtdmbfimjbmfbaaaGreat
open Go.RowKit
set_option linter.unusedSimpArgs false
set_option linter.unusedVariables false
def Ready (w : World) (b : Nat) (W : List (BitVec 32)) (g u : Nat) : Prop :=
  u ≠ g ∧ Row w b 99 517 (ciph Aes.bk W.length g (some u)) ∧ Row w g 55 W.length (fun j => U32 (Aes.gw W j)) ∧ Row w u 55 W.length (fun j => U32 (Aes.gw (Aes.undo W) j))
theorem Ready.ciph {w : World} {b g u : Nat} {W : List (BitVec 32)} (h : Ready w b W g u) : CiphAt Aes.bk Aes.undo w b W :=
  ⟨g, some u, h.2.1, h.2.2.1, fun u' hu => by cases hu; exact ⟨h.1, h.2.2.2⟩⟩
theorem Ready.below {w w' : World} {b g u : Nat} {W : List (BitVec 32)} (h : Ready w b W g u) (hb : Below w.heap.size w w') : Ready w' b W g u :=
  ⟨h.1, h.2.1.below hb h.2.1.lt, h.2.2.1.below hb h.2.2.1.lt, h.2.2.2.below hb h.2.2.2.lt⟩
end Go.Proofs.YtdmbfimjbmfbaaaGreat
