/-
  DERIVED. GIVEN WITH THE SEED: THE CARDS: each row of YtepogbfkmflooaaDoorRows.lean that lists a variable, with what it lists TIED to the program's text (the seventh form; the later family's looks); each row that meets fmt, with fmt's text TOLD by the authors' own Lean function (tested against real Go, not proved from fmt's source: count such statements apart). THE CARD IS WHAT COUNTS. Prove the row's statement (the work); the ties are given (YtepogbfkmflooaaDoorTie.lean); close each card by the builder's one call (the guide's Derived/Test/ToyasCard.lean, 'card_holds'). Laid BY PROGRAM, IN A SANDBOX (cutbox-door.mjs). By AI agents, Wed Nov 11 2026. No macro, syntax, notation, axiom, sorry.
-/
import Derived.Test.YtepogbfkmflooaaDoorRows
import GoSem.ClaimSeven
namespace Go.Proofs.YtepogbfkmflooaaDoor
namespace Rows

/-- THE TIED CARD OF 'pyxislaw11.CbchsBack'. -/
def cbchsBackCard : Claim7 := { stood := { row := cbchsBackRow, standIns := [], harness := (true, "d1501c2a6016ee1a2befe9f77a9daa0c16b6c3203084a14238b34b1438ff5e88"), looks := false }, kinds := [], alts := [], laidByText := true, laidKinds := [.data, .data], laidTests := true, laidLooks := .later }
def CbchsBackCardSaid : Prop := Claim7.holds Tryd.pinned (.plain (OpenSpec.ofChange cbchsBackSpec)) cbchsBackCard

/-- THE TIED CARD OF 'pyxislaw22.RecipDerives'. -/
def recipDerivesCard : Claim7 := { stood := { row := recipDerivesRow, standIns := [], harness := (true, "d1501c2a6016ee1a2befe9f77a9daa0c16b6c3203084a14238b34b1438ff5e88"), looks := false }, kinds := [], alts := [], laidByText := true, laidKinds := [.data, .data], laidTests := true, laidLooks := .later }
def RecipDerivesCardSaid : Prop := Claim7.holds Tryd.pinned (.plain (OpenSpec.ofChange recipDerivesSpec)) recipDerivesCard

/-- THE SECOND FORM's CARD OF 'pyxislaw11.CbchsBack'. -/
def cbchsBackUptoCard : Claim7 := { stood := { row := cbchsBackUptoRow, standIns := [], harness := (true, "d1501c2a6016ee1a2befe9f77a9daa0c16b6c3203084a14238b34b1438ff5e88"), looks := false }, kinds := [], alts := [], laidByText := true, laidKinds := [.data, .data], laidTests := true, laidLooks := .later }
def CbchsBackUptoCardSaid : Prop := Claim7.holds Tryd.pinned (.plain (OpenSpec.upto cbchsBackSpec)) cbchsBackUptoCard

/-- THE SECOND FORM's CARD OF 'pyxislaw22.RecipDerives'. -/
def recipDerivesUptoCard : Claim7 := { stood := { row := recipDerivesUptoRow, standIns := [], harness := (true, "d1501c2a6016ee1a2befe9f77a9daa0c16b6c3203084a14238b34b1438ff5e88"), looks := false }, kinds := [], alts := [], laidByText := true, laidKinds := [.data, .data], laidTests := true, laidLooks := .later }
def RecipDerivesUptoCardSaid : Prop := Claim7.holds Tryd.pinned (.plain (OpenSpec.upto recipDerivesSpec)) recipDerivesUptoCard
end Rows
end Go.Proofs.YtepogbfkmflooaaDoor
