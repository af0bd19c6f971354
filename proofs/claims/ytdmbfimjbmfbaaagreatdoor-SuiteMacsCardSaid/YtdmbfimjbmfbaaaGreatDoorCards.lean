/-
  DERIVED. GIVEN WITH THE SEED: THE CARDS: each row of YtdmbfimjbmfbaaaGreatDoorRows.lean that lists a variable, with what it lists TIED to the program's text (the seventh form; the later family's looks); each row that meets fmt, with fmt's text TOLD by the authors' own Lean function (tested against real Go, not proved from fmt's source: count such statements apart). THE CARD IS WHAT COUNTS. Prove the row's statement (the work); the ties are given (YtdmbfimjbmfbaaaGreatDoorTie.lean); close each card by the builder's one call (the guide's Derived/Test/ToyasCard.lean, 'card_holds'). Laid BY PROGRAM, IN A SANDBOX (cutbox-door.mjs). By AI agents, Wed Nov 11 2026. No macro, syntax, notation, axiom, sorry.
-/
import Derived.Test.YtdmbfimjbmfbaaaGreatDoorRows
import GoSem.ClaimSeven
namespace Go.Proofs.YtdmbfimjbmfbaaaGreatDoor
namespace Rows

/-- THE TIED CARD OF 'pyxislaw13.SuiteMacs'. -/
def suiteMacsCard : Claim7 := { stood := { row := suiteMacsRow, standIns := [], harness := (true, "767a51c924194f7e9314de4c4affe5b783667d410a3921861e4b806a72b13029"), looks := false }, kinds := [], alts := [], laidByText := true, laidKinds := [.data, .data], laidTests := true, laidLooks := .later }
def SuiteMacsCardSaid : Prop := Claim7.holds Tryz.pinned (.plain (OpenSpec.ofChange suiteMacsSpec)) suiteMacsCard

/-- THE SECOND FORM's CARD OF 'pyxislaw13.SuiteMacs'. -/
def suiteMacsUptoCard : Claim7 := { stood := { row := suiteMacsUptoRow, standIns := [], harness := (true, "767a51c924194f7e9314de4c4affe5b783667d410a3921861e4b806a72b13029"), looks := false }, kinds := [], alts := [], laidByText := true, laidKinds := [.data, .data], laidTests := true, laidLooks := .later }
def SuiteMacsUptoCardSaid : Prop := Claim7.holds Tryz.pinned (.plain (OpenSpec.upto suiteMacsSpec)) suiteMacsUptoCard
end Rows
end Go.Proofs.YtdmbfimjbmfbaaaGreatDoor
