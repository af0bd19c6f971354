/-
  DERIVED. GIVEN WITH THE SEED: THE CARDS: each row of YtkjdejadambffaaDoorRows.lean that lists a variable, with what it lists TIED to the program's text (the seventh form; the later family's looks); each row that meets fmt, with fmt's text TOLD by the authors' own Lean function (tested against real Go, not proved from fmt's source: count such statements apart). THE CARD IS WHAT COUNTS. Prove the row's statement (the work); the ties are given (YtkjdejadambffaaDoorTie.lean); close each card by the builder's one call (the guide's Derived/Test/ToyasCard.lean, 'card_holds'). Laid BY PROGRAM, IN A SANDBOX (cutbox-door.mjs). By AI agents, Wed Nov 11 2026. No macro, syntax, notation, axiom, sorry.
-/
import Derived.Test.YtkjdejadambffaaDoorRows
import GoSem.ClaimSeven
namespace Go.Proofs.YtkjdejadambffaaDoor
namespace Rows

/-- THE TIED CARD OF 'pyxislaw09.GcmSeals'. -/
def gcmSealsCard : Claim7 := { stood := { row := gcmSealsRow, standIns := [], harness := (true, "1a9627a5dd83ef7b8d8be1e20a4c532c4b437a294ddf19c6711a5a9deec91c58"), looks := false }, kinds := [], alts := [], laidByText := true, laidKinds := [.data], laidTests := true, laidLooks := .later }
def GcmSealsCardSaid : Prop := Claim7.holds Tryd.pinned (.plain (OpenSpec.ofChange gcmSealsSpec)) gcmSealsCard

/-- THE TIED CARD OF 'pyxislaw09.GcmTags'. -/
def gcmTagsCard : Claim7 := { stood := { row := gcmTagsRow, standIns := [], harness := (true, "1a9627a5dd83ef7b8d8be1e20a4c532c4b437a294ddf19c6711a5a9deec91c58"), looks := false }, kinds := [], alts := [], laidByText := true, laidKinds := [.data], laidTests := true, laidLooks := .later }
def GcmTagsCardSaid : Prop := Claim7.holds Tryd.pinned (.plain (OpenSpec.ofChange gcmTagsSpec)) gcmTagsCard

/-- THE TIED CARD OF 'pyxislaw09.GcmOpens'. -/
def gcmOpensCard : Claim7 := { stood := { row := gcmOpensRow, standIns := [], harness := (true, "1a9627a5dd83ef7b8d8be1e20a4c532c4b437a294ddf19c6711a5a9deec91c58"), looks := false }, kinds := [], alts := [], laidByText := true, laidKinds := [.data], laidTests := true, laidLooks := .later }
def GcmOpensCardSaid : Prop := Claim7.holds Tryd.pinned (.plain (OpenSpec.ofChange gcmOpensSpec)) gcmOpensCard

/-- THE TIED CARD OF 'pyxislaw09.GcmBack'. -/
def gcmBackCard : Claim7 := { stood := { row := gcmBackRow, standIns := [], harness := (true, "1a9627a5dd83ef7b8d8be1e20a4c532c4b437a294ddf19c6711a5a9deec91c58"), looks := false }, kinds := [], alts := [], laidByText := true, laidKinds := [.data], laidTests := true, laidLooks := .later }
def GcmBackCardSaid : Prop := Claim7.holds Tryd.pinned (.plain (OpenSpec.ofChange gcmBackSpec)) gcmBackCard

/-- THE TIED CARD OF 'pyxislaw09.GcmChanged'. -/
def gcmChangedCard : Claim7 := { stood := { row := gcmChangedRow, standIns := [], harness := (true, "1a9627a5dd83ef7b8d8be1e20a4c532c4b437a294ddf19c6711a5a9deec91c58"), looks := false }, kinds := [], alts := [], laidByText := true, laidKinds := [.data], laidTests := true, laidLooks := .later }
def GcmChangedCardSaid : Prop := Claim7.holds Tryd.pinned (.plain (OpenSpec.ofChange gcmChangedSpec)) gcmChangedCard

/-- THE SECOND FORM's CARD OF 'pyxislaw09.GcmSeals'. -/
def gcmSealsUptoCard : Claim7 := { stood := { row := gcmSealsUptoRow, standIns := [], harness := (true, "1a9627a5dd83ef7b8d8be1e20a4c532c4b437a294ddf19c6711a5a9deec91c58"), looks := false }, kinds := [], alts := [], laidByText := true, laidKinds := [.data], laidTests := true, laidLooks := .later }
def GcmSealsUptoCardSaid : Prop := Claim7.holds Tryd.pinned (.plain (OpenSpec.upto gcmSealsSpec)) gcmSealsUptoCard

/-- THE SECOND FORM's CARD OF 'pyxislaw09.GcmTags'. -/
def gcmTagsUptoCard : Claim7 := { stood := { row := gcmTagsUptoRow, standIns := [], harness := (true, "1a9627a5dd83ef7b8d8be1e20a4c532c4b437a294ddf19c6711a5a9deec91c58"), looks := false }, kinds := [], alts := [], laidByText := true, laidKinds := [.data], laidTests := true, laidLooks := .later }
def GcmTagsUptoCardSaid : Prop := Claim7.holds Tryd.pinned (.plain (OpenSpec.upto gcmTagsSpec)) gcmTagsUptoCard

/-- THE SECOND FORM's CARD OF 'pyxislaw09.GcmOpens'. -/
def gcmOpensUptoCard : Claim7 := { stood := { row := gcmOpensUptoRow, standIns := [], harness := (true, "1a9627a5dd83ef7b8d8be1e20a4c532c4b437a294ddf19c6711a5a9deec91c58"), looks := false }, kinds := [], alts := [], laidByText := true, laidKinds := [.data], laidTests := true, laidLooks := .later }
def GcmOpensUptoCardSaid : Prop := Claim7.holds Tryd.pinned (.plain (OpenSpec.upto gcmOpensSpec)) gcmOpensUptoCard

/-- THE SECOND FORM's CARD OF 'pyxislaw09.GcmBack'. -/
def gcmBackUptoCard : Claim7 := { stood := { row := gcmBackUptoRow, standIns := [], harness := (true, "1a9627a5dd83ef7b8d8be1e20a4c532c4b437a294ddf19c6711a5a9deec91c58"), looks := false }, kinds := [], alts := [], laidByText := true, laidKinds := [.data], laidTests := true, laidLooks := .later }
def GcmBackUptoCardSaid : Prop := Claim7.holds Tryd.pinned (.plain (OpenSpec.upto gcmBackSpec)) gcmBackUptoCard

/-- THE SECOND FORM's CARD OF 'pyxislaw09.GcmChanged'. -/
def gcmChangedUptoCard : Claim7 := { stood := { row := gcmChangedUptoRow, standIns := [], harness := (true, "1a9627a5dd83ef7b8d8be1e20a4c532c4b437a294ddf19c6711a5a9deec91c58"), looks := false }, kinds := [], alts := [], laidByText := true, laidKinds := [.data], laidTests := true, laidLooks := .later }
def GcmChangedUptoCardSaid : Prop := Claim7.holds Tryd.pinned (.plain (OpenSpec.upto gcmChangedSpec)) gcmChangedUptoCard
end Rows
end Go.Proofs.YtkjdejadambffaaDoor
