/-
  DERIVED. GIVEN WITH THE SEED: THE CARDS: each row of YtcdekelomkcahaaGreatDoorRows.lean that lists a variable, with what it lists TIED to the program's text (the seventh form; the later family's looks); each row that meets fmt, with fmt's text TOLD by the authors' own Lean function (tested against real Go, not proved from fmt's source: count such statements apart). THE CARD IS WHAT COUNTS. Prove the row's statement (the work); the ties are given (YtcdekelomkcahaaGreatDoorTie.lean); close each card by the builder's one call (the guide's Derived/Test/ToyasCard.lean, 'card_holds'). Laid BY PROGRAM, IN A SANDBOX (cutbox-door.mjs). By AI agents, Wed Nov 11 2026. No macro, syntax, notation, axiom, sorry.
-/
import Derived.Test.YtcdekelomkcahaaGreatDoorRows
import GoSem.ClaimSeven
namespace Go.Proofs.YtcdekelomkcahaaGreatDoor
namespace Rows

/-- THE TIED CARD OF 'wavestorelaw25.DeclarationsFormats'. -/
def declarationsFormatsCard : Claim7 := { stood := { row := declarationsFormatsRow, standIns := [], harness := (true, "b9a7c7b65a8c2958fd8fe9f055d651a1663350f08aa45504b1ea503bff941bd1"), looks := true }, kinds := [], alts := [], laidByText := true, laidKinds := [.data, .data, .data, .data, .sentinel, .sentinel, .pinned], laidTests := true, laidLooks := .later }
def DeclarationsFormatsCardSaid : Prop := Claim7.holds Tryz.pinned (.plain (OpenSpec.ofChange declarationsFormatsSpec)) declarationsFormatsCard

/-- THE TIED CARD OF 'wavestorelaw25.DeclarationsReturns'. -/
def declarationsReturnsCard : Claim7 := { stood := { row := declarationsReturnsRow, standIns := [], harness := (true, "b9a7c7b65a8c2958fd8fe9f055d651a1663350f08aa45504b1ea503bff941bd1"), looks := true }, kinds := [], alts := [], laidByText := true, laidKinds := [.data, .data, .data, .data, .sentinel, .sentinel, .pinned], laidTests := true, laidLooks := .later }
def DeclarationsReturnsCardSaid : Prop := Claim7.holds Tryz.pinned (.plain (OpenSpec.ofChange declarationsReturnsSpec)) declarationsReturnsCard

/-- THE TIED CARD OF 'wavestorelaw25.DeclarationsOrdered'. -/
def declarationsOrderedCard : Claim7 := { stood := { row := declarationsOrderedRow, standIns := [], harness := (true, "b9a7c7b65a8c2958fd8fe9f055d651a1663350f08aa45504b1ea503bff941bd1"), looks := true }, kinds := [], alts := [], laidByText := true, laidKinds := [.data, .data, .data, .data, .sentinel, .sentinel, .pinned], laidTests := true, laidLooks := .later }
def DeclarationsOrderedCardSaid : Prop := Claim7.holds Tryz.pinned (.plain (OpenSpec.ofChange declarationsOrderedSpec)) declarationsOrderedCard

/-- THE TIED CARD OF 'wavestorelaw25.DeclarationsPositions'. -/
def declarationsPositionsCard : Claim7 := { stood := { row := declarationsPositionsRow, standIns := [], harness := (true, "b9a7c7b65a8c2958fd8fe9f055d651a1663350f08aa45504b1ea503bff941bd1"), looks := true }, kinds := [], alts := [], laidByText := true, laidKinds := [.data, .data, .data, .data, .sentinel, .sentinel, .pinned], laidTests := true, laidLooks := .later }
def DeclarationsPositionsCardSaid : Prop := Claim7.holds Tryz.pinned (.plain (OpenSpec.ofChange declarationsPositionsSpec)) declarationsPositionsCard

/-- THE TIED CARD OF 'wavestorelaw25.DeclarationsPrefix'. -/
def declarationsPrefixCard : Claim7 := { stood := { row := declarationsPrefixRow, standIns := [], harness := (true, "b9a7c7b65a8c2958fd8fe9f055d651a1663350f08aa45504b1ea503bff941bd1"), looks := true }, kinds := [], alts := [], laidByText := true, laidKinds := [.data, .data, .data, .data, .sentinel, .sentinel, .pinned], laidTests := true, laidLooks := .later }
def DeclarationsPrefixCardSaid : Prop := Claim7.holds Tryz.pinned (.plain (OpenSpec.ofChange declarationsPrefixSpec)) declarationsPrefixCard

/-- THE TIED CARD OF 'wavestorelaw25.DeclarationsSkips'. -/
def declarationsSkipsCard : Claim7 := { stood := { row := declarationsSkipsRow, standIns := [], harness := (true, "b9a7c7b65a8c2958fd8fe9f055d651a1663350f08aa45504b1ea503bff941bd1"), looks := true }, kinds := [], alts := [], laidByText := true, laidKinds := [.data, .data, .data, .data, .sentinel, .sentinel, .pinned], laidTests := true, laidLooks := .later }
def DeclarationsSkipsCardSaid : Prop := Claim7.holds Tryz.pinned (.plain (OpenSpec.ofChange declarationsSkipsSpec)) declarationsSkipsCard

/-- THE SECOND FORM's CARD OF 'wavestorelaw25.DeclarationsFormats'. -/
def declarationsFormatsUptoCard : Claim7 := { stood := { row := declarationsFormatsUptoRow, standIns := [], harness := (true, "b9a7c7b65a8c2958fd8fe9f055d651a1663350f08aa45504b1ea503bff941bd1"), looks := true }, kinds := [], alts := [], laidByText := true, laidKinds := [.data, .data, .data, .data, .sentinel, .sentinel, .pinned], laidTests := true, laidLooks := .later }
def DeclarationsFormatsUptoCardSaid : Prop := Claim7.holds Tryz.pinned (.plain (OpenSpec.upto declarationsFormatsSpec)) declarationsFormatsUptoCard

/-- THE SECOND FORM's CARD OF 'wavestorelaw25.DeclarationsReturns'. -/
def declarationsReturnsUptoCard : Claim7 := { stood := { row := declarationsReturnsUptoRow, standIns := [], harness := (true, "b9a7c7b65a8c2958fd8fe9f055d651a1663350f08aa45504b1ea503bff941bd1"), looks := true }, kinds := [], alts := [], laidByText := true, laidKinds := [.data, .data, .data, .data, .sentinel, .sentinel, .pinned], laidTests := true, laidLooks := .later }
def DeclarationsReturnsUptoCardSaid : Prop := Claim7.holds Tryz.pinned (.plain (OpenSpec.upto declarationsReturnsSpec)) declarationsReturnsUptoCard

/-- THE SECOND FORM's CARD OF 'wavestorelaw25.DeclarationsOrdered'. -/
def declarationsOrderedUptoCard : Claim7 := { stood := { row := declarationsOrderedUptoRow, standIns := [], harness := (true, "b9a7c7b65a8c2958fd8fe9f055d651a1663350f08aa45504b1ea503bff941bd1"), looks := true }, kinds := [], alts := [], laidByText := true, laidKinds := [.data, .data, .data, .data, .sentinel, .sentinel, .pinned], laidTests := true, laidLooks := .later }
def DeclarationsOrderedUptoCardSaid : Prop := Claim7.holds Tryz.pinned (.plain (OpenSpec.upto declarationsOrderedSpec)) declarationsOrderedUptoCard

/-- THE SECOND FORM's CARD OF 'wavestorelaw25.DeclarationsPositions'. -/
def declarationsPositionsUptoCard : Claim7 := { stood := { row := declarationsPositionsUptoRow, standIns := [], harness := (true, "b9a7c7b65a8c2958fd8fe9f055d651a1663350f08aa45504b1ea503bff941bd1"), looks := true }, kinds := [], alts := [], laidByText := true, laidKinds := [.data, .data, .data, .data, .sentinel, .sentinel, .pinned], laidTests := true, laidLooks := .later }
def DeclarationsPositionsUptoCardSaid : Prop := Claim7.holds Tryz.pinned (.plain (OpenSpec.upto declarationsPositionsSpec)) declarationsPositionsUptoCard

/-- THE SECOND FORM's CARD OF 'wavestorelaw25.DeclarationsPrefix'. -/
def declarationsPrefixUptoCard : Claim7 := { stood := { row := declarationsPrefixUptoRow, standIns := [], harness := (true, "b9a7c7b65a8c2958fd8fe9f055d651a1663350f08aa45504b1ea503bff941bd1"), looks := true }, kinds := [], alts := [], laidByText := true, laidKinds := [.data, .data, .data, .data, .sentinel, .sentinel, .pinned], laidTests := true, laidLooks := .later }
def DeclarationsPrefixUptoCardSaid : Prop := Claim7.holds Tryz.pinned (.plain (OpenSpec.upto declarationsPrefixSpec)) declarationsPrefixUptoCard

/-- THE SECOND FORM's CARD OF 'wavestorelaw25.DeclarationsSkips'. -/
def declarationsSkipsUptoCard : Claim7 := { stood := { row := declarationsSkipsUptoRow, standIns := [], harness := (true, "b9a7c7b65a8c2958fd8fe9f055d651a1663350f08aa45504b1ea503bff941bd1"), looks := true }, kinds := [], alts := [], laidByText := true, laidKinds := [.data, .data, .data, .data, .sentinel, .sentinel, .pinned], laidTests := true, laidLooks := .later }
def DeclarationsSkipsUptoCardSaid : Prop := Claim7.holds Tryz.pinned (.plain (OpenSpec.upto declarationsSkipsSpec)) declarationsSkipsUptoCard
end Rows
end Go.Proofs.YtcdekelomkcahaaGreatDoor
