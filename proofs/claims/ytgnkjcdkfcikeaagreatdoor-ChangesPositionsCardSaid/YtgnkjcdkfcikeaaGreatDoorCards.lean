/-
  DERIVED. GIVEN WITH THE SEED: THE CARDS: each row of YtgnkjcdkfcikeaaGreatDoorRows.lean that lists a variable, with what it lists TIED to the program's text (the seventh form; the later family's looks); each row that meets fmt, with fmt's text TOLD by the authors' own Lean function (tested against real Go, not proved from fmt's source: count such statements apart). THE CARD IS WHAT COUNTS. Prove the row's statement (the work); the ties are given (YtgnkjcdkfcikeaaGreatDoorTie.lean); close each card by the builder's one call (the guide's Derived/Test/ToyasCard.lean, 'card_holds'). Laid BY PROGRAM, IN A SANDBOX (cutbox-door.mjs). By AI agents, Wed Nov 11 2026. No macro, syntax, notation, axiom, sorry.
-/
import Derived.Test.YtgnkjcdkfcikeaaGreatDoorRows
import GoSem.ClaimSeven
namespace Go.Proofs.YtgnkjcdkfcikeaaGreatDoor
namespace Rows

/-- THE TIED CARD OF 'wavestorelaw26.ChangesReturns'. -/
def changesReturnsCard : Claim7 := { stood := { row := changesReturnsRow, standIns := [], harness := (true, "21a5da1df5f0e26676b9750f7ff3b226e9c96c2d7e73077ad21ca9bdaeb92112"), looks := true }, kinds := [], alts := [], laidByText := true, laidKinds := [.data, .data, .data, .data, .sentinel, .sentinel, .pinned], laidTests := true, laidLooks := .later }
def ChangesReturnsCardSaid : Prop := Claim7.holds Tryz.pinned (.plain (OpenSpec.ofChange changesReturnsSpec)) changesReturnsCard

/-- THE TIED CARD OF 'wavestorelaw26.ChangesValid'. -/
def changesValidCard : Claim7 := { stood := { row := changesValidRow, standIns := [], harness := (true, "21a5da1df5f0e26676b9750f7ff3b226e9c96c2d7e73077ad21ca9bdaeb92112"), looks := true }, kinds := [], alts := [], laidByText := true, laidKinds := [.data, .data, .data, .data, .sentinel, .sentinel, .pinned], laidTests := true, laidLooks := .later }
def ChangesValidCardSaid : Prop := Claim7.holds Tryz.pinned (.plain (OpenSpec.ofChange changesValidSpec)) changesValidCard

/-- THE TIED CARD OF 'wavestorelaw26.ChangesComments'. -/
def changesCommentsCard : Claim7 := { stood := { row := changesCommentsRow, standIns := [], harness := (true, "21a5da1df5f0e26676b9750f7ff3b226e9c96c2d7e73077ad21ca9bdaeb92112"), looks := true }, kinds := [], alts := [], laidByText := true, laidKinds := [.data, .data, .data, .data, .sentinel, .sentinel, .pinned], laidTests := true, laidLooks := .later }
def ChangesCommentsCardSaid : Prop := Claim7.holds Tryz.pinned (.plain (OpenSpec.ofChange changesCommentsSpec)) changesCommentsCard

/-- THE TIED CARD OF 'wavestorelaw26.ChangesUnknown'. -/
def changesUnknownCard : Claim7 := { stood := { row := changesUnknownRow, standIns := [], harness := (true, "21a5da1df5f0e26676b9750f7ff3b226e9c96c2d7e73077ad21ca9bdaeb92112"), looks := true }, kinds := [], alts := [], laidByText := true, laidKinds := [.data, .data, .data, .data, .sentinel, .sentinel, .pinned], laidTests := true, laidLooks := .later }
def ChangesUnknownCardSaid : Prop := Claim7.holds Tryz.pinned (.plain (OpenSpec.ofChange changesUnknownSpec)) changesUnknownCard

/-- THE TIED CARD OF 'wavestorelaw26.ChangesPositions'. -/
def changesPositionsCard : Claim7 := { stood := { row := changesPositionsRow, standIns := [], harness := (true, "21a5da1df5f0e26676b9750f7ff3b226e9c96c2d7e73077ad21ca9bdaeb92112"), looks := true }, kinds := [], alts := [], laidByText := true, laidKinds := [.data, .data, .data, .data, .sentinel, .sentinel, .pinned], laidTests := true, laidLooks := .later }
def ChangesPositionsCardSaid : Prop := Claim7.holds Tryz.pinned (.plain (OpenSpec.ofChange changesPositionsSpec)) changesPositionsCard

/-- THE SECOND FORM's CARD OF 'wavestorelaw26.ChangesReturns'. -/
def changesReturnsUptoCard : Claim7 := { stood := { row := changesReturnsUptoRow, standIns := [], harness := (true, "21a5da1df5f0e26676b9750f7ff3b226e9c96c2d7e73077ad21ca9bdaeb92112"), looks := true }, kinds := [], alts := [], laidByText := true, laidKinds := [.data, .data, .data, .data, .sentinel, .sentinel, .pinned], laidTests := true, laidLooks := .later }
def ChangesReturnsUptoCardSaid : Prop := Claim7.holds Tryz.pinned (.plain (OpenSpec.upto changesReturnsSpec)) changesReturnsUptoCard

/-- THE SECOND FORM's CARD OF 'wavestorelaw26.ChangesValid'. -/
def changesValidUptoCard : Claim7 := { stood := { row := changesValidUptoRow, standIns := [], harness := (true, "21a5da1df5f0e26676b9750f7ff3b226e9c96c2d7e73077ad21ca9bdaeb92112"), looks := true }, kinds := [], alts := [], laidByText := true, laidKinds := [.data, .data, .data, .data, .sentinel, .sentinel, .pinned], laidTests := true, laidLooks := .later }
def ChangesValidUptoCardSaid : Prop := Claim7.holds Tryz.pinned (.plain (OpenSpec.upto changesValidSpec)) changesValidUptoCard

/-- THE SECOND FORM's CARD OF 'wavestorelaw26.ChangesComments'. -/
def changesCommentsUptoCard : Claim7 := { stood := { row := changesCommentsUptoRow, standIns := [], harness := (true, "21a5da1df5f0e26676b9750f7ff3b226e9c96c2d7e73077ad21ca9bdaeb92112"), looks := true }, kinds := [], alts := [], laidByText := true, laidKinds := [.data, .data, .data, .data, .sentinel, .sentinel, .pinned], laidTests := true, laidLooks := .later }
def ChangesCommentsUptoCardSaid : Prop := Claim7.holds Tryz.pinned (.plain (OpenSpec.upto changesCommentsSpec)) changesCommentsUptoCard

/-- THE SECOND FORM's CARD OF 'wavestorelaw26.ChangesUnknown'. -/
def changesUnknownUptoCard : Claim7 := { stood := { row := changesUnknownUptoRow, standIns := [], harness := (true, "21a5da1df5f0e26676b9750f7ff3b226e9c96c2d7e73077ad21ca9bdaeb92112"), looks := true }, kinds := [], alts := [], laidByText := true, laidKinds := [.data, .data, .data, .data, .sentinel, .sentinel, .pinned], laidTests := true, laidLooks := .later }
def ChangesUnknownUptoCardSaid : Prop := Claim7.holds Tryz.pinned (.plain (OpenSpec.upto changesUnknownSpec)) changesUnknownUptoCard

/-- THE SECOND FORM's CARD OF 'wavestorelaw26.ChangesPositions'. -/
def changesPositionsUptoCard : Claim7 := { stood := { row := changesPositionsUptoRow, standIns := [], harness := (true, "21a5da1df5f0e26676b9750f7ff3b226e9c96c2d7e73077ad21ca9bdaeb92112"), looks := true }, kinds := [], alts := [], laidByText := true, laidKinds := [.data, .data, .data, .data, .sentinel, .sentinel, .pinned], laidTests := true, laidLooks := .later }
def ChangesPositionsUptoCardSaid : Prop := Claim7.holds Tryz.pinned (.plain (OpenSpec.upto changesPositionsSpec)) changesPositionsUptoCard
end Rows
end Go.Proofs.YtgnkjcdkfcikeaaGreatDoor
