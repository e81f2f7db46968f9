/-
  DERIVED. GIVEN WITH THE SEED: THE CARDS: each row of YtlbcfmhpkcpmaaaGreatDoorRows.lean that lists a variable, with what it lists TIED to the program's text (the seventh form; the later family's looks); each row that meets fmt, with fmt's text TOLD by the authors' own Lean function (tested against real Go, not proved from fmt's source: count such statements apart). THE CARD IS WHAT COUNTS. Prove the row's statement (the work); the ties are given (YtlbcfmhpkcpmaaaGreatDoorTie.lean); close each card by the builder's one call (the guide's Derived/Test/ToyasCard.lean, 'card_holds'). Laid BY PROGRAM, IN A SANDBOX (cutbox-door.mjs). By AI agents, Wed Nov 11 2026. No macro, syntax, notation, axiom, sorry.
-/
import Derived.Test.YtlbcfmhpkcpmaaaGreatDoorRows
import GoSem.ClaimSeven
namespace Go.Proofs.YtlbcfmhpkcpmaaaGreatDoor
namespace Rows

/-- THE TIED CARD OF 'wavestorelaw22.SignalForms'. -/
def signalFormsCard : Claim7 := { stood := { row := signalFormsRow, standIns := [], harness := (true, "5dbc15583835b939f98a57a0893457288649e66a09e46a66ea224b02b2d602d6"), looks := false }, kinds := [], alts := [], laidByText := true, laidKinds := [.data, .data, .data, .data, .pinned], laidTests := true, laidLooks := .later }
def SignalFormsCardSaid : Prop := Claim7.holds Tryz.pinned (.plain (OpenSpec.ofChange signalFormsSpec)) signalFormsCard

/-- THE TIED CARD OF 'wavestorelaw22.SignalReads'. -/
def signalReadsCard : Claim7 := { stood := { row := signalReadsRow, standIns := [], harness := (true, "5dbc15583835b939f98a57a0893457288649e66a09e46a66ea224b02b2d602d6"), looks := false }, kinds := [], alts := [], laidByText := true, laidKinds := [.data, .data, .data, .data, .pinned], laidTests := true, laidLooks := .later }
def SignalReadsCardSaid : Prop := Claim7.holds Tryz.pinned (.plain (OpenSpec.ofChange signalReadsSpec)) signalReadsCard

/-- THE TIED CARD OF 'wavestorelaw22.SignalWalk'. -/
def signalWalkCard : Claim7 := { stood := { row := signalWalkRow, standIns := [], harness := (true, "5dbc15583835b939f98a57a0893457288649e66a09e46a66ea224b02b2d602d6"), looks := false }, kinds := [], alts := [], laidByText := true, laidKinds := [.data, .data, .data, .data, .pinned], laidTests := true, laidLooks := .later }
def SignalWalkCardSaid : Prop := Claim7.holds Tryz.pinned (.plain (OpenSpec.ofChange signalWalkSpec)) signalWalkCard

/-- THE TIED CARD OF 'wavestorelaw22.SignalEdits'. -/
def signalEditsCard : Claim7 := { stood := { row := signalEditsRow, standIns := [], harness := (true, "5dbc15583835b939f98a57a0893457288649e66a09e46a66ea224b02b2d602d6"), looks := false }, kinds := [], alts := [], laidByText := true, laidKinds := [.data, .data, .data, .data, .pinned], laidTests := true, laidLooks := .later }
def SignalEditsCardSaid : Prop := Claim7.holds Tryz.pinned (.plain (OpenSpec.ofChange signalEditsSpec)) signalEditsCard

/-- THE TIED CARD OF 'wavestorelaw22.SignalNormal'. -/
def signalNormalCard : Claim7 := { stood := { row := signalNormalRow, standIns := [], harness := (true, "5dbc15583835b939f98a57a0893457288649e66a09e46a66ea224b02b2d602d6"), looks := false }, kinds := [], alts := [], laidByText := true, laidKinds := [.data, .data, .data, .data, .pinned], laidTests := true, laidLooks := .later }
def SignalNormalCardSaid : Prop := Claim7.holds Tryz.pinned (.plain (OpenSpec.ofChange signalNormalSpec)) signalNormalCard

/-- THE TIED CARD OF 'wavestorelaw22.SignalPuts'. -/
def signalPutsCard : Claim7 := { stood := { row := signalPutsRow, standIns := [], harness := (true, "5dbc15583835b939f98a57a0893457288649e66a09e46a66ea224b02b2d602d6"), looks := false }, kinds := [], alts := [], laidByText := true, laidKinds := [.data, .data, .data, .data, .pinned], laidTests := true, laidLooks := .later }
def SignalPutsCardSaid : Prop := Claim7.holds Tryz.pinned (.plain (OpenSpec.ofChange signalPutsSpec)) signalPutsCard

/-- THE TIED CARD OF 'wavestorelaw22.SignalShifts'. -/
def signalShiftsCard : Claim7 := { stood := { row := signalShiftsRow, standIns := [], harness := (true, "5dbc15583835b939f98a57a0893457288649e66a09e46a66ea224b02b2d602d6"), looks := false }, kinds := [], alts := [], laidByText := true, laidKinds := [.data, .data, .data, .data, .pinned], laidTests := true, laidLooks := .later }
def SignalShiftsCardSaid : Prop := Claim7.holds Tryz.pinned (.plain (OpenSpec.ofChange signalShiftsSpec)) signalShiftsCard

/-- THE TIED CARD OF 'wavestorelaw22.SignalSplices'. -/
def signalSplicesCard : Claim7 := { stood := { row := signalSplicesRow, standIns := [], harness := (true, "5dbc15583835b939f98a57a0893457288649e66a09e46a66ea224b02b2d602d6"), looks := false }, kinds := [], alts := [], laidByText := true, laidKinds := [.data, .data, .data, .data, .pinned], laidTests := true, laidLooks := .later }
def SignalSplicesCardSaid : Prop := Claim7.holds Tryz.pinned (.plain (OpenSpec.ofChange signalSplicesSpec)) signalSplicesCard

/-- THE TIED CARD OF 'wavestorelaw22.SignalBits'. -/
def signalBitsCard : Claim7 := { stood := { row := signalBitsRow, standIns := [], harness := (true, "5dbc15583835b939f98a57a0893457288649e66a09e46a66ea224b02b2d602d6"), looks := false }, kinds := [], alts := [], laidByText := true, laidKinds := [.data, .data, .data, .data, .pinned], laidTests := true, laidLooks := .later }
def SignalBitsCardSaid : Prop := Claim7.holds Tryz.pinned (.plain (OpenSpec.ofChange signalBitsSpec)) signalBitsCard

/-- THE SECOND FORM's CARD OF 'wavestorelaw22.SignalForms'. -/
def signalFormsUptoCard : Claim7 := { stood := { row := signalFormsUptoRow, standIns := [], harness := (true, "5dbc15583835b939f98a57a0893457288649e66a09e46a66ea224b02b2d602d6"), looks := false }, kinds := [], alts := [], laidByText := true, laidKinds := [.data, .data, .data, .data, .pinned], laidTests := true, laidLooks := .later }
def SignalFormsUptoCardSaid : Prop := Claim7.holds Tryz.pinned (.plain (OpenSpec.upto signalFormsSpec)) signalFormsUptoCard

/-- THE SECOND FORM's CARD OF 'wavestorelaw22.SignalReads'. -/
def signalReadsUptoCard : Claim7 := { stood := { row := signalReadsUptoRow, standIns := [], harness := (true, "5dbc15583835b939f98a57a0893457288649e66a09e46a66ea224b02b2d602d6"), looks := false }, kinds := [], alts := [], laidByText := true, laidKinds := [.data, .data, .data, .data, .pinned], laidTests := true, laidLooks := .later }
def SignalReadsUptoCardSaid : Prop := Claim7.holds Tryz.pinned (.plain (OpenSpec.upto signalReadsSpec)) signalReadsUptoCard

/-- THE SECOND FORM's CARD OF 'wavestorelaw22.SignalWalk'. -/
def signalWalkUptoCard : Claim7 := { stood := { row := signalWalkUptoRow, standIns := [], harness := (true, "5dbc15583835b939f98a57a0893457288649e66a09e46a66ea224b02b2d602d6"), looks := false }, kinds := [], alts := [], laidByText := true, laidKinds := [.data, .data, .data, .data, .pinned], laidTests := true, laidLooks := .later }
def SignalWalkUptoCardSaid : Prop := Claim7.holds Tryz.pinned (.plain (OpenSpec.upto signalWalkSpec)) signalWalkUptoCard

/-- THE SECOND FORM's CARD OF 'wavestorelaw22.SignalEdits'. -/
def signalEditsUptoCard : Claim7 := { stood := { row := signalEditsUptoRow, standIns := [], harness := (true, "5dbc15583835b939f98a57a0893457288649e66a09e46a66ea224b02b2d602d6"), looks := false }, kinds := [], alts := [], laidByText := true, laidKinds := [.data, .data, .data, .data, .pinned], laidTests := true, laidLooks := .later }
def SignalEditsUptoCardSaid : Prop := Claim7.holds Tryz.pinned (.plain (OpenSpec.upto signalEditsSpec)) signalEditsUptoCard

/-- THE SECOND FORM's CARD OF 'wavestorelaw22.SignalNormal'. -/
def signalNormalUptoCard : Claim7 := { stood := { row := signalNormalUptoRow, standIns := [], harness := (true, "5dbc15583835b939f98a57a0893457288649e66a09e46a66ea224b02b2d602d6"), looks := false }, kinds := [], alts := [], laidByText := true, laidKinds := [.data, .data, .data, .data, .pinned], laidTests := true, laidLooks := .later }
def SignalNormalUptoCardSaid : Prop := Claim7.holds Tryz.pinned (.plain (OpenSpec.upto signalNormalSpec)) signalNormalUptoCard

/-- THE SECOND FORM's CARD OF 'wavestorelaw22.SignalPuts'. -/
def signalPutsUptoCard : Claim7 := { stood := { row := signalPutsUptoRow, standIns := [], harness := (true, "5dbc15583835b939f98a57a0893457288649e66a09e46a66ea224b02b2d602d6"), looks := false }, kinds := [], alts := [], laidByText := true, laidKinds := [.data, .data, .data, .data, .pinned], laidTests := true, laidLooks := .later }
def SignalPutsUptoCardSaid : Prop := Claim7.holds Tryz.pinned (.plain (OpenSpec.upto signalPutsSpec)) signalPutsUptoCard

/-- THE SECOND FORM's CARD OF 'wavestorelaw22.SignalShifts'. -/
def signalShiftsUptoCard : Claim7 := { stood := { row := signalShiftsUptoRow, standIns := [], harness := (true, "5dbc15583835b939f98a57a0893457288649e66a09e46a66ea224b02b2d602d6"), looks := false }, kinds := [], alts := [], laidByText := true, laidKinds := [.data, .data, .data, .data, .pinned], laidTests := true, laidLooks := .later }
def SignalShiftsUptoCardSaid : Prop := Claim7.holds Tryz.pinned (.plain (OpenSpec.upto signalShiftsSpec)) signalShiftsUptoCard

/-- THE SECOND FORM's CARD OF 'wavestorelaw22.SignalSplices'. -/
def signalSplicesUptoCard : Claim7 := { stood := { row := signalSplicesUptoRow, standIns := [], harness := (true, "5dbc15583835b939f98a57a0893457288649e66a09e46a66ea224b02b2d602d6"), looks := false }, kinds := [], alts := [], laidByText := true, laidKinds := [.data, .data, .data, .data, .pinned], laidTests := true, laidLooks := .later }
def SignalSplicesUptoCardSaid : Prop := Claim7.holds Tryz.pinned (.plain (OpenSpec.upto signalSplicesSpec)) signalSplicesUptoCard

/-- THE SECOND FORM's CARD OF 'wavestorelaw22.SignalBits'. -/
def signalBitsUptoCard : Claim7 := { stood := { row := signalBitsUptoRow, standIns := [], harness := (true, "5dbc15583835b939f98a57a0893457288649e66a09e46a66ea224b02b2d602d6"), looks := false }, kinds := [], alts := [], laidByText := true, laidKinds := [.data, .data, .data, .data, .pinned], laidTests := true, laidLooks := .later }
def SignalBitsUptoCardSaid : Prop := Claim7.holds Tryz.pinned (.plain (OpenSpec.upto signalBitsSpec)) signalBitsUptoCard
end Rows
end Go.Proofs.YtlbcfmhpkcpmaaaGreatDoor
