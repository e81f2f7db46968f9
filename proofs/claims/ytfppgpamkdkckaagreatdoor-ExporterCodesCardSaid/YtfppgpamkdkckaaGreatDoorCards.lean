/-
  DERIVED. GIVEN WITH THE SEED: THE CARDS: each row of YtfppgpamkdkckaaGreatDoorRows.lean that lists a variable, with what it lists TIED to the program's text (the seventh form; the later family's looks); each row that meets fmt, with fmt's text TOLD by the authors' own Lean function (tested against real Go, not proved from fmt's source: count such statements apart). THE CARD IS WHAT COUNTS. Prove the row's statement (the work); the ties are given (YtfppgpamkdkckaaGreatDoorTie.lean); close each card by the builder's one call (the guide's Derived/Test/ToyasCard.lean, 'card_holds'). Laid BY PROGRAM, IN A SANDBOX (cutbox-door.mjs). By AI agents, Wed Nov 11 2026. No macro, syntax, notation, axiom, sorry.
-/
import Derived.Test.YtfppgpamkdkckaaGreatDoorRows
import GoSem.ClaimSeven
namespace Go.Proofs.YtfppgpamkdkckaaGreatDoor
namespace Rows

/-- THE TIED CARD OF 'wavestorelaw28.ExporterCodes'. -/
def exporterCodesCard : Claim7 := { stood := { row := exporterCodesRow, standIns := [], harness := (true, "ea212f05f9dd7a37691b0b2e1f6f5f1968a670f2293cde5c0f90cd1b425158f1"), looks := false }, kinds := [], alts := [], laidByText := true, laidKinds := [.data, .data, .data, .data, .pinned], laidTests := true, laidLooks := .later }
def ExporterCodesCardSaid : Prop := Claim7.holds Tryz.pinned (.plain (OpenSpec.ofChange exporterCodesSpec)) exporterCodesCard

/-- THE TIED CARD OF 'wavestorelaw28.ExporterTexts'. -/
def exporterTextsCard : Claim7 := { stood := { row := exporterTextsRow, standIns := [], harness := (true, "ea212f05f9dd7a37691b0b2e1f6f5f1968a670f2293cde5c0f90cd1b425158f1"), looks := false }, kinds := [], alts := [], laidByText := true, laidKinds := [.data, .data, .data, .data, .pinned], laidTests := true, laidLooks := .later }
def ExporterTextsCardSaid : Prop := Claim7.holds Tryz.pinned (.plain (OpenSpec.ofChange exporterTextsSpec)) exporterTextsCard

/-- THE TIED CARD OF 'wavestorelaw28.ExporterOrdered'. -/
def exporterOrderedCard : Claim7 := { stood := { row := exporterOrderedRow, standIns := [], harness := (true, "ea212f05f9dd7a37691b0b2e1f6f5f1968a670f2293cde5c0f90cd1b425158f1"), looks := false }, kinds := [], alts := [], laidByText := true, laidKinds := [.data, .data, .data, .data, .pinned], laidTests := true, laidLooks := .later }
def ExporterOrderedCardSaid : Prop := Claim7.holds Tryz.pinned (.plain (OpenSpec.ofChange exporterOrderedSpec)) exporterOrderedCard

/-- THE TIED CARD OF 'wavestorelaw28.ExporterShorter'. -/
def exporterShorterCard : Claim7 := { stood := { row := exporterShorterRow, standIns := [], harness := (true, "ea212f05f9dd7a37691b0b2e1f6f5f1968a670f2293cde5c0f90cd1b425158f1"), looks := false }, kinds := [], alts := [], laidByText := true, laidKinds := [.data, .data, .data, .data, .pinned], laidTests := true, laidLooks := .later }
def ExporterShorterCardSaid : Prop := Claim7.holds Tryz.pinned (.plain (OpenSpec.ofChange exporterShorterSpec)) exporterShorterCard

/-- THE TIED CARD OF 'wavestorelaw28.ExporterApplied'. -/
def exporterAppliedCard : Claim7 := { stood := { row := exporterAppliedRow, standIns := [], harness := (true, "ea212f05f9dd7a37691b0b2e1f6f5f1968a670f2293cde5c0f90cd1b425158f1"), looks := false }, kinds := [], alts := [], laidByText := true, laidKinds := [.data, .data, .data, .data, .pinned], laidTests := true, laidLooks := .later }
def ExporterAppliedCardSaid : Prop := Claim7.holds Tryz.pinned (.plain (OpenSpec.ofChange exporterAppliedSpec)) exporterAppliedCard

/-- THE SECOND FORM's CARD OF 'wavestorelaw28.ExporterCodes'. -/
def exporterCodesUptoCard : Claim7 := { stood := { row := exporterCodesUptoRow, standIns := [], harness := (true, "ea212f05f9dd7a37691b0b2e1f6f5f1968a670f2293cde5c0f90cd1b425158f1"), looks := false }, kinds := [], alts := [], laidByText := true, laidKinds := [.data, .data, .data, .data, .pinned], laidTests := true, laidLooks := .later }
def ExporterCodesUptoCardSaid : Prop := Claim7.holds Tryz.pinned (.plain (OpenSpec.upto exporterCodesSpec)) exporterCodesUptoCard

/-- THE SECOND FORM's CARD OF 'wavestorelaw28.ExporterTexts'. -/
def exporterTextsUptoCard : Claim7 := { stood := { row := exporterTextsUptoRow, standIns := [], harness := (true, "ea212f05f9dd7a37691b0b2e1f6f5f1968a670f2293cde5c0f90cd1b425158f1"), looks := false }, kinds := [], alts := [], laidByText := true, laidKinds := [.data, .data, .data, .data, .pinned], laidTests := true, laidLooks := .later }
def ExporterTextsUptoCardSaid : Prop := Claim7.holds Tryz.pinned (.plain (OpenSpec.upto exporterTextsSpec)) exporterTextsUptoCard

/-- THE SECOND FORM's CARD OF 'wavestorelaw28.ExporterOrdered'. -/
def exporterOrderedUptoCard : Claim7 := { stood := { row := exporterOrderedUptoRow, standIns := [], harness := (true, "ea212f05f9dd7a37691b0b2e1f6f5f1968a670f2293cde5c0f90cd1b425158f1"), looks := false }, kinds := [], alts := [], laidByText := true, laidKinds := [.data, .data, .data, .data, .pinned], laidTests := true, laidLooks := .later }
def ExporterOrderedUptoCardSaid : Prop := Claim7.holds Tryz.pinned (.plain (OpenSpec.upto exporterOrderedSpec)) exporterOrderedUptoCard

/-- THE SECOND FORM's CARD OF 'wavestorelaw28.ExporterShorter'. -/
def exporterShorterUptoCard : Claim7 := { stood := { row := exporterShorterUptoRow, standIns := [], harness := (true, "ea212f05f9dd7a37691b0b2e1f6f5f1968a670f2293cde5c0f90cd1b425158f1"), looks := false }, kinds := [], alts := [], laidByText := true, laidKinds := [.data, .data, .data, .data, .pinned], laidTests := true, laidLooks := .later }
def ExporterShorterUptoCardSaid : Prop := Claim7.holds Tryz.pinned (.plain (OpenSpec.upto exporterShorterSpec)) exporterShorterUptoCard

/-- THE SECOND FORM's CARD OF 'wavestorelaw28.ExporterApplied'. -/
def exporterAppliedUptoCard : Claim7 := { stood := { row := exporterAppliedUptoRow, standIns := [], harness := (true, "ea212f05f9dd7a37691b0b2e1f6f5f1968a670f2293cde5c0f90cd1b425158f1"), looks := false }, kinds := [], alts := [], laidByText := true, laidKinds := [.data, .data, .data, .data, .pinned], laidTests := true, laidLooks := .later }
def ExporterAppliedUptoCardSaid : Prop := Claim7.holds Tryz.pinned (.plain (OpenSpec.upto exporterAppliedSpec)) exporterAppliedUptoCard
end Rows
end Go.Proofs.YtfppgpamkdkckaaGreatDoor
