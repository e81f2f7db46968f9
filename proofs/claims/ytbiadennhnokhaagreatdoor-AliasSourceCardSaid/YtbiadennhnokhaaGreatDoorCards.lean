/-
  DERIVED. GIVEN WITH THE SEED: THE CARDS: each row of YtbiadennhnokhaaGreatDoorRows.lean that lists a variable, with what it lists TIED to the program's text (the seventh form; the later family's looks); each row that meets fmt, with fmt's text TOLD by the authors' own Lean function (tested against real Go, not proved from fmt's source: count such statements apart). THE CARD IS WHAT COUNTS. Prove the row's statement (the work); the ties are given (YtbiadennhnokhaaGreatDoorTie.lean); close each card by the builder's one call (the guide's Derived/Test/ToyasCard.lean, 'card_holds'). Laid BY PROGRAM, IN A SANDBOX (cutbox-door.mjs). By AI agents, Wed Nov 11 2026. No macro, syntax, notation, axiom, sorry.
-/
import Derived.Test.YtbiadennhnokhaaGreatDoorRows
import GoSem.ClaimSeven
namespace Go.Proofs.YtbiadennhnokhaaGreatDoor
namespace Rows

/-- THE TIED CARD OF 'wavestorelaw23.TraceForms'. -/
def traceFormsCard : Claim7 := { stood := { row := traceFormsRow, standIns := [], harness := (true, "ab11d0a17c1988a7e0636c95f61648ed09a5e1bdee8517ac3de346d15ab6f0f6"), looks := false }, kinds := [], alts := [], laidByText := true, laidKinds := [.data, .data, .data, .data, .pinned], laidTests := true, laidLooks := .later }
def TraceFormsCardSaid : Prop := Claim7.holds Tryz.pinned (.plain (OpenSpec.ofChange traceFormsSpec)) traceFormsCard

/-- THE TIED CARD OF 'wavestorelaw23.TraceTimes'. -/
def traceTimesCard : Claim7 := { stood := { row := traceTimesRow, standIns := [], harness := (true, "ab11d0a17c1988a7e0636c95f61648ed09a5e1bdee8517ac3de346d15ab6f0f6"), looks := false }, kinds := [], alts := [], laidByText := true, laidKinds := [.data, .data, .data, .data, .pinned], laidTests := true, laidLooks := .later }
def TraceTimesCardSaid : Prop := Claim7.holds Tryz.pinned (.plain (OpenSpec.ofChange traceTimesSpec)) traceTimesCard

/-- THE TIED CARD OF 'wavestorelaw23.TraceBuilt'. -/
def traceBuiltCard : Claim7 := { stood := { row := traceBuiltRow, standIns := [], harness := (true, "ab11d0a17c1988a7e0636c95f61648ed09a5e1bdee8517ac3de346d15ab6f0f6"), looks := false }, kinds := [], alts := [], laidByText := true, laidKinds := [.data, .data, .data, .data, .pinned], laidTests := true, laidLooks := .later }
def TraceBuiltCardSaid : Prop := Claim7.holds Tryz.pinned (.plain (OpenSpec.ofChange traceBuiltSpec)) traceBuiltCard

/-- THE TIED CARD OF 'wavestorelaw23.TraceGaps'. -/
def traceGapsCard : Claim7 := { stood := { row := traceGapsRow, standIns := [], harness := (true, "ab11d0a17c1988a7e0636c95f61648ed09a5e1bdee8517ac3de346d15ab6f0f6"), looks := false }, kinds := [], alts := [], laidByText := true, laidKinds := [.data, .data, .data, .data, .pinned], laidTests := true, laidLooks := .later }
def TraceGapsCardSaid : Prop := Claim7.holds Tryz.pinned (.plain (OpenSpec.ofChange traceGapsSpec)) traceGapsCard

/-- THE TIED CARD OF 'wavestorelaw23.TraceClone'. -/
def traceCloneCard : Claim7 := { stood := { row := traceCloneRow, standIns := [], harness := (true, "ab11d0a17c1988a7e0636c95f61648ed09a5e1bdee8517ac3de346d15ab6f0f6"), looks := false }, kinds := [], alts := [], laidByText := true, laidKinds := [.data, .data, .data, .data, .pinned], laidTests := true, laidLooks := .later }
def TraceCloneCardSaid : Prop := Claim7.holds Tryz.pinned (.plain (OpenSpec.ofChange traceCloneSpec)) traceCloneCard

/-- THE TIED CARD OF 'wavestorelaw23.TraceSpoiled'. -/
def traceSpoiledCard : Claim7 := { stood := { row := traceSpoiledRow, standIns := [], harness := (true, "ab11d0a17c1988a7e0636c95f61648ed09a5e1bdee8517ac3de346d15ab6f0f6"), looks := false }, kinds := [], alts := [], laidByText := true, laidKinds := [.data, .data, .data, .data, .pinned], laidTests := true, laidLooks := .later }
def TraceSpoiledCardSaid : Prop := Claim7.holds Tryz.pinned (.plain (OpenSpec.ofChange traceSpoiledSpec)) traceSpoiledCard

/-- THE TIED CARD OF 'wavestorelaw23.TraceSource'. -/
def traceSourceCard : Claim7 := { stood := { row := traceSourceRow, standIns := [], harness := (true, "ab11d0a17c1988a7e0636c95f61648ed09a5e1bdee8517ac3de346d15ab6f0f6"), looks := false }, kinds := [], alts := [], laidByText := true, laidKinds := [.data, .data, .data, .data, .pinned], laidTests := true, laidLooks := .later }
def TraceSourceCardSaid : Prop := Claim7.holds Tryz.pinned (.plain (OpenSpec.ofChange traceSourceSpec)) traceSourceCard

/-- THE TIED CARD OF 'wavestorelaw29.AliasRefuses'. -/
def aliasRefusesCard : Claim7 := { stood := { row := aliasRefusesRow, standIns := [], harness := (true, "ab11d0a17c1988a7e0636c95f61648ed09a5e1bdee8517ac3de346d15ab6f0f6"), looks := false }, kinds := [], alts := [], laidByText := true, laidKinds := [.data, .data, .data, .data, .pinned], laidTests := true, laidLooks := .later }
def AliasRefusesCardSaid : Prop := Claim7.holds Tryz.pinned (.plain (OpenSpec.ofChange aliasRefusesSpec)) aliasRefusesCard

/-- THE TIED CARD OF 'wavestorelaw29.AliasSource'. -/
def aliasSourceCard : Claim7 := { stood := { row := aliasSourceRow, standIns := [], harness := (true, "ab11d0a17c1988a7e0636c95f61648ed09a5e1bdee8517ac3de346d15ab6f0f6"), looks := false }, kinds := [], alts := [], laidByText := true, laidKinds := [.data, .data, .data, .data, .pinned], laidTests := true, laidLooks := .later }
def AliasSourceCardSaid : Prop := Claim7.holds Tryz.pinned (.plain (OpenSpec.ofChange aliasSourceSpec)) aliasSourceCard

/-- THE SECOND FORM's CARD OF 'wavestorelaw23.TraceForms'. -/
def traceFormsUptoCard : Claim7 := { stood := { row := traceFormsUptoRow, standIns := [], harness := (true, "ab11d0a17c1988a7e0636c95f61648ed09a5e1bdee8517ac3de346d15ab6f0f6"), looks := false }, kinds := [], alts := [], laidByText := true, laidKinds := [.data, .data, .data, .data, .pinned], laidTests := true, laidLooks := .later }
def TraceFormsUptoCardSaid : Prop := Claim7.holds Tryz.pinned (.plain (OpenSpec.upto traceFormsSpec)) traceFormsUptoCard

/-- THE SECOND FORM's CARD OF 'wavestorelaw23.TraceTimes'. -/
def traceTimesUptoCard : Claim7 := { stood := { row := traceTimesUptoRow, standIns := [], harness := (true, "ab11d0a17c1988a7e0636c95f61648ed09a5e1bdee8517ac3de346d15ab6f0f6"), looks := false }, kinds := [], alts := [], laidByText := true, laidKinds := [.data, .data, .data, .data, .pinned], laidTests := true, laidLooks := .later }
def TraceTimesUptoCardSaid : Prop := Claim7.holds Tryz.pinned (.plain (OpenSpec.upto traceTimesSpec)) traceTimesUptoCard

/-- THE SECOND FORM's CARD OF 'wavestorelaw23.TraceBuilt'. -/
def traceBuiltUptoCard : Claim7 := { stood := { row := traceBuiltUptoRow, standIns := [], harness := (true, "ab11d0a17c1988a7e0636c95f61648ed09a5e1bdee8517ac3de346d15ab6f0f6"), looks := false }, kinds := [], alts := [], laidByText := true, laidKinds := [.data, .data, .data, .data, .pinned], laidTests := true, laidLooks := .later }
def TraceBuiltUptoCardSaid : Prop := Claim7.holds Tryz.pinned (.plain (OpenSpec.upto traceBuiltSpec)) traceBuiltUptoCard

/-- THE SECOND FORM's CARD OF 'wavestorelaw23.TraceGaps'. -/
def traceGapsUptoCard : Claim7 := { stood := { row := traceGapsUptoRow, standIns := [], harness := (true, "ab11d0a17c1988a7e0636c95f61648ed09a5e1bdee8517ac3de346d15ab6f0f6"), looks := false }, kinds := [], alts := [], laidByText := true, laidKinds := [.data, .data, .data, .data, .pinned], laidTests := true, laidLooks := .later }
def TraceGapsUptoCardSaid : Prop := Claim7.holds Tryz.pinned (.plain (OpenSpec.upto traceGapsSpec)) traceGapsUptoCard

/-- THE SECOND FORM's CARD OF 'wavestorelaw23.TraceClone'. -/
def traceCloneUptoCard : Claim7 := { stood := { row := traceCloneUptoRow, standIns := [], harness := (true, "ab11d0a17c1988a7e0636c95f61648ed09a5e1bdee8517ac3de346d15ab6f0f6"), looks := false }, kinds := [], alts := [], laidByText := true, laidKinds := [.data, .data, .data, .data, .pinned], laidTests := true, laidLooks := .later }
def TraceCloneUptoCardSaid : Prop := Claim7.holds Tryz.pinned (.plain (OpenSpec.upto traceCloneSpec)) traceCloneUptoCard

/-- THE SECOND FORM's CARD OF 'wavestorelaw23.TraceSpoiled'. -/
def traceSpoiledUptoCard : Claim7 := { stood := { row := traceSpoiledUptoRow, standIns := [], harness := (true, "ab11d0a17c1988a7e0636c95f61648ed09a5e1bdee8517ac3de346d15ab6f0f6"), looks := false }, kinds := [], alts := [], laidByText := true, laidKinds := [.data, .data, .data, .data, .pinned], laidTests := true, laidLooks := .later }
def TraceSpoiledUptoCardSaid : Prop := Claim7.holds Tryz.pinned (.plain (OpenSpec.upto traceSpoiledSpec)) traceSpoiledUptoCard

/-- THE SECOND FORM's CARD OF 'wavestorelaw23.TraceSource'. -/
def traceSourceUptoCard : Claim7 := { stood := { row := traceSourceUptoRow, standIns := [], harness := (true, "ab11d0a17c1988a7e0636c95f61648ed09a5e1bdee8517ac3de346d15ab6f0f6"), looks := false }, kinds := [], alts := [], laidByText := true, laidKinds := [.data, .data, .data, .data, .pinned], laidTests := true, laidLooks := .later }
def TraceSourceUptoCardSaid : Prop := Claim7.holds Tryz.pinned (.plain (OpenSpec.upto traceSourceSpec)) traceSourceUptoCard

/-- THE SECOND FORM's CARD OF 'wavestorelaw29.AliasRefuses'. -/
def aliasRefusesUptoCard : Claim7 := { stood := { row := aliasRefusesUptoRow, standIns := [], harness := (true, "ab11d0a17c1988a7e0636c95f61648ed09a5e1bdee8517ac3de346d15ab6f0f6"), looks := false }, kinds := [], alts := [], laidByText := true, laidKinds := [.data, .data, .data, .data, .pinned], laidTests := true, laidLooks := .later }
def AliasRefusesUptoCardSaid : Prop := Claim7.holds Tryz.pinned (.plain (OpenSpec.upto aliasRefusesSpec)) aliasRefusesUptoCard

/-- THE SECOND FORM's CARD OF 'wavestorelaw29.AliasSource'. -/
def aliasSourceUptoCard : Claim7 := { stood := { row := aliasSourceUptoRow, standIns := [], harness := (true, "ab11d0a17c1988a7e0636c95f61648ed09a5e1bdee8517ac3de346d15ab6f0f6"), looks := false }, kinds := [], alts := [], laidByText := true, laidKinds := [.data, .data, .data, .data, .pinned], laidTests := true, laidLooks := .later }
def AliasSourceUptoCardSaid : Prop := Claim7.holds Tryz.pinned (.plain (OpenSpec.upto aliasSourceSpec)) aliasSourceUptoCard
end Rows
end Go.Proofs.YtbiadennhnokhaaGreatDoor
