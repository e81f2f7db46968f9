/-
  DERIVED. GIVEN WITH THE SEED: THE CARDS: each row of YtimeilkelnljnaaGreatDoorRows.lean that lists a variable, with what it lists TIED to the program's text (the seventh form; the later family's looks); each row that meets fmt, with fmt's text TOLD by the authors' own Lean function (tested against real Go, not proved from fmt's source: count such statements apart). THE CARD IS WHAT COUNTS. Prove the row's statement (the work); the ties are given (YtimeilkelnljnaaGreatDoorTie.lean); close each card by the builder's one call (the guide's Derived/Test/ToyasCard.lean, 'card_holds'). Laid BY PROGRAM, IN A SANDBOX (cutbox-door.mjs). By AI agents, Wed Nov 11 2026. No macro, syntax, notation, axiom, sorry.
-/
import Derived.Test.YtimeilkelnljnaaGreatDoorRows
import GoSem.ClaimSeven
namespace Go.Proofs.YtimeilkelnljnaaGreatDoor
namespace Rows

/-- THE TIED CARD OF 'wavestorelaw29.AliasFinds'. -/
def aliasFindsCard : Claim7 := { stood := { row := aliasFindsRow, standIns := [], harness := (true, "c8bd96e95f0aac797538425c2c03f6a14512d765480cd994909dee1d07fc8d11"), looks := false }, kinds := [], alts := [], laidByText := true, laidKinds := [.data, .data, .data, .data, .pinned], laidTests := true, laidLooks := .later }
def AliasFindsCardSaid : Prop := Claim7.holds Tryz.pinned (.plain (OpenSpec.ofChange aliasFindsSpec)) aliasFindsCard

/-- THE TIED CARD OF 'wavestorelaw29.AliasForms'. -/
def aliasFormsCard : Claim7 := { stood := { row := aliasFormsRow, standIns := [], harness := (true, "c8bd96e95f0aac797538425c2c03f6a14512d765480cd994909dee1d07fc8d11"), looks := false }, kinds := [], alts := [], laidByText := true, laidKinds := [.data, .data, .data, .data, .pinned], laidTests := true, laidLooks := .later }
def AliasFormsCardSaid : Prop := Claim7.holds Tryz.pinned (.plain (OpenSpec.ofChange aliasFormsSpec)) aliasFormsCard

/-- THE TIED CARD OF 'wavestorelaw29.AliasAdds'. -/
def aliasAddsCard : Claim7 := { stood := { row := aliasAddsRow, standIns := [], harness := (true, "c8bd96e95f0aac797538425c2c03f6a14512d765480cd994909dee1d07fc8d11"), looks := false }, kinds := [], alts := [], laidByText := true, laidKinds := [.data, .data, .data, .data, .pinned], laidTests := true, laidLooks := .later }
def AliasAddsCardSaid : Prop := Claim7.holds Tryz.pinned (.plain (OpenSpec.ofChange aliasAddsSpec)) aliasAddsCard

/-- THE TIED CARD OF 'wavestorelaw29.AliasMinimal'. -/
def aliasMinimalCard : Claim7 := { stood := { row := aliasMinimalRow, standIns := [], harness := (true, "c8bd96e95f0aac797538425c2c03f6a14512d765480cd994909dee1d07fc8d11"), looks := false }, kinds := [], alts := [], laidByText := true, laidKinds := [.data, .data, .data, .data, .pinned], laidTests := true, laidLooks := .later }
def AliasMinimalCardSaid : Prop := Claim7.holds Tryz.pinned (.plain (OpenSpec.ofChange aliasMinimalSpec)) aliasMinimalCard

/-- THE TIED CARD OF 'wavestorelaw29.AliasRestores'. -/
def aliasRestoresCard : Claim7 := { stood := { row := aliasRestoresRow, standIns := [], harness := (true, "c8bd96e95f0aac797538425c2c03f6a14512d765480cd994909dee1d07fc8d11"), looks := false }, kinds := [], alts := [], laidByText := true, laidKinds := [.data, .data, .data, .data, .pinned], laidTests := true, laidLooks := .later }
def AliasRestoresCardSaid : Prop := Claim7.holds Tryz.pinned (.plain (OpenSpec.ofChange aliasRestoresSpec)) aliasRestoresCard

/-- THE SECOND FORM's CARD OF 'wavestorelaw29.AliasFinds'. -/
def aliasFindsUptoCard : Claim7 := { stood := { row := aliasFindsUptoRow, standIns := [], harness := (true, "c8bd96e95f0aac797538425c2c03f6a14512d765480cd994909dee1d07fc8d11"), looks := false }, kinds := [], alts := [], laidByText := true, laidKinds := [.data, .data, .data, .data, .pinned], laidTests := true, laidLooks := .later }
def AliasFindsUptoCardSaid : Prop := Claim7.holds Tryz.pinned (.plain (OpenSpec.upto aliasFindsSpec)) aliasFindsUptoCard

/-- THE SECOND FORM's CARD OF 'wavestorelaw29.AliasForms'. -/
def aliasFormsUptoCard : Claim7 := { stood := { row := aliasFormsUptoRow, standIns := [], harness := (true, "c8bd96e95f0aac797538425c2c03f6a14512d765480cd994909dee1d07fc8d11"), looks := false }, kinds := [], alts := [], laidByText := true, laidKinds := [.data, .data, .data, .data, .pinned], laidTests := true, laidLooks := .later }
def AliasFormsUptoCardSaid : Prop := Claim7.holds Tryz.pinned (.plain (OpenSpec.upto aliasFormsSpec)) aliasFormsUptoCard

/-- THE SECOND FORM's CARD OF 'wavestorelaw29.AliasAdds'. -/
def aliasAddsUptoCard : Claim7 := { stood := { row := aliasAddsUptoRow, standIns := [], harness := (true, "c8bd96e95f0aac797538425c2c03f6a14512d765480cd994909dee1d07fc8d11"), looks := false }, kinds := [], alts := [], laidByText := true, laidKinds := [.data, .data, .data, .data, .pinned], laidTests := true, laidLooks := .later }
def AliasAddsUptoCardSaid : Prop := Claim7.holds Tryz.pinned (.plain (OpenSpec.upto aliasAddsSpec)) aliasAddsUptoCard

/-- THE SECOND FORM's CARD OF 'wavestorelaw29.AliasMinimal'. -/
def aliasMinimalUptoCard : Claim7 := { stood := { row := aliasMinimalUptoRow, standIns := [], harness := (true, "c8bd96e95f0aac797538425c2c03f6a14512d765480cd994909dee1d07fc8d11"), looks := false }, kinds := [], alts := [], laidByText := true, laidKinds := [.data, .data, .data, .data, .pinned], laidTests := true, laidLooks := .later }
def AliasMinimalUptoCardSaid : Prop := Claim7.holds Tryz.pinned (.plain (OpenSpec.upto aliasMinimalSpec)) aliasMinimalUptoCard

/-- THE SECOND FORM's CARD OF 'wavestorelaw29.AliasRestores'. -/
def aliasRestoresUptoCard : Claim7 := { stood := { row := aliasRestoresUptoRow, standIns := [], harness := (true, "c8bd96e95f0aac797538425c2c03f6a14512d765480cd994909dee1d07fc8d11"), looks := false }, kinds := [], alts := [], laidByText := true, laidKinds := [.data, .data, .data, .data, .pinned], laidTests := true, laidLooks := .later }
def AliasRestoresUptoCardSaid : Prop := Claim7.holds Tryz.pinned (.plain (OpenSpec.upto aliasRestoresSpec)) aliasRestoresUptoCard
end Rows
end Go.Proofs.YtimeilkelnljnaaGreatDoor
