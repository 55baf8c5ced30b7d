/-
  DERIVED. GIVEN WITH THE SEED: THE CARDS: each row of YthhkmpicpihjlaaGreatDoorRows.lean that lists a variable, with what it lists TIED to the program's text (the seventh form; the later family's looks); each row that meets fmt, with fmt's text TOLD by the authors' own Lean function (tested against real Go, not proved from fmt's source: count such statements apart). THE CARD IS WHAT COUNTS. Prove the row's statement (the work); the ties are given (YthhkmpicpihjlaaGreatDoorTie.lean); close each card by the builder's one call (the guide's Derived/Test/ToyasCard.lean, 'card_holds'). Laid BY PROGRAM, IN A SANDBOX (cutbox-door.mjs). By AI agents, Wed Nov 11 2026. No macro, syntax, notation, axiom, sorry.
-/
import Derived.Test.YthhkmpicpihjlaaGreatDoorRows
import GoSem.ClaimSeven
namespace Go.Proofs.YthhkmpicpihjlaaGreatDoor
namespace Rows

/-- THE TIED CARD OF 'vernierlaw04.NatReads'. -/
def natReadsCard : Claim7 := { stood := { row := natReadsRow, standIns := [], harness := (true, "b3fd54c9773276bed8db0c314468f0e30637812f8795657619cc8434c8d0d8c2"), looks := true }, kinds := [], alts := [], laidByText := true, laidKinds := [.data, .data, .data, .handle, .sentinel, .sentinel], laidTests := true, laidLooks := .later }
def NatReadsCardSaid : Prop := Claim7.holds Tryz.pinned (.plain (OpenSpec.ofChange natReadsSpec)) natReadsCard

/-- THE TIED CARD OF 'vernierlaw18.ScanReads'. -/
def scanReadsCard : Claim7 := { stood := { row := scanReadsRow, standIns := [], harness := (true, "b3fd54c9773276bed8db0c314468f0e30637812f8795657619cc8434c8d0d8c2"), looks := true }, kinds := [], alts := [], laidByText := true, laidKinds := [.data, .data, .data, .data, .handle, .pinned], laidTests := true, laidLooks := .later }
def ScanReadsCardSaid : Prop := Claim7.holds Tryz.pinned (.plain (OpenSpec.ofChange scanReadsSpec)) scanReadsCard

/-- THE TIED CARD OF 'vernierlaw18.ScanTexts'. -/
def scanTextsCard : Claim7 := { stood := { row := scanTextsRow, standIns := [], harness := (true, "b3fd54c9773276bed8db0c314468f0e30637812f8795657619cc8434c8d0d8c2"), looks := true }, kinds := [], alts := [], laidByText := true, laidKinds := [.data, .data, .data, .data, .handle, .pinned], laidTests := true, laidLooks := .later }
def ScanTextsCardSaid : Prop := Claim7.holds Tryz.pinned (.plain (OpenSpec.ofChange scanTextsSpec)) scanTextsCard

/-- THE SECOND FORM's CARD OF 'vernierlaw04.NatReads'. -/
def natReadsUptoCard : Claim7 := { stood := { row := natReadsUptoRow, standIns := [], harness := (true, "b3fd54c9773276bed8db0c314468f0e30637812f8795657619cc8434c8d0d8c2"), looks := true }, kinds := [], alts := [], laidByText := true, laidKinds := [.data, .data, .data, .handle, .sentinel, .sentinel], laidTests := true, laidLooks := .later }
def NatReadsUptoCardSaid : Prop := Claim7.holds Tryz.pinned (.plain (OpenSpec.upto natReadsSpec)) natReadsUptoCard

/-- THE SECOND FORM's CARD OF 'vernierlaw18.ScanReads'. -/
def scanReadsUptoCard : Claim7 := { stood := { row := scanReadsUptoRow, standIns := [], harness := (true, "b3fd54c9773276bed8db0c314468f0e30637812f8795657619cc8434c8d0d8c2"), looks := true }, kinds := [], alts := [], laidByText := true, laidKinds := [.data, .data, .data, .data, .handle, .pinned], laidTests := true, laidLooks := .later }
def ScanReadsUptoCardSaid : Prop := Claim7.holds Tryz.pinned (.plain (OpenSpec.upto scanReadsSpec)) scanReadsUptoCard

/-- THE SECOND FORM's CARD OF 'vernierlaw18.ScanTexts'. -/
def scanTextsUptoCard : Claim7 := { stood := { row := scanTextsUptoRow, standIns := [], harness := (true, "b3fd54c9773276bed8db0c314468f0e30637812f8795657619cc8434c8d0d8c2"), looks := true }, kinds := [], alts := [], laidByText := true, laidKinds := [.data, .data, .data, .data, .handle, .pinned], laidTests := true, laidLooks := .later }
def ScanTextsUptoCardSaid : Prop := Claim7.holds Tryz.pinned (.plain (OpenSpec.upto scanTextsSpec)) scanTextsUptoCard
end Rows
end Go.Proofs.YthhkmpicpihjlaaGreatDoor
