/-
  DERIVED. GIVEN WITH THE SEED: THE CARDS: each row of YtpfnkbnepcchgaaGreatDoorRows.lean that lists a variable, with what it lists TIED to the program's text (the seventh form; the later family's looks); each row that meets fmt, with fmt's text TOLD by the authors' own Lean function (tested against real Go, not proved from fmt's source: count such statements apart). THE CARD IS WHAT COUNTS. Prove the row's statement (the work); the ties are given (YtpfnkbnepcchgaaGreatDoorTie.lean); close each card by the builder's one call (the guide's Derived/Test/ToyasCard.lean, 'card_holds'). Laid BY PROGRAM, IN A SANDBOX (cutbox-door.mjs). By AI agents, Wed Nov 11 2026. No macro, syntax, notation, axiom, sorry.
-/
import Derived.Test.YtpfnkbnepcchgaaGreatDoorRows
import GoSem.ClaimSeven
namespace Go.Proofs.YtpfnkbnepcchgaaGreatDoor
namespace Rows

/-- THE TIED CARD OF 'vernierlaw19.TextOf'. -/
def textOfCard : Claim7 := { stood := { row := textOfRow, standIns := [], harness := (true, "91d4884b860bde3a96ca43740595307e8fe779a60ddc14058c8a8de70e8fa161"), looks := true }, kinds := [], alts := [], laidByText := true, laidKinds := [.data, .data, .data, .data, .sentinel, .sentinel, .pinned], laidTests := true, laidLooks := .later }
def TextOfCardSaid : Prop := Claim7.holds Tryz.pinned (.plain (OpenSpec.ofChange textOfSpec)) textOfCard

/-- THE TIED CARD OF 'vernierlaw19.TextExact'. -/
def textExactCard : Claim7 := { stood := { row := textExactRow, standIns := [], harness := (true, "91d4884b860bde3a96ca43740595307e8fe779a60ddc14058c8a8de70e8fa161"), looks := true }, kinds := [], alts := [], laidByText := true, laidKinds := [.data, .data, .data, .data, .sentinel, .sentinel, .pinned], laidTests := true, laidLooks := .later }
def TextExactCardSaid : Prop := Claim7.holds Tryz.pinned (.plain (OpenSpec.ofChange textExactSpec)) textExactCard

/-- THE TIED CARD OF 'vernierlaw19.TextShort'. -/
def textShortCard : Claim7 := { stood := { row := textShortRow, standIns := [], harness := (true, "91d4884b860bde3a96ca43740595307e8fe779a60ddc14058c8a8de70e8fa161"), looks := true }, kinds := [], alts := [], laidByText := true, laidKinds := [.data, .data, .data, .data, .sentinel, .sentinel, .pinned], laidTests := true, laidLooks := .later }
def TextShortCardSaid : Prop := Claim7.holds Tryz.pinned (.plain (OpenSpec.ofChange textShortSpec)) textShortCard

/-- THE TIED CARD OF 'vernierlaw19.TextBack'. -/
def textBackCard : Claim7 := { stood := { row := textBackRow, standIns := [], harness := (true, "91d4884b860bde3a96ca43740595307e8fe779a60ddc14058c8a8de70e8fa161"), looks := true }, kinds := [], alts := [], laidByText := true, laidKinds := [.data, .data, .data, .data, .sentinel, .sentinel, .pinned], laidTests := true, laidLooks := .later }
def TextBackCardSaid : Prop := Claim7.holds Tryz.pinned (.plain (OpenSpec.ofChange textBackSpec)) textBackCard

/-- THE TIED CARD OF 'vernierlaw19.TextFewest'. -/
def textFewestCard : Claim7 := { stood := { row := textFewestRow, standIns := [], harness := (true, "91d4884b860bde3a96ca43740595307e8fe779a60ddc14058c8a8de70e8fa161"), looks := true }, kinds := [], alts := [], laidByText := true, laidKinds := [.data, .data, .data, .data, .sentinel, .sentinel, .pinned], laidTests := true, laidLooks := .later }
def TextFewestCardSaid : Prop := Claim7.holds Tryz.pinned (.plain (OpenSpec.ofChange textFewestSpec)) textFewestCard

/-- THE TIED CARD OF 'vernierlaw19.TextForms'. -/
def textFormsCard : Claim7 := { stood := { row := textFormsRow, standIns := [], harness := (true, "91d4884b860bde3a96ca43740595307e8fe779a60ddc14058c8a8de70e8fa161"), looks := true }, kinds := [], alts := [], laidByText := true, laidKinds := [.data, .data, .data, .data, .sentinel, .sentinel, .pinned], laidTests := true, laidLooks := .later }
def TextFormsCardSaid : Prop := Claim7.holds Tryz.pinned (.plain (OpenSpec.ofChange textFormsSpec)) textFormsCard

/-- THE TIED CARD OF 'vernierlaw19.TextRise'. -/
def textRiseCard : Claim7 := { stood := { row := textRiseRow, standIns := [], harness := (true, "91d4884b860bde3a96ca43740595307e8fe779a60ddc14058c8a8de70e8fa161"), looks := true }, kinds := [], alts := [], laidByText := true, laidKinds := [.data, .data, .data, .data, .sentinel, .sentinel, .pinned], laidTests := true, laidLooks := .later }
def TextRiseCardSaid : Prop := Claim7.holds Tryz.pinned (.plain (OpenSpec.ofChange textRiseSpec)) textRiseCard

/-- THE TIED CARD OF 'vernierlaw19.TextParses'. -/
def textParsesCard : Claim7 := { stood := { row := textParsesRow, standIns := [], harness := (true, "91d4884b860bde3a96ca43740595307e8fe779a60ddc14058c8a8de70e8fa161"), looks := true }, kinds := [], alts := [], laidByText := true, laidKinds := [.data, .data, .data, .data, .handle, .sentinel, .sentinel, .pinned], laidTests := true, laidLooks := .later }
def TextParsesCardSaid : Prop := Claim7.holds Tryz.pinned (.plain (OpenSpec.ofChange textParsesSpec)) textParsesCard

/-- THE TIED CARD OF 'verniertop.TopTexts'. -/
def topTextsCard : Claim7 := { stood := { row := topTextsRow, standIns := [], harness := (true, "91d4884b860bde3a96ca43740595307e8fe779a60ddc14058c8a8de70e8fa161"), looks := true }, kinds := [], alts := [], laidByText := true, laidKinds := [.data, .data, .data, .data, .sentinel, .sentinel, .pinned], laidTests := true, laidLooks := .later }
def TopTextsCardSaid : Prop := Claim7.holds Tryz.pinned (.plain (OpenSpec.ofChange topTextsSpec)) topTextsCard

/-- THE SECOND FORM's CARD OF 'vernierlaw19.TextOf'. -/
def textOfUptoCard : Claim7 := { stood := { row := textOfUptoRow, standIns := [], harness := (true, "91d4884b860bde3a96ca43740595307e8fe779a60ddc14058c8a8de70e8fa161"), looks := true }, kinds := [], alts := [], laidByText := true, laidKinds := [.data, .data, .data, .data, .sentinel, .sentinel, .pinned], laidTests := true, laidLooks := .later }
def TextOfUptoCardSaid : Prop := Claim7.holds Tryz.pinned (.plain (OpenSpec.upto textOfSpec)) textOfUptoCard

/-- THE SECOND FORM's CARD OF 'vernierlaw19.TextExact'. -/
def textExactUptoCard : Claim7 := { stood := { row := textExactUptoRow, standIns := [], harness := (true, "91d4884b860bde3a96ca43740595307e8fe779a60ddc14058c8a8de70e8fa161"), looks := true }, kinds := [], alts := [], laidByText := true, laidKinds := [.data, .data, .data, .data, .sentinel, .sentinel, .pinned], laidTests := true, laidLooks := .later }
def TextExactUptoCardSaid : Prop := Claim7.holds Tryz.pinned (.plain (OpenSpec.upto textExactSpec)) textExactUptoCard

/-- THE SECOND FORM's CARD OF 'vernierlaw19.TextShort'. -/
def textShortUptoCard : Claim7 := { stood := { row := textShortUptoRow, standIns := [], harness := (true, "91d4884b860bde3a96ca43740595307e8fe779a60ddc14058c8a8de70e8fa161"), looks := true }, kinds := [], alts := [], laidByText := true, laidKinds := [.data, .data, .data, .data, .sentinel, .sentinel, .pinned], laidTests := true, laidLooks := .later }
def TextShortUptoCardSaid : Prop := Claim7.holds Tryz.pinned (.plain (OpenSpec.upto textShortSpec)) textShortUptoCard

/-- THE SECOND FORM's CARD OF 'vernierlaw19.TextBack'. -/
def textBackUptoCard : Claim7 := { stood := { row := textBackUptoRow, standIns := [], harness := (true, "91d4884b860bde3a96ca43740595307e8fe779a60ddc14058c8a8de70e8fa161"), looks := true }, kinds := [], alts := [], laidByText := true, laidKinds := [.data, .data, .data, .data, .sentinel, .sentinel, .pinned], laidTests := true, laidLooks := .later }
def TextBackUptoCardSaid : Prop := Claim7.holds Tryz.pinned (.plain (OpenSpec.upto textBackSpec)) textBackUptoCard

/-- THE SECOND FORM's CARD OF 'vernierlaw19.TextFewest'. -/
def textFewestUptoCard : Claim7 := { stood := { row := textFewestUptoRow, standIns := [], harness := (true, "91d4884b860bde3a96ca43740595307e8fe779a60ddc14058c8a8de70e8fa161"), looks := true }, kinds := [], alts := [], laidByText := true, laidKinds := [.data, .data, .data, .data, .sentinel, .sentinel, .pinned], laidTests := true, laidLooks := .later }
def TextFewestUptoCardSaid : Prop := Claim7.holds Tryz.pinned (.plain (OpenSpec.upto textFewestSpec)) textFewestUptoCard

/-- THE SECOND FORM's CARD OF 'vernierlaw19.TextForms'. -/
def textFormsUptoCard : Claim7 := { stood := { row := textFormsUptoRow, standIns := [], harness := (true, "91d4884b860bde3a96ca43740595307e8fe779a60ddc14058c8a8de70e8fa161"), looks := true }, kinds := [], alts := [], laidByText := true, laidKinds := [.data, .data, .data, .data, .sentinel, .sentinel, .pinned], laidTests := true, laidLooks := .later }
def TextFormsUptoCardSaid : Prop := Claim7.holds Tryz.pinned (.plain (OpenSpec.upto textFormsSpec)) textFormsUptoCard

/-- THE SECOND FORM's CARD OF 'vernierlaw19.TextRise'. -/
def textRiseUptoCard : Claim7 := { stood := { row := textRiseUptoRow, standIns := [], harness := (true, "91d4884b860bde3a96ca43740595307e8fe779a60ddc14058c8a8de70e8fa161"), looks := true }, kinds := [], alts := [], laidByText := true, laidKinds := [.data, .data, .data, .data, .sentinel, .sentinel, .pinned], laidTests := true, laidLooks := .later }
def TextRiseUptoCardSaid : Prop := Claim7.holds Tryz.pinned (.plain (OpenSpec.upto textRiseSpec)) textRiseUptoCard

/-- THE SECOND FORM's CARD OF 'vernierlaw19.TextParses'. -/
def textParsesUptoCard : Claim7 := { stood := { row := textParsesUptoRow, standIns := [], harness := (true, "91d4884b860bde3a96ca43740595307e8fe779a60ddc14058c8a8de70e8fa161"), looks := true }, kinds := [], alts := [], laidByText := true, laidKinds := [.data, .data, .data, .data, .handle, .sentinel, .sentinel, .pinned], laidTests := true, laidLooks := .later }
def TextParsesUptoCardSaid : Prop := Claim7.holds Tryz.pinned (.plain (OpenSpec.upto textParsesSpec)) textParsesUptoCard

/-- THE SECOND FORM's CARD OF 'verniertop.TopTexts'. -/
def topTextsUptoCard : Claim7 := { stood := { row := topTextsUptoRow, standIns := [], harness := (true, "91d4884b860bde3a96ca43740595307e8fe779a60ddc14058c8a8de70e8fa161"), looks := true }, kinds := [], alts := [], laidByText := true, laidKinds := [.data, .data, .data, .data, .sentinel, .sentinel, .pinned], laidTests := true, laidLooks := .later }
def TopTextsUptoCardSaid : Prop := Claim7.holds Tryz.pinned (.plain (OpenSpec.upto topTextsSpec)) topTextsUptoCard
end Rows
end Go.Proofs.YtpfnkbnepcchgaaGreatDoor
