/-
  DERIVED. GIVEN WITH THE SEED: THE CARDS: each row of YthgmkigfgcejgaaDoorRows.lean that lists a variable, with what it lists TIED to the program's text (the seventh form; the later family's looks); each row that meets fmt, with fmt's text TOLD by the authors' own Lean function (tested against real Go, not proved from fmt's source: count such statements apart). THE CARD IS WHAT COUNTS. Prove the row's statement (the work); the ties are given (YthgmkigfgcejgaaDoorTie.lean); close each card by the builder's one call (the guide's Derived/Test/ToyasCard.lean, 'card_holds'). Laid BY PROGRAM, IN A SANDBOX (cutbox-door.mjs). By AI agents, Wed Nov 11 2026. No macro, syntax, notation, axiom, sorry.
-/
import Derived.Test.YthgmkigfgcejgaaDoorRows
import GoSem.ClaimSeven
namespace Go.Proofs.YthgmkigfgcejgaaDoor
namespace Rows

/-- THE TIED CARD OF 'vernierlaw04.NatAdds'. -/
def natAddsCard : Claim7 := { stood := { row := natAddsRow, standIns := [], harness := (true, "c1cc9083ba64fda1d9dd57881ccb02c25f6c838afd92e8177a7ee003cc95c4c5"), looks := true }, kinds := [], alts := [], laidByText := true, laidKinds := [.data, .data, .data], laidTests := true, laidLooks := .later }
def NatAddsCardSaid : Prop := Claim7.holds Tryd.pinned (.plain (OpenSpec.ofChange natAddsSpec)) natAddsCard

/-- THE TIED CARD OF 'vernierlaw04.NatSubs'. -/
def natSubsCard : Claim7 := { stood := { row := natSubsRow, standIns := [], harness := (true, "c1cc9083ba64fda1d9dd57881ccb02c25f6c838afd92e8177a7ee003cc95c4c5"), looks := true }, kinds := [], alts := [], laidByText := true, laidKinds := [.data, .data, .data], laidTests := true, laidLooks := .later }
def NatSubsCardSaid : Prop := Claim7.holds Tryd.pinned (.plain (OpenSpec.ofChange natSubsSpec)) natSubsCard

/-- THE TIED CARD OF 'vernierlaw04.NatTexts'. -/
def natTextsCard : Claim7 := { stood := { row := natTextsRow, standIns := [], harness := (true, "c1cc9083ba64fda1d9dd57881ccb02c25f6c838afd92e8177a7ee003cc95c4c5"), looks := true }, kinds := [], alts := [], laidByText := true, laidKinds := [.data, .data, .data], laidTests := true, laidLooks := .later }
def NatTextsCardSaid : Prop := Claim7.holds Tryd.pinned (.plain (OpenSpec.ofChange natTextsSpec)) natTextsCard

/-- THE TIED CARD OF 'vernierlaw04.NatOf'. -/
def natOfCard : Claim7 := { stood := { row := natOfRow, standIns := [], harness := (true, "c1cc9083ba64fda1d9dd57881ccb02c25f6c838afd92e8177a7ee003cc95c4c5"), looks := true }, kinds := [], alts := [], laidByText := true, laidKinds := [.data, .data, .data], laidTests := true, laidLooks := .later }
def NatOfCardSaid : Prop := Claim7.holds Tryd.pinned (.plain (OpenSpec.ofChange natOfSpec)) natOfCard

/-- THE TIED CARD OF 'vernierlaw04.NatTens'. -/
def natTensCard : Claim7 := { stood := { row := natTensRow, standIns := [], harness := (true, "c1cc9083ba64fda1d9dd57881ccb02c25f6c838afd92e8177a7ee003cc95c4c5"), looks := true }, kinds := [], alts := [], laidByText := true, laidKinds := [.data, .data, .data], laidTests := true, laidLooks := .later }
def NatTensCardSaid : Prop := Claim7.holds Tryd.pinned (.plain (OpenSpec.ofChange natTensSpec)) natTensCard

/-- THE TIED CARD OF 'vernierlaw04.NatTops'. -/
def natTopsCard : Claim7 := { stood := { row := natTopsRow, standIns := [], harness := (true, "c1cc9083ba64fda1d9dd57881ccb02c25f6c838afd92e8177a7ee003cc95c4c5"), looks := true }, kinds := [], alts := [], laidByText := true, laidKinds := [.data, .data, .data], laidTests := true, laidLooks := .later }
def NatTopsCardSaid : Prop := Claim7.holds Tryd.pinned (.plain (OpenSpec.ofChange natTopsSpec)) natTopsCard

/-- THE TIED CARD OF 'vernierlaw04.NatShifts'. -/
def natShiftsCard : Claim7 := { stood := { row := natShiftsRow, standIns := [], harness := (true, "c1cc9083ba64fda1d9dd57881ccb02c25f6c838afd92e8177a7ee003cc95c4c5"), looks := true }, kinds := [], alts := [], laidByText := true, laidKinds := [.data, .data, .data], laidTests := true, laidLooks := .later }
def NatShiftsCardSaid : Prop := Claim7.holds Tryd.pinned (.plain (OpenSpec.ofChange natShiftsSpec)) natShiftsCard

/-- THE TIED CARD OF 'vernierlaw04.NatShiftBack'. -/
def natShiftBackCard : Claim7 := { stood := { row := natShiftBackRow, standIns := [], harness := (true, "c1cc9083ba64fda1d9dd57881ccb02c25f6c838afd92e8177a7ee003cc95c4c5"), looks := true }, kinds := [], alts := [], laidByText := true, laidKinds := [.data, .data, .data], laidTests := true, laidLooks := .later }
def NatShiftBackCardSaid : Prop := Claim7.holds Tryd.pinned (.plain (OpenSpec.ofChange natShiftBackSpec)) natShiftBackCard

/-- THE TIED CARD OF 'vernierlaw04.NatDivs'. -/
def natDivsCard : Claim7 := { stood := { row := natDivsRow, standIns := [], harness := (true, "c1cc9083ba64fda1d9dd57881ccb02c25f6c838afd92e8177a7ee003cc95c4c5"), looks := true }, kinds := [], alts := [], laidByText := true, laidKinds := [.data, .data, .data], laidTests := true, laidLooks := .later }
def NatDivsCardSaid : Prop := Claim7.holds Tryd.pinned (.plain (OpenSpec.ofChange natDivsSpec)) natDivsCard

/-- THE TIED CARD OF 'vernierlaw04.NatDivBack'. -/
def natDivBackCard : Claim7 := { stood := { row := natDivBackRow, standIns := [], harness := (true, "c1cc9083ba64fda1d9dd57881ccb02c25f6c838afd92e8177a7ee003cc95c4c5"), looks := true }, kinds := [], alts := [], laidByText := true, laidKinds := [.data, .data, .data], laidTests := true, laidLooks := .later }
def NatDivBackCardSaid : Prop := Claim7.holds Tryd.pinned (.plain (OpenSpec.ofChange natDivBackSpec)) natDivBackCard

/-- THE TIED CARD OF 'vernierlaw04.NatOwns'. -/
def natOwnsCard : Claim7 := { stood := { row := natOwnsRow, standIns := [], harness := (true, "c1cc9083ba64fda1d9dd57881ccb02c25f6c838afd92e8177a7ee003cc95c4c5"), looks := true }, kinds := [], alts := [], laidByText := true, laidKinds := [.data, .data, .data], laidTests := true, laidLooks := .later }
def NatOwnsCardSaid : Prop := Claim7.holds Tryd.pinned (.plain (OpenSpec.ofChange natOwnsSpec)) natOwnsCard

/-- THE TIED CARD OF 'vernierlaw04.NatTextBack'. -/
def natTextBackCard : Claim7 := { stood := { row := natTextBackRow, standIns := [], harness := (true, "c1cc9083ba64fda1d9dd57881ccb02c25f6c838afd92e8177a7ee003cc95c4c5"), looks := true }, kinds := [], alts := [], laidByText := true, laidKinds := [.data, .data, .data, .sentinel, .sentinel], laidTests := true, laidLooks := .later }
def NatTextBackCardSaid : Prop := Claim7.holds Tryd.pinned (.plain (OpenSpec.ofChange natTextBackSpec)) natTextBackCard

/-- THE SECOND FORM's CARD OF 'vernierlaw04.NatAdds'. -/
def natAddsUptoCard : Claim7 := { stood := { row := natAddsUptoRow, standIns := [], harness := (true, "c1cc9083ba64fda1d9dd57881ccb02c25f6c838afd92e8177a7ee003cc95c4c5"), looks := true }, kinds := [], alts := [], laidByText := true, laidKinds := [.data, .data, .data], laidTests := true, laidLooks := .later }
def NatAddsUptoCardSaid : Prop := Claim7.holds Tryd.pinned (.plain (OpenSpec.upto natAddsSpec)) natAddsUptoCard

/-- THE SECOND FORM's CARD OF 'vernierlaw04.NatSubs'. -/
def natSubsUptoCard : Claim7 := { stood := { row := natSubsUptoRow, standIns := [], harness := (true, "c1cc9083ba64fda1d9dd57881ccb02c25f6c838afd92e8177a7ee003cc95c4c5"), looks := true }, kinds := [], alts := [], laidByText := true, laidKinds := [.data, .data, .data], laidTests := true, laidLooks := .later }
def NatSubsUptoCardSaid : Prop := Claim7.holds Tryd.pinned (.plain (OpenSpec.upto natSubsSpec)) natSubsUptoCard

/-- THE SECOND FORM's CARD OF 'vernierlaw04.NatTexts'. -/
def natTextsUptoCard : Claim7 := { stood := { row := natTextsUptoRow, standIns := [], harness := (true, "c1cc9083ba64fda1d9dd57881ccb02c25f6c838afd92e8177a7ee003cc95c4c5"), looks := true }, kinds := [], alts := [], laidByText := true, laidKinds := [.data, .data, .data], laidTests := true, laidLooks := .later }
def NatTextsUptoCardSaid : Prop := Claim7.holds Tryd.pinned (.plain (OpenSpec.upto natTextsSpec)) natTextsUptoCard

/-- THE SECOND FORM's CARD OF 'vernierlaw04.NatOf'. -/
def natOfUptoCard : Claim7 := { stood := { row := natOfUptoRow, standIns := [], harness := (true, "c1cc9083ba64fda1d9dd57881ccb02c25f6c838afd92e8177a7ee003cc95c4c5"), looks := true }, kinds := [], alts := [], laidByText := true, laidKinds := [.data, .data, .data], laidTests := true, laidLooks := .later }
def NatOfUptoCardSaid : Prop := Claim7.holds Tryd.pinned (.plain (OpenSpec.upto natOfSpec)) natOfUptoCard

/-- THE SECOND FORM's CARD OF 'vernierlaw04.NatTens'. -/
def natTensUptoCard : Claim7 := { stood := { row := natTensUptoRow, standIns := [], harness := (true, "c1cc9083ba64fda1d9dd57881ccb02c25f6c838afd92e8177a7ee003cc95c4c5"), looks := true }, kinds := [], alts := [], laidByText := true, laidKinds := [.data, .data, .data], laidTests := true, laidLooks := .later }
def NatTensUptoCardSaid : Prop := Claim7.holds Tryd.pinned (.plain (OpenSpec.upto natTensSpec)) natTensUptoCard

/-- THE SECOND FORM's CARD OF 'vernierlaw04.NatTops'. -/
def natTopsUptoCard : Claim7 := { stood := { row := natTopsUptoRow, standIns := [], harness := (true, "c1cc9083ba64fda1d9dd57881ccb02c25f6c838afd92e8177a7ee003cc95c4c5"), looks := true }, kinds := [], alts := [], laidByText := true, laidKinds := [.data, .data, .data], laidTests := true, laidLooks := .later }
def NatTopsUptoCardSaid : Prop := Claim7.holds Tryd.pinned (.plain (OpenSpec.upto natTopsSpec)) natTopsUptoCard

/-- THE SECOND FORM's CARD OF 'vernierlaw04.NatShifts'. -/
def natShiftsUptoCard : Claim7 := { stood := { row := natShiftsUptoRow, standIns := [], harness := (true, "c1cc9083ba64fda1d9dd57881ccb02c25f6c838afd92e8177a7ee003cc95c4c5"), looks := true }, kinds := [], alts := [], laidByText := true, laidKinds := [.data, .data, .data], laidTests := true, laidLooks := .later }
def NatShiftsUptoCardSaid : Prop := Claim7.holds Tryd.pinned (.plain (OpenSpec.upto natShiftsSpec)) natShiftsUptoCard

/-- THE SECOND FORM's CARD OF 'vernierlaw04.NatShiftBack'. -/
def natShiftBackUptoCard : Claim7 := { stood := { row := natShiftBackUptoRow, standIns := [], harness := (true, "c1cc9083ba64fda1d9dd57881ccb02c25f6c838afd92e8177a7ee003cc95c4c5"), looks := true }, kinds := [], alts := [], laidByText := true, laidKinds := [.data, .data, .data], laidTests := true, laidLooks := .later }
def NatShiftBackUptoCardSaid : Prop := Claim7.holds Tryd.pinned (.plain (OpenSpec.upto natShiftBackSpec)) natShiftBackUptoCard

/-- THE SECOND FORM's CARD OF 'vernierlaw04.NatDivs'. -/
def natDivsUptoCard : Claim7 := { stood := { row := natDivsUptoRow, standIns := [], harness := (true, "c1cc9083ba64fda1d9dd57881ccb02c25f6c838afd92e8177a7ee003cc95c4c5"), looks := true }, kinds := [], alts := [], laidByText := true, laidKinds := [.data, .data, .data], laidTests := true, laidLooks := .later }
def NatDivsUptoCardSaid : Prop := Claim7.holds Tryd.pinned (.plain (OpenSpec.upto natDivsSpec)) natDivsUptoCard

/-- THE SECOND FORM's CARD OF 'vernierlaw04.NatDivBack'. -/
def natDivBackUptoCard : Claim7 := { stood := { row := natDivBackUptoRow, standIns := [], harness := (true, "c1cc9083ba64fda1d9dd57881ccb02c25f6c838afd92e8177a7ee003cc95c4c5"), looks := true }, kinds := [], alts := [], laidByText := true, laidKinds := [.data, .data, .data], laidTests := true, laidLooks := .later }
def NatDivBackUptoCardSaid : Prop := Claim7.holds Tryd.pinned (.plain (OpenSpec.upto natDivBackSpec)) natDivBackUptoCard

/-- THE SECOND FORM's CARD OF 'vernierlaw04.NatOwns'. -/
def natOwnsUptoCard : Claim7 := { stood := { row := natOwnsUptoRow, standIns := [], harness := (true, "c1cc9083ba64fda1d9dd57881ccb02c25f6c838afd92e8177a7ee003cc95c4c5"), looks := true }, kinds := [], alts := [], laidByText := true, laidKinds := [.data, .data, .data], laidTests := true, laidLooks := .later }
def NatOwnsUptoCardSaid : Prop := Claim7.holds Tryd.pinned (.plain (OpenSpec.upto natOwnsSpec)) natOwnsUptoCard

/-- THE SECOND FORM's CARD OF 'vernierlaw04.NatTextBack'. -/
def natTextBackUptoCard : Claim7 := { stood := { row := natTextBackUptoRow, standIns := [], harness := (true, "c1cc9083ba64fda1d9dd57881ccb02c25f6c838afd92e8177a7ee003cc95c4c5"), looks := true }, kinds := [], alts := [], laidByText := true, laidKinds := [.data, .data, .data, .sentinel, .sentinel], laidTests := true, laidLooks := .later }
def NatTextBackUptoCardSaid : Prop := Claim7.holds Tryd.pinned (.plain (OpenSpec.upto natTextBackSpec)) natTextBackUptoCard
end Rows
end Go.Proofs.YthgmkigfgcejgaaDoor
