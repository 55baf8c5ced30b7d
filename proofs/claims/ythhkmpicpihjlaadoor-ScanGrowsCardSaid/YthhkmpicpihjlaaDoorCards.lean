/-
  DERIVED. GIVEN WITH THE SEED: THE CARDS: each row of YthhkmpicpihjlaaDoorRows.lean that lists a variable, with what it lists TIED to the program's text (the seventh form; the later family's looks); each row that meets fmt, with fmt's text TOLD by the authors' own Lean function (tested against real Go, not proved from fmt's source: count such statements apart). THE CARD IS WHAT COUNTS. Prove the row's statement (the work); the ties are given (YthhkmpicpihjlaaDoorTie.lean); close each card by the builder's one call (the guide's Derived/Test/ToyasCard.lean, 'card_holds'). Laid BY PROGRAM, IN A SANDBOX (cutbox-door.mjs). By AI agents, Wed Nov 11 2026. No macro, syntax, notation, axiom, sorry.
-/
import Derived.Test.YthhkmpicpihjlaaDoorRows
import GoSem.ClaimSeven
namespace Go.Proofs.YthhkmpicpihjlaaDoor
namespace Rows

/-- THE TIED CARD OF 'vernierlaw04.NatOwns'. -/
def natOwnsCard : Claim7 := { stood := { row := natOwnsRow, standIns := [], harness := (true, "355a388cfa1787d0b20bf658f74f28cfb288c71a58f62900f27a9407b05b1eef"), looks := true }, kinds := [], alts := [], laidByText := true, laidKinds := [.data, .data, .data], laidTests := true, laidLooks := .later }
def NatOwnsCardSaid : Prop := Claim7.holds Tryd.pinned (.plain (OpenSpec.ofChange natOwnsSpec)) natOwnsCard

/-- THE TIED CARD OF 'vernierlaw18.ScanNorms'. -/
def scanNormsCard : Claim7 := { stood := { row := scanNormsRow, standIns := [], harness := (true, "355a388cfa1787d0b20bf658f74f28cfb288c71a58f62900f27a9407b05b1eef"), looks := true }, kinds := [], alts := [], laidByText := true, laidKinds := [.data, .data, .data, .data, .handle, .pinned], laidTests := true, laidLooks := .later }
def ScanNormsCardSaid : Prop := Claim7.holds Tryd.pinned (.plain (OpenSpec.ofChange scanNormsSpec)) scanNormsCard

/-- THE TIED CARD OF 'vernierlaw18.ScanBack'. -/
def scanBackCard : Claim7 := { stood := { row := scanBackRow, standIns := [], harness := (true, "355a388cfa1787d0b20bf658f74f28cfb288c71a58f62900f27a9407b05b1eef"), looks := true }, kinds := [], alts := [], laidByText := true, laidKinds := [.data, .data, .data, .data, .handle, .pinned], laidTests := true, laidLooks := .later }
def ScanBackCardSaid : Prop := Claim7.holds Tryd.pinned (.plain (OpenSpec.ofChange scanBackSpec)) scanBackCard

/-- THE TIED CARD OF 'vernierlaw18.ScanForth'. -/
def scanForthCard : Claim7 := { stood := { row := scanForthRow, standIns := [], harness := (true, "355a388cfa1787d0b20bf658f74f28cfb288c71a58f62900f27a9407b05b1eef"), looks := true }, kinds := [], alts := [], laidByText := true, laidKinds := [.data, .data, .data, .data, .handle, .pinned], laidTests := true, laidLooks := .later }
def ScanForthCardSaid : Prop := Claim7.holds Tryd.pinned (.plain (OpenSpec.ofChange scanForthSpec)) scanForthCard

/-- THE TIED CARD OF 'vernierlaw18.ScanGrows'. -/
def scanGrowsCard : Claim7 := { stood := { row := scanGrowsRow, standIns := [], harness := (true, "355a388cfa1787d0b20bf658f74f28cfb288c71a58f62900f27a9407b05b1eef"), looks := true }, kinds := [], alts := [], laidByText := true, laidKinds := [.data, .data, .data, .data, .handle, .pinned], laidTests := true, laidLooks := .later }
def ScanGrowsCardSaid : Prop := Claim7.holds Tryd.pinned (.plain (OpenSpec.ofChange scanGrowsSpec)) scanGrowsCard

/-- THE SECOND FORM's CARD OF 'vernierlaw04.NatOwns'. -/
def natOwnsUptoCard : Claim7 := { stood := { row := natOwnsUptoRow, standIns := [], harness := (true, "355a388cfa1787d0b20bf658f74f28cfb288c71a58f62900f27a9407b05b1eef"), looks := true }, kinds := [], alts := [], laidByText := true, laidKinds := [.data, .data, .data], laidTests := true, laidLooks := .later }
def NatOwnsUptoCardSaid : Prop := Claim7.holds Tryd.pinned (.plain (OpenSpec.upto natOwnsSpec)) natOwnsUptoCard

/-- THE SECOND FORM's CARD OF 'vernierlaw18.ScanNorms'. -/
def scanNormsUptoCard : Claim7 := { stood := { row := scanNormsUptoRow, standIns := [], harness := (true, "355a388cfa1787d0b20bf658f74f28cfb288c71a58f62900f27a9407b05b1eef"), looks := true }, kinds := [], alts := [], laidByText := true, laidKinds := [.data, .data, .data, .data, .handle, .pinned], laidTests := true, laidLooks := .later }
def ScanNormsUptoCardSaid : Prop := Claim7.holds Tryd.pinned (.plain (OpenSpec.upto scanNormsSpec)) scanNormsUptoCard

/-- THE SECOND FORM's CARD OF 'vernierlaw18.ScanBack'. -/
def scanBackUptoCard : Claim7 := { stood := { row := scanBackUptoRow, standIns := [], harness := (true, "355a388cfa1787d0b20bf658f74f28cfb288c71a58f62900f27a9407b05b1eef"), looks := true }, kinds := [], alts := [], laidByText := true, laidKinds := [.data, .data, .data, .data, .handle, .pinned], laidTests := true, laidLooks := .later }
def ScanBackUptoCardSaid : Prop := Claim7.holds Tryd.pinned (.plain (OpenSpec.upto scanBackSpec)) scanBackUptoCard

/-- THE SECOND FORM's CARD OF 'vernierlaw18.ScanForth'. -/
def scanForthUptoCard : Claim7 := { stood := { row := scanForthUptoRow, standIns := [], harness := (true, "355a388cfa1787d0b20bf658f74f28cfb288c71a58f62900f27a9407b05b1eef"), looks := true }, kinds := [], alts := [], laidByText := true, laidKinds := [.data, .data, .data, .data, .handle, .pinned], laidTests := true, laidLooks := .later }
def ScanForthUptoCardSaid : Prop := Claim7.holds Tryd.pinned (.plain (OpenSpec.upto scanForthSpec)) scanForthUptoCard

/-- THE SECOND FORM's CARD OF 'vernierlaw18.ScanGrows'. -/
def scanGrowsUptoCard : Claim7 := { stood := { row := scanGrowsUptoRow, standIns := [], harness := (true, "355a388cfa1787d0b20bf658f74f28cfb288c71a58f62900f27a9407b05b1eef"), looks := true }, kinds := [], alts := [], laidByText := true, laidKinds := [.data, .data, .data, .data, .handle, .pinned], laidTests := true, laidLooks := .later }
def ScanGrowsUptoCardSaid : Prop := Claim7.holds Tryd.pinned (.plain (OpenSpec.upto scanGrowsSpec)) scanGrowsUptoCard
end Rows
end Go.Proofs.YthhkmpicpihjlaaDoor
