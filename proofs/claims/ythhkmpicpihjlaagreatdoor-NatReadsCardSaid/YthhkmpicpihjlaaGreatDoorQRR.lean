/- Words for the rows of this seat: what an argument's datum gives a walk (its list, its size), for slices of whole numbers, slices of such slices, strings. -/
import Derived.Test.YthhkmpicpihjlaaGreatDoorRows
import Derived.Test.YthhkmpicpihjlaaGreatDoorQRWMore
import Derived.Deep.Matrix
import Derived.WalkKit
import Derived.ProofKit
import Derived.OpenShut
namespace Go.Proofs.YthhkmpicpihjlaaGreatDoor.R
open Go.ChangeShapes Go.WideShapes Go.ChangeAt Go.RowKit Go.Proofs.YthhkmpicpihjlaaGreatDoorW.PrintWords Go.Proofs.YthhkmpicpihjlaaGreatDoor
open Go.ChangeMaps (open_string shut_string)
theorem bound {H : Type} {l : List (DataW H)} (hk : Rows.uptoSmall H l = true) : Rows.uptoBulkAll l ≤ 1048576 := by
  unfold Rows.uptoSmall at hk
  exact of_decide_eq_true hk
end Go.Proofs.YthhkmpicpihjlaaGreatDoor.R
