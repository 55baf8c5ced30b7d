/- PScx0: the part that this claim needs. -/
import Derived.Test.YthhkmpicpihjlaaGreatDoorProg
import Derived.Below
import Derived.Deep.Draws
import Derived.Deep.AppendLies
import Derived.Maps.AppendAt
import Derived.OwnWalk
import Derived.Laws.BytesArg
import Derived.Laws.MakeOwn
import Derived.Laws.OwnMore
import Derived.Deep.OwnRows
import Derived.Tactics
import Derived.Lib.ConvBytes
import Derived.Laws.Slices
import Derived.WalkKit
import Derived.KernelRfl
import Derived.RowKit3
import Derived.Deep.LoopGhost
import Derived.Deep.QuietTactic
import Derived.BigQuiet
import Derived.WideLaws
import Derived.Deep.DeepCutAuto
import Derived.Deep.CutBlock
import Derived.Deep.RegionHeld3
import Derived.Laws.Rows
import Derived.Lib.AppendStr
import Derived.ArgAppend
import Derived.Laws.IdiomCopy
import Derived.OrdersHeld
import Derived.Laws.BitsLemmas
import Derived.RowKit
import Derived.Test.YthhkmpicpihjlaaGreatDoorQVM
import Derived.Test.YthhkmpicpihjlaaGreatDoorQVWWords
import Derived.Test.YthhkmpicpihjlaaGreatDoorQVWLast
import Derived.Test.YthhkmpicpihjlaaGreatDoorQVWTab
import Derived.Test.YthhkmpicpihjlaaGreatDoorQVWApart
import Derived.Test.YthhkmpicpihjlaaGreatDoorQVWFoot
import Derived.Test.YthhkmpicpihjlaaGreatDoorQVWKept
import Derived.Test.YthhkmpicpihjlaaGreatDoorQVWShare
import Derived.Test.YthhkmpicpihjlaaGreatDoorQVWN
import Derived.Test.YthhkmpicpihjlaaGreatDoorQVWEqStruct
import Derived.Test.YthhkmpicpihjlaaGreatDoorQVWRepsOne
import Derived.Test.YthhkmpicpihjlaaGreatDoorQVWGuard
import Derived.Test.YthhkmpicpihjlaaGreatDoorQVWMore
namespace Go.Proofs.YthhkmpicpihjlaaGreatDoor.PSc
open Go.RowKit Go.Proofs.YthhkmpicpihjlaaGreatDoorW.PrintWords Go.Proofs.YthhkmpicpihjlaaGreatDoorW.PrintLast Go.Proofs.YthhkmpicpihjlaaGreatDoorW.PrintMore
open Go.Proofs.YthhkmpicpihjlaaGreatDoor.M
attribute [local go_sem] runx_add64 runx_sub64 eql_cc eql_nc neq_cc neq_nc
attribute [local go_sem] max2_int min2_int max_two min_two max_three min_three max_four min_four   -- for this text's walks alone
set_option linter.unusedVariables false
set_option linter.unusedSimpArgs false
def errW : Option Int → Value
  | none => .nilIface
  | some c => .iface 29 (.int .i64 c)
theorem errW_none : errW none = .nilIface := rfl
theorem errW_some (c : Int) : errW (some c) = .iface 29 (.int .i64 c) := rfl
end Go.Proofs.YthhkmpicpihjlaaGreatDoor.PSc
