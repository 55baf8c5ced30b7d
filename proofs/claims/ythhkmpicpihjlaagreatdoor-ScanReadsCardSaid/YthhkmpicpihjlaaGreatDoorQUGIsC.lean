/- The statements' own Is at an error that is nil, as a contract in the printed form. -/
import Derived.Test.YthhkmpicpihjlaaGreatDoorQUGIu
import Derived.Test.YthhkmpicpihjlaaGreatDoorQUPScx0
namespace Go.Proofs.YthhkmpicpihjlaaGreatDoor.PSc
open Go.RowKit Go.Proofs.YthhkmpicpihjlaaGreatDoorW.PrintWords Go.Proofs.YthhkmpicpihjlaaGreatDoorW.PrintLast Go.Proofs.YthhkmpicpihjlaaGreatDoorW.PrintMore
def vernierlaw00_Is.f (e : Option Int) (_l _a _c : Int) : Option Bool := match e with | none => some false | some _ => none
theorem vernierlaw00_Is.calls (a0 : Option Int) (a1 a2 a3 : Int) (r : Bool) (w : World) (h : vernierlaw00_Is.f a0 a1 a2 a3 = some r) :
    Calls Tryz.prog 8 #[errW a0, .int .i64 a1, .int .i64 a2, .int .i64 a3] w fun e w' => e = .returned (.bool r) ∧ Below w.heap.size w w' := by
  cases a0 with
  | none => obtain rfl := Option.some.inj h; exact Fa.Is_nil a1 a2 a3 w
  | some c => cases h
end Go.Proofs.YthhkmpicpihjlaaGreatDoor.PSc
