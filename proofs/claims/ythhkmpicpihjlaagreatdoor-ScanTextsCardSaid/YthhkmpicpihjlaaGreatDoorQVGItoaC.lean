/- strconv.Itoa, as a contract in the printed form. -/
import Derived.Test.YthhkmpicpihjlaaGreatDoorQVGLaid
import Derived.Test.YthhkmpicpihjlaaGreatDoorQVPScx0
namespace Go.Proofs.YthhkmpicpihjlaaGreatDoor.PSc
open Go.RowKit Go.Proofs.YthhkmpicpihjlaaGreatDoorW.PrintWords Go.Proofs.YthhkmpicpihjlaaGreatDoorW.PrintLast Go.Proofs.YthhkmpicpihjlaaGreatDoorW.PrintMore Go.Shelf Go.Lib
set_option linter.unusedVariables false
def strconv_Itoa_50.f (n : Int) : Option ByteArray := if -9223372036854775808 ≤ n ∧ n ≤ 9223372036854775807 then some ⟨(Lib.itoa n).toArray⟩ else none
theorem strconv_Itoa_50.calls (a0 : Int) (r : ByteArray) (w : World) (h : strconv_Itoa_50.f a0 = some r) (htab : Fx.Laid w := by exact Fx.Laid.below HTAB.out (by repeat (first | (with_reducible first | exact HB.out | apply below_alloc | apply pw_below_drewN | apply below_drew1 | refine below_set ?_ (Aside0.out (by assumption))) | exact HB.out))) :
    Calls Tryz.prog 50 #[.int .i64 a0] w fun e w' => e = .returned (.string r) ∧ Below w.heap.size w w' := by
  unfold strconv_Itoa_50.f at h
  by_cases hc : -9223372036854775808 ≤ a0 ∧ a0 ≤ 9223372036854775807
  case neg => rw [if_neg hc] at h; exact absurd h (by simp)
  rw [if_pos hc] at h
  obtain rfl := Option.some.inj h
  refine (Tryz.strconv_Itoa a0 hc.1 hc.2 w htab.1).mono ?_
  rintro e w' ⟨he, k, os, rfl⟩
  exact ⟨he, Fx.below_grow _ _ _⟩
end Go.Proofs.YthhkmpicpihjlaaGreatDoor.PSc
