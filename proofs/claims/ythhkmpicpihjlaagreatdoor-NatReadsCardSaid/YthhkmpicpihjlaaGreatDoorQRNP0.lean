/- What the reading of a text needs of ten's powers, of Of, and of byte strings (the same theorems stand in NG and NL, for seats that print more). -/
import Derived.Test.YthhkmpicpihjlaaGreatDoorQRNB
import Derived.Test.YthhkmpicpihjlaaGreatDoorQRPNatx5
set_option linter.unusedVariables false
set_option linter.unusedSimpArgs false
namespace Go.Proofs.YthhkmpicpihjlaaGreatDoor.PNat
open Go.RowKit Go.Proofs.YthhkmpicpihjlaaGreatDoorW.PrintWords Go.Proofs.YthhkmpicpihjlaaGreatDoorW.PrintLast Go.Proofs.YthhkmpicpihjlaaGreatDoorW.PrintMore Go.Proofs.YthhkmpicpihjlaaGreatDoor.M Go.Proofs.YthhkmpicpihjlaaGreatDoor.NM
attribute [local irreducible] add64Lo add64Hi sub64Lo sub64Hi val
theorem pw10_pos (i : Nat) : 0 < pw 10 i := pw_pos (by decide) i
theorem val_one (b x : Int) : val b [x] = x := by rw [val_cons, val_nil]; omega
theorem Dig_one {b x : Int} (h0 : 0 ≤ x) (h1 : x < b) : Dig b [x] := Dig.cons h0 h1 (Dig.nil b)
theorem pw10_19 : pw 10 19 = 10000000000000000000 := by rw [pw_def]; decide
theorem nOf_ev {v : Int} (h0 : 0 ≤ v) (h1 : v < B) : Ev (fun k => nat_Of.f k v) (enc B v) := by
  have := trim_ev (Dig_one h0 h1) (by simp)
  rw [val_one] at this
  exact Ev.congr (fun k => rfl) (Ev.bind this (Ev.now _))
def mkB (l : List UInt8) : ByteArray := ⟨l.toArray⟩
theorem mkB_size (l : List UInt8) : (mkB l).size = l.length := List.size_toArray ..
theorem mkB_list (l : List UInt8) : (mkB l).data.toList = l := rfl
end Go.Proofs.YthhkmpicpihjlaaGreatDoor.PNat
