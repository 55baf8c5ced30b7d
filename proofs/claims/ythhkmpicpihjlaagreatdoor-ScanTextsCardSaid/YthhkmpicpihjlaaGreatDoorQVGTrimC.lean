/- strings.TrimLeft and TrimRight at "0", strings.Trim at the digits: contracts in the printed form. -/
import Derived.Test.YthhkmpicpihjlaaGreatDoorQVShelf
import Derived.Shelf.Strings.SlTrimAscii
import Derived.Test.YthhkmpicpihjlaaGreatDoorQVPScx0
namespace Go.Proofs.YthhkmpicpihjlaaGreatDoor.PSc
open Go.RowKit Go.Proofs.YthhkmpicpihjlaaGreatDoorW.PrintWords Go.Proofs.YthhkmpicpihjlaaGreatDoorW.PrintLast Go.Proofs.YthhkmpicpihjlaaGreatDoorW.PrintMore Go.Shelf Go.Lib
set_option linter.unusedVariables false
def strings_TrimLeft.f (s c : ByteArray) : Option ByteArray := if c.data.toList = [48] then some ⟨(Lib.trimLeftB s.data.toList 48).toArray⟩ else none
theorem bytes_eq {c : ByteArray} {l : List UInt8} (h : c.data.toList = l) : c = ⟨l.toArray⟩ := by
  cases c with
  | mk d => cases d with
    | mk q => simp only at h; rw [h]
theorem strings_TrimLeft.calls (a0 a1 r : ByteArray) (w : World) (h : strings_TrimLeft.f a0 a1 = some r) :
    Calls Tryz.prog 75 #[.string a0, .string a1] w fun e w' => e = .returned (.string r) ∧ Below w.heap.size w w' := by
  unfold strings_TrimLeft.f at h
  by_cases hc : a1.data.toList = [48]
  case neg => rw [if_neg hc] at h; exact absurd h (by simp)
  rw [if_pos hc] at h
  obtain rfl := Option.some.inj h
  rw [bytes_eq hc]
  refine (Tryz.strings_TrimLeft_one a0 48 (by decide) w).mono ?_
  rintro e w' ⟨he, rfl⟩
  exact ⟨he, Below.refl _ _⟩
def strings_TrimRight.f (s c : ByteArray) : Option ByteArray := if c.data.toList = [48] ∧ s.size ≤ 9223372036854775807 then some ⟨(Lib.trimRightB s.data.toList 48).toArray⟩ else none
theorem strings_TrimRight.calls (a0 a1 r : ByteArray) (w : World) (h : strings_TrimRight.f a0 a1 = some r) :
    Calls Tryz.prog 76 #[.string a0, .string a1] w fun e w' => e = .returned (.string r) ∧ Below w.heap.size w w' := by
  unfold strings_TrimRight.f at h
  by_cases hc : a1.data.toList = [48] ∧ a0.size ≤ 9223372036854775807
  case neg => rw [if_neg hc] at h; exact absurd h (by simp)
  rw [if_pos hc] at h
  obtain rfl := Option.some.inj h
  rw [bytes_eq hc.1]
  refine (Tryz.strings_TrimRight_one a0 48 (by decide) w hc.2).mono ?_
  rintro e w' ⟨he, rfl⟩
  exact ⟨he, Below.refl _ _⟩
def tenDigits : List UInt8 := [48, 49, 50, 51, 52, 53, 54, 55, 56, 57]
def strings_Trim.f (s c : ByteArray) : Option ByteArray := if c.data.toList = tenDigits ∧ s.size ≤ 9223372036854775807 then some ⟨(Lib.trimS s.data.toList tenDigits).toArray⟩ else none
theorem strings_Trim.calls (a0 a1 r : ByteArray) (w : World) (h : strings_Trim.f a0 a1 = some r) :
    Calls Tryz.prog 103 #[.string a0, .string a1] w fun e w' => e = .returned (.string r) ∧ Below w.heap.size w w' := by
  unfold strings_Trim.f at h
  by_cases hc : a1.data.toList = tenDigits ∧ a0.size ≤ 9223372036854775807
  case neg => rw [if_neg hc] at h; exact absurd h (by simp)
  rw [if_pos hc] at h
  obtain rfl := Option.some.inj h
  rw [← hc.1]
  have hz : a1.size = 10 := by
    rw [bytes_eq hc.1]; rfl
  exact Any.strings_Trim_laid Tryz.lays160 (by kernel_rfl) a0 a1 w hc.2 (by omega) (by rw [hc.1]; exact ascii_of_all (by decide))
end Go.Proofs.YthhkmpicpihjlaaGreatDoor.PSc
