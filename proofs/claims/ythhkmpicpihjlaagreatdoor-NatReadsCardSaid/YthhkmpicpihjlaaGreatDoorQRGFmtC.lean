/- strconv.FormatUint and strings.Repeat, as contracts in the printed form. -/
import Derived.Test.YthhkmpicpihjlaaGreatDoorQRGFmt
import Derived.Test.YthhkmpicpihjlaaGreatDoorQRPNatx0
namespace Go.Proofs.YthhkmpicpihjlaaGreatDoor.PNat
open Go.RowKit Go.Proofs.YthhkmpicpihjlaaGreatDoorW.PrintWords Go.Proofs.YthhkmpicpihjlaaGreatDoorW.PrintLast Go.Proofs.YthhkmpicpihjlaaGreatDoorW.PrintMore Go.Shelf Go.Sort Go.Lib
set_option linter.unusedVariables false
def decB (u : Int) : ByteArray := ⟨(Lib.decDigits u.toNat).toArray⟩
def strconv_FormatUint.f (a0 a1 : Int) : Option ByteArray := if 0 ≤ a0 ∧ a0 < 18446744073709551616 ∧ a1 = 10 then some (decB a0) else none
set_option maxHeartbeats 400000 in
theorem strconv_FormatUint.calls (a0 a1 : Int) (r : ByteArray) (w : World) (h : strconv_FormatUint.f a0 a1 = some r) (htab : Fmt.Tab10 w := by exact Fmt.Tab10.below HTAB.out (by repeat (first | (with_reducible first | exact HB.out | apply below_alloc | apply pw_below_drewN | apply below_drew1) | exact HB.out))) :
    Calls Tryz.prog 58 #[.int .u64 a0, .int .i64 a1] w fun e w' => e = .returned (.string r) ∧ Below w.heap.size w w' := by
  unfold strconv_FormatUint.f at h
  by_cases hg : 0 ≤ a0 ∧ a0 < 18446744073709551616 ∧ a1 = 10
  case neg => rw [if_neg hg] at h; exact absurd h (by simp)
  rw [if_pos hg] at h
  obtain rfl := Option.some.inj h
  obtain ⟨h0, h1, rfl⟩ := hg
  obtain ⟨u, rfl⟩ := Int.eq_ofNat_of_zero_le h0
  have hu : u < 18446744073709551616 := by omega
  have HU := Lib.hid hu
  have HT := Lib.hid htab
  clear h h0 h1 hu htab
  go_enter Tryz.func58, Tryz.ntmps58
  go_wp2_with (go_at_call 84; refine (Fmt.inner_FormatUint u HU.out _ HT.out).mono ?_; rintro e w' ⟨rfl, k, os, rfl⟩)
  go_ret
  exact ⟨rfl, Fmt.below_grow _ _ _⟩
def strings_Repeat.f (s : ByteArray) (c : Int) : Option ByteArray := if 0 ≤ c ∧ c ≤ 9223372036854775807 ∧ s.size * c.toNat ≤ 140737488355328 then some ⟨(Lib.repeatL s.data.toList c.toNat).toArray⟩ else none
theorem strings_Repeat.calls (a0 : ByteArray) (a1 : Int) (r : ByteArray) (w : World) (h : strings_Repeat.f a0 a1 = some r) :
    Calls Tryz.prog 49 #[.string a0, .int .i64 a1] w fun e w' => e = .returned (.string r) ∧ Below w.heap.size w w' := by
  unfold strings_Repeat.f at h
  by_cases hg : 0 ≤ a1 ∧ a1 ≤ 9223372036854775807 ∧ a0.size * a1.toNat ≤ 140737488355328
  case neg => rw [if_neg hg] at h; exact absurd h (by simp)
  rw [if_pos hg] at h
  obtain rfl := Option.some.inj h
  obtain ⟨h0, h1, h2⟩ := hg
  obtain ⟨c, rfl⟩ := Int.eq_ofNat_of_zero_le h0
  rw [Int.toNat_natCast] at *
  exact Tryz.strings_Repeat a0 c w (by omega) h2
end Go.Proofs.YthhkmpicpihjlaaGreatDoor.PNat
