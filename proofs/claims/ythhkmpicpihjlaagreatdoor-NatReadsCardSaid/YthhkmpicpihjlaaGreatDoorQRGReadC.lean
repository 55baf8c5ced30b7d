/- strings.IndexFunc at nat.Read's own test (a byte that is no digit) and strconv.ParseUint at base 10, where it succeeds, as contracts in the printed form. -/
import Derived.Test.YthhkmpicpihjlaaGreatDoorQRShelfR
import Derived.Lib.AtoiErrMem
import Derived.Test.YthhkmpicpihjlaaGreatDoorQRPNatx0
namespace Go.Proofs.YthhkmpicpihjlaaGreatDoor.PNat
open Go.RowKit Go.Proofs.YthhkmpicpihjlaaGreatDoorW.PrintWords Go.Proofs.YthhkmpicpihjlaaGreatDoorW.PrintLast Go.Proofs.YthhkmpicpihjlaaGreatDoorW.PrintMore Go.Shelf Go.Sort Go.Lib
set_option linter.unusedVariables false
def noDigit (x : Nat) : Bool := decide (x < 48) || decide (57 < x)
theorem read_test (W : World) (x : Nat) : Calls Tryz.prog 23 #[.int .i32 (x : Int)] W fun e w' => e = .returned (.bool (noDigit x)) ∧ ∃ q, w' = W.drewN q := by
  by_cases h1 : x < 48
  · have hb : decide ((x : Int) < 48) = true := decide_eq_true (by omega)
    have hn : noDigit x = true := by simp [noDigit, h1]
    have HN := Aside0.mk hn
    clear hn
    go_enter Tryz.func23, Tryz.ntmps23
    go_wp2
    go_ret
    exact ⟨by rw [HN.out]; rfl, 0, (World.drewN_zero _).symm⟩
  · have hb : decide ((x : Int) < 48) = false := decide_eq_false (by omega)
    by_cases h2 : 57 < x
    · have hb2 : decide ((57 : Int) < (x : Int)) = true := decide_eq_true (by omega)
      have hn : noDigit x = true := by simp [noDigit, h2]
      have HN := Aside0.mk hn
      clear hn
      go_enter Tryz.func23, Tryz.ntmps23
      go_wp2
      go_ret
      exact ⟨by rw [HN.out]; rfl, 0, (World.drewN_zero _).symm⟩
    · have hb2 : decide ((57 : Int) < (x : Int)) = false := decide_eq_false (by omega)
      have hn : noDigit x = false := by simp [noDigit, h1, h2]
      have HN := Aside0.mk hn
      clear hn
      go_enter Tryz.func23, Tryz.ntmps23
      go_wp2
      go_ret
      exact ⟨by rw [HN.out]; rfl, 0, (World.drewN_zero _).symm⟩
theorem read_enters (args : Array Value) (w : World) : (callFunc 23 args).run Tryz.prog w = .ok (.enter 23 args) w := enters_of Tryz.func23 (by kernel_rfl) rfl args w
def strings_IndexFunc.f (s : ByteArray) : Option Int := some (Lib.idxFunc noDigit true s)
theorem strings_IndexFunc.calls (a0 : ByteArray) (r : Int) (w : World) (h : strings_IndexFunc.f a0 = some r) :
    Calls Tryz.prog 22 #[.string a0, .func (.func 23) #[] #[]] w fun e w' => e = .returned (.int .i64 r) ∧ Below w.heap.size w w' := by
  unfold strings_IndexFunc.f at h
  obtain rfl := Option.some.inj h
  exact Tryz.strings_IndexFunc 23 #[] read_enters noDigit a0 w (fun W x hb => read_test W x)
def strconv_ParseUint_24.f (s : ByteArray) (base bits : Int) : Option (Int × Option Int) := if base = 10 ∧ bits = 64 ∧ s.size ≤ 9223372036854775806 then (match Lib.parseUintB 64 s.data.toList with | .ok u => some ((u : Int), none) | _ => none) else none
theorem strconv_ParseUint_24.calls (a0 : ByteArray) (a1 a2 : Int) (r1 : Int) (r2 : Option Int) (w : World) (h : strconv_ParseUint_24.f a0 a1 a2 = some (r1, r2)) :
    Calls Tryz.prog 24 #[.string a0, .int .i64 a1, .int .i64 a2] w fun e w' => e = .returned (.tuple #[.int .u64 r1, errW r2]) ∧ Below w.heap.size w w' := by
  unfold strconv_ParseUint_24.f at h
  by_cases hg : a1 = 10 ∧ a2 = 64 ∧ a0.size ≤ 9223372036854775806
  case neg => rw [if_neg hg] at h; exact absurd h (by simp)
  rw [if_pos hg] at h
  obtain ⟨rfl, rfl, hs⟩ := hg
  obtain ⟨u, hp⟩ : ∃ u, Lib.parseUintB 64 a0.data.toList = .ok u := by
    cases hp : Lib.parseUintB 64 a0.data.toList <;> rw [hp] at h <;> first | exact ⟨_, rfl⟩ | cases h
  rw [hp] at h
  obtain ⟨rfl, rfl⟩ := Prod.mk.inj (Option.some.inj h)
  refine (Tryz.strconv_ParseUint_10_at64_ok a0 hs u hp w).mono ?_
  rintro e w' ⟨he, hw⟩
  refine ⟨he, ?_⟩
  rcases hw with rfl | rfl
  · exact Below.refl _ _
  · exact Lib.bytesWorld_below _ _ _
end Go.Proofs.YthhkmpicpihjlaaGreatDoor.PNat
