/- nat.Text of nought: the text "0" (of any other number nothing is told here). -/
import Derived.Test.YthgmkigfgcejgaaDoorQDBPNatx1
namespace Go.Proofs.YthgmkigfgcejgaaDoor.PNat
open Go.RowKit Go.Proofs.YthgmkigfgcejgaaDoorW.PrintWords Go.Proofs.YthgmkigfgcejgaaDoorW.PrintLast Go.Proofs.YthgmkigfgcejgaaDoorW.PrintMore
set_option linter.unusedVariables false
set_option linter.unusedSimpArgs false
def nat_Text.f (k : Nat) (l0 : List Int) : Option ByteArray := (nat_trim.f k l0).bind fun t => if t.length = 0 then some ⟨#[48]⟩ else none
theorem nat_Text.mono : ∀ a0 k, LeO (nat_Text.f k a0) (nat_Text.f (k + 1) a0) := by
  intro a0 k
  unfold nat_Text.f
  exact LeO.bind (nat_trim.mono _ _) (fun _ => LeO.refl _)
set_option maxHeartbeats 400000 in
theorem nat_Text.calls (k : Nat) (A0 : Option Addr) (c0 : Nat) (l0 : List Int) (r : ByteArray) (w : World) (hr0 : Kd.C (Kd.int .u64) w A0 l0.length l0) (hc0 : l0.length ≤ c0) (h : nat_Text.f k l0 = some r) :
    Calls Tryd.prog 25 #[.slice A0 l0.length c0] w fun e w' => e = .returned (.string r) ∧ Below w.heap.size w w' := by
  unfold nat_Text.f at h
  obtain ⟨t, ht, h⟩ := Option.bind_eq_some_iff.mp h
  by_cases hl : t.length = 0
  case neg => rw [if_neg hl] at h; exact absurd h (by simp)
  rw [if_pos hl] at h
  obtain rfl := Option.some.inj h
  obtain rfl : t = [] := List.length_eq_zero_iff.mp hl
  have HT := Aside0.mk ht
  have HV := Aside0.mk (show Kd.V (Kd.int .u64) 42 w w.heap.size (fun k_ => k_ < w.heap.size) (.slice A0 l0.length c0) l0 from Kd.V_mk hc0 (Kd.C_F (Kd.heap_int .u64) hr0))
  clear ht hr0 hc0 h hl
  go_enter Tryd.func25, Tryd.ntmps25
  go_wp2_with (go_at_call 53; (with_reducible refine (nat_trim.calls k _ _ _ l0 [] _ HV.out HT.out).mono ?_); rintro e w1 ⟨v0, rfl, hv, hb⟩; obtain ⟨A1, c1, e1⟩ := Kd.V_slice hv; subst e1; have HB := Aside0.mk hb; clear hv hb)
  refine wp_loop_rounds 1 ?_
  rw [rounds_succ]
  go_wp2
  go_ret
  exact ⟨rfl, HB.out⟩
end Go.Proofs.YthgmkigfgcejgaaDoor.PNat
