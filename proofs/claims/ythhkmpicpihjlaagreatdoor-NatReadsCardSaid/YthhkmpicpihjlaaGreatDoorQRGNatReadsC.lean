/- NatReads: every text: the call returns true and keeps all that is older. -/
import Derived.Test.YthhkmpicpihjlaaGreatDoorQRGNatReads
import Derived.Test.YthhkmpicpihjlaaGreatDoorQRPureNatReads
set_option linter.unusedVariables false
namespace Go.Proofs.YthhkmpicpihjlaaGreatDoor.PNat
open Go.RowKit Go.Proofs.YthhkmpicpihjlaaGreatDoorW.PrintWords Go.Proofs.YthhkmpicpihjlaaGreatDoorW.PrintLast Go.Proofs.YthhkmpicpihjlaaGreatDoorW.PrintMore Go.Proofs.YthhkmpicpihjlaaGreatDoor.M Go.Proofs.YthhkmpicpihjlaaGreatDoor.NM
theorem lead_at (l : List UInt8) : (∀ i, i < lead l → ∃ h : i < l.length, dgt l[i] = true) ∧ (∀ h : lead l < l.length, dgt l[lead l] = false) := by
  induction l with
  | nil => exact ⟨fun i h => by simp [lead] at h, fun h => by simp at h⟩
  | cons c r ih =>
    by_cases hc : dgt c = true
    · have e : lead (c :: r) = lead r + 1 := by rw [lead, if_pos hc]
      constructor
      · intro i h
        rw [e] at h
        cases i with
        | zero => exact ⟨by simp, hc⟩
        | succ i =>
          obtain ⟨h1, h2⟩ := ih.1 i (by omega)
          exact ⟨by simp; omega, by simpa using h2⟩
      · intro h
        have h' : lead r < r.length := by rw [e] at h; simpa using h
        simp only [e, List.getElem_cons_succ]
        exact ih.2 h'
    · have e : lead (c :: r) = 0 := by rw [lead, if_neg hc]
      constructor
      · intro i h; rw [e] at h; omega
      · intro h
        simp only [e, List.getElem_cons_zero]
        exact Bool.eq_false_iff.2 hc
theorem NatReads_all (a0 : ByteArray) (w : World) (htab : Fmt.Tab10 w) (hE : Fa.ErrType w) :
    Calls Tryz.prog 3 #[.string a0] w fun e w' => e = .returned (.bool true) ∧ Below w.heap.size w w' := by
  by_cases hf : faultB a0 = true
  · have hl : a0.data.toList.length = a0.size := Array.length_toList
    obtain ⟨k, hk⟩ := shown_ev
    have hf2 := hf
    unfold faultB at hf2
    simp only [Bool.and_eq_true, Bool.or_eq_true, decide_eq_true_iff] at hf2
    have hle := lead_le a0.data.toList
    obtain ⟨l1, l2⟩ := lead_at a0.data.toList
    refine natReads_fault k a0 (lead a0.data.toList) w (hk k (Nat.le_refl k)) htab hE hf2.1 (by omega) ?_ ?_ (fun W => nat_Read_fault a0 W hf)
    · intro i hi
      obtain ⟨h1, h2⟩ := l1 i hi
      have hb := bt_mkB h1
      rw [mkB_self] at hb
      unfold dgt at h2
      simp only [Bool.and_eq_true, decide_eq_true_iff] at h2
      rw [hb]; omega
    · intro h
      have h1 : lead a0.data.toList < a0.data.toList.length := by omega
      have h2 := l2 h1
      have hb := bt_mkB h1
      rw [mkB_self] at hb
      unfold dgt at h2
      simp only [Bool.and_eq_false_iff, decide_eq_false_iff_not] at h2
      rw [hb]; omega
  · obtain ⟨k, hk⟩ := Pure.NatReads a0 (Bool.eq_false_iff.2 hf)
    exact vernierlaw04_NatReads.calls k a0 true w hk rfl htab
end Go.Proofs.YthhkmpicpihjlaaGreatDoor.PNat
