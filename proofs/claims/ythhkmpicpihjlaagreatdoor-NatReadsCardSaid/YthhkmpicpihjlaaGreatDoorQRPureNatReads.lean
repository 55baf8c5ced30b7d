/- NatReads: the printed law answers true at every text of digits alone, and at every text above the limit. -/
import Derived.Test.YthhkmpicpihjlaaGreatDoorQRNS
import Derived.Test.YthhkmpicpihjlaaGreatDoorQRND
import Derived.Test.YthhkmpicpihjlaaGreatDoorQRGFault
import Derived.Test.YthhkmpicpihjlaaGreatDoorQRPNatx8
set_option linter.unusedVariables false
set_option linter.unusedSimpArgs false
namespace Go.Proofs.YthhkmpicpihjlaaGreatDoor.PNat
open Go.RowKit Go.Proofs.YthhkmpicpihjlaaGreatDoorW.PrintWords Go.Proofs.YthhkmpicpihjlaaGreatDoorW.PrintLast Go.Proofs.YthhkmpicpihjlaaGreatDoorW.PrintMore Go.Proofs.YthhkmpicpihjlaaGreatDoor.M Go.Proofs.YthhkmpicpihjlaaGreatDoor.NM
attribute [local irreducible] add64Lo add64Hi sub64Lo sub64Hi val
theorem reads_l0 (l : List UInt8) (hd : ∀ c ∈ l, dgt c = true) (h0 : l ≠ []) (hl : l.length ≤ 4096) : ∀ (d i : Nat), i + d = l.length →
    Ev (fun k => vernierlaw04_NatReads.l0 k (mkB l) true (enc B (numF 0 l : Int)) none (i : Int)) true := by
  have hN := numF_lt hd
  have hNB : ((numF 0 l : Nat) : Int) < pw B l.length := by
    have h1 : ((numF 0 l : Nat) : Int) < ((10 ^ l.length : Nat) : Int) := by omega
    have h2 : ((10 ^ l.length : Nat) : Int) = pw 10 l.length := by rw [pw_def]; simp
    have h3 : ∀ n : Nat, pw 10 n ≤ pw B n := by
      intro n
      induction n with
      | zero => rw [pw_zero, pw_zero]; exact Int.le_refl _
      | succ n ih => rw [pw_succ, pw_succ]; exact Int.mul_le_mul ih (by rw [Bdef]; decide) (by decide) (Int.le_of_lt (pw_pos Bpos n))
    have := h3 l.length
    omega
  have hlen := penc_len B1 hNB
  intro d
  induction d with
  | zero =>
    intro i hi
    have hr := rDigits_ev hd (by omega)
    have his := is_ev (enc B (numF 0 l : Int)) (A := (numF 0 l : Int)) (by omega) (by omega) hNB (by omega)
    have hbody : Ev (fun k => (vernierref04_Digits.f k (mkB l)).bind fun t346 => (vernierlaw04_is.f k (enc B (numF 0 l : Int)) t346).bind fun t349 => some t349) true := by
      refine Ev.bind hr ?_
      rw [decide_eq_true rfl] at his
      refine Ev.bind his ?_
      exact Ev.now _
    refine Ev.step (fun k => ?_) hbody
    simp only [vernierlaw04_NatReads.l0]
    have hne : (mkB l).toList ≠ [] := by rw [Lib.toList_data, mkB_list]; exact h0
    rw [mkB_size, if_neg (by omega), if_neg hne]
    simp
  | succ d ih =>
    intro i hi
    have hlt : i < l.length := by omega
    have hc := hd _ (List.getElem_mem hlt)
    unfold dgt at hc
    simp only [Bool.and_eq_true, decide_eq_true_iff] at hc
    have hb := bt_mkB hlt
    have n1 : ¬ bt (mkB l) (i : Int) < 48 := by omega
    have n2 : ¬ bt (mkB l) (i : Int) > 57 := by omega
    have hi0 : 0 ≤ (i : Int) := by omega
    have ew : wrap64 ((i : Int) + 1) = ((i + 1 : Nat) : Int) := by rw [w64 (by omega) (by omega)]; rfl
    refine Ev.step (fun k => ?_) (ih (i + 1) (by omega))
    simp only [vernierlaw04_NatReads.l0]
    rw [mkB_size, if_pos (by omega), if_pos hi0, if_neg n1, if_neg n2, ew]
end Go.Proofs.YthhkmpicpihjlaaGreatDoor.PNat
namespace Go.Proofs.YthhkmpicpihjlaaGreatDoor.Pure
open Go.RowKit Go.Proofs.YthhkmpicpihjlaaGreatDoor.PNat
open Go.RowKit Go.Proofs.YthhkmpicpihjlaaGreatDoorW.PrintWords Go.Proofs.YthhkmpicpihjlaaGreatDoorW.PrintLast Go.Proofs.YthhkmpicpihjlaaGreatDoorW.PrintMore Go.Proofs.YthhkmpicpihjlaaGreatDoor.M Go.Proofs.YthhkmpicpihjlaaGreatDoor.NM
theorem NatReads (a0 : ByteArray) (hf : faultB a0 = false) : ∃ k, vernierlaw04_NatReads.f k a0 = some true := by
  have hl : a0.data.toList.length = a0.size := Array.length_toList
  have : Ev (fun k => vernierlaw04_NatReads.f k a0) true := by
    rw [← mkB_self a0]
    by_cases h1 : 4096 < a0.size
    · refine Ev.congr (fun k => rfl) (Ev.bind shown_ev (Ev.bind (nRead_long (by omega)) ?_))
      refine Ev.congr (f := fun _ => some true) (fun k => ?_) (Ev.now _)
      rw [mkB_size, if_pos (by omega)]
      rfl
    · have h2 : ¬ lead a0.data.toList < a0.size ∧ a0.size ≠ 0 := by
        unfold faultB at hf
        simp only [Bool.and_eq_false_iff, Bool.or_eq_false_iff, decide_eq_false_iff_not] at hf
        omega
      have hle := lead_le a0.data.toList
      have hd := all_of_lead (l := a0.data.toList) (by omega)
      have h0 : a0.data.toList ≠ [] := by intro h; rw [h] at hl; simp at hl; omega
      refine Ev.congr (fun k => rfl) (Ev.bind shown_ev (Ev.bind (nRead_ev hd h0 (by omega)) ?_))
      refine Ev.congr (fun k => ?_) (reads_l0 _ hd h0 (by omega) a0.data.toList.length 0 (by omega))
      rw [mkB_size, if_neg (by omega)]
      rfl
  obtain ⟨k, hk⟩ := this
  exact ⟨k, hk k (Nat.le_refl k)⟩
end Go.Proofs.YthhkmpicpihjlaaGreatDoor.Pure
