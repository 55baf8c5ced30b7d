/- The reference's Digits of a text of digits, as plain arithmetic. -/
import Derived.Test.YthhkmpicpihjlaaGreatDoorQRNR
import Derived.Test.YthhkmpicpihjlaaGreatDoorQRNC
import Derived.Test.YthhkmpicpihjlaaGreatDoorQRPNatx8
set_option linter.unusedVariables false
set_option linter.unusedSimpArgs false
namespace Go.Proofs.YthhkmpicpihjlaaGreatDoor.PNat
open Go.RowKit Go.Proofs.YthhkmpicpihjlaaGreatDoorW.PrintWords Go.Proofs.YthhkmpicpihjlaaGreatDoorW.PrintLast Go.Proofs.YthhkmpicpihjlaaGreatDoorW.PrintMore Go.Proofs.YthhkmpicpihjlaaGreatDoor.M Go.Proofs.YthhkmpicpihjlaaGreatDoor.NM
attribute [local irreducible] add64Lo add64Hi sub64Lo sub64Hi val
theorem pw10_lt (i : Nat) : pw 10 i < pw D (i + 1) := by
  induction i with
  | zero => rw [pw_zero, pw_succ, pw_zero, Int.one_mul]; exact D1
  | succ i ih =>
    rw [pw_succ, pw_succ D]
    have h1 := pw_pos Dpos (i + 1)
    have h2 : pw 10 i * 10 ≤ pw D (i + 1) * 10 := Int.mul_le_mul_of_nonneg_right (Int.le_of_lt ih) (by decide)
    have h3 : pw D (i + 1) * 10 < pw D (i + 1) * D := Int.mul_lt_mul_of_pos_left (by rw [Ddef]; decide) h1
    omega
theorem bt_mkB {l : List UInt8} {i : Nat} (h : i < l.length) : bt (mkB l) (i : Int) = ((l[i]'h).toNat : Int) := by
  unfold bt
  rw [Int.toNat_natCast, dif_pos (by rw [mkB_size]; exact h)]
  rfl
theorem rDigits_l0 (l : List UInt8) (hd : ∀ c ∈ l, dgt c = true) (hl : l.length ≤ 1048576) : ∀ (d i : Nat) (V : Int), i + d = l.length → 0 ≤ V → V < pw 10 i →
    Ev (fun k => vernierref04_Digits.l0 k (mkB l) (enc D V) (i : Int)) (enc D (numF V.toNat (l.drop i) : Int)) := by
  intro d
  induction d with
  | zero =>
    intro i V hi hV hVl
    refine Ev.step (f := fun _ => some (enc D V)) (fun k => ?_) ?_
    · simp only [vernierref04_Digits.l0]
      rw [mkB_size, if_neg (by omega)]
    · rw [List.drop_of_length_le (by omega)]
      have e : ((numF V.toNat [] : Nat) : Int) = V := by show ((V.toNat : Nat) : Int) = V; omega
      rw [e]; exact Ev.now _
  | succ d ih =>
    intro i V hi hV hVl
    have hlt : i < l.length := by omega
    have hc := hd _ (List.getElem_mem hlt)
    unfold dgt at hc
    simp only [Bool.and_eq_true, decide_eq_true_iff] at hc
    have hb := bt_mkB hlt
    obtain ⟨q, hq⟩ : ∃ q : Int, q = ((l[i].toNat - 48 : Nat) : Int) := ⟨_, rfl⟩
    have hq0 : 0 ≤ q ∧ q ≤ 9 := by omega
    have hbt : (bt (mkB l) (i : Int) - 48) % 256 = q := by rw [hb]; omega
    have h10 := pw10_lt (i + 1)
    have hs : pw 10 (i + 1) = pw 10 i * 10 := pw_succ ..
    have ht := rtimes_ev hV (q := 10) (by decide) (by rw [Ddef]; decide) (m := i + 1 + 1) (by omega) (by omega)
    have ho := rOf_ev (v := q) hq0.1 (by rw [Bdef]; omega)
    have ha := rAdd_ev (A := V * 10) (C := q) (by omega) hq0.1 (m := i + 1 + 1) (by omega) (by omega)
    have hn := ih (i + 1) (V * 10 + q) (by omega) (by omega) (by omega)
    have e : numF V.toNat (l.drop i) = numF (V * 10 + q).toNat (l.drop (i + 1)) := by
      rw [List.drop_eq_getElem_cons hlt, numF_cons]
      congr 1
      omega
    rw [e]
    have hbody : Ev (fun k => (vernierref04_times.f k (enc D V) 10).bind fun t1 => (vernierref04_Of.f k q).bind fun t2 => (vernierref04_Add.f k t1 t2).bind fun t3 => vernierref04_Digits.l0 k (mkB l) t3 ((i + 1 : Nat) : Int)) (enc D ((numF (V * 10 + q).toNat (l.drop (i + 1)) : Nat) : Int)) := by
      refine Ev.bind ht ?_
      refine Ev.bind ho ?_
      refine Ev.bind ha ?_
      exact hn
    refine Ev.step (fun k => ?_) hbody
    simp only [vernierref04_Digits.l0]
    have hi0 : 0 ≤ (i : Int) := by omega
    have ew : wrap64 ((i : Int) + 1) = ((i + 1 : Nat) : Int) := by rw [w64 (by omega) (by omega)]; rfl
    rw [mkB_size, if_pos (by omega)]
    simp only [if_pos hi0, hbt, ew]
theorem rDigits_ev {l : List UInt8} (hd : ∀ c ∈ l, dgt c = true) (hl : l.length ≤ 1048576) : Ev (fun k => vernierref04_Digits.f k (mkB l)) (enc D (numF 0 l : Int)) := by
  have h := rDigits_l0 l hd hl l.length 0 0 (by omega) (Int.le_refl _) (by rw [pw_zero]; decide)
  rw [enc_zero, List.drop_zero] at h
  exact h
end Go.Proofs.YthhkmpicpihjlaaGreatDoor.PNat
