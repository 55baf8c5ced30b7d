/- Layer 18, plain: what holds of the reader; what a text tells is in the one form; what a refused text tells of longer ones. -/
import Derived.Test.YthhkmpicpihjlaaGreatDoorQVSB
namespace Go.Proofs.YthhkmpicpihjlaaGreatDoor.SC
open Go
set_option linter.unusedVariables false
structure Inv (k : Nat) (r : R) : Prop where
  all : r.ds.all dg = true
  len : r.ds.length ≤ k
  beh : r.beh ≤ r.ds.length
  exp : r.exp ≤ far
  st : okst r = true
  some_ : r.st = 0 ∨ r.st = 2 ∨ r.ds ≠ []
theorem inv0 : Inv 0 r0 := ⟨rfl, by decide, by decide, by decide, rfl, .inl rfl⟩
theorem Inv.tk {k : Nat} {r r' : R} {c : UInt8} (h : Inv k r) (ht : tk r c = some r') : Inv (k + 1) r' := by
  obtain ⟨h1, h2, h3, h4, h5, h6⟩ := h
  have h7 := tk_ok ht
  have hx : ∀ e, ex e c ≤ far := fun e => Nat.min_le_right _ _
  have ha : dg c = true → (r.ds ++ [c]).all dg = true := fun hc => by rw [List.all_append, h1, List.all_cons, hc]; rfl
  unfold Go.Proofs.YthhkmpicpihjlaaGreatDoor.SC.tk at ht
  refine ⟨?_, ?_, ?_, ?_, h7, ?_⟩ <;> (split at ht <;> (try split at ht) <;> (try split at ht) <;> (try split at ht) <;> simp only [Option.some.injEq, reduceCtorEq] at ht <;> subst ht) <;>
    first | exact h1 | exact ha (by assumption) | omega | (simp only [List.length_append, List.length_singleton]; omega) | exact h3 | exact hx _ | (right; right; simp; done) | (right; left; rfl) | (right; right; rcases h6 with h6 | h6 | h6 <;> first | exact h6 | (simp_all; done))
theorem run_inv (l : List UInt8) : ∀ (r q : R) (i k : Nat), Inv k r → run r i l = .inr q → Inv (k + l.length) q := by
  induction l with
  | nil => intro r q i k h h2; simp [run] at h2; subst h2; exact h
  | cons c l ih =>
    intro r q i k h h2
    rw [run] at h2
    cases ht : tk r c with
    | none => rw [ht] at h2; simp at h2
    | some r' =>
      rw [ht] at h2
      have := ih r' q (i + 1) (k + 1) (h.tk ht) h2
      rw [List.length_cons, show k + (l.length + 1) = k + 1 + l.length by omega]
      exact this
theorem scan_inv {l : List UInt8} {q : R} (h : scan l = .inr q) : Inv l.length q ∧ whole q = true := by
  unfold scan at h
  cases hr : run r0 0 l with
  | inl i => rw [hr] at h; simp at h
  | inr r =>
    rw [hr] at h
    simp only at h
    cases hw : whole r with
    | false => rw [hw] at h; simp at h
    | true =>
      rw [hw, if_pos rfl] at h
      obtain rfl : r = q := by simpa using h
      refine ⟨?_, hw⟩
      have := run_inv l r0 r 0 0 inv0 hr
      rwa [Nat.zero_add] at this
theorem held_bound (n : Int) : -mostE ≤ held n ∧ held n ≤ mostE := by unfold held mostE; split <;> (try split) <;> omega
theorem formed_scan {l : List UInt8} {q : R} (h : scan l = .inr q) (hl : l.length ≤ 4096) : formed (toD q) = true := by
  obtain ⟨⟨h1, h2, h3, h4, h5, h6⟩, hw⟩ := scan_inv h
  have hne : q.ds ≠ [] := by
    rcases h6 with h6 | h6 | h6
    · unfold whole at hw; rw [h6] at hw; simp at hw
    · unfold whole at hw; rw [h6] at hw; simp at hw
    · exact h6
  have hb := held_bound ((if q.eneg = true then -(q.exp : Int) else (q.exp : Int)) - (q.beh : Int))
  unfold formed toD
  have hd : decide (q.ds.length ≤ 4096) = true := decide_eq_true (by omega)
  simp only [Bool.false_eq_true, if_false, h1, hd, Bool.true_and, Bool.and_eq_true, Bool.not_eq_true', List.isEmpty_eq_false_iff, decide_eq_true_iff]
  exact ⟨hne, hb⟩
theorem wordAt_le (l : List UInt8) : wordAt l ≤ 3 ∧ wordAt l ≤ l.length := by
  rcases l with _ | ⟨a, _ | ⟨b, _ | ⟨c, l⟩⟩⟩ <;> unfold wordAt <;> simp only [hd, List.drop_succ_cons, List.drop_zero, List.drop_nil, List.length_cons, List.length_nil, Bool.false_eq_true, if_false] <;> (repeat' split) <;> omega
end Go.Proofs.YthhkmpicpihjlaaGreatDoor.SC
