/- Layer 18, plain: what holds of the reader; what a text tells is in the one form; what a refused text tells of longer ones. -/
import Derived.Test.YthhkmpicpihjlaaDoorQTSB
namespace Go.Proofs.YthhkmpicpihjlaaDoor.SC
open Go
set_option linter.unusedVariables false
structure Inv (k : Nat) (r : R) : Prop where
  all : r.ds.all dg = true
  len : r.ds.length ≤ k
  beh : r.beh ≤ r.ds.length
  exp : r.exp ≤ far
  st : okst r = true
  some_ : r.st = 0 ∨ r.st = 2 ∨ r.ds ≠ []
theorem inv0 : Inv 0 r0 := ⟨rfl, by decide, by decide, by decide, rfl, .inl rfl⟩
theorem Inv.tk {k : Nat} {r r' : R} {c : UInt8} (h : Inv k r) (ht : tk r c = some r') : Inv (k + 1) r' := by
  obtain ⟨h1, h2, h3, h4, h5, h6⟩ := h
  have h7 := tk_ok ht
  have hx : ∀ e, ex e c ≤ far := fun e => Nat.min_le_right _ _
  have ha : dg c = true → (r.ds ++ [c]).all dg = true := fun hc => by rw [List.all_append, h1, List.all_cons, hc]; rfl
  unfold Go.Proofs.YthhkmpicpihjlaaDoor.SC.tk at ht
  refine ⟨?_, ?_, ?_, ?_, h7, ?_⟩ <;> (split at ht <;> (try split at ht) <;> (try split at ht) <;> (try split at ht) <;> simp only [Option.some.injEq, reduceCtorEq] at ht <;> subst ht) <;>
    first | exact h1 | exact ha (by assumption) | omega | (simp only [List.length_append, List.length_singleton]; omega) | exact h3 | exact hx _ | (right; right; simp; done) | (right; left; rfl) | (right; right; rcases h6 with h6 | h6 | h6 <;> first | exact h6 | (simp_all; done))
theorem run_inv (l : List UInt8) : ∀ (r q : R) (i k : Nat), Inv k r → run r i l = .inr q → Inv (k + l.length) q := by
  induction l with
  | nil => intro r q i k h h2; simp [run] at h2; subst h2; exact h
  | cons c l ih =>
    intro r q i k h h2
    rw [run] at h2
    cases ht : tk r c with
    | none => rw [ht] at h2; simp at h2
    | some r' =>
      rw [ht] at h2
      have := ih r' q (i + 1) (k + 1) (h.tk ht) h2
      rw [List.length_cons, show k + (l.length + 1) = k + 1 + l.length by omega]
      exact this
theorem scan_inv {l : List UInt8} {q : R} (h : scan l = .inr q) : Inv l.length q ∧ whole q = true := by
  unfold scan at h
  cases hr : run r0 0 l with
  | inl i => rw [hr] at h; simp at h
  | inr r =>
    rw [hr] at h
    simp only at h
    cases hw : whole r with
    | false => rw [hw] at h; simp at h
    | true =>
      rw [hw, if_pos rfl] at h
      obtain rfl : r = q := by simpa using h
      refine ⟨?_, hw⟩
      have := run_inv l r0 r 0 0 inv0 hr
      rwa [Nat.zero_add] at this
theorem held_bound (n : Int) : -mostE ≤ held n ∧ held n ≤ mostE := by unfold held mostE; split <;> (try split) <;> omega
theorem formed_scan {l : List UInt8} {q : R} (h : scan l = .inr q) (hl : l.length ≤ 4096) : formed (toD q) = true := by
  obtain ⟨⟨h1, h2, h3, h4, h5, h6⟩, hw⟩ := scan_inv h
  have hne : q.ds ≠ [] := by
    rcases h6 with h6 | h6 | h6
    · unfold whole at hw; rw [h6] at hw; simp at hw
    · unfold whole at hw; rw [h6] at hw; simp at hw
    · exact h6
  have hb := held_bound ((if q.eneg = true then -(q.exp : Int) else (q.exp : Int)) - (q.beh : Int))
  unfold formed toD
  have hd : decide (q.ds.length ≤ 4096) = true := decide_eq_true (by omega)
  simp only [Bool.false_eq_true, if_false, h1, hd, Bool.true_and, Bool.and_eq_true, Bool.not_eq_true', List.isEmpty_eq_false_iff, decide_eq_true_iff]
  exact ⟨hne, hb⟩
theorem wordAt_le (l : List UInt8) : wordAt l ≤ 3 ∧ wordAt l ≤ l.length := by
  rcases l with _ | ⟨a, _ | ⟨b, _ | ⟨c, l⟩⟩⟩ <;> unfold wordAt <;> simp only [hd, List.drop_succ_cons, List.drop_zero, List.drop_nil, List.length_cons, List.length_nil, Bool.false_eq_true, if_false] <;> (repeat' split) <;> omega
theorem scanF_le {l : List UInt8} {p : Nat} (h : scanF l = .bad p) : p ≤ l.length ∧ l.length ≤ 4096 := by
  unfold scanF at h
  split at h
  · cases h
  · refine ⟨?_, by omega⟩
    split at h
    · split at h
      · obtain rfl : wordAt l = p := by simpa using h
        exact (wordAt_le l).2
      · cases h
    · cases hs : scan l with
      | inl q =>
        rw [hs] at h
        obtain rfl : q = p := by simpa using h
        exact scan_le hs
      | inr q => rw [hs] at h; simp at h
theorem wordAt_take (l more : List UInt8) (h : wordAt l < l.length) : wordAt (l.take (wordAt l + 1) ++ more) = wordAt l := by
  rcases l with _ | ⟨a, _ | ⟨b, _ | ⟨c, l⟩⟩⟩
  · simp at h
  · by_cases ha : (a == 110) = true
    · have e : wordAt [a] = 1 := by simp [wordAt, hd, ha]
      rw [e] at h; simp at h
    · have e : wordAt [a] = 0 := by simp [wordAt, hd, ha]
      rw [e]; simp [wordAt, hd, ha]
  · by_cases ha : (a == 110) = true
    · by_cases hb : (b == 97) = true
      · have e : wordAt [a, b] = 2 := by simp [wordAt, hd, ha, hb]
        rw [e] at h; simp at h
      · have e : wordAt [a, b] = 1 := by simp [wordAt, hd, ha, hb]
        rw [e]; simp [wordAt, hd, ha, hb]
    · have e : wordAt [a, b] = 0 := by simp [wordAt, hd, ha]
      rw [e]; simp [wordAt, hd, ha]
  · by_cases ha : (a == 110) = true
    · by_cases hb : (b == 97) = true
      · by_cases hc : (c == 114) = true
        · have e : wordAt (a :: b :: c :: l) = 3 := by simp [wordAt, hd, ha, hb, hc]
          rw [e]; simp [wordAt, hd, ha, hb, hc]
        · have e : wordAt (a :: b :: c :: l) = 2 := by simp [wordAt, hd, ha, hb, hc]
          rw [e]; simp [wordAt, hd, ha, hb, hc]
      · have e : wordAt (a :: b :: c :: l) = 1 := by simp [wordAt, hd, ha, hb]
        rw [e]; simp [wordAt, hd, ha, hb]
    · have e : wordAt (a :: b :: c :: l) = 0 := by simp [wordAt, hd, ha]
      rw [e]; simp [wordAt, hd, ha]
theorem hd_take_app {p : UInt8 → Bool} {l : List UInt8} (n : Nat) (more : List UInt8) (h : l ≠ []) : hd p (l.take (n + 1) ++ more) = hd p l := by
  cases l with
  | nil => exact absurd rfl h
  | cons c l => rfl
theorem scanF_grows {l : List UInt8} {p : Nat} (h : scanF l = .bad p) (hp : p < l.length) (more : List UInt8) (hm : p + 1 + more.length ≤ 4096) : scanF (l.take (p + 1) ++ more) = .bad p := by
  have hne : l ≠ [] := List.length_pos_iff.1 (by omega)
  have hlen : (l.take (p + 1) ++ more).length = p + 1 + more.length := by simp; omega
  unfold scanF at h ⊢
  rw [if_neg (by omega), hd_take_app p more hne]
  split at h
  · cases h
  · split at h
    · split at h
      · rename_i h1 h2 h3
        obtain rfl : wordAt l = p := by simpa using h
        rw [if_pos h2, wordAt_take l more hp, if_pos]
        have := (wordAt_le l).1
        omega
      · cases h
    · rename_i h1 h2
      rw [if_neg h2]
      cases hs : scan l with
      | inl q =>
        rw [hs] at h
        obtain rfl : q = p := by simpa using h
        rw [scan_grows hs hp more]
      | inr q => rw [hs] at h; simp at h
def endOf (l : List UInt8) : List UInt8 := if hd (· == 110) l = true then [110, 97, 114].drop l.length else [48]
theorem scanF_ends {l : List UInt8} (h : scanF l = .bad l.length) (hm : l.length < 4096) : (hd (· == 110) l = true → l.length ≤ 3) ∧ ∃ d, scanF (l ++ endOf l) = .ok d := by
  unfold scanF at h
  split at h
  · cases h
  · split at h
    · rename_i h1 h2
      split at h
      · have hw : wordAt l = l.length := by simpa using h
        have h3 := (wordAt_le l).1
        refine ⟨fun _ => by omega, dN, ?_⟩
        have e : l ++ endOf l = [110, 97, 114] := by
          unfold endOf; rw [if_pos h2]
          rcases l with _ | ⟨a, _ | ⟨b, _ | ⟨c, l⟩⟩⟩
          · cases h2
          · have : a = 110 := by simpa [hd] using h2
            subst this; rfl
          · have ha : a = 110 := by simpa [hd] using h2
            subst ha
            by_cases hb : (b == 97) = true
            · have : b = 97 := by simpa using hb
              subst this; rfl
            · simp [wordAt, hd, hb] at hw
          · rename_i h4
            simp only [List.length_cons] at hw h3 h4
            omega
        rw [e]; rfl
      · cases h
    · rename_i h1 h2
      refine ⟨fun h3 => absurd h3 h2, ?_⟩
      cases hs : scan l with
      | inl q =>
        rw [hs] at h
        obtain rfl : q = l.length := by simpa using h
        obtain ⟨r, hr⟩ := scan_ends hs
        refine ⟨nrm (toD r), ?_⟩
        unfold endOf scanF
        rw [if_neg h2, if_neg (by simp; omega), hr]
        have : ¬ hd (· == 110) (l ++ [48]) = true := by
          cases l with
          | nil => simp [hd]
          | cons c l => exact h2
        rw [if_neg this]
      | inr q => rw [hs] at h; simp at h
end Go.Proofs.YthhkmpicpihjlaaDoor.SC
