/- Layer 18, plain: the reader of texts as a machine with nine states, and the document's answer over lists: they are one; what a text refused tells of longer texts. -/

set_option linter.unusedVariables false
namespace Go.Proofs.YthhkmpicpihjlaaDoor.SC
def dg (c : UInt8) : Bool := decide (48 ≤ c.toNat) && decide (c.toNat ≤ 57)
structure R where
  st : Nat
  neg : Bool
  ds : List UInt8
  beh : Nat
  eneg : Bool
  exp : Nat
def r0 : R := ⟨0, false, [], 0, false, 0⟩
def eb (c : UInt8) : Bool := c == 101 || c == 69
def sg (c : UInt8) : Bool := c == 43 || c == 45
def far : Nat := 100000000
def ex (e : Nat) (c : UInt8) : Nat := min (10 * e + (c.toNat - 48)) far
def tk (r : R) (c : UInt8) : Option R :=
  match r.st with
  | 0 => if sg c = true then some { r with neg := c == 45, st := 2 } else if dg c = true then some { r with st := 3, ds := r.ds ++ [c] } else none
  | 2 => if dg c = true then some { r with st := 3, ds := r.ds ++ [c] } else none
  | 3 => if c == 46 then some { r with st := 4 } else if dg c = true then some { r with ds := r.ds ++ [c] } else if eb c = true then some { r with st := 6 } else none
  | 4 => if dg c = true then some { r with st := 5, ds := r.ds ++ [c], beh := r.beh + 1 } else none
  | 5 => if dg c = true then some { r with st := 5, ds := r.ds ++ [c], beh := r.beh + 1 } else if eb c = true then some { r with st := 6 } else none
  | 6 => if sg c = true then some { r with eneg := c == 45, st := 7 } else if dg c = true then some { r with st := 8, exp := ex r.exp c } else none
  | 7 => if dg c = true then some { r with st := 8, exp := ex r.exp c } else none
  | 8 => if dg c = true then some { r with st := 8, exp := ex r.exp c } else none
  | _ => none
def run (r : R) (i : Nat) : List UInt8 → Nat ⊕ R
  | [] => .inr r
  | c :: l => match tk r c with | none => .inl i | some r' => run r' (i + 1) l
def whole (r : R) : Bool := r.st == 3 || r.st == 5 || r.st == 8
def scan (l : List UInt8) : Nat ⊕ R :=
  match run r0 0 l with
  | .inl i => .inl i
  | .inr r => if whole r = true then .inr r else .inl l.length
theorem dg_not_sg {c : UInt8} (h : dg c = true) : sg c = false ∧ eb c = false ∧ (c == 46) = false := by
  unfold dg at h
  simp only [Bool.and_eq_true, decide_eq_true_iff] at h
  unfold sg eb
  refine ⟨?_, ?_, ?_⟩ <;> simp only [Bool.or_eq_false_iff, beq_eq_false_iff_ne, ne_eq] <;> (try constructor) <;> (rintro rfl; simp at h)
def hd (p : UInt8 → Bool) : List UInt8 → Bool
  | [] => false
  | c :: _ => p c
theorem run_bad (l : List UInt8) : ∀ (r : R) (i p : Nat) (more : List UInt8), run r i l = .inl p → i ≤ p ∧ p < i + l.length ∧ run r i (l.take (p - i + 1) ++ more) = .inl p := by
  induction l with
  | nil => intro r i p more h; simp [run] at h
  | cons c l ih =>
    intro r i p more h
    rw [run] at h
    cases ht : tk r c with
    | none =>
      rw [ht] at h
      obtain rfl : i = p := by simpa using h
      refine ⟨Nat.le_refl i, by simp, ?_⟩
      simp [run, ht]
    | some r' =>
      rw [ht] at h
      obtain ⟨h1, h2, h3⟩ := ih r' (i + 1) p more h
      refine ⟨by omega, by simp; omega, ?_⟩
      rw [List.take_succ_cons, List.cons_append, run, ht]
      show run r' (i + 1) _ = _
      rw [show p - i = p - (i + 1) + 1 by omega]
      exact h3
theorem run_good (l : List UInt8) : ∀ (r q : R) (i : Nat) (more : List UInt8), run r i l = .inr q → run r i (l ++ more) = run q (i + l.length) more := by
  induction l with
  | nil => intro r q i more h; simp [run] at h; subst h; simp
  | cons c l ih =>
    intro r q i more h
    rw [run] at h
    cases ht : tk r c with
    | none => rw [ht] at h; simp at h
    | some r' =>
      rw [ht] at h
      rw [List.cons_append, run, ht]
      show run r' (i + 1) _ = _
      rw [ih r' q (i + 1) more h, List.length_cons, show i + 1 + l.length = i + (l.length + 1) by omega]
def okst (r : R) : Bool := r.st == 0 || r.st == 2 || r.st == 3 || r.st == 4 || r.st == 5 || r.st == 6 || r.st == 7 || r.st == 8
theorem tk_ok {r r' : R} {c : UInt8} (h : tk r c = some r') : okst r' = true := by
  unfold tk at h
  split at h <;> (try split at h) <;> (try split at h) <;> (try split at h) <;> simp at h <;> (subst h) <;> simp_all [okst]
theorem run_ok (l : List UInt8) : ∀ (r q : R) (i : Nat), okst r = true → run r i l = .inr q → okst q = true := by
  induction l with
  | nil => intro r q i h h2; simp [run] at h2; subst h2; exact h
  | cons c l ih =>
    intro r q i h h2
    rw [run] at h2
    cases ht : tk r c with
    | none => rw [ht] at h2; simp at h2
    | some r' => rw [ht] at h2; exact ih r' q (i + 1) (tk_ok ht) h2
theorem tk_nought {r : R} (h : okst r = true) : ∃ q, tk r 48 = some q ∧ (whole r = false → whole q = true) := by
  unfold okst at h
  simp only [Bool.or_eq_true, beq_iff_eq] at h
  rcases h with ((((((h | h) | h) | h) | h) | h) | h) | h <;> (unfold tk; rw [h]; exact ⟨_, rfl, fun _ => by first | rfl | (simp_all [whole])⟩)
theorem scan_grows {l : List UInt8} {p : Nat} (h : scan l = .inl p) (hp : p < l.length) (more : List UInt8) : scan (l.take (p + 1) ++ more) = .inl p := by
  unfold scan at h
  cases hr : run r0 0 l with
  | inl i =>
    rw [hr] at h
    obtain rfl : i = p := by simpa using h
    have := (run_bad l r0 0 i more hr).2.2
    unfold scan
    rw [show i - 0 + 1 = i + 1 by omega] at this
    rw [this]
  | inr r =>
    rw [hr] at h
    simp only at h
    split at h
    · simp at h
    · have : l.length = p := by simpa using h
      omega
theorem scan_le {l : List UInt8} {p : Nat} (h : scan l = .inl p) : p ≤ l.length := by
  unfold scan at h
  cases hr : run r0 0 l with
  | inl i =>
    rw [hr] at h
    obtain rfl : i = p := by simpa using h
    have := (run_bad l r0 0 i [] hr).2.1
    omega
  | inr r =>
    rw [hr] at h
    simp only at h
    split at h
    · simp at h
    · have : l.length = p := by simpa using h
      omega
theorem scan_ends {l : List UInt8} (h : scan l = .inl l.length) : ∃ q, scan (l ++ [48]) = .inr q := by
  unfold scan at h
  cases hr : run r0 0 l with
  | inl i =>
    rw [hr] at h
    obtain rfl : i = l.length := by simpa using h
    have := (run_bad l r0 0 _ [] hr).2.1
    omega
  | inr r =>
    rw [hr] at h
    simp only at h
    have hw : whole r = false := by
      cases hw : whole r with
      | false => rfl
      | true => rw [if_pos hw] at h; simp at h
    obtain ⟨q, hq, hqw⟩ := tk_nought (run_ok l r0 r 0 rfl hr)
    refine ⟨q, ?_⟩
    unfold scan
    rw [run_good l r0 r 0 [48] hr, run, hq]
    simp [run, hqw hw]
end Go.Proofs.YthhkmpicpihjlaaDoor.SC
