/- Layer 18, plain: the reader of texts as a machine with nine states, and the document's answer over lists: they are one; what a text refused tells of longer texts. -/

set_option linter.unusedVariables false
namespace Go.Proofs.YthhkmpicpihjlaaGreatDoor.SC
def dg (c : UInt8) : Bool := decide (48 ≤ c.toNat) && decide (c.toNat ≤ 57)
def ld : List UInt8 → Nat
  | [] => 0
  | c :: l => if dg c = true then ld l + 1 else 0
structure R where
  st : Nat
  neg : Bool
  ds : List UInt8
  beh : Nat
  eneg : Bool
  exp : Nat
def r0 : R := ⟨0, false, [], 0, false, 0⟩
def eb (c : UInt8) : Bool := c == 101 || c == 69
def sg (c : UInt8) : Bool := c == 43 || c == 45
def far : Nat := 100000000
def ex (e : Nat) (c : UInt8) : Nat := min (10 * e + (c.toNat - 48)) far
def tk (r : R) (c : UInt8) : Option R :=
  match r.st with
  | 0 => if sg c = true then some { r with neg := c == 45, st := 2 } else if dg c = true then some { r with st := 3, ds := r.ds ++ [c] } else none
  | 2 => if dg c = true then some { r with st := 3, ds := r.ds ++ [c] } else none
  | 3 => if c == 46 then some { r with st := 4 } else if dg c = true then some { r with ds := r.ds ++ [c] } else if eb c = true then some { r with st := 6 } else none
  | 4 => if dg c = true then some { r with st := 5, ds := r.ds ++ [c], beh := r.beh + 1 } else none
  | 5 => if dg c = true then some { r with st := 5, ds := r.ds ++ [c], beh := r.beh + 1 } else if eb c = true then some { r with st := 6 } else none
  | 6 => if sg c = true then some { r with eneg := c == 45, st := 7 } else if dg c = true then some { r with st := 8, exp := ex r.exp c } else none
  | 7 => if dg c = true then some { r with st := 8, exp := ex r.exp c } else none
  | 8 => if dg c = true then some { r with st := 8, exp := ex r.exp c } else none
  | _ => none
def run (r : R) (i : Nat) : List UInt8 → Nat ⊕ R
  | [] => .inr r
  | c :: l => match tk r c with | none => .inl i | some r' => run r' (i + 1) l
def whole (r : R) : Bool := r.st == 3 || r.st == 5 || r.st == 8
def scan (l : List UInt8) : Nat ⊕ R :=
  match run r0 0 l with
  | .inl i => .inl i
  | .inr r => if whole r = true then .inr r else .inl l.length
theorem dg_not_sg {c : UInt8} (h : dg c = true) : sg c = false ∧ eb c = false ∧ (c == 46) = false := by
  unfold dg at h
  simp only [Bool.and_eq_true, decide_eq_true_iff] at h
  unfold sg eb
  refine ⟨?_, ?_, ?_⟩ <;> simp only [Bool.or_eq_false_iff, beq_eq_false_iff_ne, ne_eq] <;> (try constructor) <;> (rintro rfl; simp at h)
def hd (p : UInt8 → Bool) : List UInt8 → Bool
  | [] => false
  | c :: _ => p c
def okst (r : R) : Bool := r.st == 0 || r.st == 2 || r.st == 3 || r.st == 4 || r.st == 5 || r.st == 6 || r.st == 7 || r.st == 8
theorem tk_ok {r r' : R} {c : UInt8} (h : tk r c = some r') : okst r' = true := by
  unfold tk at h
  split at h <;> (try split at h) <;> (try split at h) <;> (try split at h) <;> simp at h <;> (subst h) <;> simp_all [okst]
end Go.Proofs.YthhkmpicpihjlaaGreatDoor.SC
