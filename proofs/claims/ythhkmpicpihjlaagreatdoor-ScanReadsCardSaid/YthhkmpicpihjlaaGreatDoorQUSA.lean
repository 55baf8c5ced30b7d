/- Layer 18, plain: the reader of texts as a machine with nine states, and the document's answer over lists: they are one; what a text refused tells of longer texts. -/

set_option linter.unusedVariables false
namespace Go.Proofs.YthhkmpicpihjlaaGreatDoor.SC
def dg (c : UInt8) : Bool := decide (48 ≤ c.toNat) && decide (c.toNat ≤ 57)
def ld : List UInt8 → Nat
  | [] => 0
  | c :: l => if dg c = true then ld l + 1 else 0
structure R where
  st : Nat
  neg : Bool
  ds : List UInt8
  beh : Nat
  eneg : Bool
  exp : Nat
def r0 : R := ⟨0, false, [], 0, false, 0⟩
def eb (c : UInt8) : Bool := c == 101 || c == 69
def sg (c : UInt8) : Bool := c == 43 || c == 45
def far : Nat := 100000000
def ex (e : Nat) (c : UInt8) : Nat := min (10 * e + (c.toNat - 48)) far
def tk (r : R) (c : UInt8) : Option R :=
  match r.st with
  | 0 => if sg c = true then some { r with neg := c == 45, st := 2 } else if dg c = true then some { r with st := 3, ds := r.ds ++ [c] } else none
  | 2 => if dg c = true then some { r with st := 3, ds := r.ds ++ [c] } else none
  | 3 => if c == 46 then some { r with st := 4 } else if dg c = true then some { r with ds := r.ds ++ [c] } else if eb c = true then some { r with st := 6 } else none
  | 4 => if dg c = true then some { r with st := 5, ds := r.ds ++ [c], beh := r.beh + 1 } else none
  | 5 => if dg c = true then some { r with st := 5, ds := r.ds ++ [c], beh := r.beh + 1 } else if eb c = true then some { r with st := 6 } else none
  | 6 => if sg c = true then some { r with eneg := c == 45, st := 7 } else if dg c = true then some { r with st := 8, exp := ex r.exp c } else none
  | 7 => if dg c = true then some { r with st := 8, exp := ex r.exp c } else none
  | 8 => if dg c = true then some { r with st := 8, exp := ex r.exp c } else none
  | _ => none
def run (r : R) (i : Nat) : List UInt8 → Nat ⊕ R
  | [] => .inr r
  | c :: l => match tk r c with | none => .inl i | some r' => run r' (i + 1) l
def whole (r : R) : Bool := r.st == 3 || r.st == 5 || r.st == 8
def scan (l : List UInt8) : Nat ⊕ R :=
  match run r0 0 l with
  | .inl i => .inl i
  | .inr r => if whole r = true then .inr r else .inl l.length
theorem dg_not_sg {c : UInt8} (h : dg c = true) : sg c = false ∧ eb c = false ∧ (c == 46) = false := by
  unfold dg at h
  simp only [Bool.and_eq_true, decide_eq_true_iff] at h
  unfold sg eb
  refine ⟨?_, ?_, ?_⟩ <;> simp only [Bool.or_eq_false_iff, beq_eq_false_iff_ne, ne_eq] <;> (try constructor) <;> (rintro rfl; simp at h)
def sc (r : R) (i : Nat) (l : List UInt8) : Nat ⊕ R :=
  match run r i l with
  | .inl p => .inl p
  | .inr q => if whole q = true then .inr q else .inl (i + l.length)
theorem scan_sc (l : List UInt8) : scan l = sc r0 0 l := by unfold scan sc; simp
theorem sc_step {r r' : R} {c : UInt8} (i : Nat) (l : List UInt8) (h : tk r c = some r') : sc r i (c :: l) = sc r' (i + 1) l := by
  unfold sc; rw [run, h]; simp only [List.length_cons, Nat.add_assoc, Nat.add_comm 1]
theorem sc_none {r : R} {c : UInt8} (i : Nat) (l : List UInt8) (h : tk r c = none) : sc r i (c :: l) = .inl i := by
  unfold sc; rw [run, h]
theorem sc3 (l : List UInt8) : ∀ (r : R) (i : Nat), r.st = 3 → sc r i l = sc { r with ds := r.ds ++ l.take (ld l) } (i + ld l) (l.drop (ld l)) := by
  induction l with
  | nil => intro r i h; simp [ld]
  | cons c l ih =>
    intro r i h
    by_cases hc : dg c = true
    · have t : tk r c = some { r with ds := r.ds ++ [c] } := by
        unfold tk; rw [h]; simp [(dg_not_sg hc).2.2, hc]
      rw [sc_step i l t, ih { r with ds := r.ds ++ [c] } (i + 1) h, ld, if_pos hc, List.take_succ_cons, List.drop_succ_cons, show i + 1 + ld l = i + (ld l + 1) by omega]
      simp only [List.append_assoc, List.singleton_append]
    · rw [ld, if_neg hc]; simp
theorem sc5 (l : List UInt8) : ∀ (r : R) (i : Nat), r.st = 5 → sc r i l = sc { r with ds := r.ds ++ l.take (ld l), beh := r.beh + ld l } (i + ld l) (l.drop (ld l)) := by
  induction l with
  | nil => intro r i h; simp [ld]
  | cons c l ih =>
    intro r i h
    by_cases hc : dg c = true
    · have t : tk r c = some { r with ds := r.ds ++ [c], beh := r.beh + 1 } := by
        unfold tk; rw [h]; simp [hc]
      rw [sc_step i l t, ih { r with ds := r.ds ++ [c], beh := r.beh + 1 } (i + 1) h, ld, if_pos hc, List.take_succ_cons, List.drop_succ_cons, show i + 1 + ld l = i + (ld l + 1) by omega, show r.beh + (ld l + 1) = r.beh + 1 + ld l by omega]
      simp only [List.append_assoc, List.singleton_append]
    · rw [ld, if_neg hc]; simp
theorem sc8 (l : List UInt8) : ∀ (r : R) (i : Nat), r.st = 8 → sc r i l = sc { r with exp := (l.take (ld l)).foldl ex r.exp } (i + ld l) (l.drop (ld l)) := by
  induction l with
  | nil => intro r i h; simp [ld]
  | cons c l ih =>
    intro r i h
    by_cases hc : dg c = true
    · have t : tk r c = some { r with exp := ex r.exp c } := by
        unfold tk; rw [h]; simp [hc]
      rw [sc_step i l t, ih { r with exp := ex r.exp c } (i + 1) h, ld, if_pos hc, List.take_succ_cons, List.drop_succ_cons, show i + 1 + ld l = i + (ld l + 1) by omega]
      simp only [List.foldl_cons]
    · rw [ld, if_neg hc]; simp
def hd (p : UInt8 → Bool) : List UInt8 → Bool
  | [] => false
  | c :: _ => p c
theorem ld_drop (l : List UInt8) : hd dg (l.drop (ld l)) = false := by
  induction l with
  | nil => rfl
  | cons c l ih =>
    by_cases hc : dg c = true
    · rw [ld, if_pos hc]; exact ih
    · rw [ld, if_neg hc]; simpa [hd] using hc
theorem ld_le (l : List UInt8) : ld l ≤ l.length := by
  induction l with
  | nil => simp [ld]
  | cons c l ih => rw [ld]; split <;> simp; omega
def tailE (r : R) (i : Nat) (l : List UInt8) : Nat ⊕ R :=
  let f := if hd sg l = true then 1 else 0
  let n := ld (l.drop f)
  if n = 0 then .inl (i + f)
  else if f + n < l.length then .inl (i + f + n)
  else .inr { r with st := 8, eneg := hd (· == 45) l, exp := ((l.drop f).take n).foldl ex r.exp }
def tailD (r : R) (i : Nat) (l : List UInt8) : Nat ⊕ R :=
  if hd eb l = true then tailE r (i + 1) (l.drop 1) else if 0 < l.length then .inl i else .inr r
def tailP (r : R) (i : Nat) (l : List UInt8) : Nat ⊕ R :=
  if hd (· == 46) l = true then
    (let n := ld (l.drop 1)
     if n = 0 then .inl (i + 1) else tailD { r with st := 5, ds := r.ds ++ (l.drop 1).take n, beh := r.beh + n } (i + 1 + n) ((l.drop 1).drop n))
  else tailD r i l
def begin_ (r : R) (i : Nat) (l : List UInt8) : Nat ⊕ R :=
  if ld l = 0 then .inl i else tailP { r with st := 3, ds := r.ds ++ l.take (ld l) } (i + ld l) (l.drop (ld l))
def ref (l : List UInt8) : Nat ⊕ R :=
  if hd sg l = true then begin_ { r0 with st := 2, neg := hd (· == 45) l } 1 (l.drop 1) else begin_ r0 0 l
theorem sc_exp (l : List UInt8) (r : R) (i : Nat) (h : (r.st = 6 ∧ hd sg l = false) ∨ r.st = 7) : sc r i l = (if ld l = 0 then .inl i else if ld l < l.length then .inl (i + ld l) else .inr { r with st := 8, exp := (l.take (ld l)).foldl ex r.exp }) := by
  cases l with
  | nil =>
    have hw : whole r = false := by unfold whole; rcases h with ⟨h, _⟩ | h <;> rw [h] <;> rfl
    simp [ld, sc, run, hw]
  | cons c l =>
    by_cases hc : dg c = true
    · have t : tk r c = some { r with st := 8, exp := ex r.exp c } := by
        unfold tk; rcases h with ⟨h, _⟩ | h <;> rw [h] <;> simp [hc, (dg_not_sg hc).1]
      rw [sc_step i l t, sc8 l { r with st := 8, exp := ex r.exp c } (i + 1) rfl, ld, if_pos hc, if_neg (by omega), List.take_succ_cons, List.foldl_cons]
      have hd0 := ld_drop l
      have hlen := ld_le l
      cases hq : l.drop (ld l) with
      | nil =>
        have : l.length ≤ ld l := List.drop_eq_nil_iff.1 hq
        rw [if_neg (by simp; omega)]
        simp [sc, run, whole]
      | cons d q =>
        have : ld l < l.length := by
          rcases Nat.lt_or_ge (ld l) l.length with h' | h'
          · exact h'
          · rw [List.drop_eq_nil_iff.2 h'] at hq; cases hq
        rw [hq] at hd0
        rw [if_pos (by simp; omega)]
        rw [sc_none]
        · congr 1; omega
        · unfold tk; simp only; rw [if_neg (by simpa [hd] using hd0)]
    · have t : tk r c = none := by
        unfold tk
        rcases h with ⟨h, h2⟩ | h <;> rw [h]
        · have h3 : sg c = false := h2
          simp [hc, h3]
        · simp [hc]
      rw [sc_none i l t, ld, if_neg hc, if_pos rfl]
theorem sc_tailE (l : List UInt8) (r : R) (i : Nat) (h : r.st = 6) (he : r.eneg = false) : sc r i l = tailE r i l := by
  unfold tailE
  by_cases hs : hd sg l = true
  · cases l with
    | nil => cases hs
    | cons c l =>
      have hs' : sg c = true := hs
      have t : tk r c = some { r with eneg := c == 45, st := 7 } := by unfold tk; rw [h]; simp [hs']
      rw [if_pos hs]
      simp only [List.drop_succ_cons, List.drop_zero, List.length_cons]
      rw [sc_step i l t, sc_exp l _ (i + 1) (.inr rfl)]
      by_cases h0 : ld l = 0
      · rw [if_pos h0, if_pos h0]
      · rw [if_neg h0, if_neg h0]
        by_cases h1 : ld l < l.length
        · rw [if_pos h1, if_pos (by omega)]
        · rw [if_neg h1, if_neg (by omega)]
          rfl
  · have hs' : hd sg l = false := by simpa using hs
    have h45 : hd (· == 45) l = false := by
      cases l with
      | nil => rfl
      | cons c l => simp only [hd, sg, Bool.or_eq_false_iff] at hs' ⊢; exact hs'.2
    simp only [hs, Bool.false_eq_true, if_false, List.drop_zero, Nat.zero_add, Nat.add_zero]
    rw [sc_exp l r i (.inl ⟨h, hs'⟩), h45]
    by_cases h0 : ld l = 0
    · rw [if_pos h0, if_pos h0]
    · rw [if_neg h0, if_neg h0]
      by_cases h1 : ld l < l.length
      · rw [if_pos h1, if_pos h1]
      · rw [if_neg h1, if_neg h1, he]
theorem sc_tailD (l : List UInt8) (r : R) (i : Nat) (h : (r.st = 3 ∧ hd (· == 46) l = false) ∨ r.st = 5) (hn : hd dg l = false) (he : r.eneg = false) : sc r i l = tailD r i l := by
  unfold tailD
  cases l with
  | nil =>
    have hw : whole r = true := by unfold whole; rcases h with ⟨h, _⟩ | h <;> rw [h] <;> rfl
    simp [hd, sc, run, hw]
  | cons c l =>
    have hc : dg c = false := hn
    by_cases hb : eb c = true
    · have t : tk r c = some { r with st := 6 } := by
        unfold tk
        rcases h with ⟨h, h2⟩ | h <;> rw [h]
        · have h3 : (c == 46) = false := h2
          simp [hc, h3, hb]
        · simp [hc, hb]
      rw [sc_step i l t, if_pos (show hd eb (c :: l) = true from hb), sc_tailE l { r with st := 6 } (i + 1) rfl he, List.drop_succ_cons, List.drop_zero]
      rfl
    · have t : tk r c = none := by
        unfold tk
        rcases h with ⟨h, h2⟩ | h <;> rw [h]
        · have h3 : (c == 46) = false := h2
          simp [hc, h3, hb]
        · simp [hc, hb]
      rw [sc_none i l t, if_neg (show ¬ hd eb (c :: l) = true from hb), if_pos (by simp)]
theorem sc_tailP (l : List UInt8) (r : R) (i : Nat) (h : r.st = 3) (hn : hd dg l = false) (he : r.eneg = false) : sc r i l = tailP r i l := by
  unfold tailP
  by_cases hp : hd (· == 46) l = true
  · rw [if_pos hp]
    cases l with
    | nil => cases hp
    | cons c l =>
      have hp' : (c == 46) = true := hp
      have t : tk r c = some { r with st := 4 } := by unfold tk; rw [h]; simp [hp']
      rw [sc_step i l t]
      simp only [List.drop_succ_cons, List.drop_zero]
      cases l with
      | nil => simp [sc, run, whole, ld]
      | cons d l =>
        by_cases hd' : dg d = true
        · have t2 : tk { r with st := 4 } d = some { r with st := 5, ds := r.ds ++ [d], beh := r.beh + 1 } := by unfold tk; simp [hd']
          rw [sc_step (i + 1) l t2, sc5 l { r with st := 5, ds := r.ds ++ [d], beh := r.beh + 1 } (i + 1 + 1) rfl]
          rw [sc_tailD _ { r with st := 5, ds := r.ds ++ [d] ++ l.take (ld l), beh := r.beh + 1 + ld l } _ (.inr rfl) (ld_drop l) he]
          rw [ld, if_pos hd', if_neg (by omega), List.take_succ_cons, List.drop_succ_cons, show i + 1 + 1 + ld l = i + 1 + (ld l + 1) by omega, show r.beh + 1 + ld l = r.beh + (ld l + 1) by omega, List.append_assoc, List.singleton_append]
        · have t2 : tk { r with st := 4 } d = none := by unfold tk; simp [hd']
          rw [sc_none (i + 1) l t2, ld, if_neg hd', if_pos rfl]
  · rw [if_neg hp]
    exact sc_tailD l r i (.inl ⟨h, by simpa using hp⟩) hn he
theorem sc_begin (l : List UInt8) (r : R) (i : Nat) (h : (r.st = 0 ∧ hd sg l = false) ∨ r.st = 2) (he : r.eneg = false) : sc r i l = begin_ r i l := by
  unfold begin_
  cases l with
  | nil =>
    have hw : whole r = false := by unfold whole; rcases h with ⟨h, _⟩ | h <;> rw [h] <;> rfl
    simp [sc, run, ld, hw]
  | cons c l =>
    by_cases hc : dg c = true
    · have t : tk r c = some { r with st := 3, ds := r.ds ++ [c] } := by
        unfold tk; rcases h with ⟨h, _⟩ | h <;> rw [h] <;> simp [hc, (dg_not_sg hc).1]
      rw [sc_step i l t, sc3 l { r with st := 3, ds := r.ds ++ [c] } (i + 1) rfl, sc_tailP _ { r with st := 3, ds := r.ds ++ [c] ++ l.take (ld l) } _ rfl (ld_drop l) he]
      rw [ld, if_pos hc, if_neg (by omega), List.take_succ_cons, List.drop_succ_cons, show i + 1 + ld l = i + (ld l + 1) by omega, List.append_assoc, List.singleton_append]
    · have t : tk r c = none := by
        unfold tk
        rcases h with ⟨h, h2⟩ | h <;> rw [h]
        · have h3 : sg c = false := h2
          simp [hc, h3]
        · simp [hc]
      rw [sc_none i l t, ld, if_neg hc, if_pos rfl]
theorem scan_ref (l : List UInt8) : scan l = ref l := by
  rw [scan_sc]
  unfold ref
  by_cases hs : hd sg l = true
  · rw [if_pos hs]
    cases l with
    | nil => cases hs
    | cons c l =>
      have hs' : sg c = true := hs
      have t : tk r0 c = some { r0 with neg := c == 45, st := 2 } := by unfold tk; simp [r0, hs']
      rw [sc_step 0 l t, List.drop_succ_cons, List.drop_zero, sc_begin l _ _ (.inr rfl) rfl]
      rfl
  · rw [if_neg hs]
    exact sc_begin l r0 0 (.inl ⟨rfl, by simpa using hs⟩) rfl
def okst (r : R) : Bool := r.st == 0 || r.st == 2 || r.st == 3 || r.st == 4 || r.st == 5 || r.st == 6 || r.st == 7 || r.st == 8
theorem tk_ok {r r' : R} {c : UInt8} (h : tk r c = some r') : okst r' = true := by
  unfold tk at h
  split at h <;> (try split at h) <;> (try split at h) <;> (try split at h) <;> simp at h <;> (subst h) <;> simp_all [okst]
end Go.Proofs.YthhkmpicpihjlaaGreatDoor.SC
