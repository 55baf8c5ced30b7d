/- Layer 18, plain: the one form of a decimal, its text, and that this text is read as that form. -/
import Derived.Test.YthhkmpicpihjlaaGreatDoorQVSA
import Derived.Lib.ItoaNum
namespace Go.Proofs.YthhkmpicpihjlaaGreatDoor.SC
open Go
set_option linter.unusedVariables false
structure D where
  nar : Bool
  neg : Bool
  ds : List UInt8
  e : Int
deriving DecidableEq
def d0 : D := ⟨false, false, [], 0⟩
def dN : D := ⟨true, false, [], 0⟩
def lz (l : List UInt8) : List UInt8 := l.dropWhile (· == 48)
def rz (l : List UInt8) : List UInt8 := (l.reverse.dropWhile (· == 48)).reverse
def tz (l : List UInt8) : Nat := l.length - (rz l).length
def mostE : Int := 1000000
def nrm (d : D) : D :=
  if d.nar = true then d
  else if lz d.ds = [] then ⟨false, false, [48], 0⟩
  else ⟨false, d.neg, (lz d.ds).take ((lz d.ds).length - min (tz (lz d.ds)) (mostE - d.e).toNat), d.e + min (tz (lz d.ds)) (mostE - d.e).toNat⟩
def formed (d : D) : Bool :=
  if d.nar = true then (!d.neg && (d.ds.isEmpty && decide (d.e = 0)))
  else !d.ds.isEmpty && (decide (d.ds.length ≤ 4096) && (d.ds.all dg && (decide (-mostE ≤ d.e) && decide (d.e ≤ mostE))))
def held (n : Int) : Int := if n < -mostE then -mostE else if mostE < n then mostE else n
def wordAt (l : List UInt8) : Nat :=
  if hd (· == 110) l = true then (if hd (· == 97) (l.drop 1) = true then (if hd (· == 114) (l.drop 2) = true then 3 else 2) else 1) else 0
inductive Res where
  | long
  | bad (p : Nat)
  | ok (d : D)
def toD (r : R) : D := ⟨false, r.neg, r.ds, held ((if r.eneg = true then -(r.exp : Int) else (r.exp : Int)) - (r.beh : Int))⟩
def scanF (l : List UInt8) : Res :=
  if 4096 < l.length then .long
  else if hd (· == 110) l = true then (if wordAt l < 3 ∨ 3 < l.length then .bad (wordAt l) else .ok dN)
  else match scan l with
    | .inl p => .bad p
    | .inr r => .ok (nrm (toD r))
def textN (d : D) : List UInt8 :=
  if d.nar = true then [110, 97, 114]
  else (if d.neg = true then [45] else []) ++
    (let a : Int := d.ds.length + d.e
     if 0 ≤ d.e ∧ a ≤ 21 then d.ds ++ List.replicate d.e.toNat 48
     else if 1 ≤ a ∧ a ≤ 21 then d.ds.take a.toNat ++ [46] ++ d.ds.drop a.toNat
     else if -5 ≤ a ∧ a ≤ 0 then [48, 46] ++ List.replicate (-a).toNat 48 ++ d.ds
     else d.ds.take 1 ++ (if 1 < d.ds.length then [46] ++ d.ds.drop 1 else []) ++ [101] ++ Lib.itoa (a - 1))
def Norm (d : D) : Prop := d = dN ∨ (d.nar = false ∧ d.ds.all dg = true ∧ d.ds ≠ [] ∧ d.ds.length ≤ 4096 ∧ -mostE ≤ d.e ∧ d.e ≤ mostE ∧
  ((d.neg = false ∧ d.ds = [48] ∧ d.e = 0) ∨ (hd (· == 48) d.ds = false ∧ (d.ds.getLast? ≠ some 48 ∨ d.e = mostE))))
theorem rz_snoc (l : List UInt8) : rz (l ++ [48]) = rz l := by simp [rz]
theorem rz_last {l : List UInt8} (h : l.getLast? ≠ some 48) : rz l = l := by
  rcases List.eq_nil_or_concat l with rfl | ⟨m, c, rfl⟩
  · rfl
  · have hc : (c == 48) = false := by simpa using h
    simp [rz, hc]
theorem rz_noughts (l : List UInt8) (n : Nat) : rz (l ++ List.replicate n 48) = rz l := by
  induction n with
  | zero => simp
  | succ n ih => rw [List.replicate_succ', ← List.append_assoc, rz_snoc, ih]
theorem rz_le (l : List UInt8) : (rz l).length ≤ l.length := by
  unfold rz
  have := (List.dropWhile_sublist (p := (· == 48)) (l := l.reverse)).length_le
  simpa using this
theorem tz_last {l : List UInt8} (h : l.getLast? ≠ some 48) : tz l = 0 := by unfold tz; rw [rz_last h]; omega
theorem lz_noughts (n : Nat) (l : List UInt8) : lz (List.replicate n 48 ++ l) = lz l := by
  induction n with
  | zero => simp
  | succ n ih => rw [List.replicate_succ, List.cons_append]; unfold lz at *; rw [List.dropWhile_cons]; simp
theorem lz_hd {l : List UInt8} (h : hd (· == 48) l = false) : lz l = l := by
  cases l with
  | nil => rfl
  | cons c l => unfold lz; rw [List.dropWhile_cons]; have : (c == 48) = false := h; simp [this]
theorem lz_hd' (l : List UInt8) : hd (· == 48) (lz l) = false := by
  induction l with
  | nil => rfl
  | cons c l ih =>
    unfold lz at *
    rw [List.dropWhile_cons]
    by_cases hc : (c == 48) = true
    · rw [if_pos hc]; exact ih
    · rw [if_neg hc]; simpa [hd] using hc
theorem formed_of_norm {d : D} (h : Norm d) : formed d = true := by
  rcases h with rfl | ⟨h1, h2, h3, h4, h5, h6, h7⟩
  · rfl
  · unfold formed
    rw [h1]
    simp [h2, h3, h4, h5, h6]
theorem rz_split (l : List UInt8) : ∃ n, l = rz l ++ List.replicate n 48 := by
  obtain ⟨m, hm⟩ : ∃ m, m = l.length := ⟨_, rfl⟩
  induction m generalizing l with
  | zero => obtain rfl : l = [] := List.length_eq_zero_iff.1 hm.symm; exact ⟨0, rfl⟩
  | succ m ih =>
    rcases List.eq_nil_or_concat l with rfl | ⟨q, c, rfl⟩
    · exact ⟨0, rfl⟩
    · by_cases hc : c = 48
      · subst hc
        obtain ⟨n, hn⟩ := ih q (by simpa using hm)
        refine ⟨n + 1, ?_⟩
        rw [List.concat_eq_append, rz_snoc, List.replicate_succ', ← List.append_assoc, ← hn]
      · refine ⟨0, ?_⟩
        rw [rz_last (by simpa using hc)]
        simp
theorem rz_take (l : List UInt8) : rz l = l.take (rz l).length := by
  obtain ⟨n, hn⟩ := rz_split l
  conv => rhs; rw [hn, rz_noughts]
  have : rz (rz l) = rz l := by
    conv => rhs; rw [hn, rz_noughts]
  simp [this]
theorem rz_getLast (l : List UInt8) : (rz l).getLast? ≠ some 48 := by
  obtain ⟨m, hm⟩ : ∃ m, m = l.length := ⟨_, rfl⟩
  induction m generalizing l with
  | zero => obtain rfl : l = [] := List.length_eq_zero_iff.1 hm.symm; simp [rz]
  | succ m ih =>
    rcases List.eq_nil_or_concat l with rfl | ⟨q, c, rfl⟩
    · simp [rz]
    · by_cases hc : c = 48
      · subst hc
        rw [List.concat_eq_append, rz_snoc]
        exact ih q (by simpa using hm)
      · rw [rz_last (by simpa using hc)]
        simpa using hc
theorem rz_nil {l : List UInt8} (h : rz l = []) : lz l = [] := by
  obtain ⟨n, hn⟩ := rz_split l
  rw [h] at hn
  rw [hn, List.nil_append]
  have := lz_noughts n []
  rw [List.append_nil] at this
  rw [this]
  rfl
theorem rz_ne {l : List UInt8} (h : l ≠ []) (h2 : hd (· == 48) l = false) : rz l ≠ [] := fun h3 => h (by rw [← lz_hd h2]; exact rz_nil h3)
theorem hd_take {p : UInt8 → Bool} {l : List UInt8} {n : Nat} (h : 0 < n) : hd p (l.take n) = hd p l := by
  cases l with
  | nil => simp
  | cons c l => obtain ⟨m, rfl⟩ : ∃ m, n = m + 1 := ⟨n - 1, by omega⟩; rfl
theorem lz_all {l : List UInt8} {p : UInt8 → Bool} (h : l.all p = true) : (lz l).all p = true :=
  List.all_eq_true.2 fun x hx => List.all_eq_true.1 h x ((List.dropWhile_sublist _).subset hx)
theorem lz_le (l : List UInt8) : (lz l).length ≤ l.length := (List.dropWhile_sublist _).length_le
theorem norm_nrm {d : D} (h : formed d = true) : Norm (nrm d) := by
  obtain ⟨nar, neg, ds, e⟩ := d
  cases nar with
  | true =>
    simp [formed] at h
    obtain ⟨rfl, rfl, rfl⟩ := h
    exact .inl rfl
  | false =>
    unfold formed at h
    simp only [Bool.false_eq_true, if_false, Bool.and_eq_true, decide_eq_true_iff, Bool.not_eq_true', List.isEmpty_eq_false_iff] at h
    obtain ⟨h1, h2, h3, h4, h5⟩ := h
    unfold nrm
    simp only [Bool.false_eq_true, if_false]
    by_cases h0 : lz ds = []
    · rw [if_pos h0]
      exact .inr ⟨rfl, by decide, by decide, by decide, by decide, by decide, .inl ⟨rfl, rfl, rfl⟩⟩
    · rw [if_neg h0]
      have ha := lz_all h3
      have hh := lz_hd' ds
      have hl := lz_le ds
      have hr := rz_ne h0 hh
      have hrl := rz_le (lz ds)
      have hr1 : 0 < (rz (lz ds)).length := List.length_pos_iff.2 hr
      have hk : (lz ds).length - min (tz (lz ds)) (mostE - e).toNat ≥ (rz (lz ds)).length := by unfold tz; omega
      have hk2 : min (tz (lz ds)) (mostE - e).toNat ≤ (mostE - e).toNat := Nat.min_le_right _ _
      refine .inr ⟨rfl, ?_, ?_, ?_, ?_, ?_, .inr ⟨?_, ?_⟩⟩
      · exact List.all_eq_true.2 fun x hx => List.all_eq_true.1 ha x (List.mem_of_mem_take hx)
      · exact List.length_pos_iff.1 (by simp only [List.length_take]; omega)
      · simp only [List.length_take]; omega
      · simp only; omega
      · simp only; omega
      · simp only; rw [hd_take (by omega)]; exact hh
      · simp only
        by_cases hm : tz (lz ds) ≤ (mostE - e).toNat
        · left
          rw [Nat.min_eq_left hm, show (lz ds).length - tz (lz ds) = (rz (lz ds)).length by unfold tz; omega, ← rz_take]
          exact rz_getLast _
        · right
          rw [Nat.min_eq_right (by omega)]
          omega
end Go.Proofs.YthhkmpicpihjlaaGreatDoor.SC
