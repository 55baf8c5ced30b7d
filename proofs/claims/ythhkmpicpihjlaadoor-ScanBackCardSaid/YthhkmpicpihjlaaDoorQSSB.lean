/- Layer 18, plain: the one form of a decimal, its text, and that this text is read as that form. -/
import Derived.Test.YthhkmpicpihjlaaDoorQSSA
import Derived.Lib.ItoaNum
namespace Go.Proofs.YthhkmpicpihjlaaDoor.SC
open Go
set_option linter.unusedVariables false
structure D where
  nar : Bool
  neg : Bool
  ds : List UInt8
  e : Int
deriving DecidableEq
def d0 : D := ⟨false, false, [], 0⟩
def dN : D := ⟨true, false, [], 0⟩
def lz (l : List UInt8) : List UInt8 := l.dropWhile (· == 48)
def rz (l : List UInt8) : List UInt8 := (l.reverse.dropWhile (· == 48)).reverse
def tz (l : List UInt8) : Nat := l.length - (rz l).length
def mostE : Int := 1000000
def nrm (d : D) : D :=
  if d.nar = true then d
  else if lz d.ds = [] then ⟨false, false, [48], 0⟩
  else ⟨false, d.neg, (lz d.ds).take ((lz d.ds).length - min (tz (lz d.ds)) (mostE - d.e).toNat), d.e + min (tz (lz d.ds)) (mostE - d.e).toNat⟩
def formed (d : D) : Bool :=
  if d.nar = true then (!d.neg && (d.ds.isEmpty && decide (d.e = 0)))
  else !d.ds.isEmpty && (decide (d.ds.length ≤ 4096) && (d.ds.all dg && (decide (-mostE ≤ d.e) && decide (d.e ≤ mostE))))
def held (n : Int) : Int := if n < -mostE then -mostE else if mostE < n then mostE else n
def wordAt (l : List UInt8) : Nat :=
  if hd (· == 110) l = true then (if hd (· == 97) (l.drop 1) = true then (if hd (· == 114) (l.drop 2) = true then 3 else 2) else 1) else 0
inductive Res where
  | long
  | bad (p : Nat)
  | ok (d : D)
def toD (r : R) : D := ⟨false, r.neg, r.ds, held ((if r.eneg = true then -(r.exp : Int) else (r.exp : Int)) - (r.beh : Int))⟩
def scanF (l : List UInt8) : Res :=
  if 4096 < l.length then .long
  else if hd (· == 110) l = true then (if wordAt l < 3 ∨ 3 < l.length then .bad (wordAt l) else .ok dN)
  else match scan l with
    | .inl p => .bad p
    | .inr r => .ok (nrm (toD r))
def textN (d : D) : List UInt8 :=
  if d.nar = true then [110, 97, 114]
  else (if d.neg = true then [45] else []) ++
    (let a : Int := d.ds.length + d.e
     if 0 ≤ d.e ∧ a ≤ 21 then d.ds ++ List.replicate d.e.toNat 48
     else if 1 ≤ a ∧ a ≤ 21 then d.ds.take a.toNat ++ [46] ++ d.ds.drop a.toNat
     else if -5 ≤ a ∧ a ≤ 0 then [48, 46] ++ List.replicate (-a).toNat 48 ++ d.ds
     else d.ds.take 1 ++ (if 1 < d.ds.length then [46] ++ d.ds.drop 1 else []) ++ [101] ++ Lib.itoa (a - 1))
def Norm (d : D) : Prop := d = dN ∨ (d.nar = false ∧ d.ds.all dg = true ∧ d.ds ≠ [] ∧ d.ds.length ≤ 4096 ∧ -mostE ≤ d.e ∧ d.e ≤ mostE ∧
  ((d.neg = false ∧ d.ds = [48] ∧ d.e = 0) ∨ (hd (· == 48) d.ds = false ∧ (d.ds.getLast? ≠ some 48 ∨ d.e = mostE))))
theorem ld_app {a : List UInt8} (h : a.all dg = true) (b : List UInt8) : ld (a ++ b) = a.length + ld b := by
  induction a with
  | nil => simp
  | cons c a ih =>
    simp only [List.all_cons, Bool.and_eq_true] at h
    rw [List.cons_append, ld, if_pos h.1, ih h.2, List.length_cons]; omega
theorem ld_all {a : List UInt8} (h : a.all dg = true) : ld a = a.length := by simpa [ld] using ld_app h []
theorem rz_snoc (l : List UInt8) : rz (l ++ [48]) = rz l := by simp [rz]
theorem rz_last {l : List UInt8} (h : l.getLast? ≠ some 48) : rz l = l := by
  rcases List.eq_nil_or_concat l with rfl | ⟨m, c, rfl⟩
  · rfl
  · have hc : (c == 48) = false := by simpa using h
    simp [rz, hc]
theorem rz_noughts (l : List UInt8) (n : Nat) : rz (l ++ List.replicate n 48) = rz l := by
  induction n with
  | zero => simp
  | succ n ih => rw [List.replicate_succ', ← List.append_assoc, rz_snoc, ih]
theorem rz_le (l : List UInt8) : (rz l).length ≤ l.length := by
  unfold rz
  have := (List.dropWhile_sublist (p := (· == 48)) (l := l.reverse)).length_le
  simpa using this
theorem tz_last {l : List UInt8} (h : l.getLast? ≠ some 48) : tz l = 0 := by unfold tz; rw [rz_last h]; omega
theorem lz_noughts (n : Nat) (l : List UInt8) : lz (List.replicate n 48 ++ l) = lz l := by
  induction n with
  | zero => simp
  | succ n ih => rw [List.replicate_succ, List.cons_append]; unfold lz at *; rw [List.dropWhile_cons]; simp
theorem lz_hd {l : List UInt8} (h : hd (· == 48) l = false) : lz l = l := by
  cases l with
  | nil => rfl
  | cons c l => unfold lz; rw [List.dropWhile_cons]; have : (c == 48) = false := h; simp [this]
theorem lz_hd' (l : List UInt8) : hd (· == 48) (lz l) = false := by
  induction l with
  | nil => rfl
  | cons c l ih =>
    unfold lz at *
    rw [List.dropWhile_cons]
    by_cases hc : (c == 48) = true
    · rw [if_pos hc]; exact ih
    · rw [if_neg hc]; simpa [hd] using hc
theorem nrm_of_norm {d : D} (h : Norm d) : nrm d = d := by
  rcases h with rfl | ⟨h1, h2, h3, h4, h5, h6, h7⟩
  · rfl
  · obtain ⟨nar, neg, ds, e⟩ := d
    simp only at h1 h2 h3 h4 h5 h6 h7
    subst h1
    unfold nrm
    simp only [Bool.false_eq_true, if_false]
    rcases h7 with ⟨rfl, rfl, rfl⟩ | ⟨h7, h8⟩
    · rw [if_pos (by decide)]
    · rw [lz_hd h7, if_neg h3]
      have hz : min (tz ds) (mostE - e).toNat = 0 := by
        rcases h8 with h8 | h8
        · rw [tz_last h8]; omega
        · rw [h8]; omega
      rw [hz]; simp
theorem formed_of_norm {d : D} (h : Norm d) : formed d = true := by
  rcases h with rfl | ⟨h1, h2, h3, h4, h5, h6, h7⟩
  · rfl
  · unfold formed
    rw [h1]
    simp [h2, h3, h4, h5, h6]
theorem rz_split (l : List UInt8) : ∃ n, l = rz l ++ List.replicate n 48 := by
  obtain ⟨m, hm⟩ : ∃ m, m = l.length := ⟨_, rfl⟩
  induction m generalizing l with
  | zero => obtain rfl : l = [] := List.length_eq_zero_iff.1 hm.symm; exact ⟨0, rfl⟩
  | succ m ih =>
    rcases List.eq_nil_or_concat l with rfl | ⟨q, c, rfl⟩
    · exact ⟨0, rfl⟩
    · by_cases hc : c = 48
      · subst hc
        obtain ⟨n, hn⟩ := ih q (by simpa using hm)
        refine ⟨n + 1, ?_⟩
        rw [List.concat_eq_append, rz_snoc, List.replicate_succ', ← List.append_assoc, ← hn]
      · refine ⟨0, ?_⟩
        rw [rz_last (by simpa using hc)]
        simp
theorem rz_take (l : List UInt8) : rz l = l.take (rz l).length := by
  obtain ⟨n, hn⟩ := rz_split l
  conv => rhs; rw [hn, rz_noughts]
  have : rz (rz l) = rz l := by
    conv => rhs; rw [hn, rz_noughts]
  simp [this]
theorem rz_getLast (l : List UInt8) : (rz l).getLast? ≠ some 48 := by
  obtain ⟨m, hm⟩ : ∃ m, m = l.length := ⟨_, rfl⟩
  induction m generalizing l with
  | zero => obtain rfl : l = [] := List.length_eq_zero_iff.1 hm.symm; simp [rz]
  | succ m ih =>
    rcases List.eq_nil_or_concat l with rfl | ⟨q, c, rfl⟩
    · simp [rz]
    · by_cases hc : c = 48
      · subst hc
        rw [List.concat_eq_append, rz_snoc]
        exact ih q (by simpa using hm)
      · rw [rz_last (by simpa using hc)]
        simpa using hc
theorem rz_nil {l : List UInt8} (h : rz l = []) : lz l = [] := by
  obtain ⟨n, hn⟩ := rz_split l
  rw [h] at hn
  rw [hn, List.nil_append]
  have := lz_noughts n []
  rw [List.append_nil] at this
  rw [this]
  rfl
theorem rz_ne {l : List UInt8} (h : l ≠ []) (h2 : hd (· == 48) l = false) : rz l ≠ [] := fun h3 => h (by rw [← lz_hd h2]; exact rz_nil h3)
theorem hd_take {p : UInt8 → Bool} {l : List UInt8} {n : Nat} (h : 0 < n) : hd p (l.take n) = hd p l := by
  cases l with
  | nil => simp
  | cons c l => obtain ⟨m, rfl⟩ : ∃ m, n = m + 1 := ⟨n - 1, by omega⟩; rfl
theorem lz_all {l : List UInt8} {p : UInt8 → Bool} (h : l.all p = true) : (lz l).all p = true :=
  List.all_eq_true.2 fun x hx => List.all_eq_true.1 h x ((List.dropWhile_sublist _).subset hx)
theorem lz_le (l : List UInt8) : (lz l).length ≤ l.length := (List.dropWhile_sublist _).length_le
theorem norm_nrm {d : D} (h : formed d = true) : Norm (nrm d) := by
  obtain ⟨nar, neg, ds, e⟩ := d
  cases nar with
  | true =>
    simp [formed] at h
    obtain ⟨rfl, rfl, rfl⟩ := h
    exact .inl rfl
  | false =>
    unfold formed at h
    simp only [Bool.false_eq_true, if_false, Bool.and_eq_true, decide_eq_true_iff, Bool.not_eq_true', List.isEmpty_eq_false_iff] at h
    obtain ⟨h1, h2, h3, h4, h5⟩ := h
    unfold nrm
    simp only [Bool.false_eq_true, if_false]
    by_cases h0 : lz ds = []
    · rw [if_pos h0]
      exact .inr ⟨rfl, by decide, by decide, by decide, by decide, by decide, .inl ⟨rfl, rfl, rfl⟩⟩
    · rw [if_neg h0]
      have ha := lz_all h3
      have hh := lz_hd' ds
      have hl := lz_le ds
      have hr := rz_ne h0 hh
      have hrl := rz_le (lz ds)
      have hr1 : 0 < (rz (lz ds)).length := List.length_pos_iff.2 hr
      have hk : (lz ds).length - min (tz (lz ds)) (mostE - e).toNat ≥ (rz (lz ds)).length := by unfold tz; omega
      have hk2 : min (tz (lz ds)) (mostE - e).toNat ≤ (mostE - e).toNat := Nat.min_le_right _ _
      refine .inr ⟨rfl, ?_, ?_, ?_, ?_, ?_, .inr ⟨?_, ?_⟩⟩
      · exact List.all_eq_true.2 fun x hx => List.all_eq_true.1 ha x (List.mem_of_mem_take hx)
      · exact List.length_pos_iff.1 (by simp only [List.length_take]; omega)
      · simp only [List.length_take]; omega
      · simp only; omega
      · simp only; omega
      · simp only; rw [hd_take (by omega)]; exact hh
      · simp only
        by_cases hm : tz (lz ds) ≤ (mostE - e).toNat
        · left
          rw [Nat.min_eq_left hm, show (lz ds).length - tz (lz ds) = (rz (lz ds)).length by unfold tz; omega, ← rz_take]
          exact rz_getLast _
        · right
          rw [Nat.min_eq_right (by omega)]
          omega
theorem dg_ofNat {d : Nat} (h : d < 10) : dg (UInt8.ofNat (48 + d)) = true ∧ (UInt8.ofNat (48 + d)).toNat = 48 + d := by
  have e : (UInt8.ofNat (48 + d)).toNat = 48 + d := by simp; omega
  refine ⟨?_, e⟩
  unfold dg
  rw [e]
  simp only [Bool.and_eq_true, decide_eq_true_iff]
  omega
theorem decDigits_ex (u : Nat) : (Lib.decDigits u).all dg = true ∧ Lib.decDigits u ≠ [] ∧ (u ≤ far → (Lib.decDigits u).foldl ex 0 = u) := by
  induction u using Nat.strongRecOn with
  | ind u ih =>
    rw [Lib.decDigits]
    by_cases h : u < 10
    · rw [dif_pos h]
      obtain ⟨h1, h2⟩ := dg_ofNat h
      refine ⟨by rw [List.all_cons, h1]; rfl, by simp, fun hf => ?_⟩
      simp only [List.foldl_cons, List.foldl_nil, ex, h2]
      omega
    · rw [dif_neg h]
      obtain ⟨h1, h2⟩ := dg_ofNat (d := u % 10) (by omega)
      obtain ⟨i1, i2, i3⟩ := ih (u / 10) (by omega)
      refine ⟨by rw [List.all_append, i1, List.all_cons, h1]; rfl, by simp, fun hf => ?_⟩
      rw [List.foldl_append, i3 (by omega)]
      simp only [List.foldl_cons, List.foldl_nil, ex, h2]
      omega
theorem hd_dg {l : List UInt8} (h : l.all dg = true) (h0 : l ≠ []) : hd dg l = true := by
  cases l with
  | nil => exact absurd rfl h0
  | cons c l => simp only [List.all_cons, Bool.and_eq_true] at h; exact h.1
theorem hd_not {l : List UInt8} {p : UInt8 → Bool} (h : hd dg l = true) (hp : ∀ c, dg c = true → p c = false) : hd p l = false := by
  cases l with
  | nil => rfl
  | cons c l => exact hp c h
theorem tailE_itoa (r : R) (i : Nat) (E : Int) (h : E.natAbs ≤ far) (h0 : r.exp = 0) :
    ∃ q, tailE r i (Lib.itoa E) = .inr q ∧ q.neg = r.neg ∧ q.ds = r.ds ∧ q.beh = r.beh ∧ (if q.eneg = true then -(q.exp : Int) else (q.exp : Int)) = E := by
  unfold Lib.itoa tailE
  by_cases hE : E < 0
  · obtain ⟨h1, h2, h3⟩ := decDigits_ex E.natAbs
    have hl := ld_all h1
    have h4 := List.length_pos_iff.2 h2
    rw [if_pos hE]
    have e1 : hd sg (45 :: Lib.decDigits E.natAbs) = true := rfl
    have e2 : hd (· == 45) (45 :: Lib.decDigits E.natAbs) = true := rfl
    simp only [e1, e2, if_true, List.drop_succ_cons, List.drop_zero, hl, List.length_cons, List.take_length]
    rw [if_neg (by omega), if_neg (by omega)]
    refine ⟨_, rfl, rfl, rfl, rfl, ?_⟩
    simp only [if_true, h0, h3 h]
    omega
  · obtain ⟨h1, h2, h3⟩ := decDigits_ex E.toNat
    have hl := ld_all h1
    have h4 := List.length_pos_iff.2 h2
    have hh := hd_dg h1 h2
    rw [if_neg hE]
    have e1 : hd sg (Lib.decDigits E.toNat) = false := hd_not hh fun c hc => (dg_not_sg hc).1
    have e2 : hd (· == 45) (Lib.decDigits E.toNat) = false := hd_not hh fun c hc => by
      have := (dg_not_sg hc).1
      simp only [sg, Bool.or_eq_false_iff] at this
      exact this.2
    simp only [e1, e2, Bool.false_eq_true, if_false, List.drop_zero, hl, List.take_length, Nat.zero_add]
    rw [if_neg (by omega), if_neg (by omega)]
    refine ⟨_, rfl, rfl, rfl, rfl, ?_⟩
    simp only [Bool.false_eq_true, if_false, h0, h3 (by omega)]
    omega
def ptB (B : List UInt8) : List UInt8 := if B = [] then [] else 46 :: B
def expB : Option Int → List UInt8
  | none => []
  | some E => 101 :: Lib.itoa E
theorem tailD_exp (r : R) (i : Nat) (o : Option Int) (h : ∀ E, o = some E → E.natAbs ≤ far) (h0 : r.exp = 0) (h1 : r.eneg = false) :
    ∃ q, tailD r i (expB o) = .inr q ∧ q.neg = r.neg ∧ q.ds = r.ds ∧ q.beh = r.beh ∧ (if q.eneg = true then -(q.exp : Int) else (q.exp : Int)) = o.getD 0 := by
  cases o with
  | none => exact ⟨r, rfl, rfl, rfl, rfl, by rw [h1, h0]; rfl⟩
  | some E => exact tailE_itoa r (i + 1) E (h E rfl) h0
theorem hd_expB (o : Option Int) : hd dg (expB o) = false ∧ hd (· == 46) (expB o) = false := by cases o <;> exact ⟨rfl, rfl⟩
theorem begin_body (r : R) (i : Nat) (A B : List UInt8) (o : Option Int) (hA : A.all dg = true) (hA0 : A ≠ []) (hB : B.all dg = true) (h : ∀ E, o = some E → E.natAbs ≤ far)
    (r1 : r.ds = []) (r2 : r.beh = 0) (r3 : r.exp = 0) (r4 : r.eneg = false) :
    ∃ q, begin_ r i (A ++ (ptB B ++ expB o)) = .inr q ∧ q.neg = r.neg ∧ q.ds = A ++ B ∧ q.beh = B.length ∧ (if q.eneg = true then -(q.exp : Int) else (q.exp : Int)) = o.getD 0 := by
  have hx := hd_expB o
  have hlx := ld_zero hx.1
  have hp : hd dg (ptB B ++ expB o) = false := by
    unfold ptB
    split
    · exact hx.1
    · rfl
  have hl : ld (A ++ (ptB B ++ expB o)) = A.length := by rw [ld_app hA, ld_zero hp]; rfl
  have hA1 := List.length_pos_iff.2 hA0
  unfold begin_
  rw [hl, if_neg (by omega), List.take_left' rfl, List.drop_left' rfl]
  unfold tailP
  by_cases hB0 : B = []
  · subst hB0
    have : ptB [] ++ expB o = expB o := rfl
    rw [this, if_neg (by simp [hx.2])]
    obtain ⟨q, q1, q2, q3, q4, q5⟩ := tailD_exp { r with st := 3, ds := r.ds ++ A } (i + A.length) o h r3 r4
    exact ⟨q, q1, q2, by rw [q3, r1]; simp, by rw [q4]; exact r2, q5⟩
  · have e : ptB B ++ expB o = 46 :: (B ++ expB o) := by unfold ptB; rw [if_neg hB0]; rfl
    have hlb : ld (B ++ expB o) = B.length := by rw [ld_app hB, hlx]; rfl
    have hB1 := List.length_pos_iff.2 hB0
    rw [e, if_pos (show hd (· == 46) (46 :: (B ++ expB o)) = true from rfl), List.drop_succ_cons, List.drop_zero]
    simp only [hlb]
    rw [if_neg (by omega), List.take_left' rfl, List.drop_left' rfl]
    obtain ⟨q, q1, q2, q3, q4, q5⟩ := tailD_exp { r with st := 5, ds := r.ds ++ A ++ B, beh := r.beh + B.length } (i + A.length + 1 + B.length) o h r3 r4
    exact ⟨q, q1, q2, by rw [q3, r1]; simp, by rw [q4, r2]; simp, q5⟩
theorem ref_sign (neg : Bool) (l : List UInt8) (h : hd dg l = true) : ∃ r i, ref ((if neg = true then [45] else []) ++ l) = begin_ r i l ∧ r.neg = neg ∧ r.ds = [] ∧ r.beh = 0 ∧ r.exp = 0 ∧ r.eneg = false := by
  cases neg with
  | true => exact ⟨_, 1, rfl, rfl, rfl, rfl, rfl, rfl⟩
  | false =>
    refine ⟨r0, 0, ?_, rfl, rfl, rfl, rfl, rfl⟩
    show ref l = _
    unfold ref
    rw [if_neg (by simp [hd_not h fun c hc => (dg_not_sg hc).1])]
theorem scanF_body (neg : Bool) (A B : List UInt8) (o : Option Int) (hA : A.all dg = true) (hA0 : A ≠ []) (hB : B.all dg = true) (h : ∀ E, o = some E → E.natAbs ≤ far)
    (hlen : ((if neg = true then [45] else []) ++ (A ++ (ptB B ++ expB o))).length ≤ 4096) :
    scanF ((if neg = true then [45] else []) ++ (A ++ (ptB B ++ expB o))) = .ok (nrm ⟨false, neg, A ++ B, held (o.getD 0 - B.length)⟩) := by
  have hh : hd dg (A ++ (ptB B ++ expB o)) = true := by
    cases A with
    | nil => exact absurd rfl hA0
    | cons c A => simp only [List.all_cons, Bool.and_eq_true] at hA; exact hA.1
  obtain ⟨r, i, e1, e2, e3, e4, e5, e6⟩ := ref_sign neg _ hh
  obtain ⟨q, q1, q2, q3, q4, q5⟩ := begin_body r i A B o hA hA0 hB h e3 e4 e5 e6
  have h110 : hd (· == 110) ((if neg = true then [45] else []) ++ (A ++ (ptB B ++ expB o))) = false := by
    cases neg with
    | true => rfl
    | false =>
      refine hd_not hh fun c hc => ?_
      unfold dg at hc
      simp only [Bool.and_eq_true, decide_eq_true_iff] at hc
      simp only [beq_eq_false_iff_ne, ne_eq]
      rintro rfl
      simp at hc
  unfold scanF
  rw [if_neg (by omega), if_neg (by simp [h110]), scan_ref, e1, q1]
  simp only [toD, q2, e2, q3, q4, q5]
theorem noughts_all (n : Nat) : (List.replicate n (48 : UInt8)).all dg = true := by
  rw [List.all_eq_true]; intro x hx; rw [List.eq_of_mem_replicate hx]; rfl
theorem held_in {e : Int} (h1 : -mostE ≤ e) (h2 : e ≤ mostE) : held e = e := by unfold held; rw [if_neg (by omega), if_neg (by omega)]
theorem scan_text {d : D} (h : Norm d) (hl : (textN d).length ≤ 4096) : scanF (textN d) = .ok d := by
  have hn := nrm_of_norm h
  rcases h with rfl | ⟨h1, h2, h3, h4, h5, h6, h7⟩
  · rfl
  · obtain ⟨nar, neg, ds, e⟩ := d
    simp only at h1 h2 h3 h4 h5 h6 h7
    subst h1
    have hpos := List.length_pos_iff.2 h3
    have hm : mostE = 1000000 := rfl
    unfold textN at hl ⊢
    simp only [Bool.false_eq_true, if_false] at hl ⊢
    by_cases c1 : 0 ≤ e ∧ (ds.length : Int) + e ≤ 21
    · rw [if_pos c1] at hl ⊢
      have key := scanF_body neg (ds ++ List.replicate e.toNat 48) [] none (by rw [List.all_append, h2, noughts_all]; rfl) (by simp [h3]) rfl (by simp) (by simpa [ptB, expB] using hl)
      have e1 : ds ++ List.replicate e.toNat 48 ++ (ptB [] ++ expB none) = ds ++ List.replicate e.toNat 48 := by simp [ptB, expB]
      rw [e1] at key
      rw [key]
      congr 1
      have hh : held ((none : Option Int).getD 0 - (([] : List UInt8).length : Int)) = 0 := by decide
      rw [hh, List.append_nil]
      rcases h7 with ⟨rfl, rfl, rfl⟩ | ⟨h7, h8⟩
      · decide
      · have hlz : lz (ds ++ List.replicate e.toNat 48) = ds ++ List.replicate e.toNat 48 := by
          apply lz_hd
          cases ds with
          | nil => exact absurd rfl h3
          | cons c ds => exact h7
        have h9 : ds.getLast? ≠ some 48 := by rcases h8 with h8 | h8 <;> first | exact h8 | omega
        have htz : tz (ds ++ List.replicate e.toNat 48) = e.toNat := by unfold tz; rw [rz_noughts, rz_last h9]; simp
        unfold nrm
        simp only [Bool.false_eq_true, if_false, hlz]
        rw [if_neg (by simp [h3]), htz]
        have hk : min e.toNat (mostE - 0).toNat = e.toNat := by omega
        rw [hk]
        congr 1
        · simp
        · omega
    · rw [if_neg c1] at hl ⊢
      have hne : ¬ (neg = false ∧ ds = [48] ∧ e = 0) := by rintro ⟨_, rfl, rfl⟩; exact c1 (by decide)
      by_cases c2 : 1 ≤ (ds.length : Int) + e ∧ (ds.length : Int) + e ≤ 21
      · rw [if_pos c2] at hl ⊢
        have hd1 : ds.drop ((ds.length : Int) + e).toNat ≠ [] := by rw [ne_eq, List.drop_eq_nil_iff]; omega
        have hall : ∀ x ∈ ds, dg x = true := List.all_eq_true.1 h2
        have e1 : ds.take ((ds.length : Int) + e).toNat ++ (ptB (ds.drop ((ds.length : Int) + e).toNat) ++ expB none) = ds.take ((ds.length : Int) + e).toNat ++ [46] ++ ds.drop ((ds.length : Int) + e).toNat := by
          unfold ptB
          rw [if_neg hd1]
          simp [expB]
        have key := scanF_body neg (ds.take ((ds.length : Int) + e).toNat) (ds.drop ((ds.length : Int) + e).toNat) none
          (List.all_eq_true.2 fun x hx => hall x (List.mem_of_mem_take hx)) (List.length_pos_iff.1 (by simp only [List.length_take]; omega)) (List.all_eq_true.2 fun x hx => hall x (List.mem_of_mem_drop hx)) (by simp)
          (by rw [e1]; exact hl)
        rw [e1] at key
        rw [key, List.take_append_drop]
        congr 1
        have hx : held ((none : Option Int).getD 0 - ((ds.drop ((ds.length : Int) + e).toNat).length : Int)) = e := by
          refine Eq.trans ?_ (held_in h5 h6); congr 1; simp only [List.length_drop, Option.getD_none]; omega
        rw [hx]
        exact hn
      · rw [if_neg c2] at hl ⊢
        by_cases c3 : -5 ≤ (ds.length : Int) + e ∧ (ds.length : Int) + e ≤ 0
        · rw [if_pos c3] at hl ⊢
          have hB0 : List.replicate (-((ds.length : Int) + e)).toNat (48 : UInt8) ++ ds ≠ [] := by simp [h3]
          have e1 : [48] ++ (ptB (List.replicate (-((ds.length : Int) + e)).toNat 48 ++ ds) ++ expB none) = [48, 46] ++ List.replicate (-((ds.length : Int) + e)).toNat 48 ++ ds := by
            unfold ptB; rw [if_neg hB0]; simp [expB]
          have key := scanF_body neg [48] (List.replicate (-((ds.length : Int) + e)).toNat 48 ++ ds) none rfl (by simp) (by rw [List.all_append, noughts_all, h2]; rfl) (by simp) (by rw [e1]; exact hl)
          rw [e1] at key
          rw [key]
          congr 1
          have hx : held ((none : Option Int).getD 0 - ((List.replicate (-((ds.length : Int) + e)).toNat (48 : UInt8) ++ ds).length : Int)) = e := by
            refine Eq.trans ?_ (held_in h5 h6); congr 1; simp only [List.length_append, List.length_replicate, Option.getD_none]; omega
          rw [hx]
          refine Eq.trans ?_ hn
          have hlz : lz ([48] ++ (List.replicate (-((ds.length : Int) + e)).toNat (48 : UInt8) ++ ds)) = lz ds := by
            have := lz_noughts ((-((ds.length : Int) + e)).toNat + 1) ds
            rw [List.replicate_succ] at this
            simpa using this
          unfold nrm
          simp only [hlz, Bool.false_eq_true, if_false]
        · rw [if_neg c3] at hl ⊢
          have hall : ∀ x ∈ ds, dg x = true := List.all_eq_true.1 h2
          have e1 : ds.take 1 ++ (ptB (ds.drop 1) ++ expB (some ((ds.length : Int) + e - 1))) = ds.take 1 ++ (if 1 < ds.length then [46] ++ ds.drop 1 else []) ++ [101] ++ Lib.itoa ((ds.length : Int) + e - 1) := by
            unfold ptB
            by_cases hd1 : 1 < ds.length
            · rw [if_neg (by rw [List.drop_eq_nil_iff]; omega), if_pos hd1]; simp [expB]
            · rw [if_pos (by rw [List.drop_eq_nil_iff]; omega), if_neg hd1]; simp [expB]
          have key := scanF_body neg (ds.take 1) (ds.drop 1) (some ((ds.length : Int) + e - 1)) (List.all_eq_true.2 fun x hx => hall x (List.mem_of_mem_take hx)) (List.length_pos_iff.1 (by simp only [List.length_take]; omega))
            (List.all_eq_true.2 fun x hx => hall x (List.mem_of_mem_drop hx)) (by intro E hE; cases hE; unfold far; omega) (by rw [e1]; exact hl)
          rw [e1] at key
          rw [key, List.take_append_drop]
          congr 1
          have hx : held ((some ((ds.length : Int) + e - 1)).getD 0 - ((ds.drop 1).length : Int)) = e := by
            refine Eq.trans ?_ (held_in h5 h6); congr 1; simp only [List.length_drop, Option.getD_some]; omega
          rw [hx]
          exact hn
end Go.Proofs.YthhkmpicpihjlaaDoor.SC
