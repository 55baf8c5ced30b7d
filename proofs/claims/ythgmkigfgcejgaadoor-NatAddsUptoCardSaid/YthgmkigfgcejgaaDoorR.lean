/- Words for the rows of this seat: what an argument's datum gives a walk (its list, its size), for slices of whole numbers, slices of such slices, strings. -/
import Derived.Test.YthgmkigfgcejgaaDoorRows
import Derived.Test.YthgmkigfgcejgaaDoorWMore
import Derived.Deep.Matrix
import Derived.WalkKit
import Derived.ProofKit
import Derived.OpenShut
namespace Go.Proofs.YthgmkigfgcejgaaDoor.R
open Go.ChangeShapes Go.WideShapes Go.ChangeAt Go.RowKit Go.Proofs.YthgmkigfgcejgaaDoorW.PrintWords Go.Proofs.YthgmkigfgcejgaaDoor
open Go.ChangeMaps (open_string shut_string)

theorem one_le {H : Type} (d : DataW H) : 1 ≤ Rows.uptoBulk d := by
  cases d with
  | lit l => cases l <;> simp [Rows.uptoBulk]
  | nil => simp [Rows.uptoBulk]
  | ptr d => simp [Rows.uptoBulk]
  | slice elems spare => simp [Rows.uptoBulk]
  | agg parts => simp [Rows.uptoBulk]
  | iface t d => simp [Rows.uptoBulk]
  | map entries => simp [Rows.uptoBulk]
  | held h => simp [Rows.uptoBulk]
theorem part_le {H : Type} {d : DataW H} {l : List (DataW H)} (h : d ∈ l) : Rows.uptoBulk d ≤ Rows.uptoBulkAll l := by
  induction l with
  | nil => cases h
  | cons x r ih =>
    simp only [Rows.uptoBulkAll]
    cases List.mem_cons.1 h with
    | inl e => subst e; omega
    | inr e => have := ih e; omega
theorem length_le {H : Type} (l : List (DataW H)) : l.length ≤ Rows.uptoBulkAll l := by
  induction l with
  | nil => simp [Rows.uptoBulkAll]
  | cons x r ih => have := one_le x; simp only [Rows.uptoBulkAll, List.length_cons]; omega
theorem lits_bulk {H : Type} (k : IntKind) (zs : List Int) : Rows.uptoBulkAll (lits k zs : List (DataW H)) = zs.length := by
  induction zs with
  | nil => simp [lits, Rows.uptoBulkAll]
  | cons x r ih => simp only [lits, List.map_cons, Rows.uptoBulkAll, List.length_cons] at ih ⊢; rw [ih]; simp [Rows.uptoBulk]; omega
theorem bound {H : Type} {l : List (DataW H)} (hk : Rows.uptoSmall H l = true) : Rows.uptoBulkAll l ≤ 1048576 := by
  unfold Rows.uptoSmall at hk
  exact of_decide_eq_true hk

/-- Elements of a row, each of one cell. -/
theorem int_row {w : World} {k : IntKind} {A : Option Addr} {zs : List Int} {n : Nat} (hn : n ≤ zs.length) (hm : zs.length ≤ maxLen) (h : 0 < n → ∃ ad, A = some ad ∧ ∀ i, i < zs.length → w.cell? (ad.add i) = some (.int k (zs.getD i 0))) :
    (Kd.int k).C w A (zs.take n).length (zs.take n) := by
  have hl : (zs.take n).length = n := by rw [List.length_take]; omega
  refine Kd.C_of_reads (d := (0 : Int)) (h1 := fun _ => rfl) ⟨rfl, by unfold maxLen at hm; omega, fun hp => ?_⟩
  rw [hl] at hp
  obtain ⟨ad, e, hc⟩ := h hp
  refine ⟨ad, e, fun j hj => ?_⟩
  rw [hl] at hj
  rw [hc j (by omega)]
  simp [List.getD_eq_getElem?_getD, hj]

/-- A slice of whole numbers that came in. -/
theorem ints_arg {H : Type} {enc : TypeId × Value → H} {P : Program} {W : World} {base : Nat} {held : Bool} {t e : TypeId} {k : IntKind} {a : Option Addr} {len cap : Nat} {d : DataW H} {ps : List MemPlace}
    (hu : P.underlying t = some (.slice e)) (he : P.underlying e = some (.int k)) (hc : P.cellsOf e = 1) (h : DataW.Trod enc P W base (fun _ => true) held t (.slice a len cap) d ps) :
    ∃ l : List Int, len = l.length ∧ (Kd.int k).C W a l.length l ∧ l.length ≤ cap ∧ l.length ≤ Rows.uptoBulk d ∧ ∀ x ∈ l, (Lit.int k x).wf = true := by
  obtain ⟨fuel, hf⟩ := h
  rcases open_ints hu he hc hf with ⟨hcs, hx⟩ | ⟨x, l, c, zs, hcs, _, hl, hm, hz, hx, hcell, hwz⟩
  · simp [Value.cells] at hcs
    obtain ⟨rfl, rfl, rfl⟩ := hcs
    exact ⟨[], rfl, Kd.C_nil _ _, Nat.le_refl _, by simp, by simp⟩
  · simp [Value.cells] at hcs
    obtain ⟨rfl, rfl, rfl⟩ := hcs
    simp only [if_true] at hz
    injection hx with hx _
    have hl2 : (zs.take len).length = len := by rw [List.length_take]; omega
    refine ⟨zs.take len, hl2.symm, ?_, by omega, ?_, fun y hy => hwz y (List.mem_of_mem_take hy)⟩
    · exact int_row (by omega) (by omega) (fun _ => ⟨_, rfl, hcell⟩)
    · rw [hx]; simp only [Rows.uptoBulk, lits_bulk]; omega

def bulk2 (l : List (List Int)) : Nat := l.length + (l.map List.length).sum
theorem rows_bulk {H : Type} (k : IntKind) (A : Nat → Option Addr) (L : Nat → Nat) (Z : Nat → List Int) (n : Nat) (hz : ∀ r, r < n → L r ≤ (Z r).length ∧ (A r = none → L r = 0)) :
    bulk2 ((List.range n).map fun r => (Z r).take (L r)) ≤ Rows.uptoBulkAll ((List.range n).map fun r => (Go.Deep.intRow k (A r) (L r) (Z r) : DataW H)) := by
  have key : ∀ rs : List Nat, (∀ r ∈ rs, r < n) → bulk2 (rs.map fun r => (Z r).take (L r)) ≤ Rows.uptoBulkAll (rs.map fun r => (Go.Deep.intRow k (A r) (L r) (Z r) : DataW H)) := by
    intro rs
    induction rs with
    | nil => simp [bulk2, Rows.uptoBulkAll]
    | cons r rs ih =>
      intro hr
      have h1 := ih (fun q hq => hr q (List.mem_cons_of_mem _ hq))
      obtain ⟨h2, h3⟩ := hz r (hr r List.mem_cons_self)
      simp only [bulk2, List.map_cons, List.length_cons, List.sum_cons, Rows.uptoBulkAll, List.length_map] at h1 ⊢
      have h4 : ((Z r).take (L r)).length + 1 ≤ Rows.uptoBulk (Go.Deep.intRow k (A r) (L r) (Z r) : DataW H) := by
        unfold Go.Deep.intRow
        cases hA : A r with
        | none => have := h3 hA; simp [Rows.uptoBulk, this]
        | some a => simp only [Rows.uptoBulk, lits_bulk]; omega
      omega
  exact key _ (fun r hr => List.mem_range.1 hr)

/-- A slice of slices of whole numbers that came in. -/
theorem rows_arg {H : Type} {enc : TypeId × Value → H} {P : Program} {W : World} {base : Nat} {held : Bool} {t e q : TypeId} {k : IntKind} {a : Option Addr} {len cap : Nat} {d : DataW H} {ps : List MemPlace}
    (hu : P.underlying t = some (.slice e)) (he : P.underlying e = some (.slice q)) (hq : P.underlying q = some (.int k)) (ce : P.cellsOf e = 1) (cq : P.cellsOf q = 1) (h : DataW.Trod enc P W base (fun _ => true) held t (.slice a len cap) d ps) :
    ∃ l : List (List Int), len = l.length ∧ (Kd.slice q (Kd.int k)).C W a l.length l ∧ l.length ≤ cap ∧ bulk2 l ≤ Rows.uptoBulk d ∧ ∀ x ∈ l, ∀ y ∈ x, (Lit.int k y).wf = true := by
  obtain ⟨fuel, hf⟩ := h
  rcases Go.Deep.open_int_rows hu he hq ce cq hf with ⟨hcs, hx⟩ | ⟨x, l, c, A, L, C, Z, hcs, _, hl, hm, hx, hr⟩
  · simp [Value.cells] at hcs
    obtain ⟨rfl, rfl, rfl⟩ := hcs
    exact ⟨[], rfl, Kd.C_nil _ _, Nat.le_refl _, by simp [bulk2], by simp⟩
  · simp [Value.cells] at hcs
    obtain ⟨rfl, rfl, rfl⟩ := hcs
    injection hx with hx _
    refine ⟨(List.range len).map fun r => (Z r).take (L r), by simp, ?_, by simpa using hl, ?_, ?_⟩
    · refine ⟨by simp, by unfold maxLen at hm; simp; omega, fun _ => ⟨_, rfl, fun j p hj => ?_⟩⟩
      obtain ⟨hj1, hj2⟩ := List.getElem?_eq_some_iff.1 hj
      have hlt : j < len := by simpa using hj1
      obtain ⟨h1, h2, h3, h4, h5, h6, h7⟩ := hr j (by omega)
      have hp : p = (Z j).take (L j) := by simpa using hj2.symm
      subst hp
      have hL : ((Z j).take (L j)).length = L j := by rw [List.length_take]; omega
      refine ⟨[.slice (A j) (L j) (C j)], rfl, ⟨A j, C j, by rw [hL], by omega, ?_⟩, fun i u hu => ?_⟩
      · refine int_row (by omega) (by omega) (fun hp => ?_)
        cases hA : A j with
        | none => have := h6 hA; omega
        | some a' => exact ⟨a', rfl, fun i hi => (h7 a' hA).2 i (by omega)⟩
      · cases i with
        | zero => simp at hu; subst hu; simpa [show (Kd.slice q (Kd.int k)).sz = 1 from rfl] using h1
        | succ i => simp at hu
    · rw [hx]
      have := rows_bulk (H := H) k A L Z len (fun r hrl => by
        obtain ⟨h1, h2, h3, h4, h5, h6, h7⟩ := hr r (by omega)
        exact ⟨by omega, fun e => by have := h6 e; omega⟩)
      simp only [Rows.uptoBulk]
      omega
    · intro y hy z hz
      obtain ⟨r, hr1, rfl⟩ := List.mem_map.1 hy
      have hrl : r < len := List.mem_range.1 hr1
      obtain ⟨h1, h2, h3, h4, h5, h6, h7⟩ := hr r (by omega)
      exact h5 z (List.mem_of_mem_take hz)
end Go.Proofs.YthgmkigfgcejgaaDoor.R
