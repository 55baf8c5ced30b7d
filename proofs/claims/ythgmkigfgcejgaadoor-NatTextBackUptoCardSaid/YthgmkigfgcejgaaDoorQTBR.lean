/- Words for the rows of this seat: what an argument's datum gives a walk (its list, its size), for slices of whole numbers, slices of such slices, strings. -/
import Derived.Test.YthgmkigfgcejgaaDoorRows
import Derived.Test.YthgmkigfgcejgaaDoorQTBWMore
import Derived.Deep.Matrix
import Derived.WalkKit
import Derived.ProofKit
import Derived.OpenShut
namespace Go.Proofs.YthgmkigfgcejgaaDoor.R
open Go.ChangeShapes Go.WideShapes Go.ChangeAt Go.RowKit Go.Proofs.YthgmkigfgcejgaaDoorW.PrintWords Go.Proofs.YthgmkigfgcejgaaDoor
open Go.ChangeMaps (open_string shut_string)
theorem lits_bulk {H : Type} (k : IntKind) (zs : List Int) : Rows.uptoBulkAll (lits k zs : List (DataW H)) = zs.length := by
  induction zs with
  | nil => simp [lits, Rows.uptoBulkAll]
  | cons x r ih => simp only [lits, List.map_cons, Rows.uptoBulkAll, List.length_cons] at ih ⊢; rw [ih]; simp [Rows.uptoBulk]; omega
theorem bound {H : Type} {l : List (DataW H)} (hk : Rows.uptoSmall H l = true) : Rows.uptoBulkAll l ≤ 1048576 := by
  unfold Rows.uptoSmall at hk
  exact of_decide_eq_true hk
theorem int_row {w : World} {k : IntKind} {A : Option Addr} {zs : List Int} {n : Nat} (hn : n ≤ zs.length) (hm : zs.length ≤ maxLen) (h : 0 < n → ∃ ad, A = some ad ∧ ∀ i, i < zs.length → w.cell? (ad.add i) = some (.int k (zs.getD i 0))) :
    (Kd.int k).C w A (zs.take n).length (zs.take n) := by
  have hl : (zs.take n).length = n := by rw [List.length_take]; omega
  refine Kd.C_of_reads (d := (0 : Int)) (h1 := fun _ => rfl) ⟨rfl, by unfold maxLen at hm; omega, fun hp => ?_⟩
  rw [hl] at hp
  obtain ⟨ad, e, hc⟩ := h hp
  refine ⟨ad, e, fun j hj => ?_⟩
  rw [hl] at hj
  rw [hc j (by omega)]
  simp [List.getD_eq_getElem?_getD, hj]
theorem ints_arg {H : Type} {enc : TypeId × Value → H} {P : Program} {W : World} {base : Nat} {held : Bool} {t e : TypeId} {k : IntKind} {a : Option Addr} {len cap : Nat} {d : DataW H} {ps : List MemPlace}
    (hu : P.underlying t = some (.slice e)) (he : P.underlying e = some (.int k)) (hc : P.cellsOf e = 1) (h : DataW.Trod enc P W base (fun _ => true) held t (.slice a len cap) d ps) :
    ∃ l : List Int, len = l.length ∧ (Kd.int k).C W a l.length l ∧ l.length ≤ cap ∧ l.length ≤ Rows.uptoBulk d ∧ ∀ x ∈ l, (Lit.int k x).wf = true := by
  obtain ⟨fuel, hf⟩ := h
  rcases open_ints hu he hc hf with ⟨hcs, hx⟩ | ⟨x, l, c, zs, hcs, _, hl, hm, hz, hx, hcell, hwz⟩
  · simp [Value.cells] at hcs
    obtain ⟨rfl, rfl, rfl⟩ := hcs
    exact ⟨[], rfl, Kd.C_nil _ _, Nat.le_refl _, by simp, by simp⟩
  · simp [Value.cells] at hcs
    obtain ⟨rfl, rfl, rfl⟩ := hcs
    simp only [if_true] at hz
    injection hx with hx _
    have hl2 : (zs.take len).length = len := by rw [List.length_take]; omega
    refine ⟨zs.take len, hl2.symm, ?_, by omega, ?_, fun y hy => hwz y (List.mem_of_mem_take hy)⟩
    · exact int_row (by omega) (by omega) (fun _ => ⟨_, rfl, hcell⟩)
    · rw [hx]; simp only [Rows.uptoBulk, lits_bulk]; omega
end Go.Proofs.YthgmkigfgcejgaaDoor.R
