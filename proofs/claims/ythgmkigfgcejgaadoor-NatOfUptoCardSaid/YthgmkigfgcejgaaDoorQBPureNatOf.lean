/- NatOf in plain Lean: Of, Bits and Cmp of any numbers are the reference's. -/
import Derived.Test.YthgmkigfgcejgaaDoorQBNG
import Derived.Test.YthgmkigfgcejgaaDoorQBR
set_option linter.unusedVariables false
namespace Go.Proofs.YthgmkigfgcejgaaDoor.Pure
open Go.RowKit Go.Proofs.YthgmkigfgcejgaaDoor.PNat
open Go.RowKit Go.Proofs.YthgmkigfgcejgaaDoorW.PrintWords Go.Proofs.YthgmkigfgcejgaaDoorW.PrintLast Go.Proofs.YthgmkigfgcejgaaDoorW.PrintMore Go.Proofs.YthgmkigfgcejgaaDoor.M Go.Proofs.YthgmkigfgcejgaaDoor.NM
theorem NatOf (v : Int) (wv : (Lit.int .u64 v).wf = true) (a : List Int) (ha : a.length ≤ 1048576) (wa : ∀ y ∈ a, (Lit.int .u64 y).wf = true) (b : List Int) (hb : b.length ≤ 1048576) (wb : ∀ y ∈ b, (Lit.int .u64 y).wf = true) : ∃ k, vernierlaw04_NatOf.f k v a b = some true := by
  have da := BDig wa
  have db := BDig wb
  have dv : 0 ≤ v ∧ v < B := BDig (l := [v]) (fun y hy => by rw [List.mem_singleton.1 hy]; exact wv) v (List.mem_singleton.2 rfl)
  have hA := val_nonneg Bpos da
  have hC := val_nonneg Bpos db
  have lA := pval_lt Bpos da
  have lC := pval_lt Bpos db
  have nA := penc_len D1 (Int.lt_of_lt_of_le lA (pwB_le _))
  have nC := penc_len D1 (Int.lt_of_lt_of_le lC (pwB_le _))
  have e1 : v < pw B 1 := by rw [pw_one]; exact dv.2
  have : Ev (fun k => vernierlaw04_NatOf.f k v a b) true := by
    refine Ev.congr (fun k => rfl) (Ev.bind shown_ev (Ev.bind (nOf_ev dv.1 dv.2) (Ev.bind (rMeant_ev da (by omega)) (Ev.bind (rMeant_ev db (by omega)) (Ev.bind (rOf_ev dv.1 dv.2) (Ev.bind (is_ev _ (Nat.le_trans (penc_len B1 e1) (by omega)) dv.1 e1 (by omega)) (Ev.bind (nBits_ev da (by omega)) (Ev.bind (nCmp_ev da db (by omega) (by omega)) (Ev.bind (nCmp_ev da da (by omega) (by omega)) ?_)))))))))
    simp only [decide_true, if_true]
    refine Ev.bind (rBits_ev hA (by omega)) ?_
    simp only [if_true]
    refine Ev.bind (rCmp_ev hA hC (by omega)) ?_
    simp only [if_true, cmpI_eq]
    exact Ev.now _
  obtain ⟨k, hk⟩ := this
  exact ⟨k, hk k (Nat.le_refl k)⟩
end Go.Proofs.YthgmkigfgcejgaaDoor.Pure
