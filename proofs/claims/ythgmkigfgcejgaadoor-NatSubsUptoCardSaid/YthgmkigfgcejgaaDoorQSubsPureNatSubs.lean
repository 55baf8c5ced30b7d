/- NatSubs in plain Lean: the difference of any two numbers is the reference's. -/
import Derived.Test.YthgmkigfgcejgaaDoorQSubsNF
import Derived.Test.YthgmkigfgcejgaaDoorQSubsPNatx9
import Derived.Test.YthgmkigfgcejgaaDoorQSubsR
set_option linter.unusedVariables false
namespace Go.Proofs.YthgmkigfgcejgaaDoor.Pure
open Go.RowKit Go.Proofs.YthgmkigfgcejgaaDoor.PNat
open Go.RowKit Go.Proofs.YthgmkigfgcejgaaDoorW.PrintWords Go.Proofs.YthgmkigfgcejgaaDoorW.PrintLast Go.Proofs.YthgmkigfgcejgaaDoorW.PrintMore Go.Proofs.YthgmkigfgcejgaaDoor.M Go.Proofs.YthgmkigfgcejgaaDoor.NM
theorem NatSubs (a : List Int) (ha : a.length ≤ 1048576) (wa : ∀ y ∈ a, (Lit.int .u64 y).wf = true) (b : List Int) (hb : b.length ≤ 1048576) (wb : ∀ y ∈ b, (Lit.int .u64 y).wf = true) : ∃ k, vernierlaw04_NatSubs.f k a b = some true := by
  have da := BDig wa
  have db := BDig wb
  have hA := val_nonneg Bpos da
  have hC := val_nonneg Bpos db
  have lA := pval_lt Bpos da
  have lC := pval_lt Bpos db
  have nA := penc_len D1 (Int.lt_of_lt_of_le lA (pwB_le _))
  have nC := penc_len D1 (Int.lt_of_lt_of_le lC (pwB_le _))
  have : Ev (fun k => vernierlaw04_NatSubs.f k a b) true := by
    refine Ev.congr (fun k => rfl) (Ev.bind shown_ev (Ev.bind (rMeant_ev da (by omega)) (Ev.bind (rMeant_ev db (by omega)) (Ev.bind (nSub_ev da db (by omega) (by omega)) (Ev.bind (rCmp_ev hA hC (by omega)) ?_)))))
    by_cases h : val B a < val B b
    · simp only [if_pos h, if_pos (cmpI_neg.2 h)]
      exact Ev.now _
    · simp only [if_neg h, if_neg (fun e => h (cmpI_neg.1 e))]
      refine Ev.bind (rSub_ev hA hC (by omega) (by omega)) (Ev.bind (is_ev _ ?_ (by omega) (d := a.length) (by omega) (by omega)) ?_)
      · exact Nat.le_trans (penc_len B1 (m := a.length) (by omega)) (by omega)
      · simp
        exact Ev.now _
  obtain ⟨k, hk⟩ := this
  exact ⟨k, hk k (Nat.le_refl k)⟩
end Go.Proofs.YthgmkigfgcejgaaDoor.Pure
