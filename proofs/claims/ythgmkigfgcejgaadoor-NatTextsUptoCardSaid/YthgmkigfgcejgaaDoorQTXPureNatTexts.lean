/- NatTexts in plain Lean: the text of any number is the reference's. -/
import Derived.Test.YthgmkigfgcejgaaDoorQTXNL
import Derived.Test.YthgmkigfgcejgaaDoorQTXPNatx18
import Derived.Test.YthgmkigfgcejgaaDoorQTXR
set_option linter.unusedVariables false
namespace Go.Proofs.YthgmkigfgcejgaaDoor.Pure
open Go.RowKit Go.Proofs.YthgmkigfgcejgaaDoor.PNat
open Go.RowKit Go.Proofs.YthgmkigfgcejgaaDoorW.PrintWords Go.Proofs.YthgmkigfgcejgaaDoorW.PrintLast Go.Proofs.YthgmkigfgcejgaaDoorW.PrintMore Go.Proofs.YthgmkigfgcejgaaDoor.M Go.Proofs.YthgmkigfgcejgaaDoor.NM
theorem NatTexts (a : List Int) (ha : a.length ≤ 1048576) (wa : ∀ y ∈ a, (Lit.int .u64 y).wf = true) : ∃ k, vernierlaw04_NatTexts.f k a = some true := by
  have da := BDig wa
  have hA := val_nonneg Bpos da
  have lA := pval_lt Bpos da
  have nA := penc_len D1 (Int.lt_of_lt_of_le lA (pwB_le _))
  have : Ev (fun k => vernierlaw04_NatTexts.f k a) true := by
    refine Ev.congr (fun k => rfl) (Ev.bind shown_ev (Ev.bind (nText_ev da (by omega)) ?_))
    refine Ev.congr (fun k => by rw [if_pos rfl]) (Ev.bind (rMeant_ev da (by omega)) (Ev.bind (rText_ev hA lA ha (by omega)) ?_))
    simp
    exact Ev.now _
  obtain ⟨k, hk⟩ := this
  exact ⟨k, hk k (Nat.le_refl k)⟩
end Go.Proofs.YthgmkigfgcejgaaDoor.Pure
