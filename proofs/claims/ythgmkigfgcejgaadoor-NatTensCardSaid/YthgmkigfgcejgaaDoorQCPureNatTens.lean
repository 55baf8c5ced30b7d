/- NatTens in plain Lean: the powers of ten are the reference's. -/
import Derived.Test.YthgmkigfgcejgaaDoorQCNG
import Derived.Test.YthgmkigfgcejgaaDoorQCR
set_option linter.unusedVariables false
namespace Go.Proofs.YthgmkigfgcejgaaDoor.Pure
open Go.RowKit Go.Proofs.YthgmkigfgcejgaaDoor.PNat Go.Proofs.YthgmkigfgcejgaaDoorW.PrintWords Go.Proofs.YthgmkigfgcejgaaDoorW.PrintLast
open Go.RowKit Go.Proofs.YthgmkigfgcejgaaDoorW.PrintWords Go.Proofs.YthgmkigfgcejgaaDoorW.PrintLast Go.Proofs.YthgmkigfgcejgaaDoorW.PrintMore Go.Proofs.YthgmkigfgcejgaaDoor.M Go.Proofs.YthgmkigfgcejgaaDoor.NM
theorem NatTens (a : Int) (wa : (Lit.int .i64 a).wf = true) : ∃ k, vernierlaw04_NatTens.f k a = some true := by
  have : Ev (fun k => vernierlaw04_NatTens.f k a) true := by
    refine Ev.congr (fun k => rfl) (Ev.bind shown_ev ?_)
    by_cases h0 : a < 0
    · refine Ev.bind (Ev.congr (f := fun _ => some (([] : List Int), some 1)) (fun k => by unfold nat_Ten.f; rw [if_pos h0]) (Ev.now _)) ?_
      simp only [if_pos h0]
      exact Ev.now _
    · by_cases h1 : a > 16384
      · refine Ev.bind (Ev.congr (f := fun _ => some (([] : List Int), some 3)) (fun k => by unfold nat_Ten.f; rw [if_neg h0, if_pos h1]) (Ev.now _)) ?_
        simp only [if_neg h0, if_pos h1]
        exact Ev.now _
      · obtain ⟨n, rfl⟩ := Int.eq_ofNat_of_zero_le (show 0 ≤ a by omega)
        refine Ev.bind (nTen_ev n (by omega)) ?_
        simp only [if_neg h0, if_neg h1]
        refine Ev.bind (rTen_ev n (by omega)) (Ev.bind (is_ev _ ?_ (Int.le_of_lt (pw10_pos n)) (pw10_ltB n) (by omega)) ?_)
        · exact Nat.le_trans (penc_len B1 (pw10_ltB n)) (by omega)
        · simp
          exact Ev.now _
  obtain ⟨k, hk⟩ := this
  exact ⟨k, hk k (Nat.le_refl k)⟩
end Go.Proofs.YthgmkigfgcejgaaDoor.Pure
