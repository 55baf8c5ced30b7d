/- NatDivs in plain Lean: quotient and rest of any two numbers are the reference's. -/
import Derived.Test.YthgmkigfgcejgaaDoorQDVNK
import Derived.Test.YthgmkigfgcejgaaDoorQDVPNatx11
import Derived.Test.YthgmkigfgcejgaaDoorQDVR
set_option linter.unusedVariables false
namespace Go.Proofs.YthgmkigfgcejgaaDoor.Pure
open Go.RowKit Go.Proofs.YthgmkigfgcejgaaDoor.PNat Go.Proofs.YthgmkigfgcejgaaDoorW.PrintWords Go.Proofs.YthgmkigfgcejgaaDoorW.PrintLast
open Go.RowKit Go.Proofs.YthgmkigfgcejgaaDoorW.PrintWords Go.Proofs.YthgmkigfgcejgaaDoorW.PrintLast Go.Proofs.YthgmkigfgcejgaaDoorW.PrintMore Go.Proofs.YthgmkigfgcejgaaDoor.M Go.Proofs.YthgmkigfgcejgaaDoor.NM
theorem NatDivs (a : List Int) (ha : a.length ≤ 1048576) (wa : ∀ y ∈ a, (Lit.int .u64 y).wf = true) (b : List Int) (hb : b.length ≤ 1048576) (wb : ∀ y ∈ b, (Lit.int .u64 y).wf = true) : ∃ k, vernierlaw04_NatDivs.f k a b = some true := by
  have da := BDig wa
  have db := BDig wb
  have hA := val_nonneg Bpos da
  have hC := val_nonneg Bpos db
  have lA := pval_lt Bpos da
  have lC := pval_lt Bpos db
  have nA := penc_len D1 (Int.lt_of_lt_of_le lA (pwB_le _))
  have nC := penc_len D1 (Int.lt_of_lt_of_le lC (pwB_le _))
  have : Ev (fun k => vernierlaw04_NatDivs.f k a b) true := by
    by_cases h : 0 < val B b
    · have hl := (enc_lt D1 hC 0).2 (by rw [div_pw_zero]; exact h)
      have q0 : 0 ≤ val B a / val B b := Int.ediv_nonneg hA hC
      have q1 : val B a / val B b ≤ val B a := Int.ediv_le_self _ hA
      have r0 := Int.emod_nonneg (val B a) (show val B b ≠ 0 by omega)
      have r1 := Int.emod_lt_of_pos (val B a) h
      refine Ev.congr (fun k => rfl) (Ev.bind shown_ev (Ev.bind (rMeant_ev da (by omega)) (Ev.bind (rMeant_ev db (by omega)) (Ev.bind (nDiv_ev da db (by omega) (by omega) h) ?_))))
      refine Ev.congr (fun k => by rw [if_neg (by omega)]) (Ev.bind (rDivMod_ev hA h (by omega) (by omega)) (Ev.bind (is_ev _ ?_ q0 (d := a.length) (by omega) (by omega)) (Ev.bind (is_ev _ ?_ r0 (d := b.length) (by omega) (by omega)) ?_)))
      · exact Nat.le_trans (penc_len B1 (m := a.length) (by omega)) (by omega)
      · exact Nat.le_trans (penc_len B1 (m := b.length) (by omega)) (by omega)
      · simp
        exact Ev.now _
    · have h0 : val B b = 0 := by omega
      refine Ev.congr (fun k => rfl) (Ev.bind shown_ev (Ev.bind (rMeant_ev da (by omega)) (Ev.bind (rMeant_ev db (by omega)) (Ev.bind (nDiv_zero da db (by omega) (by omega) h0) ?_))))
      rw [h0, enc_zero]
      simp
      exact Ev.now _
  obtain ⟨k, hk⟩ := this
  exact ⟨k, hk k (Nat.le_refl k)⟩
end Go.Proofs.YthgmkigfgcejgaaDoor.Pure
