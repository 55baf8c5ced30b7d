/- NatShifts in plain Lean: Shl and Shr by any k are the reference's. -/
import Derived.Test.YthgmkigfgcejgaaDoorQCNH
import Derived.Test.YthgmkigfgcejgaaDoorQCPNatx13
import Derived.Test.YthgmkigfgcejgaaDoorQCR
set_option linter.unusedVariables false
namespace Go.Proofs.YthgmkigfgcejgaaDoor.Pure
open Go.RowKit Go.Proofs.YthgmkigfgcejgaaDoor.PNat
open Go.RowKit Go.Proofs.YthgmkigfgcejgaaDoorW.PrintWords Go.Proofs.YthgmkigfgcejgaaDoorW.PrintLast Go.Proofs.YthgmkigfgcejgaaDoorW.PrintMore Go.Proofs.YthgmkigfgcejgaaDoor.M Go.Proofs.YthgmkigfgcejgaaDoor.NM
theorem NatShifts (a : List Int) (ha : a.length ≤ 1048576) (wa : ∀ y ∈ a, (Lit.int .u64 y).wf = true) (c : Int) (wc : (Lit.int .i64 c).wf = true) : ∃ k, vernierlaw04_NatShifts.f k a c = some true := by
  have da := BDig wa
  have hA := val_nonneg Bpos da
  have lA := pval_lt Bpos da
  have nA := penc_len D1 (Int.lt_of_lt_of_le lA (pwB_le _))
  have hc := i64wf wc
  have : Ev (fun k => vernierlaw04_NatShifts.f k a c) true := by
    refine Ev.congr (fun k => rfl) (Ev.bind shown_ev ?_)
    by_cases h0 : c < 0
    · refine Ev.bind (Ev.congr (f := fun _ => some (([] : List Int), some 1)) (fun k => by unfold nat_Shl.f; rw [if_pos h0]) (Ev.now _)) (Ev.bind (Ev.congr (f := fun _ => some (([] : List Int), false, some 1)) (fun k => by unfold nat_Shr.f; rw [if_pos h0]) (Ev.now _)) ?_)
      simp only [if_pos h0]
      exact Ev.now _
    · obtain ⟨n, rfl⟩ := Int.eq_ofNat_of_zero_le (show 0 ≤ c by omega)
      have hle : val B a / pw 2 n ≤ val B a := Int.ediv_le_self _ hA
      have hnn : 0 ≤ val B a / pw 2 n := Int.ediv_nonneg hA (Int.le_of_lt (pw2_pos n))
      have hlt : val B a / pw 2 n < pw B a.length := Int.lt_of_le_of_lt hle lA
      have tail : ∀ (u : List Int × Option Int), Ev (fun k => if (n : Int) > 65536 then (if (true : Bool) = true then (if u.2.isNone = true then some false else (if u.2.getD 0 = 3 then some ((u.1.length : Int) == 0) else some false)) else some false) else ((vernierref04_Shl.f k (enc D (val B a)) (n : Int)).bind fun t => (vernierlaw04_is.f k u.1 t).bind fun v => if (true : Bool) = true then (if u.2.isNone = true then some v else some false) else some false)) true →
          Ev (fun k => (nat_Shr.f k a (n : Int)).bind fun b => if (n : Int) < 0 then (if (true : Bool) = true then (if u.2.isNone = true then some false else (if u.2.getD 0 = 1 then (if b.2.2.isNone = true then some false else (if b.2.2.getD 0 = 1 then (if (u.1.length : Int) = 0 then (if (b.1.length : Int) = 0 then some (!b.2.1) else some false) else some false) else some false)) else some false)) else some false) else ((vernierref04_Meant.f k a).bind fun t => (vernierref04_Low.f k t (n : Int)).bind fun l => (vernierref04_Shr.f k t (n : Int)).bind fun s => (vernierlaw04_is.f k b.1 s).bind fun i => if i = true then (if b.2.2.isNone = true then vernierlaw04_NatShifts.j0 k (n : Int) true u.1 u.2 t (b.2.1 != l) else vernierlaw04_NatShifts.j0 k (n : Int) true u.1 u.2 t true) else vernierlaw04_NatShifts.j0 k (n : Int) true u.1 u.2 t true)) true := fun u hu => by
        refine Ev.bind (nShr_ev da (by omega) n (by omega)) ?_
        simp only [if_neg h0]
        refine Ev.bind (rMeant_ev da (by omega)) (Ev.bind (rLow_ev hA (by omega) n (by omega)) (Ev.bind (rShr_ev hA n (by omega) (by omega)) (Ev.bind (is_ev _ ?_ hnn hlt (by omega)) ?_)))
        · exact Nat.le_trans (penc_len B1 hlt) (by omega)
        · rw [decide_eq_true rfl]
          refine Ev.congr (f := fun k => vernierlaw04_NatShifts.j0 k (n : Int) true u.1 u.2 (enc D (val B a)) false) (fun k => by rw [if_pos rfl, if_pos (show (none : Option Int).isNone = true from rfl), bne_self_eq_false]) (Ev.step (fun k => ?_) hu)
          simp only [vernierlaw04_NatShifts.j0]
          rw [if_neg (by decide)]
      by_cases h1 : (n : Int) > 65536
      · refine Ev.bind (Ev.congr (f := fun _ => some (([] : List Int), some 3)) (fun k => by unfold nat_Shl.f; rw [if_neg h0, if_pos h1]) (Ev.now _)) (tail _ ?_)
        simp only [if_pos h1]
        exact Ev.now _
      · refine Ev.bind (nShl_ev da (by omega) n (by omega)) (tail _ ?_)
        simp only [if_neg h1]
        have hup : val B a * pw 2 n < pw B (a.length + 1025) := by
          rw [pw_add]
          refine Int.lt_of_lt_of_le (Int.mul_lt_mul_of_pos_right lA (pw2_pos n)) (Int.mul_le_mul_of_nonneg_left ?_ (Int.le_of_lt (pw_pos Bpos _)))
          rw [pwB]
          exact pw_le (by decide) (by omega)
        have hup0 : 0 ≤ val B a * pw 2 n := Int.mul_nonneg hA (Int.le_of_lt (pw2_pos n))
        refine Ev.bind (rShl_ev hA n (by omega) (Int.lt_of_lt_of_le lA (pwB_le _)) (by omega)) (Ev.bind (is_ev _ ?_ hup0 hup (by omega)) ?_)
        · exact Nat.le_trans (penc_len B1 hup) (by omega)
        · simp
          exact Ev.now _
  obtain ⟨k, hk⟩ := this
  exact ⟨k, hk k (Nat.le_refl k)⟩
end Go.Proofs.YthgmkigfgcejgaaDoor.Pure
