/- NatTops in plain Lean: Top of any number is the reference's. -/
import Derived.Test.YthgmkigfgcejgaaDoorQCNH
import Derived.Test.YthgmkigfgcejgaaDoorQCPNatx14
import Derived.Test.YthgmkigfgcejgaaDoorQCR
set_option linter.unusedVariables false
namespace Go.Proofs.YthgmkigfgcejgaaDoor.Pure
open Go.RowKit Go.Proofs.YthgmkigfgcejgaaDoor.PNat
open Go.RowKit Go.Proofs.YthgmkigfgcejgaaDoorW.PrintWords Go.Proofs.YthgmkigfgcejgaaDoorW.PrintLast Go.Proofs.YthgmkigfgcejgaaDoorW.PrintMore Go.Proofs.YthgmkigfgcejgaaDoor.M Go.Proofs.YthgmkigfgcejgaaDoor.NM
theorem NatTops (a : List Int) (ha : a.length ≤ 1048576) (wa : ∀ y ∈ a, (Lit.int .u64 y).wf = true) (c : Int) (wc : (Lit.int .i64 c).wf = true) : ∃ k, vernierlaw04_NatTops.f k a c = some true := by
  have da := BDig wa
  have hA := val_nonneg Bpos da
  have lA := pval_lt Bpos da
  have nA := penc_len D1 (Int.lt_of_lt_of_le lA (pwB_le _))
  have hb : bl (val B a) ≤ 64 * a.length := bl_le (by rw [← pwB]; exact lA)
  have bad : c < 1 ∨ c > 64 → Ev (fun k => nat_Top.f k a c) (0, 0, false, some 1) := fun h => by
    by_cases h1 : c < 1
    · refine Ev.congr (f := fun k => nat_Top.j0 k a c true) (fun k => by unfold nat_Top.f; rw [if_pos h1]) (Ev.step (f := fun _ => some (0, 0, false, some 1)) (fun k => ?_) (Ev.now _))
      simp only [nat_Top.j0]
      rw [if_pos trivial]
    · refine Ev.congr (f := fun k => nat_Top.j0 k a c true) (fun k => by unfold nat_Top.f; rw [if_neg h1, decide_eq_true (by omega)]) (Ev.step (f := fun _ => some (0, 0, false, some 1)) (fun k => ?_) (Ev.now _))
      simp only [nat_Top.j0]
      rw [if_pos trivial]
  have badj : Ev (fun k => vernierlaw04_NatTops.j0 k a c true 0 0 false (some 1) true) true := by
    refine Ev.step (f := fun _ => some true) (fun k => ?_) (Ev.now _)
    simp only [vernierlaw04_NatTops.j0]
    rfl
  have : Ev (fun k => vernierlaw04_NatTops.f k a c) true := by
    refine Ev.congr (fun k => rfl) (Ev.bind shown_ev ?_)
    by_cases h1 : c < 1
    · refine Ev.bind (bad (.inl h1)) ?_
      simp only [if_pos h1]
      exact badj
    · by_cases h2 : c > 64
      · refine Ev.bind (bad (.inr h2)) ?_
        simp only [if_neg h1, decide_eq_true h2]
        exact badj
      · obtain ⟨n, rfl⟩ := Int.eq_ofNat_of_zero_le (show 0 ≤ c by omega)
        refine Ev.bind (nTop_ev da (by omega) n (by omega) (by omega)) ?_
        simp only [if_neg h1, decide_eq_false h2]
        have hu : under (val B a) n ≤ 64 * a.length := by unfold under; omega
        have hs : 0 ≤ val B a / pw 2 (under (val B a) n) := Int.ediv_nonneg hA (Int.le_of_lt (pw2_pos _))
        have hw : Aside0 (wrap64 ((bl (val B a) : Int) - (n : Int)) = (bl (val B a) : Int) - (n : Int)) := ⟨w64 (by omega) (by omega)⟩
        refine Ev.step (f := fun k => (vernierref04_Meant.f k a).bind fun t => (vernierref04_Bits.f k t).bind fun b => if wrap64 (b - (n : Int)) < 0 then ((vernierref04_Shr.f k t 0).bind fun s => (vernierref04_Word.f k s).bind fun w => (vernierref04_Low.f k t 0).bind fun l => if (true : Bool) = true then (if (none : Option Int).isNone = true then (if val B a / pw 2 (under (val B a) n) % B = w then (if ((under (val B a) n : Nat) : Int) = 0 then some (decide (val B a % pw 2 (under (val B a) n) ≠ 0) == l) else some false) else some false) else some false) else some false)
          else ((vernierref04_Shr.f k t (wrap64 (b - (n : Int)))).bind fun s => (vernierref04_Word.f k s).bind fun w => (vernierref04_Low.f k t (wrap64 (b - (n : Int)))).bind fun l => if (true : Bool) = true then (if (none : Option Int).isNone = true then (if val B a / pw 2 (under (val B a) n) % B = w then (if ((under (val B a) n : Nat) : Int) = wrap64 (b - (n : Int)) then some (decide (val B a % pw 2 (under (val B a) n) ≠ 0) == l) else some false) else some false) else some false) else some false)) (fun k => ?_)
          (Ev.bind (rMeant_ev da (by omega)) (Ev.bind (rBits_ev hA (by omega)) ?_))
        · simp only [vernierlaw04_NatTops.j0]
          rw [if_neg (by decide)]
        · rw [hw.out]
          have tail : Ev (fun k => (vernierref04_Shr.f k (enc D (val B a)) ((under (val B a) n : Nat) : Int)).bind fun s => (vernierref04_Word.f k s).bind fun w => (vernierref04_Low.f k (enc D (val B a)) ((under (val B a) n : Nat) : Int)).bind fun l => if (true : Bool) = true then (if (none : Option Int).isNone = true then (if val B a / pw 2 (under (val B a) n) % B = w then (if ((under (val B a) n : Nat) : Int) = ((under (val B a) n : Nat) : Int) then some (decide (val B a % pw 2 (under (val B a) n) ≠ 0) == l) else some false) else some false) else some false) else some false) true := by
            refine Ev.bind (rShr_ev hA _ (by omega) (by omega)) (Ev.bind (rWord_ev hs) (Ev.bind (rLow_ev hA (by omega) _ (by omega)) ?_))
            simp
            exact Ev.now _
          by_cases h3 : (bl (val B a) : Int) - (n : Int) < 0
          · have hu0 : under (val B a) n = 0 := by unfold under; omega
            rw [hu0] at tail ⊢
            simp only [if_pos h3]
            exact tail
          · have hun : (bl (val B a) : Int) - (n : Int) = ((under (val B a) n : Nat) : Int) := by unfold under; omega
            simp only [if_neg h3]
            rw [hun]
            exact tail
  obtain ⟨k, hk⟩ := this
  exact ⟨k, hk k (Nat.le_refl k)⟩
end Go.Proofs.YthgmkigfgcejgaaDoor.Pure
