/- NatShiftBack in plain Lean: up and down again is the number itself; Top's bits are what it has above. -/
import Derived.Test.YthgmkigfgcejgaaDoorQSBNH
import Derived.Test.YthgmkigfgcejgaaDoorQSBPNatx16
import Derived.Test.YthgmkigfgcejgaaDoorQSBR
set_option linter.unusedVariables false
namespace Go.Proofs.YthgmkigfgcejgaaDoor.Pure
open Go.RowKit Go.Proofs.YthgmkigfgcejgaaDoor.PNat
open Go.RowKit Go.Proofs.YthgmkigfgcejgaaDoorW.PrintWords Go.Proofs.YthgmkigfgcejgaaDoorW.PrintLast Go.Proofs.YthgmkigfgcejgaaDoorW.PrintMore Go.Proofs.YthgmkigfgcejgaaDoor.M Go.Proofs.YthgmkigfgcejgaaDoor.NM
theorem bl_ub {A : Int} (hA : 0 ≤ A) : A < pw 2 (bl A) := by
  have := pval_lt (by decide) (dig_enc' two1 A)
  rw [val_enc' two1 hA] at this
  exact this
theorem upper {A : Int} (hA : 0 ≤ A) {w : Nat} (h1 : 1 ≤ w) : bl (A / pw 2 (under A w)) ≤ w ∧ (under A w ≠ 0 → bl (A / pw 2 (under A w)) = w) := by
  have h2 : under A w = bl A - w := rfl
  by_cases h : 0 < A / pw 2 (under A w)
  · have h3 := bl_shift hA (under A w) h
    omega
  · have h0 := Int.ediv_nonneg hA (Int.le_of_lt (pw2_pos (under A w)))
    have hz : A / pw 2 (under A w) = 0 := by omega
    rw [hz, bl_zero]
    exact ⟨by omega, fun hu => absurd ((bl_lt hA (under A w)).1 (by omega)) h⟩
theorem natShiftBack_top {a : List Int} (da : Dig B a) (ha : a.length ≤ 1048576) (w : Nat) (h1 : 1 ≤ w) (h2 : w ≤ 64) : Ev (fun k => (nat_Top.f k a (w : Int)).bind fun t => (nat_Shr.f k a t.2.1).bind fun d => (nat_Of.f k t.1).bind fun o => (nat_Cmp.f k d.1 o).bind fun c => (nat_Bits.f k d.1).bind fun b => if (true : Bool) = true then (if t.2.2.2.isNone = true then (if d.2.2.isNone = true then (if c = 0 then (if (d.2.1 == t.2.2.1) = true then (if b ≤ (w : Int) then (if t.2.1 = 0 then some true else some (b == (w : Int))) else some false) else some false) else some false) else some false) else some false) else some false) true := by
  have hA := val_nonneg Bpos da
  have lA := pval_lt Bpos da
  have hb : bl (val B a) ≤ 64 * a.length := bl_le (by rw [← pwB]; exact lA)
  have hu : under (val B a) w ≤ 64 * a.length := by unfold under; omega
  have hs : 0 ≤ val B a / pw 2 (under (val B a) w) := Int.ediv_nonneg hA (Int.le_of_lt (pw2_pos _))
  obtain ⟨u1, u2⟩ := upper hA h1
  have hlt : val B a / pw 2 (under (val B a) w) < B := by
    have := bl_ub hs
    have h3 : pw 2 (bl (val B a / pw 2 (under (val B a) w))) ≤ pw 2 64 := pw_le (by decide) (by omega)
    rw [pw2_64] at h3
    omega
  have hm : val B a / pw 2 (under (val B a) w) % B = val B a / pw 2 (under (val B a) w) := Int.emod_eq_of_lt hs hlt
  have hlen : (enc B (val B a / pw 2 (under (val B a) w))).length ≤ 1 := penc_len B1 (by rw [pw_one]; exact hlt)
  have ht := nTop_ev da (by omega) w h1 h2
  have hc := nCmp_ev (dig_enc' B1 (val B a / pw 2 (under (val B a) w))) (dig_enc' B1 (val B a / pw 2 (under (val B a) w))) (by omega) (by omega)
  have hB := nBits_ev (dig_enc' B1 (val B a / pw 2 (under (val B a) w))) (by omega)
  rw [val_enc' B1 hs, cmpI_eq] at hc
  rw [val_enc' B1 hs] at hB
  rw [hm] at ht
  refine Ev.bind ht (Ev.bind (nShr_ev da (by omega) _ (by omega)) (Ev.bind (nOf_ev hs hlt) (Ev.bind hc (Ev.bind hB ?_))))
  simp only [Option.isNone_none, if_true, beq_self_eq_true]
  rw [if_pos (show ((bl (val B a / pw 2 (under (val B a) w)) : Nat) : Int) ≤ (w : Int) by omega)]
  by_cases h0 : under (val B a) w = 0
  · rw [if_pos (by omega)]
    exact Ev.now _
  · rw [if_neg (by omega), u2 h0, beq_self_eq_true]
    exact Ev.now _
theorem NatShiftBack (a : List Int) (ha : a.length ≤ 1048576) (wa : ∀ y ∈ a, (Lit.int .u64 y).wf = true) (c : Int) (wc : (Lit.int .i64 c).wf = true) : ∃ k, vernierlaw04_NatShiftBack.f k a c = some true := by
  have da := BDig wa
  have hA := val_nonneg Bpos da
  have lA := pval_lt Bpos da
  have hc := i64wf wc
  have j1 : ∀ w : Nat, 1 ≤ w → w ≤ 64 → Ev (fun k => vernierlaw04_NatShiftBack.j1 k a true (w : Int)) true := fun w h1 h2 => Ev.step (fun k => by simp only [vernierlaw04_NatShiftBack.j1]) (natShiftBack_top da ha w h1 h2)
  have j3 : ∀ w : Nat, 1 ≤ w → w ≤ 64 → Ev (fun k => vernierlaw04_NatShiftBack.j3 k a true (w : Int)) true := fun w h1 h2 => Ev.step (fun k => by simp only [vernierlaw04_NatShiftBack.j3]) (natShiftBack_top da ha w h1 h2)
  have J0 : Ev (fun k => if c < 1 then vernierlaw04_NatShiftBack.j0 k a true c true else vernierlaw04_NatShiftBack.j0 k a true c (decide (c > 64))) true := by
    have bad : Ev (fun k => vernierlaw04_NatShiftBack.j0 k a true c true) true := Ev.step (fun k => by simp only [vernierlaw04_NatShiftBack.j0]; rw [if_pos trivial]; rfl) (j1 64 (by omega) (by omega))
    by_cases h1 : c < 1
    · exact Ev.congr (fun k => by rw [if_pos h1]) bad
    · by_cases h2 : c > 64
      · exact Ev.congr (fun k => by rw [if_neg h1, decide_eq_true h2]) bad
      · obtain ⟨n, rfl⟩ := Int.eq_ofNat_of_zero_le (show 0 ≤ c by omega)
        exact Ev.congr (fun k => by rw [if_neg h1, decide_eq_false h2]) (Ev.step (fun k => by simp only [vernierlaw04_NatShiftBack.j0]; rw [if_neg (by decide)]) (j1 n (by omega) (by omega)))
  have J2 : Ev (fun k => if c < 1 then vernierlaw04_NatShiftBack.j2 k a true c true else vernierlaw04_NatShiftBack.j2 k a true c (decide (c > 64))) true := by
    have bad : Ev (fun k => vernierlaw04_NatShiftBack.j2 k a true c true) true := Ev.step (fun k => by simp only [vernierlaw04_NatShiftBack.j2]; rw [if_pos trivial]; rfl) (j3 64 (by omega) (by omega))
    by_cases h1 : c < 1
    · exact Ev.congr (fun k => by rw [if_pos h1]) bad
    · by_cases h2 : c > 64
      · exact Ev.congr (fun k => by rw [if_neg h1, decide_eq_true h2]) bad
      · obtain ⟨n, rfl⟩ := Int.eq_ofNat_of_zero_le (show 0 ≤ c by omega)
        exact Ev.congr (fun k => by rw [if_neg h1, decide_eq_false h2]) (Ev.step (fun k => by simp only [vernierlaw04_NatShiftBack.j2]; rw [if_neg (by decide)]) (j3 n (by omega) (by omega)))
  have : Ev (fun k => vernierlaw04_NatShiftBack.f k a c) true := by
    refine Ev.congr (fun k => rfl) (Ev.bind shown_ev ?_)
    by_cases h0 : c < 0
    · refine Ev.bind (Ev.congr (f := fun _ => some (([] : List Int), some 1)) (fun k => by unfold nat_Shl.f; rw [if_pos h0]) (Ev.now _)) ?_
      exact Ev.congr (fun k => by rw [if_neg (by decide)]) J2
    · by_cases h1 : c > 65536
      · refine Ev.bind (Ev.congr (f := fun _ => some (([] : List Int), some 3)) (fun k => by unfold nat_Shl.f; rw [if_neg h0, if_pos h1]) (Ev.now _)) ?_
        exact Ev.congr (fun k => by rw [if_neg (by decide)]) J2
      · obtain ⟨n, hn⟩ := Int.eq_ofNat_of_zero_le (show 0 ≤ c by omega)
        have hp := pw2_pos n
        have hup : val B a * pw 2 n < pw B (a.length + 1025) := by
          rw [pw_add]
          refine Int.lt_of_lt_of_le (Int.mul_lt_mul_of_pos_right lA hp) (Int.mul_le_mul_of_nonneg_left ?_ (Int.le_of_lt (pw_pos Bpos _)))
          rw [pwB]
          exact pw_le (by decide) (by omega)
        have hup0 : 0 ≤ val B a * pw 2 n := Int.mul_nonneg hA (Int.le_of_lt hp)
        have hul := penc_len B1 hup
        have hsr := nShr_ev (dig_enc' B1 (val B a * pw 2 n)) (by omega) n (by omega)
        rw [val_enc' B1 hup0, Int.mul_ediv_cancel _ (by omega), Int.mul_emod_left] at hsr
        have hcm := nCmp_ev (dig_enc' B1 (val B a)) da (Nat.le_trans (enc_len_le B1 da) (by omega)) (by omega)
        rw [val_enc' B1 hA, cmpI_eq] at hcm
        have hsl := nShl_ev da (by omega) n (by omega)
        rw [← hn] at hsl hsr
        refine Ev.bind hsl ?_
        simp only [Option.isNone_none, if_true]
        refine Ev.bind hsr (Ev.bind hcm ?_)
        simp only [Option.isNone_none, if_true, ne_eq, not_true_eq_false, decide_false]
        exact Ev.congr (fun k => by rw [if_neg (by decide)]) J0
  obtain ⟨k, hk⟩ := this
  exact ⟨k, hk k (Nat.le_refl k)⟩
end Go.Proofs.YthgmkigfgcejgaaDoor.Pure
