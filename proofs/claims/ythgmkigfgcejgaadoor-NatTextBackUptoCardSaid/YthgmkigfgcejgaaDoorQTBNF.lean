/- nat's and the reference's Cmp and Sub as plain arithmetic. -/
import Derived.Test.YthgmkigfgcejgaaDoorQTBND
import Derived.Test.YthgmkigfgcejgaaDoorQTBNB
import Derived.Test.YthgmkigfgcejgaaDoorQTBPNatx0
import Derived.Test.YthgmkigfgcejgaaDoorQTBPNatx5
import Derived.Test.YthgmkigfgcejgaaDoorQTBPNatx8
set_option linter.unusedVariables false
set_option linter.unusedSimpArgs false
namespace Go.Proofs.YthgmkigfgcejgaaDoor.PNat
open Go.RowKit Go.Proofs.YthgmkigfgcejgaaDoorW.PrintWords Go.Proofs.YthgmkigfgcejgaaDoorW.PrintLast Go.Proofs.YthgmkigfgcejgaaDoorW.PrintMore Go.Proofs.YthgmkigfgcejgaaDoor.M Go.Proofs.YthgmkigfgcejgaaDoor.NM
attribute [local irreducible] add64Lo add64Hi sub64Lo sub64Hi val
def cmpI (A C : Int) : Int := if A < C then -1 else if A = C then 0 else 1
theorem lt_of_div_lt {A C p : Int} (hp : 0 < p) (h : A / p < C / p) : A < C := by
  rcases Int.lt_or_le A C with h1 | h1
  · exact h1
  · have := Int.ediv_le_ediv hp h1
    omega
theorem div_digit {A b : Int} (hb : 0 < b) (i : Nat) : A / pw b i = b * (A / pw b (i + 1)) + A / pw b i % b := by
  rw [div_pw_succ hb]
  exact (Int.mul_ediv_add_emod _ _).symm
theorem cmpI_lt {A C : Int} (h : A < C) : cmpI A C = -1 := by unfold cmpI; rw [if_pos h]
theorem cmpI_gt {A C : Int} (h : C < A) : cmpI A C = 1 := by unfold cmpI; rw [if_neg (by omega), if_neg (by omega)]
theorem cmpI_eq (A : Int) : cmpI A A = 0 := by unfold cmpI; rw [if_neg (by omega), if_pos rfl]
theorem cmpI_len {A C b : Int} (hb : 1 < b) (hA : 0 ≤ A) (hC : 0 ≤ C) (h : (enc b A).length < (enc b C).length) : A < C := by
  have h1 := (enc_lt hb hC (enc b A).length).1 h
  have h2 : ¬ 0 < A / pw b (enc b A).length := fun e => by
    have := (enc_lt hb hA (enc b A).length).2 e
    omega
  exact lt_of_div_lt (p := pw b (enc b A).length) (pw_pos (by omega) (enc b A).length) (by omega)
theorem ncmp_l0 {A C : Int} (hA : 0 ≤ A) (hC : 0 ≤ C) (hl : (enc B A).length = (enc B C).length) (hL : (enc B A).length ≤ 1099511627776) : ∀ i : Nat, i ≤ (enc B A).length → A / pw B i = C / pw B i →
    Ev (fun k => nat_Cmp.l0 k (enc B A) (enc B C) ((i : Int) - 1)) (cmpI A C) := by
  intro i
  induction i with
  | zero =>
    intro _ h
    rw [div_pw_zero, div_pw_zero] at h
    refine Ev.step (f := fun _ => some 0) (fun k => ?_) (by rw [h, cmpI_eq]; exact Ev.now _)
    simp only [nat_Cmp.l0]
    rw [if_neg (by omega)]
  | succ i ih =>
    intro hi h
    have hw : Aside0 (wrap64 ((i : Int) - 1) = (i : Int) - 1) := ⟨w64 (by omega) (by omega)⟩
    have e : ((i + 1 : Nat) : Int) - 1 = (i : Int) := by omega
    have dA := div_digit (A := A) Bpos i
    have dC := div_digit (A := C) Bpos i
    rw [h] at dA
    by_cases h1 : A / pw B i % B = C / pw B i % B
    · refine Ev.step (f := fun k => nat_Cmp.l0 k (enc B A) (enc B C) ((i : Int) - 1)) (fun k => ?_) (ih (by omega) (by rw [dA, dC, h1]))
      simp only [nat_Cmp.l0]
      rw [e, if_pos (by omega), if_pos (by omega), if_pos (by omega), if_pos (by omega), rd_nat, rd_nat, enc_get B1 hA, enc_get B1 hC, if_pos h1, hw.out]
    · by_cases h2 : A / pw B i % B < C / pw B i % B
      · refine Ev.step (f := fun _ => some (-1)) (fun k => ?_) (by rw [cmpI_lt (lt_of_div_lt (pw_pos Bpos i) (by omega))]; exact Ev.now _)
        simp only [nat_Cmp.l0]
        rw [e, if_pos (by omega), if_pos (by omega), if_pos (by omega), if_pos (by omega), rd_nat, rd_nat, enc_get B1 hA, enc_get B1 hC, if_neg h1, if_pos h2]
      · refine Ev.step (f := fun _ => some 1) (fun k => ?_) (by rw [cmpI_gt (lt_of_div_lt (pw_pos Bpos i) (by omega))]; exact Ev.now _)
        simp only [nat_Cmp.l0]
        rw [e, if_pos (by omega), if_pos (by omega), if_pos (by omega), if_pos (by omega), rd_nat, rd_nat, enc_get B1 hA, enc_get B1 hC, if_neg h1, if_neg h2]
theorem div_len {A b : Int} (hb : 1 < b) (hA : 0 ≤ A) : A / pw b (enc b A).length = 0 := by
  have h1 := enc_lt hb hA (enc b A).length
  have h2 := div_pw_nonneg (b := b) (by omega) hA (enc b A).length
  omega
theorem nCmp_ev {a b : List Int} (ha : Dig B a) (hb : Dig B b) (hL : a.length ≤ 1099511627776) (hM : b.length ≤ 1099511627776) : Ev (fun k => nat_Cmp.f k a b) (cmpI (val B a) (val B b)) := by
  have hA := val_nonneg Bpos ha
  have hC := val_nonneg Bpos hb
  have la := enc_len_le B1 ha
  have lb := enc_len_le B1 hb
  refine Ev.congr (fun k => rfl) (Ev.bind (trim_ev ha hL) (Ev.bind (trim_ev hb hM) ?_))
  by_cases h : (enc B (val B a)).length = (enc B (val B b)).length
  · have := ncmp_l0 hA hC h (by omega) (enc B (val B a)).length (Nat.le_refl _) (by rw [div_len B1 hA]; rw [h, div_len B1 hC])
    refine Ev.congr (fun k => ?_) this
    rw [if_pos (by omega), w64 (by omega) (by omega)]
  · by_cases h2 : (enc B (val B a)).length < (enc B (val B b)).length
    · rw [cmpI_lt (cmpI_len B1 hA hC h2)]
      exact Ev.congr (f := fun _ => some (-1)) (fun k => by rw [if_neg (by omega), if_pos (by omega)]) (Ev.now _)
    · rw [cmpI_gt (cmpI_len B1 hC hA (by omega))]
      exact Ev.congr (f := fun _ => some 1) (fun k => by rw [if_neg (by omega), if_neg (by omega)]) (Ev.now _)
end Go.Proofs.YthgmkigfgcejgaaDoor.PNat
