/- nat's and the reference's Cmp and Sub as plain arithmetic. -/
import Derived.Test.YthgmkigfgcejgaaDoorQTXND
import Derived.Test.YthgmkigfgcejgaaDoorQTXNB
import Derived.Test.YthgmkigfgcejgaaDoorQTXPNatx0
import Derived.Test.YthgmkigfgcejgaaDoorQTXPNatx5
import Derived.Test.YthgmkigfgcejgaaDoorQTXPNatx6
import Derived.Test.YthgmkigfgcejgaaDoorQTXPNatx8
set_option linter.unusedVariables false
set_option linter.unusedSimpArgs false
namespace Go.Proofs.YthgmkigfgcejgaaDoor.PNat
open Go.RowKit Go.Proofs.YthgmkigfgcejgaaDoorW.PrintWords Go.Proofs.YthgmkigfgcejgaaDoorW.PrintLast Go.Proofs.YthgmkigfgcejgaaDoorW.PrintMore Go.Proofs.YthgmkigfgcejgaaDoor.M Go.Proofs.YthgmkigfgcejgaaDoor.NM
attribute [local irreducible] add64Lo add64Hi sub64Lo sub64Hi val
def cmpI (A C : Int) : Int := if A < C then -1 else if A = C then 0 else 1
theorem lt_of_div_lt {A C p : Int} (hp : 0 < p) (h : A / p < C / p) : A < C := by
  rcases Int.lt_or_le A C with h1 | h1
  · exact h1
  · have := Int.ediv_le_ediv hp h1
    omega
theorem div_digit {A b : Int} (hb : 0 < b) (i : Nat) : A / pw b i = b * (A / pw b (i + 1)) + A / pw b i % b := by
  rw [div_pw_succ hb]
  exact (Int.mul_ediv_add_emod _ _).symm
theorem cmpI_lt {A C : Int} (h : A < C) : cmpI A C = -1 := by unfold cmpI; rw [if_pos h]
theorem cmpI_gt {A C : Int} (h : C < A) : cmpI A C = 1 := by unfold cmpI; rw [if_neg (by omega), if_neg (by omega)]
theorem cmpI_eq (A : Int) : cmpI A A = 0 := by unfold cmpI; rw [if_neg (by omega), if_pos rfl]
theorem cmpI_len {A C b : Int} (hb : 1 < b) (hA : 0 ≤ A) (hC : 0 ≤ C) (h : (enc b A).length < (enc b C).length) : A < C := by
  have h1 := (enc_lt hb hC (enc b A).length).1 h
  have h2 : ¬ 0 < A / pw b (enc b A).length := fun e => by
    have := (enc_lt hb hA (enc b A).length).2 e
    omega
  exact lt_of_div_lt (p := pw b (enc b A).length) (pw_pos (by omega) (enc b A).length) (by omega)
theorem div_len {A b : Int} (hb : 1 < b) (hA : 0 ≤ A) : A / pw b (enc b A).length = 0 := by
  have h1 := enc_lt hb hA (enc b A).length
  have h2 := div_pw_nonneg (b := b) (by omega) hA (enc b A).length
  omega
theorem rcmp_l0 {A C : Int} (hA : 0 ≤ A) (hC : 0 ≤ C) (hl : (enc D A).length = (enc D C).length) (hL : (enc D A).length ≤ 1099511627776) : ∀ i : Nat, i ≤ (enc D A).length → A / pw D i = C / pw D i →
    Ev (fun k => vernierref04_Cmp.l0 k (enc D A) (enc D C) ((i : Int) - 1)) (cmpI A C) := by
  intro i
  induction i with
  | zero =>
    intro _ h
    rw [div_pw_zero, div_pw_zero] at h
    refine Ev.step (f := fun _ => some 0) (fun k => ?_) (by rw [h, cmpI_eq]; exact Ev.now _)
    simp only [vernierref04_Cmp.l0]
    rw [if_neg (by omega)]
  | succ i ih =>
    intro hi h
    have hw : Aside0 (wrap64 ((i : Int) - 1) = (i : Int) - 1) := ⟨w64 (by omega) (by omega)⟩
    have e : ((i + 1 : Nat) : Int) - 1 = (i : Int) := by omega
    have dA := div_digit (A := A) Dpos i
    have dC := div_digit (A := C) Dpos i
    rw [h] at dA
    by_cases h1 : A / pw D i % D = C / pw D i % D
    · refine Ev.step (f := fun k => vernierref04_Cmp.l0 k (enc D A) (enc D C) ((i : Int) - 1)) (fun k => ?_) (ih (by omega) (by rw [dA, dC, h1]))
      simp only [vernierref04_Cmp.l0]
      rw [e, if_pos (by omega), if_pos (by omega), if_pos (by omega), if_pos (by omega), rd_nat, rd_nat, enc_get D1 hA, enc_get D1 hC, if_neg (by omega), if_neg (by omega), hw.out]
    · by_cases h2 : A / pw D i % D < C / pw D i % D
      · refine Ev.step (f := fun _ => some (-1)) (fun k => ?_) (by rw [cmpI_lt (lt_of_div_lt (pw_pos Dpos i) (by omega))]; exact Ev.now _)
        simp only [vernierref04_Cmp.l0]
        rw [e, if_pos (by omega), if_pos (by omega), if_pos (by omega), if_pos (by omega), rd_nat, rd_nat, enc_get D1 hA, enc_get D1 hC, if_pos h2]
      · refine Ev.step (f := fun _ => some 1) (fun k => ?_) (by rw [cmpI_gt (lt_of_div_lt (pw_pos Dpos i) (by omega))]; exact Ev.now _)
        simp only [vernierref04_Cmp.l0]
        rw [e, if_pos (by omega), if_pos (by omega), if_pos (by omega), if_pos (by omega), rd_nat, rd_nat, enc_get D1 hA, enc_get D1 hC, if_neg h2, if_pos (by omega)]
theorem rCmp_ev {A C : Int} (hA : 0 ≤ A) (hC : 0 ≤ C) (hL : (enc D A).length ≤ 1099511627776) : Ev (fun k => vernierref04_Cmp.f k (enc D A) (enc D C)) (cmpI A C) := by
  by_cases h : (enc D A).length = (enc D C).length
  · have := rcmp_l0 hA hC h (by omega) (enc D A).length (Nat.le_refl _) (by rw [div_len D1 hA]; rw [h, div_len D1 hC])
    refine Ev.congr (fun k => ?_) this
    unfold vernierref04_Cmp.f
    rw [if_pos (by omega), w64 (by omega) (by omega)]
  · by_cases h2 : (enc D A).length < (enc D C).length
    · rw [cmpI_lt (cmpI_len D1 hA hC h2)]
      exact Ev.congr (f := fun _ => some (-1)) (fun k => by unfold vernierref04_Cmp.f; rw [if_neg (by omega), if_pos (by omega)]) (Ev.now _)
    · rw [cmpI_gt (cmpI_len D1 hC hA (by omega))]
      exact Ev.congr (f := fun _ => some 1) (fun k => by unfold vernierref04_Cmp.f; rw [if_neg (by omega), if_neg (by omega)]) (Ev.now _)
theorem sub_step {p b lo hi ai bi c X A C : Int} (hs : lo - b * hi = ai - bi - c) (hv : X - p * c = A - C) : X + p * lo - p * b * hi = (A + p * ai) - (C + p * bi) := by grind
theorem rsub_l0 {A C : Int} (hA : 0 ≤ A) (hC : 0 ≤ C) (hle : C ≤ A) (hL : (enc D A).length ≤ 1099511627775) : ∀ (d i : Nat) (out : List Int) (c : Int), i + d = (enc D A).length → out.length = i → 0 ≤ c → c ≤ 1 → Dig D out →
    val D out - pw D i * c = val D ((enc D A).take i) - val D ((enc D C).take i) → Ev (fun k => vernierref04_Sub.l0 k (enc D A) (enc D C) out c (i : Int)) (enc D (A - C)) := by
  intro d
  induction d with
  | zero =>
    intro i out c hi hx h0 h1 hd hv
    have hvb : C < pw D (enc D A).length := by
      have := pval_lt Dpos (dig_enc' D1 A)
      rw [val_enc' D1 hA] at this
      omega
    have hcl := penc_len D1 hvb
    obtain rfl : i = (enc D A).length := by omega
    rw [List.take_length, List.take_of_length_le hcl, val_enc' D1 hA, val_enc' D1 hC] at hv
    have hlt := pval_lt Dpos hd
    rw [hx] at hlt
    have hc : c = 0 := by
      rcases (show c = 0 ∨ c = 1 by omega) with h | h
      · exact h
      · rw [h, Int.mul_one] at hv; omega
    rw [hc, Int.mul_zero, Int.sub_zero] at hv
    refine Ev.step (f := fun k => (vernierref04_Cut.f k out).bind fun t => some t) (fun k => ?_) (Ev.bind (by rw [← hv]; exact rCut_ev hd (by omega)) (Ev.now _))
    simp only [vernierref04_Sub.l0]
    rw [if_neg (by omega)]
  | succ d ih =>
    intro i out c hi hx h0 h1 hd hv
    have hw : Aside0 (wrap64 ((i : Int) + 1) = ((i + 1 : Nat) : Int)) := ⟨by rw [w64 (by omega) (by omega)]; omega⟩
    have hq2 : i + 1 + d = (enc D A).length := by omega
    have ga := (dig_enc' D1 A).get Dpos i
    have gc := (dig_enc' D1 C).get Dpos i
    have ga1 := ga.2
    have gc1 := gc.2
    have step : ∀ lo hi : Int, 0 ≤ lo → lo < D → 0 ≤ hi → hi ≤ 1 → lo - D * hi = (enc D A).getD i 0 - (enc D C).getD i 0 - c → Ev (fun k => vernierref04_Sub.l0 k (enc D A) (enc D C) (out ++ [lo]) hi ((i + 1 : Nat) : Int)) (enc D (A - C)) := fun lo hi l0 l1 h0 h1 hs => by
      refine ih (i + 1) (out ++ [lo]) hi hq2 (by simp [hx]) h0 h1 (hd.append (Dig.cons l0 l1 (Dig.nil D))) ?_
      rw [pval_append, pval_take_succ D (enc D A), pval_take_succ D (enc D C), pw_succ, hx]
      simp only [val_cons, val_nil, Int.mul_zero, Int.add_zero]
      exact sub_step hs hv
    have hd1 : Aside0 (wrap64 (wrap64 ((enc D A).getD i 0 - (enc D C).getD i 0) - c) = (enc D A).getD i 0 - (enc D C).getD i 0 - c) := ⟨by
      rw [Ddef] at ga1 gc1
      rw [Ddef] at *
      rw [w64 (x := (enc 16777216 A).getD i 0 - (enc 16777216 C).getD i 0) (by omega) (by omega), w64 (by omega) (by omega)]⟩
    by_cases hn : (enc D A).getD i 0 - (enc D C).getD i 0 - c < 0
    · have hd2 : Aside0 (wrap64 ((enc D A).getD i 0 - (enc D C).getD i 0 - c + 16777216) = (enc D A).getD i 0 - (enc D C).getD i 0 - c + D) := ⟨by
        rw [Ddef] at *
        rw [w64 (by omega) (by omega)]⟩
      refine Ev.step (f := fun k => vernierref04_Sub.l0 k (enc D A) (enc D C) (out ++ [(enc D A).getD i 0 - (enc D C).getD i 0 - c + D]) 1 ((i + 1 : Nat) : Int)) (fun k => ?_) (step _ 1 (by omega) (by omega) (by omega) (by omega) (by omega))
      simp only [vernierref04_Sub.l0]
      rw [hw.out, if_pos (by omega), if_pos (by omega), digit_spec, rd_nat]
      simp only [Option.bind_some]
      rw [hd1.out, if_pos hn, hd2.out, if_pos (by omega)]
    · refine Ev.step (f := fun k => vernierref04_Sub.l0 k (enc D A) (enc D C) (out ++ [(enc D A).getD i 0 - (enc D C).getD i 0 - c]) 0 ((i + 1 : Nat) : Int)) (fun k => ?_) (step _ 0 (by omega) (by omega) (by omega) (by omega) (by omega))
      simp only [vernierref04_Sub.l0]
      rw [hw.out, if_pos (by omega), if_pos (by omega), digit_spec, rd_nat]
      simp only [Option.bind_some]
      rw [hd1.out, if_neg hn, if_pos (by omega)]
theorem rSub_ev {A C : Int} (hA : 0 ≤ A) (hC : 0 ≤ C) (hle : C ≤ A) (hL : (enc D A).length ≤ 1099511627775) : Ev (fun k => vernierref04_Sub.f k (enc D A) (enc D C)) (enc D (A - C)) :=
  rsub_l0 hA hC hle hL (enc D A).length 0 [] 0 (by omega) rfl (by omega) (by omega) (Dig.nil D) (by simp [val_nil, pw_zero])
end Go.Proofs.YthgmkigfgcejgaaDoor.PNat
