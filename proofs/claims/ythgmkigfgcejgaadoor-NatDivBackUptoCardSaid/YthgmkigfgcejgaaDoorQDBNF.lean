/- nat's and the reference's Cmp and Sub as plain arithmetic. -/
import Derived.Test.YthgmkigfgcejgaaDoorQDBND
import Derived.Test.YthgmkigfgcejgaaDoorQDBNB
import Derived.Test.YthgmkigfgcejgaaDoorQDBPNatx0
import Derived.Test.YthgmkigfgcejgaaDoorQDBPNatx5
import Derived.Test.YthgmkigfgcejgaaDoorQDBPNatx9
set_option linter.unusedVariables false
set_option linter.unusedSimpArgs false
namespace Go.Proofs.YthgmkigfgcejgaaDoor.PNat
open Go.RowKit Go.Proofs.YthgmkigfgcejgaaDoorW.PrintWords Go.Proofs.YthgmkigfgcejgaaDoorW.PrintLast Go.Proofs.YthgmkigfgcejgaaDoorW.PrintMore Go.Proofs.YthgmkigfgcejgaaDoor.M Go.Proofs.YthgmkigfgcejgaaDoor.NM
attribute [local irreducible] add64Lo add64Hi sub64Lo sub64Hi val
def cmpI (A C : Int) : Int := if A < C then -1 else if A = C then 0 else 1
theorem lt_of_div_lt {A C p : Int} (hp : 0 < p) (h : A / p < C / p) : A < C := by
  rcases Int.lt_or_le A C with h1 | h1
  · exact h1
  · have := Int.ediv_le_ediv hp h1
    omega
theorem div_digit {A b : Int} (hb : 0 < b) (i : Nat) : A / pw b i = b * (A / pw b (i + 1)) + A / pw b i % b := by
  rw [div_pw_succ hb]
  exact (Int.mul_ediv_add_emod _ _).symm
theorem cmpI_lt {A C : Int} (h : A < C) : cmpI A C = -1 := by unfold cmpI; rw [if_pos h]
theorem cmpI_gt {A C : Int} (h : C < A) : cmpI A C = 1 := by unfold cmpI; rw [if_neg (by omega), if_neg (by omega)]
theorem cmpI_eq (A : Int) : cmpI A A = 0 := by unfold cmpI; rw [if_neg (by omega), if_pos rfl]
theorem cmpI_len {A C b : Int} (hb : 1 < b) (hA : 0 ≤ A) (hC : 0 ≤ C) (h : (enc b A).length < (enc b C).length) : A < C := by
  have h1 := (enc_lt hb hC (enc b A).length).1 h
  have h2 : ¬ 0 < A / pw b (enc b A).length := fun e => by
    have := (enc_lt hb hA (enc b A).length).2 e
    omega
  exact lt_of_div_lt (p := pw b (enc b A).length) (pw_pos (by omega) (enc b A).length) (by omega)
theorem ncmp_l0 {A C : Int} (hA : 0 ≤ A) (hC : 0 ≤ C) (hl : (enc B A).length = (enc B C).length) (hL : (enc B A).length ≤ 1099511627776) : ∀ i : Nat, i ≤ (enc B A).length → A / pw B i = C / pw B i →
    Ev (fun k => nat_Cmp.l0 k (enc B A) (enc B C) ((i : Int) - 1)) (cmpI A C) := by
  intro i
  induction i with
  | zero =>
    intro _ h
    rw [div_pw_zero, div_pw_zero] at h
    refine Ev.step (f := fun _ => some 0) (fun k => ?_) (by rw [h, cmpI_eq]; exact Ev.now _)
    simp only [nat_Cmp.l0]
    rw [if_neg (by omega)]
  | succ i ih =>
    intro hi h
    have hw : Aside0 (wrap64 ((i : Int) - 1) = (i : Int) - 1) := ⟨w64 (by omega) (by omega)⟩
    have e : ((i + 1 : Nat) : Int) - 1 = (i : Int) := by omega
    have dA := div_digit (A := A) Bpos i
    have dC := div_digit (A := C) Bpos i
    rw [h] at dA
    by_cases h1 : A / pw B i % B = C / pw B i % B
    · refine Ev.step (f := fun k => nat_Cmp.l0 k (enc B A) (enc B C) ((i : Int) - 1)) (fun k => ?_) (ih (by omega) (by rw [dA, dC, h1]))
      simp only [nat_Cmp.l0]
      rw [e, if_pos (by omega), if_pos (by omega), if_pos (by omega), if_pos (by omega), rd_nat, rd_nat, enc_get B1 hA, enc_get B1 hC, if_pos h1, hw.out]
    · by_cases h2 : A / pw B i % B < C / pw B i % B
      · refine Ev.step (f := fun _ => some (-1)) (fun k => ?_) (by rw [cmpI_lt (lt_of_div_lt (pw_pos Bpos i) (by omega))]; exact Ev.now _)
        simp only [nat_Cmp.l0]
        rw [e, if_pos (by omega), if_pos (by omega), if_pos (by omega), if_pos (by omega), rd_nat, rd_nat, enc_get B1 hA, enc_get B1 hC, if_neg h1, if_pos h2]
      · refine Ev.step (f := fun _ => some 1) (fun k => ?_) (by rw [cmpI_gt (lt_of_div_lt (pw_pos Bpos i) (by omega))]; exact Ev.now _)
        simp only [nat_Cmp.l0]
        rw [e, if_pos (by omega), if_pos (by omega), if_pos (by omega), if_pos (by omega), rd_nat, rd_nat, enc_get B1 hA, enc_get B1 hC, if_neg h1, if_neg h2]
theorem div_len {A b : Int} (hb : 1 < b) (hA : 0 ≤ A) : A / pw b (enc b A).length = 0 := by
  have h1 := enc_lt hb hA (enc b A).length
  have h2 := div_pw_nonneg (b := b) (by omega) hA (enc b A).length
  omega
theorem nCmp_ev {a b : List Int} (ha : Dig B a) (hb : Dig B b) (hL : a.length ≤ 1099511627776) (hM : b.length ≤ 1099511627776) : Ev (fun k => nat_Cmp.f k a b) (cmpI (val B a) (val B b)) := by
  have hA := val_nonneg Bpos ha
  have hC := val_nonneg Bpos hb
  have la := enc_len_le B1 ha
  have lb := enc_len_le B1 hb
  refine Ev.congr (fun k => rfl) (Ev.bind (trim_ev ha hL) (Ev.bind (trim_ev hb hM) ?_))
  by_cases h : (enc B (val B a)).length = (enc B (val B b)).length
  · have := ncmp_l0 hA hC h (by omega) (enc B (val B a)).length (Nat.le_refl _) (by rw [div_len B1 hA]; rw [h, div_len B1 hC])
    refine Ev.congr (fun k => ?_) this
    rw [if_pos (by omega), w64 (by omega) (by omega)]
  · by_cases h2 : (enc B (val B a)).length < (enc B (val B b)).length
    · rw [cmpI_lt (cmpI_len B1 hA hC h2)]
      exact Ev.congr (f := fun _ => some (-1)) (fun k => by rw [if_neg (by omega), if_pos (by omega)]) (Ev.now _)
    · rw [cmpI_gt (cmpI_len B1 hC hA (by omega))]
      exact Ev.congr (f := fun _ => some 1) (fun k => by rw [if_neg (by omega), if_neg (by omega)]) (Ev.now _)
theorem sub64_spec {x y c : Int} (hx : 0 ≤ x ∧ x < B) (hy : 0 ≤ y ∧ y < B) (hc : 0 ≤ c) (hc1 : c ≤ 1) : sub64Lo x y c - B * sub64Hi x y c = x - y - c ∧ (0 ≤ sub64Lo x y c ∧ sub64Lo x y c < B) ∧ 0 ≤ sub64Hi x y c ∧ sub64Hi x y c ≤ 1 := by
  unfold sub64Lo sub64Hi
  rw [Bdef] at *
  split <;> omega
theorem sub_step {p b lo hi ai bi c X A C : Int} (hs : lo - b * hi = ai - bi - c) (hv : X - p * c = A - C) : X + p * lo - p * b * hi = (A + p * ai) - (C + p * bi) := by grind
theorem nsub_l0 {a b : List Int} (ha : Dig B a) (hb : Dig B b) (hab : b.length ≤ a.length) (hL : a.length ≤ 1099511627775) (hle : val B b ≤ val B a) : ∀ (d i : Nat) (x : List Int) (c : Int), i + d = a.length → x.length = a.length → 0 ≤ c → c ≤ 1 → Dig B x →
    val B (x.take i) - pw B i * c = val B (a.take i) - val B (b.take i) → Ev (fun k => nat_Sub.l0 k b x c a (a.length : Int) (i : Int)) (enc B (val B a - val B b), none) := by
  intro d
  induction d with
  | zero =>
    intro i x c hi hx h0 h1 hd hv
    obtain rfl : i = a.length := by omega
    rw [← hx, List.take_length, hx, List.take_length, List.take_of_length_le hab] at hv
    have hlt := pval_lt Bpos hd
    rw [hx] at hlt
    have hc : c = 0 := by
      rcases (show c = 0 ∨ c = 1 by omega) with h | h
      · exact h
      · rw [h, Int.mul_one] at hv; omega
    rw [hc, Int.mul_zero, Int.sub_zero] at hv
    refine Ev.step (f := fun k => (nat_trim.f k x).bind fun t => some (t, none)) (fun k => ?_) (Ev.bind (trim_ev hd (by omega)) (by rw [hv]; exact Ev.now _))
    simp only [nat_Sub.l0]
    rw [if_neg (by omega)]
  | succ d ih =>
    intro i x c hi hx h0 h1 hd hv
    have hw : Aside0 (wrap64 ((i : Int) + 1) = ((i + 1 : Nat) : Int)) := ⟨by rw [w64 (by omega) (by omega)]; omega⟩
    have hq : i < x.length := by omega
    have hq2 : i + 1 + d = a.length := by omega
    obtain ⟨hs, hlo, hh0, hh1⟩ := sub64_spec (ha.get Bpos i) (hb.get Bpos i) h0 h1
    have key : Ev (fun k => nat_Sub.l0 k b (x.set i (sub64Lo (a.getD i 0) (b.getD i 0) c)) (sub64Hi (a.getD i 0) (b.getD i 0) c) a (a.length : Int) ((i + 1 : Nat) : Int)) (enc B (val B a - val B b), none) := by
      refine ih (i + 1) _ _ hq2 (by simpa using hx) hh0 hh1 (hd.set hlo.1 hlo.2) ?_
      rw [pval_take_set B x i _ hq, pval_take_succ B a, pval_take_succ B b, pw_succ]
      exact sub_step hs hv
    by_cases hlt : i < b.length
    · refine Ev.step (f := fun k => nat_Sub.l0 k b (x.set i (sub64Lo (a.getD i 0) (b.getD i 0) c)) (sub64Hi (a.getD i 0) (b.getD i 0) c) a (a.length : Int) ((i + 1 : Nat) : Int)) (fun k => ?_) key
      simp only [nat_Sub.l0]
      rw [hw.out, if_pos (by omega), if_pos (by omega), if_pos (by omega), if_pos (by omega), if_pos h1, if_pos (by omega), rd_nat, rd_nat]
      rfl
    · have hb0 : b.getD i 0 = 0 := by rw [List.getD_eq_getElem?_getD, List.getElem?_eq_none (by omega)]; rfl
      rw [hb0] at key
      refine Ev.step (f := fun k => nat_Sub.l0 k b (x.set i (sub64Lo (a.getD i 0) 0 c)) (sub64Hi (a.getD i 0) 0 c) a (a.length : Int) ((i + 1 : Nat) : Int)) (fun k => ?_) key
      simp only [nat_Sub.l0]
      rw [hw.out, if_pos (by omega), if_pos (by omega), if_pos (by omega), if_neg (by omega), if_pos h1, if_pos (by omega), rd_nat]
      rfl
theorem cmpI_neg {A C : Int} : cmpI A C < 0 ↔ A < C := by
  unfold cmpI
  by_cases h : A < C
  · rw [if_pos h]; omega
  · rw [if_neg h]; split <;> omega
theorem nSub_ev {a b : List Int} (ha : Dig B a) (hb : Dig B b) (hL : a.length ≤ 1099511627775) (hM : b.length ≤ 1099511627775) : Ev (fun k => nat_Sub.f k a b) (if val B a < val B b then ([], some 6) else (enc B (val B a - val B b), none)) := by
  have hA := val_nonneg Bpos ha
  have hC := val_nonneg Bpos hb
  have la := enc_len_le B1 ha
  have lb := enc_len_le B1 hb
  refine Ev.congr (fun k => rfl) (Ev.bind (nCmp_ev ha hb (by omega) (by omega)) ?_)
  by_cases h : val B a < val B b
  · rw [if_pos h]
    exact Ev.congr (f := fun _ => some ([], some 6)) (fun k => by rw [if_pos (cmpI_neg.2 h)]) (Ev.now _)
  · rw [if_neg h]
    have hvb : val B b < pw B (enc B (val B a)).length := by
      have := pval_lt Bpos (dig_enc' B1 (val B a))
      rw [val_enc' B1 hA] at this
      omega
    have key := nsub_l0 (dig_enc' B1 (val B a)) (dig_enc' B1 (val B b)) (penc_len B1 hvb) (by omega) (by rw [val_enc' B1 hA, val_enc' B1 hC]; omega) (enc B (val B a)).length 0 (List.replicate (enc B (val B a)).length 0) 0 (by omega) (by simp) (by omega) (by omega) (Dig.zeros Bpos _) (by simp [val_nil, pw_zero])
    rw [val_enc' B1 hA, val_enc' B1 hC] at key
    refine Ev.congr (f := fun k => (nat_trim.f k a).bind fun t => (nat_trim.f k b).bind fun u => if 0 ≤ (t.length : Int) then (if ((t.length : Int) : Int).toNat ≤ 35184372088832 then (nat_Sub.l0 k u (List.replicate ((t.length : Int) : Int).toNat 0) 0 t (t.length : Int) 0) else none) else none) (fun k => by rw [if_neg (fun e => h (cmpI_neg.1 e))])
      (Ev.bind (trim_ev ha (by omega)) (Ev.bind (trim_ev hb (by omega)) (Ev.congr (fun k => ?_) key)))
    rw [if_pos (by omega), Int.toNat_natCast, if_pos (by omega)]
    rfl
end Go.Proofs.YthgmkigfgcejgaaDoor.PNat
