/- What the functions of the reference vernierref04 come to, second part: Shl, Meant, Cut, Mul, Word, Shr, Told, Same; the law's own 'is' and 'shown'. -/
import Derived.Test.YthgmkigfgcejgaaDoorQDBPNatx0
import Derived.Test.YthgmkigfgcejgaaDoorQDBPNatx5
import Derived.Test.YthgmkigfgcejgaaDoorQDBPNatx1
import Derived.Test.YthgmkigfgcejgaaDoorQDBPNatx2
import Derived.Test.YthgmkigfgcejgaaDoorQDBPNatx3
import Derived.Test.YthgmkigfgcejgaaDoorQDBNA
set_option linter.unusedVariables false
set_option linter.unusedSimpArgs false
namespace Go.Proofs.YthgmkigfgcejgaaDoor.PNat
open Go.RowKit Go.Proofs.YthgmkigfgcejgaaDoorW.PrintWords Go.Proofs.YthgmkigfgcejgaaDoorW.PrintLast Go.Proofs.YthgmkigfgcejgaaDoorW.PrintMore Go.Proofs.YthgmkigfgcejgaaDoor.M Go.Proofs.YthgmkigfgcejgaaDoor.NM
attribute [local irreducible] add64Lo add64Hi sub64Lo sub64Hi val
theorem pw2_pos (i : Nat) : 0 < pw 2 i := pw_pos (by decide) i
theorem val_drop (a : List Int) (i : Nat) : val B (a.drop i) = a.getD i 0 + B * val B (a.drop (i + 1)) := by
  by_cases h : i < a.length
  · rw [List.drop_eq_getElem_cons h, val_cons, List.getD_eq_getElem?_getD, List.getElem?_eq_getElem h]; rfl
  · rw [List.drop_of_length_le (by omega), List.drop_of_length_le (by omega), List.getD_eq_getElem?_getD, List.getElem?_eq_none (by omega), val_nil]; simp
theorem emod_pw_succ {n b : Int} (hb : 0 < b) (hn : 0 ≤ n) (i : Nat) : n / pw b i % b * pw b i + n % pw b i = n % pw b (i + 1) := by
  have hp := pw_pos hb i
  have h1 := Int.mul_ediv_add_emod n (pw b i)
  have h2 := Int.mul_ediv_add_emod (n / pw b i) b
  have h3 := Int.emod_nonneg n (show pw b i ≠ 0 by omega)
  have h4 := Int.emod_lt_of_pos n hp
  have h5 := Int.emod_nonneg (n / pw b i) (show b ≠ 0 by omega)
  have h6 := Int.emod_lt_of_pos (n / pw b i) hb
  have e : n = n / pw b i % b * pw b i + n % pw b i + pw b (i + 1) * (n / pw b i / b) := by
    rw [pw_succ]
    generalize pw b i = p at *
    generalize hq : n / p = q at *
    generalize n % p = r at *
    generalize hs : q / b = s at *
    generalize q % b = t at *
    rw [← h1, ← h2]
    grind
  have lo : 0 ≤ n / pw b i % b * pw b i + n % pw b i := by have := Int.mul_nonneg h5 (Int.le_of_lt hp); omega
  have hi : n / pw b i % b * pw b i + n % pw b i < pw b (i + 1) := by
    rw [pw_succ]
    have h7 : (n / pw b i % b + 1) * pw b i ≤ b * pw b i := Int.mul_le_mul_of_nonneg_right (by omega) (Int.le_of_lt hp)
    rw [Int.add_mul, Int.one_mul, Int.mul_comm b] at h7
    omega
  have h8 := Int.add_mul_emod_self_left (n / pw b i % b * pw b i + n % pw b i) (pw b (i + 1)) (n / pw b i / b)
  rw [← e, Int.emod_eq_of_lt lo hi] at h8
  exact h8.symm
theorem shr_digit {M f g : Int} (hf : 0 < f) (hg : 0 < g) (hM : 0 ≤ M) : M / f % (f * g) = M % (f * g) / f + M / (f * g) % (f * g) % f * g := by
  have h1 := Int.mul_ediv_add_emod M (f * g)
  have hb : 0 < f * g := Int.mul_pos hf hg
  have h2 := Int.emod_nonneg M (show f * g ≠ 0 by omega)
  have h3 := Int.emod_lt_of_pos M hb
  have h4 : M / (f * g) % (f * g) % f = M / (f * g) % f := Int.emod_emod_of_dvd _ ⟨g, rfl⟩
  rw [h4]
  generalize hq : M / (f * g) = q at *
  generalize hr : M % (f * g) = r at *
  have e1 : M = r + f * (g * q) := by rw [← h1, ← Int.mul_assoc]; omega
  have e2 : M / f = r / f + g * q := by rw [e1, Int.add_mul_ediv_left _ _ (by omega)]
  have h5 := Int.mul_ediv_add_emod q f
  have h6 := Int.emod_nonneg q (show f ≠ 0 by omega)
  have h7 := Int.emod_lt_of_pos q hf
  have h8 : 0 ≤ r / f := Int.ediv_nonneg h2 (by omega)
  have h9 : r / f < g := Int.ediv_lt_of_lt_mul hf (by rw [Int.mul_comm]; exact h3)
  have e3 : r / f + g * q = (r / f + q % f * g) + f * g * (q / f) := by
    have : g * q = g * (f * (q / f) + q % f) := by rw [h5]
    rw [this]; grind
  rw [e2, e3, Int.add_mul_emod_self_left]
  have lo : 0 ≤ r / f + q % f * g := by have := Int.mul_nonneg h6 (Int.le_of_lt hg); omega
  have hi : r / f + q % f * g < f * g := by
    have : (q % f + 1) * g ≤ f * g := Int.mul_le_mul_of_nonneg_right (by omega) (by omega)
    rw [Int.add_mul, Int.one_mul] at this
    omega
  exact Int.emod_eq_of_lt lo hi
theorem div_div_comm {n a b : Int} (ha : 0 ≤ a) (hb : 0 ≤ b) : n / a / b = n / b / a := by
  rw [Int.ediv_ediv_of_nonneg ha, Int.ediv_ediv_of_nonneg hb, Int.mul_comm]
theorem shown_ev : Ev (fun k => vernierlaw04_shown.f k) true := Ev.of vernierlaw04_shown.mono (k := 12) (by decide +kernel)
end Go.Proofs.YthgmkigfgcejgaaDoor.PNat
