/- nat's lifted, Shl, Shr, Top and the reference's Low as plain arithmetic. -/
import Derived.Test.YthgmkigfgcejgaaDoorQTBNG
import Derived.Test.YthgmkigfgcejgaaDoorQTBPNatx0
import Derived.Test.YthgmkigfgcejgaaDoorQTBPNatx1
import Derived.Test.YthgmkigfgcejgaaDoorQTBPNatx4
import Derived.Test.YthgmkigfgcejgaaDoorQTBPNatx3
import Derived.Test.YthgmkigfgcejgaaDoorQTBPNatx5
import Derived.Test.YthgmkigfgcejgaaDoorQTBPNatx2
import Derived.Test.YthgmkigfgcejgaaDoorQTBPNatx8
import Derived.Test.YthgmkigfgcejgaaDoorQTBM
import Derived.Test.YthgmkigfgcejgaaDoorQTBWWords
import Derived.Test.YthgmkigfgcejgaaDoorQTBWMore
import Derived.Test.YthgmkigfgcejgaaDoorQTBWLast
set_option linter.unusedVariables false
set_option linter.unusedSimpArgs false
namespace Go.Proofs.YthgmkigfgcejgaaDoor.PNat
open Go.RowKit Go.Proofs.YthgmkigfgcejgaaDoorW.PrintWords Go.Proofs.YthgmkigfgcejgaaDoorW.PrintLast Go.Proofs.YthgmkigfgcejgaaDoorW.PrintMore Go.Proofs.YthgmkigfgcejgaaDoor.M Go.Proofs.YthgmkigfgcejgaaDoor.NM
attribute [local irreducible] add64Lo add64Hi sub64Lo sub64Hi val
theorem shl_u64 (x : Int) {s : Nat} (h : s ≤ 64) : shl .u64 x (s : Int) = x * pw 2 s % B := by
  have e : min (s : Int).toNat IntKind.u64.bits = s := by rw [Int.toNat_natCast]; exact Nat.min_eq_left h
  unfold shl
  rw [e, IntKind.wrap_u64, pw_def, Bdef]
theorem shr_u64 (x : Int) {s : Nat} (h : s ≤ 64) : shr .u64 x (s : Int) = x / pw 2 s := by
  have e : min (s : Int).toNat IntKind.u64.bits = s := by rw [Int.toNat_natCast]; exact Nat.min_eq_left h
  unfold shr
  rw [e, pw_def]
theorem or_join {x y : Int} {i : Nat} (hx0 : 0 ≤ x) (hx : x % pw 2 i = 0) (hx1 : x < B) (hy0 : 0 ≤ y) (hy : y < pw 2 i) (hy1 : y < B) : Go.bits .or .u64 x y = x + y := by
  rw [Bdef] at hx1 hy1
  rw [pw_def] at hx hy
  exact bits_join .u64 64 (by decide) (fun n a b => u64w a (by omega)) i x y hx0 hx (by omega) hy0 hy (by omega)
theorem pw2_pq {s : Nat} (h : s ≤ 64) : pw 2 s * pw 2 (64 - s) = B := by rw [← pw_add, ← pw2_64]; congr 1; omega
theorem pw2_le_B {i : Nat} (h : i ≤ 64) : pw 2 i ≤ B := by rw [← pw2_64]; exact pw_le (by decide) h
theorem lift_digit {a P Q : Int} (hP : 0 < P) (hQ : 0 < Q) (ha : 0 ≤ a) (ha1 : a < P * Q) : a * P = a * P % (P * Q) + P * Q * (a / Q) ∧ a * P % (P * Q) % P = 0 ∧ 0 ≤ a * P % (P * Q) ∧ a * P % (P * Q) + P ≤ P * Q ∧ 0 ≤ a / Q ∧ a / Q < P := by
  have h1 := Int.mul_ediv_add_emod a Q
  have h2 := Int.emod_nonneg a (show Q ≠ 0 by omega)
  have h3 := Int.emod_lt_of_pos a hQ
  have e : a * P = a % Q * P + P * Q * (a / Q) := by
    have : a * P = (Q * (a / Q) + a % Q) * P := by rw [h1]
    rw [this]; grind
  have l0 : 0 ≤ a % Q * P := Int.mul_nonneg h2 (by omega)
  have l1 : (a % Q + 1) * P ≤ Q * P := Int.mul_le_mul_of_nonneg_right (by omega) (by omega)
  rw [Int.add_mul, Int.one_mul, Int.mul_comm Q] at l1
  have e2 : a * P % (P * Q) = a % Q * P := by
    rw [e, Int.add_mul_emod_self_left]
    exact Int.emod_eq_of_lt l0 (by omega)
  rw [e2]
  refine ⟨e, by rw [Int.mul_emod_left], l0, l1, Int.ediv_nonneg ha (by omega), Int.ediv_lt_of_lt_mul hQ ha1⟩
theorem getD_set_self (l : List Int) (i : Nat) (v : Int) (h : i < l.length) : (l.set i v).getD i 0 = v := by
  simp [List.getD_eq_getElem?_getD, h]
theorem mul_shl {d g P : Int} (hg : 0 < g) : d * g % (P * g) = d % P * g := by rw [Int.mul_comm d, Int.mul_comm P, Int.mul_comm (d % P)]; exact Int.mul_emod_mul_of_pos _ _ hg
end Go.Proofs.YthgmkigfgcejgaaDoor.PNat
