/- What the functions of package nat come to, as plain arithmetic: Add, times, Mul. -/
import Derived.Test.YthgmkigfgcejgaaDoorQTXNA
set_option linter.unusedVariables false
set_option linter.unusedSimpArgs false
namespace Go.Proofs.YthgmkigfgcejgaaDoor.PNat
open Go.RowKit Go.Proofs.YthgmkigfgcejgaaDoorW.PrintWords Go.Proofs.YthgmkigfgcejgaaDoorW.PrintLast Go.Proofs.YthgmkigfgcejgaaDoorW.PrintMore Go.Proofs.YthgmkigfgcejgaaDoor.M Go.Proofs.YthgmkigfgcejgaaDoor.NM
attribute [local irreducible] add64Lo add64Hi sub64Lo sub64Hi val
theorem u64_and32 {x : Int} (h0 : 0 ≤ x) (h1 : x < 18446744073709551616) : Go.bits .and .u64 x 4294967295 = x % 4294967296 :=
  bits_mask .u64 64 (by decide) (fun n a b => u64w a (by omega)) 32 (by decide) x h0 h1
theorem mul_le_sq {a b m : Int} (ha : 0 ≤ a) (hb : 0 ≤ b) (h1 : a ≤ m) (h2 : b ≤ m) : a * b ≤ m * m :=
  Int.mul_le_mul h1 h2 hb (by omega)
end Go.Proofs.YthgmkigfgcejgaaDoor.PNat
