/- What the functions of the reference vernierref04 come to, second part: Shl, Meant, Cut, Mul, Word, Shr, Told, Same; the law's own 'is' and 'shown'. -/
import Derived.Test.YthgmkigfgcejgaaDoorQTBPNatx5
import Derived.Test.YthgmkigfgcejgaaDoorQTBPNatx0
import Derived.Test.YthgmkigfgcejgaaDoorQTBPNatx1
import Derived.Test.YthgmkigfgcejgaaDoorQTBPNatx2
import Derived.Test.YthgmkigfgcejgaaDoorQTBNA
set_option linter.unusedVariables false
set_option linter.unusedSimpArgs false
namespace Go.Proofs.YthgmkigfgcejgaaDoor.PNat
open Go.RowKit Go.Proofs.YthgmkigfgcejgaaDoorW.PrintWords Go.Proofs.YthgmkigfgcejgaaDoorW.PrintLast Go.Proofs.YthgmkigfgcejgaaDoorW.PrintMore Go.Proofs.YthgmkigfgcejgaaDoor.M Go.Proofs.YthgmkigfgcejgaaDoor.NM
attribute [local irreducible] add64Lo add64Hi sub64Lo sub64Hi val
theorem pw2_pos (i : Nat) : 0 < pw 2 i := pw_pos (by decide) i
theorem shown_ev : Ev (fun k => vernierlaw04_shown.f k) true := Ev.of vernierlaw04_shown.mono (k := 12) (by decide +kernel)
end Go.Proofs.YthgmkigfgcejgaaDoor.PNat
