/- Layer 18: ScanBack: every decimal: the call returns true and keeps all that is older. -/
import Derived.Test.YthhkmpicpihjlaaDoorQTPScx0
import Derived.Test.YthhkmpicpihjlaaDoorQTPScx1
import Derived.Test.YthhkmpicpihjlaaDoorQTPScx2
import Derived.Test.YthhkmpicpihjlaaDoorQTPScx3
import Derived.Test.YthhkmpicpihjlaaDoorQTGSText
import Derived.Test.YthhkmpicpihjlaaDoorQTGScan
import Derived.Test.YthhkmpicpihjlaaDoorQTGShown
import Derived.Test.YthhkmpicpihjlaaDoorQTSE1
set_option linter.unusedVariables false
set_option linter.unusedSimpArgs false
namespace Go.Proofs.YthhkmpicpihjlaaDoor.PSc
open Go.RowKit Go.Proofs.YthhkmpicpihjlaaDoorW.PrintWords Go.Proofs.YthhkmpicpihjlaaDoorW.PrintLast Go.Proofs.YthhkmpicpihjlaaDoorW.PrintMore Go.Proofs.YthhkmpicpihjlaaDoor.SC
theorem scan_f (l : List UInt8) : scan_Scan.f (mkB l) = (match scanF l with | .long => some (false, false, mkB [], 0, some 13) | .bad _ => none | .ok d => some (d.nar, d.neg, mkB d.ds, d.e, none)) := rfl
end Go.Proofs.YthhkmpicpihjlaaDoor.PSc
