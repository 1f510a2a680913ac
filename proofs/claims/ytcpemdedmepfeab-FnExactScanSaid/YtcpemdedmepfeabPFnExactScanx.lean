-- Printed out of the translation, hand-written contracts beside it; checked by the kernel alone.
import Derived.Test.YtcpemdedmepfeabPFnExactScanx0
import Derived.Test.YtcpemdedmepfeabPFnExactScanx1
import Derived.Test.YtcpemdedmepfeabPFnExactScanx2
import Derived.Test.YtcpemdedmepfeabPFnExactScanx3
import Derived.Test.YtcpemdedmepfeabPFnExactScanx4
import Derived.Test.YtcpemdedmepfeabPFnExactScanx5
import Derived.Test.YtcpemdedmepfeabPFnExactScanx6
import Derived.Test.YtcpemdedmepfeabPFnExactScanx7
namespace Go.Proofs.Ytcpemdedmepfeab.PFnExactScan
open Go.RowKit Go.Proofs.YtcpemdedmepfeabW.PrintWords Go.Proofs.YtcpemdedmepfeabW.PrintLast Go.Proofs.YtcpemdedmepfeabW.PrintMore
attribute [local go_sem] max2_int min2_int max_two min_two max_three min_three max_four min_four   -- for this text's walks alone
set_option linter.unusedVariables false
set_option linter.unusedSimpArgs false

end Go.Proofs.Ytcpemdedmepfeab.PFnExactScan
