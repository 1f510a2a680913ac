-- Printed out of the translation, hand-written contracts beside it; checked by the kernel alone.
import Derived.Test.YtcpemdedmepfeabPFnExactGatherx0
import Derived.Test.YtcpemdedmepfeabPFnExactGatherx1
import Derived.Test.YtcpemdedmepfeabPFnExactGatherx2
import Derived.Test.YtcpemdedmepfeabPFnExactGatherx3
import Derived.Test.YtcpemdedmepfeabPFnExactGatherx4
import Derived.Test.YtcpemdedmepfeabPFnExactGatherx5
import Derived.Test.YtcpemdedmepfeabPFnExactGatherx6
import Derived.Test.YtcpemdedmepfeabPFnExactGatherx7
import Derived.Test.YtcpemdedmepfeabPFnExactGatherx8
namespace Go.Proofs.Ytcpemdedmepfeab.PFnExactGather
open Go.RowKit Go.Proofs.YtcpemdedmepfeabW.PrintWords Go.Proofs.YtcpemdedmepfeabW.PrintLast Go.Proofs.YtcpemdedmepfeabW.PrintMore
attribute [local go_sem] max2_int min2_int max_two min_two max_three min_three max_four min_four   -- for this text's walks alone
set_option linter.unusedVariables false
set_option linter.unusedSimpArgs false

end Go.Proofs.Ytcpemdedmepfeab.PFnExactGather
