-- Printed out of the translation, hand-written contracts beside it; checked by the kernel alone.
import Derived.Test.YtcpemdedmepfeabPFnExactScatterx0
import Derived.Test.YtcpemdedmepfeabPFnExactScatterx1
import Derived.Test.YtcpemdedmepfeabPFnExactScatterx2
import Derived.Test.YtcpemdedmepfeabPFnExactScatterx3
import Derived.Test.YtcpemdedmepfeabPFnExactScatterx4
import Derived.Test.YtcpemdedmepfeabPFnExactScatterx5
import Derived.Test.YtcpemdedmepfeabPFnExactScatterx6
import Derived.Test.YtcpemdedmepfeabPFnExactScatterx7
import Derived.Test.YtcpemdedmepfeabPFnExactScatterx8
namespace Go.Proofs.Ytcpemdedmepfeab.PFnExactScatter
open Go.RowKit Go.Proofs.YtcpemdedmepfeabW.PrintWords Go.Proofs.YtcpemdedmepfeabW.PrintLast Go.Proofs.YtcpemdedmepfeabW.PrintMore
attribute [local go_sem] max2_int min2_int max_two min_two max_three min_three max_four min_four   -- for this text's walks alone
set_option linter.unusedVariables false
set_option linter.unusedSimpArgs false

end Go.Proofs.Ytcpemdedmepfeab.PFnExactScatter
