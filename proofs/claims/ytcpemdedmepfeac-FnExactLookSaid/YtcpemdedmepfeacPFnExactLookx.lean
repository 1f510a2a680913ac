-- Printed out of the translation, hand-written contracts beside it; checked by the kernel alone.
import Derived.Test.YtcpemdedmepfeacPFnExactLookx0
import Derived.Test.YtcpemdedmepfeacPFnExactLookx1
import Derived.Test.YtcpemdedmepfeacPFnExactLookx2
import Derived.Test.YtcpemdedmepfeacPFnExactLookx3
import Derived.Test.YtcpemdedmepfeacPFnExactLookx4
import Derived.Test.YtcpemdedmepfeacPFnExactLookx5
import Derived.Test.YtcpemdedmepfeacPFnExactLookx6
import Derived.Test.YtcpemdedmepfeacPFnExactLookx7
import Derived.Test.YtcpemdedmepfeacPFnExactLookx8
import Derived.Test.YtcpemdedmepfeacPFnExactLookx9
import Derived.Test.YtcpemdedmepfeacPFnExactLookx10
namespace Go.Proofs.Ytcpemdedmepfeac.PFnExactLook
open Go.RowKit Go.Proofs.YtcpemdedmepfeacW.PrintWords Go.Proofs.YtcpemdedmepfeacW.PrintLast Go.Proofs.YtcpemdedmepfeacW.PrintMore
attribute [local go_sem] max2_int min2_int max_two min_two max_three min_three max_four min_four   -- for this text's walks alone
set_option linter.unusedVariables false
set_option linter.unusedSimpArgs false

end Go.Proofs.Ytcpemdedmepfeac.PFnExactLook
