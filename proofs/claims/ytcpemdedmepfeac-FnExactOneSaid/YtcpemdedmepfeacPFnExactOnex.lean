-- Printed out of the translation, hand-written contracts beside it; checked by the kernel alone.
import Derived.Test.YtcpemdedmepfeacPFnExactOnex0
import Derived.Test.YtcpemdedmepfeacPFnExactOnex1
import Derived.Test.YtcpemdedmepfeacPFnExactOnex2
import Derived.Test.YtcpemdedmepfeacPFnExactOnex3
import Derived.Test.YtcpemdedmepfeacPFnExactOnex4
import Derived.Test.YtcpemdedmepfeacPFnExactOnex5
namespace Go.Proofs.Ytcpemdedmepfeac.PFnExactOne
open Go.RowKit Go.Proofs.YtcpemdedmepfeacW.PrintWords Go.Proofs.YtcpemdedmepfeacW.PrintLast Go.Proofs.YtcpemdedmepfeacW.PrintMore
attribute [local go_sem] max2_int min2_int max_two min_two max_three min_three max_four min_four   -- for this text's walks alone
set_option linter.unusedVariables false
set_option linter.unusedSimpArgs false

end Go.Proofs.Ytcpemdedmepfeac.PFnExactOne
