-- Printed out of the translation, hand-written contracts beside it; checked by the kernel alone.
import Derived.Test.YtcpemdedmepfeaaPFnExactSumPoolx0
import Derived.Test.YtcpemdedmepfeaaPFnExactSumPoolx1
import Derived.Test.YtcpemdedmepfeaaPFnExactSumPoolx2
import Derived.Test.YtcpemdedmepfeaaPFnExactSumPoolx3
import Derived.Test.YtcpemdedmepfeaaPFnExactSumPoolx4
import Derived.Test.YtcpemdedmepfeaaPFnExactSumPoolx5
import Derived.Test.YtcpemdedmepfeaaPFnExactSumPoolx6
import Derived.Test.YtcpemdedmepfeaaPFnExactSumPoolx7
namespace Go.Proofs.Ytcpemdedmepfeaa.PFnExactSumPool
open Go.RowKit Go.Proofs.YtcpemdedmepfeaaW.PrintWords Go.Proofs.YtcpemdedmepfeaaW.PrintLast Go.Proofs.YtcpemdedmepfeaaW.PrintMore
attribute [local go_sem] max2_int min2_int max_two min_two max_three min_three max_four min_four   -- for this text's walks alone
set_option linter.unusedVariables false
set_option linter.unusedSimpArgs false

end Go.Proofs.Ytcpemdedmepfeaa.PFnExactSumPool
