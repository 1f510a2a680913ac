-- Printed out of the translation, hand-written contracts beside it; checked by the kernel alone.
import Derived.Test.YtcpemdedmepfeaaPFnExactPadx0
import Derived.Test.YtcpemdedmepfeaaPFnExactPadx1
import Derived.Test.YtcpemdedmepfeaaPFnExactPadx2
import Derived.Test.YtcpemdedmepfeaaPFnExactPadx3
import Derived.Test.YtcpemdedmepfeaaPFnExactPadx4
import Derived.Test.YtcpemdedmepfeaaPFnExactPadx5
import Derived.Test.YtcpemdedmepfeaaPFnExactPadx6
import Derived.Test.YtcpemdedmepfeaaPFnExactPadx7
import Derived.Test.YtcpemdedmepfeaaPFnExactPadx8
namespace Go.Proofs.Ytcpemdedmepfeaa.PFnExactPad
open Go.RowKit Go.Proofs.YtcpemdedmepfeaaW.PrintWords Go.Proofs.YtcpemdedmepfeaaW.PrintLast Go.Proofs.YtcpemdedmepfeaaW.PrintMore
attribute [local go_sem] max2_int min2_int max_two min_two max_three min_three max_four min_four   -- for this text's walks alone
set_option linter.unusedVariables false
set_option linter.unusedSimpArgs false

end Go.Proofs.Ytcpemdedmepfeaa.PFnExactPad
