-- Printed out of the translation, hand-written contracts beside it; checked by the kernel alone.
import Derived.Test.YtcpemdedmepfeaaPFnExactWindowsx0
import Derived.Test.YtcpemdedmepfeaaPFnExactWindowsx1
import Derived.Test.YtcpemdedmepfeaaPFnExactWindowsx2
import Derived.Test.YtcpemdedmepfeaaPFnExactWindowsx3
import Derived.Test.YtcpemdedmepfeaaPFnExactWindowsx4
import Derived.Test.YtcpemdedmepfeaaPFnExactWindowsx5
import Derived.Test.YtcpemdedmepfeaaPFnExactWindowsx6
import Derived.Test.YtcpemdedmepfeaaPFnExactWindowsx7
import Derived.Test.YtcpemdedmepfeaaPFnExactWindowsx8
namespace Go.Proofs.Ytcpemdedmepfeaa.PFnExactWindows
open Go.RowKit Go.Proofs.YtcpemdedmepfeaaW.PrintWords Go.Proofs.YtcpemdedmepfeaaW.PrintLast Go.Proofs.YtcpemdedmepfeaaW.PrintMore
attribute [local go_sem] max2_int min2_int max_two min_two max_three min_three max_four min_four   -- for this text's walks alone
set_option linter.unusedVariables false
set_option linter.unusedSimpArgs false

end Go.Proofs.Ytcpemdedmepfeaa.PFnExactWindows
