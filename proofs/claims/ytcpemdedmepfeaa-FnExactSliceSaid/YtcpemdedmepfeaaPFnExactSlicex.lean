-- Printed out of the translation, hand-written contracts beside it; checked by the kernel alone.
import Derived.Test.YtcpemdedmepfeaaPFnExactSlicex0
import Derived.Test.YtcpemdedmepfeaaPFnExactSlicex1
import Derived.Test.YtcpemdedmepfeaaPFnExactSlicex2
import Derived.Test.YtcpemdedmepfeaaPFnExactSlicex3
import Derived.Test.YtcpemdedmepfeaaPFnExactSlicex4
import Derived.Test.YtcpemdedmepfeaaPFnExactSlicex5
import Derived.Test.YtcpemdedmepfeaaPFnExactSlicex6
import Derived.Test.YtcpemdedmepfeaaPFnExactSlicex7
import Derived.Test.YtcpemdedmepfeaaPFnExactSlicex8
import Derived.Test.YtcpemdedmepfeaaPFnExactSlicex9
import Derived.Test.YtcpemdedmepfeaaPFnExactSlicex10
namespace Go.Proofs.Ytcpemdedmepfeaa.PFnExactSlice
open Go.RowKit Go.Proofs.YtcpemdedmepfeaaW.PrintWords Go.Proofs.YtcpemdedmepfeaaW.PrintLast Go.Proofs.YtcpemdedmepfeaaW.PrintMore
attribute [local go_sem] max2_int min2_int max_two min_two max_three min_three max_four min_four   -- for this text's walks alone
set_option linter.unusedVariables false
set_option linter.unusedSimpArgs false

end Go.Proofs.Ytcpemdedmepfeaa.PFnExactSlice
