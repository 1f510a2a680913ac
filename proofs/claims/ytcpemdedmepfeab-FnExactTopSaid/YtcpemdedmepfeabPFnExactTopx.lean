-- Printed out of the translation, hand-written contracts beside it; checked by the kernel alone.
import Derived.Test.YtcpemdedmepfeabPFnExactTopx0
import Derived.Test.YtcpemdedmepfeabPFnExactTopx1
import Derived.Test.YtcpemdedmepfeabPFnExactTopx2
import Derived.Test.YtcpemdedmepfeabPFnExactTopx3
import Derived.Test.YtcpemdedmepfeabPFnExactTopx4
import Derived.Test.YtcpemdedmepfeabPFnExactTopx5
import Derived.Test.YtcpemdedmepfeabPFnExactTopx6
import Derived.Test.YtcpemdedmepfeabPFnExactTopx7
namespace Go.Proofs.Ytcpemdedmepfeab.PFnExactTop
open Go.RowKit Go.Proofs.YtcpemdedmepfeabW.PrintWords Go.Proofs.YtcpemdedmepfeabW.PrintLast Go.Proofs.YtcpemdedmepfeabW.PrintMore
attribute [local go_sem] max2_int min2_int max_two min_two max_three min_three max_four min_four   -- for this text's walks alone
set_option linter.unusedVariables false
set_option linter.unusedSimpArgs false

end Go.Proofs.Ytcpemdedmepfeab.PFnExactTop
