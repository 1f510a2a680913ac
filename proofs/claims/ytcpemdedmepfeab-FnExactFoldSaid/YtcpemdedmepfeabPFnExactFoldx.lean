-- Printed out of the translation, hand-written contracts beside it; checked by the kernel alone.
import Derived.Test.YtcpemdedmepfeabPFnExactFoldx0
import Derived.Test.YtcpemdedmepfeabPFnExactFoldx1
import Derived.Test.YtcpemdedmepfeabPFnExactFoldx2
import Derived.Test.YtcpemdedmepfeabPFnExactFoldx3
import Derived.Test.YtcpemdedmepfeabPFnExactFoldx4
import Derived.Test.YtcpemdedmepfeabPFnExactFoldx5
import Derived.Test.YtcpemdedmepfeabPFnExactFoldx6
import Derived.Test.YtcpemdedmepfeabPFnExactFoldx7
import Derived.Test.YtcpemdedmepfeabPFnExactFoldx8
namespace Go.Proofs.Ytcpemdedmepfeab.PFnExactFold
open Go.RowKit Go.Proofs.YtcpemdedmepfeabW.PrintWords Go.Proofs.YtcpemdedmepfeabW.PrintLast Go.Proofs.YtcpemdedmepfeabW.PrintMore
attribute [local go_sem] max2_int min2_int max_two min_two max_three min_three max_four min_four   -- for this text's walks alone
set_option linter.unusedVariables false
set_option linter.unusedSimpArgs false

end Go.Proofs.Ytcpemdedmepfeab.PFnExactFold
