-- Printed out of the translation, hand-written contracts beside it; checked by the kernel alone.
import Derived.Test.YtcpemdedmepfeaaPFnRoutedx0
import Derived.Test.YtcpemdedmepfeaaPFnRoutedx1
import Derived.Test.YtcpemdedmepfeaaPFnRoutedx2
import Derived.Test.YtcpemdedmepfeaaPFnRoutedx3
import Derived.Test.YtcpemdedmepfeaaPFnRoutedx4
import Derived.Test.YtcpemdedmepfeaaPFnRoutedx5
import Derived.Test.YtcpemdedmepfeaaPFnRoutedx6
import Derived.Test.YtcpemdedmepfeaaPFnRoutedx7
import Derived.Test.YtcpemdedmepfeaaPFnRoutedx8
namespace Go.Proofs.Ytcpemdedmepfeaa.PFnRouted
open Go.RowKit Go.Proofs.YtcpemdedmepfeaaW.PrintWords Go.Proofs.YtcpemdedmepfeaaW.PrintLast Go.Proofs.YtcpemdedmepfeaaW.PrintMore
attribute [local go_sem] max2_int min2_int max_two min_two max_three min_three max_four min_four   -- for this text's walks alone
set_option linter.unusedVariables false
set_option linter.unusedSimpArgs false

end Go.Proofs.Ytcpemdedmepfeaa.PFnRouted
