-- Printed out of the translation, hand-written contracts beside it; checked by the kernel alone.
import Derived.Test.YtcpemdedmepfeadPFnExactNormalisex0
import Derived.Test.YtcpemdedmepfeadPFnExactNormalisex1
import Derived.Test.YtcpemdedmepfeadPFnExactNormalisex2
import Derived.Test.YtcpemdedmepfeadPFnExactNormalisex3
import Derived.Test.YtcpemdedmepfeadPFnExactNormalisex4
import Derived.Test.YtcpemdedmepfeadPFnExactNormalisex5
import Derived.Test.YtcpemdedmepfeadPFnExactNormalisex6
import Derived.Test.YtcpemdedmepfeadPFnExactNormalisex7
import Derived.Test.YtcpemdedmepfeadPFnExactNormalisex8
import Derived.Test.YtcpemdedmepfeadPFnExactNormalisex9
namespace Go.Proofs.Ytcpemdedmepfead.PFnExactNormalise
open Go.RowKit Go.Proofs.YtcpemdedmepfeadW.PrintWords Go.Proofs.YtcpemdedmepfeadW.PrintLast Go.Proofs.YtcpemdedmepfeadW.PrintMore
attribute [local go_sem] max2_int min2_int max_two min_two max_three min_three max_four min_four   -- for this text's walks alone
set_option linter.unusedVariables false
set_option linter.unusedSimpArgs false

end Go.Proofs.Ytcpemdedmepfead.PFnExactNormalise
