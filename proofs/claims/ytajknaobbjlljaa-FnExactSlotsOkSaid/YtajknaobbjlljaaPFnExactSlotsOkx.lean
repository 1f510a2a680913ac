-- Printed out of the translation, hand-written contracts beside it; checked by the kernel alone.
import Derived.Test.YtajknaobbjlljaaPFnExactSlotsOkx0
import Derived.Test.YtajknaobbjlljaaPFnExactSlotsOkx1
import Derived.Test.YtajknaobbjlljaaPFnExactSlotsOkx2
import Derived.Test.YtajknaobbjlljaaPFnExactSlotsOkx3
import Derived.Test.YtajknaobbjlljaaPFnExactSlotsOkx4
import Derived.Test.YtajknaobbjlljaaPFnExactSlotsOkx5
namespace Go.Proofs.Ytajknaobbjlljaa.PFnExactSlotsOk
open Go.RowKit Go.Proofs.YtajknaobbjlljaaW.PrintWords Go.Proofs.YtajknaobbjlljaaW.PrintLast Go.Proofs.YtajknaobbjlljaaW.PrintMore
attribute [local go_sem] max2_int min2_int max_two min_two max_three min_three max_four min_four   -- for this text's walks alone
set_option linter.unusedVariables false
set_option linter.unusedSimpArgs false

end Go.Proofs.Ytajknaobbjlljaa.PFnExactSlotsOk
