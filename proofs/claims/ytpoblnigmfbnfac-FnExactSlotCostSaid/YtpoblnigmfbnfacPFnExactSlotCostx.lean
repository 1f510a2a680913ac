-- Printed out of the translation, hand-written contracts beside it; checked by the kernel alone.
import Derived.Test.YtpoblnigmfbnfacPFnExactSlotCostx0
import Derived.Test.YtpoblnigmfbnfacPFnExactSlotCostx1
import Derived.Test.YtpoblnigmfbnfacPFnExactSlotCostx2
import Derived.Test.YtpoblnigmfbnfacPFnExactSlotCostx3
import Derived.Test.YtpoblnigmfbnfacPFnExactSlotCostx4
import Derived.Test.YtpoblnigmfbnfacPFnExactSlotCostx5
import Derived.Test.YtpoblnigmfbnfacPFnExactSlotCostx6
import Derived.Test.YtpoblnigmfbnfacPFnExactSlotCostx7
import Derived.Test.YtpoblnigmfbnfacPFnExactSlotCostx8
namespace Go.Proofs.Ytpoblnigmfbnfac.PFnExactSlotCost
open Go.RowKit Go.Proofs.YtpoblnigmfbnfacW.PrintWords Go.Proofs.YtpoblnigmfbnfacW.PrintLast Go.Proofs.YtpoblnigmfbnfacW.PrintMore
attribute [local go_sem] max2_int min2_int max_two min_two max_three min_three max_four min_four   -- for this text's walks alone
set_option linter.unusedVariables false
set_option linter.unusedSimpArgs false

end Go.Proofs.Ytpoblnigmfbnfac.PFnExactSlotCost
