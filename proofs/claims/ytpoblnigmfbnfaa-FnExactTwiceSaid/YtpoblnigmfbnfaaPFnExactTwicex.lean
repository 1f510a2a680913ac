-- Printed out of the translation, hand-written contracts beside it; checked by the kernel alone.
import Derived.Test.YtpoblnigmfbnfaaPFnExactTwicex0
import Derived.Test.YtpoblnigmfbnfaaPFnExactTwicex1
import Derived.Test.YtpoblnigmfbnfaaPFnExactTwicex2
import Derived.Test.YtpoblnigmfbnfaaPFnExactTwicex3
import Derived.Test.YtpoblnigmfbnfaaPFnExactTwicex4
import Derived.Test.YtpoblnigmfbnfaaPFnExactTwicex5
import Derived.Test.YtpoblnigmfbnfaaPFnExactTwicex6
namespace Go.Proofs.Ytpoblnigmfbnfaa.PFnExactTwice
open Go.RowKit Go.Proofs.YtpoblnigmfbnfaaW.PrintWords Go.Proofs.YtpoblnigmfbnfaaW.PrintLast Go.Proofs.YtpoblnigmfbnfaaW.PrintMore
attribute [local go_sem] max2_int min2_int max_two min_two max_three min_three max_four min_four   -- for this text's walks alone
set_option linter.unusedVariables false
set_option linter.unusedSimpArgs false

end Go.Proofs.Ytpoblnigmfbnfaa.PFnExactTwice
