-- Printed out of the translation, hand-written contracts beside it; checked by the kernel alone.
import Derived.Test.YtpoblnigmfbnfaaPFnExactMeetx0
import Derived.Test.YtpoblnigmfbnfaaPFnExactMeetx1
import Derived.Test.YtpoblnigmfbnfaaPFnExactMeetx2
import Derived.Test.YtpoblnigmfbnfaaPFnExactMeetx3
import Derived.Test.YtpoblnigmfbnfaaPFnExactMeetx4
import Derived.Test.YtpoblnigmfbnfaaPFnExactMeetx5
import Derived.Test.YtpoblnigmfbnfaaPFnExactMeetx6
import Derived.Test.YtpoblnigmfbnfaaPFnExactMeetx7
namespace Go.Proofs.Ytpoblnigmfbnfaa.PFnExactMeet
open Go.RowKit Go.Proofs.YtpoblnigmfbnfaaW.PrintWords Go.Proofs.YtpoblnigmfbnfaaW.PrintLast Go.Proofs.YtpoblnigmfbnfaaW.PrintMore
attribute [local go_sem] max2_int min2_int max_two min_two max_three min_three max_four min_four   -- for this text's walks alone
set_option linter.unusedVariables false
set_option linter.unusedSimpArgs false

end Go.Proofs.Ytpoblnigmfbnfaa.PFnExactMeet
