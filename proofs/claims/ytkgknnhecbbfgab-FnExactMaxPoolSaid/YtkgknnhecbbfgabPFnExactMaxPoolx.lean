-- Printed out of the translation, hand-written contracts beside it; checked by the kernel alone.
import Derived.Test.YtkgknnhecbbfgabPFnExactMaxPoolx0
import Derived.Test.YtkgknnhecbbfgabPFnExactMaxPoolx1
import Derived.Test.YtkgknnhecbbfgabPFnExactMaxPoolx2
import Derived.Test.YtkgknnhecbbfgabPFnExactMaxPoolx3
import Derived.Test.YtkgknnhecbbfgabPFnExactMaxPoolx4
import Derived.Test.YtkgknnhecbbfgabPFnExactMaxPoolx5
import Derived.Test.YtkgknnhecbbfgabPFnExactMaxPoolx6
import Derived.Test.YtkgknnhecbbfgabPFnExactMaxPoolx7
namespace Go.Proofs.Ytkgknnhecbbfgab.PFnExactMaxPool
open Go.RowKit Go.Proofs.YtkgknnhecbbfgabW.PrintWords Go.Proofs.YtkgknnhecbbfgabW.PrintLast Go.Proofs.YtkgknnhecbbfgabW.PrintMore
attribute [local go_sem] max2_int min2_int max_two min_two max_three min_three max_four min_four   -- for this text's walks alone
set_option linter.unusedVariables false
set_option linter.unusedSimpArgs false

end Go.Proofs.Ytkgknnhecbbfgab.PFnExactMaxPool
