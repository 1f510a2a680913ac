-- Printed out of the translation, hand-written contracts beside it; checked by the kernel alone.
import Derived.Test.YtkgknnhecbbfgaaPFnExactFSumx0
import Derived.Test.YtkgknnhecbbfgaaPFnExactFSumx1
import Derived.Test.YtkgknnhecbbfgaaPFnExactFSumx2
import Derived.Test.YtkgknnhecbbfgaaPFnExactFSumx3
import Derived.Test.YtkgknnhecbbfgaaPFnExactFSumx4
namespace Go.Proofs.Ytkgknnhecbbfgaa.PFnExactFSum
open Go.RowKit Go.Proofs.YtkgknnhecbbfgaaW.PrintWords Go.Proofs.YtkgknnhecbbfgaaW.PrintLast Go.Proofs.YtkgknnhecbbfgaaW.PrintMore
attribute [local go_sem] max2_int min2_int max_two min_two max_three min_three max_four min_four   -- for this text's walks alone
set_option linter.unusedVariables false
set_option linter.unusedSimpArgs false

end Go.Proofs.Ytkgknnhecbbfgaa.PFnExactFSum
