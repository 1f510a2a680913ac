-- Printed out of the translation, hand-written contracts beside it; checked by the kernel alone.
import Derived.Test.YtkgknnhecbbfgabPFnExactFTreex0
import Derived.Test.YtkgknnhecbbfgabPFnExactFTreex1
import Derived.Test.YtkgknnhecbbfgabPFnExactFTreex2
import Derived.Test.YtkgknnhecbbfgabPFnExactFTreex3
import Derived.Test.YtkgknnhecbbfgabPFnExactFTreex4
namespace Go.Proofs.Ytkgknnhecbbfgab.PFnExactFTree
open Go.RowKit Go.Proofs.YtkgknnhecbbfgabW.PrintWords Go.Proofs.YtkgknnhecbbfgabW.PrintLast Go.Proofs.YtkgknnhecbbfgabW.PrintMore
attribute [local go_sem] max2_int min2_int max_two min_two max_three min_three max_four min_four   -- for this text's walks alone
set_option linter.unusedVariables false
set_option linter.unusedSimpArgs false

end Go.Proofs.Ytkgknnhecbbfgab.PFnExactFTree
