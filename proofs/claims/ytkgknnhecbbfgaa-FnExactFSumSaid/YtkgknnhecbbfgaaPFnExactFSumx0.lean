-- Printed out of the translation, hand-written contracts beside it; checked by the kernel alone.
import Derived.Test.YtkgknnhecbbfgaaProg
import Derived.Lib.SliceRun
import Derived.Shelf.Small.Bits
import Derived.WalkLawsBesides
import Derived.Laws.FloatArith
import Derived.Laws.Externs
import Derived.Below
import Derived.Deep.Draws
import Derived.Deep.AppendLies
import Derived.Maps.AppendAt
import Derived.OwnWalk
import Derived.Laws.BytesArg
import Derived.Laws.MakeOwn
import Derived.Laws.OwnMore
import Derived.Deep.OwnRows
import Derived.Tactics
import Derived.Lib.ConvBytes
import Derived.Laws.Slices
import Derived.WalkKit
import Derived.KernelRfl
import Derived.RowKit3
import Derived.Deep.LoopGhost
import Derived.Deep.QuietTactic
import Derived.BigQuiet
import Derived.WideLaws
import Derived.Deep.DeepCutAuto
import Derived.Deep.CutBlock
import Derived.Deep.RegionHeld3
import Derived.Laws.Rows
import Derived.Lib.AppendStr
import Derived.ArgAppend
import Derived.Laws.IdiomCopy
import Derived.OrdersHeld
import Derived.Laws.BitsLemmas
import Derived.RowKit
import Derived.Test.YtkgknnhecbbfgaaWWords
import Derived.Test.YtkgknnhecbbfgaaWLast
import Derived.Test.YtkgknnhecbbfgaaWTab
import Derived.Test.YtkgknnhecbbfgaaWFour
import Derived.Test.YtkgknnhecbbfgaaWQPut
import Derived.Test.YtkgknnhecbbfgaaWApart
import Derived.Test.YtkgknnhecbbfgaaWArr
import Derived.Test.YtkgknnhecbbfgaaWZeros
import Derived.Test.YtkgknnhecbbfgaaWFoot
import Derived.Test.YtkgknnhecbbfgaaWKept
import Derived.Test.YtkgknnhecbbfgaaWShare
import Derived.Test.YtkgknnhecbbfgaaWN
import Derived.Test.YtkgknnhecbbfgaaWFootNe
import Derived.Test.YtkgknnhecbbfgaaWAt
import Derived.Test.YtkgknnhecbbfgaaWEqStruct
import Derived.Test.YtkgknnhecbbfgaaWRepsOne
import Derived.Test.YtkgknnhecbbfgaaWInv
import Derived.Test.YtkgknnhecbbfgaaWInvWords
import Derived.Test.YtkgknnhecbbfgaaWGuard
import Derived.Test.YtkgknnhecbbfgaaWNEv
import Derived.Test.YtkgknnhecbbfgaaWMore
namespace Go.Proofs.Ytkgknnhecbbfgaa.PFnExactFSum
open Go.RowKit Go.Proofs.YtkgknnhecbbfgaaW.PrintWords Go.Proofs.YtkgknnhecbbfgaaW.PrintLast Go.Proofs.YtkgknnhecbbfgaaW.PrintMore
attribute [local go_sem] max2_int min2_int max_two min_two max_three min_three max_four min_four   -- for this text's walks alone
set_option linter.unusedVariables false
set_option linter.unusedSimpArgs false



def errW : Option Int → Value
  | none => .nilIface
  | some c => .iface 0 (.int .i64 c)
theorem errW_none : errW none = .nilIface := rfl
theorem errW_some (c : Int) : errW (some c) = .iface 0 (.int .i64 c) := rfl

theorem info3 : (Try.prog.info? 3).map (fun i => (i.zero, i.size, i.bytes)) = some (some (.int .i64 0), 1, 8) := by kernel_rfl
-- the values' own types

end Go.Proofs.Ytkgknnhecbbfgaa.PFnExactFSum
