-- Printed out of the translation, hand-written contracts beside it; checked by the kernel alone.
import Derived.Test.YtcpemdedmepfeadProg
import Derived.RangeFuncNested
import Derived.RangeFuncBound
import Derived.RangeFuncCalls
import Derived.RangeFuncLeaves
import Derived.Shelf.Abstract
import Derived.WalkKit
import Derived.OwnWalkIn
import Derived.TacticsInMore
import Derived.LoopNIn
import Derived.LoopIn
import Derived.Sort.LoopGhostIn
import Derived.Sort.QuietIn
import Derived.Sort.CutIn
import Derived.Maps.AppendAt
import Derived.Shelf.RegionOpen
import Derived.Deep.RegionHeld3
import Derived.Maps.Own
import Derived.Maps.OwnOps
import Derived.Maps.Views
import Derived.Maps.OwnSet
import Derived.DeepKeys4
import Derived.Lib.SliceRun
import Derived.Shelf.Small.Bits
import Derived.WalkLawsBesides
import Derived.Laws.FloatArith
import Derived.Laws.Externs
import Derived.RegionTactic
import Derived.ChangeAlike
import Derived.BigRegion
import Derived.Below
import Derived.Deep.Draws
import Derived.Deep.AppendLies
import Derived.Maps.AppendAt
import Derived.OwnWalk
import Derived.Laws.BytesArg
import Derived.Laws.MakeOwn
import Derived.Laws.OwnMore
import Derived.Deep.OwnRows
import Derived.Tactics
import Derived.Lib.ConvBytes
import Derived.Laws.Slices
import Derived.WalkKit
import Derived.KernelRfl
import Derived.RowKit3
import Derived.Deep.LoopGhost
import Derived.Deep.QuietTactic
import Derived.BigQuiet
import Derived.WideLaws
import Derived.Deep.DeepCutAuto
import Derived.Deep.CutBlock
import Derived.Deep.RegionHeld3
import Derived.Laws.Rows
import Derived.Lib.AppendStr
import Derived.ArgAppend
import Derived.Laws.IdiomCopy
import Derived.OrdersHeld
import Derived.Laws.BitsLemmas
import Derived.RowKit
import Derived.Test.YtcpemdedmepfeadWWords
import Derived.Test.YtcpemdedmepfeadWLast
import Derived.Test.YtcpemdedmepfeadWTab
import Derived.Test.YtcpemdedmepfeadWFour
import Derived.Test.YtcpemdedmepfeadWQPut
import Derived.Test.YtcpemdedmepfeadWApart
import Derived.Test.YtcpemdedmepfeadWArr
import Derived.Test.YtcpemdedmepfeadWZeros
import Derived.Test.YtcpemdedmepfeadWFoot
import Derived.Test.YtcpemdedmepfeadWKept
import Derived.Test.YtcpemdedmepfeadWShare
import Derived.Test.YtcpemdedmepfeadWN
import Derived.Test.YtcpemdedmepfeadWFootNe
import Derived.Test.YtcpemdedmepfeadWAt
import Derived.Test.YtcpemdedmepfeadWEqStruct
import Derived.Test.YtcpemdedmepfeadWRepsOne
import Derived.Test.YtcpemdedmepfeadWInv
import Derived.Test.YtcpemdedmepfeadWInvWords
import Derived.Test.YtcpemdedmepfeadWGuard
import Derived.Test.YtcpemdedmepfeadWNEv
import Derived.Test.YtcpemdedmepfeadWMore
namespace Go.Proofs.Ytcpemdedmepfead.PFnExactNormalise
open Go.RowKit Go.Proofs.YtcpemdedmepfeadW.PrintWords Go.Proofs.YtcpemdedmepfeadW.PrintLast Go.Proofs.YtcpemdedmepfeadW.PrintMore
attribute [local go_sem] max2_int min2_int max_two min_two max_three min_three max_four min_four   -- for this text's walks alone
set_option linter.unusedVariables false
set_option linter.unusedSimpArgs false



def errW : Option Int → Value
  | none => .nilIface
  | some c => .iface 0 (.int .i64 c)
theorem errW_none : errW none = .nilIface := rfl
theorem errW_some (c : Int) : errW (some c) = .iface 0 (.int .i64 c) := rfl

theorem info3 : (Try.prog.info? 3).map (fun i => (i.zero, i.size, i.bytes)) = some (some (.int .i64 0), 1, 8) := by kernel_rfl
-- the values' own types

end Go.Proofs.Ytcpemdedmepfead.PFnExactNormalise
