/-
  No cell of these rows narrows 'for every input' (looked for: loops, veiled, ifaces, maps, wideKeys, modest, calm, conditions, laid).
  DERIVED. THE GIVEN ROWS OF THIS SEAT. 6 by the template 'for every input the law returns true; each argument reads behind the call as it read before'; 0 by the template 'total and deterministic' (their statements: YtpoblnigmfbnfacTotals.lean).
  GIVEN WITH THE SEED: the statements are not yours to turn. If you find one false, say at which input.
  Laid BY PROGRAM, IN A SANDBOX (cutbox-rows.mjs): the forced cells as the released guide's own fill.sh prints them over the translation 793f0a7e1cab7211… (all of the seat's roots in one cut). By AI agents, Wed Nov 11 2026. No macro, syntax, notation, axiom, sorry.
-/
import Derived.Test.YtpoblnigmfbnfacChecked
import GoSem.Claim
import GoSem.ClaimJoined
import GoSem.ClaimMapViews
import Derived.JoinedTies
import Derived.KernelRfl
namespace Go.Proofs.Ytpoblnigmfbnfac
/- THE CELL 'sum', in the pinned program and in every row, IS THE sha256 OF THE DUMP (.gsa) THAT YtpoblnigmfbnfacProg.lean LOADS. Nothing in Lean hashes anything: it is a label: what it is worth is what the hold of that sum in a sandbox is worth. -/
noncomputable def Try.pinned : Pinned := { name := "ytpoblnigmfbnfac", sum := "793f0a7e1cab721166013454d8877f0c9fc01394948e75d9d7b7d4372940b8a4", checked := Try.checked }
namespace Rows
def none {H : Type} : Left H := { results := [], args := [] }

/-- 'laws.FnExactSpread': WHATEVER THE INPUT: true; the input reads as it did. -/
def fnExactSpreadSpec : ChangeSpec := { name := "fnExactSpread", fn := fun _ => fun
  | [d1, d2] => { results := [.lit (.bool true)], args := [d1, d2] }
  | _ => none }
def fnExactSpreadRow : OpenClaim := { program := "ytpoblnigmfbnfac", sum := "793f0a7e1cab721166013454d8877f0c9fc01394948e75d9d7b7d4372940b8a4", func := "loop.example/g00033/laws.FnExactSpread", spec := "fnExactSpread", unfollowed := true, recurses := true, plainKeys := false, apart := false }
def FnExactSpreadSaid : Prop := fnExactSpreadRow.holds Try.pinned (OpenSpec.ofChange fnExactSpreadSpec)

/-- ITS FALSE NEIGHBOUR: 'it returns false'. Refute it at one input. -/
def fnExactSpreadWrong : ChangeSpec := { name := "fnExactSpread", fn := fun _ => fun
  | [d1, d2] => { results := [.lit (.bool false)], args := [d1, d2] }
  | _ => none }
def FnExactSpreadWrongFalsely : Prop := fnExactSpreadRow.holds Try.pinned (OpenSpec.ofChange fnExactSpreadWrong)

/-- 'laws.FnFeedSkip': WHATEVER THE INPUT: true; the input reads as it did. -/
def fnFeedSkipSpec : ChangeSpec := { name := "fnFeedSkip", fn := fun _ => fun
  | [d1, d2] => { results := [.lit (.bool true)], args := [d1, d2] }
  | _ => none }
def fnFeedSkipRow : OpenClaim := { program := "ytpoblnigmfbnfac", sum := "793f0a7e1cab721166013454d8877f0c9fc01394948e75d9d7b7d4372940b8a4", func := "loop.example/g00033/laws.FnFeedSkip", spec := "fnFeedSkip", unfollowed := true, recurses := true, plainKeys := false, apart := false }
def FnFeedSkipSaid : Prop := fnFeedSkipRow.holds Try.pinned (OpenSpec.ofChange fnFeedSkipSpec)

/-- ITS FALSE NEIGHBOUR: 'it returns false'. Refute it at one input. -/
def fnFeedSkipWrong : ChangeSpec := { name := "fnFeedSkip", fn := fun _ => fun
  | [d1, d2] => { results := [.lit (.bool false)], args := [d1, d2] }
  | _ => none }
def FnFeedSkipWrongFalsely : Prop := fnFeedSkipRow.holds Try.pinned (OpenSpec.ofChange fnFeedSkipWrong)

/-- 'laws.FnExactPermute': WHATEVER THE INPUT: true; the input reads as it did. -/
def fnExactPermuteSpec : ChangeSpec := { name := "fnExactPermute", fn := fun _ => fun
  | [d1, d2] => { results := [.lit (.bool true)], args := [d1, d2] }
  | _ => none }
def fnExactPermuteRow : OpenClaim := { program := "ytpoblnigmfbnfac", sum := "793f0a7e1cab721166013454d8877f0c9fc01394948e75d9d7b7d4372940b8a4", func := "loop.example/g00033/laws.FnExactPermute", spec := "fnExactPermute", unfollowed := true, recurses := true, plainKeys := false, apart := false }
def FnExactPermuteSaid : Prop := fnExactPermuteRow.holds Try.pinned (OpenSpec.ofChange fnExactPermuteSpec)

/-- ITS FALSE NEIGHBOUR: 'it returns false'. Refute it at one input. -/
def fnExactPermuteWrong : ChangeSpec := { name := "fnExactPermute", fn := fun _ => fun
  | [d1, d2] => { results := [.lit (.bool false)], args := [d1, d2] }
  | _ => none }
def FnExactPermuteWrongFalsely : Prop := fnExactPermuteRow.holds Try.pinned (OpenSpec.ofChange fnExactPermuteWrong)

/-- 'laws.FnExactSlotCost': WHATEVER THE INPUT: true; the input reads as it did. -/
def fnExactSlotCostSpec : ChangeSpec := { name := "fnExactSlotCost", fn := fun _ => fun
  | [d1, d2, d3] => { results := [.lit (.bool true)], args := [d1, d2, d3] }
  | _ => none }
def fnExactSlotCostRow : OpenClaim := { program := "ytpoblnigmfbnfac", sum := "793f0a7e1cab721166013454d8877f0c9fc01394948e75d9d7b7d4372940b8a4", func := "loop.example/g00033/laws.FnExactSlotCost", spec := "fnExactSlotCost", plainKeys := false, apart := false }
def FnExactSlotCostSaid : Prop := fnExactSlotCostRow.holds Try.pinned (OpenSpec.ofChange fnExactSlotCostSpec)

/-- ITS FALSE NEIGHBOUR: 'it returns false'. Refute it at one input. -/
def fnExactSlotCostWrong : ChangeSpec := { name := "fnExactSlotCost", fn := fun _ => fun
  | [d1, d2, d3] => { results := [.lit (.bool false)], args := [d1, d2, d3] }
  | _ => none }
def FnExactSlotCostWrongFalsely : Prop := fnExactSlotCostRow.holds Try.pinned (OpenSpec.ofChange fnExactSlotCostWrong)

/-- 'laws.FnExactFinish': WHATEVER THE INPUT: true; the input reads as it did. -/
def fnExactFinishSpec : ChangeSpec := { name := "fnExactFinish", fn := fun _ => fun
  | [d1, d2, d3, d4] => { results := [.lit (.bool true)], args := [d1, d2, d3, d4] }
  | _ => none }
def fnExactFinishRow : OpenClaim := { program := "ytpoblnigmfbnfac", sum := "793f0a7e1cab721166013454d8877f0c9fc01394948e75d9d7b7d4372940b8a4", func := "loop.example/g00033/laws.FnExactFinish", spec := "fnExactFinish", plainKeys := false, apart := false }
def FnExactFinishSaid : Prop := fnExactFinishRow.holds Try.pinned (OpenSpec.ofChange fnExactFinishSpec)

/-- ITS FALSE NEIGHBOUR: 'it returns false'. Refute it at one input. -/
def fnExactFinishWrong : ChangeSpec := { name := "fnExactFinish", fn := fun _ => fun
  | [d1, d2, d3, d4] => { results := [.lit (.bool false)], args := [d1, d2, d3, d4] }
  | _ => none }
def FnExactFinishWrongFalsely : Prop := fnExactFinishRow.holds Try.pinned (OpenSpec.ofChange fnExactFinishWrong)

/-- 'laws.FnFeedWorkers': WHATEVER THE INPUT: true; the input reads as it did. -/
def fnFeedWorkersSpec : ChangeSpec := { name := "fnFeedWorkers", fn := fun _ => fun
  | [d1, d2] => { results := [.lit (.bool true)], args := [d1, d2] }
  | _ => none }
def fnFeedWorkersRow : OpenClaim := { program := "ytpoblnigmfbnfac", sum := "793f0a7e1cab721166013454d8877f0c9fc01394948e75d9d7b7d4372940b8a4", func := "loop.example/g00033/laws.FnFeedWorkers", spec := "fnFeedWorkers", unfollowed := true, recurses := true, plainKeys := false, apart := false }
def FnFeedWorkersSaid : Prop := fnFeedWorkersRow.holds Try.pinned (OpenSpec.ofChange fnFeedWorkersSpec)

/-- ITS FALSE NEIGHBOUR: 'it returns false'. Refute it at one input. -/
def fnFeedWorkersWrong : ChangeSpec := { name := "fnFeedWorkers", fn := fun _ => fun
  | [d1, d2] => { results := [.lit (.bool false)], args := [d1, d2] }
  | _ => none }
def FnFeedWorkersWrongFalsely : Prop := fnFeedWorkersRow.holds Try.pinned (OpenSpec.ofChange fnFeedWorkersWrong)

/- THE SECOND FORM. 'bulk': how many values and letters a reading holds, each counted each time it is reached (what is shared counts as often as it is met; a slice's spare places count too). A statement '..UptoSaid' is the law's where the arguments, and the package variables that the reading takes, are together of bulk at most 1048576: NARROWER than '..Said'. Prove '..Said' where nothing that the law and all that it calls make is longer than what came in: it says more and counts as full. Else prove '..UptoSaid'. A law counts once. -/
mutual
def uptoBulk {H : Type} : DataW H → Nat
  | .lit (.string bytes) => bytes.length + 1
  | .lit _ => 1
  | .nil => 1
  | .ptr d => uptoBulk d + 1
  | .slice elems spare => uptoBulkAll elems + uptoBulkAll spare + 1
  | .agg parts => uptoBulkAll parts + 1
  | .iface _ d => uptoBulk d + 1
  | .map entries => uptoBulkEntries entries + 1
  | .held _ => 1
def uptoBulkAll {H : Type} : List (DataW H) → Nat
  | [] => 0
  | d :: r => uptoBulk d + uptoBulkAll r
def uptoBulkEntries {H : Type} : List (Lit × DataW H) → Nat
  | [] => 0
  | x :: r => uptoBulkEntry x + uptoBulkEntries r
def uptoBulkEntry {H : Type} : Lit × DataW H → Nat
  | (.string bytes, d) => bytes.length + uptoBulk d + 1
  | (_, d) => uptoBulk d + 1
 end
def uptoSmall : (H : Type) → List (DataW H) → Bool := fun _ ds => decide (uptoBulkAll ds ≤ 1048576)
def OpenSpec.upto (s : _root_.Go.ChangeSpec) : _root_.Go.OpenSpec := { _root_.Go.OpenSpec.ofChange s with cond := some uptoSmall }

/-- 'laws.FnExactSpread', WHERE WHAT IT READS IS OF BULK AT MOST 1048576: true; the input reads as it did. -/
def fnExactSpreadUptoRow : OpenClaim := { program := "ytpoblnigmfbnfac", sum := "793f0a7e1cab721166013454d8877f0c9fc01394948e75d9d7b7d4372940b8a4", func := "loop.example/g00033/laws.FnExactSpread", spec := "fnExactSpread", unfollowed := true, recurses := true, plainKeys := false, apart := false, narrowed := true }
def FnExactSpreadUptoSaid : Prop := fnExactSpreadUptoRow.holds Try.pinned (OpenSpec.upto fnExactSpreadSpec)

/-- 'laws.FnFeedSkip', WHERE WHAT IT READS IS OF BULK AT MOST 1048576: true; the input reads as it did. -/
def fnFeedSkipUptoRow : OpenClaim := { program := "ytpoblnigmfbnfac", sum := "793f0a7e1cab721166013454d8877f0c9fc01394948e75d9d7b7d4372940b8a4", func := "loop.example/g00033/laws.FnFeedSkip", spec := "fnFeedSkip", unfollowed := true, recurses := true, plainKeys := false, apart := false, narrowed := true }
def FnFeedSkipUptoSaid : Prop := fnFeedSkipUptoRow.holds Try.pinned (OpenSpec.upto fnFeedSkipSpec)

/-- 'laws.FnExactPermute', WHERE WHAT IT READS IS OF BULK AT MOST 1048576: true; the input reads as it did. -/
def fnExactPermuteUptoRow : OpenClaim := { program := "ytpoblnigmfbnfac", sum := "793f0a7e1cab721166013454d8877f0c9fc01394948e75d9d7b7d4372940b8a4", func := "loop.example/g00033/laws.FnExactPermute", spec := "fnExactPermute", unfollowed := true, recurses := true, plainKeys := false, apart := false, narrowed := true }
def FnExactPermuteUptoSaid : Prop := fnExactPermuteUptoRow.holds Try.pinned (OpenSpec.upto fnExactPermuteSpec)

/-- 'laws.FnExactSlotCost', WHERE WHAT IT READS IS OF BULK AT MOST 1048576: true; the input reads as it did. -/
def fnExactSlotCostUptoRow : OpenClaim := { program := "ytpoblnigmfbnfac", sum := "793f0a7e1cab721166013454d8877f0c9fc01394948e75d9d7b7d4372940b8a4", func := "loop.example/g00033/laws.FnExactSlotCost", spec := "fnExactSlotCost", plainKeys := false, apart := false, narrowed := true }
def FnExactSlotCostUptoSaid : Prop := fnExactSlotCostUptoRow.holds Try.pinned (OpenSpec.upto fnExactSlotCostSpec)

/-- 'laws.FnExactFinish', WHERE WHAT IT READS IS OF BULK AT MOST 1048576: true; the input reads as it did. -/
def fnExactFinishUptoRow : OpenClaim := { program := "ytpoblnigmfbnfac", sum := "793f0a7e1cab721166013454d8877f0c9fc01394948e75d9d7b7d4372940b8a4", func := "loop.example/g00033/laws.FnExactFinish", spec := "fnExactFinish", plainKeys := false, apart := false, narrowed := true }
def FnExactFinishUptoSaid : Prop := fnExactFinishUptoRow.holds Try.pinned (OpenSpec.upto fnExactFinishSpec)

/-- 'laws.FnFeedWorkers', WHERE WHAT IT READS IS OF BULK AT MOST 1048576: true; the input reads as it did. -/
def fnFeedWorkersUptoRow : OpenClaim := { program := "ytpoblnigmfbnfac", sum := "793f0a7e1cab721166013454d8877f0c9fc01394948e75d9d7b7d4372940b8a4", func := "loop.example/g00033/laws.FnFeedWorkers", spec := "fnFeedWorkers", unfollowed := true, recurses := true, plainKeys := false, apart := false, narrowed := true }
def FnFeedWorkersUptoSaid : Prop := fnFeedWorkersUptoRow.holds Try.pinned (OpenSpec.upto fnFeedWorkersSpec)

end Rows
end Go.Proofs.Ytpoblnigmfbnfac
