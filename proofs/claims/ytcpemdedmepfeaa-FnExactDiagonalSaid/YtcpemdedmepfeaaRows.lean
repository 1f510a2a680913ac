/-
  No cell of these rows narrows 'for every input' (looked for: loops, veiled, ifaces, maps, wideKeys, modest, calm, conditions, laid).
  DERIVED. THE GIVEN ROWS OF THIS SEAT. 6 by the template 'for every input the law returns true; each argument reads behind the call as it read before'; 0 by the template 'total and deterministic' (their statements: YtcpemdedmepfeaaTotals.lean).
  GIVEN WITH THE SEED: the statements are not yours to turn. If you find one false, say at which input.
  Laid BY PROGRAM, IN A SANDBOX (cutbox-rows.mjs): the forced cells as the released guide's own fill.sh prints them over the translation 42b75dfba350b8d0… (all of the seat's roots in one cut). By AI agents, Wed Nov 11 2026. No macro, syntax, notation, axiom, sorry.
-/
import Derived.Test.YtcpemdedmepfeaaChecked
import GoSem.Claim
import GoSem.ClaimJoined
import GoSem.ClaimMapViews
import Derived.JoinedTies
import Derived.KernelRfl
namespace Go.Proofs.Ytcpemdedmepfeaa
/- THE CELL 'sum', in the pinned program and in every row, IS THE sha256 OF THE DUMP (.gsa) THAT YtcpemdedmepfeaaProg.lean LOADS. Nothing in Lean hashes anything: it is a label: what it is worth is what the hold of that sum in a sandbox is worth. -/
noncomputable def Try.pinned : Pinned := { name := "ytcpemdedmepfeaa", sum := "42b75dfba350b8d0b0d7c3a2482cc81aa1677ca663b173f23834035dea1c5b63", checked := Try.checked }
namespace Rows
def none {H : Type} : Left H := { results := [], args := [] }

/-- 'laws.FnExactSlice': WHATEVER THE INPUT: true; the input reads as it did. -/
def fnExactSliceSpec : ChangeSpec := { name := "fnExactSlice", fn := fun _ => fun
  | [d1, d2, d3, d4, d5] => { results := [.lit (.bool true)], args := [d1, d2, d3, d4, d5] }
  | _ => none }
def fnExactSliceRow : OpenClaim := { program := "ytcpemdedmepfeaa", sum := "42b75dfba350b8d0b0d7c3a2482cc81aa1677ca663b173f23834035dea1c5b63", func := "loop.example/g00033/laws.FnExactSlice", spec := "fnExactSlice", unfollowed := true, recurses := true, apart := false }
def FnExactSliceSaid : Prop := fnExactSliceRow.holds Try.pinned (OpenSpec.ofChange fnExactSliceSpec)

/-- ITS FALSE NEIGHBOUR: 'it returns false'. Refute it at one input. -/
def fnExactSliceWrong : ChangeSpec := { name := "fnExactSlice", fn := fun _ => fun
  | [d1, d2, d3, d4, d5] => { results := [.lit (.bool false)], args := [d1, d2, d3, d4, d5] }
  | _ => none }
def FnExactSliceWrongFalsely : Prop := fnExactSliceRow.holds Try.pinned (OpenSpec.ofChange fnExactSliceWrong)

/-- 'laws.FnExactWindows': WHATEVER THE INPUT: true; the input reads as it did. -/
def fnExactWindowsSpec : ChangeSpec := { name := "fnExactWindows", fn := fun _ => fun
  | [d1, d2, d3, d4] => { results := [.lit (.bool true)], args := [d1, d2, d3, d4] }
  | _ => none }
def fnExactWindowsRow : OpenClaim := { program := "ytcpemdedmepfeaa", sum := "42b75dfba350b8d0b0d7c3a2482cc81aa1677ca663b173f23834035dea1c5b63", func := "loop.example/g00033/laws.FnExactWindows", spec := "fnExactWindows", unfollowed := true, recurses := true, apart := false }
def FnExactWindowsSaid : Prop := fnExactWindowsRow.holds Try.pinned (OpenSpec.ofChange fnExactWindowsSpec)

/-- ITS FALSE NEIGHBOUR: 'it returns false'. Refute it at one input. -/
def fnExactWindowsWrong : ChangeSpec := { name := "fnExactWindows", fn := fun _ => fun
  | [d1, d2, d3, d4] => { results := [.lit (.bool false)], args := [d1, d2, d3, d4] }
  | _ => none }
def FnExactWindowsWrongFalsely : Prop := fnExactWindowsRow.holds Try.pinned (OpenSpec.ofChange fnExactWindowsWrong)

/-- 'laws.FnExactDiagonal': WHATEVER THE INPUT: true; the input reads as it did. -/
def fnExactDiagonalSpec : ChangeSpec := { name := "fnExactDiagonal", fn := fun _ => fun
  | [d1, d2, d3] => { results := [.lit (.bool true)], args := [d1, d2, d3] }
  | _ => none }
def fnExactDiagonalRow : OpenClaim := { program := "ytcpemdedmepfeaa", sum := "42b75dfba350b8d0b0d7c3a2482cc81aa1677ca663b173f23834035dea1c5b63", func := "loop.example/g00033/laws.FnExactDiagonal", spec := "fnExactDiagonal", unfollowed := true, recurses := true, apart := false }
def FnExactDiagonalSaid : Prop := fnExactDiagonalRow.holds Try.pinned (OpenSpec.ofChange fnExactDiagonalSpec)

/-- ITS FALSE NEIGHBOUR: 'it returns false'. Refute it at one input. -/
def fnExactDiagonalWrong : ChangeSpec := { name := "fnExactDiagonal", fn := fun _ => fun
  | [d1, d2, d3] => { results := [.lit (.bool false)], args := [d1, d2, d3] }
  | _ => none }
def FnExactDiagonalWrongFalsely : Prop := fnExactDiagonalRow.holds Try.pinned (OpenSpec.ofChange fnExactDiagonalWrong)

/-- 'laws.FnRouted': WHATEVER THE INPUT: true; the input reads as it did. -/
def fnRoutedSpec : ChangeSpec := { name := "fnRouted", fn := fun _ => fun
  | [d] => { results := [.lit (.bool true)], args := [d] }
  | _ => none }
def fnRoutedRow : OpenClaim := { program := "ytcpemdedmepfeaa", sum := "42b75dfba350b8d0b0d7c3a2482cc81aa1677ca663b173f23834035dea1c5b63", func := "loop.example/g00033/laws.FnRouted", spec := "fnRouted", recurses := true, apart := false }
def FnRoutedSaid : Prop := fnRoutedRow.holds Try.pinned (OpenSpec.ofChange fnRoutedSpec)

/-- ITS FALSE NEIGHBOUR: 'it returns false'. Refute it at one input. -/
def fnRoutedWrong : ChangeSpec := { name := "fnRouted", fn := fun _ => fun
  | [d] => { results := [.lit (.bool false)], args := [d] }
  | _ => none }
def FnRoutedWrongFalsely : Prop := fnRoutedRow.holds Try.pinned (OpenSpec.ofChange fnRoutedWrong)

/-- 'laws.FnExactSumPool': WHATEVER THE INPUT: true; the input reads as it did. -/
def fnExactSumPoolSpec : ChangeSpec := { name := "fnExactSumPool", fn := fun _ => fun
  | [d1, d2, d3] => { results := [.lit (.bool true)], args := [d1, d2, d3] }
  | _ => none }
def fnExactSumPoolRow : OpenClaim := { program := "ytcpemdedmepfeaa", sum := "42b75dfba350b8d0b0d7c3a2482cc81aa1677ca663b173f23834035dea1c5b63", func := "loop.example/g00033/laws.FnExactSumPool", spec := "fnExactSumPool", unfollowed := true, recurses := true, apart := false }
def FnExactSumPoolSaid : Prop := fnExactSumPoolRow.holds Try.pinned (OpenSpec.ofChange fnExactSumPoolSpec)

/-- ITS FALSE NEIGHBOUR: 'it returns false'. Refute it at one input. -/
def fnExactSumPoolWrong : ChangeSpec := { name := "fnExactSumPool", fn := fun _ => fun
  | [d1, d2, d3] => { results := [.lit (.bool false)], args := [d1, d2, d3] }
  | _ => none }
def FnExactSumPoolWrongFalsely : Prop := fnExactSumPoolRow.holds Try.pinned (OpenSpec.ofChange fnExactSumPoolWrong)

/-- 'laws.FnExactPad': WHATEVER THE INPUT: true; the input reads as it did. -/
def fnExactPadSpec : ChangeSpec := { name := "fnExactPad", fn := fun _ => fun
  | [d1, d2, d3, d4, d5] => { results := [.lit (.bool true)], args := [d1, d2, d3, d4, d5] }
  | _ => none }
def fnExactPadRow : OpenClaim := { program := "ytcpemdedmepfeaa", sum := "42b75dfba350b8d0b0d7c3a2482cc81aa1677ca663b173f23834035dea1c5b63", func := "loop.example/g00033/laws.FnExactPad", spec := "fnExactPad", unfollowed := true, recurses := true, apart := false }
def FnExactPadSaid : Prop := fnExactPadRow.holds Try.pinned (OpenSpec.ofChange fnExactPadSpec)

/-- ITS FALSE NEIGHBOUR: 'it returns false'. Refute it at one input. -/
def fnExactPadWrong : ChangeSpec := { name := "fnExactPad", fn := fun _ => fun
  | [d1, d2, d3, d4, d5] => { results := [.lit (.bool false)], args := [d1, d2, d3, d4, d5] }
  | _ => none }
def FnExactPadWrongFalsely : Prop := fnExactPadRow.holds Try.pinned (OpenSpec.ofChange fnExactPadWrong)

/- THE SECOND FORM. 'bulk': how many values and letters a reading holds, each counted each time it is reached (what is shared counts as often as it is met; a slice's spare places count too). A statement '..UptoSaid' is the law's where the arguments, and the package variables that the reading takes, are together of bulk at most 1048576: NARROWER than '..Said'. Prove '..Said' where nothing that the law and all that it calls make is longer than what came in: it says more and counts as full. Else prove '..UptoSaid'. A law counts once. -/
mutual
def uptoBulk {H : Type} : DataW H → Nat
  | .lit (.string bytes) => bytes.length + 1
  | .lit _ => 1
  | .nil => 1
  | .ptr d => uptoBulk d + 1
  | .slice elems spare => uptoBulkAll elems + uptoBulkAll spare + 1
  | .agg parts => uptoBulkAll parts + 1
  | .iface _ d => uptoBulk d + 1
  | .map entries => uptoBulkEntries entries + 1
  | .held _ => 1
def uptoBulkAll {H : Type} : List (DataW H) → Nat
  | [] => 0
  | d :: r => uptoBulk d + uptoBulkAll r
def uptoBulkEntries {H : Type} : List (Lit × DataW H) → Nat
  | [] => 0
  | x :: r => uptoBulkEntry x + uptoBulkEntries r
def uptoBulkEntry {H : Type} : Lit × DataW H → Nat
  | (.string bytes, d) => bytes.length + uptoBulk d + 1
  | (_, d) => uptoBulk d + 1
 end
def uptoSmall : (H : Type) → List (DataW H) → Bool := fun _ ds => decide (uptoBulkAll ds ≤ 1048576)
def OpenSpec.upto (s : _root_.Go.ChangeSpec) : _root_.Go.OpenSpec := { _root_.Go.OpenSpec.ofChange s with cond := some uptoSmall }

/-- 'laws.FnExactSlice', WHERE WHAT IT READS IS OF BULK AT MOST 1048576: true; the input reads as it did. -/
def fnExactSliceUptoRow : OpenClaim := { program := "ytcpemdedmepfeaa", sum := "42b75dfba350b8d0b0d7c3a2482cc81aa1677ca663b173f23834035dea1c5b63", func := "loop.example/g00033/laws.FnExactSlice", spec := "fnExactSlice", unfollowed := true, recurses := true, apart := false, narrowed := true }
def FnExactSliceUptoSaid : Prop := fnExactSliceUptoRow.holds Try.pinned (OpenSpec.upto fnExactSliceSpec)

/-- 'laws.FnExactWindows', WHERE WHAT IT READS IS OF BULK AT MOST 1048576: true; the input reads as it did. -/
def fnExactWindowsUptoRow : OpenClaim := { program := "ytcpemdedmepfeaa", sum := "42b75dfba350b8d0b0d7c3a2482cc81aa1677ca663b173f23834035dea1c5b63", func := "loop.example/g00033/laws.FnExactWindows", spec := "fnExactWindows", unfollowed := true, recurses := true, apart := false, narrowed := true }
def FnExactWindowsUptoSaid : Prop := fnExactWindowsUptoRow.holds Try.pinned (OpenSpec.upto fnExactWindowsSpec)

/-- 'laws.FnExactDiagonal', WHERE WHAT IT READS IS OF BULK AT MOST 1048576: true; the input reads as it did. -/
def fnExactDiagonalUptoRow : OpenClaim := { program := "ytcpemdedmepfeaa", sum := "42b75dfba350b8d0b0d7c3a2482cc81aa1677ca663b173f23834035dea1c5b63", func := "loop.example/g00033/laws.FnExactDiagonal", spec := "fnExactDiagonal", unfollowed := true, recurses := true, apart := false, narrowed := true }
def FnExactDiagonalUptoSaid : Prop := fnExactDiagonalUptoRow.holds Try.pinned (OpenSpec.upto fnExactDiagonalSpec)

/-- 'laws.FnRouted', WHERE WHAT IT READS IS OF BULK AT MOST 1048576: true; the input reads as it did. -/
def fnRoutedUptoRow : OpenClaim := { program := "ytcpemdedmepfeaa", sum := "42b75dfba350b8d0b0d7c3a2482cc81aa1677ca663b173f23834035dea1c5b63", func := "loop.example/g00033/laws.FnRouted", spec := "fnRouted", recurses := true, apart := false, narrowed := true }
def FnRoutedUptoSaid : Prop := fnRoutedUptoRow.holds Try.pinned (OpenSpec.upto fnRoutedSpec)

/-- 'laws.FnExactSumPool', WHERE WHAT IT READS IS OF BULK AT MOST 1048576: true; the input reads as it did. -/
def fnExactSumPoolUptoRow : OpenClaim := { program := "ytcpemdedmepfeaa", sum := "42b75dfba350b8d0b0d7c3a2482cc81aa1677ca663b173f23834035dea1c5b63", func := "loop.example/g00033/laws.FnExactSumPool", spec := "fnExactSumPool", unfollowed := true, recurses := true, apart := false, narrowed := true }
def FnExactSumPoolUptoSaid : Prop := fnExactSumPoolUptoRow.holds Try.pinned (OpenSpec.upto fnExactSumPoolSpec)

/-- 'laws.FnExactPad', WHERE WHAT IT READS IS OF BULK AT MOST 1048576: true; the input reads as it did. -/
def fnExactPadUptoRow : OpenClaim := { program := "ytcpemdedmepfeaa", sum := "42b75dfba350b8d0b0d7c3a2482cc81aa1677ca663b173f23834035dea1c5b63", func := "loop.example/g00033/laws.FnExactPad", spec := "fnExactPad", unfollowed := true, recurses := true, apart := false, narrowed := true }
def FnExactPadUptoSaid : Prop := fnExactPadUptoRow.holds Try.pinned (OpenSpec.upto fnExactPadSpec)

end Rows
end Go.Proofs.Ytcpemdedmepfeaa
