/-
  No cell of these rows narrows 'for every input' (looked for: loops, veiled, ifaces, maps, wideKeys, modest, calm, conditions, laid).
  DERIVED. THE GIVEN ROWS OF THIS SEAT. 6 by the template 'for every input the law returns true; each argument reads behind the call as it read before'; 0 by the template 'total and deterministic' (their statements: YtcpemdedmepfeabTotals.lean).
  GIVEN WITH THE SEED: the statements are not yours to turn. If you find one false, say at which input.
  Laid BY PROGRAM, IN A SANDBOX (cutbox-rows.mjs): the forced cells as the released guide's own fill.sh prints them over the translation 376638392f7e0aec… (all of the seat's roots in one cut). By AI agents, Wed Nov 11 2026. No macro, syntax, notation, axiom, sorry.
-/
import Derived.Test.YtcpemdedmepfeabChecked
import GoSem.Claim
import GoSem.ClaimJoined
import GoSem.ClaimMapViews
import Derived.JoinedTies
import Derived.KernelRfl
namespace Go.Proofs.Ytcpemdedmepfeab
/- THE CELL 'sum', in the pinned program and in every row, IS THE sha256 OF THE DUMP (.gsa) THAT YtcpemdedmepfeabProg.lean LOADS. Nothing in Lean hashes anything: it is a label: what it is worth is what the hold of that sum in a sandbox is worth. -/
noncomputable def Try.pinned : Pinned := { name := "ytcpemdedmepfeab", sum := "376638392f7e0aec6b73775371a20ccd61fb53906b2e68e19afa514a25036d45", checked := Try.checked }
namespace Rows
def none {H : Type} : Left H := { results := [], args := [] }

/-- 'laws.FnExactScan': WHATEVER THE INPUT: true; the input reads as it did. -/
def fnExactScanSpec : ChangeSpec := { name := "fnExactScan", fn := fun _ => fun
  | [d1, d2] => { results := [.lit (.bool true)], args := [d1, d2] }
  | _ => none }
def fnExactScanRow : OpenClaim := { program := "ytcpemdedmepfeab", sum := "376638392f7e0aec6b73775371a20ccd61fb53906b2e68e19afa514a25036d45", func := "loop.example/g00033/laws.FnExactScan", spec := "fnExactScan", unfollowed := true, recurses := true, plainKeys := false, apart := false }
def FnExactScanSaid : Prop := fnExactScanRow.holds Try.pinned (OpenSpec.ofChange fnExactScanSpec)

/-- ITS FALSE NEIGHBOUR: 'it returns false'. Refute it at one input. -/
def fnExactScanWrong : ChangeSpec := { name := "fnExactScan", fn := fun _ => fun
  | [d1, d2] => { results := [.lit (.bool false)], args := [d1, d2] }
  | _ => none }
def FnExactScanWrongFalsely : Prop := fnExactScanRow.holds Try.pinned (OpenSpec.ofChange fnExactScanWrong)

/-- 'laws.FnLearned': WHATEVER THE INPUT: true; the input reads as it did. -/
def fnLearnedSpec : ChangeSpec := { name := "fnLearned", fn := fun _ => fun
  | [d1, d2] => { results := [.lit (.bool true)], args := [d1, d2] }
  | _ => none }
def fnLearnedRow : OpenClaim := { program := "ytcpemdedmepfeab", sum := "376638392f7e0aec6b73775371a20ccd61fb53906b2e68e19afa514a25036d45", func := "loop.example/g00033/laws.FnLearned", spec := "fnLearned", unfollowed := true, recurses := true, plainKeys := false, apart := false }
def FnLearnedSaid : Prop := fnLearnedRow.holds Try.pinned (OpenSpec.ofChange fnLearnedSpec)

/-- ITS FALSE NEIGHBOUR: 'it returns false'. Refute it at one input. -/
def fnLearnedWrong : ChangeSpec := { name := "fnLearned", fn := fun _ => fun
  | [d1, d2] => { results := [.lit (.bool false)], args := [d1, d2] }
  | _ => none }
def FnLearnedWrongFalsely : Prop := fnLearnedRow.holds Try.pinned (OpenSpec.ofChange fnLearnedWrong)

/-- 'laws.FnExactGather': WHATEVER THE INPUT: true; the input reads as it did. -/
def fnExactGatherSpec : ChangeSpec := { name := "fnExactGather", fn := fun _ => fun
  | [d1, d2, d3] => { results := [.lit (.bool true)], args := [d1, d2, d3] }
  | _ => none }
def fnExactGatherRow : OpenClaim := { program := "ytcpemdedmepfeab", sum := "376638392f7e0aec6b73775371a20ccd61fb53906b2e68e19afa514a25036d45", func := "loop.example/g00033/laws.FnExactGather", spec := "fnExactGather", unfollowed := true, recurses := true, plainKeys := false, apart := false }
def FnExactGatherSaid : Prop := fnExactGatherRow.holds Try.pinned (OpenSpec.ofChange fnExactGatherSpec)

/-- ITS FALSE NEIGHBOUR: 'it returns false'. Refute it at one input. -/
def fnExactGatherWrong : ChangeSpec := { name := "fnExactGather", fn := fun _ => fun
  | [d1, d2, d3] => { results := [.lit (.bool false)], args := [d1, d2, d3] }
  | _ => none }
def FnExactGatherWrongFalsely : Prop := fnExactGatherRow.holds Try.pinned (OpenSpec.ofChange fnExactGatherWrong)

/-- 'laws.FnExactFold': WHATEVER THE INPUT: true; the input reads as it did. -/
def fnExactFoldSpec : ChangeSpec := { name := "fnExactFold", fn := fun _ => fun
  | [d1, d2, d3, d4] => { results := [.lit (.bool true)], args := [d1, d2, d3, d4] }
  | _ => none }
def fnExactFoldRow : OpenClaim := { program := "ytcpemdedmepfeab", sum := "376638392f7e0aec6b73775371a20ccd61fb53906b2e68e19afa514a25036d45", func := "loop.example/g00033/laws.FnExactFold", spec := "fnExactFold", unfollowed := true, recurses := true, plainKeys := false, apart := false }
def FnExactFoldSaid : Prop := fnExactFoldRow.holds Try.pinned (OpenSpec.ofChange fnExactFoldSpec)

/-- ITS FALSE NEIGHBOUR: 'it returns false'. Refute it at one input. -/
def fnExactFoldWrong : ChangeSpec := { name := "fnExactFold", fn := fun _ => fun
  | [d1, d2, d3, d4] => { results := [.lit (.bool false)], args := [d1, d2, d3, d4] }
  | _ => none }
def FnExactFoldWrongFalsely : Prop := fnExactFoldRow.holds Try.pinned (OpenSpec.ofChange fnExactFoldWrong)

/-- 'laws.FnExactTop': WHATEVER THE INPUT: true; the input reads as it did. -/
def fnExactTopSpec : ChangeSpec := { name := "fnExactTop", fn := fun _ => fun
  | [d1, d2] => { results := [.lit (.bool true)], args := [d1, d2] }
  | _ => none }
def fnExactTopRow : OpenClaim := { program := "ytcpemdedmepfeab", sum := "376638392f7e0aec6b73775371a20ccd61fb53906b2e68e19afa514a25036d45", func := "loop.example/g00033/laws.FnExactTop", spec := "fnExactTop", unfollowed := true, recurses := true, plainKeys := false, apart := false }
def FnExactTopSaid : Prop := fnExactTopRow.holds Try.pinned (OpenSpec.ofChange fnExactTopSpec)

/-- ITS FALSE NEIGHBOUR: 'it returns false'. Refute it at one input. -/
def fnExactTopWrong : ChangeSpec := { name := "fnExactTop", fn := fun _ => fun
  | [d1, d2] => { results := [.lit (.bool false)], args := [d1, d2] }
  | _ => none }
def FnExactTopWrongFalsely : Prop := fnExactTopRow.holds Try.pinned (OpenSpec.ofChange fnExactTopWrong)

/-- 'laws.FnExactScatter': WHATEVER THE INPUT: true; the input reads as it did. -/
def fnExactScatterSpec : ChangeSpec := { name := "fnExactScatter", fn := fun _ => fun
  | [d1, d2, d3, d4] => { results := [.lit (.bool true)], args := [d1, d2, d3, d4] }
  | _ => none }
def fnExactScatterRow : OpenClaim := { program := "ytcpemdedmepfeab", sum := "376638392f7e0aec6b73775371a20ccd61fb53906b2e68e19afa514a25036d45", func := "loop.example/g00033/laws.FnExactScatter", spec := "fnExactScatter", unfollowed := true, recurses := true, plainKeys := false, apart := false }
def FnExactScatterSaid : Prop := fnExactScatterRow.holds Try.pinned (OpenSpec.ofChange fnExactScatterSpec)

/-- ITS FALSE NEIGHBOUR: 'it returns false'. Refute it at one input. -/
def fnExactScatterWrong : ChangeSpec := { name := "fnExactScatter", fn := fun _ => fun
  | [d1, d2, d3, d4] => { results := [.lit (.bool false)], args := [d1, d2, d3, d4] }
  | _ => none }
def FnExactScatterWrongFalsely : Prop := fnExactScatterRow.holds Try.pinned (OpenSpec.ofChange fnExactScatterWrong)

/- THE SECOND FORM. 'bulk': how many values and letters a reading holds, each counted each time it is reached (what is shared counts as often as it is met; a slice's spare places count too). A statement '..UptoSaid' is the law's where the arguments, and the package variables that the reading takes, are together of bulk at most 1048576: NARROWER than '..Said'. Prove '..Said' where nothing that the law and all that it calls make is longer than what came in: it says more and counts as full. Else prove '..UptoSaid'. A law counts once. -/
mutual
def uptoBulk {H : Type} : DataW H → Nat
  | .lit (.string bytes) => bytes.length + 1
  | .lit _ => 1
  | .nil => 1
  | .ptr d => uptoBulk d + 1
  | .slice elems spare => uptoBulkAll elems + uptoBulkAll spare + 1
  | .agg parts => uptoBulkAll parts + 1
  | .iface _ d => uptoBulk d + 1
  | .map entries => uptoBulkEntries entries + 1
  | .held _ => 1
def uptoBulkAll {H : Type} : List (DataW H) → Nat
  | [] => 0
  | d :: r => uptoBulk d + uptoBulkAll r
def uptoBulkEntries {H : Type} : List (Lit × DataW H) → Nat
  | [] => 0
  | x :: r => uptoBulkEntry x + uptoBulkEntries r
def uptoBulkEntry {H : Type} : Lit × DataW H → Nat
  | (.string bytes, d) => bytes.length + uptoBulk d + 1
  | (_, d) => uptoBulk d + 1
 end
def uptoSmall : (H : Type) → List (DataW H) → Bool := fun _ ds => decide (uptoBulkAll ds ≤ 1048576)
def OpenSpec.upto (s : _root_.Go.ChangeSpec) : _root_.Go.OpenSpec := { _root_.Go.OpenSpec.ofChange s with cond := some uptoSmall }

/-- 'laws.FnExactScan', WHERE WHAT IT READS IS OF BULK AT MOST 1048576: true; the input reads as it did. -/
def fnExactScanUptoRow : OpenClaim := { program := "ytcpemdedmepfeab", sum := "376638392f7e0aec6b73775371a20ccd61fb53906b2e68e19afa514a25036d45", func := "loop.example/g00033/laws.FnExactScan", spec := "fnExactScan", unfollowed := true, recurses := true, plainKeys := false, apart := false, narrowed := true }
def FnExactScanUptoSaid : Prop := fnExactScanUptoRow.holds Try.pinned (OpenSpec.upto fnExactScanSpec)

/-- 'laws.FnLearned', WHERE WHAT IT READS IS OF BULK AT MOST 1048576: true; the input reads as it did. -/
def fnLearnedUptoRow : OpenClaim := { program := "ytcpemdedmepfeab", sum := "376638392f7e0aec6b73775371a20ccd61fb53906b2e68e19afa514a25036d45", func := "loop.example/g00033/laws.FnLearned", spec := "fnLearned", unfollowed := true, recurses := true, plainKeys := false, apart := false, narrowed := true }
def FnLearnedUptoSaid : Prop := fnLearnedUptoRow.holds Try.pinned (OpenSpec.upto fnLearnedSpec)

/-- 'laws.FnExactGather', WHERE WHAT IT READS IS OF BULK AT MOST 1048576: true; the input reads as it did. -/
def fnExactGatherUptoRow : OpenClaim := { program := "ytcpemdedmepfeab", sum := "376638392f7e0aec6b73775371a20ccd61fb53906b2e68e19afa514a25036d45", func := "loop.example/g00033/laws.FnExactGather", spec := "fnExactGather", unfollowed := true, recurses := true, plainKeys := false, apart := false, narrowed := true }
def FnExactGatherUptoSaid : Prop := fnExactGatherUptoRow.holds Try.pinned (OpenSpec.upto fnExactGatherSpec)

/-- 'laws.FnExactFold', WHERE WHAT IT READS IS OF BULK AT MOST 1048576: true; the input reads as it did. -/
def fnExactFoldUptoRow : OpenClaim := { program := "ytcpemdedmepfeab", sum := "376638392f7e0aec6b73775371a20ccd61fb53906b2e68e19afa514a25036d45", func := "loop.example/g00033/laws.FnExactFold", spec := "fnExactFold", unfollowed := true, recurses := true, plainKeys := false, apart := false, narrowed := true }
def FnExactFoldUptoSaid : Prop := fnExactFoldUptoRow.holds Try.pinned (OpenSpec.upto fnExactFoldSpec)

/-- 'laws.FnExactTop', WHERE WHAT IT READS IS OF BULK AT MOST 1048576: true; the input reads as it did. -/
def fnExactTopUptoRow : OpenClaim := { program := "ytcpemdedmepfeab", sum := "376638392f7e0aec6b73775371a20ccd61fb53906b2e68e19afa514a25036d45", func := "loop.example/g00033/laws.FnExactTop", spec := "fnExactTop", unfollowed := true, recurses := true, plainKeys := false, apart := false, narrowed := true }
def FnExactTopUptoSaid : Prop := fnExactTopUptoRow.holds Try.pinned (OpenSpec.upto fnExactTopSpec)

/-- 'laws.FnExactScatter', WHERE WHAT IT READS IS OF BULK AT MOST 1048576: true; the input reads as it did. -/
def fnExactScatterUptoRow : OpenClaim := { program := "ytcpemdedmepfeab", sum := "376638392f7e0aec6b73775371a20ccd61fb53906b2e68e19afa514a25036d45", func := "loop.example/g00033/laws.FnExactScatter", spec := "fnExactScatter", unfollowed := true, recurses := true, plainKeys := false, apart := false, narrowed := true }
def FnExactScatterUptoSaid : Prop := fnExactScatterUptoRow.holds Try.pinned (OpenSpec.upto fnExactScatterSpec)

end Rows
end Go.Proofs.Ytcpemdedmepfeab
