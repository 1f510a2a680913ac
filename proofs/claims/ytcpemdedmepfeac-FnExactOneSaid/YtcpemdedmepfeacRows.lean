/-
  No cell of these rows narrows 'for every input' (looked for: loops, veiled, ifaces, maps, wideKeys, modest, calm, conditions, laid).
  DERIVED. THE GIVEN ROWS OF THIS SEAT. 6 by the template 'for every input the law returns true; each argument reads behind the call as it read before'; 0 by the template 'total and deterministic' (their statements: YtcpemdedmepfeacTotals.lean).
  GIVEN WITH THE SEED: the statements are not yours to turn. If you find one false, say at which input.
  Laid BY PROGRAM, IN A SANDBOX (cutbox-rows.mjs): the forced cells as the released guide's own fill.sh prints them over the translation 28de41d20296cdeb… (all of the seat's roots in one cut). By AI agents, Wed Nov 11 2026. No macro, syntax, notation, axiom, sorry.
-/
import Derived.Test.YtcpemdedmepfeacChecked
import GoSem.Claim
import GoSem.ClaimJoined
import GoSem.ClaimMapViews
import Derived.JoinedTies
import Derived.KernelRfl
namespace Go.Proofs.Ytcpemdedmepfeac
/- THE CELL 'sum', in the pinned program and in every row, IS THE sha256 OF THE DUMP (.gsa) THAT YtcpemdedmepfeacProg.lean LOADS. Nothing in Lean hashes anything: it is a label: what it is worth is what the hold of that sum in a sandbox is worth. -/
noncomputable def Try.pinned : Pinned := { name := "ytcpemdedmepfeac", sum := "28de41d20296cdebb6082053f4927e3db01b9430dc779e4da7dd6d8312a502af", checked := Try.checked }
namespace Rows
def none {H : Type} : Left H := { results := [], args := [] }

/-- 'laws.FnExactOne': WHATEVER THE INPUT: true; the input reads as it did. -/
def fnExactOneSpec : ChangeSpec := { name := "fnExactOne", fn := fun _ => fun
  | [d1, d2] => { results := [.lit (.bool true)], args := [d1, d2] }
  | _ => none }
def fnExactOneRow : OpenClaim := { program := "ytcpemdedmepfeac", sum := "28de41d20296cdebb6082053f4927e3db01b9430dc779e4da7dd6d8312a502af", func := "loop.example/g00033/laws.FnExactOne", spec := "fnExactOne", unfollowed := true, recurses := true, plainKeys := false, apart := false }
def FnExactOneSaid : Prop := fnExactOneRow.holds Try.pinned (OpenSpec.ofChange fnExactOneSpec)

/-- ITS FALSE NEIGHBOUR: 'it returns false'. Refute it at one input. -/
def fnExactOneWrong : ChangeSpec := { name := "fnExactOne", fn := fun _ => fun
  | [d1, d2] => { results := [.lit (.bool false)], args := [d1, d2] }
  | _ => none }
def FnExactOneWrongFalsely : Prop := fnExactOneRow.holds Try.pinned (OpenSpec.ofChange fnExactOneWrong)

/-- 'laws.FnExactLook': WHATEVER THE INPUT: true; the input reads as it did. -/
def fnExactLookSpec : ChangeSpec := { name := "fnExactLook", fn := fun _ => fun
  | [d1, d2] => { results := [.lit (.bool true)], args := [d1, d2] }
  | _ => none }
def fnExactLookRow : OpenClaim := { program := "ytcpemdedmepfeac", sum := "28de41d20296cdebb6082053f4927e3db01b9430dc779e4da7dd6d8312a502af", func := "loop.example/g00033/laws.FnExactLook", spec := "fnExactLook", unfollowed := true, recurses := true, plainKeys := false, apart := false }
def FnExactLookSaid : Prop := fnExactLookRow.holds Try.pinned (OpenSpec.ofChange fnExactLookSpec)

/-- ITS FALSE NEIGHBOUR: 'it returns false'. Refute it at one input. -/
def fnExactLookWrong : ChangeSpec := { name := "fnExactLook", fn := fun _ => fun
  | [d1, d2] => { results := [.lit (.bool false)], args := [d1, d2] }
  | _ => none }
def FnExactLookWrongFalsely : Prop := fnExactLookRow.holds Try.pinned (OpenSpec.ofChange fnExactLookWrong)

/-- 'laws.FnExactReshape': WHATEVER THE INPUT: true; the input reads as it did. -/
def fnExactReshapeSpec : ChangeSpec := { name := "fnExactReshape", fn := fun _ => fun
  | [d1, d2] => { results := [.lit (.bool true)], args := [d1, d2] }
  | _ => none }
def fnExactReshapeRow : OpenClaim := { program := "ytcpemdedmepfeac", sum := "28de41d20296cdebb6082053f4927e3db01b9430dc779e4da7dd6d8312a502af", func := "loop.example/g00033/laws.FnExactReshape", spec := "fnExactReshape", unfollowed := true, recurses := true, plainKeys := false, apart := false }
def FnExactReshapeSaid : Prop := fnExactReshapeRow.holds Try.pinned (OpenSpec.ofChange fnExactReshapeSpec)

/-- ITS FALSE NEIGHBOUR: 'it returns false'. Refute it at one input. -/
def fnExactReshapeWrong : ChangeSpec := { name := "fnExactReshape", fn := fun _ => fun
  | [d1, d2] => { results := [.lit (.bool false)], args := [d1, d2] }
  | _ => none }
def FnExactReshapeWrongFalsely : Prop := fnExactReshapeRow.holds Try.pinned (OpenSpec.ofChange fnExactReshapeWrong)

/-- 'laws.FnExactConv': WHATEVER THE INPUT: true; the input reads as it did. -/
def fnExactConvSpec : ChangeSpec := { name := "fnExactConv", fn := fun _ => fun
  | [d1, d2, d3, d4, d5, d6] => { results := [.lit (.bool true)], args := [d1, d2, d3, d4, d5, d6] }
  | _ => none }
def fnExactConvRow : OpenClaim := { program := "ytcpemdedmepfeac", sum := "28de41d20296cdebb6082053f4927e3db01b9430dc779e4da7dd6d8312a502af", func := "loop.example/g00033/laws.FnExactConv", spec := "fnExactConv", plainKeys := false, apart := false }
def FnExactConvSaid : Prop := fnExactConvRow.holds Try.pinned (OpenSpec.ofChange fnExactConvSpec)

/-- ITS FALSE NEIGHBOUR: 'it returns false'. Refute it at one input. -/
def fnExactConvWrong : ChangeSpec := { name := "fnExactConv", fn := fun _ => fun
  | [d1, d2, d3, d4, d5, d6] => { results := [.lit (.bool false)], args := [d1, d2, d3, d4, d5, d6] }
  | _ => none }
def FnExactConvWrongFalsely : Prop := fnExactConvRow.holds Try.pinned (OpenSpec.ofChange fnExactConvWrong)

/-- 'laws.FnExactAttend': WHATEVER THE INPUT: true; the input reads as it did. -/
def fnExactAttendSpec : ChangeSpec := { name := "fnExactAttend", fn := fun _ => fun
  | [d1, d2, d3, d4] => { results := [.lit (.bool true)], args := [d1, d2, d3, d4] }
  | _ => none }
def fnExactAttendRow : OpenClaim := { program := "ytcpemdedmepfeac", sum := "28de41d20296cdebb6082053f4927e3db01b9430dc779e4da7dd6d8312a502af", func := "loop.example/g00033/laws.FnExactAttend", spec := "fnExactAttend", recurses := true, plainKeys := false, apart := false }
def FnExactAttendSaid : Prop := fnExactAttendRow.holds Try.pinned (OpenSpec.ofChange fnExactAttendSpec)

/-- ITS FALSE NEIGHBOUR: 'it returns false'. Refute it at one input. -/
def fnExactAttendWrong : ChangeSpec := { name := "fnExactAttend", fn := fun _ => fun
  | [d1, d2, d3, d4] => { results := [.lit (.bool false)], args := [d1, d2, d3, d4] }
  | _ => none }
def FnExactAttendWrongFalsely : Prop := fnExactAttendRow.holds Try.pinned (OpenSpec.ofChange fnExactAttendWrong)

/-- 'laws.FnFinished': WHATEVER THE INPUT: true; the input reads as it did. -/
def fnFinishedSpec : ChangeSpec := { name := "fnFinished", fn := fun _ => fun
  | [d1, d2] => { results := [.lit (.bool true)], args := [d1, d2] }
  | _ => none }
def fnFinishedRow : OpenClaim := { program := "ytcpemdedmepfeac", sum := "28de41d20296cdebb6082053f4927e3db01b9430dc779e4da7dd6d8312a502af", func := "loop.example/g00033/laws.FnFinished", spec := "fnFinished", plainKeys := false, apart := false }
def FnFinishedSaid : Prop := fnFinishedRow.holds Try.pinned (OpenSpec.ofChange fnFinishedSpec)

/-- ITS FALSE NEIGHBOUR: 'it returns false'. Refute it at one input. -/
def fnFinishedWrong : ChangeSpec := { name := "fnFinished", fn := fun _ => fun
  | [d1, d2] => { results := [.lit (.bool false)], args := [d1, d2] }
  | _ => none }
def FnFinishedWrongFalsely : Prop := fnFinishedRow.holds Try.pinned (OpenSpec.ofChange fnFinishedWrong)

/- THE SECOND FORM. 'bulk': how many values and letters a reading holds, each counted each time it is reached (what is shared counts as often as it is met; a slice's spare places count too). A statement '..UptoSaid' is the law's where the arguments, and the package variables that the reading takes, are together of bulk at most 1048576: NARROWER than '..Said'. Prove '..Said' where nothing that the law and all that it calls make is longer than what came in: it says more and counts as full. Else prove '..UptoSaid'. A law counts once. -/
mutual
def uptoBulk {H : Type} : DataW H → Nat
  | .lit (.string bytes) => bytes.length + 1
  | .lit _ => 1
  | .nil => 1
  | .ptr d => uptoBulk d + 1
  | .slice elems spare => uptoBulkAll elems + uptoBulkAll spare + 1
  | .agg parts => uptoBulkAll parts + 1
  | .iface _ d => uptoBulk d + 1
  | .map entries => uptoBulkEntries entries + 1
  | .held _ => 1
def uptoBulkAll {H : Type} : List (DataW H) → Nat
  | [] => 0
  | d :: r => uptoBulk d + uptoBulkAll r
def uptoBulkEntries {H : Type} : List (Lit × DataW H) → Nat
  | [] => 0
  | x :: r => uptoBulkEntry x + uptoBulkEntries r
def uptoBulkEntry {H : Type} : Lit × DataW H → Nat
  | (.string bytes, d) => bytes.length + uptoBulk d + 1
  | (_, d) => uptoBulk d + 1
 end
def uptoSmall : (H : Type) → List (DataW H) → Bool := fun _ ds => decide (uptoBulkAll ds ≤ 1048576)
def OpenSpec.upto (s : _root_.Go.ChangeSpec) : _root_.Go.OpenSpec := { _root_.Go.OpenSpec.ofChange s with cond := some uptoSmall }

/-- 'laws.FnExactOne', WHERE WHAT IT READS IS OF BULK AT MOST 1048576: true; the input reads as it did. -/
def fnExactOneUptoRow : OpenClaim := { program := "ytcpemdedmepfeac", sum := "28de41d20296cdebb6082053f4927e3db01b9430dc779e4da7dd6d8312a502af", func := "loop.example/g00033/laws.FnExactOne", spec := "fnExactOne", unfollowed := true, recurses := true, plainKeys := false, apart := false, narrowed := true }
def FnExactOneUptoSaid : Prop := fnExactOneUptoRow.holds Try.pinned (OpenSpec.upto fnExactOneSpec)

/-- 'laws.FnExactLook', WHERE WHAT IT READS IS OF BULK AT MOST 1048576: true; the input reads as it did. -/
def fnExactLookUptoRow : OpenClaim := { program := "ytcpemdedmepfeac", sum := "28de41d20296cdebb6082053f4927e3db01b9430dc779e4da7dd6d8312a502af", func := "loop.example/g00033/laws.FnExactLook", spec := "fnExactLook", unfollowed := true, recurses := true, plainKeys := false, apart := false, narrowed := true }
def FnExactLookUptoSaid : Prop := fnExactLookUptoRow.holds Try.pinned (OpenSpec.upto fnExactLookSpec)

/-- 'laws.FnExactReshape', WHERE WHAT IT READS IS OF BULK AT MOST 1048576: true; the input reads as it did. -/
def fnExactReshapeUptoRow : OpenClaim := { program := "ytcpemdedmepfeac", sum := "28de41d20296cdebb6082053f4927e3db01b9430dc779e4da7dd6d8312a502af", func := "loop.example/g00033/laws.FnExactReshape", spec := "fnExactReshape", unfollowed := true, recurses := true, plainKeys := false, apart := false, narrowed := true }
def FnExactReshapeUptoSaid : Prop := fnExactReshapeUptoRow.holds Try.pinned (OpenSpec.upto fnExactReshapeSpec)

/-- 'laws.FnExactConv', WHERE WHAT IT READS IS OF BULK AT MOST 1048576: true; the input reads as it did. -/
def fnExactConvUptoRow : OpenClaim := { program := "ytcpemdedmepfeac", sum := "28de41d20296cdebb6082053f4927e3db01b9430dc779e4da7dd6d8312a502af", func := "loop.example/g00033/laws.FnExactConv", spec := "fnExactConv", plainKeys := false, apart := false, narrowed := true }
def FnExactConvUptoSaid : Prop := fnExactConvUptoRow.holds Try.pinned (OpenSpec.upto fnExactConvSpec)

/-- 'laws.FnExactAttend', WHERE WHAT IT READS IS OF BULK AT MOST 1048576: true; the input reads as it did. -/
def fnExactAttendUptoRow : OpenClaim := { program := "ytcpemdedmepfeac", sum := "28de41d20296cdebb6082053f4927e3db01b9430dc779e4da7dd6d8312a502af", func := "loop.example/g00033/laws.FnExactAttend", spec := "fnExactAttend", recurses := true, plainKeys := false, apart := false, narrowed := true }
def FnExactAttendUptoSaid : Prop := fnExactAttendUptoRow.holds Try.pinned (OpenSpec.upto fnExactAttendSpec)

/-- 'laws.FnFinished', WHERE WHAT IT READS IS OF BULK AT MOST 1048576: true; the input reads as it did. -/
def fnFinishedUptoRow : OpenClaim := { program := "ytcpemdedmepfeac", sum := "28de41d20296cdebb6082053f4927e3db01b9430dc779e4da7dd6d8312a502af", func := "loop.example/g00033/laws.FnFinished", spec := "fnFinished", plainKeys := false, apart := false, narrowed := true }
def FnFinishedUptoSaid : Prop := fnFinishedUptoRow.holds Try.pinned (OpenSpec.upto fnFinishedSpec)

end Rows
end Go.Proofs.Ytcpemdedmepfeac
