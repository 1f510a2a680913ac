/-
  No cell of these rows narrows 'for every input' (looked for: loops, veiled, ifaces, maps, wideKeys, modest, calm, conditions, laid).
  DERIVED. THE GIVEN ROWS OF THIS SEAT. 6 by the template 'for every input the law returns true; each argument reads behind the call as it read before'; 0 by the template 'total and deterministic' (their statements: YtpoblnigmfbnfaaTotals.lean).
  GIVEN WITH THE SEED: the statements are not yours to turn. If you find one false, say at which input.
  Laid BY PROGRAM, IN A SANDBOX (cutbox-rows.mjs): the forced cells as the released guide's own fill.sh prints them over the translation 982919129d888902… (all of the seat's roots in one cut). By AI agents, Wed Nov 11 2026. No macro, syntax, notation, axiom, sorry.
-/
import Derived.Test.YtpoblnigmfbnfaaChecked
import GoSem.Claim
import GoSem.ClaimJoined
import GoSem.ClaimMapViews
import Derived.JoinedTies
import Derived.KernelRfl
namespace Go.Proofs.Ytpoblnigmfbnfaa
/- THE CELL 'sum', in the pinned program and in every row, IS THE sha256 OF THE DUMP (.gsa) THAT YtpoblnigmfbnfaaProg.lean LOADS. Nothing in Lean hashes anything: it is a label: what it is worth is what the hold of that sum in a sandbox is worth. -/
noncomputable def Try.pinned : Pinned := { name := "ytpoblnigmfbnfaa", sum := "982919129d888902149dcfe03b4deca34747e1b74650c2287cb27f4a467dd78b", checked := Try.checked }
namespace Rows
def none {H : Type} : Left H := { results := [], args := [] }

/-- 'laws.FnExactFair': WHATEVER THE INPUT: true; the input reads as it did. -/
def fnExactFairSpec : ChangeSpec := { name := "fnExactFair", fn := fun _ => fun
  | [d1, d2] => { results := [.lit (.bool true)], args := [d1, d2] }
  | _ => none }
def fnExactFairRow : OpenClaim := { program := "ytpoblnigmfbnfaa", sum := "982919129d888902149dcfe03b4deca34747e1b74650c2287cb27f4a467dd78b", func := "loop.example/g00033/laws.FnExactFair", spec := "fnExactFair", apart := false }
def FnExactFairSaid : Prop := fnExactFairRow.holds Try.pinned (OpenSpec.ofChange fnExactFairSpec)

/-- ITS FALSE NEIGHBOUR: 'it returns false'. Refute it at one input. -/
def fnExactFairWrong : ChangeSpec := { name := "fnExactFair", fn := fun _ => fun
  | [d1, d2] => { results := [.lit (.bool false)], args := [d1, d2] }
  | _ => none }
def FnExactFairWrongFalsely : Prop := fnExactFairRow.holds Try.pinned (OpenSpec.ofChange fnExactFairWrong)

/-- 'laws.FnFloatSides': WHATEVER THE INPUT: true; the input reads as it did. -/
def fnFloatSidesSpec : ChangeSpec := { name := "fnFloatSides", fn := fun _ => fun
  | [d] => { results := [.lit (.bool true)], args := [d] }
  | _ => none }
def fnFloatSidesRow : OpenClaim := { program := "ytpoblnigmfbnfaa", sum := "982919129d888902149dcfe03b4deca34747e1b74650c2287cb27f4a467dd78b", func := "loop.example/g00033/laws.FnFloatSides", spec := "fnFloatSides", inPlace := ["math.Float32bits", "math.Float32frombits"], recurses := true, apart := false }
def FnFloatSidesSaid : Prop := fnFloatSidesRow.holds Try.pinned (OpenSpec.ofChange fnFloatSidesSpec)

/-- ITS FALSE NEIGHBOUR: 'it returns false'. Refute it at one input. -/
def fnFloatSidesWrong : ChangeSpec := { name := "fnFloatSides", fn := fun _ => fun
  | [d] => { results := [.lit (.bool false)], args := [d] }
  | _ => none }
def FnFloatSidesWrongFalsely : Prop := fnFloatSidesRow.holds Try.pinned (OpenSpec.ofChange fnFloatSidesWrong)

/-- 'laws.FnExactTwice': WHATEVER THE INPUT: true; the input reads as it did. -/
def fnExactTwiceSpec : ChangeSpec := { name := "fnExactTwice", fn := fun _ => fun
  | [d] => { results := [.lit (.bool true)], args := [d] }
  | _ => none }
def fnExactTwiceRow : OpenClaim := { program := "ytpoblnigmfbnfaa", sum := "982919129d888902149dcfe03b4deca34747e1b74650c2287cb27f4a467dd78b", func := "loop.example/g00033/laws.FnExactTwice", spec := "fnExactTwice", unfollowed := true, recurses := true, apart := false }
def FnExactTwiceSaid : Prop := fnExactTwiceRow.holds Try.pinned (OpenSpec.ofChange fnExactTwiceSpec)

/-- ITS FALSE NEIGHBOUR: 'it returns false'. Refute it at one input. -/
def fnExactTwiceWrong : ChangeSpec := { name := "fnExactTwice", fn := fun _ => fun
  | [d] => { results := [.lit (.bool false)], args := [d] }
  | _ => none }
def FnExactTwiceWrongFalsely : Prop := fnExactTwiceRow.holds Try.pinned (OpenSpec.ofChange fnExactTwiceWrong)

/-- 'laws.FnExactMeet': WHATEVER THE INPUT: true; the input reads as it did. -/
def fnExactMeetSpec : ChangeSpec := { name := "fnExactMeet", fn := fun _ => fun
  | [d1, d2] => { results := [.lit (.bool true)], args := [d1, d2] }
  | _ => none }
def fnExactMeetRow : OpenClaim := { program := "ytpoblnigmfbnfaa", sum := "982919129d888902149dcfe03b4deca34747e1b74650c2287cb27f4a467dd78b", func := "loop.example/g00033/laws.FnExactMeet", spec := "fnExactMeet", unfollowed := true, recurses := true, apart := false }
def FnExactMeetSaid : Prop := fnExactMeetRow.holds Try.pinned (OpenSpec.ofChange fnExactMeetSpec)

/-- ITS FALSE NEIGHBOUR: 'it returns false'. Refute it at one input. -/
def fnExactMeetWrong : ChangeSpec := { name := "fnExactMeet", fn := fun _ => fun
  | [d1, d2] => { results := [.lit (.bool false)], args := [d1, d2] }
  | _ => none }
def FnExactMeetWrongFalsely : Prop := fnExactMeetRow.holds Try.pinned (OpenSpec.ofChange fnExactMeetWrong)

/-- 'laws.FnExactFilter': WHATEVER THE INPUT: true; the input reads as it did. -/
def fnExactFilterSpec : ChangeSpec := { name := "fnExactFilter", fn := fun _ => fun
  | [d1, d2] => { results := [.lit (.bool true)], args := [d1, d2] }
  | _ => none }
def fnExactFilterRow : OpenClaim := { program := "ytpoblnigmfbnfaa", sum := "982919129d888902149dcfe03b4deca34747e1b74650c2287cb27f4a467dd78b", func := "loop.example/g00033/laws.FnExactFilter", spec := "fnExactFilter", unfollowed := true, recurses := true, apart := false }
def FnExactFilterSaid : Prop := fnExactFilterRow.holds Try.pinned (OpenSpec.ofChange fnExactFilterSpec)

/-- ITS FALSE NEIGHBOUR: 'it returns false'. Refute it at one input. -/
def fnExactFilterWrong : ChangeSpec := { name := "fnExactFilter", fn := fun _ => fun
  | [d1, d2] => { results := [.lit (.bool false)], args := [d1, d2] }
  | _ => none }
def FnExactFilterWrongFalsely : Prop := fnExactFilterRow.holds Try.pinned (OpenSpec.ofChange fnExactFilterWrong)

/-- 'laws.FnExactNodes': WHATEVER THE INPUT: true; the input reads as it did. -/
def fnExactNodesSpec : ChangeSpec := { name := "fnExactNodes", fn := fun _ => fun
  | [d1, d2] => { results := [.lit (.bool true)], args := [d1, d2] }
  | _ => none }
def fnExactNodesRow : OpenClaim := { program := "ytpoblnigmfbnfaa", sum := "982919129d888902149dcfe03b4deca34747e1b74650c2287cb27f4a467dd78b", func := "loop.example/g00033/laws.FnExactNodes", spec := "fnExactNodes", unfollowed := true, recurses := true, apart := false }
def FnExactNodesSaid : Prop := fnExactNodesRow.holds Try.pinned (OpenSpec.ofChange fnExactNodesSpec)

/-- ITS FALSE NEIGHBOUR: 'it returns false'. Refute it at one input. -/
def fnExactNodesWrong : ChangeSpec := { name := "fnExactNodes", fn := fun _ => fun
  | [d1, d2] => { results := [.lit (.bool false)], args := [d1, d2] }
  | _ => none }
def FnExactNodesWrongFalsely : Prop := fnExactNodesRow.holds Try.pinned (OpenSpec.ofChange fnExactNodesWrong)

/- THE SECOND FORM. 'bulk': how many values and letters a reading holds, each counted each time it is reached (what is shared counts as often as it is met; a slice's spare places count too). A statement '..UptoSaid' is the law's where the arguments, and the package variables that the reading takes, are together of bulk at most 1048576: NARROWER than '..Said'. Prove '..Said' where nothing that the law and all that it calls make is longer than what came in: it says more and counts as full. Else prove '..UptoSaid'. A law counts once. -/
mutual
def uptoBulk {H : Type} : DataW H → Nat
  | .lit (.string bytes) => bytes.length + 1
  | .lit _ => 1
  | .nil => 1
  | .ptr d => uptoBulk d + 1
  | .slice elems spare => uptoBulkAll elems + uptoBulkAll spare + 1
  | .agg parts => uptoBulkAll parts + 1
  | .iface _ d => uptoBulk d + 1
  | .map entries => uptoBulkEntries entries + 1
  | .held _ => 1
def uptoBulkAll {H : Type} : List (DataW H) → Nat
  | [] => 0
  | d :: r => uptoBulk d + uptoBulkAll r
def uptoBulkEntries {H : Type} : List (Lit × DataW H) → Nat
  | [] => 0
  | x :: r => uptoBulkEntry x + uptoBulkEntries r
def uptoBulkEntry {H : Type} : Lit × DataW H → Nat
  | (.string bytes, d) => bytes.length + uptoBulk d + 1
  | (_, d) => uptoBulk d + 1
 end
def uptoSmall : (H : Type) → List (DataW H) → Bool := fun _ ds => decide (uptoBulkAll ds ≤ 1048576)
def OpenSpec.upto (s : _root_.Go.ChangeSpec) : _root_.Go.OpenSpec := { _root_.Go.OpenSpec.ofChange s with cond := some uptoSmall }

/-- 'laws.FnExactFair', WHERE WHAT IT READS IS OF BULK AT MOST 1048576: true; the input reads as it did. -/
def fnExactFairUptoRow : OpenClaim := { program := "ytpoblnigmfbnfaa", sum := "982919129d888902149dcfe03b4deca34747e1b74650c2287cb27f4a467dd78b", func := "loop.example/g00033/laws.FnExactFair", spec := "fnExactFair", apart := false, narrowed := true }
def FnExactFairUptoSaid : Prop := fnExactFairUptoRow.holds Try.pinned (OpenSpec.upto fnExactFairSpec)

/-- 'laws.FnFloatSides', WHERE WHAT IT READS IS OF BULK AT MOST 1048576: true; the input reads as it did. -/
def fnFloatSidesUptoRow : OpenClaim := { program := "ytpoblnigmfbnfaa", sum := "982919129d888902149dcfe03b4deca34747e1b74650c2287cb27f4a467dd78b", func := "loop.example/g00033/laws.FnFloatSides", spec := "fnFloatSides", inPlace := ["math.Float32bits", "math.Float32frombits"], recurses := true, apart := false, narrowed := true }
def FnFloatSidesUptoSaid : Prop := fnFloatSidesUptoRow.holds Try.pinned (OpenSpec.upto fnFloatSidesSpec)

/-- 'laws.FnExactTwice', WHERE WHAT IT READS IS OF BULK AT MOST 1048576: true; the input reads as it did. -/
def fnExactTwiceUptoRow : OpenClaim := { program := "ytpoblnigmfbnfaa", sum := "982919129d888902149dcfe03b4deca34747e1b74650c2287cb27f4a467dd78b", func := "loop.example/g00033/laws.FnExactTwice", spec := "fnExactTwice", unfollowed := true, recurses := true, apart := false, narrowed := true }
def FnExactTwiceUptoSaid : Prop := fnExactTwiceUptoRow.holds Try.pinned (OpenSpec.upto fnExactTwiceSpec)

/-- 'laws.FnExactMeet', WHERE WHAT IT READS IS OF BULK AT MOST 1048576: true; the input reads as it did. -/
def fnExactMeetUptoRow : OpenClaim := { program := "ytpoblnigmfbnfaa", sum := "982919129d888902149dcfe03b4deca34747e1b74650c2287cb27f4a467dd78b", func := "loop.example/g00033/laws.FnExactMeet", spec := "fnExactMeet", unfollowed := true, recurses := true, apart := false, narrowed := true }
def FnExactMeetUptoSaid : Prop := fnExactMeetUptoRow.holds Try.pinned (OpenSpec.upto fnExactMeetSpec)

/-- 'laws.FnExactFilter', WHERE WHAT IT READS IS OF BULK AT MOST 1048576: true; the input reads as it did. -/
def fnExactFilterUptoRow : OpenClaim := { program := "ytpoblnigmfbnfaa", sum := "982919129d888902149dcfe03b4deca34747e1b74650c2287cb27f4a467dd78b", func := "loop.example/g00033/laws.FnExactFilter", spec := "fnExactFilter", unfollowed := true, recurses := true, apart := false, narrowed := true }
def FnExactFilterUptoSaid : Prop := fnExactFilterUptoRow.holds Try.pinned (OpenSpec.upto fnExactFilterSpec)

/-- 'laws.FnExactNodes', WHERE WHAT IT READS IS OF BULK AT MOST 1048576: true; the input reads as it did. -/
def fnExactNodesUptoRow : OpenClaim := { program := "ytpoblnigmfbnfaa", sum := "982919129d888902149dcfe03b4deca34747e1b74650c2287cb27f4a467dd78b", func := "loop.example/g00033/laws.FnExactNodes", spec := "fnExactNodes", unfollowed := true, recurses := true, apart := false, narrowed := true }
def FnExactNodesUptoSaid : Prop := fnExactNodesUptoRow.holds Try.pinned (OpenSpec.upto fnExactNodesSpec)

end Rows
end Go.Proofs.Ytpoblnigmfbnfaa
