/-
  No cell of these rows narrows 'for every input' (looked for: loops, veiled, ifaces, maps, wideKeys, modest, calm, conditions, laid).
  DERIVED. THE GIVEN ROWS OF THIS SEAT. 6 by the template 'for every input the law returns true; each argument reads behind the call as it read before'; 0 by the template 'total and deterministic' (their statements: YtajknaobbjlljaaTotals.lean).
  GIVEN WITH THE SEED: the statements are not yours to turn. If you find one false, say at which input.
  Laid BY PROGRAM, IN A SANDBOX (cutbox-rows.mjs): the forced cells as the released guide's own fill.sh prints them over the translation d19978db3115c4da… (all of the seat's roots in one cut). By AI agents, Wed Nov 11 2026. No macro, syntax, notation, axiom, sorry.
-/
import Derived.Test.YtajknaobbjlljaaChecked
import GoSem.Claim
import GoSem.ClaimJoined
import GoSem.ClaimMapViews
import Derived.JoinedTies
import Derived.KernelRfl
namespace Go.Proofs.Ytajknaobbjlljaa
/- THE CELL 'sum', in the pinned program and in every row, IS THE sha256 OF THE DUMP (.gsa) THAT YtajknaobbjlljaaProg.lean LOADS. Nothing in Lean hashes anything: it is a label: what it is worth is what the hold of that sum in a sandbox is worth. -/
noncomputable def Try.pinned : Pinned := { name := "ytajknaobbjlljaa", sum := "d19978db3115c4da78d977f8a31d8d205f80c38bdd60ab373a5bc6550568c816", checked := Try.checked }
namespace Rows
def none {H : Type} : Left H := { results := [], args := [] }

/-- 'laws.FnExactWorst': WHATEVER THE INPUT: true; the input reads as it did. -/
def fnExactWorstSpec : ChangeSpec := { name := "fnExactWorst", fn := fun _ => fun
  | [d1, d2] => { results := [.lit (.bool true)], args := [d1, d2] }
  | _ => none }
def fnExactWorstRow : OpenClaim := { program := "ytajknaobbjlljaa", sum := "d19978db3115c4da78d977f8a31d8d205f80c38bdd60ab373a5bc6550568c816", func := "loop.example/g00033/laws.FnExactWorst", spec := "fnExactWorst", plainKeys := false, apart := false }
def FnExactWorstSaid : Prop := fnExactWorstRow.holds Try.pinned (OpenSpec.ofChange fnExactWorstSpec)

/-- ITS FALSE NEIGHBOUR: 'it returns false'. Refute it at one input. -/
def fnExactWorstWrong : ChangeSpec := { name := "fnExactWorst", fn := fun _ => fun
  | [d1, d2] => { results := [.lit (.bool false)], args := [d1, d2] }
  | _ => none }
def FnExactWorstWrongFalsely : Prop := fnExactWorstRow.holds Try.pinned (OpenSpec.ofChange fnExactWorstWrong)

/-- 'laws.FnExactFill': WHATEVER THE INPUT: true; the input reads as it did. -/
def fnExactFillSpec : ChangeSpec := { name := "fnExactFill", fn := fun _ => fun
  | [d1, d2] => { results := [.lit (.bool true)], args := [d1, d2] }
  | _ => none }
def fnExactFillRow : OpenClaim := { program := "ytajknaobbjlljaa", sum := "d19978db3115c4da78d977f8a31d8d205f80c38bdd60ab373a5bc6550568c816", func := "loop.example/g00033/laws.FnExactFill", spec := "fnExactFill", plainKeys := false, apart := false }
def FnExactFillSaid : Prop := fnExactFillRow.holds Try.pinned (OpenSpec.ofChange fnExactFillSpec)

/-- ITS FALSE NEIGHBOUR: 'it returns false'. Refute it at one input. -/
def fnExactFillWrong : ChangeSpec := { name := "fnExactFill", fn := fun _ => fun
  | [d1, d2] => { results := [.lit (.bool false)], args := [d1, d2] }
  | _ => none }
def FnExactFillWrongFalsely : Prop := fnExactFillRow.holds Try.pinned (OpenSpec.ofChange fnExactFillWrong)

/-- 'laws.FnByteBound': WHATEVER THE INPUT: true; the input reads as it did. -/
def fnByteBoundSpec : ChangeSpec := { name := "fnByteBound", fn := fun _ => fun
  | [d] => { results := [.lit (.bool true)], args := [d] }
  | _ => none }
def fnByteBoundRow : OpenClaim := { program := "ytajknaobbjlljaa", sum := "d19978db3115c4da78d977f8a31d8d205f80c38bdd60ab373a5bc6550568c816", func := "loop.example/g00033/laws.FnByteBound", spec := "fnByteBound", plainKeys := false, apart := false }
def FnByteBoundSaid : Prop := fnByteBoundRow.holds Try.pinned (OpenSpec.ofChange fnByteBoundSpec)

/-- ITS FALSE NEIGHBOUR: 'it returns false'. Refute it at one input. -/
def fnByteBoundWrong : ChangeSpec := { name := "fnByteBound", fn := fun _ => fun
  | [d] => { results := [.lit (.bool false)], args := [d] }
  | _ => none }
def FnByteBoundWrongFalsely : Prop := fnByteBoundRow.holds Try.pinned (OpenSpec.ofChange fnByteBoundWrong)

/-- 'laws.FnExactWhole': WHATEVER THE INPUT: true; the input reads as it did. -/
def fnExactWholeSpec : ChangeSpec := { name := "fnExactWhole", fn := fun _ => fun
  | [d] => { results := [.lit (.bool true)], args := [d] }
  | _ => none }
def fnExactWholeRow : OpenClaim := { program := "ytajknaobbjlljaa", sum := "d19978db3115c4da78d977f8a31d8d205f80c38bdd60ab373a5bc6550568c816", func := "loop.example/g00033/laws.FnExactWhole", spec := "fnExactWhole", plainKeys := false, apart := false }
def FnExactWholeSaid : Prop := fnExactWholeRow.holds Try.pinned (OpenSpec.ofChange fnExactWholeSpec)

/-- ITS FALSE NEIGHBOUR: 'it returns false'. Refute it at one input. -/
def fnExactWholeWrong : ChangeSpec := { name := "fnExactWhole", fn := fun _ => fun
  | [d] => { results := [.lit (.bool false)], args := [d] }
  | _ => none }
def FnExactWholeWrongFalsely : Prop := fnExactWholeRow.holds Try.pinned (OpenSpec.ofChange fnExactWholeWrong)

/-- 'laws.FnExactCodeOk': WHATEVER THE INPUT: true; the input reads as it did. -/
def fnExactCodeOkSpec : ChangeSpec := { name := "fnExactCodeOk", fn := fun _ => fun
  | [d] => { results := [.lit (.bool true)], args := [d] }
  | _ => none }
def fnExactCodeOkRow : OpenClaim := { program := "ytajknaobbjlljaa", sum := "d19978db3115c4da78d977f8a31d8d205f80c38bdd60ab373a5bc6550568c816", func := "loop.example/g00033/laws.FnExactCodeOk", spec := "fnExactCodeOk", plainKeys := false, apart := false }
def FnExactCodeOkSaid : Prop := fnExactCodeOkRow.holds Try.pinned (OpenSpec.ofChange fnExactCodeOkSpec)

/-- ITS FALSE NEIGHBOUR: 'it returns false'. Refute it at one input. -/
def fnExactCodeOkWrong : ChangeSpec := { name := "fnExactCodeOk", fn := fun _ => fun
  | [d] => { results := [.lit (.bool false)], args := [d] }
  | _ => none }
def FnExactCodeOkWrongFalsely : Prop := fnExactCodeOkRow.holds Try.pinned (OpenSpec.ofChange fnExactCodeOkWrong)

/-- 'laws.FnExactSlotsOk': WHATEVER THE INPUT: true; the input reads as it did. -/
def fnExactSlotsOkSpec : ChangeSpec := { name := "fnExactSlotsOk", fn := fun _ => fun
  | [d1, d2, d3] => { results := [.lit (.bool true)], args := [d1, d2, d3] }
  | _ => none }
def fnExactSlotsOkRow : OpenClaim := { program := "ytajknaobbjlljaa", sum := "d19978db3115c4da78d977f8a31d8d205f80c38bdd60ab373a5bc6550568c816", func := "loop.example/g00033/laws.FnExactSlotsOk", spec := "fnExactSlotsOk", plainKeys := false, apart := false }
def FnExactSlotsOkSaid : Prop := fnExactSlotsOkRow.holds Try.pinned (OpenSpec.ofChange fnExactSlotsOkSpec)

/-- ITS FALSE NEIGHBOUR: 'it returns false'. Refute it at one input. -/
def fnExactSlotsOkWrong : ChangeSpec := { name := "fnExactSlotsOk", fn := fun _ => fun
  | [d1, d2, d3] => { results := [.lit (.bool false)], args := [d1, d2, d3] }
  | _ => none }
def FnExactSlotsOkWrongFalsely : Prop := fnExactSlotsOkRow.holds Try.pinned (OpenSpec.ofChange fnExactSlotsOkWrong)

/- THE SECOND FORM. 'bulk': how many values and letters a reading holds, each counted each time it is reached (what is shared counts as often as it is met; a slice's spare places count too). A statement '..UptoSaid' is the law's where the arguments, and the package variables that the reading takes, are together of bulk at most 1048576: NARROWER than '..Said'. Prove '..Said' where nothing that the law and all that it calls make is longer than what came in: it says more and counts as full. Else prove '..UptoSaid'. A law counts once. -/
mutual
def uptoBulk {H : Type} : DataW H → Nat
  | .lit (.string bytes) => bytes.length + 1
  | .lit _ => 1
  | .nil => 1
  | .ptr d => uptoBulk d + 1
  | .slice elems spare => uptoBulkAll elems + uptoBulkAll spare + 1
  | .agg parts => uptoBulkAll parts + 1
  | .iface _ d => uptoBulk d + 1
  | .map entries => uptoBulkEntries entries + 1
  | .held _ => 1
def uptoBulkAll {H : Type} : List (DataW H) → Nat
  | [] => 0
  | d :: r => uptoBulk d + uptoBulkAll r
def uptoBulkEntries {H : Type} : List (Lit × DataW H) → Nat
  | [] => 0
  | x :: r => uptoBulkEntry x + uptoBulkEntries r
def uptoBulkEntry {H : Type} : Lit × DataW H → Nat
  | (.string bytes, d) => bytes.length + uptoBulk d + 1
  | (_, d) => uptoBulk d + 1
 end
def uptoSmall : (H : Type) → List (DataW H) → Bool := fun _ ds => decide (uptoBulkAll ds ≤ 1048576)
def OpenSpec.upto (s : _root_.Go.ChangeSpec) : _root_.Go.OpenSpec := { _root_.Go.OpenSpec.ofChange s with cond := some uptoSmall }

/-- 'laws.FnExactWorst', WHERE WHAT IT READS IS OF BULK AT MOST 1048576: true; the input reads as it did. -/
def fnExactWorstUptoRow : OpenClaim := { program := "ytajknaobbjlljaa", sum := "d19978db3115c4da78d977f8a31d8d205f80c38bdd60ab373a5bc6550568c816", func := "loop.example/g00033/laws.FnExactWorst", spec := "fnExactWorst", plainKeys := false, apart := false, narrowed := true }
def FnExactWorstUptoSaid : Prop := fnExactWorstUptoRow.holds Try.pinned (OpenSpec.upto fnExactWorstSpec)

/-- 'laws.FnExactFill', WHERE WHAT IT READS IS OF BULK AT MOST 1048576: true; the input reads as it did. -/
def fnExactFillUptoRow : OpenClaim := { program := "ytajknaobbjlljaa", sum := "d19978db3115c4da78d977f8a31d8d205f80c38bdd60ab373a5bc6550568c816", func := "loop.example/g00033/laws.FnExactFill", spec := "fnExactFill", plainKeys := false, apart := false, narrowed := true }
def FnExactFillUptoSaid : Prop := fnExactFillUptoRow.holds Try.pinned (OpenSpec.upto fnExactFillSpec)

/-- 'laws.FnByteBound', WHERE WHAT IT READS IS OF BULK AT MOST 1048576: true; the input reads as it did. -/
def fnByteBoundUptoRow : OpenClaim := { program := "ytajknaobbjlljaa", sum := "d19978db3115c4da78d977f8a31d8d205f80c38bdd60ab373a5bc6550568c816", func := "loop.example/g00033/laws.FnByteBound", spec := "fnByteBound", plainKeys := false, apart := false, narrowed := true }
def FnByteBoundUptoSaid : Prop := fnByteBoundUptoRow.holds Try.pinned (OpenSpec.upto fnByteBoundSpec)

/-- 'laws.FnExactWhole', WHERE WHAT IT READS IS OF BULK AT MOST 1048576: true; the input reads as it did. -/
def fnExactWholeUptoRow : OpenClaim := { program := "ytajknaobbjlljaa", sum := "d19978db3115c4da78d977f8a31d8d205f80c38bdd60ab373a5bc6550568c816", func := "loop.example/g00033/laws.FnExactWhole", spec := "fnExactWhole", plainKeys := false, apart := false, narrowed := true }
def FnExactWholeUptoSaid : Prop := fnExactWholeUptoRow.holds Try.pinned (OpenSpec.upto fnExactWholeSpec)

/-- 'laws.FnExactCodeOk', WHERE WHAT IT READS IS OF BULK AT MOST 1048576: true; the input reads as it did. -/
def fnExactCodeOkUptoRow : OpenClaim := { program := "ytajknaobbjlljaa", sum := "d19978db3115c4da78d977f8a31d8d205f80c38bdd60ab373a5bc6550568c816", func := "loop.example/g00033/laws.FnExactCodeOk", spec := "fnExactCodeOk", plainKeys := false, apart := false, narrowed := true }
def FnExactCodeOkUptoSaid : Prop := fnExactCodeOkUptoRow.holds Try.pinned (OpenSpec.upto fnExactCodeOkSpec)

/-- 'laws.FnExactSlotsOk', WHERE WHAT IT READS IS OF BULK AT MOST 1048576: true; the input reads as it did. -/
def fnExactSlotsOkUptoRow : OpenClaim := { program := "ytajknaobbjlljaa", sum := "d19978db3115c4da78d977f8a31d8d205f80c38bdd60ab373a5bc6550568c816", func := "loop.example/g00033/laws.FnExactSlotsOk", spec := "fnExactSlotsOk", plainKeys := false, apart := false, narrowed := true }
def FnExactSlotsOkUptoSaid : Prop := fnExactSlotsOkUptoRow.holds Try.pinned (OpenSpec.upto fnExactSlotsOkSpec)

end Rows
end Go.Proofs.Ytajknaobbjlljaa
