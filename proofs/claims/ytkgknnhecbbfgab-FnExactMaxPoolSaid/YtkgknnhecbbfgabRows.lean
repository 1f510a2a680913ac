/-
  No cell of these rows narrows 'for every input' (looked for: loops, veiled, ifaces, maps, wideKeys, modest, calm, conditions, laid).
  DERIVED. THE GIVEN ROWS OF THIS SEAT. 6 by the template 'for every input the law returns true; each argument reads behind the call as it read before'; 0 by the template 'total and deterministic' (their statements: YtkgknnhecbbfgabTotals.lean).
  GIVEN WITH THE SEED: the statements are not yours to turn. If you find one false, say at which input.
  Laid BY PROGRAM, IN A SANDBOX (cutbox-rows.mjs): the forced cells as the released guide's own fill.sh prints them over the translation d5bd31c3dab02fa6… (all of the seat's roots in one cut). By AI agents, Wed Nov 11 2026. No macro, syntax, notation, axiom, sorry.
-/
import Derived.Test.YtkgknnhecbbfgabChecked
import GoSem.Claim
import GoSem.ClaimJoined
import GoSem.ClaimMapViews
import Derived.JoinedTies
import Derived.KernelRfl
namespace Go.Proofs.Ytkgknnhecbbfgab
/- THE CELL 'sum', in the pinned program and in every row, IS THE sha256 OF THE DUMP (.gsa) THAT YtkgknnhecbbfgabProg.lean LOADS. Nothing in Lean hashes anything: it is a label: what it is worth is what the hold of that sum in a sandbox is worth. -/
noncomputable def Try.pinned : Pinned := { name := "ytkgknnhecbbfgab", sum := "d5bd31c3dab02fa6fd8a531d6387edea15b367ab6116963432a4fdc028db9e1e", checked := Try.checked }
namespace Rows
def none {H : Type} : Left H := { results := [], args := [] }

/-- 'laws.FnExactAltSlots': WHATEVER THE INPUT: true; the input reads as it did. -/
def fnExactAltSlotsSpec : ChangeSpec := { name := "fnExactAltSlots", fn := fun _ => fun
  | [d1, d2] => { results := [.lit (.bool true)], args := [d1, d2] }
  | _ => none }
def fnExactAltSlotsRow : OpenClaim := { program := "ytkgknnhecbbfgab", sum := "d5bd31c3dab02fa6fd8a531d6387edea15b367ab6116963432a4fdc028db9e1e", func := "loop.example/g00033/laws.FnExactAltSlots", spec := "fnExactAltSlots", plainKeys := false, apart := false }
def FnExactAltSlotsSaid : Prop := fnExactAltSlotsRow.holds Try.pinned (OpenSpec.ofChange fnExactAltSlotsSpec)

/-- ITS FALSE NEIGHBOUR: 'it returns false'. Refute it at one input. -/
def fnExactAltSlotsWrong : ChangeSpec := { name := "fnExactAltSlots", fn := fun _ => fun
  | [d1, d2] => { results := [.lit (.bool false)], args := [d1, d2] }
  | _ => none }
def FnExactAltSlotsWrongFalsely : Prop := fnExactAltSlotsRow.holds Try.pinned (OpenSpec.ofChange fnExactAltSlotsWrong)

/-- 'laws.FnExactSavedOk': WHATEVER THE INPUT: true; the input reads as it did. -/
def fnExactSavedOkSpec : ChangeSpec := { name := "fnExactSavedOk", fn := fun _ => fun
  | [d] => { results := [.lit (.bool true)], args := [d] }
  | _ => none }
def fnExactSavedOkRow : OpenClaim := { program := "ytkgknnhecbbfgab", sum := "d5bd31c3dab02fa6fd8a531d6387edea15b367ab6116963432a4fdc028db9e1e", func := "loop.example/g00033/laws.FnExactSavedOk", spec := "fnExactSavedOk", plainKeys := false, apart := false }
def FnExactSavedOkSaid : Prop := fnExactSavedOkRow.holds Try.pinned (OpenSpec.ofChange fnExactSavedOkSpec)

/-- ITS FALSE NEIGHBOUR: 'it returns false'. Refute it at one input. -/
def fnExactSavedOkWrong : ChangeSpec := { name := "fnExactSavedOk", fn := fun _ => fun
  | [d] => { results := [.lit (.bool false)], args := [d] }
  | _ => none }
def FnExactSavedOkWrongFalsely : Prop := fnExactSavedOkRow.holds Try.pinned (OpenSpec.ofChange fnExactSavedOkWrong)

/-- 'laws.FnExactPlace': WHATEVER THE INPUT: true; the input reads as it did. -/
def fnExactPlaceSpec : ChangeSpec := { name := "fnExactPlace", fn := fun _ => fun
  | [d1, d2] => { results := [.lit (.bool true)], args := [d1, d2] }
  | _ => none }
def fnExactPlaceRow : OpenClaim := { program := "ytkgknnhecbbfgab", sum := "d5bd31c3dab02fa6fd8a531d6387edea15b367ab6116963432a4fdc028db9e1e", func := "loop.example/g00033/laws.FnExactPlace", spec := "fnExactPlace", plainKeys := false, apart := false }
def FnExactPlaceSaid : Prop := fnExactPlaceRow.holds Try.pinned (OpenSpec.ofChange fnExactPlaceSpec)

/-- ITS FALSE NEIGHBOUR: 'it returns false'. Refute it at one input. -/
def fnExactPlaceWrong : ChangeSpec := { name := "fnExactPlace", fn := fun _ => fun
  | [d1, d2] => { results := [.lit (.bool false)], args := [d1, d2] }
  | _ => none }
def FnExactPlaceWrongFalsely : Prop := fnExactPlaceRow.holds Try.pinned (OpenSpec.ofChange fnExactPlaceWrong)

/-- 'laws.FnExactMaxPool': WHATEVER THE INPUT: true; the input reads as it did. -/
def fnExactMaxPoolSpec : ChangeSpec := { name := "fnExactMaxPool", fn := fun _ => fun
  | [d1, d2, d3] => { results := [.lit (.bool true)], args := [d1, d2, d3] }
  | _ => none }
def fnExactMaxPoolRow : OpenClaim := { program := "ytkgknnhecbbfgab", sum := "d5bd31c3dab02fa6fd8a531d6387edea15b367ab6116963432a4fdc028db9e1e", func := "loop.example/g00033/laws.FnExactMaxPool", spec := "fnExactMaxPool", unfollowed := true, recurses := true, plainKeys := false, apart := false }
def FnExactMaxPoolSaid : Prop := fnExactMaxPoolRow.holds Try.pinned (OpenSpec.ofChange fnExactMaxPoolSpec)

/-- ITS FALSE NEIGHBOUR: 'it returns false'. Refute it at one input. -/
def fnExactMaxPoolWrong : ChangeSpec := { name := "fnExactMaxPool", fn := fun _ => fun
  | [d1, d2, d3] => { results := [.lit (.bool false)], args := [d1, d2, d3] }
  | _ => none }
def FnExactMaxPoolWrongFalsely : Prop := fnExactMaxPoolRow.holds Try.pinned (OpenSpec.ofChange fnExactMaxPoolWrong)

/-- 'laws.FnExactFTree': WHATEVER THE INPUT: true; the input reads as it did. -/
def fnExactFTreeSpec : ChangeSpec := { name := "fnExactFTree", fn := fun _ => fun
  | [d] => { results := [.lit (.bool true)], args := [d] }
  | _ => none }
def fnExactFTreeRow : OpenClaim := { program := "ytkgknnhecbbfgab", sum := "d5bd31c3dab02fa6fd8a531d6387edea15b367ab6116963432a4fdc028db9e1e", func := "loop.example/g00033/laws.FnExactFTree", spec := "fnExactFTree", inPlace := ["math.Float32frombits", "math.Float32bits"], recurses := true, plainKeys := false, apart := false }
def FnExactFTreeSaid : Prop := fnExactFTreeRow.holds Try.pinned (OpenSpec.ofChange fnExactFTreeSpec)

/-- ITS FALSE NEIGHBOUR: 'it returns false'. Refute it at one input. -/
def fnExactFTreeWrong : ChangeSpec := { name := "fnExactFTree", fn := fun _ => fun
  | [d] => { results := [.lit (.bool false)], args := [d] }
  | _ => none }
def FnExactFTreeWrongFalsely : Prop := fnExactFTreeRow.holds Try.pinned (OpenSpec.ofChange fnExactFTreeWrong)

/-- 'laws.FnExactOfHalf': WHATEVER THE INPUT: true; the input reads as it did. -/
def fnExactOfHalfSpec : ChangeSpec := { name := "fnExactOfHalf", fn := fun _ => fun
  | [d] => { results := [.lit (.bool true)], args := [d] }
  | _ => none }
def fnExactOfHalfRow : OpenClaim := { program := "ytkgknnhecbbfgab", sum := "d5bd31c3dab02fa6fd8a531d6387edea15b367ab6116963432a4fdc028db9e1e", func := "loop.example/g00033/laws.FnExactOfHalf", spec := "fnExactOfHalf", inPlace := ["math.Float64frombits", "math.Float64bits", "math.Float32bits"], plainKeys := false, apart := false }
def FnExactOfHalfSaid : Prop := fnExactOfHalfRow.holds Try.pinned (OpenSpec.ofChange fnExactOfHalfSpec)

/-- ITS FALSE NEIGHBOUR: 'it returns false'. Refute it at one input. -/
def fnExactOfHalfWrong : ChangeSpec := { name := "fnExactOfHalf", fn := fun _ => fun
  | [d] => { results := [.lit (.bool false)], args := [d] }
  | _ => none }
def FnExactOfHalfWrongFalsely : Prop := fnExactOfHalfRow.holds Try.pinned (OpenSpec.ofChange fnExactOfHalfWrong)

/- THE SECOND FORM. 'bulk': how many values and letters a reading holds, each counted each time it is reached (what is shared counts as often as it is met; a slice's spare places count too). A statement '..UptoSaid' is the law's where the arguments, and the package variables that the reading takes, are together of bulk at most 1048576: NARROWER than '..Said'. Prove '..Said' where nothing that the law and all that it calls make is longer than what came in: it says more and counts as full. Else prove '..UptoSaid'. A law counts once. -/
mutual
def uptoBulk {H : Type} : DataW H → Nat
  | .lit (.string bytes) => bytes.length + 1
  | .lit _ => 1
  | .nil => 1
  | .ptr d => uptoBulk d + 1
  | .slice elems spare => uptoBulkAll elems + uptoBulkAll spare + 1
  | .agg parts => uptoBulkAll parts + 1
  | .iface _ d => uptoBulk d + 1
  | .map entries => uptoBulkEntries entries + 1
  | .held _ => 1
def uptoBulkAll {H : Type} : List (DataW H) → Nat
  | [] => 0
  | d :: r => uptoBulk d + uptoBulkAll r
def uptoBulkEntries {H : Type} : List (Lit × DataW H) → Nat
  | [] => 0
  | x :: r => uptoBulkEntry x + uptoBulkEntries r
def uptoBulkEntry {H : Type} : Lit × DataW H → Nat
  | (.string bytes, d) => bytes.length + uptoBulk d + 1
  | (_, d) => uptoBulk d + 1
 end
def uptoSmall : (H : Type) → List (DataW H) → Bool := fun _ ds => decide (uptoBulkAll ds ≤ 1048576)
def OpenSpec.upto (s : _root_.Go.ChangeSpec) : _root_.Go.OpenSpec := { _root_.Go.OpenSpec.ofChange s with cond := some uptoSmall }

/-- 'laws.FnExactAltSlots', WHERE WHAT IT READS IS OF BULK AT MOST 1048576: true; the input reads as it did. -/
def fnExactAltSlotsUptoRow : OpenClaim := { program := "ytkgknnhecbbfgab", sum := "d5bd31c3dab02fa6fd8a531d6387edea15b367ab6116963432a4fdc028db9e1e", func := "loop.example/g00033/laws.FnExactAltSlots", spec := "fnExactAltSlots", plainKeys := false, apart := false, narrowed := true }
def FnExactAltSlotsUptoSaid : Prop := fnExactAltSlotsUptoRow.holds Try.pinned (OpenSpec.upto fnExactAltSlotsSpec)

/-- 'laws.FnExactSavedOk', WHERE WHAT IT READS IS OF BULK AT MOST 1048576: true; the input reads as it did. -/
def fnExactSavedOkUptoRow : OpenClaim := { program := "ytkgknnhecbbfgab", sum := "d5bd31c3dab02fa6fd8a531d6387edea15b367ab6116963432a4fdc028db9e1e", func := "loop.example/g00033/laws.FnExactSavedOk", spec := "fnExactSavedOk", plainKeys := false, apart := false, narrowed := true }
def FnExactSavedOkUptoSaid : Prop := fnExactSavedOkUptoRow.holds Try.pinned (OpenSpec.upto fnExactSavedOkSpec)

/-- 'laws.FnExactPlace', WHERE WHAT IT READS IS OF BULK AT MOST 1048576: true; the input reads as it did. -/
def fnExactPlaceUptoRow : OpenClaim := { program := "ytkgknnhecbbfgab", sum := "d5bd31c3dab02fa6fd8a531d6387edea15b367ab6116963432a4fdc028db9e1e", func := "loop.example/g00033/laws.FnExactPlace", spec := "fnExactPlace", plainKeys := false, apart := false, narrowed := true }
def FnExactPlaceUptoSaid : Prop := fnExactPlaceUptoRow.holds Try.pinned (OpenSpec.upto fnExactPlaceSpec)

/-- 'laws.FnExactMaxPool', WHERE WHAT IT READS IS OF BULK AT MOST 1048576: true; the input reads as it did. -/
def fnExactMaxPoolUptoRow : OpenClaim := { program := "ytkgknnhecbbfgab", sum := "d5bd31c3dab02fa6fd8a531d6387edea15b367ab6116963432a4fdc028db9e1e", func := "loop.example/g00033/laws.FnExactMaxPool", spec := "fnExactMaxPool", unfollowed := true, recurses := true, plainKeys := false, apart := false, narrowed := true }
def FnExactMaxPoolUptoSaid : Prop := fnExactMaxPoolUptoRow.holds Try.pinned (OpenSpec.upto fnExactMaxPoolSpec)

/-- 'laws.FnExactFTree', WHERE WHAT IT READS IS OF BULK AT MOST 1048576: true; the input reads as it did. -/
def fnExactFTreeUptoRow : OpenClaim := { program := "ytkgknnhecbbfgab", sum := "d5bd31c3dab02fa6fd8a531d6387edea15b367ab6116963432a4fdc028db9e1e", func := "loop.example/g00033/laws.FnExactFTree", spec := "fnExactFTree", inPlace := ["math.Float32frombits", "math.Float32bits"], recurses := true, plainKeys := false, apart := false, narrowed := true }
def FnExactFTreeUptoSaid : Prop := fnExactFTreeUptoRow.holds Try.pinned (OpenSpec.upto fnExactFTreeSpec)

/-- 'laws.FnExactOfHalf', WHERE WHAT IT READS IS OF BULK AT MOST 1048576: true; the input reads as it did. -/
def fnExactOfHalfUptoRow : OpenClaim := { program := "ytkgknnhecbbfgab", sum := "d5bd31c3dab02fa6fd8a531d6387edea15b367ab6116963432a4fdc028db9e1e", func := "loop.example/g00033/laws.FnExactOfHalf", spec := "fnExactOfHalf", inPlace := ["math.Float64frombits", "math.Float64bits", "math.Float32bits"], plainKeys := false, apart := false, narrowed := true }
def FnExactOfHalfUptoSaid : Prop := fnExactOfHalfUptoRow.holds Try.pinned (OpenSpec.upto fnExactOfHalfSpec)

end Rows
end Go.Proofs.Ytkgknnhecbbfgab
