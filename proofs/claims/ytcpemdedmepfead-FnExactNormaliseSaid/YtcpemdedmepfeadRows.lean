/-
  No cell of these rows narrows 'for every input' (looked for: loops, veiled, ifaces, maps, wideKeys, modest, calm, conditions, laid).
  DERIVED. THE GIVEN ROWS OF THIS SEAT. 5 by the template 'for every input the law returns true; each argument reads behind the call as it read before'; 0 by the template 'total and deterministic' (their statements: YtcpemdedmepfeadTotals.lean).
  GIVEN WITH THE SEED: the statements are not yours to turn. If you find one false, say at which input.
  Laid BY PROGRAM, IN A SANDBOX (cutbox-rows.mjs): the forced cells as the released guide's own fill.sh prints them over the translation 24f28d231abf9999… (all of the seat's roots in one cut). By AI agents, Wed Nov 11 2026. No macro, syntax, notation, axiom, sorry.
-/
import Derived.Test.YtcpemdedmepfeadChecked
import GoSem.Claim
import GoSem.ClaimJoined
import GoSem.ClaimMapViews
import Derived.JoinedTies
import Derived.KernelRfl
namespace Go.Proofs.Ytcpemdedmepfead
/- THE CELL 'sum', in the pinned program and in every row, IS THE sha256 OF THE DUMP (.gsa) THAT YtcpemdedmepfeadProg.lean LOADS. Nothing in Lean hashes anything: it is a label: what it is worth is what the hold of that sum in a sandbox is worth. -/
noncomputable def Try.pinned : Pinned := { name := "ytcpemdedmepfead", sum := "24f28d231abf9999176000aa6dcb27fde78cb245893d351329a6ece483d63259", checked := Try.checked }
namespace Rows
def none {H : Type} : Left H := { results := [], args := [] }

/-- 'laws.FnExactLearn': WHATEVER THE INPUT: true; the input reads as it did. -/
def fnExactLearnSpec : ChangeSpec := { name := "fnExactLearn", fn := fun _ => fun
  | [d1, d2] => { results := [.lit (.bool true)], args := [d1, d2] }
  | _ => none }
def fnExactLearnRow : OpenClaim := { program := "ytcpemdedmepfead", sum := "24f28d231abf9999176000aa6dcb27fde78cb245893d351329a6ece483d63259", func := "loop.example/g00033/laws.FnExactLearn", spec := "fnExactLearn", unfollowed := true, recurses := true, plainKeys := false, apart := false }
def FnExactLearnSaid : Prop := fnExactLearnRow.holds Try.pinned (OpenSpec.ofChange fnExactLearnSpec)

/-- ITS FALSE NEIGHBOUR: 'it returns false'. Refute it at one input. -/
def fnExactLearnWrong : ChangeSpec := { name := "fnExactLearn", fn := fun _ => fun
  | [d1, d2] => { results := [.lit (.bool false)], args := [d1, d2] }
  | _ => none }
def FnExactLearnWrongFalsely : Prop := fnExactLearnRow.holds Try.pinned (OpenSpec.ofChange fnExactLearnWrong)

/-- 'laws.FnExactEncode': WHATEVER THE INPUT: true; the input reads as it did. -/
def fnExactEncodeSpec : ChangeSpec := { name := "fnExactEncode", fn := fun _ => fun
  | [d1, d2] => { results := [.lit (.bool true)], args := [d1, d2] }
  | _ => none }
def fnExactEncodeRow : OpenClaim := { program := "ytcpemdedmepfead", sum := "24f28d231abf9999176000aa6dcb27fde78cb245893d351329a6ece483d63259", func := "loop.example/g00033/laws.FnExactEncode", spec := "fnExactEncode", unfollowed := true, recurses := true, plainKeys := false, apart := false }
def FnExactEncodeSaid : Prop := fnExactEncodeRow.holds Try.pinned (OpenSpec.ofChange fnExactEncodeSpec)

/-- ITS FALSE NEIGHBOUR: 'it returns false'. Refute it at one input. -/
def fnExactEncodeWrong : ChangeSpec := { name := "fnExactEncode", fn := fun _ => fun
  | [d1, d2] => { results := [.lit (.bool false)], args := [d1, d2] }
  | _ => none }
def FnExactEncodeWrongFalsely : Prop := fnExactEncodeRow.holds Try.pinned (OpenSpec.ofChange fnExactEncodeWrong)

/-- 'laws.FnExactByExperts': WHATEVER THE INPUT: true; the input reads as it did. -/
def fnExactByExpertsSpec : ChangeSpec := { name := "fnExactByExperts", fn := fun _ => fun
  | [d1, d2, d3, d4] => { results := [.lit (.bool true)], args := [d1, d2, d3, d4] }
  | _ => none }
def fnExactByExpertsRow : OpenClaim := { program := "ytcpemdedmepfead", sum := "24f28d231abf9999176000aa6dcb27fde78cb245893d351329a6ece483d63259", func := "loop.example/g00033/laws.FnExactByExperts", spec := "fnExactByExperts", plainKeys := false, apart := false }
def FnExactByExpertsSaid : Prop := fnExactByExpertsRow.holds Try.pinned (OpenSpec.ofChange fnExactByExpertsSpec)

/-- ITS FALSE NEIGHBOUR: 'it returns false'. Refute it at one input. -/
def fnExactByExpertsWrong : ChangeSpec := { name := "fnExactByExperts", fn := fun _ => fun
  | [d1, d2, d3, d4] => { results := [.lit (.bool false)], args := [d1, d2, d3, d4] }
  | _ => none }
def FnExactByExpertsWrongFalsely : Prop := fnExactByExpertsRow.holds Try.pinned (OpenSpec.ofChange fnExactByExpertsWrong)

/-- 'laws.FnExactNormalise': WHATEVER THE INPUT: true; the input reads as it did. -/
def fnExactNormaliseSpec : ChangeSpec := { name := "fnExactNormalise", fn := fun _ => fun
  | [d1, d2, d3] => { results := [.lit (.bool true)], args := [d1, d2, d3] }
  | _ => none }
def fnExactNormaliseRow : OpenClaim := { program := "ytcpemdedmepfead", sum := "24f28d231abf9999176000aa6dcb27fde78cb245893d351329a6ece483d63259", func := "loop.example/g00033/laws.FnExactNormalise", spec := "fnExactNormalise", unfollowed := true, recurses := true, plainKeys := false, apart := false }
def FnExactNormaliseSaid : Prop := fnExactNormaliseRow.holds Try.pinned (OpenSpec.ofChange fnExactNormaliseSpec)

/-- ITS FALSE NEIGHBOUR: 'it returns false'. Refute it at one input. -/
def fnExactNormaliseWrong : ChangeSpec := { name := "fnExactNormalise", fn := fun _ => fun
  | [d1, d2, d3] => { results := [.lit (.bool false)], args := [d1, d2, d3] }
  | _ => none }
def FnExactNormaliseWrongFalsely : Prop := fnExactNormaliseRow.holds Try.pinned (OpenSpec.ofChange fnExactNormaliseWrong)

/-- 'laws.FnWordsApart': WHATEVER THE INPUT: true; the input reads as it did. -/
def fnWordsApartSpec : ChangeSpec := { name := "fnWordsApart", fn := fun _ => fun
  | [d] => { results := [.lit (.bool true)], args := [d] }
  | _ => none }
def fnWordsApartRow : OpenClaim := { program := "ytcpemdedmepfead", sum := "24f28d231abf9999176000aa6dcb27fde78cb245893d351329a6ece483d63259", func := "loop.example/g00033/laws.FnWordsApart", spec := "fnWordsApart", unfollowed := true, recurses := true, plainKeys := false, apart := false }
def FnWordsApartSaid : Prop := fnWordsApartRow.holds Try.pinned (OpenSpec.ofChange fnWordsApartSpec)

/-- ITS FALSE NEIGHBOUR: 'it returns false'. Refute it at one input. -/
def fnWordsApartWrong : ChangeSpec := { name := "fnWordsApart", fn := fun _ => fun
  | [d] => { results := [.lit (.bool false)], args := [d] }
  | _ => none }
def FnWordsApartWrongFalsely : Prop := fnWordsApartRow.holds Try.pinned (OpenSpec.ofChange fnWordsApartWrong)

/- THE SECOND FORM. 'bulk': how many values and letters a reading holds, each counted each time it is reached (what is shared counts as often as it is met; a slice's spare places count too). A statement '..UptoSaid' is the law's where the arguments, and the package variables that the reading takes, are together of bulk at most 1048576: NARROWER than '..Said'. Prove '..Said' where nothing that the law and all that it calls make is longer than what came in: it says more and counts as full. Else prove '..UptoSaid'. A law counts once. -/
mutual
def uptoBulk {H : Type} : DataW H → Nat
  | .lit (.string bytes) => bytes.length + 1
  | .lit _ => 1
  | .nil => 1
  | .ptr d => uptoBulk d + 1
  | .slice elems spare => uptoBulkAll elems + uptoBulkAll spare + 1
  | .agg parts => uptoBulkAll parts + 1
  | .iface _ d => uptoBulk d + 1
  | .map entries => uptoBulkEntries entries + 1
  | .held _ => 1
def uptoBulkAll {H : Type} : List (DataW H) → Nat
  | [] => 0
  | d :: r => uptoBulk d + uptoBulkAll r
def uptoBulkEntries {H : Type} : List (Lit × DataW H) → Nat
  | [] => 0
  | x :: r => uptoBulkEntry x + uptoBulkEntries r
def uptoBulkEntry {H : Type} : Lit × DataW H → Nat
  | (.string bytes, d) => bytes.length + uptoBulk d + 1
  | (_, d) => uptoBulk d + 1
 end
def uptoSmall : (H : Type) → List (DataW H) → Bool := fun _ ds => decide (uptoBulkAll ds ≤ 1048576)
def OpenSpec.upto (s : _root_.Go.ChangeSpec) : _root_.Go.OpenSpec := { _root_.Go.OpenSpec.ofChange s with cond := some uptoSmall }

/-- 'laws.FnExactLearn', WHERE WHAT IT READS IS OF BULK AT MOST 1048576: true; the input reads as it did. -/
def fnExactLearnUptoRow : OpenClaim := { program := "ytcpemdedmepfead", sum := "24f28d231abf9999176000aa6dcb27fde78cb245893d351329a6ece483d63259", func := "loop.example/g00033/laws.FnExactLearn", spec := "fnExactLearn", unfollowed := true, recurses := true, plainKeys := false, apart := false, narrowed := true }
def FnExactLearnUptoSaid : Prop := fnExactLearnUptoRow.holds Try.pinned (OpenSpec.upto fnExactLearnSpec)

/-- 'laws.FnExactEncode', WHERE WHAT IT READS IS OF BULK AT MOST 1048576: true; the input reads as it did. -/
def fnExactEncodeUptoRow : OpenClaim := { program := "ytcpemdedmepfead", sum := "24f28d231abf9999176000aa6dcb27fde78cb245893d351329a6ece483d63259", func := "loop.example/g00033/laws.FnExactEncode", spec := "fnExactEncode", unfollowed := true, recurses := true, plainKeys := false, apart := false, narrowed := true }
def FnExactEncodeUptoSaid : Prop := fnExactEncodeUptoRow.holds Try.pinned (OpenSpec.upto fnExactEncodeSpec)

/-- 'laws.FnExactByExperts', WHERE WHAT IT READS IS OF BULK AT MOST 1048576: true; the input reads as it did. -/
def fnExactByExpertsUptoRow : OpenClaim := { program := "ytcpemdedmepfead", sum := "24f28d231abf9999176000aa6dcb27fde78cb245893d351329a6ece483d63259", func := "loop.example/g00033/laws.FnExactByExperts", spec := "fnExactByExperts", plainKeys := false, apart := false, narrowed := true }
def FnExactByExpertsUptoSaid : Prop := fnExactByExpertsUptoRow.holds Try.pinned (OpenSpec.upto fnExactByExpertsSpec)

/-- 'laws.FnExactNormalise', WHERE WHAT IT READS IS OF BULK AT MOST 1048576: true; the input reads as it did. -/
def fnExactNormaliseUptoRow : OpenClaim := { program := "ytcpemdedmepfead", sum := "24f28d231abf9999176000aa6dcb27fde78cb245893d351329a6ece483d63259", func := "loop.example/g00033/laws.FnExactNormalise", spec := "fnExactNormalise", unfollowed := true, recurses := true, plainKeys := false, apart := false, narrowed := true }
def FnExactNormaliseUptoSaid : Prop := fnExactNormaliseUptoRow.holds Try.pinned (OpenSpec.upto fnExactNormaliseSpec)

/-- 'laws.FnWordsApart', WHERE WHAT IT READS IS OF BULK AT MOST 1048576: true; the input reads as it did. -/
def fnWordsApartUptoRow : OpenClaim := { program := "ytcpemdedmepfead", sum := "24f28d231abf9999176000aa6dcb27fde78cb245893d351329a6ece483d63259", func := "loop.example/g00033/laws.FnWordsApart", spec := "fnWordsApart", unfollowed := true, recurses := true, plainKeys := false, apart := false, narrowed := true }
def FnWordsApartUptoSaid : Prop := fnWordsApartUptoRow.holds Try.pinned (OpenSpec.upto fnWordsApartSpec)

end Rows
end Go.Proofs.Ytcpemdedmepfead
