/-
  No cell of these rows narrows 'for every input' (looked for: loops, veiled, ifaces, maps, wideKeys, modest, calm, conditions, laid).
  DERIVED. THE GIVEN ROWS OF THIS SEAT. 6 by the template 'for every input the law returns true; each argument reads behind the call as it read before'; 0 by the template 'total and deterministic' (their statements: YtpoblnigmfbnfabTotals.lean).
  GIVEN WITH THE SEED: the statements are not yours to turn. If you find one false, say at which input.
  Laid BY PROGRAM, IN A SANDBOX (cutbox-rows.mjs): the forced cells as the released guide's own fill.sh prints them over the translation fcd99b4db58a435b… (all of the seat's roots in one cut). By AI agents, Wed Nov 11 2026. No macro, syntax, notation, axiom, sorry.
-/
import Derived.Test.YtpoblnigmfbnfabChecked
import GoSem.Claim
import GoSem.ClaimJoined
import GoSem.ClaimMapViews
import Derived.JoinedTies
import Derived.KernelRfl
namespace Go.Proofs.Ytpoblnigmfbnfab
/- THE CELL 'sum', in the pinned program and in every row, IS THE sha256 OF THE DUMP (.gsa) THAT YtpoblnigmfbnfabProg.lean LOADS. Nothing in Lean hashes anything: it is a label: what it is worth is what the hold of that sum in a sandbox is worth. -/
noncomputable def Try.pinned : Pinned := { name := "ytpoblnigmfbnfab", sum := "fcd99b4db58a435b2111df118c37f08d4e72f0ff3da1e2f24e1a8c1501e5c656", checked := Try.checked }
namespace Rows
def none {H : Type} : Left H := { results := [], args := [] }

/-- 'laws.FnExactPlaces': WHATEVER THE INPUT: true; the input reads as it did. -/
def fnExactPlacesSpec : ChangeSpec := { name := "fnExactPlaces", fn := fun _ => fun
  | [d] => { results := [.lit (.bool true)], args := [d] }
  | _ => none }
def fnExactPlacesRow : OpenClaim := { program := "ytpoblnigmfbnfab", sum := "fcd99b4db58a435b2111df118c37f08d4e72f0ff3da1e2f24e1a8c1501e5c656", func := "loop.example/g00033/laws.FnExactPlaces", spec := "fnExactPlaces", unfollowed := true, recurses := true, plainKeys := false, apart := false }
def FnExactPlacesSaid : Prop := fnExactPlacesRow.holds Try.pinned (OpenSpec.ofChange fnExactPlacesSpec)

/-- ITS FALSE NEIGHBOUR: 'it returns false'. Refute it at one input. -/
def fnExactPlacesWrong : ChangeSpec := { name := "fnExactPlaces", fn := fun _ => fun
  | [d] => { results := [.lit (.bool false)], args := [d] }
  | _ => none }
def FnExactPlacesWrongFalsely : Prop := fnExactPlacesRow.holds Try.pinned (OpenSpec.ofChange fnExactPlacesWrong)

/-- 'laws.FnHalfBack': WHATEVER THE INPUT: true; the input reads as it did. -/
def fnHalfBackSpec : ChangeSpec := { name := "fnHalfBack", fn := fun _ => fun
  | [d] => { results := [.lit (.bool true)], args := [d] }
  | _ => none }
def fnHalfBackRow : OpenClaim := { program := "ytpoblnigmfbnfab", sum := "fcd99b4db58a435b2111df118c37f08d4e72f0ff3da1e2f24e1a8c1501e5c656", func := "loop.example/g00033/laws.FnHalfBack", spec := "fnHalfBack", inPlace := ["math.Float64frombits", "math.Float64bits", "math.Float32bits", "math.Float32frombits", "math.RoundToEven"], plainKeys := false, apart := false }
def FnHalfBackSaid : Prop := fnHalfBackRow.holds Try.pinned (OpenSpec.ofChange fnHalfBackSpec)

/-- ITS FALSE NEIGHBOUR: 'it returns false'. Refute it at one input. -/
def fnHalfBackWrong : ChangeSpec := { name := "fnHalfBack", fn := fun _ => fun
  | [d] => { results := [.lit (.bool false)], args := [d] }
  | _ => none }
def FnHalfBackWrongFalsely : Prop := fnHalfBackRow.holds Try.pinned (OpenSpec.ofChange fnHalfBackWrong)

/-- 'laws.FnRootClip': WHATEVER THE INPUT: true; the input reads as it did. -/
def fnRootClipSpec : ChangeSpec := { name := "fnRootClip", fn := fun _ => fun
  | [d] => { results := [.lit (.bool true)], args := [d] }
  | _ => none }
def fnRootClipRow : OpenClaim := { program := "ytpoblnigmfbnfab", sum := "fcd99b4db58a435b2111df118c37f08d4e72f0ff3da1e2f24e1a8c1501e5c656", func := "loop.example/g00033/laws.FnRootClip", spec := "fnRootClip", unfollowed := true, recurses := true, plainKeys := false, apart := false }
def FnRootClipSaid : Prop := fnRootClipRow.holds Try.pinned (OpenSpec.ofChange fnRootClipSpec)

/-- ITS FALSE NEIGHBOUR: 'it returns false'. Refute it at one input. -/
def fnRootClipWrong : ChangeSpec := { name := "fnRootClip", fn := fun _ => fun
  | [d] => { results := [.lit (.bool false)], args := [d] }
  | _ => none }
def FnRootClipWrongFalsely : Prop := fnRootClipRow.holds Try.pinned (OpenSpec.ofChange fnRootClipWrong)

/-- 'laws.FnExactRoute': WHATEVER THE INPUT: true; the input reads as it did. -/
def fnExactRouteSpec : ChangeSpec := { name := "fnExactRoute", fn := fun _ => fun
  | [d1, d2] => { results := [.lit (.bool true)], args := [d1, d2] }
  | _ => none }
def fnExactRouteRow : OpenClaim := { program := "ytpoblnigmfbnfab", sum := "fcd99b4db58a435b2111df118c37f08d4e72f0ff3da1e2f24e1a8c1501e5c656", func := "loop.example/g00033/laws.FnExactRoute", spec := "fnExactRoute", plainKeys := false, apart := false }
def FnExactRouteSaid : Prop := fnExactRouteRow.holds Try.pinned (OpenSpec.ofChange fnExactRouteSpec)

/-- ITS FALSE NEIGHBOUR: 'it returns false'. Refute it at one input. -/
def fnExactRouteWrong : ChangeSpec := { name := "fnExactRoute", fn := fun _ => fun
  | [d1, d2] => { results := [.lit (.bool false)], args := [d1, d2] }
  | _ => none }
def FnExactRouteWrongFalsely : Prop := fnExactRouteRow.holds Try.pinned (OpenSpec.ofChange fnExactRouteWrong)

/-- 'laws.FnExactNextBatch': WHATEVER THE INPUT: true; the input reads as it did. -/
def fnExactNextBatchSpec : ChangeSpec := { name := "fnExactNextBatch", fn := fun _ => fun
  | [d] => { results := [.lit (.bool true)], args := [d] }
  | _ => none }
def fnExactNextBatchRow : OpenClaim := { program := "ytpoblnigmfbnfab", sum := "fcd99b4db58a435b2111df118c37f08d4e72f0ff3da1e2f24e1a8c1501e5c656", func := "loop.example/g00033/laws.FnExactNextBatch", spec := "fnExactNextBatch", unfollowed := true, recurses := true, plainKeys := false, apart := false }
def FnExactNextBatchSaid : Prop := fnExactNextBatchRow.holds Try.pinned (OpenSpec.ofChange fnExactNextBatchSpec)

/-- ITS FALSE NEIGHBOUR: 'it returns false'. Refute it at one input. -/
def fnExactNextBatchWrong : ChangeSpec := { name := "fnExactNextBatch", fn := fun _ => fun
  | [d] => { results := [.lit (.bool false)], args := [d] }
  | _ => none }
def FnExactNextBatchWrongFalsely : Prop := fnExactNextBatchRow.holds Try.pinned (OpenSpec.ofChange fnExactNextBatchWrong)

/-- 'laws.FnExactComplete': WHATEVER THE INPUT: true; the input reads as it did. -/
def fnExactCompleteSpec : ChangeSpec := { name := "fnExactComplete", fn := fun _ => fun
  | [d1, d2, d3] => { results := [.lit (.bool true)], args := [d1, d2, d3] }
  | _ => none }
def fnExactCompleteRow : OpenClaim := { program := "ytpoblnigmfbnfab", sum := "fcd99b4db58a435b2111df118c37f08d4e72f0ff3da1e2f24e1a8c1501e5c656", func := "loop.example/g00033/laws.FnExactComplete", spec := "fnExactComplete", unfollowed := true, recurses := true, plainKeys := false, apart := false }
def FnExactCompleteSaid : Prop := fnExactCompleteRow.holds Try.pinned (OpenSpec.ofChange fnExactCompleteSpec)

/-- ITS FALSE NEIGHBOUR: 'it returns false'. Refute it at one input. -/
def fnExactCompleteWrong : ChangeSpec := { name := "fnExactComplete", fn := fun _ => fun
  | [d1, d2, d3] => { results := [.lit (.bool false)], args := [d1, d2, d3] }
  | _ => none }
def FnExactCompleteWrongFalsely : Prop := fnExactCompleteRow.holds Try.pinned (OpenSpec.ofChange fnExactCompleteWrong)

/- THE SECOND FORM. 'bulk': how many values and letters a reading holds, each counted each time it is reached (what is shared counts as often as it is met; a slice's spare places count too). A statement '..UptoSaid' is the law's where the arguments, and the package variables that the reading takes, are together of bulk at most 1048576: NARROWER than '..Said'. Prove '..Said' where nothing that the law and all that it calls make is longer than what came in: it says more and counts as full. Else prove '..UptoSaid'. A law counts once. -/
mutual
def uptoBulk {H : Type} : DataW H → Nat
  | .lit (.string bytes) => bytes.length + 1
  | .lit _ => 1
  | .nil => 1
  | .ptr d => uptoBulk d + 1
  | .slice elems spare => uptoBulkAll elems + uptoBulkAll spare + 1
  | .agg parts => uptoBulkAll parts + 1
  | .iface _ d => uptoBulk d + 1
  | .map entries => uptoBulkEntries entries + 1
  | .held _ => 1
def uptoBulkAll {H : Type} : List (DataW H) → Nat
  | [] => 0
  | d :: r => uptoBulk d + uptoBulkAll r
def uptoBulkEntries {H : Type} : List (Lit × DataW H) → Nat
  | [] => 0
  | x :: r => uptoBulkEntry x + uptoBulkEntries r
def uptoBulkEntry {H : Type} : Lit × DataW H → Nat
  | (.string bytes, d) => bytes.length + uptoBulk d + 1
  | (_, d) => uptoBulk d + 1
 end
def uptoSmall : (H : Type) → List (DataW H) → Bool := fun _ ds => decide (uptoBulkAll ds ≤ 1048576)
def OpenSpec.upto (s : _root_.Go.ChangeSpec) : _root_.Go.OpenSpec := { _root_.Go.OpenSpec.ofChange s with cond := some uptoSmall }

/-- 'laws.FnExactPlaces', WHERE WHAT IT READS IS OF BULK AT MOST 1048576: true; the input reads as it did. -/
def fnExactPlacesUptoRow : OpenClaim := { program := "ytpoblnigmfbnfab", sum := "fcd99b4db58a435b2111df118c37f08d4e72f0ff3da1e2f24e1a8c1501e5c656", func := "loop.example/g00033/laws.FnExactPlaces", spec := "fnExactPlaces", unfollowed := true, recurses := true, plainKeys := false, apart := false, narrowed := true }
def FnExactPlacesUptoSaid : Prop := fnExactPlacesUptoRow.holds Try.pinned (OpenSpec.upto fnExactPlacesSpec)

/-- 'laws.FnHalfBack', WHERE WHAT IT READS IS OF BULK AT MOST 1048576: true; the input reads as it did. -/
def fnHalfBackUptoRow : OpenClaim := { program := "ytpoblnigmfbnfab", sum := "fcd99b4db58a435b2111df118c37f08d4e72f0ff3da1e2f24e1a8c1501e5c656", func := "loop.example/g00033/laws.FnHalfBack", spec := "fnHalfBack", inPlace := ["math.Float64frombits", "math.Float64bits", "math.Float32bits", "math.Float32frombits", "math.RoundToEven"], plainKeys := false, apart := false, narrowed := true }
def FnHalfBackUptoSaid : Prop := fnHalfBackUptoRow.holds Try.pinned (OpenSpec.upto fnHalfBackSpec)

/-- 'laws.FnRootClip', WHERE WHAT IT READS IS OF BULK AT MOST 1048576: true; the input reads as it did. -/
def fnRootClipUptoRow : OpenClaim := { program := "ytpoblnigmfbnfab", sum := "fcd99b4db58a435b2111df118c37f08d4e72f0ff3da1e2f24e1a8c1501e5c656", func := "loop.example/g00033/laws.FnRootClip", spec := "fnRootClip", unfollowed := true, recurses := true, plainKeys := false, apart := false, narrowed := true }
def FnRootClipUptoSaid : Prop := fnRootClipUptoRow.holds Try.pinned (OpenSpec.upto fnRootClipSpec)

/-- 'laws.FnExactRoute', WHERE WHAT IT READS IS OF BULK AT MOST 1048576: true; the input reads as it did. -/
def fnExactRouteUptoRow : OpenClaim := { program := "ytpoblnigmfbnfab", sum := "fcd99b4db58a435b2111df118c37f08d4e72f0ff3da1e2f24e1a8c1501e5c656", func := "loop.example/g00033/laws.FnExactRoute", spec := "fnExactRoute", plainKeys := false, apart := false, narrowed := true }
def FnExactRouteUptoSaid : Prop := fnExactRouteUptoRow.holds Try.pinned (OpenSpec.upto fnExactRouteSpec)

/-- 'laws.FnExactNextBatch', WHERE WHAT IT READS IS OF BULK AT MOST 1048576: true; the input reads as it did. -/
def fnExactNextBatchUptoRow : OpenClaim := { program := "ytpoblnigmfbnfab", sum := "fcd99b4db58a435b2111df118c37f08d4e72f0ff3da1e2f24e1a8c1501e5c656", func := "loop.example/g00033/laws.FnExactNextBatch", spec := "fnExactNextBatch", unfollowed := true, recurses := true, plainKeys := false, apart := false, narrowed := true }
def FnExactNextBatchUptoSaid : Prop := fnExactNextBatchUptoRow.holds Try.pinned (OpenSpec.upto fnExactNextBatchSpec)

/-- 'laws.FnExactComplete', WHERE WHAT IT READS IS OF BULK AT MOST 1048576: true; the input reads as it did. -/
def fnExactCompleteUptoRow : OpenClaim := { program := "ytpoblnigmfbnfab", sum := "fcd99b4db58a435b2111df118c37f08d4e72f0ff3da1e2f24e1a8c1501e5c656", func := "loop.example/g00033/laws.FnExactComplete", spec := "fnExactComplete", unfollowed := true, recurses := true, plainKeys := false, apart := false, narrowed := true }
def FnExactCompleteUptoSaid : Prop := fnExactCompleteUptoRow.holds Try.pinned (OpenSpec.upto fnExactCompleteSpec)

end Rows
end Go.Proofs.Ytpoblnigmfbnfab
