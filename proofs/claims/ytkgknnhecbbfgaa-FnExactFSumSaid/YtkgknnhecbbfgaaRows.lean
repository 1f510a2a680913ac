/-
  No cell of these rows narrows 'for every input' (looked for: loops, veiled, ifaces, maps, wideKeys, modest, calm, conditions, laid).
  DERIVED. THE GIVEN ROWS OF THIS SEAT. 6 by the template 'for every input the law returns true; each argument reads behind the call as it read before'; 0 by the template 'total and deterministic' (their statements: YtkgknnhecbbfgaaTotals.lean).
  GIVEN WITH THE SEED: the statements are not yours to turn. If you find one false, say at which input.
  Laid BY PROGRAM, IN A SANDBOX (cutbox-rows.mjs): the forced cells as the released guide's own fill.sh prints them over the translation d51adf1683b9971e… (all of the seat's roots in one cut). By AI agents, Wed Nov 11 2026. No macro, syntax, notation, axiom, sorry.
-/
import Derived.Test.YtkgknnhecbbfgaaChecked
import GoSem.Claim
import GoSem.ClaimJoined
import GoSem.ClaimMapViews
import Derived.JoinedTies
import Derived.KernelRfl
namespace Go.Proofs.Ytkgknnhecbbfgaa
/- THE CELL 'sum', in the pinned program and in every row, IS THE sha256 OF THE DUMP (.gsa) THAT YtkgknnhecbbfgaaProg.lean LOADS. Nothing in Lean hashes anything: it is a label: what it is worth is what the hold of that sum in a sandbox is worth. -/
noncomputable def Try.pinned : Pinned := { name := "ytkgknnhecbbfgaa", sum := "d51adf1683b9971e41c4bd2c1b1bb5a550ad8ddc74a3247173995c941417463b", checked := Try.checked }
namespace Rows
def none {H : Type} : Left H := { results := [], args := [] }

/-- 'laws.FnExactFactor': WHATEVER THE INPUT: true; the input reads as it did. -/
def fnExactFactorSpec : ChangeSpec := { name := "fnExactFactor", fn := fun _ => fun
  | [d1, d2, d3] => { results := [.lit (.bool true)], args := [d1, d2, d3] }
  | _ => none }
def fnExactFactorRow : OpenClaim := { program := "ytkgknnhecbbfgaa", sum := "d51adf1683b9971e41c4bd2c1b1bb5a550ad8ddc74a3247173995c941417463b", func := "loop.example/g00033/laws.FnExactFactor", spec := "fnExactFactor", named := ["math/bits.divideError", "math/bits.overflowError"], plainKeys := false, apart := false }
def FnExactFactorSaid : Prop := fnExactFactorRow.holds Try.pinned (OpenSpec.ofChange fnExactFactorSpec)

/-- ITS FALSE NEIGHBOUR: 'it returns false'. Refute it at one input. -/
def fnExactFactorWrong : ChangeSpec := { name := "fnExactFactor", fn := fun _ => fun
  | [d1, d2, d3] => { results := [.lit (.bool false)], args := [d1, d2, d3] }
  | _ => none }
def FnExactFactorWrongFalsely : Prop := fnExactFactorRow.holds Try.pinned (OpenSpec.ofChange fnExactFactorWrong)

/-- 'laws.FnExactMatBytes': WHATEVER THE INPUT: true; the input reads as it did. -/
def fnExactMatBytesSpec : ChangeSpec := { name := "fnExactMatBytes", fn := fun _ => fun
  | [d1, d2, d3, d4, d5, d6, d7, d8] => { results := [.lit (.bool true)], args := [d1, d2, d3, d4, d5, d6, d7, d8] }
  | _ => none }
def fnExactMatBytesRow : OpenClaim := { program := "ytkgknnhecbbfgaa", sum := "d51adf1683b9971e41c4bd2c1b1bb5a550ad8ddc74a3247173995c941417463b", func := "loop.example/g00033/laws.FnExactMatBytes", spec := "fnExactMatBytes", named := ["math/bits.divideError", "math/bits.overflowError"], plainKeys := false, apart := false }
def FnExactMatBytesSaid : Prop := fnExactMatBytesRow.holds Try.pinned (OpenSpec.ofChange fnExactMatBytesSpec)

/-- ITS FALSE NEIGHBOUR: 'it returns false'. Refute it at one input. -/
def fnExactMatBytesWrong : ChangeSpec := { name := "fnExactMatBytes", fn := fun _ => fun
  | [d1, d2, d3, d4, d5, d6, d7, d8] => { results := [.lit (.bool false)], args := [d1, d2, d3, d4, d5, d6, d7, d8] }
  | _ => none }
def FnExactMatBytesWrongFalsely : Prop := fnExactMatBytesRow.holds Try.pinned (OpenSpec.ofChange fnExactMatBytesWrong)

/-- 'laws.FnExactDecode': WHATEVER THE INPUT: true; the input reads as it did. -/
def fnExactDecodeSpec : ChangeSpec := { name := "fnExactDecode", fn := fun _ => fun
  | [d1, d2] => { results := [.lit (.bool true)], args := [d1, d2] }
  | _ => none }
def fnExactDecodeRow : OpenClaim := { program := "ytkgknnhecbbfgaa", sum := "d51adf1683b9971e41c4bd2c1b1bb5a550ad8ddc74a3247173995c941417463b", func := "loop.example/g00033/laws.FnExactDecode", spec := "fnExactDecode", inPlace := ["internal/abi.NoEscape"], plainKeys := false, apart := false }
def FnExactDecodeSaid : Prop := fnExactDecodeRow.holds Try.pinned (OpenSpec.ofChange fnExactDecodeSpec)

/-- ITS FALSE NEIGHBOUR: 'it returns false'. Refute it at one input. -/
def fnExactDecodeWrong : ChangeSpec := { name := "fnExactDecode", fn := fun _ => fun
  | [d1, d2] => { results := [.lit (.bool false)], args := [d1, d2] }
  | _ => none }
def FnExactDecodeWrongFalsely : Prop := fnExactDecodeRow.holds Try.pinned (OpenSpec.ofChange fnExactDecodeWrong)

/-- 'laws.FnExactFSum': WHATEVER THE INPUT: true; the input reads as it did. -/
def fnExactFSumSpec : ChangeSpec := { name := "fnExactFSum", fn := fun _ => fun
  | [d] => { results := [.lit (.bool true)], args := [d] }
  | _ => none }
def fnExactFSumRow : OpenClaim := { program := "ytkgknnhecbbfgaa", sum := "d51adf1683b9971e41c4bd2c1b1bb5a550ad8ddc74a3247173995c941417463b", func := "loop.example/g00033/laws.FnExactFSum", spec := "fnExactFSum", inPlace := ["math.Float32frombits", "math.Float32bits"], plainKeys := false, apart := false }
def FnExactFSumSaid : Prop := fnExactFSumRow.holds Try.pinned (OpenSpec.ofChange fnExactFSumSpec)

/-- ITS FALSE NEIGHBOUR: 'it returns false'. Refute it at one input. -/
def fnExactFSumWrong : ChangeSpec := { name := "fnExactFSum", fn := fun _ => fun
  | [d] => { results := [.lit (.bool false)], args := [d] }
  | _ => none }
def FnExactFSumWrongFalsely : Prop := fnExactFSumRow.holds Try.pinned (OpenSpec.ofChange fnExactFSumWrong)

/-- 'laws.FnExactTree': WHATEVER THE INPUT: true; the input reads as it did. -/
def fnExactTreeSpec : ChangeSpec := { name := "fnExactTree", fn := fun _ => fun
  | [d] => { results := [.lit (.bool true)], args := [d] }
  | _ => none }
def fnExactTreeRow : OpenClaim := { program := "ytkgknnhecbbfgaa", sum := "d51adf1683b9971e41c4bd2c1b1bb5a550ad8ddc74a3247173995c941417463b", func := "loop.example/g00033/laws.FnExactTree", spec := "fnExactTree", unfollowed := true, recurses := true, plainKeys := false, apart := false }
def FnExactTreeSaid : Prop := fnExactTreeRow.holds Try.pinned (OpenSpec.ofChange fnExactTreeSpec)

/-- ITS FALSE NEIGHBOUR: 'it returns false'. Refute it at one input. -/
def fnExactTreeWrong : ChangeSpec := { name := "fnExactTree", fn := fun _ => fun
  | [d] => { results := [.lit (.bool false)], args := [d] }
  | _ => none }
def FnExactTreeWrongFalsely : Prop := fnExactTreeRow.holds Try.pinned (OpenSpec.ofChange fnExactTreeWrong)

/-- 'laws.FnExactClip': WHATEVER THE INPUT: true; the input reads as it did. -/
def fnExactClipSpec : ChangeSpec := { name := "fnExactClip", fn := fun _ => fun
  | [d1, d2] => { results := [.lit (.bool true)], args := [d1, d2] }
  | _ => none }
def fnExactClipRow : OpenClaim := { program := "ytkgknnhecbbfgaa", sum := "d51adf1683b9971e41c4bd2c1b1bb5a550ad8ddc74a3247173995c941417463b", func := "loop.example/g00033/laws.FnExactClip", spec := "fnExactClip", unfollowed := true, recurses := true, plainKeys := false, apart := false }
def FnExactClipSaid : Prop := fnExactClipRow.holds Try.pinned (OpenSpec.ofChange fnExactClipSpec)

/-- ITS FALSE NEIGHBOUR: 'it returns false'. Refute it at one input. -/
def fnExactClipWrong : ChangeSpec := { name := "fnExactClip", fn := fun _ => fun
  | [d1, d2] => { results := [.lit (.bool false)], args := [d1, d2] }
  | _ => none }
def FnExactClipWrongFalsely : Prop := fnExactClipRow.holds Try.pinned (OpenSpec.ofChange fnExactClipWrong)

/- THE SECOND FORM. 'bulk': how many values and letters a reading holds, each counted each time it is reached (what is shared counts as often as it is met; a slice's spare places count too). A statement '..UptoSaid' is the law's where the arguments, and the package variables that the reading takes, are together of bulk at most 1048576: NARROWER than '..Said'. Prove '..Said' where nothing that the law and all that it calls make is longer than what came in: it says more and counts as full. Else prove '..UptoSaid'. A law counts once. -/
mutual
def uptoBulk {H : Type} : DataW H → Nat
  | .lit (.string bytes) => bytes.length + 1
  | .lit _ => 1
  | .nil => 1
  | .ptr d => uptoBulk d + 1
  | .slice elems spare => uptoBulkAll elems + uptoBulkAll spare + 1
  | .agg parts => uptoBulkAll parts + 1
  | .iface _ d => uptoBulk d + 1
  | .map entries => uptoBulkEntries entries + 1
  | .held _ => 1
def uptoBulkAll {H : Type} : List (DataW H) → Nat
  | [] => 0
  | d :: r => uptoBulk d + uptoBulkAll r
def uptoBulkEntries {H : Type} : List (Lit × DataW H) → Nat
  | [] => 0
  | x :: r => uptoBulkEntry x + uptoBulkEntries r
def uptoBulkEntry {H : Type} : Lit × DataW H → Nat
  | (.string bytes, d) => bytes.length + uptoBulk d + 1
  | (_, d) => uptoBulk d + 1
 end
def uptoSmall : (H : Type) → List (DataW H) → Bool := fun _ ds => decide (uptoBulkAll ds ≤ 1048576)
def OpenSpec.upto (s : _root_.Go.ChangeSpec) : _root_.Go.OpenSpec := { _root_.Go.OpenSpec.ofChange s with cond := some uptoSmall }

/-- 'laws.FnExactFactor', WHERE WHAT IT READS IS OF BULK AT MOST 1048576: true; the input reads as it did. -/
def fnExactFactorUptoRow : OpenClaim := { program := "ytkgknnhecbbfgaa", sum := "d51adf1683b9971e41c4bd2c1b1bb5a550ad8ddc74a3247173995c941417463b", func := "loop.example/g00033/laws.FnExactFactor", spec := "fnExactFactor", named := ["math/bits.divideError", "math/bits.overflowError"], plainKeys := false, apart := false, narrowed := true }
def FnExactFactorUptoSaid : Prop := fnExactFactorUptoRow.holds Try.pinned (OpenSpec.upto fnExactFactorSpec)

/-- 'laws.FnExactMatBytes', WHERE WHAT IT READS IS OF BULK AT MOST 1048576: true; the input reads as it did. -/
def fnExactMatBytesUptoRow : OpenClaim := { program := "ytkgknnhecbbfgaa", sum := "d51adf1683b9971e41c4bd2c1b1bb5a550ad8ddc74a3247173995c941417463b", func := "loop.example/g00033/laws.FnExactMatBytes", spec := "fnExactMatBytes", named := ["math/bits.divideError", "math/bits.overflowError"], plainKeys := false, apart := false, narrowed := true }
def FnExactMatBytesUptoSaid : Prop := fnExactMatBytesUptoRow.holds Try.pinned (OpenSpec.upto fnExactMatBytesSpec)

/-- 'laws.FnExactDecode', WHERE WHAT IT READS IS OF BULK AT MOST 1048576: true; the input reads as it did. -/
def fnExactDecodeUptoRow : OpenClaim := { program := "ytkgknnhecbbfgaa", sum := "d51adf1683b9971e41c4bd2c1b1bb5a550ad8ddc74a3247173995c941417463b", func := "loop.example/g00033/laws.FnExactDecode", spec := "fnExactDecode", inPlace := ["internal/abi.NoEscape"], plainKeys := false, apart := false, narrowed := true }
def FnExactDecodeUptoSaid : Prop := fnExactDecodeUptoRow.holds Try.pinned (OpenSpec.upto fnExactDecodeSpec)

/-- 'laws.FnExactFSum', WHERE WHAT IT READS IS OF BULK AT MOST 1048576: true; the input reads as it did. -/
def fnExactFSumUptoRow : OpenClaim := { program := "ytkgknnhecbbfgaa", sum := "d51adf1683b9971e41c4bd2c1b1bb5a550ad8ddc74a3247173995c941417463b", func := "loop.example/g00033/laws.FnExactFSum", spec := "fnExactFSum", inPlace := ["math.Float32frombits", "math.Float32bits"], plainKeys := false, apart := false, narrowed := true }
def FnExactFSumUptoSaid : Prop := fnExactFSumUptoRow.holds Try.pinned (OpenSpec.upto fnExactFSumSpec)

/-- 'laws.FnExactTree', WHERE WHAT IT READS IS OF BULK AT MOST 1048576: true; the input reads as it did. -/
def fnExactTreeUptoRow : OpenClaim := { program := "ytkgknnhecbbfgaa", sum := "d51adf1683b9971e41c4bd2c1b1bb5a550ad8ddc74a3247173995c941417463b", func := "loop.example/g00033/laws.FnExactTree", spec := "fnExactTree", unfollowed := true, recurses := true, plainKeys := false, apart := false, narrowed := true }
def FnExactTreeUptoSaid : Prop := fnExactTreeUptoRow.holds Try.pinned (OpenSpec.upto fnExactTreeSpec)

/-- 'laws.FnExactClip', WHERE WHAT IT READS IS OF BULK AT MOST 1048576: true; the input reads as it did. -/
def fnExactClipUptoRow : OpenClaim := { program := "ytkgknnhecbbfgaa", sum := "d51adf1683b9971e41c4bd2c1b1bb5a550ad8ddc74a3247173995c941417463b", func := "loop.example/g00033/laws.FnExactClip", spec := "fnExactClip", unfollowed := true, recurses := true, plainKeys := false, apart := false, narrowed := true }
def FnExactClipUptoSaid : Prop := fnExactClipUptoRow.holds Try.pinned (OpenSpec.upto fnExactClipSpec)

end Rows
end Go.Proofs.Ytkgknnhecbbfgaa
