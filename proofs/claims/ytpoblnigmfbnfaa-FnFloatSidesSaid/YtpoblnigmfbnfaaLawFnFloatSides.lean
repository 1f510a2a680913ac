/- The row of the law FnFloatSides: for every input the law returns true, and each argument reads afterwards as it read before; out of the printed walk and the pure statement. -/
import Derived.Test.YtpoblnigmfbnfaaRows
import Derived.Test.YtpoblnigmfbnfaaPFnFloatSidesx4
import Derived.Test.YtpoblnigmfbnfaaPureFnFloatSides
import Derived.Test.YtpoblnigmfbnfaaOpen
import Derived.WalkKit
import Derived.ProofKit
import Derived.OpenShut
import Derived.ShutString
import Derived.ChangeOld
import Derived.Below
import Derived.SizedLaws
namespace Go.Proofs.Ytpoblnigmfbnfaa.fnFloatSides
open Go.ChangeShapes Go.WideShapes Go.ChangeAt Go.RowKit
open Go.ChangeMaps (open_string shut_string)
open Go.Proofs.Ytpoblnigmfbnfaa.PFnFloatSides Go.Proofs.YtpoblnigmfbnfaaW.PrintWords Go.Proofs.Ytpoblnigmfbnfaa.Open
set_option linter.unusedVariables false
theorem own : ownKnob Try.prog.godebug = none := by kernel_rfl
theorem laidOut : laidOutB Try.prog = true := by kernel_rfl
theorem agg_eq {cs : Array Value} {l : List Value} (h : (Value.agg cs).cells.toList = l) : cs = l.toArray := by
  subst h
  simp [Value.cells]
theorem slice_eq {a A : Option Addr} {len n cap c : Nat} (h : (Value.slice a len cap).cells.toList = [.slice A n c]) : a = A ∧ len = n ∧ cap = c := by
  simpa [Value.cells] using h
set_option maxRecDepth 100000 in
theorem lifted (os : Os) (started : os.Started) (H : Type) (enc : TypeId × Value → H) :
    ReturnsInHanded {} Try.checked os 4 .any (Rows.fnFloatSidesSpec.pre6 enc Try.prog Try.f4 Rows.fnFloatSidesRow.domain false) (Rows.fnFloatSidesSpec.post enc Try.prog Try.f4 false true false false) := by
  refine returnsInHanded_of_change_sized (C := Try.checked) own started (by kernel_rfl) Try.func4
    (ChangeSpec.witness6 (enc := enc) (C := Try.checked) false ⟨#[], #[.slice none 0 0], []⟩ 8 (by kernel_rfl) (by kernel_rfl) (by kernel_rfl) (by kernel_rfl)) ?_
  intro W base args ds gs before hval0 hW hcnd hsz0 _
  have hval : ∀ (j : Nat) t v, Try.f4.params[j]? = some t → args[j]? = some v → Value.okWide Try.prog W .any base t v := hval0
  have hW' := hW
  obtain ⟨p, q, hA0, hV, rfl, hfz, hnd⟩ := hW
  have hA : DataW.TrodAll enc Try.prog W 0 (fun _ => true) true Try.f4.params.toList args.toList ds p := hA0
  rw [Try.params4] at hA hval
  obtain ⟨v0, vs0, d0, ds0, p0, q0, hargs, rfl, rfl, h0, r0⟩ := trodAll_cons hA
  obtain ⟨rfl, rfl, rfl⟩ := trodAll_nil r0
  obtain rfl : args = #[v0] := by cases args; simp_all
  obtain ⟨rfl, rfl⟩ := trodVars_none hV
  have k0 := h0
  have lt0 : ∀ x ∈ p0, x.block < W.heap.size := by obtain ⟨m, hm⟩ := k0; exact DataW.trod_lt m _ _ _ hm
  obtain ⟨fu0, hf0⟩ := h0
  obtain ⟨b0, len0, cap0, rfl⟩ := okWide_slice Try.underlying34 (hval 0 34 v0 rfl rfl)
  obtain ⟨l0, ⟨A0, c0, hC0, hl0, hr0⟩, hG0⟩ := (opens_slice Try.underlying34 (by kernel_rfl) (opens_int Try.underlying5)) H enc W _ _ fu0 _ _ hf0
  obtain ⟨rfl, rfl, rfl⟩ := slice_eq hC0
  clear hA0 hval0 hsz0
  obtain ⟨k, h⟩ := Go.Proofs.Ytpoblnigmfbnfaa.PureFnFloatSides.FnFloatSides l0 hG0
  refine (laws_FnFloatSides.calls k _ _ l0 true W rfl hr0 hl0 h).mono fun e W' he => ?_
  obtain ⟨rfl, bel0⟩ := he
  have bel : Below W.heap.size W W' := bel0
  exact ⟨_, rfl, _, _, _, [], _, [], hW', trodAll_mk1 (shut_bool Try.underlying4 _), (trodAll_cons_mk (Below.trod laidOut (by kernel_rfl) (of_decide_eq_true (by kernel_rfl)) k0 bel lt0) trodAll_mk0), rfl, bel.frame _, fun h => by cases h⟩
theorem over : Rows.fnFloatSidesRow.holds Try.pinned (OpenSpec.ofChange Rows.fnFloatSidesSpec) :=
  OpenClaim.holds_of_wide 4 Try.f4 rfl rfl rfl rfl rfl rfl rfl ⟨rfl, rfl, rfl, rfl, rfl⟩ rfl rfl rfl rfl rfl (by kernel_rfl) Try.func4 (by kernel_rfl)
    (of_decide_eq_true (by kernel_rfl)) (by unfold Func.isWrapper; first | (rw [if_pos (by decide +kernel)]; kernel_rfl) | (rw [if_neg (by decide +kernel)]; exact ⟨rfl, rfl⟩))
    (fun os started H enc _ => lifted os started H enc)
theorem proved : Rows.FnFloatSidesSaid := over
#print axioms proved
end Go.Proofs.Ytpoblnigmfbnfaa.fnFloatSides
namespace Go.Proofs.Ytpoblnigmfbnfaa
/-- The row, under a short name, for the claim. -/
theorem fnFloatSides_holds : Rows.FnFloatSidesSaid := fnFloatSides.proved
end Go.Proofs.Ytpoblnigmfbnfaa
