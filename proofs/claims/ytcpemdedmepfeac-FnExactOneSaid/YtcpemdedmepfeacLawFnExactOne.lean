/- The row of the law FnExactOne: for every input the law returns true, and each argument reads afterwards as it read before; out of the printed walk and the pure statement. -/
import Derived.Test.YtcpemdedmepfeacRows
import Derived.Test.YtcpemdedmepfeacPFnExactOnex5
import Derived.Test.YtcpemdedmepfeacPureFnExactOne
import Derived.Test.YtcpemdedmepfeacOpen
import Derived.WalkKit
import Derived.ProofKit
import Derived.OpenShut
import Derived.ShutString
import Derived.ChangeOld
import Derived.Below
import Derived.SizedLaws
namespace Go.Proofs.Ytcpemdedmepfeac.fnExactOne
open Go.ChangeShapes Go.WideShapes Go.ChangeAt Go.RowKit
open Go.ChangeMaps (open_string shut_string)
open Go.Proofs.Ytcpemdedmepfeac.PFnExactOne Go.Proofs.YtcpemdedmepfeacW.PrintWords Go.Proofs.Ytcpemdedmepfeac.Open
set_option linter.unusedVariables false
theorem own : ownKnob Try.prog.godebug = none := by kernel_rfl
theorem laidOut : laidOutB Try.prog = true := by kernel_rfl
theorem agg_eq {cs : Array Value} {l : List Value} (h : (Value.agg cs).cells.toList = l) : cs = l.toArray := by
  subst h
  simp [Value.cells]
theorem slice_eq {a A : Option Addr} {len n cap c : Nat} (h : (Value.slice a len cap).cells.toList = [.slice A n c]) : a = A ∧ len = n ∧ cap = c := by
  simpa [Value.cells] using h
set_option maxRecDepth 100000 in
theorem lifted (os : Os) (started : os.Started) (H : Type) (enc : TypeId × Value → H) :
    ReturnsInHanded {} Try.checked os 3 .any (Rows.fnExactOneSpec.pre6 enc Try.prog Try.f3 Rows.fnExactOneRow.domain false) (Rows.fnExactOneSpec.post enc Try.prog Try.f3 false true false false) := by
  refine returnsInHanded_of_change_sized (C := Try.checked) own started (by kernel_rfl) Try.func3
    (ChangeSpec.witness6 (enc := enc) (C := Try.checked) false ⟨#[], #[.int .i64 0, .agg #[.slice none 0 0, .slice none 0 0]], []⟩ 8 (by kernel_rfl) (by kernel_rfl) (by kernel_rfl) (by kernel_rfl)) ?_
  intro W base args ds gs before hval0 hW hcnd hsz0 _
  have hval : ∀ (j : Nat) t v, Try.f3.params[j]? = some t → args[j]? = some v → Value.okWide Try.prog W .any base t v := hval0
  have hW' := hW
  obtain ⟨p, q, hA0, hV, rfl, hfz, hnd⟩ := hW
  have hA : DataW.TrodAll enc Try.prog W 0 (fun _ => true) true Try.f3.params.toList args.toList ds p := hA0
  rw [Try.params3] at hA hval
  obtain ⟨v0, vs0, d0, ds0, p0, q0, hargs, rfl, rfl, h0, r0⟩ := trodAll_cons hA
  obtain ⟨v1, vs1, d1, ds1, p1, q1, rfl, rfl, rfl, h1, r1⟩ := trodAll_cons r0
  obtain ⟨rfl, rfl, rfl⟩ := trodAll_nil r1
  obtain rfl : args = #[v0, v1] := by cases args; simp_all
  obtain ⟨rfl, rfl⟩ := trodVars_none hV
  have k0 := h0
  have lt0 : ∀ x ∈ p0, x.block < W.heap.size := by obtain ⟨m, hm⟩ := k0; exact DataW.trod_lt m _ _ _ hm
  obtain ⟨fu0, hf0⟩ := h0
  obtain ⟨a0, rfl, rfl, rfl, hG0⟩ := open_int Try.underlying3 (hval 0 3 v0 rfl rfl) k0
  have k1 := h1
  have lt1 : ∀ x ∈ p1, x.block < W.heap.size := by obtain ⟨m, hm⟩ := k1; exact DataW.trod_lt m _ _ _ hm
  obtain ⟨fu1, hf1⟩ := h1
  obtain ⟨vs1, rfl, _⟩ := okWide_struct Try.underlying24 (hval 1 24 v1 rfl rfl)
  obtain ⟨⟨l1_0, l1_1⟩, hK1, hG1⟩ := (opens_struct0 Try.underlying24 (by kernel_rfl) (opensF_cons rfl (by kernel_rfl) (opens_slice Try.underlying22 (by kernel_rfl) (opens_int Try.underlying3)) (opensF_one rfl (by kernel_rfl) (opens_slice Try.underlying22 (by kernel_rfl) (opens_int Try.underlying3))))) H enc W _ _ fu1 _ _ hf1
  obtain ⟨_, _, hC1, ⟨A1_0, c1_0, rfl, hl1_0, hr1_0⟩, ⟨A1_1, c1_1, rfl, hl1_1, hr1_1⟩⟩ := hK1
  obtain rfl : vs1 = #[.slice A1_0 l1_0.length c1_0, .slice A1_1 l1_1.length c1_1] := agg_eq hC1
  clear hA0 hval0 hsz0
  obtain ⟨k, h⟩ := Go.Proofs.Ytcpemdedmepfeac.PureFnExactOne.FnExactOne a0 l1_0 l1_1 hG1
  refine (laws_FnExactOne.calls k a0 _ _ l1_0 _ _ l1_1 true W rfl hr1_0 hl1_0 hr1_1 hl1_1 h).mono fun e W' he => ?_
  obtain ⟨rfl, bel0⟩ := he
  have bel : Below W.heap.size W W' := bel0
  exact ⟨_, rfl, _, _, _, [], _, [], hW', trodAll_mk1 (shut_bool Try.underlying4 _), (trodAll_cons_mk (Below.trod laidOut (by kernel_rfl) (of_decide_eq_true (by kernel_rfl)) k0 bel lt0) (trodAll_cons_mk (Below.trod laidOut (by kernel_rfl) (of_decide_eq_true (by kernel_rfl)) k1 bel lt1) trodAll_mk0)), rfl, bel.frame _, fun h => by cases h⟩
theorem over : Rows.fnExactOneRow.holds Try.pinned (OpenSpec.ofChange Rows.fnExactOneSpec) :=
  OpenClaim.holds_of_wide 3 Try.f3 rfl rfl rfl rfl rfl rfl rfl ⟨rfl, rfl, rfl, rfl, rfl⟩ rfl rfl rfl rfl rfl (by kernel_rfl) Try.func3 (by kernel_rfl)
    (of_decide_eq_true (by kernel_rfl)) (by unfold Func.isWrapper; first | (rw [if_pos (by decide +kernel)]; kernel_rfl) | (rw [if_neg (by decide +kernel)]; exact ⟨rfl, rfl⟩))
    (fun os started H enc _ => lifted os started H enc)
theorem proved : Rows.FnExactOneSaid := over
#print axioms proved
end Go.Proofs.Ytcpemdedmepfeac.fnExactOne
namespace Go.Proofs.Ytcpemdedmepfeac
/-- The row, under a short name, for the claim. -/
theorem fnExactOne_holds : Rows.FnExactOneSaid := fnExactOne.proved
end Go.Proofs.Ytcpemdedmepfeac
