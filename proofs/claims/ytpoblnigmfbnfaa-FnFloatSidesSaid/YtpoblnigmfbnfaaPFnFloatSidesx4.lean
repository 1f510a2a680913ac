-- Printed out of the translation, hand-written contracts beside it; checked by the kernel alone.
import Derived.Test.YtpoblnigmfbnfaaPFnFloatSidesx0
import Derived.Test.YtpoblnigmfbnfaaPFnFloatSidesx1
import Derived.Test.YtpoblnigmfbnfaaPFnFloatSidesx3
namespace Go.Proofs.Ytpoblnigmfbnfaa.PFnFloatSides
open Go.RowKit Go.Proofs.YtpoblnigmfbnfaaW.PrintWords Go.Proofs.YtpoblnigmfbnfaaW.PrintLast Go.Proofs.YtpoblnigmfbnfaaW.PrintMore
attribute [local go_sem] max2_int min2_int max_two min_two max_three min_three max_four min_four   -- for this text's walks alone
set_option linter.unusedVariables false
set_option linter.unusedSimpArgs false

/-! ### laws_FnFloatSides: function 4 -/
mutual
def laws_FnFloatSides.j0 : Nat → Int → Int → Bool → Option (Bool)
  | 0, _, _, _ => none
  | k + 1, x3, x4, x21 => if x21 = true then (some false) else ((impl_FAdd.f x3 x4).bind fun t201 => ((impl_FAdd.f x4 x3).bind fun t202 => (if t201 = t202 then ((impl_FMul.f x3 x4).bind fun t203 => ((impl_FMul.f x4 x3).bind fun t204 => (if t203 = t204 then ((impl_FLess.f x3 x4).bind fun t205 => (if t205 = true then ((impl_FLess.f x4 x3).bind fun t206 => (laws_FnFloatSides.j1 k x3 x4 t206)) else (laws_FnFloatSides.j1 k x3 x4 false))) else (laws_FnFloatSides.j1 k x3 x4 true)))) else (laws_FnFloatSides.j1 k x3 x4 true))))
def laws_FnFloatSides.j1 : Nat → Int → Int → Bool → Option (Bool)
  | 0, _, _, _ => none
  | k + 1, x3, x4, x47 => if x47 = true then (some false) else ((impl_FNeg.f x3).bind fun t207 => ((impl_FNeg.f t207).bind fun t208 => (if t208 = 2143289344 then ((impl_FAdd.f x3 x4).bind fun t209 => (if t209 = 2143289344 then ((impl_FLess.f x3 x4).bind fun t210 => (some (!t210))) else (some false))) else (if t208 = x3 then ((impl_FNeg.f x3).bind fun t211 => ((impl_FAdd.f x3 t211).bind fun t212 => (if t212 = 0 then (some true) else ((impl_FMul.f x3 0).bind fun t213 => (some (t213 == 2143289344)))))) else (some false)))))
end
def laws_FnFloatSides.f (k : Nat) (l0 : List Int) : Option (Bool) := (laws_big.f l0).bind fun t193 => (if t193 = true then (some true) else ((spec_DrawFAdd.f k l0).bind fun bt194 => ((impl_FOfInt.f 1).bind fun t196 => ((impl_FOfInt.f 2).bind fun t197 => ((impl_FAdd.f t196 t197).bind fun t198 => ((impl_FOfInt.f 3).bind fun t199 => (if t198 = t199 then ((impl_FOfInt.f 3).bind fun t200 => (laws_FnFloatSides.j0 k bt194.1 bt194.2 (t200 == 0))) else (laws_FnFloatSides.j0 k bt194.1 bt194.2 true))))))))
theorem laws_FnFloatSides.mono_l : ∀ k, (∀ y0 y1 y2, LeO (laws_FnFloatSides.j0 k y0 y1 y2) (laws_FnFloatSides.j0 (k + 1) y0 y1 y2)) ∧ (∀ y0 y1 y2, LeO (laws_FnFloatSides.j1 k y0 y1 y2) (laws_FnFloatSides.j1 (k + 1) y0 y1 y2))
  | 0 => ⟨fun _ _ _ r h => by simp [laws_FnFloatSides.j0] at h, fun _ _ _ r h => by simp [laws_FnFloatSides.j1] at h⟩
  | k + 1 => by
    obtain ⟨ih0, ih1⟩ := laws_FnFloatSides.mono_l k
    refine ⟨?_, ?_⟩
    · intro y0 y1 y2
      unfold laws_FnFloatSides.j0
      repeat' first
      | (with_reducible exact ih0 _ _ _)
      | (with_reducible exact ih1 _ _ _)
      | (with_reducible exact spec_DrawFAdd.mono _ _)
      | (with_reducible exact LeO.refl _)
      | (with_reducible exact LeO.none _)
      | (with_reducible refine LeO.ite ?_ ?_)
      | (with_reducible refine LeO.bind ?_ (fun _ => ?_))
      | exact ih0 _ _ _
      | exact ih1 _ _ _
      | exact spec_DrawFAdd.mono _ _
      | exact LeO.none _
      | refine LeO.ite ?_ ?_
      | refine LeO.bind ?_ (fun _ => ?_)
    · intro y0 y1 y2
      unfold laws_FnFloatSides.j1
      repeat' first
      | (with_reducible exact ih0 _ _ _)
      | (with_reducible exact ih1 _ _ _)
      | (with_reducible exact spec_DrawFAdd.mono _ _)
      | (with_reducible exact LeO.refl _)
      | (with_reducible exact LeO.none _)
      | (with_reducible refine LeO.ite ?_ ?_)
      | (with_reducible refine LeO.bind ?_ (fun _ => ?_))
      | exact ih0 _ _ _
      | exact ih1 _ _ _
      | exact spec_DrawFAdd.mono _ _
      | exact LeO.none _
      | refine LeO.ite ?_ ?_
      | refine LeO.bind ?_ (fun _ => ?_)
theorem laws_FnFloatSides.mono : ∀ a0 k, LeO (laws_FnFloatSides.f k a0) (laws_FnFloatSides.f (k + 1) a0) := by
  intro a0 k
  obtain ⟨ih0, ih1⟩ := laws_FnFloatSides.mono_l k
  unfold laws_FnFloatSides.f
  repeat' first
      | (with_reducible exact ih0 _ _ _)
      | (with_reducible exact ih1 _ _ _)
      | (with_reducible exact spec_DrawFAdd.mono _ _)
      | (with_reducible exact LeO.refl _)
      | (with_reducible exact LeO.none _)
      | (with_reducible refine LeO.ite ?_ ?_)
      | (with_reducible refine LeO.bind ?_ (fun _ => ?_))
      | exact ih0 _ _ _
      | exact ih1 _ _ _
      | exact spec_DrawFAdd.mono _ _
      | exact LeO.none _
      | refine LeO.ite ?_ ?_
      | refine LeO.bind ?_ (fun _ => ?_)
set_option maxHeartbeats 8000000 in
set_option maxRecDepth 100000 in
theorem laws_FnFloatSides.calls (k : Nat) (A0 : Option Addr) (c0 : Nat) (l0 : List Int) (r : Bool) (w : World) (hrt : r = true) (hr0 : Kd.C (Kd.int .u8) w A0 l0.length l0) (hc0 : l0.length ≤ c0) (h : laws_FnFloatSides.f k l0 = some r) :
    Calls Try.prog 4 #[.slice A0 l0.length c0] w fun e w' => e = .returned (.bool r) ∧ Below w.heap.size w w' := by
  have HRT := Aside0.mk hrt
  clear hrt
  have HR0 := Aside0.mk hr0
  have HC0 := Aside0.mk hc0
  clear hr0 hc0
  have HB := Aside0.mk (Below.refl w.heap.size w)
  have H : ((laws_big.f l0).bind fun t193 => (if t193 = true then (some true) else ((spec_DrawFAdd.f k l0).bind fun bt194 => ((impl_FOfInt.f 1).bind fun t196 => ((impl_FOfInt.f 2).bind fun t197 => ((impl_FAdd.f t196 t197).bind fun t198 => ((impl_FOfInt.f 3).bind fun t199 => (if t198 = t199 then ((impl_FOfInt.f 3).bind fun t200 => (laws_FnFloatSides.j0 k bt194.1 bt194.2 (t200 == 0))) else (laws_FnFloatSides.j0 k bt194.1 bt194.2 true))))))))) = some r := h
  clear h
  replace H := Option.bind_eq_some_iff.mp H
  obtain ⟨t193, A20, H⟩ := H
  replace H : (if t193 = true then (some true) else ((spec_DrawFAdd.f k l0).bind fun bt194 => ((impl_FOfInt.f 1).bind fun t196 => ((impl_FOfInt.f 2).bind fun t197 => ((impl_FAdd.f t196 t197).bind fun t198 => ((impl_FOfInt.f 3).bind fun t199 => (if t198 = t199 then ((impl_FOfInt.f 3).bind fun t200 => (laws_FnFloatSides.j0 k bt194.1 bt194.2 (t200 == 0))) else (laws_FnFloatSides.j0 k bt194.1 bt194.2 true)))))))) = some r := H
  have A2 := Aside0.mk A20
  clear A20
  by_cases c3 : t193 = true
  · subst c3
    have H1 : (some true) = some r := by rw [if_pos rfl] at H; exact H
    clear H
    have H := H1
    clear H1
    obtain rfl := Option.some.inj H
    go_enter Try.func4, Try.ntmps4
    go_wp2_with (first | ((with_reducible refine gate_callee (f := 17) rfl ?_); refine goesL_ (some 7) rfl rfl Try.func17 (by kernel_rfl) rfl #[.slice A0 l0.length c0] rfl (by (try simp only [List.map_toArray, List.map_cons, List.map_nil]); first | done | rfl | (simp only [List.length_drop, List.length_take]; rfl)) ?_; (with_reducible refine (laws_big.calls _ _ l0 true _ ?side1 ?side2 A2.out).mono ?_); (case side1 => repeat (first | exact HR0.out | (with_reducible refine Kd.C_alloc ?_ _) | (with_reducible refine Kd.C_drewN ?_ _) | (with_reducible refine Kd.C_drew ?_))); (case side2 => exact HC0.out); rintro e w' ⟨rfl, ⟨nd, rfl⟩⟩; refine ⟨_, rfl, ?_⟩))
    go_ret
    exact ⟨by first | rfl | (simp [errW_none, errW_some] <;> rfl) | (simp [*, errW_none, errW_some] <;> rfl), by repeat (first | (with_reducible first | exact HB.out | apply below_alloc | apply pw_below_drewN | apply below_drew1) | exact HB.out)⟩
  · replace c3 := Bool.eq_false_iff.mpr c3
    subst c3
    have H1 : ((spec_DrawFAdd.f k l0).bind fun bt194 => ((impl_FOfInt.f 1).bind fun t196 => ((impl_FOfInt.f 2).bind fun t197 => ((impl_FAdd.f t196 t197).bind fun t198 => ((impl_FOfInt.f 3).bind fun t199 => (if t198 = t199 then ((impl_FOfInt.f 3).bind fun t200 => (laws_FnFloatSides.j0 k bt194.1 bt194.2 (t200 == 0))) else (laws_FnFloatSides.j0 k bt194.1 bt194.2 true))))))) = some r := by rw [if_neg (show ¬ (false = true) by decide)] at H; exact H
    clear H
    have H := H1
    clear H1
    replace H := Option.bind_eq_some_iff.mp H
    obtain ⟨⟨t194, t195⟩, A40, H⟩ := H
    replace H : ((impl_FOfInt.f 1).bind fun t196 => ((impl_FOfInt.f 2).bind fun t197 => ((impl_FAdd.f t196 t197).bind fun t198 => ((impl_FOfInt.f 3).bind fun t199 => (if t198 = t199 then ((impl_FOfInt.f 3).bind fun t200 => (laws_FnFloatSides.j0 k t194 t195 (t200 == 0))) else (laws_FnFloatSides.j0 k t194 t195 true)))))) = some r := H
    have A4 := Aside0.mk A40
    clear A40
    have HC5 := Aside0.mk H
    clear H
    go_enter Try.func4, Try.ntmps4
    go_upto_region 4 with (first | ((with_reducible refine gate_callee (f := 17) rfl ?_); refine goesL_ (some 7) rfl rfl Try.func17 (by kernel_rfl) rfl #[.slice A0 l0.length c0] rfl (by (try simp only [List.map_toArray, List.map_cons, List.map_nil]); first | done | rfl | (simp only [List.length_drop, List.length_take]; rfl)) ?_; (with_reducible refine (laws_big.calls _ _ l0 false _ ?side1 ?side2 A2.out).mono ?_); (case side1 => repeat (first | exact HR0.out | (with_reducible refine Kd.C_alloc ?_ _) | (with_reducible refine Kd.C_drewN ?_ _) | (with_reducible refine Kd.C_drew ?_))); (case side2 => exact HC0.out); rintro e w' ⟨rfl, ⟨nd, rfl⟩⟩; refine ⟨_, rfl, ?_⟩) | ((with_reducible refine gate_callee (f := 18) rfl ?_); refine goesL_ (some 10) rfl rfl Try.func18 (by kernel_rfl) rfl #[.slice A0 l0.length c0] rfl (by (try simp only [List.map_toArray, List.map_cons, List.map_nil]); first | done | rfl | (simp only [List.length_drop, List.length_take]; rfl)) ?_; (with_reducible refine (spec_DrawFAdd.calls k _ _ l0 t194 t195 _ ?side1 ?side2 A4.out).mono ?_); (case side1 => repeat (first | exact HR0.out | (with_reducible refine Kd.C_alloc ?_ _) | (with_reducible refine Kd.C_drewN ?_ _) | (with_reducible refine Kd.C_drew ?_))); (case side2 => exact HC0.out); rintro e w6 ⟨rfl, hb⟩; refine ⟨_, rfl, ?_⟩; have n0_ := Aside0.mk (below_step (by repeat (first | (with_reducible first | exact HB.out | apply below_alloc | apply pw_below_drewN | apply below_drew1) | exact HB.out)) hb); clear HB; have HB := n0_; clear n0_; (try clear hb); (try clear hb2); (try clear hk); (try clear hi)))
    (try simp only [Act.put, List.setIfInBounds_toArray, List.set_cons_zero, List.set_cons_succ])
    go_cut [21] (fun v21 wc => ∃ (kq : Nat) (x21_4 : Bool), v21 = .bool x21_4 ∧ Aside0 (laws_FnFloatSides.j0 kq t194 t195 x21_4 = some r) ∧ Aside0 (kq ≤ k) ∧ Aside0 (Below w.heap.size w wc))
    case first =>
      have H := HC5.out
      clear HC5
      replace H := Option.bind_eq_some_iff.mp H
      obtain ⟨t196, A70, H⟩ := H
      replace H : ((impl_FOfInt.f 2).bind fun t197 => ((impl_FAdd.f t196 t197).bind fun t198 => ((impl_FOfInt.f 3).bind fun t199 => (if t198 = t199 then ((impl_FOfInt.f 3).bind fun t200 => (laws_FnFloatSides.j0 k t194 t195 (t200 == 0))) else (laws_FnFloatSides.j0 k t194 t195 true))))) = some r := H
      have A7 := Aside0.mk A70
      clear A70
      replace H := Option.bind_eq_some_iff.mp H
      obtain ⟨t197, A80, H⟩ := H
      replace H : ((impl_FAdd.f t196 t197).bind fun t198 => ((impl_FOfInt.f 3).bind fun t199 => (if t198 = t199 then ((impl_FOfInt.f 3).bind fun t200 => (laws_FnFloatSides.j0 k t194 t195 (t200 == 0))) else (laws_FnFloatSides.j0 k t194 t195 true)))) = some r := H
      have A8 := Aside0.mk A80
      clear A80
      replace H := Option.bind_eq_some_iff.mp H
      obtain ⟨t198, A90, H⟩ := H
      replace H : ((impl_FOfInt.f 3).bind fun t199 => (if t198 = t199 then ((impl_FOfInt.f 3).bind fun t200 => (laws_FnFloatSides.j0 k t194 t195 (t200 == 0))) else (laws_FnFloatSides.j0 k t194 t195 true))) = some r := H
      have A9 := Aside0.mk A90
      clear A90
      replace H := Option.bind_eq_some_iff.mp H
      obtain ⟨t199, A100, H⟩ := H
      replace H : (if t198 = t199 then ((impl_FOfInt.f 3).bind fun t200 => (laws_FnFloatSides.j0 k t194 t195 (t200 == 0))) else (laws_FnFloatSides.j0 k t194 t195 true)) = some r := H
      have A10 := Aside0.mk A100
      clear A100
      by_cases c11 : t198 = t199
      · rw [if_pos c11] at H
        have c11b0 : (t198 == t199) = true := beq_iff_eq.mpr c11
        have c11b1 : (t198 != t199) = false := bne_eq_false_iff_eq.mpr c11
        clear c11
        (first | rw [c11b0] | (simp only [i64_w, i32_w]; rw [c11b0]) | skip)
        replace H := Option.bind_eq_some_iff.mp H
        obtain ⟨t200, A120, H⟩ := H
        replace H : (laws_FnFloatSides.j0 k t194 t195 (t200 == 0)) = some r := H
        have A12 := Aside0.mk A120
        clear A120
        have H' := Aside0.mk H
        clear H
        go_wp2_with (first | ((with_reducible refine gate_callee (f := 20) rfl ?_); refine goesL_ (some 13) rfl rfl Try.func20 (by kernel_rfl) rfl #[.int .i64 1] rfl (by (try simp only [List.map_toArray, List.map_cons, List.map_nil]); first | done | rfl | (simp only [List.length_drop, List.length_take]; rfl)) ?_; (with_reducible refine (impl_FOfInt.calls 1 t196 _ A7.out).mono ?_); rintro e w' ⟨rfl, ⟨nd, rfl⟩⟩; refine ⟨_, rfl, ?_⟩) | ((with_reducible refine gate_callee (f := 20) rfl ?_); refine goesL_ (some 14) rfl rfl Try.func20 (by kernel_rfl) rfl #[.int .i64 2] rfl (by (try simp only [List.map_toArray, List.map_cons, List.map_nil]); first | done | rfl | (simp only [List.length_drop, List.length_take]; rfl)) ?_; (with_reducible refine (impl_FOfInt.calls 2 t197 _ A8.out).mono ?_); rintro e w' ⟨rfl, ⟨nd, rfl⟩⟩; refine ⟨_, rfl, ?_⟩) | ((with_reducible refine gate_callee (f := 19) rfl ?_); refine goesL_ (some 15) rfl rfl Try.func19 (by kernel_rfl) rfl #[.int .i64 t196, .int .i64 t197] rfl (by (try simp only [List.map_toArray, List.map_cons, List.map_nil]); first | done | rfl | (simp only [List.length_drop, List.length_take]; rfl)) ?_; (with_reducible refine (impl_FAdd.calls t196 t197 t198 _ A9.out).mono ?_); rintro e w' ⟨rfl, ⟨nd, rfl⟩⟩; refine ⟨_, rfl, ?_⟩) | ((with_reducible refine gate_callee (f := 20) rfl ?_); refine goesL_ (some 16) rfl rfl Try.func20 (by kernel_rfl) rfl #[.int .i64 3] rfl (by (try simp only [List.map_toArray, List.map_cons, List.map_nil]); first | done | rfl | (simp only [List.length_drop, List.length_take]; rfl)) ?_; (with_reducible refine (impl_FOfInt.calls 3 t199 _ A10.out).mono ?_); rintro e w' ⟨rfl, ⟨nd, rfl⟩⟩; refine ⟨_, rfl, ?_⟩) | (go_at_call 20; (with_reducible refine (impl_FOfInt.calls 3 t200 _ A12.out).mono ?_); rintro e w' ⟨rfl, ⟨nd, rfl⟩⟩))
        go_meet
        case rel => exact ⟨_, ((t200 == 0)), (by first | rfl | (simp; done) | (simp [*]; done)), H', ⟨by first | omega | exact Nat.le_refl _⟩, ⟨by repeat (first | (with_reducible first | exact HB.out | apply below_alloc | apply pw_below_drewN | apply below_drew1) | exact HB.out)⟩⟩
      · rw [if_neg c11] at H
        have c11b0 : (t198 == t199) = false := beq_eq_false_iff_ne.mpr c11
        have c11b1 : (t198 != t199) = true := bne_iff_ne.mpr c11
        (first | rw [c11b0] | (simp only [i64_w, i32_w]; rw [c11b0]) | skip)
        have H' := Aside0.mk H
        clear H
        go_wp2_with (first | ((with_reducible refine gate_callee (f := 20) rfl ?_); refine goesL_ (some 13) rfl rfl Try.func20 (by kernel_rfl) rfl #[.int .i64 1] rfl (by (try simp only [List.map_toArray, List.map_cons, List.map_nil]); first | done | rfl | (simp only [List.length_drop, List.length_take]; rfl)) ?_; (with_reducible refine (impl_FOfInt.calls 1 t196 _ A7.out).mono ?_); rintro e w' ⟨rfl, ⟨nd, rfl⟩⟩; refine ⟨_, rfl, ?_⟩) | ((with_reducible refine gate_callee (f := 20) rfl ?_); refine goesL_ (some 14) rfl rfl Try.func20 (by kernel_rfl) rfl #[.int .i64 2] rfl (by (try simp only [List.map_toArray, List.map_cons, List.map_nil]); first | done | rfl | (simp only [List.length_drop, List.length_take]; rfl)) ?_; (with_reducible refine (impl_FOfInt.calls 2 t197 _ A8.out).mono ?_); rintro e w' ⟨rfl, ⟨nd, rfl⟩⟩; refine ⟨_, rfl, ?_⟩) | ((with_reducible refine gate_callee (f := 19) rfl ?_); refine goesL_ (some 15) rfl rfl Try.func19 (by kernel_rfl) rfl #[.int .i64 t196, .int .i64 t197] rfl (by (try simp only [List.map_toArray, List.map_cons, List.map_nil]); first | done | rfl | (simp only [List.length_drop, List.length_take]; rfl)) ?_; (with_reducible refine (impl_FAdd.calls t196 t197 t198 _ A9.out).mono ?_); rintro e w' ⟨rfl, ⟨nd, rfl⟩⟩; refine ⟨_, rfl, ?_⟩) | ((with_reducible refine gate_callee (f := 20) rfl ?_); refine goesL_ (some 16) rfl rfl Try.func20 (by kernel_rfl) rfl #[.int .i64 3] rfl (by (try simp only [List.map_toArray, List.map_cons, List.map_nil]); first | done | rfl | (simp only [List.length_drop, List.length_take]; rfl)) ?_; (with_reducible refine (impl_FOfInt.calls 3 t199 _ A10.out).mono ?_); rintro e w' ⟨rfl, ⟨nd, rfl⟩⟩; refine ⟨_, rfl, ?_⟩))
        go_meet
        case rel => exact ⟨_, (true), (by first | rfl | (simp; done) | (simp [*]; done)), H', ⟨by first | omega | exact Nat.le_refl _⟩, ⟨by repeat (first | (with_reducible first | exact HB.out | apply below_alloc | apply pw_below_drewN | apply below_drew1) | exact HB.out)⟩⟩
    case rest =>
      clear HC5
      try clear c1
      try clear c2
      try clear p2
      try clear c3
      try clear c4
      try clear c11
      try clear c11b0
      try clear c11b1
      obtain ⟨kq, x21_4, rfl, HA, HJ4, HB⟩ := hcut
      cases kq with
      | zero => exact absurd HA.out (by simp [laws_FnFloatSides.j0])
      | succ kj4 =>
        have H := HA.out
        clear HA
        simp only [laws_FnFloatSides.j0] at H
        by_cases c13 : x21_4 = true
        · subst c13
          have H1 : (some false) = some r := by rw [if_pos rfl] at H; exact H
          clear H
          have H := H1
          clear H1
          rw [HRT.out] at H
          exact absurd H (by simp)
        · replace c13 := Bool.eq_false_iff.mpr c13
          subst c13
          have H1 : ((impl_FAdd.f t194 t195).bind fun t201 => ((impl_FAdd.f t195 t194).bind fun t202 => (if t201 = t202 then ((impl_FMul.f t194 t195).bind fun t203 => ((impl_FMul.f t195 t194).bind fun t204 => (if t203 = t204 then ((impl_FLess.f t194 t195).bind fun t205 => (if t205 = true then ((impl_FLess.f t195 t194).bind fun t206 => (laws_FnFloatSides.j1 kj4 t194 t195 t206)) else (laws_FnFloatSides.j1 kj4 t194 t195 false))) else (laws_FnFloatSides.j1 kj4 t194 t195 true)))) else (laws_FnFloatSides.j1 kj4 t194 t195 true)))) = some r := by rw [if_neg (show ¬ (false = true) by decide)] at H; exact H
          clear H
          have H := H1
          clear H1
          have HC14 := Aside0.mk H
          clear H
          go_upto_region 6 with (fail)
          go_cut [47] (fun v47 wc => ∃ (kq : Nat) (x47_13 : Bool), v47 = .bool x47_13 ∧ Aside0 (laws_FnFloatSides.j1 kq t194 t195 x47_13 = some r) ∧ Aside0 (kq ≤ kj4) ∧ Aside0 (Below w.heap.size w wc))
          case first =>
            have H := HC14.out
            clear HC14
            replace H := Option.bind_eq_some_iff.mp H
            obtain ⟨t201, A150, H⟩ := H
            replace H : ((impl_FAdd.f t195 t194).bind fun t202 => (if t201 = t202 then ((impl_FMul.f t194 t195).bind fun t203 => ((impl_FMul.f t195 t194).bind fun t204 => (if t203 = t204 then ((impl_FLess.f t194 t195).bind fun t205 => (if t205 = true then ((impl_FLess.f t195 t194).bind fun t206 => (laws_FnFloatSides.j1 kj4 t194 t195 t206)) else (laws_FnFloatSides.j1 kj4 t194 t195 false))) else (laws_FnFloatSides.j1 kj4 t194 t195 true)))) else (laws_FnFloatSides.j1 kj4 t194 t195 true))) = some r := H
            have A15 := Aside0.mk A150
            clear A150
            replace H := Option.bind_eq_some_iff.mp H
            obtain ⟨t202, A160, H⟩ := H
            replace H : (if t201 = t202 then ((impl_FMul.f t194 t195).bind fun t203 => ((impl_FMul.f t195 t194).bind fun t204 => (if t203 = t204 then ((impl_FLess.f t194 t195).bind fun t205 => (if t205 = true then ((impl_FLess.f t195 t194).bind fun t206 => (laws_FnFloatSides.j1 kj4 t194 t195 t206)) else (laws_FnFloatSides.j1 kj4 t194 t195 false))) else (laws_FnFloatSides.j1 kj4 t194 t195 true)))) else (laws_FnFloatSides.j1 kj4 t194 t195 true)) = some r := H
            have A16 := Aside0.mk A160
            clear A160
            by_cases c17 : t201 = t202
            · rw [if_pos c17] at H
              have c17b0 : (t201 == t202) = true := beq_iff_eq.mpr c17
              have c17b1 : (t201 != t202) = false := bne_eq_false_iff_eq.mpr c17
              clear c17
              (first | rw [c17b0] | (simp only [i64_w, i32_w]; rw [c17b0]) | skip)
              replace H := Option.bind_eq_some_iff.mp H
              obtain ⟨t203, A180, H⟩ := H
              replace H : ((impl_FMul.f t195 t194).bind fun t204 => (if t203 = t204 then ((impl_FLess.f t194 t195).bind fun t205 => (if t205 = true then ((impl_FLess.f t195 t194).bind fun t206 => (laws_FnFloatSides.j1 kj4 t194 t195 t206)) else (laws_FnFloatSides.j1 kj4 t194 t195 false))) else (laws_FnFloatSides.j1 kj4 t194 t195 true))) = some r := H
              have A18 := Aside0.mk A180
              clear A180
              replace H := Option.bind_eq_some_iff.mp H
              obtain ⟨t204, A190, H⟩ := H
              replace H : (if t203 = t204 then ((impl_FLess.f t194 t195).bind fun t205 => (if t205 = true then ((impl_FLess.f t195 t194).bind fun t206 => (laws_FnFloatSides.j1 kj4 t194 t195 t206)) else (laws_FnFloatSides.j1 kj4 t194 t195 false))) else (laws_FnFloatSides.j1 kj4 t194 t195 true)) = some r := H
              have A19 := Aside0.mk A190
              clear A190
              by_cases c20 : t203 = t204
              · rw [if_pos c20] at H
                have c20b0 : (t203 == t204) = true := beq_iff_eq.mpr c20
                have c20b1 : (t203 != t204) = false := bne_eq_false_iff_eq.mpr c20
                clear c20
                replace H := Option.bind_eq_some_iff.mp H
                obtain ⟨t205, A210, H⟩ := H
                replace H : (if t205 = true then ((impl_FLess.f t195 t194).bind fun t206 => (laws_FnFloatSides.j1 kj4 t194 t195 t206)) else (laws_FnFloatSides.j1 kj4 t194 t195 false)) = some r := H
                have A21 := Aside0.mk A210
                clear A210
                by_cases c22 : t205 = true
                · subst c22
                  have H1 : ((impl_FLess.f t195 t194).bind fun t206 => (laws_FnFloatSides.j1 kj4 t194 t195 t206)) = some r := by rw [if_pos rfl] at H; exact H
                  clear H
                  have H := H1
                  clear H1
                  replace H := Option.bind_eq_some_iff.mp H
                  obtain ⟨t206, A230, H⟩ := H
                  replace H : (laws_FnFloatSides.j1 kj4 t194 t195 t206) = some r := H
                  have A23 := Aside0.mk A230
                  clear A230
                  have H' := Aside0.mk H
                  clear H
                  go_wp2_with (first | ((with_reducible refine gate_callee (f := 19) rfl ?_); refine goesL_ (some 24) rfl rfl Try.func19 (by kernel_rfl) rfl #[.int .i64 t194, .int .i64 t195] rfl (by (try simp only [List.map_toArray, List.map_cons, List.map_nil]); first | done | rfl | (simp only [List.length_drop, List.length_take]; rfl)) ?_; (with_reducible refine (impl_FAdd.calls t194 t195 t201 _ A15.out).mono ?_); rintro e w' ⟨rfl, ⟨nd, rfl⟩⟩; refine ⟨_, rfl, ?_⟩) | ((with_reducible refine gate_callee (f := 19) rfl ?_); refine goesL_ (some 27) rfl rfl Try.func19 (by kernel_rfl) rfl #[.int .i64 t195, .int .i64 t194] rfl (by (try simp only [List.map_toArray, List.map_cons, List.map_nil]); first | done | rfl | (simp only [List.length_drop, List.length_take]; rfl)) ?_; (with_reducible refine (impl_FAdd.calls t195 t194 t202 _ A16.out).mono ?_); rintro e w' ⟨rfl, ⟨nd, rfl⟩⟩; refine ⟨_, rfl, ?_⟩) | (go_at_call 21; (with_reducible refine (impl_FMul.calls t194 t195 t203 _ A18.out).mono ?_); rintro e w' ⟨rfl, ⟨nd, rfl⟩⟩) | (go_at_call 21; (with_reducible refine (impl_FMul.calls t195 t194 t204 _ A19.out).mono ?_); rintro e w' ⟨rfl, ⟨nd, rfl⟩⟩) | (go_at_call 22; (with_reducible refine (impl_FLess.calls t194 t195 true _ A21.out).mono ?_); rintro e w' ⟨rfl, ⟨nd, rfl⟩⟩) | (go_at_call 22; (with_reducible refine (impl_FLess.calls t195 t194 t206 _ A23.out).mono ?_); rintro e w' ⟨rfl, ⟨nd, rfl⟩⟩))
                  go_meet
                  case rel => exact ⟨_, (t206), (by first | rfl | (simp; done) | (simp [*]; done)), H', ⟨by have := HJ4.out; first | omega | exact Nat.le_refl _⟩, ⟨by repeat (first | (with_reducible first | exact HB.out | apply below_alloc | apply pw_below_drewN | apply below_drew1) | exact HB.out)⟩⟩
                · replace c22 := Bool.eq_false_iff.mpr c22
                  subst c22
                  have H1 : (laws_FnFloatSides.j1 kj4 t194 t195 false) = some r := by rw [if_neg (show ¬ (false = true) by decide)] at H; exact H
                  clear H
                  have H := H1
                  clear H1
                  have H' := Aside0.mk H
                  clear H
                  go_wp2_with (first | ((with_reducible refine gate_callee (f := 19) rfl ?_); refine goesL_ (some 24) rfl rfl Try.func19 (by kernel_rfl) rfl #[.int .i64 t194, .int .i64 t195] rfl (by (try simp only [List.map_toArray, List.map_cons, List.map_nil]); first | done | rfl | (simp only [List.length_drop, List.length_take]; rfl)) ?_; (with_reducible refine (impl_FAdd.calls t194 t195 t201 _ A15.out).mono ?_); rintro e w' ⟨rfl, ⟨nd, rfl⟩⟩; refine ⟨_, rfl, ?_⟩) | ((with_reducible refine gate_callee (f := 19) rfl ?_); refine goesL_ (some 27) rfl rfl Try.func19 (by kernel_rfl) rfl #[.int .i64 t195, .int .i64 t194] rfl (by (try simp only [List.map_toArray, List.map_cons, List.map_nil]); first | done | rfl | (simp only [List.length_drop, List.length_take]; rfl)) ?_; (with_reducible refine (impl_FAdd.calls t195 t194 t202 _ A16.out).mono ?_); rintro e w' ⟨rfl, ⟨nd, rfl⟩⟩; refine ⟨_, rfl, ?_⟩) | (go_at_call 21; (with_reducible refine (impl_FMul.calls t194 t195 t203 _ A18.out).mono ?_); rintro e w' ⟨rfl, ⟨nd, rfl⟩⟩) | (go_at_call 21; (with_reducible refine (impl_FMul.calls t195 t194 t204 _ A19.out).mono ?_); rintro e w' ⟨rfl, ⟨nd, rfl⟩⟩) | (go_at_call 22; (with_reducible refine (impl_FLess.calls t194 t195 false _ A21.out).mono ?_); rintro e w' ⟨rfl, ⟨nd, rfl⟩⟩))
                  go_meet
                  case rel => exact ⟨_, (false), (by first | rfl | (simp; done) | (simp [*]; done)), H', ⟨by have := HJ4.out; first | omega | exact Nat.le_refl _⟩, ⟨by repeat (first | (with_reducible first | exact HB.out | apply below_alloc | apply pw_below_drewN | apply below_drew1) | exact HB.out)⟩⟩
              · rw [if_neg c20] at H
                have c20b0 : (t203 == t204) = false := beq_eq_false_iff_ne.mpr c20
                have c20b1 : (t203 != t204) = true := bne_iff_ne.mpr c20
                have H' := Aside0.mk H
                clear H
                go_wp2_with (first | ((with_reducible refine gate_callee (f := 19) rfl ?_); refine goesL_ (some 24) rfl rfl Try.func19 (by kernel_rfl) rfl #[.int .i64 t194, .int .i64 t195] rfl (by (try simp only [List.map_toArray, List.map_cons, List.map_nil]); first | done | rfl | (simp only [List.length_drop, List.length_take]; rfl)) ?_; (with_reducible refine (impl_FAdd.calls t194 t195 t201 _ A15.out).mono ?_); rintro e w' ⟨rfl, ⟨nd, rfl⟩⟩; refine ⟨_, rfl, ?_⟩) | ((with_reducible refine gate_callee (f := 19) rfl ?_); refine goesL_ (some 27) rfl rfl Try.func19 (by kernel_rfl) rfl #[.int .i64 t195, .int .i64 t194] rfl (by (try simp only [List.map_toArray, List.map_cons, List.map_nil]); first | done | rfl | (simp only [List.length_drop, List.length_take]; rfl)) ?_; (with_reducible refine (impl_FAdd.calls t195 t194 t202 _ A16.out).mono ?_); rintro e w' ⟨rfl, ⟨nd, rfl⟩⟩; refine ⟨_, rfl, ?_⟩) | (go_at_call 21; (with_reducible refine (impl_FMul.calls t194 t195 t203 _ A18.out).mono ?_); rintro e w' ⟨rfl, ⟨nd, rfl⟩⟩) | (go_at_call 21; (with_reducible refine (impl_FMul.calls t195 t194 t204 _ A19.out).mono ?_); rintro e w' ⟨rfl, ⟨nd, rfl⟩⟩))
                go_meet
                case rel => exact ⟨_, (true), (by first | rfl | (simp; done) | (simp [*]; done)), H', ⟨by have := HJ4.out; first | omega | exact Nat.le_refl _⟩, ⟨by repeat (first | (with_reducible first | exact HB.out | apply below_alloc | apply pw_below_drewN | apply below_drew1) | exact HB.out)⟩⟩
            · rw [if_neg c17] at H
              have c17b0 : (t201 == t202) = false := beq_eq_false_iff_ne.mpr c17
              have c17b1 : (t201 != t202) = true := bne_iff_ne.mpr c17
              (first | rw [c17b0] | (simp only [i64_w, i32_w]; rw [c17b0]) | skip)
              have H' := Aside0.mk H
              clear H
              go_wp2_with (first | ((with_reducible refine gate_callee (f := 19) rfl ?_); refine goesL_ (some 24) rfl rfl Try.func19 (by kernel_rfl) rfl #[.int .i64 t194, .int .i64 t195] rfl (by (try simp only [List.map_toArray, List.map_cons, List.map_nil]); first | done | rfl | (simp only [List.length_drop, List.length_take]; rfl)) ?_; (with_reducible refine (impl_FAdd.calls t194 t195 t201 _ A15.out).mono ?_); rintro e w' ⟨rfl, ⟨nd, rfl⟩⟩; refine ⟨_, rfl, ?_⟩) | ((with_reducible refine gate_callee (f := 19) rfl ?_); refine goesL_ (some 27) rfl rfl Try.func19 (by kernel_rfl) rfl #[.int .i64 t195, .int .i64 t194] rfl (by (try simp only [List.map_toArray, List.map_cons, List.map_nil]); first | done | rfl | (simp only [List.length_drop, List.length_take]; rfl)) ?_; (with_reducible refine (impl_FAdd.calls t195 t194 t202 _ A16.out).mono ?_); rintro e w' ⟨rfl, ⟨nd, rfl⟩⟩; refine ⟨_, rfl, ?_⟩))
              go_meet
              case rel => exact ⟨_, (true), (by first | rfl | (simp; done) | (simp [*]; done)), H', ⟨by have := HJ4.out; first | omega | exact Nat.le_refl _⟩, ⟨by repeat (first | (with_reducible first | exact HB.out | apply below_alloc | apply pw_below_drewN | apply below_drew1) | exact HB.out)⟩⟩
          case rest =>
            clear HC14
            try clear c1
            try clear c2
            try clear p2
            try clear c3
            try clear c4
            try clear c11
            try clear c11b0
            try clear c11b1
            try clear c13
            try clear c17
            try clear c17b0
            try clear c17b1
            try clear c18
            try clear c19
            try clear c20
            try clear c20b0
            try clear c20b1
            try clear c22
            try clear p2
            obtain ⟨kq, x47_13, rfl, HA, HJ13, HB⟩ := hcut
            cases kq with
            | zero => exact absurd HA.out (by simp [laws_FnFloatSides.j1])
            | succ kj13 =>
              have H := HA.out
              clear HA
              simp only [laws_FnFloatSides.j1] at H
              by_cases c24 : x47_13 = true
              · subst c24
                have H1 : (some false) = some r := by rw [if_pos rfl] at H; exact H
                clear H
                have H := H1
                clear H1
                rw [HRT.out] at H
                exact absurd H (by simp)
              · replace c24 := Bool.eq_false_iff.mpr c24
                subst c24
                have H1 : ((impl_FNeg.f t194).bind fun t207 => ((impl_FNeg.f t207).bind fun t208 => (if t208 = 2143289344 then ((impl_FAdd.f t194 t195).bind fun t209 => (if t209 = 2143289344 then ((impl_FLess.f t194 t195).bind fun t210 => (some (!t210))) else (some false))) else (if t208 = t194 then ((impl_FNeg.f t194).bind fun t211 => ((impl_FAdd.f t194 t211).bind fun t212 => (if t212 = 0 then (some true) else ((impl_FMul.f t194 0).bind fun t213 => (some (t213 == 2143289344)))))) else (some false))))) = some r := by rw [if_neg (show ¬ (false = true) by decide)] at H; exact H
                clear H
                have H := H1
                clear H1
                replace H := Option.bind_eq_some_iff.mp H
                obtain ⟨t207, A250, H⟩ := H
                replace H : ((impl_FNeg.f t207).bind fun t208 => (if t208 = 2143289344 then ((impl_FAdd.f t194 t195).bind fun t209 => (if t209 = 2143289344 then ((impl_FLess.f t194 t195).bind fun t210 => (some (!t210))) else (some false))) else (if t208 = t194 then ((impl_FNeg.f t194).bind fun t211 => ((impl_FAdd.f t194 t211).bind fun t212 => (if t212 = 0 then (some true) else ((impl_FMul.f t194 0).bind fun t213 => (some (t213 == 2143289344)))))) else (some false)))) = some r := H
                have A25 := Aside0.mk A250
                clear A250
                replace H := Option.bind_eq_some_iff.mp H
                obtain ⟨t208, A260, H⟩ := H
                replace H : (if t208 = 2143289344 then ((impl_FAdd.f t194 t195).bind fun t209 => (if t209 = 2143289344 then ((impl_FLess.f t194 t195).bind fun t210 => (some (!t210))) else (some false))) else (if t208 = t194 then ((impl_FNeg.f t194).bind fun t211 => ((impl_FAdd.f t194 t211).bind fun t212 => (if t212 = 0 then (some true) else ((impl_FMul.f t194 0).bind fun t213 => (some (t213 == 2143289344)))))) else (some false))) = some r := H
                have A26 := Aside0.mk A260
                clear A260
                by_cases c27 : t208 = 2143289344
                · rw [if_pos c27] at H
                  have c27b0 : (t208 == 2143289344) = true := beq_iff_eq.mpr c27
                  have c27b1 : (t208 != 2143289344) = false := bne_eq_false_iff_eq.mpr c27
                  clear c27
                  replace H := Option.bind_eq_some_iff.mp H
                  obtain ⟨t209, A280, H⟩ := H
                  replace H : (if t209 = 2143289344 then ((impl_FLess.f t194 t195).bind fun t210 => (some (!t210))) else (some false)) = some r := H
                  have A28 := Aside0.mk A280
                  clear A280
                  by_cases c29 : t209 = 2143289344
                  · rw [if_pos c29] at H
                    have c29b0 : (t209 == 2143289344) = true := beq_iff_eq.mpr c29
                    have c29b1 : (t209 != 2143289344) = false := bne_eq_false_iff_eq.mpr c29
                    clear c29
                    replace H := Option.bind_eq_some_iff.mp H
                    obtain ⟨t210, A300, H⟩ := H
                    replace H : (some (!t210)) = some r := H
                    have A30 := Aside0.mk A300
                    clear A300
                    obtain rfl := Option.some.inj H
                    go_wp2_with (first | ((with_reducible refine gate_callee (f := 23) rfl ?_); refine goesL_ (some 49) rfl rfl Try.func23 (by kernel_rfl) rfl #[.int .i64 t194] rfl (by (try simp only [List.map_toArray, List.map_cons, List.map_nil]); first | done | rfl | (simp only [List.length_drop, List.length_take]; rfl)) ?_; (with_reducible refine (impl_FNeg.calls t194 t207 _ A25.out).mono ?_); rintro e w' ⟨rfl, ⟨nd, rfl⟩⟩; refine ⟨_, rfl, ?_⟩) | ((with_reducible refine gate_callee (f := 23) rfl ?_); refine goesL_ (some 50) rfl rfl Try.func23 (by kernel_rfl) rfl #[.int .i64 t207] rfl (by (try simp only [List.map_toArray, List.map_cons, List.map_nil]); first | done | rfl | (simp only [List.length_drop, List.length_take]; rfl)) ?_; (with_reducible refine (impl_FNeg.calls t207 t208 _ A26.out).mono ?_); rintro e w' ⟨rfl, ⟨nd, rfl⟩⟩; refine ⟨_, rfl, ?_⟩) | ((with_reducible refine gate_callee (f := 19) rfl ?_); refine goesL_ (some 55) rfl rfl Try.func19 (by kernel_rfl) rfl #[.int .i64 t194, .int .i64 t195] rfl (by (try simp only [List.map_toArray, List.map_cons, List.map_nil]); first | done | rfl | (simp only [List.length_drop, List.length_take]; rfl)) ?_; (with_reducible refine (impl_FAdd.calls t194 t195 t209 _ A28.out).mono ?_); rintro e w' ⟨rfl, ⟨nd, rfl⟩⟩; refine ⟨_, rfl, ?_⟩) | (go_at_call 22; (with_reducible refine (impl_FLess.calls t194 t195 t210 _ A30.out).mono ?_); rintro e w' ⟨rfl, ⟨nd, rfl⟩⟩))
                    go_ret
                    exact ⟨by first | rfl | (simp [errW_none, errW_some] <;> rfl) | (simp [*, errW_none, errW_some] <;> rfl), by repeat (first | (with_reducible first | exact HB.out | apply below_alloc | apply pw_below_drewN | apply below_drew1) | exact HB.out)⟩
                  · rw [if_neg c29] at H
                    have c29b0 : (t209 == 2143289344) = false := beq_eq_false_iff_ne.mpr c29
                    have c29b1 : (t209 != 2143289344) = true := bne_iff_ne.mpr c29
                    rw [HRT.out] at H
                    exact absurd H (by simp)
                · rw [if_neg c27] at H
                  have c27b0 : (t208 == 2143289344) = false := beq_eq_false_iff_ne.mpr c27
                  have c27b1 : (t208 != 2143289344) = true := bne_iff_ne.mpr c27
                  by_cases c31 : t208 = t194
                  · rw [if_pos c31] at H
                    have c31b0 : (t208 == t194) = true := beq_iff_eq.mpr c31
                    have c31b1 : (t208 != t194) = false := bne_eq_false_iff_eq.mpr c31
                    clear c31
                    replace H := Option.bind_eq_some_iff.mp H
                    obtain ⟨t211, A320, H⟩ := H
                    replace H : ((impl_FAdd.f t194 t211).bind fun t212 => (if t212 = 0 then (some true) else ((impl_FMul.f t194 0).bind fun t213 => (some (t213 == 2143289344))))) = some r := H
                    have A32 := Aside0.mk A320
                    clear A320
                    replace H := Option.bind_eq_some_iff.mp H
                    obtain ⟨t212, A330, H⟩ := H
                    replace H : (if t212 = 0 then (some true) else ((impl_FMul.f t194 0).bind fun t213 => (some (t213 == 2143289344)))) = some r := H
                    have A33 := Aside0.mk A330
                    clear A330
                    by_cases c34 : t212 = 0
                    · rw [if_pos c34] at H
                      have c34b0 : (t212 == 0) = true := beq_iff_eq.mpr c34
                      have c34b1 : (t212 != 0) = false := bne_eq_false_iff_eq.mpr c34
                      clear c34
                      obtain rfl := Option.some.inj H
                      go_wp2_with (first | ((with_reducible refine gate_callee (f := 23) rfl ?_); refine goesL_ (some 49) rfl rfl Try.func23 (by kernel_rfl) rfl #[.int .i64 t194] rfl (by (try simp only [List.map_toArray, List.map_cons, List.map_nil]); first | done | rfl | (simp only [List.length_drop, List.length_take]; rfl)) ?_; (with_reducible refine (impl_FNeg.calls t194 t207 _ A25.out).mono ?_); rintro e w' ⟨rfl, ⟨nd, rfl⟩⟩; refine ⟨_, rfl, ?_⟩) | ((with_reducible refine gate_callee (f := 23) rfl ?_); refine goesL_ (some 50) rfl rfl Try.func23 (by kernel_rfl) rfl #[.int .i64 t207] rfl (by (try simp only [List.map_toArray, List.map_cons, List.map_nil]); first | done | rfl | (simp only [List.length_drop, List.length_take]; rfl)) ?_; (with_reducible refine (impl_FNeg.calls t207 t208 _ A26.out).mono ?_); rintro e w' ⟨rfl, ⟨nd, rfl⟩⟩; refine ⟨_, rfl, ?_⟩) | (go_at_call 23; (with_reducible refine (impl_FNeg.calls t194 t211 _ A32.out).mono ?_); rintro e w' ⟨rfl, ⟨nd, rfl⟩⟩) | (go_at_call 19; (with_reducible refine (impl_FAdd.calls t194 t211 t212 _ A33.out).mono ?_); rintro e w' ⟨rfl, ⟨nd, rfl⟩⟩))
                      go_ret
                      exact ⟨by first | rfl | (simp [errW_none, errW_some] <;> rfl) | (simp [*, errW_none, errW_some] <;> rfl), by repeat (first | (with_reducible first | exact HB.out | apply below_alloc | apply pw_below_drewN | apply below_drew1) | exact HB.out)⟩
                    · rw [if_neg c34] at H
                      have c34b0 : (t212 == 0) = false := beq_eq_false_iff_ne.mpr c34
                      have c34b1 : (t212 != 0) = true := bne_iff_ne.mpr c34
                      replace H := Option.bind_eq_some_iff.mp H
                      obtain ⟨t213, A350, H⟩ := H
                      replace H : (some (t213 == 2143289344)) = some r := H
                      have A35 := Aside0.mk A350
                      clear A350
                      obtain rfl := Option.some.inj H
                      go_wp2_with (first | ((with_reducible refine gate_callee (f := 23) rfl ?_); refine goesL_ (some 49) rfl rfl Try.func23 (by kernel_rfl) rfl #[.int .i64 t194] rfl (by (try simp only [List.map_toArray, List.map_cons, List.map_nil]); first | done | rfl | (simp only [List.length_drop, List.length_take]; rfl)) ?_; (with_reducible refine (impl_FNeg.calls t194 t207 _ A25.out).mono ?_); rintro e w' ⟨rfl, ⟨nd, rfl⟩⟩; refine ⟨_, rfl, ?_⟩) | ((with_reducible refine gate_callee (f := 23) rfl ?_); refine goesL_ (some 50) rfl rfl Try.func23 (by kernel_rfl) rfl #[.int .i64 t207] rfl (by (try simp only [List.map_toArray, List.map_cons, List.map_nil]); first | done | rfl | (simp only [List.length_drop, List.length_take]; rfl)) ?_; (with_reducible refine (impl_FNeg.calls t207 t208 _ A26.out).mono ?_); rintro e w' ⟨rfl, ⟨nd, rfl⟩⟩; refine ⟨_, rfl, ?_⟩) | (go_at_call 23; (with_reducible refine (impl_FNeg.calls t194 t211 _ A32.out).mono ?_); rintro e w' ⟨rfl, ⟨nd, rfl⟩⟩) | (go_at_call 19; (with_reducible refine (impl_FAdd.calls t194 t211 t212 _ A33.out).mono ?_); rintro e w' ⟨rfl, ⟨nd, rfl⟩⟩) | (go_at_call 21; (with_reducible refine (impl_FMul.calls t194 0 t213 _ A35.out).mono ?_); rintro e w' ⟨rfl, ⟨nd, rfl⟩⟩))
                      go_ret
                      exact ⟨by first | rfl | (simp [errW_none, errW_some] <;> rfl) | (simp [*, errW_none, errW_some] <;> rfl), by repeat (first | (with_reducible first | exact HB.out | apply below_alloc | apply pw_below_drewN | apply below_drew1) | exact HB.out)⟩
                  · rw [if_neg c31] at H
                    have c31b0 : (t208 == t194) = false := beq_eq_false_iff_ne.mpr c31
                    have c31b1 : (t208 != t194) = true := bne_iff_ne.mpr c31
                    rw [HRT.out] at H
                    exact absurd H (by simp)

/-- THE ONE PURE STATEMENT of laws_FnFloatSides: yours. -/
def laws_FnFloatSides.Pure : Prop := ∀ (l0 : List Int), l0.length ≤ maxLen → l0.length * 1 ≤ 140737488351232 → (∀ x ∈ l0, (Lit.int .u8 x).wf = true) → ∃ k, laws_FnFloatSides.f k l0 = some true
theorem laws_FnFloatSides.walk (P : laws_FnFloatSides.Pure) (a0 : Option Addr) (len0 cap0 : Nat) (z0 : List Int) (w : World) (w0 : (a0 = none ∧ len0 = 0 ∧ cap0 = 0 ∧ z0 = []) ∨ ∃ x, a0 = some x ∧ len0 ≤ cap0 ∧ cap0 ≤ maxLen ∧ z0.length = cap0 ∧ (∀ i, i < z0.length → w.cell? (x.add i) = some (.int .u8 (z0.getD i 0))) ∧ ∀ n ∈ z0, (Lit.int .u8 n).wf = true) (y0 : len0 * 1 ≤ 140737488351232) :
    Calls Try.prog 4 #[.slice a0 len0 cap0] w fun e w' => e = .returned (.bool true) ∧ Below w.heap.size w w' := by
  obtain ⟨l0, rfl, hr0, hm0, hw0, hc0⟩ := ReadsInt.ofRowC w0
  obtain ⟨k, h⟩ := P l0 hm0 y0 hw0
  refine (laws_FnFloatSides.calls k _ _ l0 true w rfl (Kd.C_of_reads (d := (0 : Int)) (h1 := fun _ => rfl) hr0) hc0 h).mono ?_
  rintro e w' ⟨rfl, hd⟩
  exact ⟨rfl, hd⟩

end Go.Proofs.Ytpoblnigmfbnfaa.PFnFloatSides
