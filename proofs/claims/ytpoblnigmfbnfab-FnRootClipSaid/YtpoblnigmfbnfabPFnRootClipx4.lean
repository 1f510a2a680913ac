-- Printed out of the translation, hand-written contracts beside it; checked by the kernel alone.
import Derived.Test.YtpoblnigmfbnfabPFnRootClipx0
import Derived.Test.YtpoblnigmfbnfabPFnRootClipx1
import Derived.Test.YtpoblnigmfbnfabPFnRootClipx2
import Derived.Test.YtpoblnigmfbnfabPFnRootClipx3
namespace Go.Proofs.Ytpoblnigmfbnfab.PFnRootClip
open Go.RowKit Go.Proofs.YtpoblnigmfbnfabW.PrintWords Go.Proofs.YtpoblnigmfbnfabW.PrintLast Go.Proofs.YtpoblnigmfbnfabW.PrintMore
attribute [local go_sem] max2_int min2_int max_two min_two max_three min_three max_four min_four   -- for this text's walks alone
set_option linter.unusedVariables false
set_option linter.unusedSimpArgs false

/-! ### laws_FnRootClip: function 5 -/
def laws_FnRootClip.j0 : Nat → List Int → Bool → Option (Bool)
  | 0, _, _ => none
  | k + 1, x0, x37 => if x37 = true then (some false) else ((spec_DrawClip.f k x0).bind fun bt237 => ((impl_Clip.f k bt237.1 bt237.2).bind fun t241 => ((spec_Clip.f k bt237.1 bt237.2).bind fun t244 => (if (t241.length : Int) = (t244.length : Int) then (if (t241.length : Int) = 0 then (some true) else ((impl_Norm.f k bt237.1).bind fun t247 => (if t247 ≤ bt237.2 then ((laws_sameInts.f k t241 bt237.1).bind fun t248 => (some t248)) else ((impl_Norm.f k t241).bind fun t249 => ((impl_Root.f k (t241.length : Int)).bind fun t250 => (some (decide (t249 ≤ (wrap64 ((wrap64 (bt237.2 + t250)) + 1)))))))))) else (some false)))))
def laws_FnRootClip.f (k : Nat) (l0 : List Int) : Option (Bool) := (laws_big.f l0).bind fun t233 => (if t233 = true then (some true) else ((spec_DrawRoot.f k l0).bind fun t234 => ((impl_Root.f k t234).bind fun t235 => ((impl_Root.f k 10).bind fun t236 => (if t236 = 3 then (if t234 ≥ 0 then (if t234 ≤ 4611686018427387904 then (if (wrap64 (t235 * t235)) > t234 then (laws_FnRootClip.j0 k l0 true) else (laws_FnRootClip.j0 k l0 (decide ((wrap64 ((wrap64 (t235 + 1)) * (wrap64 (t235 + 1)))) ≤ t234)))) else (laws_FnRootClip.j0 k l0 false)) else (laws_FnRootClip.j0 k l0 false)) else (some false))))))
theorem laws_FnRootClip.mono_l : ∀ k, (∀ y0 y1, LeO (laws_FnRootClip.j0 k y0 y1) (laws_FnRootClip.j0 (k + 1) y0 y1))
  | 0 => fun _ _ r h => by simp [laws_FnRootClip.j0] at h
  | k + 1 => by
    have ih0 := laws_FnRootClip.mono_l k
    · intro y0 y1
      unfold laws_FnRootClip.j0
      repeat' first
      | (with_reducible exact ih0 _ _)
      | (with_reducible exact impl_Clip.mono _ _ _)
      | (with_reducible exact impl_Norm.mono _ _)
      | (with_reducible exact impl_Root.mono _ _)
      | (with_reducible exact laws_sameInts.mono _ _ _)
      | (with_reducible exact spec_Clip.mono _ _ _)
      | (with_reducible exact spec_DrawClip.mono _ _)
      | (with_reducible exact spec_DrawRoot.mono _ _)
      | (with_reducible exact LeO.refl _)
      | (with_reducible exact LeO.none _)
      | (with_reducible refine LeO.ite ?_ ?_)
      | (with_reducible refine LeO.bind ?_ (fun _ => ?_))
      | exact ih0 _ _
      | exact impl_Clip.mono _ _ _
      | exact impl_Norm.mono _ _
      | exact impl_Root.mono _ _
      | exact laws_sameInts.mono _ _ _
      | exact spec_Clip.mono _ _ _
      | exact spec_DrawClip.mono _ _
      | exact spec_DrawRoot.mono _ _
      | exact LeO.none _
      | refine LeO.ite ?_ ?_
      | refine LeO.bind ?_ (fun _ => ?_)
theorem laws_FnRootClip.mono : ∀ a0 k, LeO (laws_FnRootClip.f k a0) (laws_FnRootClip.f (k + 1) a0) := by
  intro a0 k
  have ih0 := laws_FnRootClip.mono_l k
  unfold laws_FnRootClip.f
  repeat' first
      | (with_reducible exact ih0 _ _)
      | (with_reducible exact impl_Clip.mono _ _ _)
      | (with_reducible exact impl_Norm.mono _ _)
      | (with_reducible exact impl_Root.mono _ _)
      | (with_reducible exact laws_sameInts.mono _ _ _)
      | (with_reducible exact spec_Clip.mono _ _ _)
      | (with_reducible exact spec_DrawClip.mono _ _)
      | (with_reducible exact spec_DrawRoot.mono _ _)
      | (with_reducible exact LeO.refl _)
      | (with_reducible exact LeO.none _)
      | (with_reducible refine LeO.ite ?_ ?_)
      | (with_reducible refine LeO.bind ?_ (fun _ => ?_))
      | exact ih0 _ _
      | exact impl_Clip.mono _ _ _
      | exact impl_Norm.mono _ _
      | exact impl_Root.mono _ _
      | exact laws_sameInts.mono _ _ _
      | exact spec_Clip.mono _ _ _
      | exact spec_DrawClip.mono _ _
      | exact spec_DrawRoot.mono _ _
      | exact LeO.none _
      | refine LeO.ite ?_ ?_
      | refine LeO.bind ?_ (fun _ => ?_)
set_option maxHeartbeats 8000000 in
set_option maxRecDepth 100000 in
theorem laws_FnRootClip.calls (k : Nat) (A0 : Option Addr) (c0 : Nat) (l0 : List Int) (r : Bool) (w : World) (hrt : r = true) (hr0 : Kd.C (Kd.int .u8) w A0 l0.length l0) (hc0 : l0.length ≤ c0) (h : laws_FnRootClip.f k l0 = some r) :
    Calls Try.prog 5 #[.slice A0 l0.length c0] w fun e w' => e = .returned (.bool r) ∧ Below w.heap.size w w' := by
  have HRT := Aside0.mk hrt
  clear hrt
  have HR0 := Aside0.mk hr0
  have HC0 := Aside0.mk hc0
  clear hr0 hc0
  have HB := Aside0.mk (Below.refl w.heap.size w)
  have H : ((laws_big.f l0).bind fun t233 => (if t233 = true then (some true) else ((spec_DrawRoot.f k l0).bind fun t234 => ((impl_Root.f k t234).bind fun t235 => ((impl_Root.f k 10).bind fun t236 => (if t236 = 3 then (if t234 ≥ 0 then (if t234 ≤ 4611686018427387904 then (if (wrap64 (t235 * t235)) > t234 then (laws_FnRootClip.j0 k l0 true) else (laws_FnRootClip.j0 k l0 (decide ((wrap64 ((wrap64 (t235 + 1)) * (wrap64 (t235 + 1)))) ≤ t234)))) else (laws_FnRootClip.j0 k l0 false)) else (laws_FnRootClip.j0 k l0 false)) else (some false))))))) = some r := h
  clear h
  replace H := Option.bind_eq_some_iff.mp H
  obtain ⟨t233, A20, H⟩ := H
  replace H : (if t233 = true then (some true) else ((spec_DrawRoot.f k l0).bind fun t234 => ((impl_Root.f k t234).bind fun t235 => ((impl_Root.f k 10).bind fun t236 => (if t236 = 3 then (if t234 ≥ 0 then (if t234 ≤ 4611686018427387904 then (if (wrap64 (t235 * t235)) > t234 then (laws_FnRootClip.j0 k l0 true) else (laws_FnRootClip.j0 k l0 (decide ((wrap64 ((wrap64 (t235 + 1)) * (wrap64 (t235 + 1)))) ≤ t234)))) else (laws_FnRootClip.j0 k l0 false)) else (laws_FnRootClip.j0 k l0 false)) else (some false)))))) = some r := H
  have A2 := Aside0.mk A20
  clear A20
  by_cases c3 : t233 = true
  · subst c3
    have H1 : (some true) = some r := by rw [if_pos rfl] at H; exact H
    clear H
    have H := H1
    clear H1
    obtain rfl := Option.some.inj H
    go_enter Try.func5, Try.ntmps5
    go_wp2_with (first | ((with_reducible refine gate_callee (f := 18) rfl ?_); refine goesL_ (some 9) rfl rfl Try.func18 (by kernel_rfl) rfl #[.slice A0 l0.length c0] rfl (by (try simp only [List.map_toArray, List.map_cons, List.map_nil]); first | done | rfl | (simp only [List.length_drop, List.length_take]; rfl)) ?_; (with_reducible refine (laws_big.calls _ _ l0 true _ ?side1 ?side2 A2.out).mono ?_); (case side1 => repeat (first | exact HR0.out | (with_reducible refine Kd.C_alloc ?_ _) | (with_reducible refine Kd.C_drewN ?_ _) | (with_reducible refine Kd.C_drew ?_))); (case side2 => exact HC0.out); rintro e w' ⟨rfl, ⟨nd, rfl⟩⟩; refine ⟨_, rfl, ?_⟩))
    go_ret
    exact ⟨by first | rfl | (simp [errW_none, errW_some] <;> rfl) | (simp [*, errW_none, errW_some] <;> rfl), by repeat (first | (with_reducible first | exact HB.out | apply below_alloc | apply pw_below_drewN | apply below_drew1) | exact HB.out)⟩
  · replace c3 := Bool.eq_false_iff.mpr c3
    subst c3
    have H1 : ((spec_DrawRoot.f k l0).bind fun t234 => ((impl_Root.f k t234).bind fun t235 => ((impl_Root.f k 10).bind fun t236 => (if t236 = 3 then (if t234 ≥ 0 then (if t234 ≤ 4611686018427387904 then (if (wrap64 (t235 * t235)) > t234 then (laws_FnRootClip.j0 k l0 true) else (laws_FnRootClip.j0 k l0 (decide ((wrap64 ((wrap64 (t235 + 1)) * (wrap64 (t235 + 1)))) ≤ t234)))) else (laws_FnRootClip.j0 k l0 false)) else (laws_FnRootClip.j0 k l0 false)) else (some false))))) = some r := by rw [if_neg (show ¬ (false = true) by decide)] at H; exact H
    clear H
    have H := H1
    clear H1
    replace H := Option.bind_eq_some_iff.mp H
    obtain ⟨t234, A40, H⟩ := H
    replace H : ((impl_Root.f k t234).bind fun t235 => ((impl_Root.f k 10).bind fun t236 => (if t236 = 3 then (if t234 ≥ 0 then (if t234 ≤ 4611686018427387904 then (if (wrap64 (t235 * t235)) > t234 then (laws_FnRootClip.j0 k l0 true) else (laws_FnRootClip.j0 k l0 (decide ((wrap64 ((wrap64 (t235 + 1)) * (wrap64 (t235 + 1)))) ≤ t234)))) else (laws_FnRootClip.j0 k l0 false)) else (laws_FnRootClip.j0 k l0 false)) else (some false)))) = some r := H
    have A4 := Aside0.mk A40
    clear A40
    replace H := Option.bind_eq_some_iff.mp H
    obtain ⟨t235, A50, H⟩ := H
    replace H : ((impl_Root.f k 10).bind fun t236 => (if t236 = 3 then (if t234 ≥ 0 then (if t234 ≤ 4611686018427387904 then (if (wrap64 (t235 * t235)) > t234 then (laws_FnRootClip.j0 k l0 true) else (laws_FnRootClip.j0 k l0 (decide ((wrap64 ((wrap64 (t235 + 1)) * (wrap64 (t235 + 1)))) ≤ t234)))) else (laws_FnRootClip.j0 k l0 false)) else (laws_FnRootClip.j0 k l0 false)) else (some false))) = some r := H
    have A5 := Aside0.mk A50
    clear A50
    replace H := Option.bind_eq_some_iff.mp H
    obtain ⟨t236, A60, H⟩ := H
    replace H : (if t236 = 3 then (if t234 ≥ 0 then (if t234 ≤ 4611686018427387904 then (if (wrap64 (t235 * t235)) > t234 then (laws_FnRootClip.j0 k l0 true) else (laws_FnRootClip.j0 k l0 (decide ((wrap64 ((wrap64 (t235 + 1)) * (wrap64 (t235 + 1)))) ≤ t234)))) else (laws_FnRootClip.j0 k l0 false)) else (laws_FnRootClip.j0 k l0 false)) else (some false)) = some r := H
    have A6 := Aside0.mk A60
    clear A60
    by_cases c7 : t236 = 3
    · rw [if_pos c7] at H
      have c7b0 : (t236 == 3) = true := beq_iff_eq.mpr c7
      have c7b1 : (t236 != 3) = false := bne_eq_false_iff_eq.mpr c7
      clear c7
      have HC8 := Aside0.mk H
      clear H
      go_enter Try.func5, Try.ntmps5
      go_upto_region 7 with (first | ((with_reducible refine gate_callee (f := 18) rfl ?_); refine goesL_ (some 9) rfl rfl Try.func18 (by kernel_rfl) rfl #[.slice A0 l0.length c0] rfl (by (try simp only [List.map_toArray, List.map_cons, List.map_nil]); first | done | rfl | (simp only [List.length_drop, List.length_take]; rfl)) ?_; (with_reducible refine (laws_big.calls _ _ l0 false _ ?side1 ?side2 A2.out).mono ?_); (case side1 => repeat (first | exact HR0.out | (with_reducible refine Kd.C_alloc ?_ _) | (with_reducible refine Kd.C_drewN ?_ _) | (with_reducible refine Kd.C_drew ?_))); (case side2 => exact HC0.out); rintro e w' ⟨rfl, ⟨nd, rfl⟩⟩; refine ⟨_, rfl, ?_⟩) | ((with_reducible refine gate_callee (f := 24) rfl ?_); refine goesL_ (some 11) rfl rfl Try.func24 (by kernel_rfl) rfl #[.slice A0 l0.length c0] rfl (by (try simp only [List.map_toArray, List.map_cons, List.map_nil]); first | done | rfl | (simp only [List.length_drop, List.length_take]; rfl)) ?_; (with_reducible refine (spec_DrawRoot.calls k _ _ l0 t234 _ ?side1 ?side2 A4.out).mono ?_); (case side1 => repeat (first | exact HR0.out | (with_reducible refine Kd.C_alloc ?_ _) | (with_reducible refine Kd.C_drewN ?_ _) | (with_reducible refine Kd.C_drew ?_))); (case side2 => exact HC0.out); rintro e w9 ⟨rfl, hb⟩; refine ⟨_, rfl, ?_⟩; have n0_ := Aside0.mk (below_step (by repeat (first | (with_reducible first | exact HB.out | apply below_alloc | apply pw_below_drewN | apply below_drew1) | exact HB.out)) hb); clear HB; have HB := n0_; clear n0_; (try clear hb); (try clear hb2); (try clear hk); (try clear hi)) | ((with_reducible refine gate_callee (f := 25) rfl ?_); refine goesL_ (some 13) rfl rfl Try.func25 (by kernel_rfl) rfl #[.int .i64 t234] rfl (by (try simp only [List.map_toArray, List.map_cons, List.map_nil]); first | done | rfl | (simp only [List.length_drop, List.length_take]; rfl)) ?_; (with_reducible refine (impl_Root.calls k t234 t235 _ A5.out).mono ?_); rintro e w' ⟨rfl, ⟨nd, rfl⟩⟩; refine ⟨_, rfl, ?_⟩) | ((with_reducible refine gate_callee (f := 25) rfl ?_); refine goesL_ (some 14) rfl rfl Try.func25 (by kernel_rfl) rfl #[.int .i64 10] rfl (by (try simp only [List.map_toArray, List.map_cons, List.map_nil]); first | done | rfl | (simp only [List.length_drop, List.length_take]; rfl)) ?_; (with_reducible refine (impl_Root.calls k 10 t236 _ A6.out).mono ?_); rintro e w' ⟨rfl, ⟨nd, rfl⟩⟩; refine ⟨_, rfl, ?_⟩))
      (try simp only [Act.put, List.setIfInBounds_toArray, List.set_cons_zero, List.set_cons_succ])
      go_cut [37] (fun v37 wc => ∃ (kq : Nat) (x37_7 : Bool), v37 = .bool x37_7 ∧ Aside0 (laws_FnRootClip.j0 kq l0 x37_7 = some r) ∧ Aside0 (kq ≤ k) ∧ Aside0 (Below w.heap.size w wc))
      case first =>
        have H := HC8.out
        clear HC8
        by_cases c10 : t234 ≥ 0
        · rw [if_pos c10] at H
          have c10b0 : decide (0 ≤ t234) = true := decide_eq_true c10
          clear c10
          (first | rw [c10b0] | (simp only [i64_w, i32_w]; rw [c10b0]) | skip)
          by_cases c11 : t234 ≤ 4611686018427387904
          · rw [if_pos c11] at H
            have c11b0 : decide (t234 ≤ 4611686018427387904) = true := decide_eq_true c11
            clear c11
            by_cases c12 : (wrap64 (t235 * t235)) > t234
            · rw [if_pos c12] at H
              have c12b0 : decide (t234 < (wrap64 (t235 * t235))) = true := decide_eq_true c12
              clear c12
              have H' := Aside0.mk H
              clear H
              go_wp2
              go_meet
              case rel => exact ⟨_, (true), (by first | rfl | (simp; done) | (simp [*]; done)), H', ⟨by first | omega | exact Nat.le_refl _⟩, ⟨by repeat (first | (with_reducible first | exact HB.out | apply below_alloc | apply pw_below_drewN | apply below_drew1) | exact HB.out)⟩⟩
            · rw [if_neg c12] at H
              have c12b0 : decide (t234 < (wrap64 (t235 * t235))) = false := decide_eq_false c12
              clear c12
              have H' := Aside0.mk H
              clear H
              go_wp2
              go_meet
              case rel => exact ⟨_, (decide ((wrap64 ((wrap64 (t235 + 1)) * (wrap64 (t235 + 1)))) ≤ t234)), (by first | rfl | (simp; done) | (simp [*]; done)), H', ⟨by first | omega | exact Nat.le_refl _⟩, ⟨by repeat (first | (with_reducible first | exact HB.out | apply below_alloc | apply pw_below_drewN | apply below_drew1) | exact HB.out)⟩⟩
          · rw [if_neg c11] at H
            have c11b0 : decide (t234 ≤ 4611686018427387904) = false := decide_eq_false c11
            clear c11
            have H' := Aside0.mk H
            clear H
            go_wp2
            go_meet
            case rel => exact ⟨_, (false), (by first | rfl | (simp; done) | (simp [*]; done)), H', ⟨by first | omega | exact Nat.le_refl _⟩, ⟨by repeat (first | (with_reducible first | exact HB.out | apply below_alloc | apply pw_below_drewN | apply below_drew1) | exact HB.out)⟩⟩
        · rw [if_neg c10] at H
          have c10b0 : decide (0 ≤ t234) = false := decide_eq_false c10
          clear c10
          (first | rw [c10b0] | (simp only [i64_w, i32_w]; rw [c10b0]) | skip)
          have H' := Aside0.mk H
          clear H
          go_wp2
          go_meet
          case rel => exact ⟨_, (false), (by first | rfl | (simp; done) | (simp [*]; done)), H', ⟨by first | omega | exact Nat.le_refl _⟩, ⟨by repeat (first | (with_reducible first | exact HB.out | apply below_alloc | apply pw_below_drewN | apply below_drew1) | exact HB.out)⟩⟩
      case rest =>
        clear HC8
        try clear c1
        try clear c2
        try clear p2
        try clear c3
        try clear c5
        try clear p6
        try clear c7
        try clear c7b0
        try clear c7b1
        try clear c10
        try clear c10b0
        try clear c11
        try clear c11b0
        try clear c12
        try clear c12b0
        obtain ⟨kq, x37_7, rfl, HA, HJ7, HB⟩ := hcut
        cases kq with
        | zero => exact absurd HA.out (by simp [laws_FnRootClip.j0])
        | succ kj7 =>
          have H := HA.out
          clear HA
          simp only [laws_FnRootClip.j0] at H
          by_cases c13 : x37_7 = true
          · subst c13
            have H1 : (some false) = some r := by rw [if_pos rfl] at H; exact H
            clear H
            have H := H1
            clear H1
            rw [HRT.out] at H
            exact absurd H (by simp)
          · replace c13 := Bool.eq_false_iff.mpr c13
            subst c13
            have H1 : ((spec_DrawClip.f kj7 l0).bind fun bt237 => ((impl_Clip.f kj7 bt237.1 bt237.2).bind fun t241 => ((spec_Clip.f kj7 bt237.1 bt237.2).bind fun t244 => (if (t241.length : Int) = (t244.length : Int) then (if (t241.length : Int) = 0 then (some true) else ((impl_Norm.f kj7 bt237.1).bind fun t247 => (if t247 ≤ bt237.2 then ((laws_sameInts.f kj7 t241 bt237.1).bind fun t248 => (some t248)) else ((impl_Norm.f kj7 t241).bind fun t249 => ((impl_Root.f kj7 (t241.length : Int)).bind fun t250 => (some (decide (t249 ≤ (wrap64 ((wrap64 (bt237.2 + t250)) + 1)))))))))) else (some false))))) = some r := by rw [if_neg (show ¬ (false = true) by decide)] at H; exact H
            clear H
            have H := H1
            clear H1
            replace H := Option.bind_eq_some_iff.mp H
            obtain ⟨⟨t237, t238⟩, A140, H⟩ := H
            replace H : ((impl_Clip.f kj7 t237 t238).bind fun t241 => ((spec_Clip.f kj7 t237 t238).bind fun t244 => (if (t241.length : Int) = (t244.length : Int) then (if (t241.length : Int) = 0 then (some true) else ((impl_Norm.f kj7 t237).bind fun t247 => (if t247 ≤ t238 then ((laws_sameInts.f kj7 t241 t237).bind fun t248 => (some t248)) else ((impl_Norm.f kj7 t241).bind fun t249 => ((impl_Root.f kj7 (t241.length : Int)).bind fun t250 => (some (decide (t249 ≤ (wrap64 ((wrap64 (t238 + t250)) + 1)))))))))) else (some false)))) = some r := H
            have A14 := Aside0.mk A140
            clear A140
            replace H := Option.bind_eq_some_iff.mp H
            obtain ⟨t241, A150, H⟩ := H
            replace H : ((spec_Clip.f kj7 t237 t238).bind fun t244 => (if (t241.length : Int) = (t244.length : Int) then (if (t241.length : Int) = 0 then (some true) else ((impl_Norm.f kj7 t237).bind fun t247 => (if t247 ≤ t238 then ((laws_sameInts.f kj7 t241 t237).bind fun t248 => (some t248)) else ((impl_Norm.f kj7 t241).bind fun t249 => ((impl_Root.f kj7 (t241.length : Int)).bind fun t250 => (some (decide (t249 ≤ (wrap64 ((wrap64 (t238 + t250)) + 1)))))))))) else (some false))) = some r := H
            have A15 := Aside0.mk A150
            clear A150
            replace H := Option.bind_eq_some_iff.mp H
            obtain ⟨t244, A160, H⟩ := H
            replace H : (if (t241.length : Int) = (t244.length : Int) then (if (t241.length : Int) = 0 then (some true) else ((impl_Norm.f kj7 t237).bind fun t247 => (if t247 ≤ t238 then ((laws_sameInts.f kj7 t241 t237).bind fun t248 => (some t248)) else ((impl_Norm.f kj7 t241).bind fun t249 => ((impl_Root.f kj7 (t241.length : Int)).bind fun t250 => (some (decide (t249 ≤ (wrap64 ((wrap64 (t238 + t250)) + 1)))))))))) else (some false)) = some r := H
            have A16 := Aside0.mk A160
            clear A160
            by_cases c17 : (t241.length : Int) = (t244.length : Int)
            · rw [if_pos c17] at H
              have c17b0 : ((t241.length : Int) == (t244.length : Int)) = true := beq_iff_eq.mpr c17
              have c17b1 : ((t241.length : Int) != (t244.length : Int)) = false := bne_eq_false_iff_eq.mpr c17
              have c17b2 : (t241.length == t244.length) = true := by first | simpa using c17 | (simp at c17 ⊢; omega)
              clear c17
              by_cases c18 : (t241.length : Int) = 0
              · rw [if_pos c18] at H
                have c18b0 : ((t241.length : Int) == 0) = true := beq_iff_eq.mpr c18
                have c18b1 : ((t241.length : Int) != 0) = false := bne_eq_false_iff_eq.mpr c18
                clear c18
                obtain rfl := Option.some.inj H
                go_wp2_with (first | ((with_reducible refine gate_callee (f := 26) rfl ?_); refine goesL_ (some 40) rfl rfl Try.func26 (by kernel_rfl) rfl #[.slice A0 l0.length c0] rfl (by (try simp only [List.map_toArray, List.map_cons, List.map_nil]); first | done | rfl | (simp only [List.length_drop, List.length_take]; rfl)) ?_; (with_reducible refine (spec_DrawClip.calls kj7 _ _ l0 t237 t238 _ ?side1 ?side2 A14.out).mono ?_); (case side1 => repeat (first | exact (Kd.C_below HR0.out HB.out) | (with_reducible refine Kd.C_alloc ?_ _) | (with_reducible refine Kd.C_drewN ?_ _) | (with_reducible refine Kd.C_drew ?_))); (case side2 => exact HC0.out); rintro e w19 ⟨v239, rfl, ho0, hb⟩; refine ⟨_, rfl, ?_⟩; have n0_ := Aside0.mk (Kd.R_lower ho0 (below_size (by repeat (first | (with_reducible first | exact HB.out | apply below_alloc | apply pw_below_drewN | apply below_drew1) | exact HB.out)))); have n1_ := Aside0.mk (below_step (by repeat (first | (with_reducible first | exact HB.out | apply below_alloc | apply pw_below_drewN | apply below_drew1) | exact HB.out)) hb); clear HB; have HO240 := n0_; have HB := n1_; clear n0_ n1_; (try clear hb); (try clear hb2); (try clear hk); (try clear hi); (try clear ho0); obtain ⟨Ao20, co20, eo20⟩ := Kd.R_slice HO240.out; subst eo20) | ((with_reducible refine gate_callee (f := 27) rfl ?_); refine goesL_ (some 45) rfl rfl Try.func27 (by kernel_rfl) rfl #[.slice Ao20 t237.length co20, .int .i64 t238] rfl (by (try simp only [List.map_toArray, List.map_cons, List.map_nil]); first | done | rfl | (simp only [List.length_drop, List.length_take]; rfl)) ?_; (with_reducible refine (impl_Clip.calls kj7 _ _ t237 t238 t241 _ ?side1 ?side2 A15.out).mono ?_); (case side1 => repeat (first | exact (Kd.R_reads' HO240.out).2.2 | (with_reducible refine Kd.C_alloc ?_ _) | (with_reducible refine Kd.C_drewN ?_ _) | (with_reducible refine Kd.C_drew ?_))); (case side2 => exact (Kd.R_reads' HO240.out).2.1); rintro e w21 ⟨v242, rfl, ho0, hb⟩; refine ⟨_, rfl, ?_⟩; have n0_ := Aside0.mk (Kd.R_elder' (by (with_reducible repeat (first | apply Kd.R_alloc | apply Kd.R_drewN | apply Kd.R_drew)); exact HO240.out) (Kd.R_base ho0) hb); have n1_ := Aside0.mk (Kd.R_lower (Kd.R_new' ho0 (Kd.R_lt (by (with_reducible repeat (first | apply Kd.R_alloc | apply Kd.R_drewN | apply Kd.R_drew)); exact HO240.out))) (below_size (by repeat (first | (with_reducible first | exact HB.out | apply below_alloc | apply pw_below_drewN | apply below_drew1) | exact HB.out)))); have n2_ := Aside0.mk (below_step (by repeat (first | (with_reducible first | exact HB.out | apply below_alloc | apply pw_below_drewN | apply below_drew1) | exact HB.out)) hb); clear HO240; clear HB; have HO240 := n0_; have HO243 := n1_; have HB := n2_; clear n0_ n1_ n2_; (try clear hb); (try clear hb2); (try clear hk); (try clear hi); (try clear ho0); obtain ⟨Ao22, co22, eo22⟩ := Kd.R_slice HO243.out; subst eo22) | ((with_reducible refine gate_callee (f := 28) rfl ?_); refine goesL_ (some 50) rfl rfl Try.func28 (by kernel_rfl) rfl #[.slice Ao20 t237.length co20, .int .i64 t238] rfl (by (try simp only [List.map_toArray, List.map_cons, List.map_nil]); first | done | rfl | (simp only [List.length_drop, List.length_take]; rfl)) ?_; (with_reducible refine (spec_Clip.calls kj7 _ _ t237 t238 t244 _ ?side1 ?side2 A16.out).mono ?_); (case side1 => repeat (first | exact (Kd.R_reads' HO240.out).2.2 | (with_reducible refine Kd.C_alloc ?_ _) | (with_reducible refine Kd.C_drewN ?_ _) | (with_reducible refine Kd.C_drew ?_))); (case side2 => exact (Kd.R_reads' HO240.out).2.1); rintro e w23 ⟨v245, rfl, ho0, hb⟩; refine ⟨_, rfl, ?_⟩; have n0_ := Aside0.mk (Kd.R_elder' (by (with_reducible repeat (first | apply Kd.R_alloc | apply Kd.R_drewN | apply Kd.R_drew)); exact HO240.out) (Kd.R_base ho0) hb); have n1_ := Aside0.mk (Kd.R_elder' (by (with_reducible repeat (first | apply Kd.R_alloc | apply Kd.R_drewN | apply Kd.R_drew)); exact HO243.out) (Kd.R_base ho0) hb); have n2_ := Aside0.mk (Kd.R_lower (Kd.R_new' (Kd.R_new' ho0 (Kd.R_lt (by (with_reducible repeat (first | apply Kd.R_alloc | apply Kd.R_drewN | apply Kd.R_drew)); exact HO240.out))) (Kd.R_lt (by (with_reducible repeat (first | apply Kd.R_alloc | apply Kd.R_drewN | apply Kd.R_drew)); exact HO243.out))) (below_size (by repeat (first | (with_reducible first | exact HB.out | apply below_alloc | apply pw_below_drewN | apply below_drew1) | exact HB.out)))); have n3_ := Aside0.mk (below_step (by repeat (first | (with_reducible first | exact HB.out | apply below_alloc | apply pw_below_drewN | apply below_drew1) | exact HB.out)) hb); clear HO240; clear HO243; clear HB; have HO240 := n0_; have HO243 := n1_; have HO246 := n2_; have HB := n3_; clear n0_ n1_ n2_ n3_; (try clear hb); (try clear hb2); (try clear hk); (try clear hi); (try clear ho0); obtain ⟨Ao24, co24, eo24⟩ := Kd.R_slice HO246.out; subst eo24))
                go_ret
                exact ⟨by first | rfl | (simp [errW_none, errW_some] <;> rfl) | (simp [*, errW_none, errW_some] <;> rfl), by repeat (first | (with_reducible first | exact HB.out | apply below_alloc | apply pw_below_drewN | apply below_drew1) | exact HB.out)⟩
              · rw [if_neg c18] at H
                have c18b0 : ((t241.length : Int) == 0) = false := beq_eq_false_iff_ne.mpr c18
                have c18b1 : ((t241.length : Int) != 0) = true := bne_iff_ne.mpr c18
                have c18b2 : ¬ (t241 = []) := fun h_ => c18 (by rw [h_]; rfl)
                replace H := Option.bind_eq_some_iff.mp H
                obtain ⟨t247, A250, H⟩ := H
                replace H : (if t247 ≤ t238 then ((laws_sameInts.f kj7 t241 t237).bind fun t248 => (some t248)) else ((impl_Norm.f kj7 t241).bind fun t249 => ((impl_Root.f kj7 (t241.length : Int)).bind fun t250 => (some (decide (t249 ≤ (wrap64 ((wrap64 (t238 + t250)) + 1)))))))) = some r := H
                have A25 := Aside0.mk A250
                clear A250
                by_cases c26 : t247 ≤ t238
                · rw [if_pos c26] at H
                  have c26b0 : decide (t247 ≤ t238) = true := decide_eq_true c26
                  clear c26
                  replace H := Option.bind_eq_some_iff.mp H
                  obtain ⟨t248, A270, H⟩ := H
                  replace H : (some t248) = some r := H
                  have A27 := Aside0.mk A270
                  clear A270
                  obtain rfl := Option.some.inj H
                  go_wp2_with (first | ((with_reducible refine gate_callee (f := 26) rfl ?_); refine goesL_ (some 40) rfl rfl Try.func26 (by kernel_rfl) rfl #[.slice A0 l0.length c0] rfl (by (try simp only [List.map_toArray, List.map_cons, List.map_nil]); first | done | rfl | (simp only [List.length_drop, List.length_take]; rfl)) ?_; (with_reducible refine (spec_DrawClip.calls kj7 _ _ l0 t237 t238 _ ?side1 ?side2 A14.out).mono ?_); (case side1 => repeat (first | exact (Kd.C_below HR0.out HB.out) | (with_reducible refine Kd.C_alloc ?_ _) | (with_reducible refine Kd.C_drewN ?_ _) | (with_reducible refine Kd.C_drew ?_))); (case side2 => exact HC0.out); rintro e w28 ⟨v239, rfl, ho0, hb⟩; refine ⟨_, rfl, ?_⟩; have n0_ := Aside0.mk (Kd.R_lower ho0 (below_size (by repeat (first | (with_reducible first | exact HB.out | apply below_alloc | apply pw_below_drewN | apply below_drew1) | exact HB.out)))); have n1_ := Aside0.mk (below_step (by repeat (first | (with_reducible first | exact HB.out | apply below_alloc | apply pw_below_drewN | apply below_drew1) | exact HB.out)) hb); clear HB; have HO240 := n0_; have HB := n1_; clear n0_ n1_; (try clear hb); (try clear hb2); (try clear hk); (try clear hi); (try clear ho0); obtain ⟨Ao29, co29, eo29⟩ := Kd.R_slice HO240.out; subst eo29) | ((with_reducible refine gate_callee (f := 27) rfl ?_); refine goesL_ (some 45) rfl rfl Try.func27 (by kernel_rfl) rfl #[.slice Ao29 t237.length co29, .int .i64 t238] rfl (by (try simp only [List.map_toArray, List.map_cons, List.map_nil]); first | done | rfl | (simp only [List.length_drop, List.length_take]; rfl)) ?_; (with_reducible refine (impl_Clip.calls kj7 _ _ t237 t238 t241 _ ?side1 ?side2 A15.out).mono ?_); (case side1 => repeat (first | exact (Kd.R_reads' HO240.out).2.2 | (with_reducible refine Kd.C_alloc ?_ _) | (with_reducible refine Kd.C_drewN ?_ _) | (with_reducible refine Kd.C_drew ?_))); (case side2 => exact (Kd.R_reads' HO240.out).2.1); rintro e w30 ⟨v242, rfl, ho0, hb⟩; refine ⟨_, rfl, ?_⟩; have n0_ := Aside0.mk (Kd.R_elder' (by (with_reducible repeat (first | apply Kd.R_alloc | apply Kd.R_drewN | apply Kd.R_drew)); exact HO240.out) (Kd.R_base ho0) hb); have n1_ := Aside0.mk (Kd.R_lower (Kd.R_new' ho0 (Kd.R_lt (by (with_reducible repeat (first | apply Kd.R_alloc | apply Kd.R_drewN | apply Kd.R_drew)); exact HO240.out))) (below_size (by repeat (first | (with_reducible first | exact HB.out | apply below_alloc | apply pw_below_drewN | apply below_drew1) | exact HB.out)))); have n2_ := Aside0.mk (below_step (by repeat (first | (with_reducible first | exact HB.out | apply below_alloc | apply pw_below_drewN | apply below_drew1) | exact HB.out)) hb); clear HO240; clear HB; have HO240 := n0_; have HO243 := n1_; have HB := n2_; clear n0_ n1_ n2_; (try clear hb); (try clear hb2); (try clear hk); (try clear hi); (try clear ho0); obtain ⟨Ao31, co31, eo31⟩ := Kd.R_slice HO243.out; subst eo31) | ((with_reducible refine gate_callee (f := 28) rfl ?_); refine goesL_ (some 50) rfl rfl Try.func28 (by kernel_rfl) rfl #[.slice Ao29 t237.length co29, .int .i64 t238] rfl (by (try simp only [List.map_toArray, List.map_cons, List.map_nil]); first | done | rfl | (simp only [List.length_drop, List.length_take]; rfl)) ?_; (with_reducible refine (spec_Clip.calls kj7 _ _ t237 t238 t244 _ ?side1 ?side2 A16.out).mono ?_); (case side1 => repeat (first | exact (Kd.R_reads' HO240.out).2.2 | (with_reducible refine Kd.C_alloc ?_ _) | (with_reducible refine Kd.C_drewN ?_ _) | (with_reducible refine Kd.C_drew ?_))); (case side2 => exact (Kd.R_reads' HO240.out).2.1); rintro e w32 ⟨v245, rfl, ho0, hb⟩; refine ⟨_, rfl, ?_⟩; have n0_ := Aside0.mk (Kd.R_elder' (by (with_reducible repeat (first | apply Kd.R_alloc | apply Kd.R_drewN | apply Kd.R_drew)); exact HO240.out) (Kd.R_base ho0) hb); have n1_ := Aside0.mk (Kd.R_elder' (by (with_reducible repeat (first | apply Kd.R_alloc | apply Kd.R_drewN | apply Kd.R_drew)); exact HO243.out) (Kd.R_base ho0) hb); have n2_ := Aside0.mk (Kd.R_lower (Kd.R_new' (Kd.R_new' ho0 (Kd.R_lt (by (with_reducible repeat (first | apply Kd.R_alloc | apply Kd.R_drewN | apply Kd.R_drew)); exact HO240.out))) (Kd.R_lt (by (with_reducible repeat (first | apply Kd.R_alloc | apply Kd.R_drewN | apply Kd.R_drew)); exact HO243.out))) (below_size (by repeat (first | (with_reducible first | exact HB.out | apply below_alloc | apply pw_below_drewN | apply below_drew1) | exact HB.out)))); have n3_ := Aside0.mk (below_step (by repeat (first | (with_reducible first | exact HB.out | apply below_alloc | apply pw_below_drewN | apply below_drew1) | exact HB.out)) hb); clear HO240; clear HO243; clear HB; have HO240 := n0_; have HO243 := n1_; have HO246 := n2_; have HB := n3_; clear n0_ n1_ n2_ n3_; (try clear hb); (try clear hb2); (try clear hk); (try clear hi); (try clear ho0); obtain ⟨Ao33, co33, eo33⟩ := Kd.R_slice HO246.out; subst eo33) | ((with_reducible refine gate_callee (f := 29) rfl ?_); refine goesL_ (some 57) rfl rfl Try.func29 (by kernel_rfl) rfl #[.slice Ao29 t237.length co29] rfl (by (try simp only [List.map_toArray, List.map_cons, List.map_nil]); first | done | rfl | (simp only [List.length_drop, List.length_take]; rfl)) ?_; (with_reducible refine (impl_Norm.calls kj7 _ _ t237 t247 _ ?side1 ?side2 A25.out).mono ?_); (case side1 => repeat (first | exact (Kd.R_reads' HO240.out).2.2 | (with_reducible refine Kd.C_alloc ?_ _) | (with_reducible refine Kd.C_drewN ?_ _) | (with_reducible refine Kd.C_drew ?_))); (case side2 => exact (Kd.R_reads' HO240.out).2.1); rintro e w' ⟨rfl, ⟨nd, rfl⟩⟩; refine ⟨_, rfl, ?_⟩) | ((with_reducible refine gate_callee (f := 30) rfl ?_); refine goesL_ (some 62) rfl rfl Try.func30 (by kernel_rfl) rfl #[.slice Ao31 t241.length co31, .slice Ao29 t237.length co29] rfl (by (try simp only [List.map_toArray, List.map_cons, List.map_nil]); first | done | rfl | (simp only [List.length_drop, List.length_take]; rfl)) ?_; (with_reducible refine (laws_sameInts.calls kj7 _ _ t241 _ _ t237 t248 _ ?side1 ?side2 ?side3 ?side4 A27.out).mono ?_); (case side1 => repeat (first | exact (Kd.R_reads' HO243.out).2.2 | (with_reducible refine Kd.C_alloc ?_ _) | (with_reducible refine Kd.C_drewN ?_ _) | (with_reducible refine Kd.C_drew ?_))); (case side2 => exact (Kd.R_reads' HO243.out).2.1); (case side3 => repeat (first | exact (Kd.R_reads' HO240.out).2.2 | (with_reducible refine Kd.C_alloc ?_ _) | (with_reducible refine Kd.C_drewN ?_ _) | (with_reducible refine Kd.C_drew ?_))); (case side4 => exact (Kd.R_reads' HO240.out).2.1); rintro e w' ⟨rfl, ⟨nd, rfl⟩⟩; refine ⟨_, rfl, ?_⟩))
                  go_ret
                  exact ⟨by first | rfl | (simp [errW_none, errW_some] <;> rfl) | (simp [*, errW_none, errW_some] <;> rfl), by repeat (first | (with_reducible first | exact HB.out | apply below_alloc | apply pw_below_drewN | apply below_drew1) | exact HB.out)⟩
                · rw [if_neg c26] at H
                  have c26b0 : decide (t247 ≤ t238) = false := decide_eq_false c26
                  clear c26
                  replace H := Option.bind_eq_some_iff.mp H
                  obtain ⟨t249, A340, H⟩ := H
                  replace H : ((impl_Root.f kj7 (t241.length : Int)).bind fun t250 => (some (decide (t249 ≤ (wrap64 ((wrap64 (t238 + t250)) + 1)))))) = some r := H
                  have A34 := Aside0.mk A340
                  clear A340
                  replace H := Option.bind_eq_some_iff.mp H
                  obtain ⟨t250, A350, H⟩ := H
                  replace H : (some (decide (t249 ≤ (wrap64 ((wrap64 (t238 + t250)) + 1))))) = some r := H
                  have A35 := Aside0.mk A350
                  clear A350
                  obtain rfl := Option.some.inj H
                  go_wp2_with (first | ((with_reducible refine gate_callee (f := 26) rfl ?_); refine goesL_ (some 40) rfl rfl Try.func26 (by kernel_rfl) rfl #[.slice A0 l0.length c0] rfl (by (try simp only [List.map_toArray, List.map_cons, List.map_nil]); first | done | rfl | (simp only [List.length_drop, List.length_take]; rfl)) ?_; (with_reducible refine (spec_DrawClip.calls kj7 _ _ l0 t237 t238 _ ?side1 ?side2 A14.out).mono ?_); (case side1 => repeat (first | exact (Kd.C_below HR0.out HB.out) | (with_reducible refine Kd.C_alloc ?_ _) | (with_reducible refine Kd.C_drewN ?_ _) | (with_reducible refine Kd.C_drew ?_))); (case side2 => exact HC0.out); rintro e w36 ⟨v239, rfl, ho0, hb⟩; refine ⟨_, rfl, ?_⟩; have n0_ := Aside0.mk (Kd.R_lower ho0 (below_size (by repeat (first | (with_reducible first | exact HB.out | apply below_alloc | apply pw_below_drewN | apply below_drew1) | exact HB.out)))); have n1_ := Aside0.mk (below_step (by repeat (first | (with_reducible first | exact HB.out | apply below_alloc | apply pw_below_drewN | apply below_drew1) | exact HB.out)) hb); clear HB; have HO240 := n0_; have HB := n1_; clear n0_ n1_; (try clear hb); (try clear hb2); (try clear hk); (try clear hi); (try clear ho0); obtain ⟨Ao37, co37, eo37⟩ := Kd.R_slice HO240.out; subst eo37) | ((with_reducible refine gate_callee (f := 27) rfl ?_); refine goesL_ (some 45) rfl rfl Try.func27 (by kernel_rfl) rfl #[.slice Ao37 t237.length co37, .int .i64 t238] rfl (by (try simp only [List.map_toArray, List.map_cons, List.map_nil]); first | done | rfl | (simp only [List.length_drop, List.length_take]; rfl)) ?_; (with_reducible refine (impl_Clip.calls kj7 _ _ t237 t238 t241 _ ?side1 ?side2 A15.out).mono ?_); (case side1 => repeat (first | exact (Kd.R_reads' HO240.out).2.2 | (with_reducible refine Kd.C_alloc ?_ _) | (with_reducible refine Kd.C_drewN ?_ _) | (with_reducible refine Kd.C_drew ?_))); (case side2 => exact (Kd.R_reads' HO240.out).2.1); rintro e w38 ⟨v242, rfl, ho0, hb⟩; refine ⟨_, rfl, ?_⟩; have n0_ := Aside0.mk (Kd.R_elder' (by (with_reducible repeat (first | apply Kd.R_alloc | apply Kd.R_drewN | apply Kd.R_drew)); exact HO240.out) (Kd.R_base ho0) hb); have n1_ := Aside0.mk (Kd.R_lower (Kd.R_new' ho0 (Kd.R_lt (by (with_reducible repeat (first | apply Kd.R_alloc | apply Kd.R_drewN | apply Kd.R_drew)); exact HO240.out))) (below_size (by repeat (first | (with_reducible first | exact HB.out | apply below_alloc | apply pw_below_drewN | apply below_drew1) | exact HB.out)))); have n2_ := Aside0.mk (below_step (by repeat (first | (with_reducible first | exact HB.out | apply below_alloc | apply pw_below_drewN | apply below_drew1) | exact HB.out)) hb); clear HO240; clear HB; have HO240 := n0_; have HO243 := n1_; have HB := n2_; clear n0_ n1_ n2_; (try clear hb); (try clear hb2); (try clear hk); (try clear hi); (try clear ho0); obtain ⟨Ao39, co39, eo39⟩ := Kd.R_slice HO243.out; subst eo39) | ((with_reducible refine gate_callee (f := 28) rfl ?_); refine goesL_ (some 50) rfl rfl Try.func28 (by kernel_rfl) rfl #[.slice Ao37 t237.length co37, .int .i64 t238] rfl (by (try simp only [List.map_toArray, List.map_cons, List.map_nil]); first | done | rfl | (simp only [List.length_drop, List.length_take]; rfl)) ?_; (with_reducible refine (spec_Clip.calls kj7 _ _ t237 t238 t244 _ ?side1 ?side2 A16.out).mono ?_); (case side1 => repeat (first | exact (Kd.R_reads' HO240.out).2.2 | (with_reducible refine Kd.C_alloc ?_ _) | (with_reducible refine Kd.C_drewN ?_ _) | (with_reducible refine Kd.C_drew ?_))); (case side2 => exact (Kd.R_reads' HO240.out).2.1); rintro e w40 ⟨v245, rfl, ho0, hb⟩; refine ⟨_, rfl, ?_⟩; have n0_ := Aside0.mk (Kd.R_elder' (by (with_reducible repeat (first | apply Kd.R_alloc | apply Kd.R_drewN | apply Kd.R_drew)); exact HO240.out) (Kd.R_base ho0) hb); have n1_ := Aside0.mk (Kd.R_elder' (by (with_reducible repeat (first | apply Kd.R_alloc | apply Kd.R_drewN | apply Kd.R_drew)); exact HO243.out) (Kd.R_base ho0) hb); have n2_ := Aside0.mk (Kd.R_lower (Kd.R_new' (Kd.R_new' ho0 (Kd.R_lt (by (with_reducible repeat (first | apply Kd.R_alloc | apply Kd.R_drewN | apply Kd.R_drew)); exact HO240.out))) (Kd.R_lt (by (with_reducible repeat (first | apply Kd.R_alloc | apply Kd.R_drewN | apply Kd.R_drew)); exact HO243.out))) (below_size (by repeat (first | (with_reducible first | exact HB.out | apply below_alloc | apply pw_below_drewN | apply below_drew1) | exact HB.out)))); have n3_ := Aside0.mk (below_step (by repeat (first | (with_reducible first | exact HB.out | apply below_alloc | apply pw_below_drewN | apply below_drew1) | exact HB.out)) hb); clear HO240; clear HO243; clear HB; have HO240 := n0_; have HO243 := n1_; have HO246 := n2_; have HB := n3_; clear n0_ n1_ n2_ n3_; (try clear hb); (try clear hb2); (try clear hk); (try clear hi); (try clear ho0); obtain ⟨Ao41, co41, eo41⟩ := Kd.R_slice HO246.out; subst eo41) | ((with_reducible refine gate_callee (f := 29) rfl ?_); refine goesL_ (some 57) rfl rfl Try.func29 (by kernel_rfl) rfl #[.slice Ao37 t237.length co37] rfl (by (try simp only [List.map_toArray, List.map_cons, List.map_nil]); first | done | rfl | (simp only [List.length_drop, List.length_take]; rfl)) ?_; (with_reducible refine (impl_Norm.calls kj7 _ _ t237 t247 _ ?side1 ?side2 A25.out).mono ?_); (case side1 => repeat (first | exact (Kd.R_reads' HO240.out).2.2 | (with_reducible refine Kd.C_alloc ?_ _) | (with_reducible refine Kd.C_drewN ?_ _) | (with_reducible refine Kd.C_drew ?_))); (case side2 => exact (Kd.R_reads' HO240.out).2.1); rintro e w' ⟨rfl, ⟨nd, rfl⟩⟩; refine ⟨_, rfl, ?_⟩) | ((with_reducible refine gate_callee (f := 29) rfl ?_); refine goesL_ (some 64) rfl rfl Try.func29 (by kernel_rfl) rfl #[.slice Ao39 t241.length co39] rfl (by (try simp only [List.map_toArray, List.map_cons, List.map_nil]); first | done | rfl | (simp only [List.length_drop, List.length_take]; rfl)) ?_; (with_reducible refine (impl_Norm.calls kj7 _ _ t241 t249 _ ?side1 ?side2 A34.out).mono ?_); (case side1 => repeat (first | exact (Kd.R_reads' HO243.out).2.2 | (with_reducible refine Kd.C_alloc ?_ _) | (with_reducible refine Kd.C_drewN ?_ _) | (with_reducible refine Kd.C_drew ?_))); (case side2 => exact (Kd.R_reads' HO243.out).2.1); rintro e w' ⟨rfl, ⟨nd, rfl⟩⟩; refine ⟨_, rfl, ?_⟩) | ((with_reducible refine gate_callee (f := 25) rfl ?_); refine goesL_ (some 68) rfl rfl Try.func25 (by kernel_rfl) rfl #[.int .i64 (t241.length : Int)] rfl (by (try simp only [List.map_toArray, List.map_cons, List.map_nil]); first | done | rfl | (simp only [List.length_drop, List.length_take]; rfl)) ?_; (with_reducible refine (impl_Root.calls kj7 (t241.length : Int) t250 _ A35.out).mono ?_); rintro e w' ⟨rfl, ⟨nd, rfl⟩⟩; refine ⟨_, rfl, ?_⟩))
                  go_ret
                  exact ⟨by first | rfl | (simp [errW_none, errW_some] <;> rfl) | (simp [*, errW_none, errW_some] <;> rfl), by repeat (first | (with_reducible first | exact HB.out | apply below_alloc | apply pw_below_drewN | apply below_drew1) | exact HB.out)⟩
            · rw [if_neg c17] at H
              have c17b0 : ((t241.length : Int) == (t244.length : Int)) = false := beq_eq_false_iff_ne.mpr c17
              have c17b1 : ((t241.length : Int) != (t244.length : Int)) = true := bne_iff_ne.mpr c17
              have c17b2 : (t241.length == t244.length) = false := by first | simpa using c17 | (simp at c17 ⊢; omega)
              rw [HRT.out] at H
              exact absurd H (by simp)
    · rw [if_neg c7] at H
      have c7b0 : (t236 == 3) = false := beq_eq_false_iff_ne.mpr c7
      have c7b1 : (t236 != 3) = true := bne_iff_ne.mpr c7
      rw [HRT.out] at H
      exact absurd H (by simp)

/-- THE ONE PURE STATEMENT of laws_FnRootClip: yours. -/
def laws_FnRootClip.Pure : Prop := ∀ (l0 : List Int), l0.length ≤ maxLen → l0.length * 1 ≤ 140737488351232 → (∀ x ∈ l0, (Lit.int .u8 x).wf = true) → ∃ k, laws_FnRootClip.f k l0 = some true
theorem laws_FnRootClip.walk (P : laws_FnRootClip.Pure) (a0 : Option Addr) (len0 cap0 : Nat) (z0 : List Int) (w : World) (w0 : (a0 = none ∧ len0 = 0 ∧ cap0 = 0 ∧ z0 = []) ∨ ∃ x, a0 = some x ∧ len0 ≤ cap0 ∧ cap0 ≤ maxLen ∧ z0.length = cap0 ∧ (∀ i, i < z0.length → w.cell? (x.add i) = some (.int .u8 (z0.getD i 0))) ∧ ∀ n ∈ z0, (Lit.int .u8 n).wf = true) (y0 : len0 * 1 ≤ 140737488351232) :
    Calls Try.prog 5 #[.slice a0 len0 cap0] w fun e w' => e = .returned (.bool true) ∧ Below w.heap.size w w' := by
  obtain ⟨l0, rfl, hr0, hm0, hw0, hc0⟩ := ReadsInt.ofRowC w0
  obtain ⟨k, h⟩ := P l0 hm0 y0 hw0
  refine (laws_FnRootClip.calls k _ _ l0 true w rfl (Kd.C_of_reads (d := (0 : Int)) (h1 := fun _ => rfl) hr0) hc0 h).mono ?_
  rintro e w' ⟨rfl, hd⟩
  exact ⟨rfl, hd⟩

end Go.Proofs.Ytpoblnigmfbnfab.PFnRootClip
