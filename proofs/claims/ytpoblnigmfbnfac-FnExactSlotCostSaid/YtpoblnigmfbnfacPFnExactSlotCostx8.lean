-- Printed out of the translation, hand-written contracts beside it; checked by the kernel alone.
import Derived.Test.YtpoblnigmfbnfacPFnExactSlotCostx0
import Derived.Test.YtpoblnigmfbnfacPFnExactSlotCostx1
import Derived.Test.YtpoblnigmfbnfacPFnExactSlotCostx3
import Derived.Test.YtpoblnigmfbnfacPFnExactSlotCostx6
import Derived.Test.YtpoblnigmfbnfacPFnExactSlotCostx7
namespace Go.Proofs.Ytpoblnigmfbnfac.PFnExactSlotCost
open Go.RowKit Go.Proofs.YtpoblnigmfbnfacW.PrintWords Go.Proofs.YtpoblnigmfbnfacW.PrintLast Go.Proofs.YtpoblnigmfbnfacW.PrintMore
attribute [local go_sem] max2_int min2_int max_two min_two max_three min_three max_four min_four   -- for this text's walks alone
set_option linter.unusedVariables false
set_option linter.unusedSimpArgs false

/-! ### laws_FnExactSlotCost: function 6 -/
mutual
def laws_FnExactSlotCost.j0 : Nat → List (S85) → Int → Int → Int → List Int → List (S82) → Int → List Int → Bool → Option (Bool)
  | 0, _, _, _, _, _, _, _, _, _ => none
  | k + 1, x0, x1, x2, x8, x9, x10, x11, x12, x48 => if x48 = true then (some false) else ((laws_toSlotS.f k x0).bind fun t219 => ((laws_eqSlotS.f k x10 t219).bind fun t222 => (if t222 = true then ((laws_markSlotS.f k x10 1).bind fun bt223 => (if bt223.1 < 0 then (laws_FnExactSlotCost.j1 k x0 x1 x2 x8 x9 x12 true) else (if x11 = x8 then ((laws_eqIntS.f k x12 x9).bind fun t225 => (laws_FnExactSlotCost.j1 k x0 x1 x2 x8 x9 x12 (!t225))) else (laws_FnExactSlotCost.j1 k x0 x1 x2 x8 x9 x12 true)))) else (some false))))
def laws_FnExactSlotCost.j1 : Nat → List (S85) → Int → Int → Int → List Int → List Int → Bool → Option (Bool)
  | 0, _, _, _, _, _, _, _ => none
  | k + 1, x0, x1, x2, x8, x9, x12, x69 => if x69 = true then (some false) else ((laws_markIntS.f k x12 1).bind fun bt226 => ((laws_heldIntS.f k bt226.2 1).bind fun t228 => (if t228 < 0 then (some false) else (if t228 = bt226.1 then ((laws_toSlotS.f k x0).bind fun t229 => ((impl_SlotCost.f k t229 x1 x2).bind fun bt232 => (if bt232.1 = x8 then ((laws_eqIntS.f k bt232.2 x9).bind fun t236 => (laws_FnExactSlotCost.j2 k bt226.2 bt226.1 (!t236))) else (laws_FnExactSlotCost.j2 k bt226.2 bt226.1 true)))) else (some false)))))
def laws_FnExactSlotCost.j2 : Nat → List Int → Int → Bool → Option (Bool)
  | 0, _, _, _ => none
  | k + 1, x12, x14, x97 => if x97 = true then (some false) else ((laws_heldIntS.f k x12 1).bind fun t237 => (if t237 < 0 then (some false) else (if t237 = x14 then (some true) else (some false))))
end
def laws_FnExactSlotCost.f (k : Nat) (l0 : List (S85)) (a1 : Int) (a2 : Int) : Option (Bool) := (laws_szSlotS.f l0 1048576).bind fun t203 => (if t203 < 0 then (some true) else ((laws_toSlotS.f k l0).bind fun t204 => ((spec_SlotCost.f k t204 a1 a2).bind fun bt207 => ((laws_toSlotS.f k l0).bind fun t211 => ((impl_SlotCost.f k t211 a1 a2).bind fun bt214 => (if bt214.1 = bt207.1 then ((laws_eqIntS.f k bt214.2 bt207.2).bind fun t218 => (laws_FnExactSlotCost.j0 k l0 a1 a2 bt207.1 bt207.2 t211 bt214.1 bt214.2 (!t218))) else (laws_FnExactSlotCost.j0 k l0 a1 a2 bt207.1 bt207.2 t211 bt214.1 bt214.2 true)))))))
theorem laws_FnExactSlotCost.mono_l : ∀ k, (∀ y0 y1 y2 y3 y4 y5 y6 y7 y8, LeO (laws_FnExactSlotCost.j0 k y0 y1 y2 y3 y4 y5 y6 y7 y8) (laws_FnExactSlotCost.j0 (k + 1) y0 y1 y2 y3 y4 y5 y6 y7 y8)) ∧ (∀ y0 y1 y2 y3 y4 y5 y6, LeO (laws_FnExactSlotCost.j1 k y0 y1 y2 y3 y4 y5 y6) (laws_FnExactSlotCost.j1 (k + 1) y0 y1 y2 y3 y4 y5 y6)) ∧ (∀ y0 y1 y2, LeO (laws_FnExactSlotCost.j2 k y0 y1 y2) (laws_FnExactSlotCost.j2 (k + 1) y0 y1 y2))
  | 0 => ⟨fun _ _ _ _ _ _ _ _ _ r h => by simp [laws_FnExactSlotCost.j0] at h, fun _ _ _ _ _ _ _ r h => by simp [laws_FnExactSlotCost.j1] at h, fun _ _ _ r h => by simp [laws_FnExactSlotCost.j2] at h⟩
  | k + 1 => by
    obtain ⟨ih0, ih1, ih2⟩ := laws_FnExactSlotCost.mono_l k
    refine ⟨?_, ?_, ?_⟩
    · intro y0 y1 y2 y3 y4 y5 y6 y7 y8
      unfold laws_FnExactSlotCost.j0
      repeat' first
      | (with_reducible exact ih0 _ _ _ _ _ _ _ _ _)
      | (with_reducible exact ih1 _ _ _ _ _ _ _)
      | (with_reducible exact ih2 _ _ _)
      | (with_reducible exact impl_SlotCost.mono _ _ _ _)
      | (with_reducible exact laws_eqIntS.mono _ _ _)
      | (with_reducible exact laws_eqSlotS.mono _ _ _)
      | (with_reducible exact laws_heldIntS.mono _ _ _)
      | (with_reducible exact laws_markIntS.mono _ _ _)
      | (with_reducible exact laws_markSlotS.mono _ _ _)
      | (with_reducible exact laws_toSlotS.mono _ _)
      | (with_reducible exact spec_SlotCost.mono _ _ _ _)
      | (with_reducible exact LeO.refl _)
      | (with_reducible exact LeO.none _)
      | (with_reducible refine LeO.ite ?_ ?_)
      | (with_reducible refine LeO.bind ?_ (fun _ => ?_))
      | exact ih0 _ _ _ _ _ _ _ _ _
      | exact ih1 _ _ _ _ _ _ _
      | exact ih2 _ _ _
      | exact impl_SlotCost.mono _ _ _ _
      | exact laws_eqIntS.mono _ _ _
      | exact laws_eqSlotS.mono _ _ _
      | exact laws_heldIntS.mono _ _ _
      | exact laws_markIntS.mono _ _ _
      | exact laws_markSlotS.mono _ _ _
      | exact laws_toSlotS.mono _ _
      | exact spec_SlotCost.mono _ _ _ _
      | exact LeO.none _
      | refine LeO.ite ?_ ?_
      | refine LeO.bind ?_ (fun _ => ?_)
    · intro y0 y1 y2 y3 y4 y5 y6
      unfold laws_FnExactSlotCost.j1
      repeat' first
      | (with_reducible exact ih0 _ _ _ _ _ _ _ _ _)
      | (with_reducible exact ih1 _ _ _ _ _ _ _)
      | (with_reducible exact ih2 _ _ _)
      | (with_reducible exact impl_SlotCost.mono _ _ _ _)
      | (with_reducible exact laws_eqIntS.mono _ _ _)
      | (with_reducible exact laws_eqSlotS.mono _ _ _)
      | (with_reducible exact laws_heldIntS.mono _ _ _)
      | (with_reducible exact laws_markIntS.mono _ _ _)
      | (with_reducible exact laws_markSlotS.mono _ _ _)
      | (with_reducible exact laws_toSlotS.mono _ _)
      | (with_reducible exact spec_SlotCost.mono _ _ _ _)
      | (with_reducible exact LeO.refl _)
      | (with_reducible exact LeO.none _)
      | (with_reducible refine LeO.ite ?_ ?_)
      | (with_reducible refine LeO.bind ?_ (fun _ => ?_))
      | exact ih0 _ _ _ _ _ _ _ _ _
      | exact ih1 _ _ _ _ _ _ _
      | exact ih2 _ _ _
      | exact impl_SlotCost.mono _ _ _ _
      | exact laws_eqIntS.mono _ _ _
      | exact laws_eqSlotS.mono _ _ _
      | exact laws_heldIntS.mono _ _ _
      | exact laws_markIntS.mono _ _ _
      | exact laws_markSlotS.mono _ _ _
      | exact laws_toSlotS.mono _ _
      | exact spec_SlotCost.mono _ _ _ _
      | exact LeO.none _
      | refine LeO.ite ?_ ?_
      | refine LeO.bind ?_ (fun _ => ?_)
    · intro y0 y1 y2
      unfold laws_FnExactSlotCost.j2
      repeat' first
      | (with_reducible exact ih0 _ _ _ _ _ _ _ _ _)
      | (with_reducible exact ih1 _ _ _ _ _ _ _)
      | (with_reducible exact ih2 _ _ _)
      | (with_reducible exact impl_SlotCost.mono _ _ _ _)
      | (with_reducible exact laws_eqIntS.mono _ _ _)
      | (with_reducible exact laws_eqSlotS.mono _ _ _)
      | (with_reducible exact laws_heldIntS.mono _ _ _)
      | (with_reducible exact laws_markIntS.mono _ _ _)
      | (with_reducible exact laws_markSlotS.mono _ _ _)
      | (with_reducible exact laws_toSlotS.mono _ _)
      | (with_reducible exact spec_SlotCost.mono _ _ _ _)
      | (with_reducible exact LeO.refl _)
      | (with_reducible exact LeO.none _)
      | (with_reducible refine LeO.ite ?_ ?_)
      | (with_reducible refine LeO.bind ?_ (fun _ => ?_))
      | exact ih0 _ _ _ _ _ _ _ _ _
      | exact ih1 _ _ _ _ _ _ _
      | exact ih2 _ _ _
      | exact impl_SlotCost.mono _ _ _ _
      | exact laws_eqIntS.mono _ _ _
      | exact laws_eqSlotS.mono _ _ _
      | exact laws_heldIntS.mono _ _ _
      | exact laws_markIntS.mono _ _ _
      | exact laws_markSlotS.mono _ _ _
      | exact laws_toSlotS.mono _ _
      | exact spec_SlotCost.mono _ _ _ _
      | exact LeO.none _
      | refine LeO.ite ?_ ?_
      | refine LeO.bind ?_ (fun _ => ?_)
theorem laws_FnExactSlotCost.mono : ∀ a0 a1 a2 k, LeO (laws_FnExactSlotCost.f k a0 a1 a2) (laws_FnExactSlotCost.f (k + 1) a0 a1 a2) := by
  intro a0 a1 a2 k
  obtain ⟨ih0, ih1, ih2⟩ := laws_FnExactSlotCost.mono_l k
  unfold laws_FnExactSlotCost.f
  repeat' first
      | (with_reducible exact ih0 _ _ _ _ _ _ _ _ _)
      | (with_reducible exact ih1 _ _ _ _ _ _ _)
      | (with_reducible exact ih2 _ _ _)
      | (with_reducible exact impl_SlotCost.mono _ _ _ _)
      | (with_reducible exact laws_eqIntS.mono _ _ _)
      | (with_reducible exact laws_eqSlotS.mono _ _ _)
      | (with_reducible exact laws_heldIntS.mono _ _ _)
      | (with_reducible exact laws_markIntS.mono _ _ _)
      | (with_reducible exact laws_markSlotS.mono _ _ _)
      | (with_reducible exact laws_toSlotS.mono _ _)
      | (with_reducible exact spec_SlotCost.mono _ _ _ _)
      | (with_reducible exact LeO.refl _)
      | (with_reducible exact LeO.none _)
      | (with_reducible refine LeO.ite ?_ ?_)
      | (with_reducible refine LeO.bind ?_ (fun _ => ?_))
      | exact ih0 _ _ _ _ _ _ _ _ _
      | exact ih1 _ _ _ _ _ _ _
      | exact ih2 _ _ _
      | exact impl_SlotCost.mono _ _ _ _
      | exact laws_eqIntS.mono _ _ _
      | exact laws_eqSlotS.mono _ _ _
      | exact laws_heldIntS.mono _ _ _
      | exact laws_markIntS.mono _ _ _
      | exact laws_markSlotS.mono _ _ _
      | exact laws_toSlotS.mono _ _
      | exact spec_SlotCost.mono _ _ _ _
      | exact LeO.none _
      | refine LeO.ite ?_ ?_
      | refine LeO.bind ?_ (fun _ => ?_)
set_option maxHeartbeats 8000000 in
set_option maxRecDepth 100000 in
theorem laws_FnExactSlotCost.calls (k : Nat) (A0 : Option Addr) (c0 : Nat) (l0 : List (S85)) (a1 : Int) (a2 : Int) (r : Bool) (w : World) (hrt : r = true) (hr0 : Kd.C k85 w A0 l0.length l0) (hc0 : l0.length ≤ c0) (h : laws_FnExactSlotCost.f k l0 a1 a2 = some r) :
    Calls Try.prog 6 #[.slice A0 l0.length c0, .int .i64 a1, .int .i64 a2] w fun e w' => e = .returned (.bool r) ∧ Below w.heap.size w w' := by
  have HRT := Aside0.mk hrt
  clear hrt
  have HR0 := Aside0.mk hr0
  have HC0 := Aside0.mk hc0
  clear hr0 hc0
  have HB := Aside0.mk (Below.refl w.heap.size w)
  have H : ((laws_szSlotS.f l0 1048576).bind fun t203 => (if t203 < 0 then (some true) else ((laws_toSlotS.f k l0).bind fun t204 => ((spec_SlotCost.f k t204 a1 a2).bind fun bt207 => ((laws_toSlotS.f k l0).bind fun t211 => ((impl_SlotCost.f k t211 a1 a2).bind fun bt214 => (if bt214.1 = bt207.1 then ((laws_eqIntS.f k bt214.2 bt207.2).bind fun t218 => (laws_FnExactSlotCost.j0 k l0 a1 a2 bt207.1 bt207.2 t211 bt214.1 bt214.2 (!t218))) else (laws_FnExactSlotCost.j0 k l0 a1 a2 bt207.1 bt207.2 t211 bt214.1 bt214.2 true)))))))) = some r := h
  clear h
  replace H := Option.bind_eq_some_iff.mp H
  obtain ⟨t203, A40, H⟩ := H
  replace H : (if t203 < 0 then (some true) else ((laws_toSlotS.f k l0).bind fun t204 => ((spec_SlotCost.f k t204 a1 a2).bind fun bt207 => ((laws_toSlotS.f k l0).bind fun t211 => ((impl_SlotCost.f k t211 a1 a2).bind fun bt214 => (if bt214.1 = bt207.1 then ((laws_eqIntS.f k bt214.2 bt207.2).bind fun t218 => (laws_FnExactSlotCost.j0 k l0 a1 a2 bt207.1 bt207.2 t211 bt214.1 bt214.2 (!t218))) else (laws_FnExactSlotCost.j0 k l0 a1 a2 bt207.1 bt207.2 t211 bt214.1 bt214.2 true))))))) = some r := H
  have A4 := Aside0.mk A40
  clear A40
  by_cases c5 : t203 < 0
  · rw [if_pos c5] at H
    have c5b0 : decide (t203 < 0) = true := decide_eq_true c5
    clear c5
    obtain rfl := Option.some.inj H
    go_enter Try.func6, Try.ntmps6
    go_wp2_with (first | ((with_reducible refine gate_callee (f := 31) rfl ?_); refine goesL_ (some 20) rfl rfl Try.func31 (by kernel_rfl) rfl #[.slice A0 l0.length c0, .int .i64 1048576] rfl (by (try simp only [List.map_toArray, List.map_cons, List.map_nil]); first | done | rfl | (simp only [List.length_drop, List.length_take]; rfl)) ?_; (with_reducible refine (laws_szSlotS.calls _ _ l0 1048576 t203 _ ?side1 ?side2 A4.out).mono ?_); (case side1 => repeat (first | exact HR0.out | (with_reducible refine Kd.C_alloc ?_ _) | (with_reducible refine Kd.C_drewN ?_ _) | (with_reducible refine Kd.C_drew ?_))); (case side2 => exact HC0.out); rintro e w' ⟨rfl, ⟨nd, rfl⟩⟩; refine ⟨_, rfl, ?_⟩))
    go_ret
    exact ⟨by first | rfl | (simp [errW_none, errW_some] <;> rfl) | (simp [*, errW_none, errW_some] <;> rfl), by repeat (first | (with_reducible first | exact HB.out | apply below_alloc | apply pw_below_drewN | apply below_drew1) | exact HB.out)⟩
  · rw [if_neg c5] at H
    have c5b0 : decide (t203 < 0) = false := decide_eq_false c5
    clear c5
    replace H := Option.bind_eq_some_iff.mp H
    obtain ⟨t204, A60, H⟩ := H
    replace H : ((spec_SlotCost.f k t204 a1 a2).bind fun bt207 => ((laws_toSlotS.f k l0).bind fun t211 => ((impl_SlotCost.f k t211 a1 a2).bind fun bt214 => (if bt214.1 = bt207.1 then ((laws_eqIntS.f k bt214.2 bt207.2).bind fun t218 => (laws_FnExactSlotCost.j0 k l0 a1 a2 bt207.1 bt207.2 t211 bt214.1 bt214.2 (!t218))) else (laws_FnExactSlotCost.j0 k l0 a1 a2 bt207.1 bt207.2 t211 bt214.1 bt214.2 true))))) = some r := H
    have A6 := Aside0.mk A60
    clear A60
    replace H := Option.bind_eq_some_iff.mp H
    obtain ⟨⟨t207, t208⟩, A70, H⟩ := H
    replace H : ((laws_toSlotS.f k l0).bind fun t211 => ((impl_SlotCost.f k t211 a1 a2).bind fun bt214 => (if bt214.1 = t207 then ((laws_eqIntS.f k bt214.2 t208).bind fun t218 => (laws_FnExactSlotCost.j0 k l0 a1 a2 t207 t208 t211 bt214.1 bt214.2 (!t218))) else (laws_FnExactSlotCost.j0 k l0 a1 a2 t207 t208 t211 bt214.1 bt214.2 true)))) = some r := H
    have A7 := Aside0.mk A70
    clear A70
    replace H := Option.bind_eq_some_iff.mp H
    obtain ⟨t211, A80, H⟩ := H
    replace H : ((impl_SlotCost.f k t211 a1 a2).bind fun bt214 => (if bt214.1 = t207 then ((laws_eqIntS.f k bt214.2 t208).bind fun t218 => (laws_FnExactSlotCost.j0 k l0 a1 a2 t207 t208 t211 bt214.1 bt214.2 (!t218))) else (laws_FnExactSlotCost.j0 k l0 a1 a2 t207 t208 t211 bt214.1 bt214.2 true))) = some r := H
    have A8 := Aside0.mk A80
    clear A80
    replace H := Option.bind_eq_some_iff.mp H
    obtain ⟨⟨t214, t215⟩, A90, H⟩ := H
    replace H : (if t214 = t207 then ((laws_eqIntS.f k t215 t208).bind fun t218 => (laws_FnExactSlotCost.j0 k l0 a1 a2 t207 t208 t211 t214 t215 (!t218))) else (laws_FnExactSlotCost.j0 k l0 a1 a2 t207 t208 t211 t214 t215 true)) = some r := H
    have A9 := Aside0.mk A90
    clear A90
    have HC10 := Aside0.mk H
    clear H
    go_enter Try.func6, Try.ntmps6
    go_upto_region 8 with (first | ((with_reducible refine gate_callee (f := 31) rfl ?_); refine goesL_ (some 20) rfl rfl Try.func31 (by kernel_rfl) rfl #[.slice A0 l0.length c0, .int .i64 1048576] rfl (by (try simp only [List.map_toArray, List.map_cons, List.map_nil]); first | done | rfl | (simp only [List.length_drop, List.length_take]; rfl)) ?_; (with_reducible refine (laws_szSlotS.calls _ _ l0 1048576 t203 _ ?side1 ?side2 A4.out).mono ?_); (case side1 => repeat (first | exact HR0.out | (with_reducible refine Kd.C_alloc ?_ _) | (with_reducible refine Kd.C_drewN ?_ _) | (with_reducible refine Kd.C_drew ?_))); (case side2 => exact HC0.out); rintro e w' ⟨rfl, ⟨nd, rfl⟩⟩; refine ⟨_, rfl, ?_⟩) | ((with_reducible refine gate_callee (f := 33) rfl ?_); refine goesL_ (some 25) rfl rfl Try.func33 (by kernel_rfl) rfl #[.slice A0 l0.length c0] rfl (by (try simp only [List.map_toArray, List.map_cons, List.map_nil]); first | done | rfl | (simp only [List.length_drop, List.length_take]; rfl)) ?_; (with_reducible refine (laws_toSlotS.calls k _ _ l0 t204 _ ?side1 ?side2 A6.out).mono ?_); (case side1 => repeat (first | exact HR0.out | (with_reducible refine Kd.C_alloc ?_ _) | (with_reducible refine Kd.C_drewN ?_ _) | (with_reducible refine Kd.C_drew ?_))); (case side2 => exact HC0.out); rintro e w11 ⟨v205, rfl, ho0, hb⟩; refine ⟨_, rfl, ?_⟩; have n0_ := Aside0.mk (Kd.R_lower ho0 (below_size (by repeat (first | (with_reducible first | exact HB.out | apply below_alloc | apply pw_below_drewN | apply below_drew1) | exact HB.out)))); have n1_ := Aside0.mk (below_step (by repeat (first | (with_reducible first | exact HB.out | apply below_alloc | apply pw_below_drewN | apply below_drew1) | exact HB.out)) hb); clear HB; have HO206 := n0_; have HB := n1_; clear n0_ n1_; (try clear hb); (try clear hb2); (try clear hk); (try clear hi); (try clear ho0); obtain ⟨Ao12, co12, eo12⟩ := Kd.R_slice HO206.out; subst eo12) | ((with_reducible refine gate_callee (f := 32) rfl ?_); refine goesL_ (some 28) rfl rfl Try.func32 (by kernel_rfl) rfl #[.slice Ao12 t204.length co12, .int .i64 a1, .int .i64 a2] rfl (by (try simp only [List.map_toArray, List.map_cons, List.map_nil]); first | done | rfl | (simp only [List.length_drop, List.length_take]; rfl)) ?_; (with_reducible refine (spec_SlotCost.calls k _ _ t204 a1 a2 t207 t208 _ ?side1 ?side2 A7.out).mono ?_); (case side1 => repeat (first | exact (Kd.R_reads' HO206.out).2.2 | (with_reducible refine Kd.C_alloc ?_ _) | (with_reducible refine Kd.C_drewN ?_ _) | (with_reducible refine Kd.C_drew ?_))); (case side2 => exact (Kd.R_reads' HO206.out).2.1); rintro e w13 ⟨v209, rfl, ho0, hb⟩; refine ⟨_, rfl, ?_⟩; have n0_ := Aside0.mk (Kd.R_below (by (with_reducible repeat (first | apply Kd.R_alloc | apply Kd.R_drewN | apply Kd.R_drew)); exact HO206.out) hb); have n1_ := Aside0.mk (Kd.R_lower ho0 (below_size (by repeat (first | (with_reducible first | exact HB.out | apply below_alloc | apply pw_below_drewN | apply below_drew1) | exact HB.out)))); have n2_ := Aside0.mk (below_step (by repeat (first | (with_reducible first | exact HB.out | apply below_alloc | apply pw_below_drewN | apply below_drew1) | exact HB.out)) hb); clear HO206; clear HB; have HO206 := n0_; have HO210 := n1_; have HB := n2_; clear n0_ n1_ n2_; (try clear hb); (try clear hb2); (try clear hk); (try clear hi); (try clear ho0)) | ((with_reducible refine gate_callee (f := 33) rfl ?_); refine goesL_ (some 32) rfl rfl Try.func33 (by kernel_rfl) rfl #[.slice A0 l0.length c0] rfl (by (try simp only [List.map_toArray, List.map_cons, List.map_nil]); first | done | rfl | (simp only [List.length_drop, List.length_take]; rfl)) ?_; (with_reducible refine (laws_toSlotS.calls k _ _ l0 t211 _ ?side1 ?side2 A8.out).mono ?_); (case side1 => repeat (first | exact (Kd.C_below HR0.out HB.out) | (with_reducible refine Kd.C_alloc ?_ _) | (with_reducible refine Kd.C_drewN ?_ _) | (with_reducible refine Kd.C_drew ?_))); (case side2 => exact HC0.out); rintro e w14 ⟨v212, rfl, ho0, hb⟩; refine ⟨_, rfl, ?_⟩; have n0_ := Aside0.mk (Kd.R_elder' (by (with_reducible repeat (first | apply Kd.R_alloc | apply Kd.R_drewN | apply Kd.R_drew)); exact HO206.out) (Kd.R_base ho0) hb); have n1_ := Aside0.mk (Kd.R_below (by (with_reducible repeat (first | apply Kd.R_alloc | apply Kd.R_drewN | apply Kd.R_drew)); exact HO210.out) hb); have n2_ := Aside0.mk (Kd.R_lower (Kd.R_new' ho0 (Kd.R_lt (by (with_reducible repeat (first | apply Kd.R_alloc | apply Kd.R_drewN | apply Kd.R_drew)); exact HO206.out))) (below_size (by repeat (first | (with_reducible first | exact HB.out | apply below_alloc | apply pw_below_drewN | apply below_drew1) | exact HB.out)))); have n3_ := Aside0.mk (below_step (by repeat (first | (with_reducible first | exact HB.out | apply below_alloc | apply pw_below_drewN | apply below_drew1) | exact HB.out)) hb); clear HO206; clear HO210; clear HB; have HO206 := n0_; have HO210 := n1_; have HO213 := n2_; have HB := n3_; clear n0_ n1_ n2_ n3_; (try clear hb); (try clear hb2); (try clear hk); (try clear hi); (try clear ho0); obtain ⟨Ao15, co15, eo15⟩ := Kd.R_slice HO213.out; subst eo15) | ((with_reducible refine gate_callee (f := 34) rfl ?_); refine goesL_ (some 37) rfl rfl Try.func34 (by kernel_rfl) rfl #[.slice Ao15 t211.length co15, .int .i64 a1, .int .i64 a2] rfl (by (try simp only [List.map_toArray, List.map_cons, List.map_nil]); first | done | rfl | (simp only [List.length_drop, List.length_take]; rfl)) ?_; (with_reducible refine (impl_SlotCost.calls k _ _ t211 a1 a2 t214 t215 _ ?side1 ?side2 A9.out).mono ?_); (case side1 => repeat (first | exact (Kd.R_reads' HO213.out).2.2 | (with_reducible refine Kd.C_alloc ?_ _) | (with_reducible refine Kd.C_drewN ?_ _) | (with_reducible refine Kd.C_drew ?_))); (case side2 => exact (Kd.R_reads' HO213.out).2.1); rintro e w16 ⟨v216, rfl, ho0, hb⟩; refine ⟨_, rfl, ?_⟩; have n0_ := Aside0.mk (Kd.R_below (by (with_reducible repeat (first | apply Kd.R_alloc | apply Kd.R_drewN | apply Kd.R_drew)); exact HO206.out) hb); have n1_ := Aside0.mk (Kd.R_elder' (by (with_reducible repeat (first | apply Kd.R_alloc | apply Kd.R_drewN | apply Kd.R_drew)); exact HO210.out) (Kd.R_base ho0) hb); have n2_ := Aside0.mk (Kd.R_below (by (with_reducible repeat (first | apply Kd.R_alloc | apply Kd.R_drewN | apply Kd.R_drew)); exact HO213.out) hb); have n3_ := Aside0.mk (Kd.R_lower (Kd.R_new' ho0 (Kd.R_lt (by (with_reducible repeat (first | apply Kd.R_alloc | apply Kd.R_drewN | apply Kd.R_drew)); exact HO210.out))) (below_size (by repeat (first | (with_reducible first | exact HB.out | apply below_alloc | apply pw_below_drewN | apply below_drew1) | exact HB.out)))); have n4_ := Aside0.mk (below_step (by repeat (first | (with_reducible first | exact HB.out | apply below_alloc | apply pw_below_drewN | apply below_drew1) | exact HB.out)) hb); clear HO206; clear HO210; clear HO213; clear HB; have HO206 := n0_; have HO210 := n1_; have HO213 := n2_; have HO217 := n3_; have HB := n4_; clear n0_ n1_ n2_ n3_ n4_; (try clear hb); (try clear hb2); (try clear hk); (try clear hi); (try clear ho0)))
    (try simp only [Act.put, List.setIfInBounds_toArray, List.set_cons_zero, List.set_cons_succ])
    go_cut [48] (fun v48 wc => ∃ (kq : Nat) (x48_9 : Bool), v48 = .bool x48_9 ∧ Aside0 (laws_FnExactSlotCost.j0 kq l0 a1 a2 t207 t208 t211 t214 t215 x48_9 = some r) ∧ Aside0 (kq ≤ k) ∧ Aside0 (Kd.R (Kd.int .i64) 3 wc w.heap.size (fun k_ => some k_ ≠ (v216 : Value).ownBlock) v209 t208) ∧ Aside0 (Kd.R k82 82 wc w.heap.size (fun _ => True) (.slice Ao15 t211.length co15) t211) ∧ Aside0 (Kd.R (Kd.int .i64) 3 wc w.heap.size (fun k_ => some k_ ≠ (v209 : Value).ownBlock) v216 t215) ∧ Aside0 (Below w.heap.size w wc))
    case first =>
      have H := HC10.out
      clear HC10
      by_cases c17 : t214 = t207
      · rw [if_pos c17] at H
        have c17b0 : (t214 == t207) = true := beq_iff_eq.mpr c17
        have c17b1 : (t214 != t207) = false := bne_eq_false_iff_eq.mpr c17
        clear c17
        (first | rw [c17b0] | (simp only [i64_w, i32_w]; rw [c17b0]) | skip)
        replace H := Option.bind_eq_some_iff.mp H
        obtain ⟨t218, A180, H⟩ := H
        replace H : (laws_FnExactSlotCost.j0 k l0 a1 a2 t207 t208 t211 t214 t215 (!t218)) = some r := H
        have A18 := Aside0.mk A180
        clear A180
        have H' := Aside0.mk H
        clear H
        obtain ⟨Ao19, co19, eo19⟩ := Kd.R_slice HO217.out
        subst eo19
        obtain ⟨Ao20, co20, eo20⟩ := Kd.R_slice HO210.out
        subst eo20
        go_wp2_with (first | (go_at_call 15; (with_reducible refine (laws_eqIntS.calls k _ _ t215 _ _ t208 t218 _ ?side1 ?side2 ?side3 ?side4 A18.out).mono ?_); (case side1 => repeat (first | exact (Kd.R_reads' HO217.out).2.2 | (with_reducible refine Kd.C_alloc ?_ _) | (with_reducible refine Kd.C_drewN ?_ _) | (with_reducible refine Kd.C_drew ?_))); (case side2 => exact (Kd.R_reads' HO217.out).2.1); (case side3 => repeat (first | exact (Kd.R_reads' HO210.out).2.2 | (with_reducible refine Kd.C_alloc ?_ _) | (with_reducible refine Kd.C_drewN ?_ _) | (with_reducible refine Kd.C_drew ?_))); (case side4 => exact (Kd.R_reads' HO210.out).2.1); rintro e w' ⟨rfl, ⟨nd, rfl⟩⟩))
        go_meet
        case rel => exact ⟨_, (!t218), (by first | rfl | (simp; done) | (simp [*]; done)), H', ⟨by first | omega | exact Nat.le_refl _⟩, ⟨by (with_reducible repeat (first | apply Kd.R_alloc | apply Kd.R_drewN | apply Kd.R_drew)); exact Kd.R_mono HO210.out (fun _ hk => hk.2)⟩, ⟨by (with_reducible repeat (first | apply Kd.R_alloc | apply Kd.R_drewN | apply Kd.R_drew)); exact Kd.R_mono HO213.out (fun _ hk => trivial)⟩, ⟨by (with_reducible repeat (first | apply Kd.R_alloc | apply Kd.R_drewN | apply Kd.R_drew)); exact Kd.R_mono HO217.out (fun _ hk => hk.2)⟩, ⟨by repeat (first | (with_reducible first | exact HB.out | apply below_alloc | apply pw_below_drewN | apply below_drew1) | exact HB.out)⟩⟩
      · rw [if_neg c17] at H
        have c17b0 : (t214 == t207) = false := beq_eq_false_iff_ne.mpr c17
        have c17b1 : (t214 != t207) = true := bne_iff_ne.mpr c17
        (first | rw [c17b0] | (simp only [i64_w, i32_w]; rw [c17b0]) | skip)
        have H' := Aside0.mk H
        clear H
        go_wp2
        go_meet
        case rel => exact ⟨_, (true), (by first | rfl | (simp; done) | (simp [*]; done)), H', ⟨by first | omega | exact Nat.le_refl _⟩, ⟨by (with_reducible repeat (first | apply Kd.R_alloc | apply Kd.R_drewN | apply Kd.R_drew)); exact Kd.R_mono HO210.out (fun _ hk => hk.2)⟩, ⟨by (with_reducible repeat (first | apply Kd.R_alloc | apply Kd.R_drewN | apply Kd.R_drew)); exact Kd.R_mono HO213.out (fun _ hk => trivial)⟩, ⟨by (with_reducible repeat (first | apply Kd.R_alloc | apply Kd.R_drewN | apply Kd.R_drew)); exact Kd.R_mono HO217.out (fun _ hk => hk.2)⟩, ⟨by repeat (first | (with_reducible first | exact HB.out | apply below_alloc | apply pw_below_drewN | apply below_drew1) | exact HB.out)⟩⟩
    case rest =>
      clear HC10
      try clear c1
      try clear p2
      try clear c3
      try clear c5
      try clear c5b0
      try clear c6
      try clear c17
      try clear c17b0
      try clear c17b1
      obtain ⟨kq, x48_9, rfl, HA, HJ9, HO_9, HO_10, HO_12, HB⟩ := hcut
      cases kq with
      | zero => exact absurd HA.out (by simp [laws_FnExactSlotCost.j0])
      | succ kj9 =>
        have H := HA.out
        clear HA
        simp only [laws_FnExactSlotCost.j0] at H
        by_cases c21 : x48_9 = true
        · subst c21
          have H1 : (some false) = some r := by rw [if_pos rfl] at H; exact H
          clear H
          have H := H1
          clear H1
          rw [HRT.out] at H
          exact absurd H (by simp)
        · replace c21 := Bool.eq_false_iff.mpr c21
          subst c21
          have H1 : ((laws_toSlotS.f kj9 l0).bind fun t219 => ((laws_eqSlotS.f kj9 t211 t219).bind fun t222 => (if t222 = true then ((laws_markSlotS.f kj9 t211 1).bind fun bt223 => (if bt223.1 < 0 then (laws_FnExactSlotCost.j1 kj9 l0 a1 a2 t207 t208 t215 true) else (if t214 = t207 then ((laws_eqIntS.f kj9 t215 t208).bind fun t225 => (laws_FnExactSlotCost.j1 kj9 l0 a1 a2 t207 t208 t215 (!t225))) else (laws_FnExactSlotCost.j1 kj9 l0 a1 a2 t207 t208 t215 true)))) else (some false)))) = some r := by rw [if_neg (show ¬ (false = true) by decide)] at H; exact H
          clear H
          have H := H1
          clear H1
          replace H := Option.bind_eq_some_iff.mp H
          obtain ⟨t219, A220, H⟩ := H
          replace H : ((laws_eqSlotS.f kj9 t211 t219).bind fun t222 => (if t222 = true then ((laws_markSlotS.f kj9 t211 1).bind fun bt223 => (if bt223.1 < 0 then (laws_FnExactSlotCost.j1 kj9 l0 a1 a2 t207 t208 t215 true) else (if t214 = t207 then ((laws_eqIntS.f kj9 t215 t208).bind fun t225 => (laws_FnExactSlotCost.j1 kj9 l0 a1 a2 t207 t208 t215 (!t225))) else (laws_FnExactSlotCost.j1 kj9 l0 a1 a2 t207 t208 t215 true)))) else (some false))) = some r := H
          have A22 := Aside0.mk A220
          clear A220
          replace H := Option.bind_eq_some_iff.mp H
          obtain ⟨t222, A230, H⟩ := H
          replace H : (if t222 = true then ((laws_markSlotS.f kj9 t211 1).bind fun bt223 => (if bt223.1 < 0 then (laws_FnExactSlotCost.j1 kj9 l0 a1 a2 t207 t208 t215 true) else (if t214 = t207 then ((laws_eqIntS.f kj9 t215 t208).bind fun t225 => (laws_FnExactSlotCost.j1 kj9 l0 a1 a2 t207 t208 t215 (!t225))) else (laws_FnExactSlotCost.j1 kj9 l0 a1 a2 t207 t208 t215 true)))) else (some false)) = some r := H
          have A23 := Aside0.mk A230
          clear A230
          by_cases c24 : t222 = true
          · subst c24
            have H1 : ((laws_markSlotS.f kj9 t211 1).bind fun bt223 => (if bt223.1 < 0 then (laws_FnExactSlotCost.j1 kj9 l0 a1 a2 t207 t208 t215 true) else (if t214 = t207 then ((laws_eqIntS.f kj9 t215 t208).bind fun t225 => (laws_FnExactSlotCost.j1 kj9 l0 a1 a2 t207 t208 t215 (!t225))) else (laws_FnExactSlotCost.j1 kj9 l0 a1 a2 t207 t208 t215 true)))) = some r := by rw [if_pos rfl] at H; exact H
            clear H
            have H := H1
            clear H1
            replace H := Option.bind_eq_some_iff.mp H
            obtain ⟨⟨t223, t224⟩, A250, H⟩ := H
            replace H : (if t223 < 0 then (laws_FnExactSlotCost.j1 kj9 l0 a1 a2 t207 t208 t215 true) else (if t214 = t207 then ((laws_eqIntS.f kj9 t215 t208).bind fun t225 => (laws_FnExactSlotCost.j1 kj9 l0 a1 a2 t207 t208 t215 (!t225))) else (laws_FnExactSlotCost.j1 kj9 l0 a1 a2 t207 t208 t215 true))) = some r := H
            have A25 := Aside0.mk A250
            clear A250
            have HC26 := Aside0.mk H
            clear H
            go_upto_region 14 with (first | ((with_reducible refine gate_callee (f := 33) rfl ?_); refine goesL_ (some 51) rfl rfl Try.func33 (by kernel_rfl) rfl #[.slice A0 l0.length c0] rfl (by (try simp only [List.map_toArray, List.map_cons, List.map_nil]); first | done | rfl | (simp only [List.length_drop, List.length_take]; rfl)) ?_; (with_reducible refine (laws_toSlotS.calls kj9 _ _ l0 t219 _ ?side1 ?side2 A22.out).mono ?_); (case side1 => repeat (first | exact (Kd.C_below HR0.out HB.out) | (with_reducible refine Kd.C_alloc ?_ _) | (with_reducible refine Kd.C_drewN ?_ _) | (with_reducible refine Kd.C_drew ?_))); (case side2 => exact HC0.out); rintro e w27 ⟨v220, rfl, ho0, hb⟩; refine ⟨_, rfl, ?_⟩; have n0_ := Aside0.mk (Kd.R_below (by (with_reducible repeat (first | apply Kd.R_alloc | apply Kd.R_drewN | apply Kd.R_drew)); exact HO_9.out) hb); have n1_ := Aside0.mk (Kd.R_elder' (by (with_reducible repeat (first | apply Kd.R_alloc | apply Kd.R_drewN | apply Kd.R_drew)); exact HO_10.out) (Kd.R_base ho0) hb); have n2_ := Aside0.mk (Kd.R_below (by (with_reducible repeat (first | apply Kd.R_alloc | apply Kd.R_drewN | apply Kd.R_drew)); exact HO_12.out) hb); have n3_ := Aside0.mk (Kd.R_lower (Kd.R_new' ho0 (Kd.R_lt (by (with_reducible repeat (first | apply Kd.R_alloc | apply Kd.R_drewN | apply Kd.R_drew)); exact HO_10.out))) (below_size (by repeat (first | (with_reducible first | exact HB.out | apply below_alloc | apply pw_below_drewN | apply below_drew1) | exact HB.out)))); have n4_ := Aside0.mk (below_step (by repeat (first | (with_reducible first | exact HB.out | apply below_alloc | apply pw_below_drewN | apply below_drew1) | exact HB.out)) hb); clear HO_9; clear HO_10; clear HO_12; clear HB; have HO_9 := n0_; have HO_10 := n1_; have HO_12 := n2_; have HO221 := n3_; have HB := n4_; clear n0_ n1_ n2_ n3_ n4_; (try clear hb); (try clear hb2); (try clear hk); (try clear hi); (try clear ho0); obtain ⟨Ao28, co28, eo28⟩ := Kd.R_slice HO221.out; subst eo28) | ((with_reducible refine gate_callee (f := 35) rfl ?_); refine goesL_ (some 52) rfl rfl Try.func35 (by kernel_rfl) rfl #[.slice Ao15 t211.length co15, .slice Ao28 t219.length co28] rfl (by (try simp only [List.map_toArray, List.map_cons, List.map_nil]); first | done | rfl | (simp only [List.length_drop, List.length_take]; rfl)) ?_; (with_reducible refine (laws_eqSlotS.calls kj9 _ _ t211 _ _ t219 true _ ?side1 ?side2 ?side3 ?side4 A23.out).mono ?_); (case side1 => repeat (first | exact (Kd.R_reads' HO_10.out).2.2 | (with_reducible refine Kd.C_alloc ?_ _) | (with_reducible refine Kd.C_drewN ?_ _) | (with_reducible refine Kd.C_drew ?_))); (case side2 => exact (Kd.R_reads' HO_10.out).2.1); (case side3 => repeat (first | exact (Kd.R_reads' HO221.out).2.2 | (with_reducible refine Kd.C_alloc ?_ _) | (with_reducible refine Kd.C_drewN ?_ _) | (with_reducible refine Kd.C_drew ?_))); (case side4 => exact (Kd.R_reads' HO221.out).2.1); rintro e w29 ⟨rfl, hb⟩; refine ⟨_, rfl, ?_⟩; have n0_ := Aside0.mk (Kd.R_below (by (with_reducible repeat (first | apply Kd.R_alloc | apply Kd.R_drewN | apply Kd.R_drew)); exact HO_9.out) hb); have n1_ := Aside0.mk (Kd.R_below (by (with_reducible repeat (first | apply Kd.R_alloc | apply Kd.R_drewN | apply Kd.R_drew)); exact HO_10.out) hb); have n2_ := Aside0.mk (Kd.R_below (by (with_reducible repeat (first | apply Kd.R_alloc | apply Kd.R_drewN | apply Kd.R_drew)); exact HO_12.out) hb); have n3_ := Aside0.mk (Kd.R_below (by (with_reducible repeat (first | apply Kd.R_alloc | apply Kd.R_drewN | apply Kd.R_drew)); exact HO221.out) hb); have n4_ := Aside0.mk (below_step (by repeat (first | (with_reducible first | exact HB.out | apply below_alloc | apply pw_below_drewN | apply below_drew1) | exact HB.out)) hb); clear HO_9; clear HO_10; clear HO_12; clear HO221; clear HB; have HO_9 := n0_; have HO_10 := n1_; have HO_12 := n2_; have HO221 := n3_; have HB := n4_; clear n0_ n1_ n2_ n3_ n4_; (try clear hb); (try clear hb2); (try clear hk); (try clear hi)) | ((with_reducible refine gate_callee (f := 36) rfl ?_); refine goesL_ (some 56) rfl rfl Try.func36 (by kernel_rfl) rfl #[.slice Ao15 t211.length co15, .int .i64 1] rfl (by (try simp only [List.map_toArray, List.map_cons, List.map_nil]); first | done | rfl | (simp only [List.length_drop, List.length_take]; rfl)) ?_; (with_reducible refine (laws_markSlotS.calls kj9 (fun k_ => some k_ = (.slice Ao15 t211.length co15 : Value).ownBlock) (.slice Ao15 t211.length co15) t211 1 t223 t224 w _ ?side1 ?side2 A25.out).mono ?_); (case side1 => repeat (first | (with_reducible first | exact HB.out | apply below_alloc | apply pw_below_drewN | apply below_drew1) | exact HB.out)); (case side2 => exact Kd.R_tight rfl HO_10.out); rintro e w30 ⟨rfl, hy0, hb, hkp⟩; refine ⟨_, rfl, ?_⟩; have n0_ := Aside0.mk (Kd.R_mono (ok' := fun k_ => some k_ ≠ (v216 : Value).ownBlock) (Kd.R_keptB ((Kd.R_apart' HO_9.out (Kd.R_typed HO_10.out) (by decide))) hkp (fun k_ hk_ hs_ => (hk_.2) hs_)) (fun k_ hk_ => hk_.1.1)); have n1_ := Aside0.mk (Kd.R_reok rfl hy0 (fun k_ e_ => HO_10.out.1 k_ e_)); have n2_ := Aside0.mk (Kd.R_mono (ok' := fun k_ => some k_ ≠ (v209 : Value).ownBlock) (Kd.R_keptB ((Kd.R_apart' HO_12.out (Kd.R_typed HO_10.out) (by decide))) hkp (fun k_ hk_ hs_ => (hk_.2) hs_)) (fun k_ hk_ => hk_.1.1)); have n3_ := Aside0.mk (Kd.R_mono (ok' := fun k_ => some k_ ≠ (.slice Ao15 t211.length co15 : Value).ownBlock) (Kd.R_keptB (HO221.out) hkp (fun k_ hk_ hs_ => (hk_.2) hs_)) (fun k_ hk_ => hk_.1.2)); have n4_ := Aside0.mk (hb); clear HO_9; clear HO_10; clear HO_12; clear HO221; clear HB; have HO_9 := n0_; have HO_10 := n1_; have HO_12 := n2_; have HO221 := n3_; have HB := n4_; clear n0_ n1_ n2_ n3_ n4_; (try clear hb); (try clear hkp); (try clear hy0)))
            (try simp only [Act.put, List.setIfInBounds_toArray, List.set_cons_zero, List.set_cons_succ])
            go_cut [69] (fun v69 wc => ∃ (kq : Nat) (x69_25 : Bool), v69 = .bool x69_25 ∧ Aside0 (laws_FnExactSlotCost.j1 kq l0 a1 a2 t207 t208 t215 x69_25 = some r) ∧ Aside0 (kq ≤ kj9) ∧ Aside0 (Kd.R (Kd.int .i64) 3 wc w.heap.size (fun k_ => some k_ ≠ (v216 : Value).ownBlock) v209 t208) ∧ Aside0 (Kd.R (Kd.int .i64) 3 wc w.heap.size (fun k_ => some k_ ≠ (v209 : Value).ownBlock) v216 t215) ∧ Aside0 (Below w.heap.size w wc))
            case first =>
              have H := HC26.out
              clear HC26
              by_cases c31 : t223 < 0
              · rw [if_pos c31] at H
                have c31b0 : decide (t223 < 0) = true := decide_eq_true c31
                clear c31
                (first | rw [c31b0] | (simp only [i64_w, i32_w]; rw [c31b0]) | skip)
                have H' := Aside0.mk H
                clear H
                go_wp2
                go_meet
                case rel => exact ⟨_, (true), (by first | rfl | (simp; done) | (simp [*]; done)), H', ⟨by have := HJ9.out; first | omega | exact Nat.le_refl _⟩, ⟨by (with_reducible repeat (first | apply Kd.R_alloc | apply Kd.R_drewN | apply Kd.R_drew)); exact HO_9.out⟩, ⟨by (with_reducible repeat (first | apply Kd.R_alloc | apply Kd.R_drewN | apply Kd.R_drew)); exact HO_12.out⟩, ⟨by repeat (first | (with_reducible first | exact HB.out | apply below_alloc | apply pw_below_drewN | apply below_drew1) | exact HB.out)⟩⟩
              · rw [if_neg c31] at H
                have c31b0 : decide (t223 < 0) = false := decide_eq_false c31
                clear c31
                (first | rw [c31b0] | (simp only [i64_w, i32_w]; rw [c31b0]) | skip)
                by_cases c32 : t214 = t207
                · rw [if_pos c32] at H
                  have c32b0 : (t214 == t207) = true := beq_iff_eq.mpr c32
                  have c32b1 : (t214 != t207) = false := bne_eq_false_iff_eq.mpr c32
                  clear c32
                  replace H := Option.bind_eq_some_iff.mp H
                  obtain ⟨t225, A330, H⟩ := H
                  replace H : (laws_FnExactSlotCost.j1 kj9 l0 a1 a2 t207 t208 t215 (!t225)) = some r := H
                  have A33 := Aside0.mk A330
                  clear A330
                  have H' := Aside0.mk H
                  clear H
                  obtain ⟨Ao34, co34, eo34⟩ := Kd.R_slice HO_12.out
                  subst eo34
                  obtain ⟨Ao35, co35, eo35⟩ := Kd.R_slice HO_9.out
                  subst eo35
                  go_wp2_with (first | (go_at_call 15; (with_reducible refine (laws_eqIntS.calls kj9 _ _ t215 _ _ t208 t225 _ ?side1 ?side2 ?side3 ?side4 A33.out).mono ?_); (case side1 => repeat (first | exact (Kd.R_reads' HO_12.out).2.2 | (with_reducible refine Kd.C_alloc ?_ _) | (with_reducible refine Kd.C_drewN ?_ _) | (with_reducible refine Kd.C_drew ?_))); (case side2 => exact (Kd.R_reads' HO_12.out).2.1); (case side3 => repeat (first | exact (Kd.R_reads' HO_9.out).2.2 | (with_reducible refine Kd.C_alloc ?_ _) | (with_reducible refine Kd.C_drewN ?_ _) | (with_reducible refine Kd.C_drew ?_))); (case side4 => exact (Kd.R_reads' HO_9.out).2.1); rintro e w' ⟨rfl, ⟨nd, rfl⟩⟩))
                  go_meet
                  case rel => exact ⟨_, (!t225), (by first | rfl | (simp; done) | (simp [*]; done)), H', ⟨by have := HJ9.out; first | omega | exact Nat.le_refl _⟩, ⟨by (with_reducible repeat (first | apply Kd.R_alloc | apply Kd.R_drewN | apply Kd.R_drew)); exact HO_9.out⟩, ⟨by (with_reducible repeat (first | apply Kd.R_alloc | apply Kd.R_drewN | apply Kd.R_drew)); exact HO_12.out⟩, ⟨by repeat (first | (with_reducible first | exact HB.out | apply below_alloc | apply pw_below_drewN | apply below_drew1) | exact HB.out)⟩⟩
                · rw [if_neg c32] at H
                  have c32b0 : (t214 == t207) = false := beq_eq_false_iff_ne.mpr c32
                  have c32b1 : (t214 != t207) = true := bne_iff_ne.mpr c32
                  have H' := Aside0.mk H
                  clear H
                  go_wp2
                  go_meet
                  case rel => exact ⟨_, (true), (by first | rfl | (simp; done) | (simp [*]; done)), H', ⟨by have := HJ9.out; first | omega | exact Nat.le_refl _⟩, ⟨by (with_reducible repeat (first | apply Kd.R_alloc | apply Kd.R_drewN | apply Kd.R_drew)); exact HO_9.out⟩, ⟨by (with_reducible repeat (first | apply Kd.R_alloc | apply Kd.R_drewN | apply Kd.R_drew)); exact HO_12.out⟩, ⟨by repeat (first | (with_reducible first | exact HB.out | apply below_alloc | apply pw_below_drewN | apply below_drew1) | exact HB.out)⟩⟩
            case rest =>
              clear HC26
              try clear c1
              try clear c2
              try clear p2
              try clear c3
              try clear c5
              try clear c5b0
              try clear c6
              try clear c17
              try clear c17b0
              try clear c17b1
              try clear c21
              try clear c24
              try clear c31
              try clear c31b0
              try clear c32
              try clear c32b0
              try clear c32b1
              try clear c33
              try clear c34
              try clear c35
              try clear p2
              obtain ⟨kq, x69_25, rfl, HA, HJ25, HO_9, HO_12, HB⟩ := hcut
              cases kq with
              | zero => exact absurd HA.out (by simp [laws_FnExactSlotCost.j1])
              | succ kj25 =>
                have H := HA.out
                clear HA
                simp only [laws_FnExactSlotCost.j1] at H
                by_cases c36 : x69_25 = true
                · subst c36
                  have H1 : (some false) = some r := by rw [if_pos rfl] at H; exact H
                  clear H
                  have H := H1
                  clear H1
                  rw [HRT.out] at H
                  exact absurd H (by simp)
                · replace c36 := Bool.eq_false_iff.mpr c36
                  subst c36
                  have H1 : ((laws_markIntS.f kj25 t215 1).bind fun bt226 => ((laws_heldIntS.f kj25 bt226.2 1).bind fun t228 => (if t228 < 0 then (some false) else (if t228 = bt226.1 then ((laws_toSlotS.f kj25 l0).bind fun t229 => ((impl_SlotCost.f kj25 t229 a1 a2).bind fun bt232 => (if bt232.1 = t207 then ((laws_eqIntS.f kj25 bt232.2 t208).bind fun t236 => (laws_FnExactSlotCost.j2 kj25 bt226.2 bt226.1 (!t236))) else (laws_FnExactSlotCost.j2 kj25 bt226.2 bt226.1 true)))) else (some false))))) = some r := by rw [if_neg (show ¬ (false = true) by decide)] at H; exact H
                  clear H
                  have H := H1
                  clear H1
                  replace H := Option.bind_eq_some_iff.mp H
                  obtain ⟨⟨t226, t227⟩, A370, H⟩ := H
                  replace H : ((laws_heldIntS.f kj25 t227 1).bind fun t228 => (if t228 < 0 then (some false) else (if t228 = t226 then ((laws_toSlotS.f kj25 l0).bind fun t229 => ((impl_SlotCost.f kj25 t229 a1 a2).bind fun bt232 => (if bt232.1 = t207 then ((laws_eqIntS.f kj25 bt232.2 t208).bind fun t236 => (laws_FnExactSlotCost.j2 kj25 t227 t226 (!t236))) else (laws_FnExactSlotCost.j2 kj25 t227 t226 true)))) else (some false)))) = some r := H
                  have A37 := Aside0.mk A370
                  clear A370
                  replace H := Option.bind_eq_some_iff.mp H
                  obtain ⟨t228, A380, H⟩ := H
                  replace H : (if t228 < 0 then (some false) else (if t228 = t226 then ((laws_toSlotS.f kj25 l0).bind fun t229 => ((impl_SlotCost.f kj25 t229 a1 a2).bind fun bt232 => (if bt232.1 = t207 then ((laws_eqIntS.f kj25 bt232.2 t208).bind fun t236 => (laws_FnExactSlotCost.j2 kj25 t227 t226 (!t236))) else (laws_FnExactSlotCost.j2 kj25 t227 t226 true)))) else (some false))) = some r := H
                  have A38 := Aside0.mk A380
                  clear A380
                  by_cases c39 : t228 < 0
                  · rw [if_pos c39] at H
                    have c39b0 : decide (t228 < 0) = true := decide_eq_true c39
                    clear c39
                    rw [HRT.out] at H
                    exact absurd H (by simp)
                  · rw [if_neg c39] at H
                    have c39b0 : decide (t228 < 0) = false := decide_eq_false c39
                    clear c39
                    by_cases c40 : t228 = t226
                    · rw [if_pos c40] at H
                      have c40b0 : (t228 == t226) = true := beq_iff_eq.mpr c40
                      have c40b1 : (t228 != t226) = false := bne_eq_false_iff_eq.mpr c40
                      clear c40
                      replace H := Option.bind_eq_some_iff.mp H
                      obtain ⟨t229, A410, H⟩ := H
                      replace H : ((impl_SlotCost.f kj25 t229 a1 a2).bind fun bt232 => (if bt232.1 = t207 then ((laws_eqIntS.f kj25 bt232.2 t208).bind fun t236 => (laws_FnExactSlotCost.j2 kj25 t227 t226 (!t236))) else (laws_FnExactSlotCost.j2 kj25 t227 t226 true))) = some r := H
                      have A41 := Aside0.mk A410
                      clear A410
                      replace H := Option.bind_eq_some_iff.mp H
                      obtain ⟨⟨t232, t233⟩, A420, H⟩ := H
                      replace H : (if t232 = t207 then ((laws_eqIntS.f kj25 t233 t208).bind fun t236 => (laws_FnExactSlotCost.j2 kj25 t227 t226 (!t236))) else (laws_FnExactSlotCost.j2 kj25 t227 t226 true)) = some r := H
                      have A42 := Aside0.mk A420
                      clear A420
                      have HC43 := Aside0.mk H
                      clear H
                      obtain ⟨Ao44, co44, eo44⟩ := Kd.R_slice HO_12.out
                      subst eo44
                      go_upto_region 25 with (first | ((with_reducible refine gate_callee (f := 17) rfl ?_); refine goesL_ (some 72) rfl rfl Try.func17 (by kernel_rfl) rfl #[.slice Ao44 t215.length co44, .int .i64 1] rfl (by (try simp only [List.map_toArray, List.map_cons, List.map_nil]); first | done | rfl | (simp only [List.length_drop, List.length_take]; rfl)) ?_; (with_reducible refine (laws_markIntS.calls kj25 (fun k_ => some k_ = (.slice Ao44 t215.length co44 : Value).ownBlock) (.slice Ao44 t215.length co44) t215 1 t226 t227 w _ ?side1 ?side2 A37.out).mono ?_); (case side1 => repeat (first | (with_reducible first | exact HB.out | apply below_alloc | apply pw_below_drewN | apply below_drew1) | exact HB.out)); (case side2 => exact Kd.R_tight rfl HO_12.out); rintro e w45 ⟨rfl, hy0, hb, hkp⟩; refine ⟨_, rfl, ?_⟩; have n0_ := Aside0.mk (Kd.R_mono (ok' := fun k_ => some k_ ≠ (.slice Ao44 t215.length co44 : Value).ownBlock) (Kd.R_keptB (HO_9.out) hkp (fun k_ hk_ hs_ => (hk_) hs_)) (fun k_ hk_ => hk_.1)); have n1_ := Aside0.mk (Kd.R_reok rfl hy0 (fun k_ e_ => HO_12.out.1 k_ e_)); have n2_ := Aside0.mk (hb); clear HO_9; clear HO_12; clear HB; have HO_9 := n0_; have HO_12 := n1_; have HB := n2_; clear n0_ n1_ n2_; (try clear hb); (try clear hkp); (try clear hy0)) | ((with_reducible refine gate_callee (f := 37) rfl ?_); refine goesL_ (some 75) rfl rfl Try.func37 (by kernel_rfl) rfl #[.slice Ao44 t227.length co44, .int .i64 1] rfl (by (try simp only [List.map_toArray, List.map_cons, List.map_nil]); first | done | (rw [show t227.length = t215.length from (Kd.R_reads' HO_12.out).1.symm] <;> rfl) | rfl | (simp only [List.length_drop, List.length_take]; rfl)) ?_; (with_reducible refine (laws_heldIntS.calls kj25 _ _ t227 1 t228 _ ?side1 ?side2 A38.out).mono ?_); (case side1 => repeat (first | exact (Kd.R_reads' HO_12.out).2.2 | (with_reducible refine Kd.C_alloc ?_ _) | (with_reducible refine Kd.C_drewN ?_ _) | (with_reducible refine Kd.C_drew ?_))); (case side2 => rw [show t227.length = t215.length from (Kd.R_reads' HO_12.out).1.symm]; exact (Kd.R_reads' HO_12.out).2.1); rintro e w' ⟨rfl, ⟨nd, rfl⟩⟩; refine ⟨_, rfl, ?_⟩) | ((with_reducible refine gate_callee (f := 33) rfl ?_); refine goesL_ (some 83) rfl rfl Try.func33 (by kernel_rfl) rfl #[.slice A0 l0.length c0] rfl (by (try simp only [List.map_toArray, List.map_cons, List.map_nil]); first | done | rfl | (simp only [List.length_drop, List.length_take]; rfl)) ?_; (with_reducible refine (laws_toSlotS.calls kj25 _ _ l0 t229 _ ?side1 ?side2 A41.out).mono ?_); (case side1 => repeat (first | exact (Kd.C_below HR0.out (by repeat (first | (with_reducible first | exact HB.out | apply below_alloc | apply pw_below_drewN | apply below_drew1) | exact HB.out))) | (with_reducible refine Kd.C_alloc ?_ _) | (with_reducible refine Kd.C_drewN ?_ _) | (with_reducible refine Kd.C_drew ?_))); (case side2 => exact HC0.out); rintro e w46 ⟨v230, rfl, ho0, hb⟩; refine ⟨_, rfl, ?_⟩; have n0_ := Aside0.mk (Kd.R_below (by (with_reducible repeat (first | apply Kd.R_alloc | apply Kd.R_drewN | apply Kd.R_drew)); exact HO_9.out) hb); have n1_ := Aside0.mk (Kd.R_below (by (with_reducible repeat (first | apply Kd.R_alloc | apply Kd.R_drewN | apply Kd.R_drew)); exact HO_12.out) hb); have n2_ := Aside0.mk (Kd.R_lower ho0 (below_size (by repeat (first | (with_reducible first | exact HB.out | apply below_alloc | apply pw_below_drewN | apply below_drew1) | exact HB.out)))); have n3_ := Aside0.mk (below_step (by repeat (first | (with_reducible first | exact HB.out | apply below_alloc | apply pw_below_drewN | apply below_drew1) | exact HB.out)) hb); clear HO_9; clear HO_12; clear HB; have HO_9 := n0_; have HO_12 := n1_; have HO231 := n2_; have HB := n3_; clear n0_ n1_ n2_ n3_; (try clear hb); (try clear hb2); (try clear hk); (try clear hi); (try clear ho0); obtain ⟨Ao47, co47, eo47⟩ := Kd.R_slice HO231.out; subst eo47) | ((with_reducible refine gate_callee (f := 34) rfl ?_); refine goesL_ (some 86) rfl rfl Try.func34 (by kernel_rfl) rfl #[.slice Ao47 t229.length co47, .int .i64 a1, .int .i64 a2] rfl (by (try simp only [List.map_toArray, List.map_cons, List.map_nil]); first | done | rfl | (simp only [List.length_drop, List.length_take]; rfl)) ?_; (with_reducible refine (impl_SlotCost.calls kj25 _ _ t229 a1 a2 t232 t233 _ ?side1 ?side2 A42.out).mono ?_); (case side1 => repeat (first | exact (Kd.R_reads' HO231.out).2.2 | (with_reducible refine Kd.C_alloc ?_ _) | (with_reducible refine Kd.C_drewN ?_ _) | (with_reducible refine Kd.C_drew ?_))); (case side2 => exact (Kd.R_reads' HO231.out).2.1); rintro e w48 ⟨v234, rfl, ho0, hb⟩; refine ⟨_, rfl, ?_⟩; have n0_ := Aside0.mk (Kd.R_elder' (by (with_reducible repeat (first | apply Kd.R_alloc | apply Kd.R_drewN | apply Kd.R_drew)); exact HO_9.out) (Kd.R_base ho0) hb); have n1_ := Aside0.mk (Kd.R_elder' (by (with_reducible repeat (first | apply Kd.R_alloc | apply Kd.R_drewN | apply Kd.R_drew)); exact HO_12.out) (Kd.R_base ho0) hb); have n2_ := Aside0.mk (Kd.R_below (by (with_reducible repeat (first | apply Kd.R_alloc | apply Kd.R_drewN | apply Kd.R_drew)); exact HO231.out) hb); have n3_ := Aside0.mk (Kd.R_lower (Kd.R_new' (Kd.R_new' ho0 (Kd.R_lt (by (with_reducible repeat (first | apply Kd.R_alloc | apply Kd.R_drewN | apply Kd.R_drew)); exact HO_9.out))) (Kd.R_lt (by (with_reducible repeat (first | apply Kd.R_alloc | apply Kd.R_drewN | apply Kd.R_drew)); exact HO_12.out))) (below_size (by repeat (first | (with_reducible first | exact HB.out | apply below_alloc | apply pw_below_drewN | apply below_drew1) | exact HB.out)))); have n4_ := Aside0.mk (below_step (by repeat (first | (with_reducible first | exact HB.out | apply below_alloc | apply pw_below_drewN | apply below_drew1) | exact HB.out)) hb); clear HO_9; clear HO_12; clear HO231; clear HB; have HO_9 := n0_; have HO_12 := n1_; have HO231 := n2_; have HO235 := n3_; have HB := n4_; clear n0_ n1_ n2_ n3_ n4_; (try clear hb); (try clear hb2); (try clear hk); (try clear hi); (try clear ho0)))
                      (try simp only [Act.put, List.setIfInBounds_toArray, List.set_cons_zero, List.set_cons_succ])
                      go_cut [97] (fun v97 wc => ∃ (kq : Nat) (x97_42 : Bool), v97 = .bool x97_42 ∧ Aside0 (laws_FnExactSlotCost.j2 kq t227 t226 x97_42 = some r) ∧ Aside0 (kq ≤ kj25) ∧ Aside0 (Kd.R (Kd.int .i64) 3 wc w.heap.size (fun _ => True) (.slice Ao44 t215.length co44) t227) ∧ Aside0 (Below w.heap.size w wc))
                      case first =>
                        have H := HC43.out
                        clear HC43
                        by_cases c49 : t232 = t207
                        · rw [if_pos c49] at H
                          have c49b0 : (t232 == t207) = true := beq_iff_eq.mpr c49
                          have c49b1 : (t232 != t207) = false := bne_eq_false_iff_eq.mpr c49
                          clear c49
                          (first | rw [c49b0] | (simp only [i64_w, i32_w]; rw [c49b0]) | skip)
                          replace H := Option.bind_eq_some_iff.mp H
                          obtain ⟨t236, A500, H⟩ := H
                          replace H : (laws_FnExactSlotCost.j2 kj25 t227 t226 (!t236)) = some r := H
                          have A50 := Aside0.mk A500
                          clear A500
                          have H' := Aside0.mk H
                          clear H
                          obtain ⟨Ao51, co51, eo51⟩ := Kd.R_slice HO235.out
                          subst eo51
                          obtain ⟨Ao52, co52, eo52⟩ := Kd.R_slice HO_9.out
                          subst eo52
                          go_wp2_with (first | (go_at_call 15; (with_reducible refine (laws_eqIntS.calls kj25 _ _ t233 _ _ t208 t236 _ ?side1 ?side2 ?side3 ?side4 A50.out).mono ?_); (case side1 => repeat (first | exact (Kd.R_reads' HO235.out).2.2 | (with_reducible refine Kd.C_alloc ?_ _) | (with_reducible refine Kd.C_drewN ?_ _) | (with_reducible refine Kd.C_drew ?_))); (case side2 => exact (Kd.R_reads' HO235.out).2.1); (case side3 => repeat (first | exact (Kd.R_reads' HO_9.out).2.2 | (with_reducible refine Kd.C_alloc ?_ _) | (with_reducible refine Kd.C_drewN ?_ _) | (with_reducible refine Kd.C_drew ?_))); (case side4 => exact (Kd.R_reads' HO_9.out).2.1); rintro e w' ⟨rfl, ⟨nd, rfl⟩⟩))
                          go_meet
                          case rel => exact ⟨_, (!t236), (by first | rfl | (simp; done) | (simp [*]; done)), H', ⟨by have := HJ9.out; have := HJ25.out; first | omega | exact Nat.le_refl _⟩, ⟨by (with_reducible repeat (first | apply Kd.R_alloc | apply Kd.R_drewN | apply Kd.R_drew)); exact Kd.R_mono HO_12.out (fun _ hk => trivial)⟩, ⟨by repeat (first | (with_reducible first | exact HB.out | apply below_alloc | apply pw_below_drewN | apply below_drew1) | exact HB.out)⟩⟩
                        · rw [if_neg c49] at H
                          have c49b0 : (t232 == t207) = false := beq_eq_false_iff_ne.mpr c49
                          have c49b1 : (t232 != t207) = true := bne_iff_ne.mpr c49
                          (first | rw [c49b0] | (simp only [i64_w, i32_w]; rw [c49b0]) | skip)
                          have H' := Aside0.mk H
                          clear H
                          go_wp2
                          go_meet
                          case rel => exact ⟨_, (true), (by first | rfl | (simp; done) | (simp [*]; done)), H', ⟨by have := HJ9.out; have := HJ25.out; first | omega | exact Nat.le_refl _⟩, ⟨by (with_reducible repeat (first | apply Kd.R_alloc | apply Kd.R_drewN | apply Kd.R_drew)); exact Kd.R_mono HO_12.out (fun _ hk => trivial)⟩, ⟨by repeat (first | (with_reducible first | exact HB.out | apply below_alloc | apply pw_below_drewN | apply below_drew1) | exact HB.out)⟩⟩
                      case rest =>
                        clear HC43
                        try clear c1
                        try clear c2
                        try clear p2
                        try clear c3
                        try clear c4
                        try clear c5
                        try clear c5b0
                        try clear c6
                        try clear c17
                        try clear c17b0
                        try clear c17b1
                        try clear c21
                        try clear c24
                        try clear c31
                        try clear c31b0
                        try clear c32
                        try clear c32b0
                        try clear c32b1
                        try clear c33
                        try clear c34
                        try clear c35
                        try clear c36
                        try clear c37
                        try clear c39
                        try clear c39b0
                        try clear c40
                        try clear c40b0
                        try clear c40b1
                        try clear c49
                        try clear c49b0
                        try clear c49b1
                        try clear p2
                        obtain ⟨kq, x97_42, rfl, HA, HJ42, HO_12, HB⟩ := hcut
                        have hl12_42 := (Kd.R_reads' HO_12.out).1
                        rw [hl12_42] at HO_12
                        (try simp only [hl12_42])
                        cases kq with
                        | zero => exact absurd HA.out (by simp [laws_FnExactSlotCost.j2])
                        | succ kj42 =>
                          have H := HA.out
                          clear HA
                          simp only [laws_FnExactSlotCost.j2] at H
                          by_cases c53 : x97_42 = true
                          · subst c53
                            have H1 : (some false) = some r := by rw [if_pos rfl] at H; exact H
                            clear H
                            have H := H1
                            clear H1
                            rw [HRT.out] at H
                            exact absurd H (by simp)
                          · replace c53 := Bool.eq_false_iff.mpr c53
                            subst c53
                            have H1 : ((laws_heldIntS.f kj42 t227 1).bind fun t237 => (if t237 < 0 then (some false) else (if t237 = t226 then (some true) else (some false)))) = some r := by rw [if_neg (show ¬ (false = true) by decide)] at H; exact H
                            clear H
                            have H := H1
                            clear H1
                            replace H := Option.bind_eq_some_iff.mp H
                            obtain ⟨t237, A540, H⟩ := H
                            replace H : (if t237 < 0 then (some false) else (if t237 = t226 then (some true) else (some false))) = some r := H
                            have A54 := Aside0.mk A540
                            clear A540
                            by_cases c55 : t237 < 0
                            · rw [if_pos c55] at H
                              have c55b0 : decide (t237 < 0) = true := decide_eq_true c55
                              clear c55
                              rw [HRT.out] at H
                              exact absurd H (by simp)
                            · rw [if_neg c55] at H
                              have c55b0 : decide (t237 < 0) = false := decide_eq_false c55
                              clear c55
                              by_cases c56 : t237 = t226
                              · rw [if_pos c56] at H
                                have c56b0 : (t237 == t226) = true := beq_iff_eq.mpr c56
                                have c56b1 : (t237 != t226) = false := bne_eq_false_iff_eq.mpr c56
                                clear c56
                                obtain rfl := Option.some.inj H
                                go_wp2_with (first | ((with_reducible refine gate_callee (f := 37) rfl ?_); refine goesL_ (some 100) rfl rfl Try.func37 (by kernel_rfl) rfl #[.slice Ao44 t227.length co44, .int .i64 1] rfl (by (try simp only [List.map_toArray, List.map_cons, List.map_nil]); first | done | rfl | (simp only [List.length_drop, List.length_take]; rfl)) ?_; (with_reducible refine (laws_heldIntS.calls kj42 _ _ t227 1 t237 _ ?side1 ?side2 A54.out).mono ?_); (case side1 => repeat (first | exact (Kd.R_reads' HO_12.out).2.2 | (with_reducible refine Kd.C_alloc ?_ _) | (with_reducible refine Kd.C_drewN ?_ _) | (with_reducible refine Kd.C_drew ?_))); (case side2 => exact (Kd.R_reads' HO_12.out).2.1); rintro e w' ⟨rfl, ⟨nd, rfl⟩⟩; refine ⟨_, rfl, ?_⟩))
                                go_ret
                                exact ⟨by first | rfl | (simp [errW_none, errW_some] <;> rfl) | (simp [*, errW_none, errW_some] <;> rfl), by repeat (first | (with_reducible first | exact HB.out | apply below_alloc | apply pw_below_drewN | apply below_drew1) | exact HB.out)⟩
                              · rw [if_neg c56] at H
                                have c56b0 : (t237 == t226) = false := beq_eq_false_iff_ne.mpr c56
                                have c56b1 : (t237 != t226) = true := bne_iff_ne.mpr c56
                                rw [HRT.out] at H
                                exact absurd H (by simp)
                    · rw [if_neg c40] at H
                      have c40b0 : (t228 == t226) = false := beq_eq_false_iff_ne.mpr c40
                      have c40b1 : (t228 != t226) = true := bne_iff_ne.mpr c40
                      rw [HRT.out] at H
                      exact absurd H (by simp)
          · replace c24 := Bool.eq_false_iff.mpr c24
            subst c24
            have H1 : (some false) = some r := by rw [if_neg (show ¬ (false = true) by decide)] at H; exact H
            clear H
            have H := H1
            clear H1
            rw [HRT.out] at H
            exact absurd H (by simp)

end Go.Proofs.Ytpoblnigmfbnfac.PFnExactSlotCost
