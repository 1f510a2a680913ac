-- Printed out of the translation, hand-written contracts beside it; checked by the kernel alone.
import Derived.Test.YtcpemdedmepfeaaPFnRoutedx0
import Derived.Test.YtcpemdedmepfeaaPFnRoutedx1
import Derived.Test.YtcpemdedmepfeaaPFnRoutedx3
import Derived.Test.YtcpemdedmepfeaaPFnRoutedx5
import Derived.Test.YtcpemdedmepfeaaPFnRoutedx6
import Derived.Test.YtcpemdedmepfeaaPFnRoutedx7
namespace Go.Proofs.Ytcpemdedmepfeaa.PFnRouted
open Go.RowKit Go.Proofs.YtcpemdedmepfeaaW.PrintWords Go.Proofs.YtcpemdedmepfeaaW.PrintLast Go.Proofs.YtcpemdedmepfeaaW.PrintMore
attribute [local go_sem] max2_int min2_int max_two min_two max_three min_three max_four min_four   -- for this text's walks alone
set_option linter.unusedVariables false
set_option linter.unusedSimpArgs false
theorem Ω1_8 : type_of% @Kd.R_alloc := @Kd.R_alloc
theorem Ω2_8 : type_of% @Kd.R_drewN := @Kd.R_drewN
theorem Ω3_8 : type_of% @Kd.R_drew := @Kd.R_drew
theorem Ω5_8 : type_of% @Aside0.mk := @Aside0.mk
theorem Ω6_8 : type_of% @below_alloc := @below_alloc
theorem Ω7_8 : type_of% @pw_below_drewN := @pw_below_drewN
theorem Ω8_8 : type_of% @below_drew1 := @below_drew1
theorem ΩE_8 : type_of% @Kd.R_mono := @Kd.R_mono
theorem ΩS_8 : type_of% @of_decide_eq_true := @of_decide_eq_true

/-! ### laws_FnRouted: function 6 -/
mutual
def laws_FnRouted.l0 : Nat → Int → List Int → List Int → Int → List Int → Int → List Int → List Int → Option (Bool)
 | 0, _, _, _, _, _, _, _, _ => none
 | k + 1, x4, x7, x8, x11, x12, x13, x376000, x376001 => if x13 < (x7.length : Int) then (if 0 ≤ x13 then (if (rd x7 x13) < 0 then (laws_FnRouted.l1 k x4 x7 x8 x11 x12 x13 0 x376000 x376001) else (if x13 < (x8.length : Int) then (if 0 ≤ (rd x7 x13) then (if (rd x7 x13) < (x12.length : Int) then (if (rd x8 x13) = (rd x12 (rd x7 x13)) then (if (rd x8 x13) ≥ x4 then (some false) else (laws_FnRouted.l0 k x4 x7 x8 x11 (x12.set ((rd x7 x13) : Int).toNat (wrap64 ((rd x12 (rd x7 x13)) + 1))) (wrap64 (x13 + 1)) x376000 x376001)) else (some false)) else (none)) else (none)) else (none))) else (none)) else (if 0 < (x376000.length : Int) then (if (x7.length : Int) = (rd x376000 0) then (some ((x8.length : Int) == (x7.length : Int))) else (some false)) else (none))
def laws_FnRouted.l1 : Nat → Int → List Int → List Int → Int → List Int → Int → Int → List Int → List Int → Option (Bool)
 | 0, _, _, _, _, _, _, _, _, _ => none
 | k + 1, x4, x7, x8, x11, x12, x13, x14, x376000, x376001 => if x14 < x11 then (if 0 ≤ x14 then (if x14 < (x12.length : Int) then (if (rd x12 x14) < x4 then (some false) else (laws_FnRouted.l1 k x4 x7 x8 x11 x12 x13 (wrap64 (x14 + 1)) x376000 x376001)) else (none)) else (none)) else (if 0 ≤ x13 then (if x13 < (x8.length : Int) then (if (rd x8 x13) = (-1) then (laws_FnRouted.l0 k x4 x7 x8 x11 x12 (wrap64 (x13 + 1)) x376000 x376001) else (some false)) else (none)) else (none))
end
def laws_FnRouted.f (k : Nat) (l0 : List Int) : Option (Bool) := (laws_big.f l0).bind fun t367 => (if t367 = true then (some true) else ((spec_DrawRoute.f k l0).bind fun bt368 => ((impl_Fill.f k (([1, 1] : List Int)) 0).bind fun bt379 => ((impl_Route.f k bt379.1 bt379.2 1).bind fun bt385 => (if (bt385.1.length : Int) = 1 then ((impl_Route.f k bt368.1 bt368.2.1 bt368.2.2).bind fun bt391 => ((spec_Route.f k bt368.1 bt368.2.1 bt368.2.2).bind fun bt397 => (if (bt391.1.length : Int) = (bt397.1.length : Int) then (if (bt391.1.length : Int) = 0 then (some ((bt391.2.length : Int) == 0)) else (if 1 < (bt368.1.length : Int) then (if 0 ≤ (rd bt368.1 1) then (if (rd bt368.1 1 : Int).toNat ≤ 35184372088832 then (laws_FnRouted.l0 k bt368.2.2 bt391.1 bt391.2 (rd bt368.1 1) (List.replicate (rd bt368.1 1 : Int).toNat 0) 0 bt368.1 bt368.2.1) else (none)) else (none)) else (none))) else (some false)))) else (some false))))))
theorem laws_FnRouted.mono_l : ∀ k, (∀ y0 y1 y2 y3 y4 y5 y6 y7, LeO (laws_FnRouted.l0 k y0 y1 y2 y3 y4 y5 y6 y7) (laws_FnRouted.l0 (k + 1) y0 y1 y2 y3 y4 y5 y6 y7)) ∧ (∀ y0 y1 y2 y3 y4 y5 y6 y7 y8, LeO (laws_FnRouted.l1 k y0 y1 y2 y3 y4 y5 y6 y7 y8) (laws_FnRouted.l1 (k + 1) y0 y1 y2 y3 y4 y5 y6 y7 y8))
 | 0 => ⟨fun _ _ _ _ _ _ _ _ r h => by simp [laws_FnRouted.l0] at h, fun _ _ _ _ _ _ _ _ _ r h => by simp [laws_FnRouted.l1] at h⟩
 | k + 1 => by
  obtain ⟨ih0, ih1⟩ := laws_FnRouted.mono_l k
  refine ⟨?_, ?_⟩
  ·intro y0 y1 y2 y3 y4 y5 y6 y7
   unfold laws_FnRouted.l0
   repeat' first
   | (with_reducible exact ih0 _ _ _ _ _ _ _ _)
   | (with_reducible exact ih1 _ _ _ _ _ _ _ _ _)
   | (with_reducible exact impl_Fill.mono _ _ _)
   | (with_reducible exact impl_Route.mono _ _ _ _)
   | (with_reducible exact spec_DrawRoute.mono _ _)
   | (with_reducible exact spec_Route.mono _ _ _ _)
   | (with_reducible exact LeO.refl _)
   | (with_reducible exact LeO.none _)
   | (with_reducible refine LeO.ite ?_ ?_)
   | (with_reducible refine LeO.bind ?_ (fun _ => ?_))
   | exact ih0 _ _ _ _ _ _ _ _
   | exact ih1 _ _ _ _ _ _ _ _ _
   | exact impl_Fill.mono _ _ _
   | exact impl_Route.mono _ _ _ _
   | exact spec_DrawRoute.mono _ _
   | exact spec_Route.mono _ _ _ _
   | exact LeO.none _
   | refine LeO.ite ?_ ?_
   | refine LeO.bind ?_ (fun _ => ?_)
  ·intro y0 y1 y2 y3 y4 y5 y6 y7 y8
   unfold laws_FnRouted.l1
   repeat' first
   | (with_reducible exact ih0 _ _ _ _ _ _ _ _)
   | (with_reducible exact ih1 _ _ _ _ _ _ _ _ _)
   | (with_reducible exact impl_Fill.mono _ _ _)
   | (with_reducible exact impl_Route.mono _ _ _ _)
   | (with_reducible exact spec_DrawRoute.mono _ _)
   | (with_reducible exact spec_Route.mono _ _ _ _)
   | (with_reducible exact LeO.refl _)
   | (with_reducible exact LeO.none _)
   | (with_reducible refine LeO.ite ?_ ?_)
   | (with_reducible refine LeO.bind ?_ (fun _ => ?_))
   | exact ih0 _ _ _ _ _ _ _ _
   | exact ih1 _ _ _ _ _ _ _ _ _
   | exact impl_Fill.mono _ _ _
   | exact impl_Route.mono _ _ _ _
   | exact spec_DrawRoute.mono _ _
   | exact spec_Route.mono _ _ _ _
   | exact LeO.none _
   | refine LeO.ite ?_ ?_
   | refine LeO.bind ?_ (fun _ => ?_)
theorem laws_FnRouted.mono : ∀ a0 k, LeO (laws_FnRouted.f k a0) (laws_FnRouted.f (k + 1) a0) := by
 intro a0 k
 obtain ⟨ih0, ih1⟩ := laws_FnRouted.mono_l k
 unfold laws_FnRouted.f
 repeat' first
   | (with_reducible exact ih0 _ _ _ _ _ _ _ _)
   | (with_reducible exact ih1 _ _ _ _ _ _ _ _ _)
   | (with_reducible exact impl_Fill.mono _ _ _)
   | (with_reducible exact impl_Route.mono _ _ _ _)
   | (with_reducible exact spec_DrawRoute.mono _ _)
   | (with_reducible exact spec_Route.mono _ _ _ _)
   | (with_reducible exact LeO.refl _)
   | (with_reducible exact LeO.none _)
   | (with_reducible refine LeO.ite ?_ ?_)
   | (with_reducible refine LeO.bind ?_ (fun _ => ?_))
   | exact ih0 _ _ _ _ _ _ _ _
   | exact ih1 _ _ _ _ _ _ _ _ _
   | exact impl_Fill.mono _ _ _
   | exact impl_Route.mono _ _ _ _
   | exact spec_DrawRoute.mono _ _
   | exact spec_Route.mono _ _ _ _
   | exact LeO.none _
   | refine LeO.ite ?_ ?_
   | refine LeO.bind ?_ (fun _ => ?_)
def laws_FnRouted.T26 : Bool × List (List Nat × List Nat) := (true, [([], []), ([], []), ([0, 1], [0, 1]), ([2], [2]), ([], []), ([], []), ([], []), ([5, 6], [5, 6]), ([7], [7]), ([4, 8], [4, 8]), ([9], [9]), ([3, 10], [3, 10]), ([11], [11]), ([12], [12]), ([12], [12]), ([13, 14, 12], [12, 13, 14]), ([15, 12], [12, 15]), ([12], [12]), ([16, 17, 12], [12, 16, 17]), ([12, 18], [12, 18])])
def laws_FnRouted.B26 : List Nat := [0, 0, 3, 7, 0, 0, 0, 96, 224, 496, 1008, 2047, 4095, 8191, 8191, 32767, 65535, 8191, 262143, 524287]
theorem laws_FnRouted.tab26 : rtab .any (opsOf Try.f6 26) = laws_FnRouted.T26 := by kernel_rfl
theorem laws_FnRouted.bits26 : waitsOk laws_FnRouted.T26.2 laws_FnRouted.B26 = true := by kernel_rfl
def laws_FnRouted.T28 : Bool × List (List Nat × List Nat) := (true, [([], []), ([], []), ([], []), ([1, 2], [1, 2]), ([3], [3]), ([], []), ([], []), ([], []), ([6, 7], [6, 7]), ([8], [8]), ([5, 9], [5, 9]), ([10], [10]), ([11], [11]), ([0, 4, 0, 1, 2, 3, 4, 5, 6, 7, 8, 9, 10, 11, 12], [0, 4]), ([13, 12, 0, 1, 2, 3, 4, 5, 6, 7, 8, 9, 10, 11, 12], [12, 13])])
def laws_FnRouted.B28 : List Nat := [0, 0, 0, 6, 14, 0, 0, 0, 192, 448, 992, 2016, 4064, 8191, 16383]
theorem laws_FnRouted.tab28 : rtab .any (opsOf Try.f6 28) = laws_FnRouted.T28 := by kernel_rfl
theorem laws_FnRouted.bits28 : waitsOk laws_FnRouted.T28.2 laws_FnRouted.B28 = true := by kernel_rfl
set_option maxHeartbeats 8000000 in
set_option maxRecDepth 100000 in
theorem laws_FnRouted.calls (k : Nat) (A0 : Option Addr) (c0 : Nat) (l0 : List Int) (r : Bool) (w : World) (hrt : r = true) (hr0 : Kd.C (Kd.int .u8) w A0 l0.length l0) (hc0 : l0.length ≤ c0) (h : laws_FnRouted.f k l0 = some r) :
  Calls Try.prog 6 #[.slice A0 l0.length c0] w fun e w' => e = .returned (.bool r) ∧ Below w.heap.size w w' := by
 have HRT := Ω5_8 hrt
 clear hrt
 have hu39 := Try.underlying39
 have HR0 := Ω5_8 hr0
 have HC0 := Ω5_8 hc0
 clear hr0 hc0
 have HB := Ω5_8 (Below.refl w.heap.size w)
 have H : ((laws_big.f l0).bind fun t367 => (if t367 = true then (some true) else ((spec_DrawRoute.f k l0).bind fun bt368 => ((impl_Fill.f k (([1, 1] : List Int)) 0).bind fun bt379 => ((impl_Route.f k bt379.1 bt379.2 1).bind fun bt385 => (if (bt385.1.length : Int) = 1 then ((impl_Route.f k bt368.1 bt368.2.1 bt368.2.2).bind fun bt391 => ((spec_Route.f k bt368.1 bt368.2.1 bt368.2.2).bind fun bt397 => (if (bt391.1.length : Int) = (bt397.1.length : Int) then (if (bt391.1.length : Int) = 0 then (some ((bt391.2.length : Int) == 0)) else (if 1 < (bt368.1.length : Int) then (if 0 ≤ (rd bt368.1 1) then (if (rd bt368.1 1 : Int).toNat ≤ 35184372088832 then (laws_FnRouted.l0 k bt368.2.2 bt391.1 bt391.2 (rd bt368.1 1) (List.replicate (rd bt368.1 1 : Int).toNat 0) 0 bt368.1 bt368.2.1) else (none)) else (none)) else (none))) else (some false)))) else (some false))))))) = some r := h
 clear h
 replace H := Option.bind_eq_some_iff.mp H
 obtain ⟨t367, A20, H⟩ := H
 try dsimp only at H
 have A2 := Ω5_8 A20
 clear A20
 by_cases c3 : t367 = true
 ·subst c3
  have H1 : (some true) = some r := by rw [if_pos rfl] at H; exact H
  clear H
  have H := H1
  clear H1
  obtain rfl := Option.some.inj H
  go_enter Try.func6, Try.ntmps6
  go_wp2_with (first | ((with_reducible refine gate_callee (f := 20) rfl ?_); refine goesL_ (some 16) rfl rfl Try.func20 (by kernel_rfl) rfl #[.slice A0 l0.length c0] rfl (by (try simp only [List.map_toArray, List.map_cons, List.map_nil]); first | done | rfl | (simp only [List.length_drop, List.length_take]; rfl)) ?_; (with_reducible refine (laws_big.calls _ _ l0 true _ ?side1 ?side2 A2.out).mono ?_); (case side1 => repeat (first | exact HR0.out | (with_reducible refine Kd.C_alloc ?_ _) | (with_reducible refine Kd.C_drewN ?_ _) | (with_reducible refine Kd.C_drew ?_))); (case side2 => exact HC0.out); rintro e w' ⟨rfl, ⟨nd, rfl⟩⟩; refine ⟨_, rfl, ?_⟩))
  go_ret
  exact ⟨by first | rfl | (simp [errW_none, errW_some] <;> rfl) | (simp [*, errW_none, errW_some] <;> rfl), by repeat (first | (with_reducible first | exact HB.out | apply Ω6_8 | apply Ω7_8 | apply Ω8_8) | exact HB.out)⟩
 ·replace c3 := Bool.eq_false_iff.mpr c3
  subst c3
  have H1 : ((spec_DrawRoute.f k l0).bind fun bt368 => ((impl_Fill.f k (([1, 1] : List Int)) 0).bind fun bt379 => ((impl_Route.f k bt379.1 bt379.2 1).bind fun bt385 => (if (bt385.1.length : Int) = 1 then ((impl_Route.f k bt368.1 bt368.2.1 bt368.2.2).bind fun bt391 => ((spec_Route.f k bt368.1 bt368.2.1 bt368.2.2).bind fun bt397 => (if (bt391.1.length : Int) = (bt397.1.length : Int) then (if (bt391.1.length : Int) = 0 then (some ((bt391.2.length : Int) == 0)) else (if 1 < (bt368.1.length : Int) then (if 0 ≤ (rd bt368.1 1) then (if (rd bt368.1 1 : Int).toNat ≤ 35184372088832 then (laws_FnRouted.l0 k bt368.2.2 bt391.1 bt391.2 (rd bt368.1 1) (List.replicate (rd bt368.1 1 : Int).toNat 0) 0 bt368.1 bt368.2.1) else (none)) else (none)) else (none))) else (some false)))) else (some false))))) = some r := by rw [if_neg (show ¬ (false = true) by decide)] at H; exact H
  clear H
  have H := H1
  clear H1
  replace H := Option.bind_eq_some_iff.mp H
  obtain ⟨⟨t368, t371, t374⟩, A40, H⟩ := H
  try dsimp only at H
  have A4 := Ω5_8 A40
  clear A40
  obtain ⟨y376, hy376⟩ : ∃ y_ : List Int, y_ = (([1, 1] : List Int)) := ⟨_, rfl⟩
  replace H : ((impl_Fill.f k y376 0).bind fun bt379 => ((impl_Route.f k bt379.1 bt379.2 1).bind fun bt385 => (if (bt385.1.length : Int) = 1 then ((impl_Route.f k t368 t371 t374).bind fun bt391 => ((spec_Route.f k t368 t371 t374).bind fun bt397 => (if (bt391.1.length : Int) = (bt397.1.length : Int) then (if (bt391.1.length : Int) = 0 then (some ((bt391.2.length : Int) == 0)) else (if 1 < (t368.length : Int) then (if 0 ≤ (rd t368 1) then (if (rd t368 1 : Int).toNat ≤ 35184372088832 then (laws_FnRouted.l0 k t374 bt391.1 bt391.2 (rd t368 1) (List.replicate (rd t368 1 : Int).toNat 0) 0 t368 t371) else (none)) else (none)) else (none))) else (some false)))) else (some false)))) = some r := by first | (rw [hy376]; with_reducible exact H) | (have H2_ := (Option.bind_some _ _).symm.trans H; rw [hy376]; with_reducible exact H2_) | (have H2_ := (Option.bind_some _ _).symm.trans H; with_reducible exact H2_) | with_reducible exact H | (rw [hy376]; exact H) | exact H
  have Ny376 := Ω5_8 hy376
  clear hy376
  replace H := Option.bind_eq_some_iff.mp H
  obtain ⟨⟨t379, t382⟩, A50, H⟩ := H
  try dsimp only at H
  have A5 := Ω5_8 A50
  clear A50
  replace H := Option.bind_eq_some_iff.mp H
  obtain ⟨⟨t385, t388⟩, A60, H⟩ := H
  try dsimp only at H
  have A6 := Ω5_8 A60
  clear A60
  by_cases c7 : (t385.length : Int) = 1
  ·rw [if_pos c7] at H
   have c7b0 : ((t385.length : Int) == 1) = true := beq_iff_eq.mpr c7
   have c7b1 : ((t385.length : Int) != 1) = false := bne_eq_false_iff_eq.mpr c7
   clear c7
   replace H := Option.bind_eq_some_iff.mp H
   obtain ⟨⟨t391, t394⟩, A80, H⟩ := H
   try dsimp only at H
   have A8 := Ω5_8 A80
   clear A80
   replace H := Option.bind_eq_some_iff.mp H
   obtain ⟨⟨t397, t400⟩, A90, H⟩ := H
   try dsimp only at H
   have A9 := Ω5_8 A90
   clear A90
   by_cases c10 : (t391.length : Int) = (t397.length : Int)
   ·rw [if_pos c10] at H
    have c10b0 : ((t391.length : Int) == (t397.length : Int)) = true := beq_iff_eq.mpr c10
    have c10b1 : ((t391.length : Int) != (t397.length : Int)) = false := bne_eq_false_iff_eq.mpr c10
    have c10b2 : (t391.length == t397.length) = true := by first | simpa using c10 | (simp at c10 ⊢; omega)
    clear c10
    by_cases c11 : (t391.length : Int) = 0
    ·rw [if_pos c11] at H
     have c11b0 : ((t391.length : Int) == 0) = true := beq_iff_eq.mpr c11
     have c11b1 : ((t391.length : Int) != 0) = false := bne_eq_false_iff_eq.mpr c11
     clear c11
     obtain rfl := Option.some.inj H
     go_enter Try.func6, Try.ntmps6
     go_wp2_with (first | ((with_reducible refine gate_callee (f := 20) rfl ?_); refine goesL_ (some 16) rfl rfl Try.func20 (by kernel_rfl) rfl #[.slice A0 l0.length c0] rfl (by (try simp only [List.map_toArray, List.map_cons, List.map_nil]); first | done | rfl | (simp only [List.length_drop, List.length_take]; rfl)) ?_; (with_reducible refine (laws_big.calls _ _ l0 false _ ?side1 ?side2 A2.out).mono ?_); (case side1 => repeat (first | exact HR0.out | (with_reducible refine Kd.C_alloc ?_ _) | (with_reducible refine Kd.C_drewN ?_ _) | (with_reducible refine Kd.C_drew ?_))); (case side2 => exact HC0.out); rintro e w' ⟨rfl, ⟨nd, rfl⟩⟩; refine ⟨_, rfl, ?_⟩) | ((with_reducible refine gate_callee (f := 21) rfl ?_); refine goesL_ (some 19) rfl rfl Try.func21 (by kernel_rfl) rfl #[.slice A0 l0.length c0] rfl (by (try simp only [List.map_toArray, List.map_cons, List.map_nil]); first | done | rfl | (simp only [List.length_drop, List.length_take]; rfl)) ?_; (with_reducible refine (spec_DrawRoute.calls k _ _ l0 t368 t371 t374 _ ?side1 ?side2 A4.out).mono ?_); (case side1 => repeat (first | exact HR0.out | (with_reducible refine Kd.C_alloc ?_ _) | (with_reducible refine Kd.C_drewN ?_ _) | (with_reducible refine Kd.C_drew ?_))); (case side2 => exact HC0.out); rintro e w12 ⟨v369, v372, rfl, ho0, ho1, hb⟩; refine ⟨_, rfl, ?_⟩; have n0_ := Ω5_8 (Kd.R_lower ho0 (below_size (by repeat (first | (with_reducible first | exact HB.out | apply Ω6_8 | apply Ω7_8 | apply Ω8_8) | exact HB.out)))); have n1_ := Ω5_8 (Kd.R_lower ho1 (below_size (by repeat (first | (with_reducible first | exact HB.out | apply Ω6_8 | apply Ω7_8 | apply Ω8_8) | exact HB.out)))); have n2_ := Ω5_8 (below_step (by repeat (first | (with_reducible first | exact HB.out | apply Ω6_8 | apply Ω7_8 | apply Ω8_8) | exact HB.out)) hb); clear HB; have HO370 := n0_; have HO373 := n1_; have HB := n2_; clear n0_ n1_ n2_; (try clear hb); (try clear hb2); (try clear hk); (try clear hi); (try clear ho0); (try clear ho1)) | ((with_reducible refine gate_dst (N := 3) rfl ?_); (try (refine gate_guard (by rfl) ?_; dsimp only)); refine box_event ?hg (N := 3) ?hd (cs := #[.slice none 0 0, .slice none 0 0]) (t := 39) ?hr ?_; (case hd => rfl); (case hg => rfl); (case hr => first | (go_simp; done) | (go_simp; rfl)); intro gb375 hg w13 hbox hb; have n0_ := Ω5_8 (Kd.R_below (by (with_reducible repeat (first | apply Ω1_8 | apply Ω2_8 | apply Ω3_8)); exact HO370.out) hb); have n1_ := Ω5_8 (Kd.R_below (by (with_reducible repeat (first | apply Ω1_8 | apply Ω2_8 | apply Ω3_8)); exact HO373.out) hb); have n2_ := Ω5_8 (below_step (by repeat (first | (with_reducible first | exact HB.out | apply Ω6_8 | apply Ω7_8 | apply Ω8_8) | exact HB.out)) hb); have n3_ := Ω5_8 (hbox); have n4_ := Ω5_8 ((by rw [hg]; exact (below_size (by repeat (first | (with_reducible first | exact HB.out | apply Ω6_8 | apply Ω7_8 | apply Ω8_8) | exact HB.out))) : w.heap.size ≤ gb375)); have n5_ := Ω5_8 ((by rw [hg]; exact (below_size (by repeat (first | (with_reducible first | exact HB.out | apply Ω6_8 | apply Ω7_8 | apply Ω8_8) | exact HB.out))) : w.heap.size ≤ gb375)); clear HO370; clear HO373; clear HB; have HO370 := n0_; have HO373 := n1_; have HB := n2_; have BK375 := n3_; have GW375 := n4_; have GE375 := n5_; clear n0_ n1_ n2_ n3_ n4_ n5_; clear hb hbox hg; obtain ⟨Ao14, co14, eo14⟩ := Kd.R_slice HO370.out; subst eo14; have hcz15_0 : w13.cell? ⟨gb375, 0, none⟩ = some (.slice none 0 0) := (blk_cell BK375.out 0).trans rfl; have hcz15_1 : w13.cell? ⟨gb375, 1, none⟩ = some (.slice none 0 0) := (blk_cell BK375.out 1).trans rfl; have hfz15_0 := blk_frozen BK375.out 0; have hfz15_1 := blk_frozen BK375.out 1; obtain ⟨Ao16, co16, eo16⟩ := Kd.R_slice HO373.out; subst eo16) | ((with_reducible refine gate_dst (N := 23) rfl ?_); (try (refine gate_guard (by rfl) ?_; dsimp only)); refine Kd.R_lit (Kd.int .i64) _ 3 ?hg (N := 23) ?hd (xs := ([1, 1] : List Int)) (inner := [.int .i64 1, .int .i64 1]) (ok := fun _ => True) (okp := fun _ => True) ?hr ?hp (fun _ hk => hk) trivial (Below.refl _ _) (Nat.le_refl _) (by simp) ?_; (case hd => rfl); (case hg => rfl); (case hr => first | (go_simp; done) | (go_simp; rfl)); (case hp => exact (Reps.one (show Kd.M (Kd.int .i64) _ _ _ 1 [.int .i64 1] from rfl) (Reps.one (show Kd.M (Kd.int .i64) _ _ _ 1 [.int .i64 1] from rfl) (Reps.none _ _)))); intro v377 w17 ho18 hb hg_ hnew_; clear hg_ hnew_; (first | rw [← Ny376.out] at ho18 | (simp only [Int.reduceToNat] at ho18; rw [← Ny376.out] at ho18)); have n0_ := Ω5_8 (Kd.R_elder' (by (with_reducible repeat (first | apply Ω1_8 | apply Ω2_8 | apply Ω3_8)); exact (ΩE_8 (Kd.R_far (p := ⟨gb375, 1, none⟩) (Kd.R_far (p := ⟨gb375, 0, none⟩) (Kd.R_types HO370.out BK375.out (by decide)) (fun _ hk => hk.2) (.slice Ao14 t368.length co14)) (fun _ hk => hk.2) (.slice Ao16 t371.length co16)) (fun _ h_ => h_.1))) (Kd.R_base ho18) hb); have n1_ := Ω5_8 (Kd.R_elder' (by (with_reducible repeat (first | apply Ω1_8 | apply Ω2_8 | apply Ω3_8)); exact (ΩE_8 (Kd.R_far (p := ⟨gb375, 1, none⟩) (Kd.R_far (p := ⟨gb375, 0, none⟩) (Kd.R_types HO373.out BK375.out (by decide)) (fun _ hk => hk.2) (.slice Ao14 t368.length co14)) (fun _ hk => hk.2) (.slice Ao16 t371.length co16)) (fun _ h_ => h_.1))) (Kd.R_base ho18) hb); have n2_ := Ω5_8 (Kd.R_lower (Kd.R_new' (Kd.R_new' ho18 (Kd.R_lt (by (with_reducible repeat (first | apply Ω1_8 | apply Ω2_8 | apply Ω3_8)); exact (ΩE_8 (Kd.R_far (p := ⟨gb375, 1, none⟩) (Kd.R_far (p := ⟨gb375, 0, none⟩) (Kd.R_types HO370.out BK375.out (by decide)) (fun _ hk => hk.2) (.slice Ao14 t368.length co14)) (fun _ hk => hk.2) (.slice Ao16 t371.length co16)) (fun _ h_ => h_.1))))) (Kd.R_lt (by (with_reducible repeat (first | apply Ω1_8 | apply Ω2_8 | apply Ω3_8)); exact (ΩE_8 (Kd.R_far (p := ⟨gb375, 1, none⟩) (Kd.R_far (p := ⟨gb375, 0, none⟩) (Kd.R_types HO373.out BK375.out (by decide)) (fun _ hk => hk.2) (.slice Ao14 t368.length co14)) (fun _ hk => hk.2) (.slice Ao16 t371.length co16)) (fun _ h_ => h_.1))))) (below_size (by repeat (first | (with_reducible first | exact HB.out | apply Ω6_8 | apply Ω7_8 | apply Ω8_8 | refine below_set ?_ GE375.out) | exact HB.out)))); have n3_ := Ω5_8 (blk_below (g := gb375) (o := .cells #[.slice Ao14 t368.length co14, .slice Ao16 t371.length co16] 39 (0, 0)) (by (with_reducible repeat (first | refine blk_drewN ?_ _ | refine blk_drew ?_ | refine blk_alloc ?_ _)); refine blk_put (cs := #[.slice Ao14 t368.length co14, .slice none 0 0]) ?_ 1 _ rfl; (with_reducible repeat (first | refine blk_drewN ?_ _ | refine blk_drew ?_ | refine blk_alloc ?_ _)); refine blk_put (cs := #[.slice none 0 0, .slice none 0 0]) ?_ 0 _ rfl; (with_reducible repeat (first | refine blk_drewN ?_ _ | refine blk_drew ?_ | refine blk_alloc ?_ _)); exact BK375.out) hb); have n4_ := Ω5_8 (below_step (by repeat (first | (with_reducible first | exact HB.out | apply Ω6_8 | apply Ω7_8 | apply Ω8_8 | refine below_set ?_ GE375.out) | exact HB.out)) hb); clear HO370; clear HO373; clear BK375; clear HB; have HO370 := n0_; have HO373 := n1_; have HO378 := n2_; have BK375 := n3_; have HB := n4_; clear n0_ n1_ n2_ n3_ n4_; clear hb ho18; obtain ⟨Ao19, co19, eo19⟩ := Kd.R_slice HO378.out; subst eo19) | ((with_reducible refine gate_callee (f := 23) rfl ?_); refine goesL_ (some 24) rfl rfl Try.func23 (by kernel_rfl) rfl #[.slice Ao19 y376.length co19, .int .i64 0] rfl (by (try simp only [List.map_toArray, List.map_cons, List.map_nil]); first | done | rfl | (simp only [List.length_drop, List.length_take]; rfl)) ?_; (with_reducible refine (impl_Fill.calls k _ _ y376 0 t379 t382 _ ?side1 ?side2 A5.out).mono ?_); (case side1 => repeat (first | exact (Kd.R_reads' HO378.out).2.2 | (with_reducible refine Kd.C_alloc ?_ _) | (with_reducible refine Kd.C_drewN ?_ _) | (with_reducible refine Kd.C_drew ?_))); (case side2 => exact (Kd.R_reads' HO378.out).2.1); rintro e w20 ⟨v380, v383, rfl, ho0, ho1, hb⟩; refine ⟨_, rfl, ?_⟩; have n0_ := Ω5_8 (ΩE_8 (Kd.R_told (Kd.R_told (Kd.R_old (by (with_reducible repeat (first | apply Ω1_8 | apply Ω2_8 | apply Ω3_8)); exact HO370.out) hb) (Kd.R_base ho0)) (Kd.R_base ho1)) (fun _ h_ => h_.1)); have n1_ := Ω5_8 (ΩE_8 (Kd.R_told (Kd.R_told (Kd.R_old (by (with_reducible repeat (first | apply Ω1_8 | apply Ω2_8 | apply Ω3_8)); exact HO373.out) hb) (Kd.R_base ho0)) (Kd.R_base ho1)) (fun _ h_ => h_.1)); have n2_ := Ω5_8 (ΩE_8 (Kd.R_told (Kd.R_told (Kd.R_old (by (with_reducible repeat (first | apply Ω1_8 | apply Ω2_8 | apply Ω3_8)); exact HO378.out) hb) (Kd.R_base ho0)) (Kd.R_base ho1)) (fun _ h_ => h_.1)); have n3_ := Ω5_8 (Kd.R_lower (Kd.R_new' (Kd.R_new' (Kd.R_new' ho0 (Kd.R_lt (by (with_reducible repeat (first | apply Ω1_8 | apply Ω2_8 | apply Ω3_8)); exact HO370.out))) (Kd.R_lt (by (with_reducible repeat (first | apply Ω1_8 | apply Ω2_8 | apply Ω3_8)); exact HO373.out))) (Kd.R_lt (by (with_reducible repeat (first | apply Ω1_8 | apply Ω2_8 | apply Ω3_8)); exact HO378.out))) (below_size (by repeat (first | (with_reducible first | exact HB.out | apply Ω6_8 | apply Ω7_8 | apply Ω8_8 | refine below_set ?_ GE375.out) | exact HB.out)))); have n4_ := Ω5_8 (Kd.R_lower (Kd.R_new' (Kd.R_new' (Kd.R_new' ho1 (Kd.R_lt (by (with_reducible repeat (first | apply Ω1_8 | apply Ω2_8 | apply Ω3_8)); exact HO370.out))) (Kd.R_lt (by (with_reducible repeat (first | apply Ω1_8 | apply Ω2_8 | apply Ω3_8)); exact HO373.out))) (Kd.R_lt (by (with_reducible repeat (first | apply Ω1_8 | apply Ω2_8 | apply Ω3_8)); exact HO378.out))) (below_size (by repeat (first | (with_reducible first | exact HB.out | apply Ω6_8 | apply Ω7_8 | apply Ω8_8 | refine below_set ?_ GE375.out) | exact HB.out)))); have n5_ := Ω5_8 (blk_below (g := gb375) (o := .cells #[.slice Ao14 t368.length co14, .slice Ao16 t371.length co16] 39 (0, 0)) (by (with_reducible repeat (first | refine blk_drewN ?_ _ | refine blk_drew ?_ | refine blk_alloc ?_ _)); exact BK375.out) hb); have n6_ := Ω5_8 (below_step (by repeat (first | (with_reducible first | exact HB.out | apply Ω6_8 | apply Ω7_8 | apply Ω8_8 | refine below_set ?_ GE375.out) | exact HB.out)) hb); clear HO370; clear HO373; clear HO378; clear BK375; clear HB; have HO370 := n0_; have HO373 := n1_; have HO378 := n2_; have HO381 := n3_; have HO384 := n4_; have BK375 := n5_; have HB := n6_; clear n0_ n1_ n2_ n3_ n4_ n5_ n6_; (try clear hb); (try clear hb2); (try clear hk); (try clear hi); (try clear ho0); (try clear ho1); obtain ⟨Ao21, co21, eo21⟩ := Kd.R_slice HO381.out; subst eo21; obtain ⟨Ao22, co22, eo22⟩ := Kd.R_slice HO384.out; subst eo22) | ((with_reducible refine gate_callee (f := 22) rfl ?_); refine goesL_ (some 25) rfl rfl Try.func22 (by kernel_rfl) rfl #[.agg #[.slice Ao21 t379.length co21, .slice Ao22 t382.length co22], .int .i64 1] rfl (by (try simp only [List.map_toArray, List.map_cons, List.map_nil]); first | done | rfl | (simp only [List.length_drop, List.length_take]; rfl)) ?_; (with_reducible refine (impl_Route.calls k _ _ t379 _ _ t382 1 t385 t388 _ ?side1 ?side2 ?side3 ?side4 A6.out).mono ?_); (case side1 => repeat (first | exact (Kd.R_reads' HO381.out).2.2 | (with_reducible refine Kd.C_alloc ?_ _) | (with_reducible refine Kd.C_drewN ?_ _) | (with_reducible refine Kd.C_drew ?_))); (case side2 => exact (Kd.R_reads' HO381.out).2.1); (case side3 => repeat (first | exact (Kd.R_reads' HO384.out).2.2 | (with_reducible refine Kd.C_alloc ?_ _) | (with_reducible refine Kd.C_drewN ?_ _) | (with_reducible refine Kd.C_drew ?_))); (case side4 => exact (Kd.R_reads' HO384.out).2.1); rintro e w23 ⟨v386, v389, rfl, ho0, ho1, hb⟩; refine ⟨_, rfl, ?_⟩; have n0_ := Ω5_8 (ΩE_8 (Kd.R_told (Kd.R_told (Kd.R_old (by (with_reducible repeat (first | apply Ω1_8 | apply Ω2_8 | apply Ω3_8)); exact HO370.out) hb) (Kd.R_base ho0)) (Kd.R_base ho1)) (fun _ h_ => h_.1)); have n1_ := Ω5_8 (ΩE_8 (Kd.R_told (Kd.R_told (Kd.R_old (by (with_reducible repeat (first | apply Ω1_8 | apply Ω2_8 | apply Ω3_8)); exact HO373.out) hb) (Kd.R_base ho0)) (Kd.R_base ho1)) (fun _ h_ => h_.1)); have n2_ := Ω5_8 (ΩE_8 (Kd.R_told (Kd.R_told (Kd.R_old (by (with_reducible repeat (first | apply Ω1_8 | apply Ω2_8 | apply Ω3_8)); exact HO378.out) hb) (Kd.R_base ho0)) (Kd.R_base ho1)) (fun _ h_ => h_.1)); have n3_ := Ω5_8 (ΩE_8 (Kd.R_told (Kd.R_told (Kd.R_old (by (with_reducible repeat (first | apply Ω1_8 | apply Ω2_8 | apply Ω3_8)); exact HO381.out) hb) (Kd.R_base ho0)) (Kd.R_base ho1)) (fun _ h_ => h_.1)); have n4_ := Ω5_8 (ΩE_8 (Kd.R_told (Kd.R_told (Kd.R_old (by (with_reducible repeat (first | apply Ω1_8 | apply Ω2_8 | apply Ω3_8)); exact HO384.out) hb) (Kd.R_base ho0)) (Kd.R_base ho1)) (fun _ h_ => h_.1)); have n5_ := Ω5_8 (Kd.R_lower (Kd.R_new' (Kd.R_new' (Kd.R_new' (Kd.R_new' (Kd.R_new' ho0 (Kd.R_lt (by (with_reducible repeat (first | apply Ω1_8 | apply Ω2_8 | apply Ω3_8)); exact HO370.out))) (Kd.R_lt (by (with_reducible repeat (first | apply Ω1_8 | apply Ω2_8 | apply Ω3_8)); exact HO373.out))) (Kd.R_lt (by (with_reducible repeat (first | apply Ω1_8 | apply Ω2_8 | apply Ω3_8)); exact HO378.out))) (Kd.R_lt (by (with_reducible repeat (first | apply Ω1_8 | apply Ω2_8 | apply Ω3_8)); exact HO381.out))) (Kd.R_lt (by (with_reducible repeat (first | apply Ω1_8 | apply Ω2_8 | apply Ω3_8)); exact HO384.out))) (below_size (by repeat (first | (with_reducible first | exact HB.out | apply Ω6_8 | apply Ω7_8 | apply Ω8_8 | refine below_set ?_ GE375.out) | exact HB.out)))); have n6_ := Ω5_8 (Kd.R_lower (Kd.R_new' (Kd.R_new' (Kd.R_new' (Kd.R_new' (Kd.R_new' ho1 (Kd.R_lt (by (with_reducible repeat (first | apply Ω1_8 | apply Ω2_8 | apply Ω3_8)); exact HO370.out))) (Kd.R_lt (by (with_reducible repeat (first | apply Ω1_8 | apply Ω2_8 | apply Ω3_8)); exact HO373.out))) (Kd.R_lt (by (with_reducible repeat (first | apply Ω1_8 | apply Ω2_8 | apply Ω3_8)); exact HO378.out))) (Kd.R_lt (by (with_reducible repeat (first | apply Ω1_8 | apply Ω2_8 | apply Ω3_8)); exact HO381.out))) (Kd.R_lt (by (with_reducible repeat (first | apply Ω1_8 | apply Ω2_8 | apply Ω3_8)); exact HO384.out))) (below_size (by repeat (first | (with_reducible first | exact HB.out | apply Ω6_8 | apply Ω7_8 | apply Ω8_8 | refine below_set ?_ GE375.out) | exact HB.out)))); have n7_ := Ω5_8 (blk_below (g := gb375) (o := .cells #[.slice Ao14 t368.length co14, .slice Ao16 t371.length co16] 39 (0, 0)) (by (with_reducible repeat (first | refine blk_drewN ?_ _ | refine blk_drew ?_ | refine blk_alloc ?_ _)); exact BK375.out) hb); have n8_ := Ω5_8 (below_step (by repeat (first | (with_reducible first | exact HB.out | apply Ω6_8 | apply Ω7_8 | apply Ω8_8 | refine below_set ?_ GE375.out) | exact HB.out)) hb); clear HO370; clear HO373; clear HO378; clear HO381; clear HO384; clear BK375; clear HB; have HO370 := n0_; have HO373 := n1_; have HO378 := n2_; have HO381 := n3_; have HO384 := n4_; have HO387 := n5_; have HO390 := n6_; have BK375 := n7_; have HB := n8_; clear n0_ n1_ n2_ n3_ n4_ n5_ n6_ n7_ n8_; (try clear hb); (try clear hb2); (try clear hk); (try clear hi); (try clear ho0); (try clear ho1); obtain ⟨Ao24, co24, eo24⟩ := Kd.R_slice HO387.out; subst eo24; have hcz25_0 : w23.cell? ⟨gb375, 0, none⟩ = some (.slice Ao14 t368.length co14) := (blk_cell BK375.out 0).trans rfl; have hcz25_1 : w23.cell? ⟨gb375, 1, none⟩ = some (.slice Ao16 t371.length co16) := (blk_cell BK375.out 1).trans rfl; have hfz25_0 := blk_frozen BK375.out 0; have hfz25_1 := blk_frozen BK375.out 1) | ((with_reducible refine gate_callee (f := 22) rfl ?_); refine goesL_ (some 34) rfl rfl Try.func22 (by kernel_rfl) rfl #[.agg #[.slice Ao14 t368.length co14, .slice Ao16 t371.length co16], .int .i64 t374] rfl (by (try simp only [List.map_toArray, List.map_cons, List.map_nil]); first | done | rfl | (simp only [List.length_drop, List.length_take]; rfl)) ?_; (with_reducible refine (impl_Route.calls k _ _ t368 _ _ t371 t374 t391 t394 _ ?side1 ?side2 ?side3 ?side4 A8.out).mono ?_); (case side1 => repeat (first | exact (Kd.R_reads' HO370.out).2.2 | (with_reducible refine Kd.C_alloc ?_ _) | (with_reducible refine Kd.C_drewN ?_ _) | (with_reducible refine Kd.C_drew ?_))); (case side2 => exact (Kd.R_reads' HO370.out).2.1); (case side3 => repeat (first | exact (Kd.R_reads' HO373.out).2.2 | (with_reducible refine Kd.C_alloc ?_ _) | (with_reducible refine Kd.C_drewN ?_ _) | (with_reducible refine Kd.C_drew ?_))); (case side4 => exact (Kd.R_reads' HO373.out).2.1); rintro e w26 ⟨v392, v395, rfl, ho0, ho1, hb⟩; refine ⟨_, rfl, ?_⟩; have n0_ := Ω5_8 (ΩE_8 (Kd.R_told (Kd.R_told (Kd.R_old (by (with_reducible repeat (first | apply Ω1_8 | apply Ω2_8 | apply Ω3_8)); exact HO370.out) hb) (Kd.R_base ho0)) (Kd.R_base ho1)) (fun _ h_ => h_.1)); have n1_ := Ω5_8 (ΩE_8 (Kd.R_told (Kd.R_told (Kd.R_old (by (with_reducible repeat (first | apply Ω1_8 | apply Ω2_8 | apply Ω3_8)); exact HO373.out) hb) (Kd.R_base ho0)) (Kd.R_base ho1)) (fun _ h_ => h_.1)); have n2_ := Ω5_8 (ΩE_8 (Kd.R_told (Kd.R_told (Kd.R_old (by (with_reducible repeat (first | apply Ω1_8 | apply Ω2_8 | apply Ω3_8)); exact HO378.out) hb) (Kd.R_base ho0)) (Kd.R_base ho1)) (fun _ h_ => h_.1)); have n3_ := Ω5_8 (ΩE_8 (Kd.R_told (Kd.R_told (Kd.R_old (by (with_reducible repeat (first | apply Ω1_8 | apply Ω2_8 | apply Ω3_8)); exact HO381.out) hb) (Kd.R_base ho0)) (Kd.R_base ho1)) (fun _ h_ => h_.1)); have n4_ := Ω5_8 (ΩE_8 (Kd.R_told (Kd.R_told (Kd.R_old (by (with_reducible repeat (first | apply Ω1_8 | apply Ω2_8 | apply Ω3_8)); exact HO384.out) hb) (Kd.R_base ho0)) (Kd.R_base ho1)) (fun _ h_ => h_.1)); have n5_ := Ω5_8 (ΩE_8 (Kd.R_told (Kd.R_told (Kd.R_old (by (with_reducible repeat (first | apply Ω1_8 | apply Ω2_8 | apply Ω3_8)); exact HO387.out) hb) (Kd.R_base ho0)) (Kd.R_base ho1)) (fun _ h_ => h_.1)); have n6_ := Ω5_8 (ΩE_8 (Kd.R_told (Kd.R_told (Kd.R_old (by (with_reducible repeat (first | apply Ω1_8 | apply Ω2_8 | apply Ω3_8)); exact HO390.out) hb) (Kd.R_base ho0)) (Kd.R_base ho1)) (fun _ h_ => h_.1)); have n7_ := Ω5_8 (Kd.R_lower (Kd.R_new' (Kd.R_new' (Kd.R_new' (Kd.R_new' (Kd.R_new' (Kd.R_new' (Kd.R_new' ho0 (Kd.R_lt (by (with_reducible repeat (first | apply Ω1_8 | apply Ω2_8 | apply Ω3_8)); exact HO370.out))) (Kd.R_lt (by (with_reducible repeat (first | apply Ω1_8 | apply Ω2_8 | apply Ω3_8)); exact HO373.out))) (Kd.R_lt (by (with_reducible repeat (first | apply Ω1_8 | apply Ω2_8 | apply Ω3_8)); exact HO378.out))) (Kd.R_lt (by (with_reducible repeat (first | apply Ω1_8 | apply Ω2_8 | apply Ω3_8)); exact HO381.out))) (Kd.R_lt (by (with_reducible repeat (first | apply Ω1_8 | apply Ω2_8 | apply Ω3_8)); exact HO384.out))) (Kd.R_lt (by (with_reducible repeat (first | apply Ω1_8 | apply Ω2_8 | apply Ω3_8)); exact HO387.out))) (Kd.R_lt (by (with_reducible repeat (first | apply Ω1_8 | apply Ω2_8 | apply Ω3_8)); exact HO390.out))) (below_size (by repeat (first | (with_reducible first | exact HB.out | apply Ω6_8 | apply Ω7_8 | apply Ω8_8 | refine below_set ?_ GE375.out) | exact HB.out)))); have n8_ := Ω5_8 (Kd.R_lower (Kd.R_new' (Kd.R_new' (Kd.R_new' (Kd.R_new' (Kd.R_new' (Kd.R_new' (Kd.R_new' ho1 (Kd.R_lt (by (with_reducible repeat (first | apply Ω1_8 | apply Ω2_8 | apply Ω3_8)); exact HO370.out))) (Kd.R_lt (by (with_reducible repeat (first | apply Ω1_8 | apply Ω2_8 | apply Ω3_8)); exact HO373.out))) (Kd.R_lt (by (with_reducible repeat (first | apply Ω1_8 | apply Ω2_8 | apply Ω3_8)); exact HO378.out))) (Kd.R_lt (by (with_reducible repeat (first | apply Ω1_8 | apply Ω2_8 | apply Ω3_8)); exact HO381.out))) (Kd.R_lt (by (with_reducible repeat (first | apply Ω1_8 | apply Ω2_8 | apply Ω3_8)); exact HO384.out))) (Kd.R_lt (by (with_reducible repeat (first | apply Ω1_8 | apply Ω2_8 | apply Ω3_8)); exact HO387.out))) (Kd.R_lt (by (with_reducible repeat (first | apply Ω1_8 | apply Ω2_8 | apply Ω3_8)); exact HO390.out))) (below_size (by repeat (first | (with_reducible first | exact HB.out | apply Ω6_8 | apply Ω7_8 | apply Ω8_8 | refine below_set ?_ GE375.out) | exact HB.out)))); have n9_ := Ω5_8 (blk_below (g := gb375) (o := .cells #[.slice Ao14 t368.length co14, .slice Ao16 t371.length co16] 39 (0, 0)) (by (with_reducible repeat (first | refine blk_drewN ?_ _ | refine blk_drew ?_ | refine blk_alloc ?_ _)); exact BK375.out) hb); have n10_ := Ω5_8 (below_step (by repeat (first | (with_reducible first | exact HB.out | apply Ω6_8 | apply Ω7_8 | apply Ω8_8 | refine below_set ?_ GE375.out) | exact HB.out)) hb); clear HO370; clear HO373; clear HO378; clear HO381; clear HO384; clear HO387; clear HO390; clear BK375; clear HB; have HO370 := n0_; have HO373 := n1_; have HO378 := n2_; have HO381 := n3_; have HO384 := n4_; have HO387 := n5_; have HO390 := n6_; have HO393 := n7_; have HO396 := n8_; have BK375 := n9_; have HB := n10_; clear n0_ n1_ n2_ n3_ n4_ n5_ n6_ n7_ n8_ n9_ n10_; (try clear hb); (try clear hb2); (try clear hk); (try clear hi); (try clear ho0); (try clear ho1); have hcz27_0 : w26.cell? ⟨gb375, 0, none⟩ = some (.slice Ao14 t368.length co14) := (blk_cell BK375.out 0).trans rfl; have hcz27_1 : w26.cell? ⟨gb375, 1, none⟩ = some (.slice Ao16 t371.length co16) := (blk_cell BK375.out 1).trans rfl; have hfz27_0 := blk_frozen BK375.out 0; have hfz27_1 := blk_frozen BK375.out 1) | ((with_reducible refine gate_callee (f := 24) rfl ?_); refine goesL_ (some 40) rfl rfl Try.func24 (by kernel_rfl) rfl #[.agg #[.slice Ao14 t368.length co14, .slice Ao16 t371.length co16], .int .i64 t374] rfl (by (try simp only [List.map_toArray, List.map_cons, List.map_nil]); first | done | rfl | (simp only [List.length_drop, List.length_take]; rfl)) ?_; (with_reducible refine (spec_Route.calls k _ _ t368 _ _ t371 t374 t397 t400 _ ?side1 ?side2 ?side3 ?side4 A9.out).mono ?_); (case side1 => repeat (first | exact (Kd.R_reads' HO370.out).2.2 | (with_reducible refine Kd.C_alloc ?_ _) | (with_reducible refine Kd.C_drewN ?_ _) | (with_reducible refine Kd.C_drew ?_))); (case side2 => exact (Kd.R_reads' HO370.out).2.1); (case side3 => repeat (first | exact (Kd.R_reads' HO373.out).2.2 | (with_reducible refine Kd.C_alloc ?_ _) | (with_reducible refine Kd.C_drewN ?_ _) | (with_reducible refine Kd.C_drew ?_))); (case side4 => exact (Kd.R_reads' HO373.out).2.1); rintro e w28 ⟨v398, v401, rfl, ho0, ho1, hb⟩; refine ⟨_, rfl, ?_⟩; have n0_ := Ω5_8 (ΩE_8 (Kd.R_told (Kd.R_told (Kd.R_old (by (with_reducible repeat (first | apply Ω1_8 | apply Ω2_8 | apply Ω3_8)); exact HO370.out) hb) (Kd.R_base ho0)) (Kd.R_base ho1)) (fun _ h_ => h_.1)); have n1_ := Ω5_8 (ΩE_8 (Kd.R_told (Kd.R_told (Kd.R_old (by (with_reducible repeat (first | apply Ω1_8 | apply Ω2_8 | apply Ω3_8)); exact HO373.out) hb) (Kd.R_base ho0)) (Kd.R_base ho1)) (fun _ h_ => h_.1)); have n2_ := Ω5_8 (ΩE_8 (Kd.R_told (Kd.R_told (Kd.R_old (by (with_reducible repeat (first | apply Ω1_8 | apply Ω2_8 | apply Ω3_8)); exact HO378.out) hb) (Kd.R_base ho0)) (Kd.R_base ho1)) (fun _ h_ => h_.1)); have n3_ := Ω5_8 (ΩE_8 (Kd.R_told (Kd.R_told (Kd.R_old (by (with_reducible repeat (first | apply Ω1_8 | apply Ω2_8 | apply Ω3_8)); exact HO381.out) hb) (Kd.R_base ho0)) (Kd.R_base ho1)) (fun _ h_ => h_.1)); have n4_ := Ω5_8 (ΩE_8 (Kd.R_told (Kd.R_told (Kd.R_old (by (with_reducible repeat (first | apply Ω1_8 | apply Ω2_8 | apply Ω3_8)); exact HO384.out) hb) (Kd.R_base ho0)) (Kd.R_base ho1)) (fun _ h_ => h_.1)); have n5_ := Ω5_8 (ΩE_8 (Kd.R_told (Kd.R_told (Kd.R_old (by (with_reducible repeat (first | apply Ω1_8 | apply Ω2_8 | apply Ω3_8)); exact HO387.out) hb) (Kd.R_base ho0)) (Kd.R_base ho1)) (fun _ h_ => h_.1)); have n6_ := Ω5_8 (ΩE_8 (Kd.R_told (Kd.R_told (Kd.R_old (by (with_reducible repeat (first | apply Ω1_8 | apply Ω2_8 | apply Ω3_8)); exact HO390.out) hb) (Kd.R_base ho0)) (Kd.R_base ho1)) (fun _ h_ => h_.1)); have n7_ := Ω5_8 (ΩE_8 (Kd.R_told (Kd.R_told (Kd.R_old (by (with_reducible repeat (first | apply Ω1_8 | apply Ω2_8 | apply Ω3_8)); exact HO393.out) hb) (Kd.R_base ho0)) (Kd.R_base ho1)) (fun _ h_ => h_.1)); have n8_ := Ω5_8 (ΩE_8 (Kd.R_told (Kd.R_told (Kd.R_old (by (with_reducible repeat (first | apply Ω1_8 | apply Ω2_8 | apply Ω3_8)); exact HO396.out) hb) (Kd.R_base ho0)) (Kd.R_base ho1)) (fun _ h_ => h_.1)); have n9_ := Ω5_8 (Kd.R_lower (Kd.R_new' (Kd.R_new' (Kd.R_new' (Kd.R_new' (Kd.R_new' (Kd.R_new' (Kd.R_new' (Kd.R_new' (Kd.R_new' ho0 (Kd.R_lt (by (with_reducible repeat (first | apply Ω1_8 | apply Ω2_8 | apply Ω3_8)); exact HO370.out))) (Kd.R_lt (by (with_reducible repeat (first | apply Ω1_8 | apply Ω2_8 | apply Ω3_8)); exact HO373.out))) (Kd.R_lt (by (with_reducible repeat (first | apply Ω1_8 | apply Ω2_8 | apply Ω3_8)); exact HO378.out))) (Kd.R_lt (by (with_reducible repeat (first | apply Ω1_8 | apply Ω2_8 | apply Ω3_8)); exact HO381.out))) (Kd.R_lt (by (with_reducible repeat (first | apply Ω1_8 | apply Ω2_8 | apply Ω3_8)); exact HO384.out))) (Kd.R_lt (by (with_reducible repeat (first | apply Ω1_8 | apply Ω2_8 | apply Ω3_8)); exact HO387.out))) (Kd.R_lt (by (with_reducible repeat (first | apply Ω1_8 | apply Ω2_8 | apply Ω3_8)); exact HO390.out))) (Kd.R_lt (by (with_reducible repeat (first | apply Ω1_8 | apply Ω2_8 | apply Ω3_8)); exact HO393.out))) (Kd.R_lt (by (with_reducible repeat (first | apply Ω1_8 | apply Ω2_8 | apply Ω3_8)); exact HO396.out))) (below_size (by repeat (first | (with_reducible first | exact HB.out | apply Ω6_8 | apply Ω7_8 | apply Ω8_8 | refine below_set ?_ GE375.out) | exact HB.out)))); have n10_ := Ω5_8 (Kd.R_lower (Kd.R_new' (Kd.R_new' (Kd.R_new' (Kd.R_new' (Kd.R_new' (Kd.R_new' (Kd.R_new' (Kd.R_new' (Kd.R_new' ho1 (Kd.R_lt (by (with_reducible repeat (first | apply Ω1_8 | apply Ω2_8 | apply Ω3_8)); exact HO370.out))) (Kd.R_lt (by (with_reducible repeat (first | apply Ω1_8 | apply Ω2_8 | apply Ω3_8)); exact HO373.out))) (Kd.R_lt (by (with_reducible repeat (first | apply Ω1_8 | apply Ω2_8 | apply Ω3_8)); exact HO378.out))) (Kd.R_lt (by (with_reducible repeat (first | apply Ω1_8 | apply Ω2_8 | apply Ω3_8)); exact HO381.out))) (Kd.R_lt (by (with_reducible repeat (first | apply Ω1_8 | apply Ω2_8 | apply Ω3_8)); exact HO384.out))) (Kd.R_lt (by (with_reducible repeat (first | apply Ω1_8 | apply Ω2_8 | apply Ω3_8)); exact HO387.out))) (Kd.R_lt (by (with_reducible repeat (first | apply Ω1_8 | apply Ω2_8 | apply Ω3_8)); exact HO390.out))) (Kd.R_lt (by (with_reducible repeat (first | apply Ω1_8 | apply Ω2_8 | apply Ω3_8)); exact HO393.out))) (Kd.R_lt (by (with_reducible repeat (first | apply Ω1_8 | apply Ω2_8 | apply Ω3_8)); exact HO396.out))) (below_size (by repeat (first | (with_reducible first | exact HB.out | apply Ω6_8 | apply Ω7_8 | apply Ω8_8 | refine below_set ?_ GE375.out) | exact HB.out)))); have n11_ := Ω5_8 (blk_below (g := gb375) (o := .cells #[.slice Ao14 t368.length co14, .slice Ao16 t371.length co16] 39 (0, 0)) (by (with_reducible repeat (first | refine blk_drewN ?_ _ | refine blk_drew ?_ | refine blk_alloc ?_ _)); exact BK375.out) hb); have n12_ := Ω5_8 (below_step (by repeat (first | (with_reducible first | exact HB.out | apply Ω6_8 | apply Ω7_8 | apply Ω8_8 | refine below_set ?_ GE375.out) | exact HB.out)) hb); clear HO370; clear HO373; clear HO378; clear HO381; clear HO384; clear HO387; clear HO390; clear HO393; clear HO396; clear BK375; clear HB; have HO370 := n0_; have HO373 := n1_; have HO378 := n2_; have HO381 := n3_; have HO384 := n4_; have HO387 := n5_; have HO390 := n6_; have HO393 := n7_; have HO396 := n8_; have HO399 := n9_; have HO402 := n10_; have BK375 := n11_; have HB := n12_; clear n0_ n1_ n2_ n3_ n4_ n5_ n6_ n7_ n8_ n9_ n10_ n11_ n12_; (try clear hb); (try clear hb2); (try clear hk); (try clear hi); (try clear ho0); (try clear ho1); obtain ⟨Ao29, co29, eo29⟩ := Kd.R_slice HO393.out; subst eo29; obtain ⟨Ao30, co30, eo30⟩ := Kd.R_slice HO399.out; subst eo30; obtain ⟨Ao31, co31, eo31⟩ := Kd.R_slice HO396.out; subst eo31))
     go_ret
     exact ⟨by first | rfl | (simp [errW_none, errW_some] <;> rfl) | (simp [*, errW_none, errW_some] <;> rfl), by repeat (first | (with_reducible first | exact HB.out | apply Ω6_8 | apply Ω7_8 | apply Ω8_8 | refine below_set ?_ GE375.out) | exact HB.out)⟩
    ·rw [if_neg c11] at H
     have c11b0 : ((t391.length : Int) == 0) = false := beq_eq_false_iff_ne.mpr c11
     have c11b1 : ((t391.length : Int) != 0) = true := bne_iff_ne.mpr c11
     have c11b2 : ¬ (t391 = []) := fun h_ => c11 (by rw [h_]; rfl)
     by_cases c32 : 1 < (t368.length : Int)
     ·rw [if_pos c32] at H
      have c32b0 : decide (1 < (t368.length : Int)) = true := decide_eq_true c32
      have c32b1 : decide (1 < t368.length) = true := decide_eq_true (by omega)
      clear c32
      by_cases c33 : 0 ≤ (rd t368 1)
      ·rw [if_pos c33] at H
       have c33b0 := eq_true c33
       have c33b1 : decide (0 ≤ (rd t368 1)) = true := decide_eq_true c33
       clear c33
       by_cases c34 : (rd t368 1 : Int).toNat ≤ 35184372088832
       ·rw [if_pos c34] at H
        have c34b0 := eq_true c34
        have c34b1 : decide ((rd t368 1 : Int).toNat ≤ 35184372088832) = true := decide_eq_true c34
        clear c34
        obtain ⟨y404, hy404⟩ : ∃ y_ : List Int, y_ = (List.replicate (rd t368 1 : Int).toNat 0) := ⟨_, rfl⟩
        replace H : (laws_FnRouted.l0 k t374 t391 t394 (rd t368 1) y404 0 t368 t371) = some r := by first | (rw [hy404]; with_reducible exact H) | (have H2_ := (Option.bind_some _ _).symm.trans H; rw [hy404]; with_reducible exact H2_) | (have H2_ := (Option.bind_some _ _).symm.trans H; with_reducible exact H2_) | with_reducible exact H | (rw [hy404]; exact H) | exact H
        have Ny404 := Ω5_8 hy404
        clear hy404
        have H' := Ω5_8 H
        clear H
        go_enter Try.func6, Try.ntmps6
        go_wp2_with (first | ((with_reducible refine gate_callee (f := 20) rfl ?_); refine goesL_ (some 16) rfl rfl Try.func20 (by kernel_rfl) rfl #[.slice A0 l0.length c0] rfl (by (try simp only [List.map_toArray, List.map_cons, List.map_nil]); first | done | rfl | (simp only [List.length_drop, List.length_take]; rfl)) ?_; (with_reducible refine (laws_big.calls _ _ l0 false _ ?side1 ?side2 A2.out).mono ?_); (case side1 => repeat (first | exact HR0.out | (with_reducible refine Kd.C_alloc ?_ _) | (with_reducible refine Kd.C_drewN ?_ _) | (with_reducible refine Kd.C_drew ?_))); (case side2 => exact HC0.out); rintro e w' ⟨rfl, ⟨nd, rfl⟩⟩; refine ⟨_, rfl, ?_⟩) | ((with_reducible refine gate_callee (f := 21) rfl ?_); refine goesL_ (some 19) rfl rfl Try.func21 (by kernel_rfl) rfl #[.slice A0 l0.length c0] rfl (by (try simp only [List.map_toArray, List.map_cons, List.map_nil]); first | done | rfl | (simp only [List.length_drop, List.length_take]; rfl)) ?_; (with_reducible refine (spec_DrawRoute.calls k _ _ l0 t368 t371 t374 _ ?side1 ?side2 A4.out).mono ?_); (case side1 => repeat (first | exact HR0.out | (with_reducible refine Kd.C_alloc ?_ _) | (with_reducible refine Kd.C_drewN ?_ _) | (with_reducible refine Kd.C_drew ?_))); (case side2 => exact HC0.out); rintro e w35 ⟨v369, v372, rfl, ho0, ho1, hb⟩; refine ⟨_, rfl, ?_⟩; have n0_ := Ω5_8 (Kd.R_lower ho0 (below_size (by repeat (first | (with_reducible first | exact HB.out | apply Ω6_8 | apply Ω7_8 | apply Ω8_8) | exact HB.out)))); have n1_ := Ω5_8 (Kd.R_lower ho1 (below_size (by repeat (first | (with_reducible first | exact HB.out | apply Ω6_8 | apply Ω7_8 | apply Ω8_8) | exact HB.out)))); have n2_ := Ω5_8 (below_step (by repeat (first | (with_reducible first | exact HB.out | apply Ω6_8 | apply Ω7_8 | apply Ω8_8) | exact HB.out)) hb); clear HB; have HO370 := n0_; have HO373 := n1_; have HB := n2_; clear n0_ n1_ n2_; (try clear hb); (try clear hb2); (try clear hk); (try clear hi); (try clear ho0); (try clear ho1)) | ((with_reducible refine gate_dst (N := 3) rfl ?_); (try (refine gate_guard (by rfl) ?_; dsimp only)); refine box_event ?hg (N := 3) ?hd (cs := #[.slice none 0 0, .slice none 0 0]) (t := 39) ?hr ?_; (case hd => rfl); (case hg => rfl); (case hr => first | (go_simp; done) | (go_simp; rfl)); intro gb375 hg w36 hbox hb; have n0_ := Ω5_8 (Kd.R_below (by (with_reducible repeat (first | apply Ω1_8 | apply Ω2_8 | apply Ω3_8)); exact HO370.out) hb); have n1_ := Ω5_8 (Kd.R_below (by (with_reducible repeat (first | apply Ω1_8 | apply Ω2_8 | apply Ω3_8)); exact HO373.out) hb); have n2_ := Ω5_8 (below_step (by repeat (first | (with_reducible first | exact HB.out | apply Ω6_8 | apply Ω7_8 | apply Ω8_8) | exact HB.out)) hb); have n3_ := Ω5_8 (hbox); have n4_ := Ω5_8 ((by rw [hg]; exact (below_size (by repeat (first | (with_reducible first | exact HB.out | apply Ω6_8 | apply Ω7_8 | apply Ω8_8) | exact HB.out))) : w.heap.size ≤ gb375)); have n5_ := Ω5_8 ((by rw [hg]; exact (below_size (by repeat (first | (with_reducible first | exact HB.out | apply Ω6_8 | apply Ω7_8 | apply Ω8_8) | exact HB.out))) : w.heap.size ≤ gb375)); clear HO370; clear HO373; clear HB; have HO370 := n0_; have HO373 := n1_; have HB := n2_; have BK375 := n3_; have GW375 := n4_; have GE375 := n5_; clear n0_ n1_ n2_ n3_ n4_ n5_; clear hb hbox hg; obtain ⟨Ao37, co37, eo37⟩ := Kd.R_slice HO370.out; subst eo37; have hcz38_0 : w36.cell? ⟨gb375, 0, none⟩ = some (.slice none 0 0) := (blk_cell BK375.out 0).trans rfl; have hcz38_1 : w36.cell? ⟨gb375, 1, none⟩ = some (.slice none 0 0) := (blk_cell BK375.out 1).trans rfl; have hfz38_0 := blk_frozen BK375.out 0; have hfz38_1 := blk_frozen BK375.out 1; obtain ⟨Ao39, co39, eo39⟩ := Kd.R_slice HO373.out; subst eo39) | ((with_reducible refine gate_dst (N := 23) rfl ?_); (try (refine gate_guard (by rfl) ?_; dsimp only)); refine Kd.R_lit (Kd.int .i64) _ 3 ?hg (N := 23) ?hd (xs := ([1, 1] : List Int)) (inner := [.int .i64 1, .int .i64 1]) (ok := fun _ => True) (okp := fun _ => True) ?hr ?hp (fun _ hk => hk) trivial (Below.refl _ _) (Nat.le_refl _) (by simp) ?_; (case hd => rfl); (case hg => rfl); (case hr => first | (go_simp; done) | (go_simp; rfl)); (case hp => exact (Reps.one (show Kd.M (Kd.int .i64) _ _ _ 1 [.int .i64 1] from rfl) (Reps.one (show Kd.M (Kd.int .i64) _ _ _ 1 [.int .i64 1] from rfl) (Reps.none _ _)))); intro v377 w40 ho41 hb hg_ hnew_; clear hg_ hnew_; (first | rw [← Ny376.out] at ho41 | (simp only [Int.reduceToNat] at ho41; rw [← Ny376.out] at ho41)); have n0_ := Ω5_8 (Kd.R_elder' (by (with_reducible repeat (first | apply Ω1_8 | apply Ω2_8 | apply Ω3_8)); exact (ΩE_8 (Kd.R_far (p := ⟨gb375, 1, none⟩) (Kd.R_far (p := ⟨gb375, 0, none⟩) (Kd.R_types HO370.out BK375.out (by decide)) (fun _ hk => hk.2) (.slice Ao37 t368.length co37)) (fun _ hk => hk.2) (.slice Ao39 t371.length co39)) (fun _ h_ => h_.1))) (Kd.R_base ho41) hb); have n1_ := Ω5_8 (Kd.R_elder' (by (with_reducible repeat (first | apply Ω1_8 | apply Ω2_8 | apply Ω3_8)); exact (ΩE_8 (Kd.R_far (p := ⟨gb375, 1, none⟩) (Kd.R_far (p := ⟨gb375, 0, none⟩) (Kd.R_types HO373.out BK375.out (by decide)) (fun _ hk => hk.2) (.slice Ao37 t368.length co37)) (fun _ hk => hk.2) (.slice Ao39 t371.length co39)) (fun _ h_ => h_.1))) (Kd.R_base ho41) hb); have n2_ := Ω5_8 (Kd.R_lower (Kd.R_new' (Kd.R_new' ho41 (Kd.R_lt (by (with_reducible repeat (first | apply Ω1_8 | apply Ω2_8 | apply Ω3_8)); exact (ΩE_8 (Kd.R_far (p := ⟨gb375, 1, none⟩) (Kd.R_far (p := ⟨gb375, 0, none⟩) (Kd.R_types HO370.out BK375.out (by decide)) (fun _ hk => hk.2) (.slice Ao37 t368.length co37)) (fun _ hk => hk.2) (.slice Ao39 t371.length co39)) (fun _ h_ => h_.1))))) (Kd.R_lt (by (with_reducible repeat (first | apply Ω1_8 | apply Ω2_8 | apply Ω3_8)); exact (ΩE_8 (Kd.R_far (p := ⟨gb375, 1, none⟩) (Kd.R_far (p := ⟨gb375, 0, none⟩) (Kd.R_types HO373.out BK375.out (by decide)) (fun _ hk => hk.2) (.slice Ao37 t368.length co37)) (fun _ hk => hk.2) (.slice Ao39 t371.length co39)) (fun _ h_ => h_.1))))) (below_size (by repeat (first | (with_reducible first | exact HB.out | apply Ω6_8 | apply Ω7_8 | apply Ω8_8 | refine below_set ?_ GE375.out) | exact HB.out)))); have n3_ := Ω5_8 (blk_below (g := gb375) (o := .cells #[.slice Ao37 t368.length co37, .slice Ao39 t371.length co39] 39 (0, 0)) (by (with_reducible repeat (first | refine blk_drewN ?_ _ | refine blk_drew ?_ | refine blk_alloc ?_ _)); refine blk_put (cs := #[.slice Ao37 t368.length co37, .slice none 0 0]) ?_ 1 _ rfl; (with_reducible repeat (first | refine blk_drewN ?_ _ | refine blk_drew ?_ | refine blk_alloc ?_ _)); refine blk_put (cs := #[.slice none 0 0, .slice none 0 0]) ?_ 0 _ rfl; (with_reducible repeat (first | refine blk_drewN ?_ _ | refine blk_drew ?_ | refine blk_alloc ?_ _)); exact BK375.out) hb); have n4_ := Ω5_8 (below_step (by repeat (first | (with_reducible first | exact HB.out | apply Ω6_8 | apply Ω7_8 | apply Ω8_8 | refine below_set ?_ GE375.out) | exact HB.out)) hb); clear HO370; clear HO373; clear BK375; clear HB; have HO370 := n0_; have HO373 := n1_; have HO378 := n2_; have BK375 := n3_; have HB := n4_; clear n0_ n1_ n2_ n3_ n4_; clear hb ho41; obtain ⟨Ao42, co42, eo42⟩ := Kd.R_slice HO378.out; subst eo42) | ((with_reducible refine gate_callee (f := 23) rfl ?_); refine goesL_ (some 24) rfl rfl Try.func23 (by kernel_rfl) rfl #[.slice Ao42 y376.length co42, .int .i64 0] rfl (by (try simp only [List.map_toArray, List.map_cons, List.map_nil]); first | done | rfl | (simp only [List.length_drop, List.length_take]; rfl)) ?_; (with_reducible refine (impl_Fill.calls k _ _ y376 0 t379 t382 _ ?side1 ?side2 A5.out).mono ?_); (case side1 => repeat (first | exact (Kd.R_reads' HO378.out).2.2 | (with_reducible refine Kd.C_alloc ?_ _) | (with_reducible refine Kd.C_drewN ?_ _) | (with_reducible refine Kd.C_drew ?_))); (case side2 => exact (Kd.R_reads' HO378.out).2.1); rintro e w43 ⟨v380, v383, rfl, ho0, ho1, hb⟩; refine ⟨_, rfl, ?_⟩; have n0_ := Ω5_8 (ΩE_8 (Kd.R_told (Kd.R_told (Kd.R_old (by (with_reducible repeat (first | apply Ω1_8 | apply Ω2_8 | apply Ω3_8)); exact HO370.out) hb) (Kd.R_base ho0)) (Kd.R_base ho1)) (fun _ h_ => h_.1)); have n1_ := Ω5_8 (ΩE_8 (Kd.R_told (Kd.R_told (Kd.R_old (by (with_reducible repeat (first | apply Ω1_8 | apply Ω2_8 | apply Ω3_8)); exact HO373.out) hb) (Kd.R_base ho0)) (Kd.R_base ho1)) (fun _ h_ => h_.1)); have n2_ := Ω5_8 (ΩE_8 (Kd.R_told (Kd.R_told (Kd.R_old (by (with_reducible repeat (first | apply Ω1_8 | apply Ω2_8 | apply Ω3_8)); exact HO378.out) hb) (Kd.R_base ho0)) (Kd.R_base ho1)) (fun _ h_ => h_.1)); have n3_ := Ω5_8 (Kd.R_lower (Kd.R_new' (Kd.R_new' (Kd.R_new' ho0 (Kd.R_lt (by (with_reducible repeat (first | apply Ω1_8 | apply Ω2_8 | apply Ω3_8)); exact HO370.out))) (Kd.R_lt (by (with_reducible repeat (first | apply Ω1_8 | apply Ω2_8 | apply Ω3_8)); exact HO373.out))) (Kd.R_lt (by (with_reducible repeat (first | apply Ω1_8 | apply Ω2_8 | apply Ω3_8)); exact HO378.out))) (below_size (by repeat (first | (with_reducible first | exact HB.out | apply Ω6_8 | apply Ω7_8 | apply Ω8_8 | refine below_set ?_ GE375.out) | exact HB.out)))); have n4_ := Ω5_8 (Kd.R_lower (Kd.R_new' (Kd.R_new' (Kd.R_new' ho1 (Kd.R_lt (by (with_reducible repeat (first | apply Ω1_8 | apply Ω2_8 | apply Ω3_8)); exact HO370.out))) (Kd.R_lt (by (with_reducible repeat (first | apply Ω1_8 | apply Ω2_8 | apply Ω3_8)); exact HO373.out))) (Kd.R_lt (by (with_reducible repeat (first | apply Ω1_8 | apply Ω2_8 | apply Ω3_8)); exact HO378.out))) (below_size (by repeat (first | (with_reducible first | exact HB.out | apply Ω6_8 | apply Ω7_8 | apply Ω8_8 | refine below_set ?_ GE375.out) | exact HB.out)))); have n5_ := Ω5_8 (blk_below (g := gb375) (o := .cells #[.slice Ao37 t368.length co37, .slice Ao39 t371.length co39] 39 (0, 0)) (by (with_reducible repeat (first | refine blk_drewN ?_ _ | refine blk_drew ?_ | refine blk_alloc ?_ _)); exact BK375.out) hb); have n6_ := Ω5_8 (below_step (by repeat (first | (with_reducible first | exact HB.out | apply Ω6_8 | apply Ω7_8 | apply Ω8_8 | refine below_set ?_ GE375.out) | exact HB.out)) hb); clear HO370; clear HO373; clear HO378; clear BK375; clear HB; have HO370 := n0_; have HO373 := n1_; have HO378 := n2_; have HO381 := n3_; have HO384 := n4_; have BK375 := n5_; have HB := n6_; clear n0_ n1_ n2_ n3_ n4_ n5_ n6_; (try clear hb); (try clear hb2); (try clear hk); (try clear hi); (try clear ho0); (try clear ho1); obtain ⟨Ao44, co44, eo44⟩ := Kd.R_slice HO381.out; subst eo44; obtain ⟨Ao45, co45, eo45⟩ := Kd.R_slice HO384.out; subst eo45) | ((with_reducible refine gate_callee (f := 22) rfl ?_); refine goesL_ (some 25) rfl rfl Try.func22 (by kernel_rfl) rfl #[.agg #[.slice Ao44 t379.length co44, .slice Ao45 t382.length co45], .int .i64 1] rfl (by (try simp only [List.map_toArray, List.map_cons, List.map_nil]); first | done | rfl | (simp only [List.length_drop, List.length_take]; rfl)) ?_; (with_reducible refine (impl_Route.calls k _ _ t379 _ _ t382 1 t385 t388 _ ?side1 ?side2 ?side3 ?side4 A6.out).mono ?_); (case side1 => repeat (first | exact (Kd.R_reads' HO381.out).2.2 | (with_reducible refine Kd.C_alloc ?_ _) | (with_reducible refine Kd.C_drewN ?_ _) | (with_reducible refine Kd.C_drew ?_))); (case side2 => exact (Kd.R_reads' HO381.out).2.1); (case side3 => repeat (first | exact (Kd.R_reads' HO384.out).2.2 | (with_reducible refine Kd.C_alloc ?_ _) | (with_reducible refine Kd.C_drewN ?_ _) | (with_reducible refine Kd.C_drew ?_))); (case side4 => exact (Kd.R_reads' HO384.out).2.1); rintro e w46 ⟨v386, v389, rfl, ho0, ho1, hb⟩; refine ⟨_, rfl, ?_⟩; have n0_ := Ω5_8 (ΩE_8 (Kd.R_told (Kd.R_told (Kd.R_old (by (with_reducible repeat (first | apply Ω1_8 | apply Ω2_8 | apply Ω3_8)); exact HO370.out) hb) (Kd.R_base ho0)) (Kd.R_base ho1)) (fun _ h_ => h_.1)); have n1_ := Ω5_8 (ΩE_8 (Kd.R_told (Kd.R_told (Kd.R_old (by (with_reducible repeat (first | apply Ω1_8 | apply Ω2_8 | apply Ω3_8)); exact HO373.out) hb) (Kd.R_base ho0)) (Kd.R_base ho1)) (fun _ h_ => h_.1)); have n2_ := Ω5_8 (ΩE_8 (Kd.R_told (Kd.R_told (Kd.R_old (by (with_reducible repeat (first | apply Ω1_8 | apply Ω2_8 | apply Ω3_8)); exact HO378.out) hb) (Kd.R_base ho0)) (Kd.R_base ho1)) (fun _ h_ => h_.1)); have n3_ := Ω5_8 (ΩE_8 (Kd.R_told (Kd.R_told (Kd.R_old (by (with_reducible repeat (first | apply Ω1_8 | apply Ω2_8 | apply Ω3_8)); exact HO381.out) hb) (Kd.R_base ho0)) (Kd.R_base ho1)) (fun _ h_ => h_.1)); have n4_ := Ω5_8 (ΩE_8 (Kd.R_told (Kd.R_told (Kd.R_old (by (with_reducible repeat (first | apply Ω1_8 | apply Ω2_8 | apply Ω3_8)); exact HO384.out) hb) (Kd.R_base ho0)) (Kd.R_base ho1)) (fun _ h_ => h_.1)); have n5_ := Ω5_8 (Kd.R_lower (Kd.R_new' (Kd.R_new' (Kd.R_new' (Kd.R_new' (Kd.R_new' ho0 (Kd.R_lt (by (with_reducible repeat (first | apply Ω1_8 | apply Ω2_8 | apply Ω3_8)); exact HO370.out))) (Kd.R_lt (by (with_reducible repeat (first | apply Ω1_8 | apply Ω2_8 | apply Ω3_8)); exact HO373.out))) (Kd.R_lt (by (with_reducible repeat (first | apply Ω1_8 | apply Ω2_8 | apply Ω3_8)); exact HO378.out))) (Kd.R_lt (by (with_reducible repeat (first | apply Ω1_8 | apply Ω2_8 | apply Ω3_8)); exact HO381.out))) (Kd.R_lt (by (with_reducible repeat (first | apply Ω1_8 | apply Ω2_8 | apply Ω3_8)); exact HO384.out))) (below_size (by repeat (first | (with_reducible first | exact HB.out | apply Ω6_8 | apply Ω7_8 | apply Ω8_8 | refine below_set ?_ GE375.out) | exact HB.out)))); have n6_ := Ω5_8 (Kd.R_lower (Kd.R_new' (Kd.R_new' (Kd.R_new' (Kd.R_new' (Kd.R_new' ho1 (Kd.R_lt (by (with_reducible repeat (first | apply Ω1_8 | apply Ω2_8 | apply Ω3_8)); exact HO370.out))) (Kd.R_lt (by (with_reducible repeat (first | apply Ω1_8 | apply Ω2_8 | apply Ω3_8)); exact HO373.out))) (Kd.R_lt (by (with_reducible repeat (first | apply Ω1_8 | apply Ω2_8 | apply Ω3_8)); exact HO378.out))) (Kd.R_lt (by (with_reducible repeat (first | apply Ω1_8 | apply Ω2_8 | apply Ω3_8)); exact HO381.out))) (Kd.R_lt (by (with_reducible repeat (first | apply Ω1_8 | apply Ω2_8 | apply Ω3_8)); exact HO384.out))) (below_size (by repeat (first | (with_reducible first | exact HB.out | apply Ω6_8 | apply Ω7_8 | apply Ω8_8 | refine below_set ?_ GE375.out) | exact HB.out)))); have n7_ := Ω5_8 (blk_below (g := gb375) (o := .cells #[.slice Ao37 t368.length co37, .slice Ao39 t371.length co39] 39 (0, 0)) (by (with_reducible repeat (first | refine blk_drewN ?_ _ | refine blk_drew ?_ | refine blk_alloc ?_ _)); exact BK375.out) hb); have n8_ := Ω5_8 (below_step (by repeat (first | (with_reducible first | exact HB.out | apply Ω6_8 | apply Ω7_8 | apply Ω8_8 | refine below_set ?_ GE375.out) | exact HB.out)) hb); clear HO370; clear HO373; clear HO378; clear HO381; clear HO384; clear BK375; clear HB; have HO370 := n0_; have HO373 := n1_; have HO378 := n2_; have HO381 := n3_; have HO384 := n4_; have HO387 := n5_; have HO390 := n6_; have BK375 := n7_; have HB := n8_; clear n0_ n1_ n2_ n3_ n4_ n5_ n6_ n7_ n8_; (try clear hb); (try clear hb2); (try clear hk); (try clear hi); (try clear ho0); (try clear ho1); obtain ⟨Ao47, co47, eo47⟩ := Kd.R_slice HO387.out; subst eo47; have hcz48_0 : w46.cell? ⟨gb375, 0, none⟩ = some (.slice Ao37 t368.length co37) := (blk_cell BK375.out 0).trans rfl; have hcz48_1 : w46.cell? ⟨gb375, 1, none⟩ = some (.slice Ao39 t371.length co39) := (blk_cell BK375.out 1).trans rfl; have hfz48_0 := blk_frozen BK375.out 0; have hfz48_1 := blk_frozen BK375.out 1) | ((with_reducible refine gate_callee (f := 22) rfl ?_); refine goesL_ (some 34) rfl rfl Try.func22 (by kernel_rfl) rfl #[.agg #[.slice Ao37 t368.length co37, .slice Ao39 t371.length co39], .int .i64 t374] rfl (by (try simp only [List.map_toArray, List.map_cons, List.map_nil]); first | done | rfl | (simp only [List.length_drop, List.length_take]; rfl)) ?_; (with_reducible refine (impl_Route.calls k _ _ t368 _ _ t371 t374 t391 t394 _ ?side1 ?side2 ?side3 ?side4 A8.out).mono ?_); (case side1 => repeat (first | exact (Kd.R_reads' HO370.out).2.2 | (with_reducible refine Kd.C_alloc ?_ _) | (with_reducible refine Kd.C_drewN ?_ _) | (with_reducible refine Kd.C_drew ?_))); (case side2 => exact (Kd.R_reads' HO370.out).2.1); (case side3 => repeat (first | exact (Kd.R_reads' HO373.out).2.2 | (with_reducible refine Kd.C_alloc ?_ _) | (with_reducible refine Kd.C_drewN ?_ _) | (with_reducible refine Kd.C_drew ?_))); (case side4 => exact (Kd.R_reads' HO373.out).2.1); rintro e w49 ⟨v392, v395, rfl, ho0, ho1, hb⟩; refine ⟨_, rfl, ?_⟩; have n0_ := Ω5_8 (ΩE_8 (Kd.R_told (Kd.R_told (Kd.R_old (by (with_reducible repeat (first | apply Ω1_8 | apply Ω2_8 | apply Ω3_8)); exact HO370.out) hb) (Kd.R_base ho0)) (Kd.R_base ho1)) (fun _ h_ => h_.1)); have n1_ := Ω5_8 (ΩE_8 (Kd.R_told (Kd.R_told (Kd.R_old (by (with_reducible repeat (first | apply Ω1_8 | apply Ω2_8 | apply Ω3_8)); exact HO373.out) hb) (Kd.R_base ho0)) (Kd.R_base ho1)) (fun _ h_ => h_.1)); have n2_ := Ω5_8 (ΩE_8 (Kd.R_told (Kd.R_told (Kd.R_old (by (with_reducible repeat (first | apply Ω1_8 | apply Ω2_8 | apply Ω3_8)); exact HO378.out) hb) (Kd.R_base ho0)) (Kd.R_base ho1)) (fun _ h_ => h_.1)); have n3_ := Ω5_8 (ΩE_8 (Kd.R_told (Kd.R_told (Kd.R_old (by (with_reducible repeat (first | apply Ω1_8 | apply Ω2_8 | apply Ω3_8)); exact HO381.out) hb) (Kd.R_base ho0)) (Kd.R_base ho1)) (fun _ h_ => h_.1)); have n4_ := Ω5_8 (ΩE_8 (Kd.R_told (Kd.R_told (Kd.R_old (by (with_reducible repeat (first | apply Ω1_8 | apply Ω2_8 | apply Ω3_8)); exact HO384.out) hb) (Kd.R_base ho0)) (Kd.R_base ho1)) (fun _ h_ => h_.1)); have n5_ := Ω5_8 (ΩE_8 (Kd.R_told (Kd.R_told (Kd.R_old (by (with_reducible repeat (first | apply Ω1_8 | apply Ω2_8 | apply Ω3_8)); exact HO387.out) hb) (Kd.R_base ho0)) (Kd.R_base ho1)) (fun _ h_ => h_.1)); have n6_ := Ω5_8 (ΩE_8 (Kd.R_told (Kd.R_told (Kd.R_old (by (with_reducible repeat (first | apply Ω1_8 | apply Ω2_8 | apply Ω3_8)); exact HO390.out) hb) (Kd.R_base ho0)) (Kd.R_base ho1)) (fun _ h_ => h_.1)); have n7_ := Ω5_8 (Kd.R_lower (Kd.R_new' (Kd.R_new' (Kd.R_new' (Kd.R_new' (Kd.R_new' (Kd.R_new' (Kd.R_new' ho0 (Kd.R_lt (by (with_reducible repeat (first | apply Ω1_8 | apply Ω2_8 | apply Ω3_8)); exact HO370.out))) (Kd.R_lt (by (with_reducible repeat (first | apply Ω1_8 | apply Ω2_8 | apply Ω3_8)); exact HO373.out))) (Kd.R_lt (by (with_reducible repeat (first | apply Ω1_8 | apply Ω2_8 | apply Ω3_8)); exact HO378.out))) (Kd.R_lt (by (with_reducible repeat (first | apply Ω1_8 | apply Ω2_8 | apply Ω3_8)); exact HO381.out))) (Kd.R_lt (by (with_reducible repeat (first | apply Ω1_8 | apply Ω2_8 | apply Ω3_8)); exact HO384.out))) (Kd.R_lt (by (with_reducible repeat (first | apply Ω1_8 | apply Ω2_8 | apply Ω3_8)); exact HO387.out))) (Kd.R_lt (by (with_reducible repeat (first | apply Ω1_8 | apply Ω2_8 | apply Ω3_8)); exact HO390.out))) (below_size (by repeat (first | (with_reducible first | exact HB.out | apply Ω6_8 | apply Ω7_8 | apply Ω8_8 | refine below_set ?_ GE375.out) | exact HB.out)))); have n8_ := Ω5_8 (Kd.R_lower (Kd.R_new' (Kd.R_new' (Kd.R_new' (Kd.R_new' (Kd.R_new' (Kd.R_new' (Kd.R_new' ho1 (Kd.R_lt (by (with_reducible repeat (first | apply Ω1_8 | apply Ω2_8 | apply Ω3_8)); exact HO370.out))) (Kd.R_lt (by (with_reducible repeat (first | apply Ω1_8 | apply Ω2_8 | apply Ω3_8)); exact HO373.out))) (Kd.R_lt (by (with_reducible repeat (first | apply Ω1_8 | apply Ω2_8 | apply Ω3_8)); exact HO378.out))) (Kd.R_lt (by (with_reducible repeat (first | apply Ω1_8 | apply Ω2_8 | apply Ω3_8)); exact HO381.out))) (Kd.R_lt (by (with_reducible repeat (first | apply Ω1_8 | apply Ω2_8 | apply Ω3_8)); exact HO384.out))) (Kd.R_lt (by (with_reducible repeat (first | apply Ω1_8 | apply Ω2_8 | apply Ω3_8)); exact HO387.out))) (Kd.R_lt (by (with_reducible repeat (first | apply Ω1_8 | apply Ω2_8 | apply Ω3_8)); exact HO390.out))) (below_size (by repeat (first | (with_reducible first | exact HB.out | apply Ω6_8 | apply Ω7_8 | apply Ω8_8 | refine below_set ?_ GE375.out) | exact HB.out)))); have n9_ := Ω5_8 (blk_below (g := gb375) (o := .cells #[.slice Ao37 t368.length co37, .slice Ao39 t371.length co39] 39 (0, 0)) (by (with_reducible repeat (first | refine blk_drewN ?_ _ | refine blk_drew ?_ | refine blk_alloc ?_ _)); exact BK375.out) hb); have n10_ := Ω5_8 (below_step (by repeat (first | (with_reducible first | exact HB.out | apply Ω6_8 | apply Ω7_8 | apply Ω8_8 | refine below_set ?_ GE375.out) | exact HB.out)) hb); clear HO370; clear HO373; clear HO378; clear HO381; clear HO384; clear HO387; clear HO390; clear BK375; clear HB; have HO370 := n0_; have HO373 := n1_; have HO378 := n2_; have HO381 := n3_; have HO384 := n4_; have HO387 := n5_; have HO390 := n6_; have HO393 := n7_; have HO396 := n8_; have BK375 := n9_; have HB := n10_; clear n0_ n1_ n2_ n3_ n4_ n5_ n6_ n7_ n8_ n9_ n10_; (try clear hb); (try clear hb2); (try clear hk); (try clear hi); (try clear ho0); (try clear ho1); have hcz50_0 : w49.cell? ⟨gb375, 0, none⟩ = some (.slice Ao37 t368.length co37) := (blk_cell BK375.out 0).trans rfl; have hcz50_1 : w49.cell? ⟨gb375, 1, none⟩ = some (.slice Ao39 t371.length co39) := (blk_cell BK375.out 1).trans rfl; have hfz50_0 := blk_frozen BK375.out 0; have hfz50_1 := blk_frozen BK375.out 1) | ((with_reducible refine gate_callee (f := 24) rfl ?_); refine goesL_ (some 40) rfl rfl Try.func24 (by kernel_rfl) rfl #[.agg #[.slice Ao37 t368.length co37, .slice Ao39 t371.length co39], .int .i64 t374] rfl (by (try simp only [List.map_toArray, List.map_cons, List.map_nil]); first | done | rfl | (simp only [List.length_drop, List.length_take]; rfl)) ?_; (with_reducible refine (spec_Route.calls k _ _ t368 _ _ t371 t374 t397 t400 _ ?side1 ?side2 ?side3 ?side4 A9.out).mono ?_); (case side1 => repeat (first | exact (Kd.R_reads' HO370.out).2.2 | (with_reducible refine Kd.C_alloc ?_ _) | (with_reducible refine Kd.C_drewN ?_ _) | (with_reducible refine Kd.C_drew ?_))); (case side2 => exact (Kd.R_reads' HO370.out).2.1); (case side3 => repeat (first | exact (Kd.R_reads' HO373.out).2.2 | (with_reducible refine Kd.C_alloc ?_ _) | (with_reducible refine Kd.C_drewN ?_ _) | (with_reducible refine Kd.C_drew ?_))); (case side4 => exact (Kd.R_reads' HO373.out).2.1); rintro e w51 ⟨v398, v401, rfl, ho0, ho1, hb⟩; refine ⟨_, rfl, ?_⟩; have n0_ := Ω5_8 (ΩE_8 (Kd.R_told (Kd.R_told (Kd.R_old (by (with_reducible repeat (first | apply Ω1_8 | apply Ω2_8 | apply Ω3_8)); exact HO370.out) hb) (Kd.R_base ho0)) (Kd.R_base ho1)) (fun _ h_ => h_.1)); have n1_ := Ω5_8 (ΩE_8 (Kd.R_told (Kd.R_told (Kd.R_old (by (with_reducible repeat (first | apply Ω1_8 | apply Ω2_8 | apply Ω3_8)); exact HO373.out) hb) (Kd.R_base ho0)) (Kd.R_base ho1)) (fun _ h_ => h_.1)); have n2_ := Ω5_8 (ΩE_8 (Kd.R_told (Kd.R_told (Kd.R_old (by (with_reducible repeat (first | apply Ω1_8 | apply Ω2_8 | apply Ω3_8)); exact HO378.out) hb) (Kd.R_base ho0)) (Kd.R_base ho1)) (fun _ h_ => h_.1)); have n3_ := Ω5_8 (ΩE_8 (Kd.R_told (Kd.R_told (Kd.R_old (by (with_reducible repeat (first | apply Ω1_8 | apply Ω2_8 | apply Ω3_8)); exact HO381.out) hb) (Kd.R_base ho0)) (Kd.R_base ho1)) (fun _ h_ => h_.1)); have n4_ := Ω5_8 (ΩE_8 (Kd.R_told (Kd.R_told (Kd.R_old (by (with_reducible repeat (first | apply Ω1_8 | apply Ω2_8 | apply Ω3_8)); exact HO384.out) hb) (Kd.R_base ho0)) (Kd.R_base ho1)) (fun _ h_ => h_.1)); have n5_ := Ω5_8 (ΩE_8 (Kd.R_told (Kd.R_told (Kd.R_old (by (with_reducible repeat (first | apply Ω1_8 | apply Ω2_8 | apply Ω3_8)); exact HO387.out) hb) (Kd.R_base ho0)) (Kd.R_base ho1)) (fun _ h_ => h_.1)); have n6_ := Ω5_8 (ΩE_8 (Kd.R_told (Kd.R_told (Kd.R_old (by (with_reducible repeat (first | apply Ω1_8 | apply Ω2_8 | apply Ω3_8)); exact HO390.out) hb) (Kd.R_base ho0)) (Kd.R_base ho1)) (fun _ h_ => h_.1)); have n7_ := Ω5_8 (ΩE_8 (Kd.R_told (Kd.R_told (Kd.R_old (by (with_reducible repeat (first | apply Ω1_8 | apply Ω2_8 | apply Ω3_8)); exact HO393.out) hb) (Kd.R_base ho0)) (Kd.R_base ho1)) (fun _ h_ => h_.1)); have n8_ := Ω5_8 (ΩE_8 (Kd.R_told (Kd.R_told (Kd.R_old (by (with_reducible repeat (first | apply Ω1_8 | apply Ω2_8 | apply Ω3_8)); exact HO396.out) hb) (Kd.R_base ho0)) (Kd.R_base ho1)) (fun _ h_ => h_.1)); have n9_ := Ω5_8 (Kd.R_lower (Kd.R_new' (Kd.R_new' (Kd.R_new' (Kd.R_new' (Kd.R_new' (Kd.R_new' (Kd.R_new' (Kd.R_new' (Kd.R_new' ho0 (Kd.R_lt (by (with_reducible repeat (first | apply Ω1_8 | apply Ω2_8 | apply Ω3_8)); exact HO370.out))) (Kd.R_lt (by (with_reducible repeat (first | apply Ω1_8 | apply Ω2_8 | apply Ω3_8)); exact HO373.out))) (Kd.R_lt (by (with_reducible repeat (first | apply Ω1_8 | apply Ω2_8 | apply Ω3_8)); exact HO378.out))) (Kd.R_lt (by (with_reducible repeat (first | apply Ω1_8 | apply Ω2_8 | apply Ω3_8)); exact HO381.out))) (Kd.R_lt (by (with_reducible repeat (first | apply Ω1_8 | apply Ω2_8 | apply Ω3_8)); exact HO384.out))) (Kd.R_lt (by (with_reducible repeat (first | apply Ω1_8 | apply Ω2_8 | apply Ω3_8)); exact HO387.out))) (Kd.R_lt (by (with_reducible repeat (first | apply Ω1_8 | apply Ω2_8 | apply Ω3_8)); exact HO390.out))) (Kd.R_lt (by (with_reducible repeat (first | apply Ω1_8 | apply Ω2_8 | apply Ω3_8)); exact HO393.out))) (Kd.R_lt (by (with_reducible repeat (first | apply Ω1_8 | apply Ω2_8 | apply Ω3_8)); exact HO396.out))) (below_size (by repeat (first | (with_reducible first | exact HB.out | apply Ω6_8 | apply Ω7_8 | apply Ω8_8 | refine below_set ?_ GE375.out) | exact HB.out)))); have n10_ := Ω5_8 (Kd.R_lower (Kd.R_new' (Kd.R_new' (Kd.R_new' (Kd.R_new' (Kd.R_new' (Kd.R_new' (Kd.R_new' (Kd.R_new' (Kd.R_new' ho1 (Kd.R_lt (by (with_reducible repeat (first | apply Ω1_8 | apply Ω2_8 | apply Ω3_8)); exact HO370.out))) (Kd.R_lt (by (with_reducible repeat (first | apply Ω1_8 | apply Ω2_8 | apply Ω3_8)); exact HO373.out))) (Kd.R_lt (by (with_reducible repeat (first | apply Ω1_8 | apply Ω2_8 | apply Ω3_8)); exact HO378.out))) (Kd.R_lt (by (with_reducible repeat (first | apply Ω1_8 | apply Ω2_8 | apply Ω3_8)); exact HO381.out))) (Kd.R_lt (by (with_reducible repeat (first | apply Ω1_8 | apply Ω2_8 | apply Ω3_8)); exact HO384.out))) (Kd.R_lt (by (with_reducible repeat (first | apply Ω1_8 | apply Ω2_8 | apply Ω3_8)); exact HO387.out))) (Kd.R_lt (by (with_reducible repeat (first | apply Ω1_8 | apply Ω2_8 | apply Ω3_8)); exact HO390.out))) (Kd.R_lt (by (with_reducible repeat (first | apply Ω1_8 | apply Ω2_8 | apply Ω3_8)); exact HO393.out))) (Kd.R_lt (by (with_reducible repeat (first | apply Ω1_8 | apply Ω2_8 | apply Ω3_8)); exact HO396.out))) (below_size (by repeat (first | (with_reducible first | exact HB.out | apply Ω6_8 | apply Ω7_8 | apply Ω8_8 | refine below_set ?_ GE375.out) | exact HB.out)))); have n11_ := Ω5_8 (blk_below (g := gb375) (o := .cells #[.slice Ao37 t368.length co37, .slice Ao39 t371.length co39] 39 (0, 0)) (by (with_reducible repeat (first | refine blk_drewN ?_ _ | refine blk_drew ?_ | refine blk_alloc ?_ _)); exact BK375.out) hb); have n12_ := Ω5_8 (below_step (by repeat (first | (with_reducible first | exact HB.out | apply Ω6_8 | apply Ω7_8 | apply Ω8_8 | refine below_set ?_ GE375.out) | exact HB.out)) hb); clear HO370; clear HO373; clear HO378; clear HO381; clear HO384; clear HO387; clear HO390; clear HO393; clear HO396; clear BK375; clear HB; have HO370 := n0_; have HO373 := n1_; have HO378 := n2_; have HO381 := n3_; have HO384 := n4_; have HO387 := n5_; have HO390 := n6_; have HO393 := n7_; have HO396 := n8_; have HO399 := n9_; have HO402 := n10_; have BK375 := n11_; have HB := n12_; clear n0_ n1_ n2_ n3_ n4_ n5_ n6_ n7_ n8_ n9_ n10_ n11_ n12_; (try clear hb); (try clear hb2); (try clear hk); (try clear hi); (try clear ho0); (try clear ho1); obtain ⟨Ao52, co52, eo52⟩ := Kd.R_slice HO393.out; subst eo52; obtain ⟨Ao53, co53, eo53⟩ := Kd.R_slice HO399.out; subst eo53; have hcz54_0 : w51.cell? ⟨gb375, 0, none⟩ = some (.slice Ao37 t368.length co37) := (blk_cell BK375.out 0).trans rfl; have hcz54_1 : w51.cell? ⟨gb375, 1, none⟩ = some (.slice Ao39 t371.length co39) := (blk_cell BK375.out 1).trans rfl; have hfz54_0 := blk_frozen BK375.out 0; have hfz54_1 := blk_frozen BK375.out 1; have p403 : 0 ≤ (1 : Int) := (by omega); have q403 : 1 < (t368.length : Int) := ΩS_8 (by first | (with_reducible assumption) | assumption); obtain ⟨ad403, e403, hx403_0⟩ := Kd.at_int (Kd.R_reads' HO370.out).2.2 1 p403 q403; cases e403; (try simp only [show (1 : Int).toNat = 1 from rfl, Nat.reduceMul, Nat.reduceEqDiff, Go.Addr.add, ↓reduceIte] at hx403_0); have qi403 : (1 < t368.length) = True := eq_true (by omega); (try rw [show ((1 : Int)).toNat = 1 from rfl] at hx403_0); replace p403 := eq_true p403; replace q403 := eq_true q403) | ((with_reducible refine gate_dst (N := 59) rfl ?_); (try (refine gate_guard (by rfl) ?_; dsimp only)); refine Kd.R_make (Kd.int .i64) _ 3 rfl (N := 59) rfl 22 _ _ rfl (rd t368 1) rfl rfl Try.underlying22 (.int .i64 0) 8 info3 rfl (by decide) (by omega) 0 (ok := fun _ => True) (okp := fun _ => True) rfl (fun _ hk => hk) trivial (ΩS_8 (by first | (with_reducible assumption) | assumption)) (Nat.le_trans (Nat.mul_le_mul_right _ (ΩS_8 (by first | (with_reducible assumption) | assumption) : (rd t368 1).toNat ≤ 35184372088832)) (by omega)) (Below.refl _ _) (Nat.le_refl _) ?_; intro v405 w55 ho56 hb hg_ hnew_; clear hg_ hnew_; (first | rw [← Ny404.out] at ho56 | (simp only [Int.reduceToNat] at ho56; rw [← Ny404.out] at ho56)); have n0_ := Ω5_8 (Kd.R_elder' (by (with_reducible repeat (first | apply Ω1_8 | apply Ω2_8 | apply Ω3_8)); exact HO370.out) (Kd.R_base ho56) hb); have n1_ := Ω5_8 (Kd.R_elder' (by (with_reducible repeat (first | apply Ω1_8 | apply Ω2_8 | apply Ω3_8)); exact HO373.out) (Kd.R_base ho56) hb); have n2_ := Ω5_8 (Kd.R_elder' (by (with_reducible repeat (first | apply Ω1_8 | apply Ω2_8 | apply Ω3_8)); exact HO378.out) (Kd.R_base ho56) hb); have n3_ := Ω5_8 (Kd.R_elder' (by (with_reducible repeat (first | apply Ω1_8 | apply Ω2_8 | apply Ω3_8)); exact HO381.out) (Kd.R_base ho56) hb); have n4_ := Ω5_8 (Kd.R_elder' (by (with_reducible repeat (first | apply Ω1_8 | apply Ω2_8 | apply Ω3_8)); exact HO384.out) (Kd.R_base ho56) hb); have n5_ := Ω5_8 (Kd.R_elder' (by (with_reducible repeat (first | apply Ω1_8 | apply Ω2_8 | apply Ω3_8)); exact HO387.out) (Kd.R_base ho56) hb); have n6_ := Ω5_8 (Kd.R_elder' (by (with_reducible repeat (first | apply Ω1_8 | apply Ω2_8 | apply Ω3_8)); exact HO390.out) (Kd.R_base ho56) hb); have n7_ := Ω5_8 (Kd.R_elder' (by (with_reducible repeat (first | apply Ω1_8 | apply Ω2_8 | apply Ω3_8)); exact HO393.out) (Kd.R_base ho56) hb); have n8_ := Ω5_8 (Kd.R_elder' (by (with_reducible repeat (first | apply Ω1_8 | apply Ω2_8 | apply Ω3_8)); exact HO396.out) (Kd.R_base ho56) hb); have n9_ := Ω5_8 (Kd.R_elder' (by (with_reducible repeat (first | apply Ω1_8 | apply Ω2_8 | apply Ω3_8)); exact HO399.out) (Kd.R_base ho56) hb); have n10_ := Ω5_8 (Kd.R_elder' (by (with_reducible repeat (first | apply Ω1_8 | apply Ω2_8 | apply Ω3_8)); exact HO402.out) (Kd.R_base ho56) hb); have n11_ := Ω5_8 (Kd.R_lower (Kd.R_new' (Kd.R_new' (Kd.R_new' (Kd.R_new' (Kd.R_new' (Kd.R_new' (Kd.R_new' (Kd.R_new' (Kd.R_new' (Kd.R_new' (Kd.R_new' ho56 (Kd.R_lt (by (with_reducible repeat (first | apply Ω1_8 | apply Ω2_8 | apply Ω3_8)); exact HO370.out))) (Kd.R_lt (by (with_reducible repeat (first | apply Ω1_8 | apply Ω2_8 | apply Ω3_8)); exact HO373.out))) (Kd.R_lt (by (with_reducible repeat (first | apply Ω1_8 | apply Ω2_8 | apply Ω3_8)); exact HO378.out))) (Kd.R_lt (by (with_reducible repeat (first | apply Ω1_8 | apply Ω2_8 | apply Ω3_8)); exact HO381.out))) (Kd.R_lt (by (with_reducible repeat (first | apply Ω1_8 | apply Ω2_8 | apply Ω3_8)); exact HO384.out))) (Kd.R_lt (by (with_reducible repeat (first | apply Ω1_8 | apply Ω2_8 | apply Ω3_8)); exact HO387.out))) (Kd.R_lt (by (with_reducible repeat (first | apply Ω1_8 | apply Ω2_8 | apply Ω3_8)); exact HO390.out))) (Kd.R_lt (by (with_reducible repeat (first | apply Ω1_8 | apply Ω2_8 | apply Ω3_8)); exact HO393.out))) (Kd.R_lt (by (with_reducible repeat (first | apply Ω1_8 | apply Ω2_8 | apply Ω3_8)); exact HO396.out))) (Kd.R_lt (by (with_reducible repeat (first | apply Ω1_8 | apply Ω2_8 | apply Ω3_8)); exact HO399.out))) (Kd.R_lt (by (with_reducible repeat (first | apply Ω1_8 | apply Ω2_8 | apply Ω3_8)); exact HO402.out))) (below_size (by repeat (first | (with_reducible first | exact HB.out | apply Ω6_8 | apply Ω7_8 | apply Ω8_8 | refine below_set ?_ GE375.out) | exact HB.out)))); have n12_ := Ω5_8 (blk_below (g := gb375) (o := .cells #[.slice (some ad403) t368.length co37, .slice Ao39 t371.length co39] 39 (0, 0)) (by (with_reducible repeat (first | refine blk_drewN ?_ _ | refine blk_drew ?_ | refine blk_alloc ?_ _)); exact BK375.out) hb); have n13_ := Ω5_8 (below_step (by repeat (first | (with_reducible first | exact HB.out | apply Ω6_8 | apply Ω7_8 | apply Ω8_8 | refine below_set ?_ GE375.out) | exact HB.out)) hb); clear HO370; clear HO373; clear HO378; clear HO381; clear HO384; clear HO387; clear HO390; clear HO393; clear HO396; clear HO399; clear HO402; clear BK375; clear HB; have HO370 := n0_; have HO373 := n1_; have HO378 := n2_; have HO381 := n3_; have HO384 := n4_; have HO387 := n5_; have HO390 := n6_; have HO393 := n7_; have HO396 := n8_; have HO399 := n9_; have HO402 := n10_; have HO406 := n11_; have BK375 := n12_; have HB := n13_; clear n0_ n1_ n2_ n3_ n4_ n5_ n6_ n7_ n8_ n9_ n10_ n11_ n12_ n13_; clear hb ho56))
        go_loopg [13] k (fun kq v13 w' => ∃ (x12_1 : List Int) (x13_1 : Int), v13 = .int .i64 x13_1 ∧ Aside0 (laws_FnRouted.l0 kq t374 t391 t394 (rd t368 1) x12_1 x13_1 t368 t371 = some r) ∧ Aside0 (kq ≤ k) ∧ Aside0 (Kd.R (Kd.int .i64) 3 w' w.heap.size (fun k_ => some k_ ≠ (v395 : Value).ownBlock ∧ some k_ ≠ (v405 : Value).ownBlock ∧ some k_ ≠ ((.slice (some ad403) t368.length co37) : Value).ownBlock ∧ some k_ ≠ ((.slice Ao39 t371.length co39) : Value).ownBlock) (.slice Ao52 t391.length co52) t391) ∧ Aside0 (Kd.R (Kd.int .i64) 3 w' w.heap.size (fun k_ => some k_ ≠ ((.slice Ao52 t391.length co52) : Value).ownBlock ∧ some k_ ≠ (v405 : Value).ownBlock ∧ some k_ ≠ ((.slice (some ad403) t368.length co37) : Value).ownBlock ∧ some k_ ≠ ((.slice Ao39 t371.length co39) : Value).ownBlock) v395 t394) ∧ Aside0 (Kd.R (Kd.int .i64) 3 w' w.heap.size (fun k_ => some k_ ≠ ((.slice Ao52 t391.length co52) : Value).ownBlock ∧ some k_ ≠ (v395 : Value).ownBlock ∧ some k_ ≠ ((.slice (some ad403) t368.length co37) : Value).ownBlock ∧ some k_ ≠ ((.slice Ao39 t371.length co39) : Value).ownBlock) v405 x12_1) ∧ Aside0 (Kd.R (Kd.int .i64) 3 w' w.heap.size (fun k_ => some k_ ≠ ((.slice Ao52 t391.length co52) : Value).ownBlock ∧ some k_ ≠ (v395 : Value).ownBlock ∧ some k_ ≠ (v405 : Value).ownBlock ∧ some k_ ≠ ((.slice Ao39 t371.length co39) : Value).ownBlock) (.slice (some ad403) t368.length co37) t368) ∧ Aside0 (Kd.R (Kd.int .i64) 3 w' w.heap.size (fun k_ => some k_ ≠ ((.slice Ao52 t391.length co52) : Value).ownBlock ∧ some k_ ≠ (v395 : Value).ownBlock ∧ some k_ ≠ (v405 : Value).ownBlock ∧ some k_ ≠ ((.slice (some ad403) t368.length co37) : Value).ownBlock) (.slice Ao39 t371.length co39) t371) ∧ Aside0 (w'.heap[gb375]? = some (.cells #[(.slice (some ad403) t368.length co37), (.slice Ao39 t371.length co39)] 39 (0, 0))) ∧ Aside0 (Below w.heap.size w w'))
        case atStart => exact ⟨(y404), (0), (by first | rfl | (simp; done) | (simp [*]; done)), H', ⟨Nat.le_refl _⟩, ⟨by (with_reducible repeat (first | apply Ω1_8 | apply Ω2_8 | apply Ω3_8)); exact ΩE_8 HO393.out (fun _ hk => ⟨hk.1.1.1.1.1.1.1.1.1.1, ⟨hk.2, ⟨hk.1.1.1.1.1.1.1.1.1.2, hk.1.1.1.1.1.1.1.1.2⟩⟩⟩)⟩, ⟨by (with_reducible repeat (first | apply Ω1_8 | apply Ω2_8 | apply Ω3_8)); exact ΩE_8 HO396.out (fun _ hk => ⟨hk.1.1.1.1.1.1.1.1.1.1, ⟨hk.2, ⟨hk.1.1.1.1.1.1.1.1.1.2, hk.1.1.1.1.1.1.1.1.2⟩⟩⟩)⟩, ⟨by (with_reducible repeat (first | apply Ω1_8 | apply Ω2_8 | apply Ω3_8)); exact ΩE_8 HO406.out (fun _ hk => ⟨hk.1.1.1.2, ⟨hk.1.1.2, ⟨hk.1.1.1.1.1.1.1.1.1.1.2, hk.1.1.1.1.1.1.1.1.1.2⟩⟩⟩)⟩, ⟨by (with_reducible repeat (first | apply Ω1_8 | apply Ω2_8 | apply Ω3_8)); exact ΩE_8 HO370.out (fun _ hk => ⟨hk.1.1.1.1.2, ⟨hk.1.1.1.2, ⟨hk.2, hk.1.1.1.1.1.1.1.1.1.1⟩⟩⟩)⟩, ⟨by (with_reducible repeat (first | apply Ω1_8 | apply Ω2_8 | apply Ω3_8)); exact ΩE_8 HO373.out (fun _ hk => ⟨hk.1.1.1.1.2, ⟨hk.1.1.1.2, ⟨hk.2, hk.1.1.1.1.1.1.1.1.1.1⟩⟩⟩)⟩, ⟨by (with_reducible repeat (first | refine blk_drewN ?_ _ | refine blk_drew ?_ | refine blk_alloc ?_ _)); exact BK375.out⟩, ⟨by repeat (first | (with_reducible first | exact HB.out | apply Ω6_8 | apply Ω7_8 | apply Ω8_8 | refine below_set ?_ GE375.out) | exact HB.out)⟩⟩
        case round =>
         clear H'
         try clear c1
         try clear c2
         try clear p2
         try clear c3
         try clear p4
         try clear q4
         try clear hx4
         try clear qi4
         try clear c6
         try clear c7
         try clear c7b0
         try clear c7b1
         try clear c10
         try clear c10b0
         try clear c10b1
         try clear c10b2
         try clear c11
         try clear c11b0
         try clear c11b1
         try clear c11b2
         try clear c20
         try clear c21
         try clear c22
         try clear c23
         try clear c24
         try clear c32
         try clear c32b0
         try clear c32b1
         try clear c33
         try clear c33b0
         try clear c33b1
         try clear c34
         try clear c34b0
         try clear c34b1
         try clear p40
         try clear q40
         try clear hx40
         try clear qi40
         try clear hcz15_0
         try clear hcz15_1
         try clear hcz25_0
         try clear hcz25_1
         try clear hcz27_0
         try clear hcz27_1
         try clear hcz38_0
         try clear hcz38_1
         try clear hcz48_0
         try clear hcz48_1
         try clear hcz50_0
         try clear hcz50_1
         try clear hcz54_0
         try clear hcz54_1
         try clear hfz15_0
         try clear hfz15_1
         try clear hfz25_0
         try clear hfz25_1
         try clear hfz27_0
         try clear hfz27_1
         try clear hfz38_0
         try clear hfz38_1
         try clear hfz48_0
         try clear hfz48_1
         try clear hfz50_0
         try clear hfz50_1
         try clear hfz54_0
         try clear hfz54_1
         try clear hx403_0
         try clear p403
         try clear q403
         obtain ⟨x12_1, x13_1, rfl, HA, HK1, HO_7, HO_8, HO_12, HO_376000, HO_376001, BK375, HB⟩ := hrel
         cases gk with
         | zero => exact absurd HA.out (by simp [laws_FnRouted.l0])
         | succ k1 =>
          have H := HA.out
          clear HA
          simp only [laws_FnRouted.l0] at H
          by_cases c57 : x13_1 < (t391.length : Int)
          ·rw [if_pos c57] at H
           have c57b0 : decide (x13_1 < (t391.length : Int)) = true := decide_eq_true c57
           clear c57
           by_cases c58 : 0 ≤ x13_1
           ·rw [if_pos c58] at H
            have c58b0 : decide (0 ≤ x13_1) = true := decide_eq_true c58
            clear c58
            by_cases c59 : (rd t391 x13_1) < 0
            ·rw [if_pos c59] at H
             have c59b0 : decide ((rd t391 x13_1) < 0) = true := decide_eq_true c59
             clear c59
             have H' := Ω5_8 H
             clear H
             have p408 : 0 ≤ (x13_1 : Int) := ΩS_8 (by first | (with_reducible assumption) | assumption)
             have q408 : x13_1 < (t391.length : Int) := ΩS_8 (by first | (with_reducible assumption) | assumption)
             obtain ⟨ad408, e408, hx408_0⟩ := Kd.at_int (Kd.R_reads' HO_7.out).2.2 x13_1 p408 q408
             cases e408
             replace p408 := eq_true p408
             replace q408 := eq_true q408
             go_wp2
             go_loopg [14] k1 (fun kq v14 w' => ∃ (x14_2 : Int), v14 = .int .i64 x14_2 ∧ Aside0 (laws_FnRouted.l1 kq t374 t391 t394 (rd t368 1) x12_1 x13_1 x14_2 t368 t371 = some r) ∧ Aside0 (kq ≤ k1) ∧ Aside0 (Kd.R (Kd.int .i64) 3 w' w.heap.size (fun k_ => some k_ ≠ (v395 : Value).ownBlock ∧ some k_ ≠ (v405 : Value).ownBlock ∧ some k_ ≠ ((.slice (some ad403) t368.length co37) : Value).ownBlock ∧ some k_ ≠ ((.slice Ao39 t371.length co39) : Value).ownBlock) (.slice (some ad408) t391.length co52) t391) ∧ Aside0 (Kd.R (Kd.int .i64) 3 w' w.heap.size (fun k_ => some k_ ≠ ((.slice (some ad408) t391.length co52) : Value).ownBlock ∧ some k_ ≠ (v405 : Value).ownBlock ∧ some k_ ≠ ((.slice (some ad403) t368.length co37) : Value).ownBlock ∧ some k_ ≠ ((.slice Ao39 t371.length co39) : Value).ownBlock) v395 t394) ∧ Aside0 (Kd.R (Kd.int .i64) 3 w' w.heap.size (fun k_ => some k_ ≠ ((.slice (some ad408) t391.length co52) : Value).ownBlock ∧ some k_ ≠ (v395 : Value).ownBlock ∧ some k_ ≠ ((.slice (some ad403) t368.length co37) : Value).ownBlock ∧ some k_ ≠ ((.slice Ao39 t371.length co39) : Value).ownBlock) v405 x12_1) ∧ Aside0 (Kd.R (Kd.int .i64) 3 w' w.heap.size (fun k_ => some k_ ≠ ((.slice (some ad408) t391.length co52) : Value).ownBlock ∧ some k_ ≠ (v395 : Value).ownBlock ∧ some k_ ≠ (v405 : Value).ownBlock ∧ some k_ ≠ ((.slice Ao39 t371.length co39) : Value).ownBlock) (.slice (some ad403) t368.length co37) t368) ∧ Aside0 (Kd.R (Kd.int .i64) 3 w' w.heap.size (fun k_ => some k_ ≠ ((.slice (some ad408) t391.length co52) : Value).ownBlock ∧ some k_ ≠ (v395 : Value).ownBlock ∧ some k_ ≠ (v405 : Value).ownBlock ∧ some k_ ≠ ((.slice (some ad403) t368.length co37) : Value).ownBlock) (.slice Ao39 t371.length co39) t371) ∧ Aside0 (w'.heap[gb375]? = some (.cells #[(.slice (some ad403) t368.length co37), (.slice Ao39 t371.length co39)] 39 (0, 0))) ∧ Aside0 (Below w.heap.size w w'))
             case atStart => exact ⟨(0), (by first | rfl | (simp; done) | (simp [*]; done)), H', ⟨Nat.le_refl _⟩, ⟨by (with_reducible repeat (first | apply Ω1_8 | apply Ω2_8 | apply Ω3_8)); exact HO_7.out⟩, ⟨by (with_reducible repeat (first | apply Ω1_8 | apply Ω2_8 | apply Ω3_8)); exact HO_8.out⟩, ⟨by (with_reducible repeat (first | apply Ω1_8 | apply Ω2_8 | apply Ω3_8)); exact HO_12.out⟩, ⟨by (with_reducible repeat (first | apply Ω1_8 | apply Ω2_8 | apply Ω3_8)); exact HO_376000.out⟩, ⟨by (with_reducible repeat (first | apply Ω1_8 | apply Ω2_8 | apply Ω3_8)); exact HO_376001.out⟩, ⟨by (with_reducible repeat (first | refine blk_drewN ?_ _ | refine blk_drew ?_ | refine blk_alloc ?_ _)); exact BK375.out⟩, ⟨by repeat (first | (with_reducible first | exact HB.out | apply Ω6_8 | apply Ω7_8 | apply Ω8_8 | refine below_set ?_ GE375.out) | exact HB.out)⟩⟩
             case round =>
              clear H'
              try clear c1
              try clear c2
              try clear p2
              try clear c3
              try clear p4
              try clear q4
              try clear hx4
              try clear qi4
              try clear c5
              try clear c6
              try clear c7
              try clear c7b0
              try clear c7b1
              try clear c10
              try clear c10b0
              try clear c10b1
              try clear c10b2
              try clear c11
              try clear c11b0
              try clear c11b1
              try clear c11b2
              try clear c20
              try clear c21
              try clear c22
              try clear c23
              try clear c24
              try clear c32
              try clear c32b0
              try clear c32b1
              try clear c33
              try clear c33b0
              try clear c33b1
              try clear c34
              try clear c34b0
              try clear c34b1
              try clear p40
              try clear q40
              try clear hx40
              try clear qi40
              try clear c57
              try clear c57b0
              try clear c58
              try clear c58b0
              try clear c59
              try clear c59b0
              try clear hcz15_0
              try clear hcz15_1
              try clear hcz25_0
              try clear hcz25_1
              try clear hcz27_0
              try clear hcz27_1
              try clear hcz38_0
              try clear hcz38_1
              try clear hcz48_0
              try clear hcz48_1
              try clear hcz50_0
              try clear hcz50_1
              try clear hcz54_0
              try clear hcz54_1
              try clear hfz15_0
              try clear hfz15_1
              try clear hfz25_0
              try clear hfz25_1
              try clear hfz27_0
              try clear hfz27_1
              try clear hfz38_0
              try clear hfz38_1
              try clear hfz48_0
              try clear hfz48_1
              try clear hfz50_0
              try clear hfz50_1
              try clear hfz54_0
              try clear hfz54_1
              try clear hx403_0
              try clear hx408_0
              try clear p2
              try clear p4
              try clear p40
              try clear p403
              try clear p408
              try clear q4
              try clear q40
              try clear q403
              try clear q408
              obtain ⟨x14_2, rfl, HA, HK2, HO_7, HO_8, HO_12, HO_376000, HO_376001, BK375, HB⟩ := hrel
              cases gk with
              | zero => exact absurd HA.out (by simp [laws_FnRouted.l1])
              | succ k2 =>
               have H := HA.out
               clear HA
               simp only [laws_FnRouted.l1] at H
               by_cases c60 : x14_2 < (rd t368 1)
               ·rw [if_pos c60] at H
                have c60b0 : decide (x14_2 < (rd t368 1)) = true := decide_eq_true c60
                clear c60
                by_cases c61 : 0 ≤ x14_2
                ·rw [if_pos c61] at H
                 have c61b0 : decide (0 ≤ x14_2) = true := decide_eq_true c61
                 clear c61
                 by_cases c62 : x14_2 < (x12_1.length : Int)
                 ·rw [if_pos c62] at H
                  have c62b0 : decide (x14_2 < (x12_1.length : Int)) = true := decide_eq_true c62
                  clear c62
                  by_cases c63 : (rd x12_1 x14_2) < t374
                  ·rw [if_pos c63] at H
                   have c63b0 : decide ((rd x12_1 x14_2) < t374) = true := decide_eq_true c63
                   clear c63
                   rw [HRT.out] at H
                   exact absurd H (by simp)
                  ·rw [if_neg c63] at H
                   have c63b0 : decide ((rd x12_1 x14_2) < t374) = false := decide_eq_false c63
                   clear c63
                   have H' := Ω5_8 H
                   clear H
                   obtain ⟨Ao64, co64, eo64⟩ := Kd.R_slice HO_12.out
                   subst eo64
                   have p409 : 0 ≤ (x14_2 : Int) := ΩS_8 (by first | (with_reducible assumption) | assumption)
                   have q409 : x14_2 < (x12_1.length : Int) := ΩS_8 (by first | (with_reducible assumption) | assumption)
                   obtain ⟨ad409, e409, hx409_0⟩ := Kd.at_int (Kd.R_reads' HO_12.out).2.2 x14_2 p409 q409
                   cases e409
                   replace p409 := eq_true p409
                   replace q409 := eq_true q409
                   go_wp2
                   go_roundg k2
                   case measure => have := HK1.out; have := HK2.out; omega
                   case rel => exact ⟨(wrap64 (x14_2 + 1)), (by first | rfl | (simp; done) | (simp [*]; done)), H', ⟨by have := HK1.out; have := HK2.out; omega⟩, ⟨by (with_reducible repeat (first | apply Ω1_8 | apply Ω2_8 | apply Ω3_8)); exact HO_7.out⟩, ⟨by (with_reducible repeat (first | apply Ω1_8 | apply Ω2_8 | apply Ω3_8)); exact HO_8.out⟩, ⟨by (with_reducible repeat (first | apply Ω1_8 | apply Ω2_8 | apply Ω3_8)); exact HO_12.out⟩, ⟨by (with_reducible repeat (first | apply Ω1_8 | apply Ω2_8 | apply Ω3_8)); exact HO_376000.out⟩, ⟨by (with_reducible repeat (first | apply Ω1_8 | apply Ω2_8 | apply Ω3_8)); exact HO_376001.out⟩, ⟨by (with_reducible repeat (first | refine blk_drewN ?_ _ | refine blk_drew ?_ | refine blk_alloc ?_ _)); exact BK375.out⟩, ⟨by repeat (first | (with_reducible first | exact HB.out | apply Ω6_8 | apply Ω7_8 | apply Ω8_8 | refine below_set ?_ GE375.out) | exact HB.out)⟩⟩
                 ·rw [if_neg c62] at H
                  exact absurd H (by simp)
                ·rw [if_neg c61] at H
                 exact absurd H (by simp)
               ·rw [if_neg c60] at H
                have c60b0 : decide (x14_2 < (rd t368 1)) = false := decide_eq_false c60
                clear c60
                by_cases c65 : 0 ≤ x13_1
                ·rw [if_pos c65] at H
                 have c65b0 : decide (0 ≤ x13_1) = true := decide_eq_true c65
                 clear c65
                 by_cases c66 : x13_1 < (t394.length : Int)
                 ·rw [if_pos c66] at H
                  have c66b0 : decide (x13_1 < (t394.length : Int)) = true := decide_eq_true c66
                  clear c66
                  by_cases c67 : (rd t394 x13_1) = (-1)
                  ·rw [if_pos c67] at H
                   have c67b0 : ((rd t394 x13_1) == (-1)) = true := beq_iff_eq.mpr c67
                   have c67b1 : ((rd t394 x13_1) != (-1)) = false := bne_eq_false_iff_eq.mpr c67
                   clear c67
                   have H' := Ω5_8 H
                   clear H
                   obtain ⟨Ao68, co68, eo68⟩ := Kd.R_slice HO_8.out
                   subst eo68
                   have p410 : 0 ≤ (x13_1 : Int) := ΩS_8 (by first | (with_reducible assumption) | assumption)
                   have q410 : x13_1 < (t394.length : Int) := ΩS_8 (by first | (with_reducible assumption) | assumption)
                   obtain ⟨ad410, e410, hx410_0⟩ := Kd.at_int (Kd.R_reads' HO_8.out).2.2 x13_1 p410 q410
                   cases e410
                   replace p410 := eq_true p410
                   replace q410 := eq_true q410
                   go_wp2
                   go_roundg k2
                   case measure => have := HK1.out; have := HK2.out; omega
                   case rel => exact ⟨(x12_1), (wrap64 (x13_1 + 1)), (by first | rfl | (simp; done) | (simp [*]; done)), H', ⟨by have := HK1.out; have := HK2.out; omega⟩, ⟨by (with_reducible repeat (first | apply Ω1_8 | apply Ω2_8 | apply Ω3_8)); exact HO_7.out⟩, ⟨by (with_reducible repeat (first | apply Ω1_8 | apply Ω2_8 | apply Ω3_8)); exact HO_8.out⟩, ⟨by (with_reducible repeat (first | apply Ω1_8 | apply Ω2_8 | apply Ω3_8)); exact HO_12.out⟩, ⟨by (with_reducible repeat (first | apply Ω1_8 | apply Ω2_8 | apply Ω3_8)); exact HO_376000.out⟩, ⟨by (with_reducible repeat (first | apply Ω1_8 | apply Ω2_8 | apply Ω3_8)); exact HO_376001.out⟩, ⟨by (with_reducible repeat (first | refine blk_drewN ?_ _ | refine blk_drew ?_ | refine blk_alloc ?_ _)); exact BK375.out⟩, ⟨by repeat (first | (with_reducible first | exact HB.out | apply Ω6_8 | apply Ω7_8 | apply Ω8_8 | refine below_set ?_ GE375.out) | exact HB.out)⟩⟩
                  ·rw [if_neg c67] at H
                   have c67b0 : ((rd t394 x13_1) == (-1)) = false := beq_eq_false_iff_ne.mpr c67
                   have c67b1 : ((rd t394 x13_1) != (-1)) = true := bne_iff_ne.mpr c67
                   rw [HRT.out] at H
                   exact absurd H (by simp)
                 ·rw [if_neg c66] at H
                  exact absurd H (by simp)
                ·rw [if_neg c65] at H
                 exact absurd H (by simp)
            ·rw [if_neg c59] at H
             have c59b0 : decide ((rd t391 x13_1) < 0) = false := decide_eq_false c59
             clear c59
             by_cases c69 : x13_1 < (t394.length : Int)
             ·rw [if_pos c69] at H
              have c69b0 : decide (x13_1 < (t394.length : Int)) = true := decide_eq_true c69
              clear c69
              by_cases c70 : 0 ≤ (rd t391 x13_1)
              ·rw [if_pos c70] at H
               have c70b0 : decide (0 ≤ (rd t391 x13_1)) = true := decide_eq_true c70
               clear c70
               by_cases c71 : (rd t391 x13_1) < (x12_1.length : Int)
               ·rw [if_pos c71] at H
                have c71b0 : decide ((rd t391 x13_1) < (x12_1.length : Int)) = true := decide_eq_true c71
                clear c71
                by_cases c72 : (rd t394 x13_1) = (rd x12_1 (rd t391 x13_1))
                ·rw [if_pos c72] at H
                 have c72b0 : ((rd t394 x13_1) == (rd x12_1 (rd t391 x13_1))) = true := beq_iff_eq.mpr c72
                 have c72b1 : ((rd t394 x13_1) != (rd x12_1 (rd t391 x13_1))) = false := bne_eq_false_iff_eq.mpr c72
                 clear c72
                 by_cases c73 : (rd t394 x13_1) ≥ t374
                 ·rw [if_pos c73] at H
                  have c73b0 : decide (t374 ≤ (rd t394 x13_1)) = true := decide_eq_true c73
                  clear c73
                  rw [HRT.out] at H
                  exact absurd H (by simp)
                 ·rw [if_neg c73] at H
                  have c73b0 : decide (t374 ≤ (rd t394 x13_1)) = false := decide_eq_false c73
                  clear c73
                  obtain ⟨y418, hy418⟩ : ∃ y_ : List Int, y_ = (x12_1.set ((rd t391 x13_1) : Int).toNat (wrap64 ((rd x12_1 (rd t391 x13_1)) + 1))) := ⟨_, rfl⟩
                  replace H : (laws_FnRouted.l0 k1 t374 t391 t394 (rd t368 1) y418 (wrap64 (x13_1 + 1)) t368 t371) = some r := by first | (rw [hy418]; with_reducible exact H) | (have H2_ := (Option.bind_some _ _).symm.trans H; rw [hy418]; with_reducible exact H2_) | (have H2_ := (Option.bind_some _ _).symm.trans H; with_reducible exact H2_) | with_reducible exact H | (rw [hy418]; exact H) | exact H
                  have Ny418 := Ω5_8 hy418
                  clear hy418
                  have H' := Ω5_8 H
                  clear H
                  have p408 : 0 ≤ (x13_1 : Int) := ΩS_8 (by first | (with_reducible assumption) | assumption)
                  have q408 : x13_1 < (t391.length : Int) := ΩS_8 (by first | (with_reducible assumption) | assumption)
                  obtain ⟨ad408, e408, hx408_0⟩ := Kd.at_int (Kd.R_reads' HO_7.out).2.2 x13_1 p408 q408
                  cases e408
                  replace p408 := eq_true p408
                  replace q408 := eq_true q408
                  try go_wp2
                  have n0_ := Ω5_8 (Ω3_8 HO_7.out)
                  have n1_ := Ω5_8 (Ω3_8 HO_8.out)
                  have n2_ := Ω5_8 (Ω3_8 HO_12.out)
                  have n3_ := Ω5_8 (Ω3_8 HO_376000.out)
                  have n4_ := Ω5_8 (Ω3_8 HO_376001.out)
                  have n5_ := Ω5_8 (blk_drew BK375.out)
                  have n6_ := Ω5_8 (Ω8_8 HB.out)
                  clear HO_7
                  clear HO_8
                  clear HO_12
                  clear HO_376000
                  clear HO_376001
                  clear BK375
                  clear HB
                  have HO_7 := n0_
                  have HO_8 := n1_
                  have HO_12 := n2_
                  have HO_376000 := n3_
                  have HO_376001 := n4_
                  have BK375 := n5_
                  have HB := n6_
                  clear n0_ n1_ n2_ n3_ n4_ n5_ n6_
                  obtain ⟨Ao76, co76, eo76⟩ := Kd.R_slice HO_8.out
                  (first | subst eo76 | (injection eo76 with f1_ f2_ f3_; have f4_ := f1_.symm; have f5_ := f3_.symm; clear f1_ f2_ f3_; subst f4_; subst f5_))
                  have p411 : 0 ≤ (x13_1 : Int) := ΩS_8 (by first | (with_reducible assumption) | assumption)
                  have q411 : x13_1 < (t394.length : Int) := ΩS_8 (by first | (with_reducible assumption) | assumption)
                  obtain ⟨ad411, e411, hx411_0⟩ := Kd.at_int (Kd.R_reads' HO_8.out).2.2 x13_1 p411 q411
                  cases e411
                  replace p411 := eq_true p411
                  replace q411 := eq_true q411
                  have p412 : 0 ≤ (x13_1 : Int) := ΩS_8 (by first | (with_reducible assumption) | assumption)
                  have q412 : x13_1 < (t391.length : Int) := ΩS_8 (by first | (with_reducible assumption) | assumption)
                  obtain ⟨ad412, e412, hx412_0⟩ := Kd.at_int (Kd.R_reads' HO_7.out).2.2 x13_1 p412 q412
                  obtain rfl : ad408 = ad412 := (by injection e412)
                  replace p412 := eq_true p412
                  replace q412 := eq_true q412
                  obtain ⟨Ao77, co77, eo77⟩ := Kd.R_slice HO_12.out
                  (first | subst eo77 | (injection eo77 with f1_ f2_ f3_; have f4_ := f1_.symm; have f5_ := f3_.symm; clear f1_ f2_ f3_; subst f4_; subst f5_))
                  have p413 : 0 ≤ ((rd t391 x13_1) : Int) := ΩS_8 (by first | (with_reducible assumption) | assumption)
                  have q413 : (rd t391 x13_1) < (x12_1.length : Int) := ΩS_8 (by first | (with_reducible assumption) | assumption)
                  obtain ⟨ad413, e413, hx413_0⟩ := Kd.at_int (Kd.R_reads' HO_12.out).2.2 (rd t391 x13_1) p413 q413
                  cases e413
                  replace p413 := eq_true p413
                  replace q413 := eq_true q413
                  have p414 : 0 ≤ (x13_1 : Int) := ΩS_8 (by first | (with_reducible assumption) | assumption)
                  have q414 : x13_1 < (t394.length : Int) := ΩS_8 (by first | (with_reducible assumption) | assumption)
                  obtain ⟨ad414, e414, hx414_0⟩ := Kd.at_int (Kd.R_reads' HO_8.out).2.2 x13_1 p414 q414
                  obtain rfl : ad411 = ad414 := (by injection e414)
                  replace p414 := eq_true p414
                  replace q414 := eq_true q414
                  refine start_ (n := 20) (S := fun w' => w'.cell? (ad411.add (x13_1).toNat) = some (.int .i64 (rd t394 x13_1)) ∧ w'.cell? (ad408.add (x13_1).toNat) = some (.int .i64 (rd t391 x13_1)) ∧ w'.cell? (ad413.add ((rd t391 x13_1)).toNat) = some (.int .i64 (rd x12_1 (rd t391 x13_1))) ∧ w'.cell? (ad411.add (x13_1).toNat) = some (.int .i64 (rd t394 x13_1))) (ds := []) #[false, false, false, false, false, false, false, false, false, false, false, false, false, false, false, false, false, false, false, false] (by kernel_rfl) rfl rfl ⟨hx411_0, hx412_0, hx413_0, hx414_0⟩ (fun hHeld => ?_); refine with_tabW laws_FnRouted.tab26 laws_FnRouted.bits26 (fun HT_ HW_ => ?_)
                  generalize wr.drew = w75 at HO_7 HO_8 HO_12 HO_376000 HO_376001 BK375 HB hx411_0 hx412_0 hx413_0 hx414_0 hHeld ⊢
                  refine pure_ (i := 0) (N := some 87) (v := ?_) (a' := ?_) #[true, false, false, false, false, false, false, false, false, false, false, false, false, false, false, false, false, false, false, false] rfl rfl (any_of HT_.out (by kernel_rfl)) (fun _ _ _ h => h) (Or.inl ⟨by rfl, ?_⟩) ?_ ?_
                  rotate_left
                  ·intro w'
                   go_simp
                   with_reducible rfl
                  rotate_left
                  ·simp only [Act.put, List.setIfInBounds_toArray, List.set_cons_zero, List.set_cons_succ, i64_w, i32_w]
                   rfl
                  refine pure_ (i := 1) (N := some 88) (v := ?_) (a' := ?_) #[true, true, false, false, false, false, false, false, false, false, false, false, false, false, false, false, false, false, false, false] rfl rfl (any_of HT_.out (by kernel_rfl)) (fun _ _ _ h => h) (Or.inl ⟨by rfl, ?_⟩) ?_ ?_
                  rotate_left
                  ·intro w'
                   go_simp
                   with_reducible rfl
                  rotate_left
                  ·simp only [Act.put, List.setIfInBounds_toArray, List.set_cons_zero, List.set_cons_succ, i64_w, i32_w]
                   rfl
                  refine pure_ (i := 2) (N := some 89) (v := ?_) (a' := ?_) #[true, true, true, false, false, false, false, false, false, false, false, false, false, false, false, false, false, false, false, false] rfl rfl (any_of HT_.out (by kernel_rfl)) (fun _ _ _ h => h) (Or.inl ⟨by rfl, ?_⟩) ?_ ?_
                  rotate_left
                  ·intro w'
                   go_simp
                   with_reducible rfl
                  rotate_left
                  ·simp only [Act.put, List.setIfInBounds_toArray, List.set_cons_zero, List.set_cons_succ, i64_w, i32_w]
                   rfl
                  refine pure_ (i := 4) (N := some 91) (v := ?_) (a' := ?_) #[true, true, true, false, true, false, false, false, false, false, false, false, false, false, false, false, false, false, false, false] rfl rfl (any_of HT_.out (by kernel_rfl)) (fun _ _ _ h => h) (Or.inl ⟨by rfl, ?_⟩) ?_ ?_
                  rotate_left
                  ·intro w'
                   go_simp
                   with_reducible rfl
                  rotate_left
                  ·simp only [Act.put, List.setIfInBounds_toArray, List.set_cons_zero, List.set_cons_succ, i64_w, i32_w]
                   rfl
                  refine pure_ (i := 5) (N := some 92) (v := ?_) (a' := ?_) #[true, true, true, false, true, true, false, false, false, false, false, false, false, false, false, false, false, false, false, false] rfl rfl (any_of HT_.out (by kernel_rfl)) (fun _ _ _ h => h) (Or.inl ⟨by rfl, ?_⟩) ?_ ?_
                  rotate_left
                  ·intro w'
                   go_simp
                   with_reducible rfl
                  rotate_left
                  ·simp only [Act.put, List.setIfInBounds_toArray, List.set_cons_zero, List.set_cons_succ, i64_w, i32_w]
                   rfl
                  refine pure_ (i := 6) (N := some 93) (v := ?_) (a' := ?_) #[true, true, true, false, true, true, true, false, false, false, false, false, false, false, false, false, false, false, false, false] rfl rfl (any_of HT_.out (by kernel_rfl)) (fun _ _ _ h => h) (Or.inl ⟨by rfl, ?_⟩) ?_ ?_
                  rotate_left
                  ·intro w'
                   go_simp
                   with_reducible rfl
                  rotate_left
                  ·simp only [Act.put, List.setIfInBounds_toArray, List.set_cons_zero, List.set_cons_succ, i64_w, i32_w]
                   rfl
                  refine pure_ (i := 7) (N := some 94) (v := ?_) (a' := ?_) #[true, true, true, false, true, true, true, true, false, false, false, false, false, false, false, false, false, false, false, false] rfl rfl (any_of HT_.out (by kernel_rfl)) (fun _ _ _ h => h) (Or.inl ⟨by rfl, ?_⟩) ?_ ?_
                  rotate_left
                  ·intro w'
                   go_simp
                   with_reducible rfl
                  rotate_left
                  ·simp only [Act.put, List.setIfInBounds_toArray, List.set_cons_zero, List.set_cons_succ, i64_w, i32_w]
                   rfl
                  refine take_ (i := 3) (N := some 90) (v := ?_) (a' := ?_) #[true, true, true, true, true, true, true, true, false, false, false, false, false, false, false, false, false, false, false, false] rfl rfl (take_ofW HT_.out HW_.out (by kernel_rfl)) (fun _ _ _ h => h) (Or.inl ⟨by rfl, ?_⟩) hHeld ?_ ?_
                  rotate_left
                  ·rintro w' ⟨s0, s1, s2, s3⟩
                   go_simp
                   with_reducible rfl
                  rotate_left
                  ·simp only [Act.put, List.setIfInBounds_toArray, List.set_cons_zero, List.set_cons_succ, i64_w, i32_w]
                   rfl
                  refine take_ (i := 8) (N := some 95) (v := ?_) (a' := ?_) #[true, true, true, true, true, true, true, true, true, false, false, false, false, false, false, false, false, false, false, false] rfl rfl (take_ofW HT_.out HW_.out (by kernel_rfl)) (fun _ _ _ h => h) (Or.inl ⟨by rfl, ?_⟩) hHeld ?_ ?_
                  rotate_left
                  ·rintro w' ⟨s0, s1, s2, s3⟩
                   go_simp
                   with_reducible rfl
                  rotate_left
                  ·simp only [Act.put, List.setIfInBounds_toArray, List.set_cons_zero, List.set_cons_succ, i64_w, i32_w]
                   rfl
                  refine pure_ (i := 9) (N := some 96) (v := ?_) (a' := ?_) #[true, true, true, true, true, true, true, true, true, true, false, false, false, false, false, false, false, false, false, false] rfl rfl (any_of HT_.out (by kernel_rfl)) (fun _ _ _ h => h) (Or.inl ⟨by rfl, ?_⟩) ?_ ?_
                  rotate_left
                  ·intro w'
                   go_simp
                   with_reducible rfl
                  rotate_left
                  ·simp only [Act.put, List.setIfInBounds_toArray, List.set_cons_zero, List.set_cons_succ, i64_w, i32_w]
                   rfl
                  refine take_ (i := 10) (N := some 97) (v := ?_) (a' := ?_) #[true, true, true, true, true, true, true, true, true, true, true, false, false, false, false, false, false, false, false, false] rfl rfl (take_ofW HT_.out HW_.out (by kernel_rfl)) (fun _ _ _ h => h) (Or.inl ⟨by rfl, ?_⟩) hHeld ?_ ?_
                  rotate_left
                  ·rintro w' ⟨s0, s1, s2, s3⟩
                   go_simp
                   with_reducible rfl
                  rotate_left
                  ·simp only [Act.put, List.setIfInBounds_toArray, List.set_cons_zero, List.set_cons_succ, i64_w, i32_w]
                   rfl
                  refine pure_ (i := 11) (N := some 98) (v := ?_) (a' := ?_) #[true, true, true, true, true, true, true, true, true, true, true, true, false, false, false, false, false, false, false, false] rfl rfl (any_of HT_.out (by kernel_rfl)) (fun _ _ _ h => h) (Or.inl ⟨by rfl, ?_⟩) ?_ ?_
                  rotate_left
                  ·intro w'
                   go_simp
                   with_reducible rfl
                  rotate_left
                  ·simp only [Act.put, List.setIfInBounds_toArray, List.set_cons_zero, List.set_cons_succ, i64_w, i32_w]
                   rfl
                  refine pure_ (i := 12) (N := some 99) (v := ?_) (a' := ?_) #[true, true, true, true, true, true, true, true, true, true, true, true, true, false, false, false, false, false, false, false] rfl rfl (any_of HT_.out (by kernel_rfl)) (fun _ _ _ h => h) (Or.inl ⟨by rfl, ?_⟩) ?_ ?_
                  rotate_left
                  ·intro w'
                   go_simp
                   with_reducible rfl
                  rotate_left
                  ·simp only [Act.put, List.setIfInBounds_toArray, List.set_cons_zero, List.set_cons_succ, i64_w, i32_w]
                   rfl
                  refine pure_ (i := 13) (N := some 100) (v := ?_) (a' := ?_) #[true, true, true, true, true, true, true, true, true, true, true, true, true, true, false, false, false, false, false, false] rfl rfl (any_of HT_.out (by kernel_rfl)) (fun _ _ _ h => h) (Or.inl ⟨by rfl, ?_⟩) ?_ ?_
                  rotate_left
                  ·intro w'
                   go_simp
                   with_reducible rfl
                  rotate_left
                  ·simp only [Act.put, List.setIfInBounds_toArray, List.set_cons_zero, List.set_cons_succ, i64_w, i32_w]
                   rfl
                  refine pure_ (i := 14) (N := some 101) (v := ?_) (a' := ?_) #[true, true, true, true, true, true, true, true, true, true, true, true, true, true, true, false, false, false, false, false] rfl rfl (any_of HT_.out (by kernel_rfl)) (fun _ _ _ h => h) (Or.inl ⟨by rfl, ?_⟩) ?_ ?_
                  rotate_left
                  ·intro w'
                   go_simp
                   with_reducible rfl
                  rotate_left
                  ·simp only [Act.put, List.setIfInBounds_toArray, List.set_cons_zero, List.set_cons_succ, i64_w, i32_w]
                   rfl
                  refine pure_ (i := 15) (N := some 102) (v := ?_) (a' := ?_) #[true, true, true, true, true, true, true, true, true, true, true, true, true, true, true, true, false, false, false, false] rfl rfl (any_of HT_.out (by kernel_rfl)) (fun _ _ _ h => h) (Or.inl ⟨by rfl, ?_⟩) ?_ ?_
                  rotate_left
                  ·intro w'
                   go_simp
                   with_reducible rfl
                  rotate_left
                  ·simp only [Act.put, List.setIfInBounds_toArray, List.set_cons_zero, List.set_cons_succ, i64_w, i32_w]
                   rfl
                  refine pure_ (i := 17) (N := some 104) (v := ?_) (a' := ?_) #[true, true, true, true, true, true, true, true, true, true, true, true, true, true, true, true, false, true, false, false] rfl rfl (any_of HT_.out (by kernel_rfl)) (fun _ _ _ h => h) (Or.inl ⟨by rfl, ?_⟩) ?_ ?_
                  rotate_left
                  ·intro w'
                   go_simp
                   with_reducible rfl
                  rotate_left
                  ·simp only [Act.put, List.setIfInBounds_toArray, List.set_cons_zero, List.set_cons_succ, i64_w, i32_w]
                   rfl
                  refine take_ (i := 16) (N := some 103) (v := ?_) (a' := ?_) #[true, true, true, true, true, true, true, true, true, true, true, true, true, true, true, true, true, true, false, false] rfl rfl (take_ofW HT_.out HW_.out (by kernel_rfl)) (fun _ _ _ h => h) (Or.inl ⟨by rfl, ?_⟩) hHeld ?_ ?_
                  rotate_left
                  ·rintro w' ⟨s0, s1, s2, s3⟩
                   go_simp
                   with_reducible rfl
                  rotate_left
                  ·simp only [Act.put, List.setIfInBounds_toArray, List.set_cons_zero, List.set_cons_succ, i64_w, i32_w]
                   rfl
                  refine pure_ (i := 18) (N := some 105) (v := ?_) (a' := ?_) #[true, true, true, true, true, true, true, true, true, true, true, true, true, true, true, true, true, true, true, false] rfl rfl (any_of HT_.out (by kernel_rfl)) (fun _ _ _ h => h) (Or.inl ⟨by rfl, ?_⟩) ?_ ?_
                  rotate_left
                  ·intro w'
                   go_simp
                   with_reducible rfl
                  rotate_left
                  ·simp only [Act.put, List.setIfInBounds_toArray, List.set_cons_zero, List.set_cons_succ, i64_w, i32_w]
                   rfl
                  refine pure_ (i := 19) (N := some 106) (v := ?_) (a' := ?_) #[true, true, true, true, true, true, true, true, true, true, true, true, true, true, true, true, true, true, true, true] rfl rfl (any_of HT_.out (by kernel_rfl)) (fun _ _ _ h => h) (Or.inl ⟨by rfl, ?_⟩) ?_ ?_
                  rotate_left
                  ·intro w'
                   go_simp
                   with_reducible rfl
                  rotate_left
                  ·simp only [Act.put, List.setIfInBounds_toArray, List.set_cons_zero, List.set_cons_succ, i64_w, i32_w]
                   rfl
                  refine done_ (done_of HT_.out (by kernel_rfl)) ?_
                  try go_wp2
                  have n0_ := Ω5_8 (Ω3_8 HO_7.out)
                  have n1_ := Ω5_8 (Ω3_8 HO_8.out)
                  have n2_ := Ω5_8 (Ω3_8 HO_12.out)
                  have n3_ := Ω5_8 (Ω3_8 HO_376000.out)
                  have n4_ := Ω5_8 (Ω3_8 HO_376001.out)
                  have n5_ := Ω5_8 (blk_drew BK375.out)
                  have n6_ := Ω5_8 (Ω8_8 HB.out)
                  clear HO_7
                  clear HO_8
                  clear HO_12
                  clear HO_376000
                  clear HO_376001
                  clear BK375
                  clear HB
                  have HO_7 := n0_
                  have HO_8 := n1_
                  have HO_12 := n2_
                  have HO_376000 := n3_
                  have HO_376001 := n4_
                  have BK375 := n5_
                  have HB := n6_
                  clear n0_ n1_ n2_ n3_ n4_ n5_ n6_
                  have p415 : 0 ≤ (x13_1 : Int) := ΩS_8 (by first | (with_reducible assumption) | assumption)
                  have q415 : x13_1 < (t391.length : Int) := ΩS_8 (by first | (with_reducible assumption) | assumption)
                  obtain ⟨ad415, e415, hx415_0⟩ := Kd.at_int (Kd.R_reads' HO_7.out).2.2 x13_1 p415 q415
                  obtain rfl : ad408 = ad415 := (by injection e415)
                  replace p415 := eq_true p415
                  replace q415 := eq_true q415
                  have p416 : 0 ≤ (x13_1 : Int) := ΩS_8 (by first | (with_reducible assumption) | assumption)
                  have q416 : x13_1 < (t391.length : Int) := ΩS_8 (by first | (with_reducible assumption) | assumption)
                  obtain ⟨ad416, e416, hx416_0⟩ := Kd.at_int (Kd.R_reads' HO_7.out).2.2 x13_1 p416 q416
                  obtain rfl : ad408 = ad416 := (by injection e416)
                  replace p416 := eq_true p416
                  replace q416 := eq_true q416
                  have p417 : 0 ≤ ((rd t391 x13_1) : Int) := ΩS_8 (by first | (with_reducible assumption) | assumption)
                  have q417 : (rd t391 x13_1) < (x12_1.length : Int) := ΩS_8 (by first | (with_reducible assumption) | assumption)
                  obtain ⟨ad417, e417, hx417_0⟩ := Kd.at_int (Kd.R_reads' HO_12.out).2.2 (rd t391 x13_1) p417 q417
                  obtain rfl : ad413 = ad417 := (by injection e417)
                  replace p417 := eq_true p417
                  replace q417 := eq_true q417
                  have p74 : 0 ≤ ((rd t391 x13_1) : Int) := ΩS_8 (by first | (with_reducible assumption) | assumption)
                  have q74 : ((rd t391 x13_1) : Int) < ((x12_1.length : Int) : Int) := ΩS_8 (by first | (with_reducible assumption) | assumption)
                  obtain ⟨go74, co74, eo74, gb74, gl74, cl74, HG74⟩ := Kd.R_form HO_12.out (by omega)
                  (first | cases eo74 | (injection eo74 with ea_ en_ ec_; (first | subst ea_ | (injection ea_ with ea_; subst ea_)); subst ec_; clear en_))
                  have GB74 := Ω5_8 gb74
                  have GG74 := Ω5_8 HG74
                  clear gb74 gl74 HG74
                  (first | simp only [add_plain] at hx413_0 | skip)
                  (first | simp only [add_plain] at hx417_0 | skip)
                  obtain ⟨hx74_0, hf74_0⟩ := Kd.R_celln 0 HO_12.out ((rd t391 x13_1) : Int) p74 q74
                  replace p74 := eq_true p74
                  replace q74 := eq_true q74
                  have HP79 := Kd.R_putn HO_12.out ((rd t391 x13_1) : Int) (wrap64 ((rd x12_1 (rd t391 x13_1)) + 1))
                  rw [← Ny418.out] at HP79
                  have HQ79 := Ω5_8 HP79
                  clear HP79
                  refine start_ (n := 15) (S := fun w' => w'.cell? (ad408.add (x13_1).toNat) = some (.int .i64 (rd t391 x13_1)) ∧ w'.cell? (ad408.add (x13_1).toNat) = some (.int .i64 (rd t391 x13_1)) ∧ w'.cell? ⟨go74, ((rd t391 x13_1)).toNat, none⟩ = some (.int .i64 (rd x12_1 (rd t391 x13_1)))) (ds := [14]) #[false, false, false, false, false, false, false, false, false, false, false, false, false, false, false] (by kernel_rfl) rfl rfl ⟨hx415_0, hx416_0, hx417_0⟩ (fun hHeld => ?_); refine with_tabW laws_FnRouted.tab28 laws_FnRouted.bits28 (fun HT_ HW_ => ?_)
                  generalize w75.drew = w78 at HO_7 HO_8 HO_12 HO_376000 HO_376001 BK375 HB GG74 HQ79 hf74_0 hx413_0 hx415_0 hx416_0 hx417_0 hx74_0 hHeld ⊢
                  refine pure_ (i := 0) (N := some 107) (v := ?_) (a' := ?_) #[true, false, false, false, false, false, false, false, false, false, false, false, false, false, false] rfl rfl (any_of HT_.out (by kernel_rfl)) (fun _ _ _ h => h) (Or.inl ⟨by rfl, ?_⟩) ?_ ?_
                  rotate_left
                  ·intro w'
                   go_simp
                   with_reducible rfl
                  rotate_left
                  ·simp only [Act.put, List.setIfInBounds_toArray, List.set_cons_zero, List.set_cons_succ, i64_w, i32_w]
                   rfl
                  refine pure_ (i := 1) (N := some 108) (v := ?_) (a' := ?_) #[true, true, false, false, false, false, false, false, false, false, false, false, false, false, false] rfl rfl (any_of HT_.out (by kernel_rfl)) (fun _ _ _ h => h) (Or.inl ⟨by rfl, ?_⟩) ?_ ?_
                  rotate_left
                  ·intro w'
                   go_simp
                   with_reducible rfl
                  rotate_left
                  ·simp only [Act.put, List.setIfInBounds_toArray, List.set_cons_zero, List.set_cons_succ, i64_w, i32_w]
                   rfl
                  refine pure_ (i := 2) (N := some 109) (v := ?_) (a' := ?_) #[true, true, true, false, false, false, false, false, false, false, false, false, false, false, false] rfl rfl (any_of HT_.out (by kernel_rfl)) (fun _ _ _ h => h) (Or.inl ⟨by rfl, ?_⟩) ?_ ?_
                  rotate_left
                  ·intro w'
                   go_simp
                   with_reducible rfl
                  rotate_left
                  ·simp only [Act.put, List.setIfInBounds_toArray, List.set_cons_zero, List.set_cons_succ, i64_w, i32_w]
                   rfl
                  refine pure_ (i := 3) (N := some 110) (v := ?_) (a' := ?_) #[true, true, true, true, false, false, false, false, false, false, false, false, false, false, false] rfl rfl (any_of HT_.out (by kernel_rfl)) (fun _ _ _ h => h) (Or.inl ⟨by rfl, ?_⟩) ?_ ?_
                  rotate_left
                  ·intro w'
                   go_simp
                   with_reducible rfl
                  rotate_left
                  ·simp only [Act.put, List.setIfInBounds_toArray, List.set_cons_zero, List.set_cons_succ, i64_w, i32_w]
                   rfl
                  refine pure_ (i := 5) (N := some 112) (v := ?_) (a' := ?_) #[true, true, true, true, false, true, false, false, false, false, false, false, false, false, false] rfl rfl (any_of HT_.out (by kernel_rfl)) (fun _ _ _ h => h) (Or.inl ⟨by rfl, ?_⟩) ?_ ?_
                  rotate_left
                  ·intro w'
                   go_simp
                   with_reducible rfl
                  rotate_left
                  ·simp only [Act.put, List.setIfInBounds_toArray, List.set_cons_zero, List.set_cons_succ, i64_w, i32_w]
                   rfl
                  refine pure_ (i := 6) (N := some 113) (v := ?_) (a' := ?_) #[true, true, true, true, false, true, true, false, false, false, false, false, false, false, false] rfl rfl (any_of HT_.out (by kernel_rfl)) (fun _ _ _ h => h) (Or.inl ⟨by rfl, ?_⟩) ?_ ?_
                  rotate_left
                  ·intro w'
                   go_simp
                   with_reducible rfl
                  rotate_left
                  ·simp only [Act.put, List.setIfInBounds_toArray, List.set_cons_zero, List.set_cons_succ, i64_w, i32_w]
                   rfl
                  refine pure_ (i := 7) (N := some 114) (v := ?_) (a' := ?_) #[true, true, true, true, false, true, true, true, false, false, false, false, false, false, false] rfl rfl (any_of HT_.out (by kernel_rfl)) (fun _ _ _ h => h) (Or.inl ⟨by rfl, ?_⟩) ?_ ?_
                  rotate_left
                  ·intro w'
                   go_simp
                   with_reducible rfl
                  rotate_left
                  ·simp only [Act.put, List.setIfInBounds_toArray, List.set_cons_zero, List.set_cons_succ, i64_w, i32_w]
                   rfl
                  refine pure_ (i := 8) (N := some 115) (v := ?_) (a' := ?_) #[true, true, true, true, false, true, true, true, true, false, false, false, false, false, false] rfl rfl (any_of HT_.out (by kernel_rfl)) (fun _ _ _ h => h) (Or.inl ⟨by rfl, ?_⟩) ?_ ?_
                  rotate_left
                  ·intro w'
                   go_simp
                   with_reducible rfl
                  rotate_left
                  ·simp only [Act.put, List.setIfInBounds_toArray, List.set_cons_zero, List.set_cons_succ, i64_w, i32_w]
                   rfl
                  refine take_ (i := 4) (N := some 111) (v := ?_) (a' := ?_) #[true, true, true, true, true, true, true, true, true, false, false, false, false, false, false] rfl rfl (take_ofW HT_.out HW_.out (by kernel_rfl)) (fun _ _ _ h => h) (Or.inl ⟨by rfl, ?_⟩) hHeld ?_ ?_
                  rotate_left
                  ·rintro w' ⟨s0, s1, s2⟩
                   go_simp
                   with_reducible rfl
                  rotate_left
                  ·simp only [Act.put, List.setIfInBounds_toArray, List.set_cons_zero, List.set_cons_succ, i64_w, i32_w]
                   rfl
                  refine take_ (i := 9) (N := some 116) (v := ?_) (a' := ?_) #[true, true, true, true, true, true, true, true, true, true, false, false, false, false, false] rfl rfl (take_ofW HT_.out HW_.out (by kernel_rfl)) (fun _ _ _ h => h) (Or.inl ⟨by rfl, ?_⟩) hHeld ?_ ?_
                  rotate_left
                  ·rintro w' ⟨s0, s1, s2⟩
                   go_simp
                   with_reducible rfl
                  rotate_left
                  ·simp only [Act.put, List.setIfInBounds_toArray, List.set_cons_zero, List.set_cons_succ, i64_w, i32_w]
                   rfl
                  refine pure_ (i := 10) (N := some 117) (v := ?_) (a' := ?_) #[true, true, true, true, true, true, true, true, true, true, true, false, false, false, false] rfl rfl (any_of HT_.out (by kernel_rfl)) (fun _ _ _ h => h) (Or.inl ⟨by rfl, ?_⟩) ?_ ?_
                  rotate_left
                  ·intro w'
                   go_simp
                   with_reducible rfl
                  rotate_left
                  ·simp only [Act.put, List.setIfInBounds_toArray, List.set_cons_zero, List.set_cons_succ, i64_w, i32_w]
                   rfl
                  refine take_ (i := 11) (N := some 118) (v := ?_) (a' := ?_) #[true, true, true, true, true, true, true, true, true, true, true, true, false, false, false] rfl rfl (take_ofW HT_.out HW_.out (by kernel_rfl)) (fun _ _ _ h => h) (Or.inl ⟨by rfl, ?_⟩) hHeld ?_ ?_
                  rotate_left
                  ·rintro w' ⟨s0, s1, s2⟩
                   go_simp
                   with_reducible rfl
                  rotate_left
                  ·simp only [Act.put, List.setIfInBounds_toArray, List.set_cons_zero, List.set_cons_succ, i64_w, i32_w]
                   rfl
                  refine pure_ (i := 12) (N := some 119) (v := ?_) (a' := ?_) #[true, true, true, true, true, true, true, true, true, true, true, true, true, false, false] rfl rfl (any_of HT_.out (by kernel_rfl)) (fun _ _ _ h => h) (Or.inl ⟨by rfl, ?_⟩) ?_ ?_
                  rotate_left
                  ·intro w'
                   go_simp
                   with_reducible rfl
                  rotate_left
                  ·simp only [Act.put, List.setIfInBounds_toArray, List.set_cons_zero, List.set_cons_succ, i64_w, i32_w]
                   rfl
                  refine pure_ (i := 13) (N := some 120) (v := ?_) (a' := ?_) #[true, true, true, true, true, true, true, true, true, true, true, true, true, true, false] rfl rfl (any_of HT_.out (by kernel_rfl)) (fun _ _ _ h => h) (Or.inl ⟨by rfl, ?_⟩) ?_ ?_
                  rotate_left
                  ·intro w'
                   go_simp
                   with_reducible rfl
                  rotate_left
                  ·simp only [Act.put, List.setIfInBounds_toArray, List.set_cons_zero, List.set_cons_succ, i64_w, i32_w]
                   rfl
                  refine last_ (i := 14) (N := none) #[true, true, true, true, true, true, true, true, true, true, true, true, true, true, true] rfl rfl (one_of HT_.out (by kernel_rfl)) (by decide) (fun K hK => ?_)
                  refine skip_ (w1 := ?_) (by rfl) rfl ?_ ?_
                  rotate_left
                  ·go_simp
                   rfl
                  refine hK.out _ _ ?_
                  clear hK K
                  refine done_ (done_of HT_.out (by kernel_rfl)) ?_
                  try go_wp2
                  go_roundg k1
                  case measure => have := HK1.out; omega
                  case rel => exact ⟨(y418), (wrap64 (x13_1 + 1)), (by first | rfl | (simp; done) | (simp [*]; done)), H', ⟨by have := HK1.out; omega⟩, ⟨by (with_reducible repeat (first | apply Ω1_8 | apply Ω2_8 | apply Ω3_8)); exact ΩE_8 (Kd.R_far (p := ⟨go74, ((rd t391 x13_1) : Int).toNat, none⟩) (ΩE_8 HO_7.out (fun k_ hk => (⟨hk, fun e_ => hk.2.1 (by rw [e_]; rfl)⟩ : _ ∧ k_ ≠ go74))) (fun _ hk => hk.2) (.int .i64 (wrap64 ((rd x12_1 (rd t391 x13_1)) + 1)))) (fun _ hk => ⟨hk.1.1, ⟨hk.1.2.1, ⟨hk.1.2.2.1, hk.1.2.2.2⟩⟩⟩)⟩, ⟨by (with_reducible repeat (first | apply Ω1_8 | apply Ω2_8 | apply Ω3_8)); exact ΩE_8 (Kd.R_far (p := ⟨go74, ((rd t391 x13_1) : Int).toNat, none⟩) (ΩE_8 HO_8.out (fun k_ hk => (⟨hk, fun e_ => hk.2.1 (by rw [e_]; rfl)⟩ : _ ∧ k_ ≠ go74))) (fun _ hk => hk.2) (.int .i64 (wrap64 ((rd x12_1 (rd t391 x13_1)) + 1)))) (fun _ hk => ⟨hk.1.1, ⟨hk.1.2.1, ⟨hk.1.2.2.1, hk.1.2.2.2⟩⟩⟩)⟩, ⟨by (with_reducible repeat (first | apply Ω1_8 | apply Ω2_8 | apply Ω3_8)); exact HQ79.out⟩, ⟨by (with_reducible repeat (first | apply Ω1_8 | apply Ω2_8 | apply Ω3_8)); exact ΩE_8 (Kd.R_far (p := ⟨go74, ((rd t391 x13_1) : Int).toNat, none⟩) (ΩE_8 HO_376000.out (fun k_ hk => (⟨hk, fun e_ => hk.2.2.1 (by rw [e_]; rfl)⟩ : _ ∧ k_ ≠ go74))) (fun _ hk => hk.2) (.int .i64 (wrap64 ((rd x12_1 (rd t391 x13_1)) + 1)))) (fun _ hk => ⟨hk.1.1, ⟨hk.1.2.1, ⟨hk.1.2.2.1, hk.1.2.2.2⟩⟩⟩)⟩, ⟨by (with_reducible repeat (first | apply Ω1_8 | apply Ω2_8 | apply Ω3_8)); exact ΩE_8 (Kd.R_far (p := ⟨go74, ((rd t391 x13_1) : Int).toNat, none⟩) (ΩE_8 HO_376001.out (fun k_ hk => (⟨hk, fun e_ => hk.2.2.1 (by rw [e_]; rfl)⟩ : _ ∧ k_ ≠ go74))) (fun _ hk => hk.2) (.int .i64 (wrap64 ((rd x12_1 (rd t391 x13_1)) + 1)))) (fun _ hk => ⟨hk.1.1, ⟨hk.1.2.1, ⟨hk.1.2.2.1, hk.1.2.2.2⟩⟩⟩)⟩, ⟨by (with_reducible repeat (first | refine blk_drewN ?_ _ | refine blk_drew ?_ | refine blk_alloc ?_ _)); refine blk_far ?_ (by have h_ := Kd.R_ne HO_12.out BK375.out (by decide); intro e_; exact h_ (by rw [e_]; rfl)) _; (with_reducible repeat (first | refine blk_drewN ?_ _ | refine blk_drew ?_ | refine blk_alloc ?_ _)); exact BK375.out⟩, ⟨by repeat (first | (with_reducible first | exact HB.out | apply Ω6_8 | apply Ω7_8 | apply Ω8_8 | refine below_set ?_ GB74.out | refine below_set ?_ GE375.out) | exact HB.out)⟩⟩
                ·rw [if_neg c72] at H
                 have c72b0 : ((rd t394 x13_1) == (rd x12_1 (rd t391 x13_1))) = false := beq_eq_false_iff_ne.mpr c72
                 have c72b1 : ((rd t394 x13_1) != (rd x12_1 (rd t391 x13_1))) = true := bne_iff_ne.mpr c72
                 rw [HRT.out] at H
                 exact absurd H (by simp)
               ·rw [if_neg c71] at H
                exact absurd H (by simp)
              ·rw [if_neg c70] at H
               exact absurd H (by simp)
             ·rw [if_neg c69] at H
              exact absurd H (by simp)
           ·rw [if_neg c58] at H
            exact absurd H (by simp)
          ·rw [if_neg c57] at H
           have c57b0 : decide (x13_1 < (t391.length : Int)) = false := decide_eq_false c57
           clear c57
           by_cases c80 : 0 < (t368.length : Int)
           ·rw [if_pos c80] at H
            have c80b0 : decide (0 < (t368.length : Int)) = true := decide_eq_true c80
            have c80b1 : decide (0 < t368.length) = true := decide_eq_true (by omega)
            clear c80
            by_cases c81 : (t391.length : Int) = (rd t368 0)
            ·rw [if_pos c81] at H
             have c81b0 : ((t391.length : Int) == (rd t368 0)) = true := beq_iff_eq.mpr c81
             have c81b1 : ((t391.length : Int) != (rd t368 0)) = false := bne_eq_false_iff_eq.mpr c81
             clear c81
             obtain rfl := Option.some.inj H
             have hcz82_0 : wr.cell? ⟨gb375, 0, none⟩ = some (.slice (some ad403) t368.length co37) := (blk_cell BK375.out 0).trans rfl
             have hcz82_1 : wr.cell? ⟨gb375, 1, none⟩ = some (.slice Ao39 t371.length co39) := (blk_cell BK375.out 1).trans rfl
             have hfz82_0 := blk_frozen BK375.out 0
             have hfz82_1 := blk_frozen BK375.out 1
             have p407 : 0 ≤ (0 : Int) := (by omega)
             have q407 : 0 < (t368.length : Int) := ΩS_8 (by first | (with_reducible assumption) | assumption)
             obtain ⟨ad407, e407, hx407_0⟩ := Kd.at_int (Kd.R_reads' HO_376000.out).2.2 0 p407 q407
             obtain rfl : ad403 = ad407 := (by injection e407)
             have qi407 : (0 < t368.length) = True := eq_true (by omega)
             (try rw [show ((0 : Int)).toNat = 0 from rfl] at hx407_0)
             (try rw [Addr.add_zero'] at hx407_0)
             replace p407 := eq_true p407
             replace q407 := eq_true q407
             obtain ⟨Ao83, co83, eo83⟩ := Kd.R_slice HO_8.out
             subst eo83
             go_wp2
             go_ret
             exact ⟨by first | rfl | (simp [errW_none, errW_some] <;> rfl) | (simp [*, errW_none, errW_some] <;> rfl), by repeat (first | (with_reducible first | exact HB.out | apply Ω6_8 | apply Ω7_8 | apply Ω8_8 | refine below_set ?_ GE375.out) | exact HB.out)⟩
            ·rw [if_neg c81] at H
             have c81b0 : ((t391.length : Int) == (rd t368 0)) = false := beq_eq_false_iff_ne.mpr c81
             have c81b1 : ((t391.length : Int) != (rd t368 0)) = true := bne_iff_ne.mpr c81
             rw [HRT.out] at H
             exact absurd H (by simp)
           ·rw [if_neg c80] at H
            exact absurd H (by simp)
       ·rw [if_neg c34] at H
        exact absurd H (by simp)
      ·rw [if_neg c33] at H
       exact absurd H (by simp)
     ·rw [if_neg c32] at H
      exact absurd H (by simp)
   ·rw [if_neg c10] at H
    have c10b0 : ((t391.length : Int) == (t397.length : Int)) = false := beq_eq_false_iff_ne.mpr c10
    have c10b1 : ((t391.length : Int) != (t397.length : Int)) = true := bne_iff_ne.mpr c10
    have c10b2 : (t391.length == t397.length) = false := by first | simpa using c10 | (simp at c10 ⊢; omega)
    rw [HRT.out] at H
    exact absurd H (by simp)
  ·rw [if_neg c7] at H
   have c7b0 : ((t385.length : Int) == 1) = false := beq_eq_false_iff_ne.mpr c7
   have c7b1 : ((t385.length : Int) != 1) = true := bne_iff_ne.mpr c7
   rw [HRT.out] at H
   exact absurd H (by simp)

/-- THE ONE PURE STATEMENT of laws_FnRouted: yours. -/
def laws_FnRouted.Pure : Prop := ∀ (l0 : List Int), l0.length ≤ maxLen → l0.length * 1 ≤ 140737488351232 → (∀ x ∈ l0, (Lit.int .u8 x).wf = true) → ∃ k, laws_FnRouted.f k l0 = some true
theorem laws_FnRouted.walk (P : laws_FnRouted.Pure) (a0 : Option Addr) (len0 cap0 : Nat) (z0 : List Int) (w : World) (w0 : (a0 = none ∧ len0 = 0 ∧ cap0 = 0 ∧ z0 = []) ∨ ∃ x, a0 = some x ∧ len0 ≤ cap0 ∧ cap0 ≤ maxLen ∧ z0.length = cap0 ∧ (∀ i, i < z0.length → w.cell? (x.add i) = some (.int .u8 (z0.getD i 0))) ∧ ∀ n ∈ z0, (Lit.int .u8 n).wf = true) (y0 : len0 * 1 ≤ 140737488351232) :
  Calls Try.prog 6 #[.slice a0 len0 cap0] w fun e w' => e = .returned (.bool true) ∧ Below w.heap.size w w' := by
 obtain ⟨l0, rfl, hr0, hm0, hw0, hc0⟩ := ReadsInt.ofRowC w0
 obtain ⟨k, h⟩ := P l0 hm0 y0 hw0
 refine (laws_FnRouted.calls k _ _ l0 true w rfl (Kd.C_of_reads (d := (0 : Int)) (h1 := fun _ => rfl) hr0) hc0 h).mono ?_
 rintro e w' ⟨rfl, hd⟩
 exact ⟨rfl, hd⟩

end Go.Proofs.Ytcpemdedmepfeaa.PFnRouted
