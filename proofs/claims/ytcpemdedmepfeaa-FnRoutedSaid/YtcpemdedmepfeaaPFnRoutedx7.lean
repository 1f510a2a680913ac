-- Printed out of the translation, hand-written contracts beside it; checked by the kernel alone.
import Derived.Test.YtcpemdedmepfeaaPFnRoutedx0
import Derived.Test.YtcpemdedmepfeaaPFnRoutedx6
namespace Go.Proofs.Ytcpemdedmepfeaa.PFnRouted
open Go.RowKit Go.Proofs.YtcpemdedmepfeaaW.PrintWords Go.Proofs.YtcpemdedmepfeaaW.PrintLast Go.Proofs.YtcpemdedmepfeaaW.PrintMore
attribute [local go_sem] max2_int min2_int max_two min_two max_three min_three max_four min_four   -- for this text's walks alone
set_option linter.unusedVariables false
set_option linter.unusedSimpArgs false
theorem Ω1_7 : type_of% @Kd.R_alloc := @Kd.R_alloc
theorem Ω2_7 : type_of% @Kd.R_drewN := @Kd.R_drewN
theorem Ω3_7 : type_of% @Kd.R_drew := @Kd.R_drew
theorem Ω5_7 : type_of% @Aside0.mk := @Aside0.mk
theorem Ω6_7 : type_of% @below_alloc := @below_alloc
theorem Ω7_7 : type_of% @pw_below_drewN := @pw_below_drewN
theorem Ω8_7 : type_of% @below_drew1 := @below_drew1
theorem Ω9_7 : type_of% @below_set := @below_set

/-! ### spec_Route: function 24 -/
mutual
def spec_Route.j0 : Nat → Int → List Int → List Int → Bool → List Int → List Int → Option (List Int × List Int)
 | 0, _, _, _, _, _, _ => none
 | k + 1, x1, x6, x7, x30, x344000, x344001 => if x30 = true then (some (x6, x7)) else (spec_Route.l0 k x1 x6 x7 0 x344000 x344001)
def spec_Route.l0 : Nat → Int → List Int → List Int → Int → List Int → List Int → Option (List Int × List Int)
 | 0, _, _, _, _, _, _ => none
 | k + 1, x1, x6, x7, x8, x344000, x344001 => if 0 < (x344000.length : Int) then (if x8 < (rd x344000 0) then ((spec_l5Row.f x344000 x344001 x8).bind fun t353 => (spec_Route.l1 k x1 x6 x7 x8 t353 (-1) (-1) 0 x344000 x344001)) else (some (x6, x7))) else (none)
def spec_Route.l1 : Nat → Int → List Int → List Int → Int → List Int → Int → Int → Int → List Int → List Int → Option (List Int × List Int)
 | 0, _, _, _, _, _, _, _, _, _, _ => none
 | k + 1, x1, x6, x7, x8, x9, x10, x11, x12, x344000, x344001 => if x12 < (x9.length : Int) then (spec_Route.l2 k x1 x6 x7 x8 x9 x10 x11 x12 0 0 x344000 x344001) else (if x6.length < 17592186044416 then (if x7.length < 17592186044416 then (spec_Route.l0 k x1 (x6 ++ [x10]) (x7 ++ [x11]) (wrap64 (x8 + 1)) x344000 x344001) else (none)) else (none))
def spec_Route.l2 : Nat → Int → List Int → List Int → Int → List Int → Int → Int → Int → Int → Int → List Int → List Int → Option (List Int × List Int)
 | 0, _, _, _, _, _, _, _, _, _, _, _, _ => none
 | k + 1, x1, x6, x7, x8, x9, x10, x11, x12, x13, x14, x344000, x344001 => if x14 < x8 then (if 0 ≤ x14 then (if x14 < (x6.length : Int) then (if (rd x6 x14) = x12 then (spec_Route.l2 k x1 x6 x7 x8 x9 x10 x11 x12 (wrap64 (x13 + 1)) (wrap64 (x14 + 1)) x344000 x344001) else (spec_Route.l2 k x1 x6 x7 x8 x9 x10 x11 x12 x13 (wrap64 (x14 + 1)) x344000 x344001)) else (none)) else (none)) else (if x13 < x1 then (if x10 < 0 then (spec_Route.j4 k x1 x6 x7 x8 x9 x10 x11 x12 x13 true x344000 x344001) else (if 0 ≤ x12 then (if x12 < (x9.length : Int) then ((spec_Signed.f (rd x9 x12)).bind fun t364 => (if 0 ≤ x10 then (if x10 < (x9.length : Int) then ((spec_Signed.f (rd x9 x10)).bind fun t366 => (spec_Route.j4 k x1 x6 x7 x8 x9 x10 x11 x12 x13 (decide (t364 > t366)) x344000 x344001)) else (none)) else (none))) else (none)) else (none))) else (spec_Route.j4 k x1 x6 x7 x8 x9 x10 x11 x12 x13 false x344000 x344001))
def spec_Route.j4 : Nat → Int → List Int → List Int → Int → List Int → Int → Int → Int → Int → Bool → List Int → List Int → Option (List Int × List Int)
 | 0, _, _, _, _, _, _, _, _, _, _, _, _ => none
 | k + 1, x1, x6, x7, x8, x9, x10, x11, x12, x13, x82, x344000, x344001 => if x82 = true then (spec_Route.l1 k x1 x6 x7 x8 x9 x12 x13 (wrap64 (x12 + 1)) x344000 x344001) else (spec_Route.l1 k x1 x6 x7 x8 x9 x10 x11 (wrap64 (x12 + 1)) x344000 x344001)
end
def spec_Route.f (k : Nat) (l0_0 : List Int) (l0_1 : List Int) (a1 : Int) : Option (List Int × List Int) := (some (([] : List Int) : List Int)).bind fun y344 => ((some (([] : List Int) : List Int)).bind fun y347 => ((spec_TensorOk.f k l0_0 l0_1).bind fun t350 => (if t350 = true then (if (l0_0.length : Int) = 2 then ((spec_l5In.f a1 1 4096).bind fun t351 => (spec_Route.j0 k a1 y344 y347 (!t351) l0_0 l0_1)) else (spec_Route.j0 k a1 y344 y347 true l0_0 l0_1)) else (spec_Route.j0 k a1 y344 y347 true l0_0 l0_1))))
theorem spec_Route.mono_l : ∀ k, (∀ y0 y1 y2 y3 y4 y5, LeO (spec_Route.j0 k y0 y1 y2 y3 y4 y5) (spec_Route.j0 (k + 1) y0 y1 y2 y3 y4 y5)) ∧ (∀ y0 y1 y2 y3 y4 y5, LeO (spec_Route.l0 k y0 y1 y2 y3 y4 y5) (spec_Route.l0 (k + 1) y0 y1 y2 y3 y4 y5)) ∧ (∀ y0 y1 y2 y3 y4 y5 y6 y7 y8 y9, LeO (spec_Route.l1 k y0 y1 y2 y3 y4 y5 y6 y7 y8 y9) (spec_Route.l1 (k + 1) y0 y1 y2 y3 y4 y5 y6 y7 y8 y9)) ∧ (∀ y0 y1 y2 y3 y4 y5 y6 y7 y8 y9 y10 y11, LeO (spec_Route.l2 k y0 y1 y2 y3 y4 y5 y6 y7 y8 y9 y10 y11) (spec_Route.l2 (k + 1) y0 y1 y2 y3 y4 y5 y6 y7 y8 y9 y10 y11)) ∧ (∀ y0 y1 y2 y3 y4 y5 y6 y7 y8 y9 y10 y11, LeO (spec_Route.j4 k y0 y1 y2 y3 y4 y5 y6 y7 y8 y9 y10 y11) (spec_Route.j4 (k + 1) y0 y1 y2 y3 y4 y5 y6 y7 y8 y9 y10 y11))
 | 0 => ⟨fun _ _ _ _ _ _ r h => by simp [spec_Route.j0] at h, fun _ _ _ _ _ _ r h => by simp [spec_Route.l0] at h, fun _ _ _ _ _ _ _ _ _ _ r h => by simp [spec_Route.l1] at h, fun _ _ _ _ _ _ _ _ _ _ _ _ r h => by simp [spec_Route.l2] at h, fun _ _ _ _ _ _ _ _ _ _ _ _ r h => by simp [spec_Route.j4] at h⟩
 | k + 1 => by
  obtain ⟨ih0, ih1, ih2, ih3, ih4⟩ := spec_Route.mono_l k
  refine ⟨?_, ?_, ?_, ?_, ?_⟩
  ·intro y0 y1 y2 y3 y4 y5
   unfold spec_Route.j0
   repeat' first
   | (with_reducible exact ih0 _ _ _ _ _ _)
   | (with_reducible exact ih1 _ _ _ _ _ _)
   | (with_reducible exact ih2 _ _ _ _ _ _ _ _ _ _)
   | (with_reducible exact ih3 _ _ _ _ _ _ _ _ _ _ _ _)
   | (with_reducible exact ih4 _ _ _ _ _ _ _ _ _ _ _ _)
   | (with_reducible exact spec_TensorOk.mono _ _ _)
   | (with_reducible exact LeO.refl _)
   | (with_reducible exact LeO.none _)
   | (with_reducible refine LeO.ite ?_ ?_)
   | (with_reducible refine LeO.bind ?_ (fun _ => ?_))
   | exact ih0 _ _ _ _ _ _
   | exact ih1 _ _ _ _ _ _
   | exact ih2 _ _ _ _ _ _ _ _ _ _
   | exact ih3 _ _ _ _ _ _ _ _ _ _ _ _
   | exact ih4 _ _ _ _ _ _ _ _ _ _ _ _
   | exact spec_TensorOk.mono _ _ _
   | exact LeO.none _
   | refine LeO.ite ?_ ?_
   | refine LeO.bind ?_ (fun _ => ?_)
  ·intro y0 y1 y2 y3 y4 y5
   unfold spec_Route.l0
   repeat' first
   | (with_reducible exact ih0 _ _ _ _ _ _)
   | (with_reducible exact ih1 _ _ _ _ _ _)
   | (with_reducible exact ih2 _ _ _ _ _ _ _ _ _ _)
   | (with_reducible exact ih3 _ _ _ _ _ _ _ _ _ _ _ _)
   | (with_reducible exact ih4 _ _ _ _ _ _ _ _ _ _ _ _)
   | (with_reducible exact spec_TensorOk.mono _ _ _)
   | (with_reducible exact LeO.refl _)
   | (with_reducible exact LeO.none _)
   | (with_reducible refine LeO.ite ?_ ?_)
   | (with_reducible refine LeO.bind ?_ (fun _ => ?_))
   | exact ih0 _ _ _ _ _ _
   | exact ih1 _ _ _ _ _ _
   | exact ih2 _ _ _ _ _ _ _ _ _ _
   | exact ih3 _ _ _ _ _ _ _ _ _ _ _ _
   | exact ih4 _ _ _ _ _ _ _ _ _ _ _ _
   | exact spec_TensorOk.mono _ _ _
   | exact LeO.none _
   | refine LeO.ite ?_ ?_
   | refine LeO.bind ?_ (fun _ => ?_)
  ·intro y0 y1 y2 y3 y4 y5 y6 y7 y8 y9
   unfold spec_Route.l1
   repeat' first
   | (with_reducible exact ih0 _ _ _ _ _ _)
   | (with_reducible exact ih1 _ _ _ _ _ _)
   | (with_reducible exact ih2 _ _ _ _ _ _ _ _ _ _)
   | (with_reducible exact ih3 _ _ _ _ _ _ _ _ _ _ _ _)
   | (with_reducible exact ih4 _ _ _ _ _ _ _ _ _ _ _ _)
   | (with_reducible exact spec_TensorOk.mono _ _ _)
   | (with_reducible exact LeO.refl _)
   | (with_reducible exact LeO.none _)
   | (with_reducible refine LeO.ite ?_ ?_)
   | (with_reducible refine LeO.bind ?_ (fun _ => ?_))
   | exact ih0 _ _ _ _ _ _
   | exact ih1 _ _ _ _ _ _
   | exact ih2 _ _ _ _ _ _ _ _ _ _
   | exact ih3 _ _ _ _ _ _ _ _ _ _ _ _
   | exact ih4 _ _ _ _ _ _ _ _ _ _ _ _
   | exact spec_TensorOk.mono _ _ _
   | exact LeO.none _
   | refine LeO.ite ?_ ?_
   | refine LeO.bind ?_ (fun _ => ?_)
  ·intro y0 y1 y2 y3 y4 y5 y6 y7 y8 y9 y10 y11
   unfold spec_Route.l2
   repeat' first
   | (with_reducible exact ih0 _ _ _ _ _ _)
   | (with_reducible exact ih1 _ _ _ _ _ _)
   | (with_reducible exact ih2 _ _ _ _ _ _ _ _ _ _)
   | (with_reducible exact ih3 _ _ _ _ _ _ _ _ _ _ _ _)
   | (with_reducible exact ih4 _ _ _ _ _ _ _ _ _ _ _ _)
   | (with_reducible exact spec_TensorOk.mono _ _ _)
   | (with_reducible exact LeO.refl _)
   | (with_reducible exact LeO.none _)
   | (with_reducible refine LeO.ite ?_ ?_)
   | (with_reducible refine LeO.bind ?_ (fun _ => ?_))
   | exact ih0 _ _ _ _ _ _
   | exact ih1 _ _ _ _ _ _
   | exact ih2 _ _ _ _ _ _ _ _ _ _
   | exact ih3 _ _ _ _ _ _ _ _ _ _ _ _
   | exact ih4 _ _ _ _ _ _ _ _ _ _ _ _
   | exact spec_TensorOk.mono _ _ _
   | exact LeO.none _
   | refine LeO.ite ?_ ?_
   | refine LeO.bind ?_ (fun _ => ?_)
  ·intro y0 y1 y2 y3 y4 y5 y6 y7 y8 y9 y10 y11
   unfold spec_Route.j4
   repeat' first
   | (with_reducible exact ih0 _ _ _ _ _ _)
   | (with_reducible exact ih1 _ _ _ _ _ _)
   | (with_reducible exact ih2 _ _ _ _ _ _ _ _ _ _)
   | (with_reducible exact ih3 _ _ _ _ _ _ _ _ _ _ _ _)
   | (with_reducible exact ih4 _ _ _ _ _ _ _ _ _ _ _ _)
   | (with_reducible exact spec_TensorOk.mono _ _ _)
   | (with_reducible exact LeO.refl _)
   | (with_reducible exact LeO.none _)
   | (with_reducible refine LeO.ite ?_ ?_)
   | (with_reducible refine LeO.bind ?_ (fun _ => ?_))
   | exact ih0 _ _ _ _ _ _
   | exact ih1 _ _ _ _ _ _
   | exact ih2 _ _ _ _ _ _ _ _ _ _
   | exact ih3 _ _ _ _ _ _ _ _ _ _ _ _
   | exact ih4 _ _ _ _ _ _ _ _ _ _ _ _
   | exact spec_TensorOk.mono _ _ _
   | exact LeO.none _
   | refine LeO.ite ?_ ?_
   | refine LeO.bind ?_ (fun _ => ?_)
theorem spec_Route.mono : ∀ a0 a1 a2 k, LeO (spec_Route.f k a0 a1 a2) (spec_Route.f (k + 1) a0 a1 a2) := by
 intro a0 a1 a2 k
 obtain ⟨ih0, ih1, ih2, ih3, ih4⟩ := spec_Route.mono_l k
 unfold spec_Route.f
 repeat' first
   | (with_reducible exact ih0 _ _ _ _ _ _)
   | (with_reducible exact ih1 _ _ _ _ _ _)
   | (with_reducible exact ih2 _ _ _ _ _ _ _ _ _ _)
   | (with_reducible exact ih3 _ _ _ _ _ _ _ _ _ _ _ _)
   | (with_reducible exact ih4 _ _ _ _ _ _ _ _ _ _ _ _)
   | (with_reducible exact spec_TensorOk.mono _ _ _)
   | (with_reducible exact LeO.refl _)
   | (with_reducible exact LeO.none _)
   | (with_reducible refine LeO.ite ?_ ?_)
   | (with_reducible refine LeO.bind ?_ (fun _ => ?_))
   | exact ih0 _ _ _ _ _ _
   | exact ih1 _ _ _ _ _ _
   | exact ih2 _ _ _ _ _ _ _ _ _ _
   | exact ih3 _ _ _ _ _ _ _ _ _ _ _ _
   | exact ih4 _ _ _ _ _ _ _ _ _ _ _ _
   | exact spec_TensorOk.mono _ _ _
   | exact LeO.none _
   | refine LeO.ite ?_ ?_
   | refine LeO.bind ?_ (fun _ => ?_)
set_option maxHeartbeats 8000000 in
set_option maxRecDepth 100000 in
theorem spec_Route.calls (k : Nat) (A0_0 : Option Addr) (c0_0 : Nat) (l0_0 : List Int) (A0_1 : Option Addr) (c0_1 : Nat) (l0_1 : List Int) (a1 : Int) (r1 : List Int) (r2 : List Int) (w : World) (hr0_0 : Kd.C (Kd.int .i64) w A0_0 l0_0.length l0_0) (hc0_0 : l0_0.length ≤ c0_0) (hr0_1 : Kd.C (Kd.int .i64) w A0_1 l0_1.length l0_1) (hc0_1 : l0_1.length ≤ c0_1) (h : spec_Route.f k l0_0 l0_1 a1 = some (r1, r2)) :
  Calls Try.prog 24 #[.agg #[.slice A0_0 l0_0.length c0_0, .slice A0_1 l0_1.length c0_1], .int .i64 a1] w fun e w' => ∃ v0_ v1_ : Value, e = .returned (.tuple #[v0_, v1_]) ∧ Kd.R (Kd.int .i64) 3 w' w.heap.size (fun k_ => some k_ ≠ (v1_ : Value).ownBlock) v0_ r1 ∧ Kd.R (Kd.int .i64) 3 w' w.heap.size (fun k_ => some k_ ≠ (v0_ : Value).ownBlock) v1_ r2 ∧ Below w.heap.size w w' := by
 have hu39 := Try.underlying39
 have HR0_0 := Ω5_7 hr0_0
 have HC0_0 := Ω5_7 hc0_0
 clear hr0_0 hc0_0
 have HR0_1 := Ω5_7 hr0_1
 have HC0_1 := Ω5_7 hc0_1
 clear hr0_1 hc0_1
 have HB := Ω5_7 (Below.refl w.heap.size w)
 have H : ((some (([] : List Int) : List Int)).bind fun y344 => ((some (([] : List Int) : List Int)).bind fun y347 => ((spec_TensorOk.f k l0_0 l0_1).bind fun t350 => (if t350 = true then (if (l0_0.length : Int) = 2 then ((spec_l5In.f a1 1 4096).bind fun t351 => (spec_Route.j0 k a1 y344 y347 (!t351) l0_0 l0_1)) else (spec_Route.j0 k a1 y344 y347 true l0_0 l0_1)) else (spec_Route.j0 k a1 y344 y347 true l0_0 l0_1))))) = some (r1, r2) := h
 clear h
 obtain ⟨y344, hy344⟩ : ∃ y_ : List Int, y_ = (([] : List Int)) := ⟨_, rfl⟩
 replace H : ((some (([] : List Int) : List Int)).bind fun y347 => ((spec_TensorOk.f k l0_0 l0_1).bind fun t350 => (if t350 = true then (if (l0_0.length : Int) = 2 then ((spec_l5In.f a1 1 4096).bind fun t351 => (spec_Route.j0 k a1 y344 y347 (!t351) l0_0 l0_1)) else (spec_Route.j0 k a1 y344 y347 true l0_0 l0_1)) else (spec_Route.j0 k a1 y344 y347 true l0_0 l0_1)))) = some (r1, r2) := by first | (rw [hy344]; with_reducible exact H) | (have H2_ := (Option.bind_some _ _).symm.trans H; rw [hy344]; with_reducible exact H2_) | (have H2_ := (Option.bind_some _ _).symm.trans H; with_reducible exact H2_) | with_reducible exact H | (rw [hy344]; exact H) | exact H
 have Ny344 := Ω5_7 hy344
 clear hy344
 obtain ⟨y347, hy347⟩ : ∃ y_ : List Int, y_ = (([] : List Int)) := ⟨_, rfl⟩
 replace H : ((spec_TensorOk.f k l0_0 l0_1).bind fun t350 => (if t350 = true then (if (l0_0.length : Int) = 2 then ((spec_l5In.f a1 1 4096).bind fun t351 => (spec_Route.j0 k a1 y344 y347 (!t351) l0_0 l0_1)) else (spec_Route.j0 k a1 y344 y347 true l0_0 l0_1)) else (spec_Route.j0 k a1 y344 y347 true l0_0 l0_1))) = some (r1, r2) := by first | (rw [hy347]; with_reducible exact H) | (have H2_ := (Option.bind_some _ _).symm.trans H; rw [hy347]; with_reducible exact H2_) | (have H2_ := (Option.bind_some _ _).symm.trans H; with_reducible exact H2_) | with_reducible exact H | (rw [hy347]; exact H) | exact H
 have Ny347 := Ω5_7 hy347
 clear hy347
 have HC3 := Ω5_7 H
 clear H
 go_enter Try.func24, Try.ntmps24
 go_upto_region 3 with (first | ((with_reducible refine gate_dst (N := 2) rfl ?_); (try (refine gate_guard (by rfl) ?_; dsimp only)); refine box_event ?hg (N := 2) ?hd (cs := #[.slice A0_0 l0_0.length c0_0, .slice A0_1 l0_1.length c0_1]) (t := 39) ?hr ?_; (case hd => rfl); (case hg => rfl); (case hr => first | (go_simp; done) | (go_simp; rfl)); intro gb343 hg w4 hbox hb; have n0_ := Ω5_7 (below_step (by repeat (first | (with_reducible first | exact HB.out | apply Ω6_7 | apply Ω7_7 | apply Ω8_7) | exact HB.out)) hb); have n1_ := Ω5_7 (hbox); have n2_ := Ω5_7 ((by rw [hg]; exact (below_size (by repeat (first | (with_reducible first | exact HB.out | apply Ω6_7 | apply Ω7_7 | apply Ω8_7) | exact HB.out))) : w.heap.size ≤ gb343)); have n3_ := Ω5_7 ((by rw [hg]; exact (below_size (by repeat (first | (with_reducible first | exact HB.out | apply Ω6_7 | apply Ω7_7 | apply Ω8_7) | exact HB.out))) : w.heap.size ≤ gb343)); clear HB; have HB := n0_; have BK343 := n1_; have GW343 := n2_; have GE343 := n3_; clear n0_ n1_ n2_ n3_; clear hb hbox hg) | ((with_reducible refine gate_dst (N := 15) rfl ?_); (try (refine gate_guard (by rfl) ?_; dsimp only)); refine Kd.R_lit (Kd.int .i64) _ 3 ?hg (N := 15) ?hd (xs := ([] : List Int)) (inner := []) (ok := fun _ => True) (okp := fun _ => True) ?hr ?hp (fun _ hk => hk) trivial (Below.refl _ _) (Nat.le_refl _) (by simp) ?_; (case hd => rfl); (case hg => rfl); (case hr => first | (go_simp; done) | (go_simp; rfl)); (case hp => exact (Reps.none _ _)); intro v345 w5 ho6 hb hg_ hnew_; clear hg_ hnew_; (first | rw [← Ny344.out] at ho6 | (simp only [Int.reduceToNat] at ho6; rw [← Ny344.out] at ho6)); have n0_ := Ω5_7 (Kd.R_lower ho6 (below_size (by repeat (first | (with_reducible first | exact HB.out | apply Ω6_7 | apply Ω7_7 | apply Ω8_7 | refine Ω9_7 ?_ GE343.out) | exact HB.out)))); have n1_ := Ω5_7 (blk_below (g := gb343) (o := .cells #[.slice A0_0 l0_0.length c0_0, .slice A0_1 l0_1.length c0_1] 39 (0, 0)) (by (with_reducible repeat (first | refine blk_drewN ?_ _ | refine blk_drew ?_ | refine blk_alloc ?_ _)); exact BK343.out) hb); have n2_ := Ω5_7 (below_step (by repeat (first | (with_reducible first | exact HB.out | apply Ω6_7 | apply Ω7_7 | apply Ω8_7 | refine Ω9_7 ?_ GE343.out) | exact HB.out)) hb); clear BK343; clear HB; have HO346 := n0_; have BK343 := n1_; have HB := n2_; clear n0_ n1_ n2_; clear hb ho6) | ((with_reducible refine gate_dst (N := 16) rfl ?_); (try (refine gate_guard (by rfl) ?_; dsimp only)); refine Kd.R_lit (Kd.int .i64) _ 3 ?hg (N := 16) ?hd (xs := ([] : List Int)) (inner := []) (ok := fun _ => True) (okp := fun _ => True) ?hr ?hp (fun _ hk => hk) trivial (Below.refl _ _) (Nat.le_refl _) (by simp) ?_; (case hd => rfl); (case hg => rfl); (case hr => first | (go_simp; done) | (go_simp; rfl)); (case hp => exact (Reps.none _ _)); intro v348 w7 ho8 hb hg_ hnew_; clear hg_ hnew_; (first | rw [← Ny347.out] at ho8 | (simp only [Int.reduceToNat] at ho8; rw [← Ny347.out] at ho8)); have n0_ := Ω5_7 (Kd.R_elder' (by (with_reducible repeat (first | apply Ω1_7 | apply Ω2_7 | apply Ω3_7)); exact HO346.out) (Kd.R_base ho8) hb); have n1_ := Ω5_7 (Kd.R_lower (Kd.R_new' ho8 (Kd.R_lt (by (with_reducible repeat (first | apply Ω1_7 | apply Ω2_7 | apply Ω3_7)); exact HO346.out))) (below_size (by repeat (first | (with_reducible first | exact HB.out | apply Ω6_7 | apply Ω7_7 | apply Ω8_7 | refine Ω9_7 ?_ GE343.out) | exact HB.out)))); have n2_ := Ω5_7 (blk_below (g := gb343) (o := .cells #[.slice A0_0 l0_0.length c0_0, .slice A0_1 l0_1.length c0_1] 39 (0, 0)) (by (with_reducible repeat (first | refine blk_drewN ?_ _ | refine blk_drew ?_ | refine blk_alloc ?_ _)); exact BK343.out) hb); have n3_ := Ω5_7 (below_step (by repeat (first | (with_reducible first | exact HB.out | apply Ω6_7 | apply Ω7_7 | apply Ω8_7 | refine Ω9_7 ?_ GE343.out) | exact HB.out)) hb); clear HO346; clear BK343; clear HB; have HO346 := n0_; have HO349 := n1_; have BK343 := n2_; have HB := n3_; clear n0_ n1_ n2_ n3_; clear hb ho8))
 repeat (go_quiet (first | ((with_reducible refine gate_dst (N := 2) rfl ?_); (try (refine gate_guard (by rfl) ?_; dsimp only)); refine box_event ?hg (N := 2) ?hd (cs := #[.slice A0_0 l0_0.length c0_0, .slice A0_1 l0_1.length c0_1]) (t := 39) ?hr ?_; (case hd => rfl); (case hg => rfl); (case hr => first | (go_simp; done) | (go_simp; rfl)); intro gb343 hg w4 hbox hb; have n0_ := Ω5_7 (below_step (by repeat (first | (with_reducible first | exact HB.out | apply Ω6_7 | apply Ω7_7 | apply Ω8_7) | exact HB.out)) hb); have n1_ := Ω5_7 (hbox); have n2_ := Ω5_7 ((by rw [hg]; exact (below_size (by repeat (first | (with_reducible first | exact HB.out | apply Ω6_7 | apply Ω7_7 | apply Ω8_7) | exact HB.out))) : w.heap.size ≤ gb343)); have n3_ := Ω5_7 ((by rw [hg]; exact (below_size (by repeat (first | (with_reducible first | exact HB.out | apply Ω6_7 | apply Ω7_7 | apply Ω8_7) | exact HB.out))) : w.heap.size ≤ gb343)); clear HB; have HB := n0_; have BK343 := n1_; have GW343 := n2_; have GE343 := n3_; clear n0_ n1_ n2_ n3_; clear hb hbox hg) | ((with_reducible refine gate_dst (N := 15) rfl ?_); (try (refine gate_guard (by rfl) ?_; dsimp only)); refine Kd.R_lit (Kd.int .i64) _ 3 ?hg (N := 15) ?hd (xs := ([] : List Int)) (inner := []) (ok := fun _ => True) (okp := fun _ => True) ?hr ?hp (fun _ hk => hk) trivial (Below.refl _ _) (Nat.le_refl _) (by simp) ?_; (case hd => rfl); (case hg => rfl); (case hr => first | (go_simp; done) | (go_simp; rfl)); (case hp => exact (Reps.none _ _)); intro v345 w5 ho6 hb hg_ hnew_; clear hg_ hnew_; (first | rw [← Ny344.out] at ho6 | (simp only [Int.reduceToNat] at ho6; rw [← Ny344.out] at ho6)); have n0_ := Ω5_7 (Kd.R_lower ho6 (below_size (by repeat (first | (with_reducible first | exact HB.out | apply Ω6_7 | apply Ω7_7 | apply Ω8_7 | refine Ω9_7 ?_ GE343.out) | exact HB.out)))); have n1_ := Ω5_7 (blk_below (g := gb343) (o := .cells #[.slice A0_0 l0_0.length c0_0, .slice A0_1 l0_1.length c0_1] 39 (0, 0)) (by (with_reducible repeat (first | refine blk_drewN ?_ _ | refine blk_drew ?_ | refine blk_alloc ?_ _)); exact BK343.out) hb); have n2_ := Ω5_7 (below_step (by repeat (first | (with_reducible first | exact HB.out | apply Ω6_7 | apply Ω7_7 | apply Ω8_7 | refine Ω9_7 ?_ GE343.out) | exact HB.out)) hb); clear BK343; clear HB; have HO346 := n0_; have BK343 := n1_; have HB := n2_; clear n0_ n1_ n2_; clear hb ho6) | ((with_reducible refine gate_dst (N := 16) rfl ?_); (try (refine gate_guard (by rfl) ?_; dsimp only)); refine Kd.R_lit (Kd.int .i64) _ 3 ?hg (N := 16) ?hd (xs := ([] : List Int)) (inner := []) (ok := fun _ => True) (okp := fun _ => True) ?hr ?hp (fun _ hk => hk) trivial (Below.refl _ _) (Nat.le_refl _) (by simp) ?_; (case hd => rfl); (case hg => rfl); (case hr => first | (go_simp; done) | (go_simp; rfl)); (case hp => exact (Reps.none _ _)); intro v348 w7 ho8 hb hg_ hnew_; clear hg_ hnew_; (first | rw [← Ny347.out] at ho8 | (simp only [Int.reduceToNat] at ho8; rw [← Ny347.out] at ho8)); have n0_ := Ω5_7 (Kd.R_elder' (by (with_reducible repeat (first | apply Ω1_7 | apply Ω2_7 | apply Ω3_7)); exact HO346.out) (Kd.R_base ho8) hb); have n1_ := Ω5_7 (Kd.R_lower (Kd.R_new' ho8 (Kd.R_lt (by (with_reducible repeat (first | apply Ω1_7 | apply Ω2_7 | apply Ω3_7)); exact HO346.out))) (below_size (by repeat (first | (with_reducible first | exact HB.out | apply Ω6_7 | apply Ω7_7 | apply Ω8_7 | refine Ω9_7 ?_ GE343.out) | exact HB.out)))); have n2_ := Ω5_7 (blk_below (g := gb343) (o := .cells #[.slice A0_0 l0_0.length c0_0, .slice A0_1 l0_1.length c0_1] 39 (0, 0)) (by (with_reducible repeat (first | refine blk_drewN ?_ _ | refine blk_drew ?_ | refine blk_alloc ?_ _)); exact BK343.out) hb); have n3_ := Ω5_7 (below_step (by repeat (first | (with_reducible first | exact HB.out | apply Ω6_7 | apply Ω7_7 | apply Ω8_7 | refine Ω9_7 ?_ GE343.out) | exact HB.out)) hb); clear HO346; clear BK343; clear HB; have HO346 := n0_; have HO349 := n1_; have BK343 := n2_; have HB := n3_; clear n0_ n1_ n2_ n3_; clear hb ho8)); go_upto_region 3 with (first | ((with_reducible refine gate_dst (N := 2) rfl ?_); (try (refine gate_guard (by rfl) ?_; dsimp only)); refine box_event ?hg (N := 2) ?hd (cs := #[.slice A0_0 l0_0.length c0_0, .slice A0_1 l0_1.length c0_1]) (t := 39) ?hr ?_; (case hd => rfl); (case hg => rfl); (case hr => first | (go_simp; done) | (go_simp; rfl)); intro gb343 hg w4 hbox hb; have n0_ := Ω5_7 (below_step (by repeat (first | (with_reducible first | exact HB.out | apply Ω6_7 | apply Ω7_7 | apply Ω8_7) | exact HB.out)) hb); have n1_ := Ω5_7 (hbox); have n2_ := Ω5_7 ((by rw [hg]; exact (below_size (by repeat (first | (with_reducible first | exact HB.out | apply Ω6_7 | apply Ω7_7 | apply Ω8_7) | exact HB.out))) : w.heap.size ≤ gb343)); have n3_ := Ω5_7 ((by rw [hg]; exact (below_size (by repeat (first | (with_reducible first | exact HB.out | apply Ω6_7 | apply Ω7_7 | apply Ω8_7) | exact HB.out))) : w.heap.size ≤ gb343)); clear HB; have HB := n0_; have BK343 := n1_; have GW343 := n2_; have GE343 := n3_; clear n0_ n1_ n2_ n3_; clear hb hbox hg) | ((with_reducible refine gate_dst (N := 15) rfl ?_); (try (refine gate_guard (by rfl) ?_; dsimp only)); refine Kd.R_lit (Kd.int .i64) _ 3 ?hg (N := 15) ?hd (xs := ([] : List Int)) (inner := []) (ok := fun _ => True) (okp := fun _ => True) ?hr ?hp (fun _ hk => hk) trivial (Below.refl _ _) (Nat.le_refl _) (by simp) ?_; (case hd => rfl); (case hg => rfl); (case hr => first | (go_simp; done) | (go_simp; rfl)); (case hp => exact (Reps.none _ _)); intro v345 w5 ho6 hb hg_ hnew_; clear hg_ hnew_; (first | rw [← Ny344.out] at ho6 | (simp only [Int.reduceToNat] at ho6; rw [← Ny344.out] at ho6)); have n0_ := Ω5_7 (Kd.R_lower ho6 (below_size (by repeat (first | (with_reducible first | exact HB.out | apply Ω6_7 | apply Ω7_7 | apply Ω8_7 | refine Ω9_7 ?_ GE343.out) | exact HB.out)))); have n1_ := Ω5_7 (blk_below (g := gb343) (o := .cells #[.slice A0_0 l0_0.length c0_0, .slice A0_1 l0_1.length c0_1] 39 (0, 0)) (by (with_reducible repeat (first | refine blk_drewN ?_ _ | refine blk_drew ?_ | refine blk_alloc ?_ _)); exact BK343.out) hb); have n2_ := Ω5_7 (below_step (by repeat (first | (with_reducible first | exact HB.out | apply Ω6_7 | apply Ω7_7 | apply Ω8_7 | refine Ω9_7 ?_ GE343.out) | exact HB.out)) hb); clear BK343; clear HB; have HO346 := n0_; have BK343 := n1_; have HB := n2_; clear n0_ n1_ n2_; clear hb ho6) | ((with_reducible refine gate_dst (N := 16) rfl ?_); (try (refine gate_guard (by rfl) ?_; dsimp only)); refine Kd.R_lit (Kd.int .i64) _ 3 ?hg (N := 16) ?hd (xs := ([] : List Int)) (inner := []) (ok := fun _ => True) (okp := fun _ => True) ?hr ?hp (fun _ hk => hk) trivial (Below.refl _ _) (Nat.le_refl _) (by simp) ?_; (case hd => rfl); (case hg => rfl); (case hr => first | (go_simp; done) | (go_simp; rfl)); (case hp => exact (Reps.none _ _)); intro v348 w7 ho8 hb hg_ hnew_; clear hg_ hnew_; (first | rw [← Ny347.out] at ho8 | (simp only [Int.reduceToNat] at ho8; rw [← Ny347.out] at ho8)); have n0_ := Ω5_7 (Kd.R_elder' (by (with_reducible repeat (first | apply Ω1_7 | apply Ω2_7 | apply Ω3_7)); exact HO346.out) (Kd.R_base ho8) hb); have n1_ := Ω5_7 (Kd.R_lower (Kd.R_new' ho8 (Kd.R_lt (by (with_reducible repeat (first | apply Ω1_7 | apply Ω2_7 | apply Ω3_7)); exact HO346.out))) (below_size (by repeat (first | (with_reducible first | exact HB.out | apply Ω6_7 | apply Ω7_7 | apply Ω8_7 | refine Ω9_7 ?_ GE343.out) | exact HB.out)))); have n2_ := Ω5_7 (blk_below (g := gb343) (o := .cells #[.slice A0_0 l0_0.length c0_0, .slice A0_1 l0_1.length c0_1] 39 (0, 0)) (by (with_reducible repeat (first | refine blk_drewN ?_ _ | refine blk_drew ?_ | refine blk_alloc ?_ _)); exact BK343.out) hb); have n3_ := Ω5_7 (below_step (by repeat (first | (with_reducible first | exact HB.out | apply Ω6_7 | apply Ω7_7 | apply Ω8_7 | refine Ω9_7 ?_ GE343.out) | exact HB.out)) hb); clear HO346; clear BK343; clear HB; have HO346 := n0_; have HO349 := n1_; have BK343 := n2_; have HB := n3_; clear n0_ n1_ n2_ n3_; clear hb ho8)))
 (try simp only [Act.put, List.setIfInBounds_toArray, List.set_cons_zero, List.set_cons_succ])
 go_cut [30] (fun v30 wc => ∃ (kq : Nat) (x30_2 : Bool), v30 = .bool x30_2 ∧ Aside0 (spec_Route.j0 kq a1 y344 y347 x30_2 l0_0 l0_1 = some (r1, r2)) ∧ Aside0 (kq ≤ k) ∧ Aside0 (Kd.R (Kd.int .i64) 3 wc w.heap.size (fun k_ => some k_ ≠ (v348 : Value).ownBlock) v345 y344) ∧ Aside0 (Kd.R (Kd.int .i64) 3 wc w.heap.size (fun k_ => some k_ ≠ (v345 : Value).ownBlock) v348 y347) ∧ Aside0 (wc.heap[gb343]? = some (.cells #[(.slice A0_0 l0_0.length c0_0), (.slice A0_1 l0_1.length c0_1)] 39 (0, 0))) ∧ Aside0 (Below w.heap.size w wc))
 case first =>
  have H := HC3.out
  clear HC3
  replace H := Option.bind_eq_some_iff.mp H
  obtain ⟨t350, A90, H⟩ := H
  try dsimp only at H
  have A9 := Ω5_7 A90
  clear A90
  by_cases c10 : t350 = true
  ·subst c10
   have H1 : (if (l0_0.length : Int) = 2 then ((spec_l5In.f a1 1 4096).bind fun t351 => (spec_Route.j0 k a1 y344 y347 (!t351) l0_0 l0_1)) else (spec_Route.j0 k a1 y344 y347 true l0_0 l0_1)) = some (r1, r2) := by rw [if_pos rfl] at H; exact H
   clear H
   have H := H1
   clear H1
   by_cases c11 : (l0_0.length : Int) = 2
   ·rw [if_pos c11] at H
    have c11b0 : ((l0_0.length : Int) == 2) = true := beq_iff_eq.mpr c11
    have c11b1 : ((l0_0.length : Int) != 2) = false := bne_eq_false_iff_eq.mpr c11
    clear c11
    (first | rw [c11b0] | (simp only [i64_w, i32_w]; rw [c11b0]) | skip)
    replace H := Option.bind_eq_some_iff.mp H
    obtain ⟨t351, A120, H⟩ := H
    try dsimp only at H
    have A12 := Ω5_7 A120
    clear A120
    have H' := Ω5_7 H
    clear H
    have hcz13_0 : w7.cell? ⟨gb343, 0, none⟩ = some (.slice A0_0 l0_0.length c0_0) := (blk_cell BK343.out 0).trans rfl
    have hcz13_1 : w7.cell? ⟨gb343, 1, none⟩ = some (.slice A0_1 l0_1.length c0_1) := (blk_cell BK343.out 1).trans rfl
    have hfz13_0 := blk_frozen BK343.out 0
    have hfz13_1 := blk_frozen BK343.out 1
    go_wp2_with (first | (go_at_call 61; (with_reducible refine (spec_TensorOk.calls k _ _ l0_0 _ _ l0_1 true _ ?side1 ?side2 ?side3 ?side4 A9.out).mono ?_); (case side1 => repeat (first | exact (Kd.C_below HR0_0.out HB.out) | (with_reducible refine Kd.C_alloc ?_ _) | (with_reducible refine Kd.C_drewN ?_ _) | (with_reducible refine Kd.C_drew ?_))); (case side2 => exact HC0_0.out); (case side3 => repeat (first | exact (Kd.C_below HR0_1.out HB.out) | (with_reducible refine Kd.C_alloc ?_ _) | (with_reducible refine Kd.C_drewN ?_ _) | (with_reducible refine Kd.C_drew ?_))); (case side4 => exact HC0_1.out); rintro e w14 ⟨rfl, hb⟩; have n0_ := Ω5_7 (Kd.R_below (by (with_reducible repeat (first | apply Ω1_7 | apply Ω2_7 | apply Ω3_7)); exact HO346.out) hb); have n1_ := Ω5_7 (Kd.R_below (by (with_reducible repeat (first | apply Ω1_7 | apply Ω2_7 | apply Ω3_7)); exact HO349.out) hb); have n2_ := Ω5_7 (blk_below (g := gb343) (o := .cells #[.slice A0_0 l0_0.length c0_0, .slice A0_1 l0_1.length c0_1] 39 (0, 0)) (by (with_reducible repeat (first | refine blk_drewN ?_ _ | refine blk_drew ?_ | refine blk_alloc ?_ _)); exact BK343.out) hb); have n3_ := Ω5_7 (below_step (by repeat (first | (with_reducible first | exact HB.out | apply Ω6_7 | apply Ω7_7 | apply Ω8_7 | refine Ω9_7 ?_ GE343.out) | exact HB.out)) hb); clear HO346; clear HO349; clear BK343; clear HB; have HO346 := n0_; have HO349 := n1_; have BK343 := n2_; have HB := n3_; clear n0_ n1_ n2_ n3_; (try clear hb); (try clear hb2); (try clear hk); (try clear hi); have hcz15_0 : w14.cell? ⟨gb343, 0, none⟩ = some (.slice A0_0 l0_0.length c0_0) := (blk_cell BK343.out 0).trans rfl; have hcz15_1 : w14.cell? ⟨gb343, 1, none⟩ = some (.slice A0_1 l0_1.length c0_1) := (blk_cell BK343.out 1).trans rfl; have hfz15_0 := blk_frozen BK343.out 0; have hfz15_1 := blk_frozen BK343.out 1) | (go_at_call 62; (with_reducible refine (spec_l5In.calls a1 1 4096 t351 _ A12.out).mono ?_); rintro e w' ⟨rfl, ⟨nd, rfl⟩⟩; (try first | exact ⟨rfl, _, World.drewN_drewN _ _ _⟩ | exact ⟨rfl, _, Eq.trans (World.drewN_drewN _ _ _) (congrArg (World.drewN _) (Nat.add_assoc _ _ _))⟩)))
    repeat (go_quiet (first | (go_at_call 61; (with_reducible refine (spec_TensorOk.calls k _ _ l0_0 _ _ l0_1 true _ ?side1 ?side2 ?side3 ?side4 A9.out).mono ?_); (case side1 => repeat (first | exact (Kd.C_below HR0_0.out HB.out) | (with_reducible refine Kd.C_alloc ?_ _) | (with_reducible refine Kd.C_drewN ?_ _) | (with_reducible refine Kd.C_drew ?_))); (case side2 => exact HC0_0.out); (case side3 => repeat (first | exact (Kd.C_below HR0_1.out HB.out) | (with_reducible refine Kd.C_alloc ?_ _) | (with_reducible refine Kd.C_drewN ?_ _) | (with_reducible refine Kd.C_drew ?_))); (case side4 => exact HC0_1.out); rintro e w14 ⟨rfl, hb⟩; have n0_ := Ω5_7 (Kd.R_below (by (with_reducible repeat (first | apply Ω1_7 | apply Ω2_7 | apply Ω3_7)); exact HO346.out) hb); have n1_ := Ω5_7 (Kd.R_below (by (with_reducible repeat (first | apply Ω1_7 | apply Ω2_7 | apply Ω3_7)); exact HO349.out) hb); have n2_ := Ω5_7 (blk_below (g := gb343) (o := .cells #[.slice A0_0 l0_0.length c0_0, .slice A0_1 l0_1.length c0_1] 39 (0, 0)) (by (with_reducible repeat (first | refine blk_drewN ?_ _ | refine blk_drew ?_ | refine blk_alloc ?_ _)); exact BK343.out) hb); have n3_ := Ω5_7 (below_step (by repeat (first | (with_reducible first | exact HB.out | apply Ω6_7 | apply Ω7_7 | apply Ω8_7 | refine Ω9_7 ?_ GE343.out) | exact HB.out)) hb); clear HO346; clear HO349; clear BK343; clear HB; have HO346 := n0_; have HO349 := n1_; have BK343 := n2_; have HB := n3_; clear n0_ n1_ n2_ n3_; (try clear hb); (try clear hb2); (try clear hk); (try clear hi); have hcz15_0 : w14.cell? ⟨gb343, 0, none⟩ = some (.slice A0_0 l0_0.length c0_0) := (blk_cell BK343.out 0).trans rfl; have hcz15_1 : w14.cell? ⟨gb343, 1, none⟩ = some (.slice A0_1 l0_1.length c0_1) := (blk_cell BK343.out 1).trans rfl; have hfz15_0 := blk_frozen BK343.out 0; have hfz15_1 := blk_frozen BK343.out 1) | (go_at_call 62; (with_reducible refine (spec_l5In.calls a1 1 4096 t351 _ A12.out).mono ?_); rintro e w' ⟨rfl, ⟨nd, rfl⟩⟩; (try first | exact ⟨rfl, _, World.drewN_drewN _ _ _⟩ | exact ⟨rfl, _, Eq.trans (World.drewN_drewN _ _ _) (congrArg (World.drewN _) (Nat.add_assoc _ _ _))⟩))); try go_wp2_with (first | (go_at_call 61; (with_reducible refine (spec_TensorOk.calls k _ _ l0_0 _ _ l0_1 true _ ?side1 ?side2 ?side3 ?side4 A9.out).mono ?_); (case side1 => repeat (first | exact (Kd.C_below HR0_0.out HB.out) | (with_reducible refine Kd.C_alloc ?_ _) | (with_reducible refine Kd.C_drewN ?_ _) | (with_reducible refine Kd.C_drew ?_))); (case side2 => exact HC0_0.out); (case side3 => repeat (first | exact (Kd.C_below HR0_1.out HB.out) | (with_reducible refine Kd.C_alloc ?_ _) | (with_reducible refine Kd.C_drewN ?_ _) | (with_reducible refine Kd.C_drew ?_))); (case side4 => exact HC0_1.out); rintro e w14 ⟨rfl, hb⟩; have n0_ := Ω5_7 (Kd.R_below (by (with_reducible repeat (first | apply Ω1_7 | apply Ω2_7 | apply Ω3_7)); exact HO346.out) hb); have n1_ := Ω5_7 (Kd.R_below (by (with_reducible repeat (first | apply Ω1_7 | apply Ω2_7 | apply Ω3_7)); exact HO349.out) hb); have n2_ := Ω5_7 (blk_below (g := gb343) (o := .cells #[.slice A0_0 l0_0.length c0_0, .slice A0_1 l0_1.length c0_1] 39 (0, 0)) (by (with_reducible repeat (first | refine blk_drewN ?_ _ | refine blk_drew ?_ | refine blk_alloc ?_ _)); exact BK343.out) hb); have n3_ := Ω5_7 (below_step (by repeat (first | (with_reducible first | exact HB.out | apply Ω6_7 | apply Ω7_7 | apply Ω8_7 | refine Ω9_7 ?_ GE343.out) | exact HB.out)) hb); clear HO346; clear HO349; clear BK343; clear HB; have HO346 := n0_; have HO349 := n1_; have BK343 := n2_; have HB := n3_; clear n0_ n1_ n2_ n3_; (try clear hb); (try clear hb2); (try clear hk); (try clear hi); have hcz15_0 : w14.cell? ⟨gb343, 0, none⟩ = some (.slice A0_0 l0_0.length c0_0) := (blk_cell BK343.out 0).trans rfl; have hcz15_1 : w14.cell? ⟨gb343, 1, none⟩ = some (.slice A0_1 l0_1.length c0_1) := (blk_cell BK343.out 1).trans rfl; have hfz15_0 := blk_frozen BK343.out 0; have hfz15_1 := blk_frozen BK343.out 1) | (go_at_call 62; (with_reducible refine (spec_l5In.calls a1 1 4096 t351 _ A12.out).mono ?_); rintro e w' ⟨rfl, ⟨nd, rfl⟩⟩; (try first | exact ⟨rfl, _, World.drewN_drewN _ _ _⟩ | exact ⟨rfl, _, Eq.trans (World.drewN_drewN _ _ _) (congrArg (World.drewN _) (Nat.add_assoc _ _ _))⟩))))
    go_meet
    case rel => exact ⟨_, (!t351), (by first | rfl | (simp; done) | (simp [*]; done)), H', ⟨by first | omega | exact Nat.le_refl _⟩, ⟨by (with_reducible repeat (first | apply Ω1_7 | apply Ω2_7 | apply Ω3_7)); exact Kd.R_mono HO346.out (fun _ hk => hk.2)⟩, ⟨by (with_reducible repeat (first | apply Ω1_7 | apply Ω2_7 | apply Ω3_7)); exact Kd.R_mono HO349.out (fun _ hk => hk.2)⟩, ⟨by (with_reducible repeat (first | refine blk_drewN ?_ _ | refine blk_drew ?_ | refine blk_alloc ?_ _)); exact BK343.out⟩, ⟨by repeat (first | (with_reducible first | exact HB.out | apply Ω6_7 | apply Ω7_7 | apply Ω8_7 | refine Ω9_7 ?_ GE343.out) | exact HB.out)⟩⟩
   ·rw [if_neg c11] at H
    have c11b0 : ((l0_0.length : Int) == 2) = false := beq_eq_false_iff_ne.mpr c11
    have c11b1 : ((l0_0.length : Int) != 2) = true := bne_iff_ne.mpr c11
    (first | rw [c11b0] | (simp only [i64_w, i32_w]; rw [c11b0]) | skip)
    have H' := Ω5_7 H
    clear H
    have hcz16_0 : w7.cell? ⟨gb343, 0, none⟩ = some (.slice A0_0 l0_0.length c0_0) := (blk_cell BK343.out 0).trans rfl
    have hcz16_1 : w7.cell? ⟨gb343, 1, none⟩ = some (.slice A0_1 l0_1.length c0_1) := (blk_cell BK343.out 1).trans rfl
    have hfz16_0 := blk_frozen BK343.out 0
    have hfz16_1 := blk_frozen BK343.out 1
    go_wp2_with (first | (go_at_call 61; (with_reducible refine (spec_TensorOk.calls k _ _ l0_0 _ _ l0_1 true _ ?side1 ?side2 ?side3 ?side4 A9.out).mono ?_); (case side1 => repeat (first | exact (Kd.C_below HR0_0.out HB.out) | (with_reducible refine Kd.C_alloc ?_ _) | (with_reducible refine Kd.C_drewN ?_ _) | (with_reducible refine Kd.C_drew ?_))); (case side2 => exact HC0_0.out); (case side3 => repeat (first | exact (Kd.C_below HR0_1.out HB.out) | (with_reducible refine Kd.C_alloc ?_ _) | (with_reducible refine Kd.C_drewN ?_ _) | (with_reducible refine Kd.C_drew ?_))); (case side4 => exact HC0_1.out); rintro e w17 ⟨rfl, hb⟩; have n0_ := Ω5_7 (Kd.R_below (by (with_reducible repeat (first | apply Ω1_7 | apply Ω2_7 | apply Ω3_7)); exact HO346.out) hb); have n1_ := Ω5_7 (Kd.R_below (by (with_reducible repeat (first | apply Ω1_7 | apply Ω2_7 | apply Ω3_7)); exact HO349.out) hb); have n2_ := Ω5_7 (blk_below (g := gb343) (o := .cells #[.slice A0_0 l0_0.length c0_0, .slice A0_1 l0_1.length c0_1] 39 (0, 0)) (by (with_reducible repeat (first | refine blk_drewN ?_ _ | refine blk_drew ?_ | refine blk_alloc ?_ _)); exact BK343.out) hb); have n3_ := Ω5_7 (below_step (by repeat (first | (with_reducible first | exact HB.out | apply Ω6_7 | apply Ω7_7 | apply Ω8_7 | refine Ω9_7 ?_ GE343.out) | exact HB.out)) hb); clear HO346; clear HO349; clear BK343; clear HB; have HO346 := n0_; have HO349 := n1_; have BK343 := n2_; have HB := n3_; clear n0_ n1_ n2_ n3_; (try clear hb); (try clear hb2); (try clear hk); (try clear hi); have hcz18_0 : w17.cell? ⟨gb343, 0, none⟩ = some (.slice A0_0 l0_0.length c0_0) := (blk_cell BK343.out 0).trans rfl; have hcz18_1 : w17.cell? ⟨gb343, 1, none⟩ = some (.slice A0_1 l0_1.length c0_1) := (blk_cell BK343.out 1).trans rfl; have hfz18_0 := blk_frozen BK343.out 0; have hfz18_1 := blk_frozen BK343.out 1))
    repeat (go_quiet (first | (go_at_call 61; (with_reducible refine (spec_TensorOk.calls k _ _ l0_0 _ _ l0_1 true _ ?side1 ?side2 ?side3 ?side4 A9.out).mono ?_); (case side1 => repeat (first | exact (Kd.C_below HR0_0.out HB.out) | (with_reducible refine Kd.C_alloc ?_ _) | (with_reducible refine Kd.C_drewN ?_ _) | (with_reducible refine Kd.C_drew ?_))); (case side2 => exact HC0_0.out); (case side3 => repeat (first | exact (Kd.C_below HR0_1.out HB.out) | (with_reducible refine Kd.C_alloc ?_ _) | (with_reducible refine Kd.C_drewN ?_ _) | (with_reducible refine Kd.C_drew ?_))); (case side4 => exact HC0_1.out); rintro e w17 ⟨rfl, hb⟩; have n0_ := Ω5_7 (Kd.R_below (by (with_reducible repeat (first | apply Ω1_7 | apply Ω2_7 | apply Ω3_7)); exact HO346.out) hb); have n1_ := Ω5_7 (Kd.R_below (by (with_reducible repeat (first | apply Ω1_7 | apply Ω2_7 | apply Ω3_7)); exact HO349.out) hb); have n2_ := Ω5_7 (blk_below (g := gb343) (o := .cells #[.slice A0_0 l0_0.length c0_0, .slice A0_1 l0_1.length c0_1] 39 (0, 0)) (by (with_reducible repeat (first | refine blk_drewN ?_ _ | refine blk_drew ?_ | refine blk_alloc ?_ _)); exact BK343.out) hb); have n3_ := Ω5_7 (below_step (by repeat (first | (with_reducible first | exact HB.out | apply Ω6_7 | apply Ω7_7 | apply Ω8_7 | refine Ω9_7 ?_ GE343.out) | exact HB.out)) hb); clear HO346; clear HO349; clear BK343; clear HB; have HO346 := n0_; have HO349 := n1_; have BK343 := n2_; have HB := n3_; clear n0_ n1_ n2_ n3_; (try clear hb); (try clear hb2); (try clear hk); (try clear hi); have hcz18_0 : w17.cell? ⟨gb343, 0, none⟩ = some (.slice A0_0 l0_0.length c0_0) := (blk_cell BK343.out 0).trans rfl; have hcz18_1 : w17.cell? ⟨gb343, 1, none⟩ = some (.slice A0_1 l0_1.length c0_1) := (blk_cell BK343.out 1).trans rfl; have hfz18_0 := blk_frozen BK343.out 0; have hfz18_1 := blk_frozen BK343.out 1)); try go_wp2_with (first | (go_at_call 61; (with_reducible refine (spec_TensorOk.calls k _ _ l0_0 _ _ l0_1 true _ ?side1 ?side2 ?side3 ?side4 A9.out).mono ?_); (case side1 => repeat (first | exact (Kd.C_below HR0_0.out HB.out) | (with_reducible refine Kd.C_alloc ?_ _) | (with_reducible refine Kd.C_drewN ?_ _) | (with_reducible refine Kd.C_drew ?_))); (case side2 => exact HC0_0.out); (case side3 => repeat (first | exact (Kd.C_below HR0_1.out HB.out) | (with_reducible refine Kd.C_alloc ?_ _) | (with_reducible refine Kd.C_drewN ?_ _) | (with_reducible refine Kd.C_drew ?_))); (case side4 => exact HC0_1.out); rintro e w17 ⟨rfl, hb⟩; have n0_ := Ω5_7 (Kd.R_below (by (with_reducible repeat (first | apply Ω1_7 | apply Ω2_7 | apply Ω3_7)); exact HO346.out) hb); have n1_ := Ω5_7 (Kd.R_below (by (with_reducible repeat (first | apply Ω1_7 | apply Ω2_7 | apply Ω3_7)); exact HO349.out) hb); have n2_ := Ω5_7 (blk_below (g := gb343) (o := .cells #[.slice A0_0 l0_0.length c0_0, .slice A0_1 l0_1.length c0_1] 39 (0, 0)) (by (with_reducible repeat (first | refine blk_drewN ?_ _ | refine blk_drew ?_ | refine blk_alloc ?_ _)); exact BK343.out) hb); have n3_ := Ω5_7 (below_step (by repeat (first | (with_reducible first | exact HB.out | apply Ω6_7 | apply Ω7_7 | apply Ω8_7 | refine Ω9_7 ?_ GE343.out) | exact HB.out)) hb); clear HO346; clear HO349; clear BK343; clear HB; have HO346 := n0_; have HO349 := n1_; have BK343 := n2_; have HB := n3_; clear n0_ n1_ n2_ n3_; (try clear hb); (try clear hb2); (try clear hk); (try clear hi); have hcz18_0 : w17.cell? ⟨gb343, 0, none⟩ = some (.slice A0_0 l0_0.length c0_0) := (blk_cell BK343.out 0).trans rfl; have hcz18_1 : w17.cell? ⟨gb343, 1, none⟩ = some (.slice A0_1 l0_1.length c0_1) := (blk_cell BK343.out 1).trans rfl; have hfz18_0 := blk_frozen BK343.out 0; have hfz18_1 := blk_frozen BK343.out 1)))
    go_meet
    case rel => exact ⟨_, (true), (by first | rfl | (simp; done) | (simp [*]; done)), H', ⟨by first | omega | exact Nat.le_refl _⟩, ⟨by (with_reducible repeat (first | apply Ω1_7 | apply Ω2_7 | apply Ω3_7)); exact Kd.R_mono HO346.out (fun _ hk => hk.2)⟩, ⟨by (with_reducible repeat (first | apply Ω1_7 | apply Ω2_7 | apply Ω3_7)); exact Kd.R_mono HO349.out (fun _ hk => hk.2)⟩, ⟨by (with_reducible repeat (first | refine blk_drewN ?_ _ | refine blk_drew ?_ | refine blk_alloc ?_ _)); exact BK343.out⟩, ⟨by repeat (first | (with_reducible first | exact HB.out | apply Ω6_7 | apply Ω7_7 | apply Ω8_7 | refine Ω9_7 ?_ GE343.out) | exact HB.out)⟩⟩
  ·replace c10 := Bool.eq_false_iff.mpr c10
   subst c10
   have H1 : (spec_Route.j0 k a1 y344 y347 true l0_0 l0_1) = some (r1, r2) := by rw [if_neg (show ¬ (false = true) by decide)] at H; exact H
   clear H
   have H := H1
   clear H1
   have H' := Ω5_7 H
   clear H
   have hcz19_0 : w7.cell? ⟨gb343, 0, none⟩ = some (.slice A0_0 l0_0.length c0_0) := (blk_cell BK343.out 0).trans rfl
   have hcz19_1 : w7.cell? ⟨gb343, 1, none⟩ = some (.slice A0_1 l0_1.length c0_1) := (blk_cell BK343.out 1).trans rfl
   have hfz19_0 := blk_frozen BK343.out 0
   have hfz19_1 := blk_frozen BK343.out 1
   go_wp2_with (first | (go_at_call 61; (with_reducible refine (spec_TensorOk.calls k _ _ l0_0 _ _ l0_1 false _ ?side1 ?side2 ?side3 ?side4 A9.out).mono ?_); (case side1 => repeat (first | exact (Kd.C_below HR0_0.out HB.out) | (with_reducible refine Kd.C_alloc ?_ _) | (with_reducible refine Kd.C_drewN ?_ _) | (with_reducible refine Kd.C_drew ?_))); (case side2 => exact HC0_0.out); (case side3 => repeat (first | exact (Kd.C_below HR0_1.out HB.out) | (with_reducible refine Kd.C_alloc ?_ _) | (with_reducible refine Kd.C_drewN ?_ _) | (with_reducible refine Kd.C_drew ?_))); (case side4 => exact HC0_1.out); rintro e w20 ⟨rfl, hb⟩; have n0_ := Ω5_7 (Kd.R_below (by (with_reducible repeat (first | apply Ω1_7 | apply Ω2_7 | apply Ω3_7)); exact HO346.out) hb); have n1_ := Ω5_7 (Kd.R_below (by (with_reducible repeat (first | apply Ω1_7 | apply Ω2_7 | apply Ω3_7)); exact HO349.out) hb); have n2_ := Ω5_7 (blk_below (g := gb343) (o := .cells #[.slice A0_0 l0_0.length c0_0, .slice A0_1 l0_1.length c0_1] 39 (0, 0)) (by (with_reducible repeat (first | refine blk_drewN ?_ _ | refine blk_drew ?_ | refine blk_alloc ?_ _)); exact BK343.out) hb); have n3_ := Ω5_7 (below_step (by repeat (first | (with_reducible first | exact HB.out | apply Ω6_7 | apply Ω7_7 | apply Ω8_7 | refine Ω9_7 ?_ GE343.out) | exact HB.out)) hb); clear HO346; clear HO349; clear BK343; clear HB; have HO346 := n0_; have HO349 := n1_; have BK343 := n2_; have HB := n3_; clear n0_ n1_ n2_ n3_; (try clear hb); (try clear hb2); (try clear hk); (try clear hi)))
   repeat (go_quiet (first | (go_at_call 61; (with_reducible refine (spec_TensorOk.calls k _ _ l0_0 _ _ l0_1 false _ ?side1 ?side2 ?side3 ?side4 A9.out).mono ?_); (case side1 => repeat (first | exact (Kd.C_below HR0_0.out HB.out) | (with_reducible refine Kd.C_alloc ?_ _) | (with_reducible refine Kd.C_drewN ?_ _) | (with_reducible refine Kd.C_drew ?_))); (case side2 => exact HC0_0.out); (case side3 => repeat (first | exact (Kd.C_below HR0_1.out HB.out) | (with_reducible refine Kd.C_alloc ?_ _) | (with_reducible refine Kd.C_drewN ?_ _) | (with_reducible refine Kd.C_drew ?_))); (case side4 => exact HC0_1.out); rintro e w20 ⟨rfl, hb⟩; have n0_ := Ω5_7 (Kd.R_below (by (with_reducible repeat (first | apply Ω1_7 | apply Ω2_7 | apply Ω3_7)); exact HO346.out) hb); have n1_ := Ω5_7 (Kd.R_below (by (with_reducible repeat (first | apply Ω1_7 | apply Ω2_7 | apply Ω3_7)); exact HO349.out) hb); have n2_ := Ω5_7 (blk_below (g := gb343) (o := .cells #[.slice A0_0 l0_0.length c0_0, .slice A0_1 l0_1.length c0_1] 39 (0, 0)) (by (with_reducible repeat (first | refine blk_drewN ?_ _ | refine blk_drew ?_ | refine blk_alloc ?_ _)); exact BK343.out) hb); have n3_ := Ω5_7 (below_step (by repeat (first | (with_reducible first | exact HB.out | apply Ω6_7 | apply Ω7_7 | apply Ω8_7 | refine Ω9_7 ?_ GE343.out) | exact HB.out)) hb); clear HO346; clear HO349; clear BK343; clear HB; have HO346 := n0_; have HO349 := n1_; have BK343 := n2_; have HB := n3_; clear n0_ n1_ n2_ n3_; (try clear hb); (try clear hb2); (try clear hk); (try clear hi))); try go_wp2_with (first | (go_at_call 61; (with_reducible refine (spec_TensorOk.calls k _ _ l0_0 _ _ l0_1 false _ ?side1 ?side2 ?side3 ?side4 A9.out).mono ?_); (case side1 => repeat (first | exact (Kd.C_below HR0_0.out HB.out) | (with_reducible refine Kd.C_alloc ?_ _) | (with_reducible refine Kd.C_drewN ?_ _) | (with_reducible refine Kd.C_drew ?_))); (case side2 => exact HC0_0.out); (case side3 => repeat (first | exact (Kd.C_below HR0_1.out HB.out) | (with_reducible refine Kd.C_alloc ?_ _) | (with_reducible refine Kd.C_drewN ?_ _) | (with_reducible refine Kd.C_drew ?_))); (case side4 => exact HC0_1.out); rintro e w20 ⟨rfl, hb⟩; have n0_ := Ω5_7 (Kd.R_below (by (with_reducible repeat (first | apply Ω1_7 | apply Ω2_7 | apply Ω3_7)); exact HO346.out) hb); have n1_ := Ω5_7 (Kd.R_below (by (with_reducible repeat (first | apply Ω1_7 | apply Ω2_7 | apply Ω3_7)); exact HO349.out) hb); have n2_ := Ω5_7 (blk_below (g := gb343) (o := .cells #[.slice A0_0 l0_0.length c0_0, .slice A0_1 l0_1.length c0_1] 39 (0, 0)) (by (with_reducible repeat (first | refine blk_drewN ?_ _ | refine blk_drew ?_ | refine blk_alloc ?_ _)); exact BK343.out) hb); have n3_ := Ω5_7 (below_step (by repeat (first | (with_reducible first | exact HB.out | apply Ω6_7 | apply Ω7_7 | apply Ω8_7 | refine Ω9_7 ?_ GE343.out) | exact HB.out)) hb); clear HO346; clear HO349; clear BK343; clear HB; have HO346 := n0_; have HO349 := n1_; have BK343 := n2_; have HB := n3_; clear n0_ n1_ n2_ n3_; (try clear hb); (try clear hb2); (try clear hk); (try clear hi))))
   go_meet
   case rel => exact ⟨_, (true), (by first | rfl | (simp; done) | (simp [*]; done)), H', ⟨by first | omega | exact Nat.le_refl _⟩, ⟨by (with_reducible repeat (first | apply Ω1_7 | apply Ω2_7 | apply Ω3_7)); exact Kd.R_mono HO346.out (fun _ hk => hk.2)⟩, ⟨by (with_reducible repeat (first | apply Ω1_7 | apply Ω2_7 | apply Ω3_7)); exact Kd.R_mono HO349.out (fun _ hk => hk.2)⟩, ⟨by (with_reducible repeat (first | refine blk_drewN ?_ _ | refine blk_drew ?_ | refine blk_alloc ?_ _)); exact BK343.out⟩, ⟨by repeat (first | (with_reducible first | exact HB.out | apply Ω6_7 | apply Ω7_7 | apply Ω8_7 | refine Ω9_7 ?_ GE343.out) | exact HB.out)⟩⟩
 case rest =>
  clear HC3
  try clear c1
  try clear c2
  try clear p2
  try clear c10
  try clear c11
  try clear c11b0
  try clear c11b1
  try clear hcz13_0
  try clear hcz13_1
  try clear hcz15_0
  try clear hcz15_1
  try clear hcz16_0
  try clear hcz16_1
  try clear hcz18_0
  try clear hcz18_1
  try clear hcz19_0
  try clear hcz19_1
  try clear hfz13_0
  try clear hfz13_1
  try clear hfz15_0
  try clear hfz15_1
  try clear hfz16_0
  try clear hfz16_1
  try clear hfz18_0
  try clear hfz18_1
  try clear hfz19_0
  try clear hfz19_1
  obtain ⟨kq, x30_2, rfl, HA, HJ2, HO_6, HO_7, BK343, HB⟩ := hcut
  cases kq with
  | zero => exact absurd HA.out (by simp [spec_Route.j0])
  | succ kj2 =>
   have H := HA.out
   clear HA
   simp only [spec_Route.j0] at H
   by_cases c21 : x30_2 = true
   ·subst c21
    have H1 : (some (y344, y347)) = some (r1, r2) := by rw [if_pos rfl] at H; exact H
    clear H
    have H := H1
    clear H1
    simp only [Option.some.injEq, Prod.mk.injEq] at H
    obtain ⟨rfl, rfl⟩ := H
    go_wp2
    repeat (go_quiet (fail); try go_wp2)
    go_ret2
    exact ⟨_, _, by first | rfl | (simp [errW_none, errW_some] <;> rfl) | (simp [*, errW_none, errW_some] <;> rfl), by (with_reducible repeat (first | apply Ω1_7 | apply Ω2_7 | apply Ω3_7)); exact HO_6.out, by (with_reducible repeat (first | apply Ω1_7 | apply Ω2_7 | apply Ω3_7)); exact HO_7.out, by repeat (first | (with_reducible first | exact HB.out | apply Ω6_7 | apply Ω7_7 | apply Ω8_7 | refine Ω9_7 ?_ GE343.out) | exact HB.out)⟩
   ·replace c21 := Bool.eq_false_iff.mpr c21
    subst c21
    have H1 : (spec_Route.l0 kj2 a1 y344 y347 0 l0_0 l0_1) = some (r1, r2) := by rw [if_neg (show ¬ (false = true) by decide)] at H; exact H
    clear H
    have H := H1
    clear H1
    have H' := Ω5_7 H
    clear H
    go_wp2
    repeat (go_quiet (fail); try go_wp2)
    go_loopg [6, 7, 8] kj2 (fun kq v6 v7 v8 w' => ∃ (x6_2 : List Int) (x7_2 : List Int) (x8_2 : Int), v8 = .int .i64 x8_2 ∧ Aside0 (spec_Route.l0 kq a1 x6_2 x7_2 x8_2 l0_0 l0_1 = some (r1, r2)) ∧ Aside0 (kq ≤ kj2) ∧ Aside0 (Kd.R (Kd.int .i64) 3 w' w.heap.size (fun k_ => some k_ ≠ (v7 : Value).ownBlock) v6 x6_2) ∧ Aside0 (Kd.R (Kd.int .i64) 3 w' w.heap.size (fun k_ => some k_ ≠ (v6 : Value).ownBlock) v7 x7_2) ∧ Aside0 (w'.heap[gb343]? = some (.cells #[(.slice A0_0 l0_0.length c0_0), (.slice A0_1 l0_1.length c0_1)] 39 (0, 0))) ∧ Aside0 (Below w.heap.size w w'))
    case atStart => exact ⟨(y344), (y347), (0), (by first | rfl | (simp; done) | (simp [*]; done)), H', ⟨Nat.le_refl _⟩, ⟨by (with_reducible repeat (first | apply Ω1_7 | apply Ω2_7 | apply Ω3_7)); exact HO_6.out⟩, ⟨by (with_reducible repeat (first | apply Ω1_7 | apply Ω2_7 | apply Ω3_7)); exact HO_7.out⟩, ⟨by (with_reducible repeat (first | refine blk_drewN ?_ _ | refine blk_drew ?_ | refine blk_alloc ?_ _)); exact BK343.out⟩, ⟨by repeat (first | (with_reducible first | exact HB.out | apply Ω6_7 | apply Ω7_7 | apply Ω8_7 | refine Ω9_7 ?_ GE343.out) | exact HB.out)⟩⟩
    case round =>
     clear H'
     try clear c1
     try clear c2
     try clear p2
     try clear c10
     try clear c11
     try clear c11b0
     try clear c11b1
     try clear c21
     try clear hcz13_0
     try clear hcz13_1
     try clear hcz15_0
     try clear hcz15_1
     try clear hcz16_0
     try clear hcz16_1
     try clear hcz18_0
     try clear hcz18_1
     try clear hcz19_0
     try clear hcz19_1
     try clear hfz13_0
     try clear hfz13_1
     try clear hfz15_0
     try clear hfz15_1
     try clear hfz16_0
     try clear hfz16_1
     try clear hfz18_0
     try clear hfz18_1
     try clear hfz19_0
     try clear hfz19_1
     try clear p2
     obtain ⟨x6_2, x7_2, x8_2, rfl, HA, HK2, HO_6, HO_7, BK343, HB⟩ := hrel
     cases gk with
     | zero => exact absurd HA.out (by simp [spec_Route.l0])
     | succ k2 =>
      have H := HA.out
      clear HA
      simp only [spec_Route.l0] at H
      by_cases c22 : 0 < (l0_0.length : Int)
      ·rw [if_pos c22] at H
       have c22b0 : decide (0 < (l0_0.length : Int)) = true := decide_eq_true c22
       have c22b1 : decide (0 < l0_0.length) = true := decide_eq_true (by omega)
       clear c22
       by_cases c23 : x8_2 < (rd l0_0 0)
       ·rw [if_pos c23] at H
        have c23b0 : decide (x8_2 < (rd l0_0 0)) = true := decide_eq_true c23
        clear c23
        replace H := Option.bind_eq_some_iff.mp H
        obtain ⟨t353, A240, H⟩ := H
        try dsimp only at H
        have A24 := Ω5_7 A240
        clear A240
        have H' := Ω5_7 H
        clear H
        have hcz25_0 : wr.cell? ⟨gb343, 0, none⟩ = some (.slice A0_0 l0_0.length c0_0) := (blk_cell BK343.out 0).trans rfl
        have hcz25_1 : wr.cell? ⟨gb343, 1, none⟩ = some (.slice A0_1 l0_1.length c0_1) := (blk_cell BK343.out 1).trans rfl
        have hfz25_0 := blk_frozen BK343.out 0
        have hfz25_1 := blk_frozen BK343.out 1
        have p352 : 0 ≤ (0 : Int) := (by omega)
        have q352 : 0 < (l0_0.length : Int) := of_decide_eq_true (by first | (with_reducible assumption) | assumption)
        obtain ⟨ad352, e352, hx352_0⟩ := Kd.at_int HR0_0.out 0 p352 q352
        cases e352
        have qi352 : (0 < l0_0.length) = True := eq_true (by omega)
        (try rw [show ((0 : Int)).toNat = 0 from rfl] at hx352_0)
        (try rw [Addr.add_zero'] at hx352_0)
        replace hx352_0 := (HB.out.cell (World.block_lt_of_cell? w _ hx352_0)).trans hx352_0
        replace p352 := eq_true p352
        replace q352 := eq_true q352
        go_wp2_with (first | (go_at_call 63; (with_reducible refine (spec_l5Row.calls _ _ l0_0 (fun k_ => k_ < w.heap.size) _ _ l0_1 x8_2 t353 _ ?side1 ?side2 ?side3 A24.out).mono ?_); (case side1 => repeat (first | exact (Kd.C_below HR0_0.out HB.out) | (with_reducible refine Kd.C_alloc ?_ _) | (with_reducible refine Kd.C_drewN ?_ _) | (with_reducible refine Kd.C_drew ?_))); (case side2 => exact HC0_0.out); (case side3 => exact Kd.V_mk HC0_1.out (Kd.F_below (Kd.C_F (Kd.heap_int .i64) HR0_1.out) (by repeat (first | (with_reducible first | exact HB.out | apply Ω6_7 | apply Ω7_7 | apply Ω8_7 | refine Ω9_7 ?_ GE343.out) | exact HB.out)))); rintro e w26 ⟨v354, rfl, ho0, hb⟩; have n0_ := Ω5_7 (Kd.R_below (by (with_reducible repeat (first | apply Ω1_7 | apply Ω2_7 | apply Ω3_7)); exact HO_6.out) hb); have n1_ := Ω5_7 (Kd.R_below (by (with_reducible repeat (first | apply Ω1_7 | apply Ω2_7 | apply Ω3_7)); exact HO_7.out) hb); have n2_ := Ω5_7 (Kd.V_lower (Kd.V_mono (ok' := fun k_ => some k_ ≠ (u6 : Value).ownBlock ∧ some k_ ≠ (u7 : Value).ownBlock ∧ k_ ≠ gb343) ho0 (fun k_ hk_ => ⟨Or.elim hk_ (fun hs_ => fun e_ => Nat.not_le.2 hs_ (Kd.R_base HO_6.out k_ e_.symm)) (fun hn_ => (Kd.fresh' (Kd.R_lt (by (with_reducible repeat (first | apply Ω1_7 | apply Ω2_7 | apply Ω3_7)); exact HO_6.out)) k_ hn_)), Or.elim hk_ (fun hs_ => fun e_ => Nat.not_le.2 hs_ (Kd.R_base HO_7.out k_ e_.symm)) (fun hn_ => (Kd.fresh' (Kd.R_lt (by (with_reducible repeat (first | apply Ω1_7 | apply Ω2_7 | apply Ω3_7)); exact HO_7.out)) k_ hn_)), Or.elim hk_ (fun hs_ => fun e_ => Nat.not_le.2 hs_ (by rw [e_]; exact GW343.out)) (fun hn_ => (Kd.freshB (g := gb343) (o := .cells #[.slice (some ad352) l0_0.length c0_0, .slice A0_1 l0_1.length c0_1] 39 (0, 0)) (by (with_reducible repeat (first | refine blk_drewN ?_ _ | refine blk_drew ?_ | refine blk_alloc ?_ _)); exact BK343.out) k_ hn_))⟩)) (below_size (by repeat (first | (with_reducible first | exact HB.out | apply Ω6_7 | apply Ω7_7 | apply Ω8_7 | refine Ω9_7 ?_ GE343.out) | exact HB.out)))); have n3_ := Ω5_7 (blk_below (g := gb343) (o := .cells #[.slice (some ad352) l0_0.length c0_0, .slice A0_1 l0_1.length c0_1] 39 (0, 0)) (by (with_reducible repeat (first | refine blk_drewN ?_ _ | refine blk_drew ?_ | refine blk_alloc ?_ _)); exact BK343.out) hb); have n4_ := Ω5_7 (below_step (by repeat (first | (with_reducible first | exact HB.out | apply Ω6_7 | apply Ω7_7 | apply Ω8_7 | refine Ω9_7 ?_ GE343.out) | exact HB.out)) hb); clear HO_6; clear HO_7; clear BK343; clear HB; have HO_6 := n0_; have HO_7 := n1_; have HO355 := n2_; have BK343 := n3_; have HB := n4_; clear n0_ n1_ n2_ n3_ n4_; (try clear hb); (try clear hb2); (try clear hk); (try clear hi); (try clear ho0)))
        repeat (go_quiet (first | (go_at_call 63; (with_reducible refine (spec_l5Row.calls _ _ l0_0 (fun k_ => k_ < w.heap.size) _ _ l0_1 x8_2 t353 _ ?side1 ?side2 ?side3 A24.out).mono ?_); (case side1 => repeat (first | exact (Kd.C_below HR0_0.out HB.out) | (with_reducible refine Kd.C_alloc ?_ _) | (with_reducible refine Kd.C_drewN ?_ _) | (with_reducible refine Kd.C_drew ?_))); (case side2 => exact HC0_0.out); (case side3 => exact Kd.V_mk HC0_1.out (Kd.F_below (Kd.C_F (Kd.heap_int .i64) HR0_1.out) (by repeat (first | (with_reducible first | exact HB.out | apply Ω6_7 | apply Ω7_7 | apply Ω8_7 | refine Ω9_7 ?_ GE343.out) | exact HB.out)))); rintro e w26 ⟨v354, rfl, ho0, hb⟩; have n0_ := Ω5_7 (Kd.R_below (by (with_reducible repeat (first | apply Ω1_7 | apply Ω2_7 | apply Ω3_7)); exact HO_6.out) hb); have n1_ := Ω5_7 (Kd.R_below (by (with_reducible repeat (first | apply Ω1_7 | apply Ω2_7 | apply Ω3_7)); exact HO_7.out) hb); have n2_ := Ω5_7 (Kd.V_lower (Kd.V_mono (ok' := fun k_ => some k_ ≠ (u6 : Value).ownBlock ∧ some k_ ≠ (u7 : Value).ownBlock ∧ k_ ≠ gb343) ho0 (fun k_ hk_ => ⟨Or.elim hk_ (fun hs_ => fun e_ => Nat.not_le.2 hs_ (Kd.R_base HO_6.out k_ e_.symm)) (fun hn_ => (Kd.fresh' (Kd.R_lt (by (with_reducible repeat (first | apply Ω1_7 | apply Ω2_7 | apply Ω3_7)); exact HO_6.out)) k_ hn_)), Or.elim hk_ (fun hs_ => fun e_ => Nat.not_le.2 hs_ (Kd.R_base HO_7.out k_ e_.symm)) (fun hn_ => (Kd.fresh' (Kd.R_lt (by (with_reducible repeat (first | apply Ω1_7 | apply Ω2_7 | apply Ω3_7)); exact HO_7.out)) k_ hn_)), Or.elim hk_ (fun hs_ => fun e_ => Nat.not_le.2 hs_ (by rw [e_]; exact GW343.out)) (fun hn_ => (Kd.freshB (g := gb343) (o := .cells #[.slice (some ad352) l0_0.length c0_0, .slice A0_1 l0_1.length c0_1] 39 (0, 0)) (by (with_reducible repeat (first | refine blk_drewN ?_ _ | refine blk_drew ?_ | refine blk_alloc ?_ _)); exact BK343.out) k_ hn_))⟩)) (below_size (by repeat (first | (with_reducible first | exact HB.out | apply Ω6_7 | apply Ω7_7 | apply Ω8_7 | refine Ω9_7 ?_ GE343.out) | exact HB.out)))); have n3_ := Ω5_7 (blk_below (g := gb343) (o := .cells #[.slice (some ad352) l0_0.length c0_0, .slice A0_1 l0_1.length c0_1] 39 (0, 0)) (by (with_reducible repeat (first | refine blk_drewN ?_ _ | refine blk_drew ?_ | refine blk_alloc ?_ _)); exact BK343.out) hb); have n4_ := Ω5_7 (below_step (by repeat (first | (with_reducible first | exact HB.out | apply Ω6_7 | apply Ω7_7 | apply Ω8_7 | refine Ω9_7 ?_ GE343.out) | exact HB.out)) hb); clear HO_6; clear HO_7; clear BK343; clear HB; have HO_6 := n0_; have HO_7 := n1_; have HO355 := n2_; have BK343 := n3_; have HB := n4_; clear n0_ n1_ n2_ n3_ n4_; (try clear hb); (try clear hb2); (try clear hk); (try clear hi); (try clear ho0))); try go_wp2_with (first | (go_at_call 63; (with_reducible refine (spec_l5Row.calls _ _ l0_0 (fun k_ => k_ < w.heap.size) _ _ l0_1 x8_2 t353 _ ?side1 ?side2 ?side3 A24.out).mono ?_); (case side1 => repeat (first | exact (Kd.C_below HR0_0.out HB.out) | (with_reducible refine Kd.C_alloc ?_ _) | (with_reducible refine Kd.C_drewN ?_ _) | (with_reducible refine Kd.C_drew ?_))); (case side2 => exact HC0_0.out); (case side3 => exact Kd.V_mk HC0_1.out (Kd.F_below (Kd.C_F (Kd.heap_int .i64) HR0_1.out) (by repeat (first | (with_reducible first | exact HB.out | apply Ω6_7 | apply Ω7_7 | apply Ω8_7 | refine Ω9_7 ?_ GE343.out) | exact HB.out)))); rintro e w26 ⟨v354, rfl, ho0, hb⟩; have n0_ := Ω5_7 (Kd.R_below (by (with_reducible repeat (first | apply Ω1_7 | apply Ω2_7 | apply Ω3_7)); exact HO_6.out) hb); have n1_ := Ω5_7 (Kd.R_below (by (with_reducible repeat (first | apply Ω1_7 | apply Ω2_7 | apply Ω3_7)); exact HO_7.out) hb); have n2_ := Ω5_7 (Kd.V_lower (Kd.V_mono (ok' := fun k_ => some k_ ≠ (u6 : Value).ownBlock ∧ some k_ ≠ (u7 : Value).ownBlock ∧ k_ ≠ gb343) ho0 (fun k_ hk_ => ⟨Or.elim hk_ (fun hs_ => fun e_ => Nat.not_le.2 hs_ (Kd.R_base HO_6.out k_ e_.symm)) (fun hn_ => (Kd.fresh' (Kd.R_lt (by (with_reducible repeat (first | apply Ω1_7 | apply Ω2_7 | apply Ω3_7)); exact HO_6.out)) k_ hn_)), Or.elim hk_ (fun hs_ => fun e_ => Nat.not_le.2 hs_ (Kd.R_base HO_7.out k_ e_.symm)) (fun hn_ => (Kd.fresh' (Kd.R_lt (by (with_reducible repeat (first | apply Ω1_7 | apply Ω2_7 | apply Ω3_7)); exact HO_7.out)) k_ hn_)), Or.elim hk_ (fun hs_ => fun e_ => Nat.not_le.2 hs_ (by rw [e_]; exact GW343.out)) (fun hn_ => (Kd.freshB (g := gb343) (o := .cells #[.slice (some ad352) l0_0.length c0_0, .slice A0_1 l0_1.length c0_1] 39 (0, 0)) (by (with_reducible repeat (first | refine blk_drewN ?_ _ | refine blk_drew ?_ | refine blk_alloc ?_ _)); exact BK343.out) k_ hn_))⟩)) (below_size (by repeat (first | (with_reducible first | exact HB.out | apply Ω6_7 | apply Ω7_7 | apply Ω8_7 | refine Ω9_7 ?_ GE343.out) | exact HB.out)))); have n3_ := Ω5_7 (blk_below (g := gb343) (o := .cells #[.slice (some ad352) l0_0.length c0_0, .slice A0_1 l0_1.length c0_1] 39 (0, 0)) (by (with_reducible repeat (first | refine blk_drewN ?_ _ | refine blk_drew ?_ | refine blk_alloc ?_ _)); exact BK343.out) hb); have n4_ := Ω5_7 (below_step (by repeat (first | (with_reducible first | exact HB.out | apply Ω6_7 | apply Ω7_7 | apply Ω8_7 | refine Ω9_7 ?_ GE343.out) | exact HB.out)) hb); clear HO_6; clear HO_7; clear BK343; clear HB; have HO_6 := n0_; have HO_7 := n1_; have HO355 := n2_; have BK343 := n3_; have HB := n4_; clear n0_ n1_ n2_ n3_ n4_; (try clear hb); (try clear hb2); (try clear hk); (try clear hi); (try clear ho0))))
        go_loopg [10, 11, 12] k2 (fun kq v10 v11 v12 w' => ∃ (x10_3 : Int) (x11_3 : Int) (x12_3 : Int), v10 = .int .i64 x10_3 ∧ v11 = .int .i64 x11_3 ∧ v12 = .int .i64 x12_3 ∧ Aside0 (spec_Route.l1 kq a1 x6_2 x7_2 x8_2 t353 x10_3 x11_3 x12_3 l0_0 l0_1 = some (r1, r2)) ∧ Aside0 (kq ≤ k2) ∧ Aside0 (Kd.R (Kd.int .i64) 3 w' w.heap.size (fun k_ => some k_ ≠ (u7 : Value).ownBlock) u6 x6_2) ∧ Aside0 (Kd.R (Kd.int .i64) 3 w' w.heap.size (fun k_ => some k_ ≠ (u6 : Value).ownBlock) u7 x7_2) ∧ Aside0 (Kd.V (Kd.int .i64) 3 w' w.heap.size (fun k_ => some k_ ≠ (u6 : Value).ownBlock ∧ some k_ ≠ (u7 : Value).ownBlock ∧ k_ ≠ gb343) v354 t353) ∧ Aside0 (w'.heap[gb343]? = some (.cells #[(.slice (some ad352) l0_0.length c0_0), (.slice A0_1 l0_1.length c0_1)] 39 (0, 0))) ∧ Aside0 (Below w.heap.size w w'))
        case atStart => exact ⟨((-1)), ((-1)), (0), (by first | rfl | (simp; done) | (simp [*]; done)), (by first | rfl | (simp; done) | (simp [*]; done)), (by first | rfl | (simp; done) | (simp [*]; done)), H', ⟨Nat.le_refl _⟩, ⟨by (with_reducible repeat (first | apply Ω1_7 | apply Ω2_7 | apply Ω3_7)); exact HO_6.out⟩, ⟨by (with_reducible repeat (first | apply Ω1_7 | apply Ω2_7 | apply Ω3_7)); exact HO_7.out⟩, ⟨by (with_reducible repeat (first | apply Kd.V_alloc | apply Kd.V_drewN | apply Kd.V_drew)); exact HO355.out⟩, ⟨by (with_reducible repeat (first | refine blk_drewN ?_ _ | refine blk_drew ?_ | refine blk_alloc ?_ _)); exact BK343.out⟩, ⟨by repeat (first | (with_reducible first | exact HB.out | apply Ω6_7 | apply Ω7_7 | apply Ω8_7 | refine Ω9_7 ?_ GE343.out) | exact HB.out)⟩⟩
        case round =>
         clear H'
         try clear c1
         try clear c2
         try clear p2
         try clear p3
         try clear q3
         try clear hx3
         try clear qi3
         try clear c10
         try clear c11
         try clear c11b0
         try clear c11b1
         try clear c21
         try clear c22
         try clear c22b0
         try clear c22b1
         try clear c23
         try clear c23b0
         try clear c24
         try clear hcz13_0
         try clear hcz13_1
         try clear hcz15_0
         try clear hcz15_1
         try clear hcz16_0
         try clear hcz16_1
         try clear hcz18_0
         try clear hcz18_1
         try clear hcz19_0
         try clear hcz19_1
         try clear hcz25_0
         try clear hcz25_1
         try clear hfz13_0
         try clear hfz13_1
         try clear hfz15_0
         try clear hfz15_1
         try clear hfz16_0
         try clear hfz16_1
         try clear hfz18_0
         try clear hfz18_1
         try clear hfz19_0
         try clear hfz19_1
         try clear hfz25_0
         try clear hfz25_1
         try clear hx352_0
         try clear p2
         try clear p352
         try clear q352
         obtain ⟨x10_3, x11_3, x12_3, rfl, rfl, rfl, HA, HK3, HO_6, HO_7, HO_9, BK343, HB⟩ := hrel
         cases gk with
         | zero => exact absurd HA.out (by simp [spec_Route.l1])
         | succ k3 =>
          have H := HA.out
          clear HA
          simp only [spec_Route.l1] at H
          by_cases c27 : x12_3 < (t353.length : Int)
          ·rw [if_pos c27] at H
           have c27b0 : decide (x12_3 < (t353.length : Int)) = true := decide_eq_true c27
           clear c27
           have H' := Ω5_7 H
           clear H
           obtain ⟨Ao28, co28, eo28⟩ := Kd.V_slice HO_9.out
           subst eo28
           go_wp2
           repeat (go_quiet (fail); try go_wp2)
           go_loopg [13, 14] k3 (fun kq v13 v14 w' => ∃ (x13_4 : Int) (x14_4 : Int), v13 = .int .i64 x13_4 ∧ v14 = .int .i64 x14_4 ∧ Aside0 (spec_Route.l2 kq a1 x6_2 x7_2 x8_2 t353 x10_3 x11_3 x12_3 x13_4 x14_4 l0_0 l0_1 = some (r1, r2)) ∧ Aside0 (kq ≤ k3) ∧ Aside0 (Kd.R (Kd.int .i64) 3 w' w.heap.size (fun k_ => some k_ ≠ (u7 : Value).ownBlock) u6 x6_2) ∧ Aside0 (Kd.R (Kd.int .i64) 3 w' w.heap.size (fun k_ => some k_ ≠ (u6 : Value).ownBlock) u7 x7_2) ∧ Aside0 (Kd.V (Kd.int .i64) 3 w' w.heap.size (fun k_ => some k_ ≠ (u6 : Value).ownBlock ∧ some k_ ≠ (u7 : Value).ownBlock ∧ k_ ≠ gb343) (.slice Ao28 t353.length co28) t353) ∧ Aside0 (w'.heap[gb343]? = some (.cells #[(.slice (some ad352) l0_0.length c0_0), (.slice A0_1 l0_1.length c0_1)] 39 (0, 0))) ∧ Aside0 (Below w.heap.size w w'))
           case atStart => exact ⟨(0), (0), (by first | rfl | (simp; done) | (simp [*]; done)), (by first | rfl | (simp; done) | (simp [*]; done)), H', ⟨Nat.le_refl _⟩, ⟨by (with_reducible repeat (first | apply Ω1_7 | apply Ω2_7 | apply Ω3_7)); exact HO_6.out⟩, ⟨by (with_reducible repeat (first | apply Ω1_7 | apply Ω2_7 | apply Ω3_7)); exact HO_7.out⟩, ⟨by (with_reducible repeat (first | apply Kd.V_alloc | apply Kd.V_drewN | apply Kd.V_drew)); exact HO_9.out⟩, ⟨by (with_reducible repeat (first | refine blk_drewN ?_ _ | refine blk_drew ?_ | refine blk_alloc ?_ _)); exact BK343.out⟩, ⟨by repeat (first | (with_reducible first | exact HB.out | apply Ω6_7 | apply Ω7_7 | apply Ω8_7 | refine Ω9_7 ?_ GE343.out) | exact HB.out)⟩⟩
           case round =>
            clear H'
            try clear c1
            try clear c2
            try clear p2
            try clear p3
            try clear q3
            try clear hx3
            try clear qi3
            try clear c10
            try clear c11
            try clear c11b0
            try clear c11b1
            try clear c21
            try clear c22
            try clear c22b0
            try clear c22b1
            try clear c23
            try clear c23b0
            try clear c24
            try clear c27
            try clear c27b0
            try clear hcz13_0
            try clear hcz13_1
            try clear hcz15_0
            try clear hcz15_1
            try clear hcz16_0
            try clear hcz16_1
            try clear hcz18_0
            try clear hcz18_1
            try clear hcz19_0
            try clear hcz19_1
            try clear hcz25_0
            try clear hcz25_1
            try clear hfz13_0
            try clear hfz13_1
            try clear hfz15_0
            try clear hfz15_1
            try clear hfz16_0
            try clear hfz16_1
            try clear hfz18_0
            try clear hfz18_1
            try clear hfz19_0
            try clear hfz19_1
            try clear hfz25_0
            try clear hfz25_1
            try clear hx352_0
            try clear p2
            try clear p3
            try clear p352
            try clear q3
            try clear q352
            obtain ⟨x13_4, x14_4, rfl, rfl, HA, HK4, HO_6, HO_7, HO_9, BK343, HB⟩ := hrel
            cases gk with
            | zero => exact absurd HA.out (by simp [spec_Route.l2])
            | succ k4 =>
             have H := HA.out
             clear HA
             simp only [spec_Route.l2] at H
             by_cases c29 : x14_4 < x8_2
             ·rw [if_pos c29] at H
              have c29b0 : decide (x14_4 < x8_2) = true := decide_eq_true c29
              clear c29
              by_cases c30 : 0 ≤ x14_4
              ·rw [if_pos c30] at H
               have c30b0 : decide (0 ≤ x14_4) = true := decide_eq_true c30
               clear c30
               by_cases c31 : x14_4 < (x6_2.length : Int)
               ·rw [if_pos c31] at H
                have c31b0 : decide (x14_4 < (x6_2.length : Int)) = true := decide_eq_true c31
                clear c31
                by_cases c32 : (rd x6_2 x14_4) = x12_3
                ·rw [if_pos c32] at H
                 have c32b0 : ((rd x6_2 x14_4) == x12_3) = true := beq_iff_eq.mpr c32
                 have c32b1 : ((rd x6_2 x14_4) != x12_3) = false := bne_eq_false_iff_eq.mpr c32
                 clear c32
                 have H' := Ω5_7 H
                 clear H
                 obtain ⟨Ao33, co33, eo33⟩ := Kd.R_slice HO_6.out
                 subst eo33
                 have p362 : 0 ≤ (x14_4 : Int) := of_decide_eq_true (by first | (with_reducible assumption) | assumption)
                 have q362 : x14_4 < (x6_2.length : Int) := of_decide_eq_true (by first | (with_reducible assumption) | assumption)
                 obtain ⟨ad362, e362, hx362_0⟩ := Kd.at_int (Kd.R_reads' HO_6.out).2.2 x14_4 p362 q362
                 cases e362
                 replace p362 := eq_true p362
                 replace q362 := eq_true q362
                 go_wp2
                 repeat (go_quiet (fail); try go_wp2)
                 go_roundg k4
                 case measure => have := HJ2.out; have := HK2.out; have := HK3.out; have := HK4.out; omega
                 case rel => exact ⟨(wrap64 (x13_4 + 1)), (wrap64 (x14_4 + 1)), (by first | rfl | (simp; done) | (simp [*]; done)), (by first | rfl | (simp; done) | (simp [*]; done)), H', ⟨by have := HJ2.out; have := HK2.out; have := HK3.out; have := HK4.out; omega⟩, ⟨by (with_reducible repeat (first | apply Ω1_7 | apply Ω2_7 | apply Ω3_7)); exact HO_6.out⟩, ⟨by (with_reducible repeat (first | apply Ω1_7 | apply Ω2_7 | apply Ω3_7)); exact HO_7.out⟩, ⟨by (with_reducible repeat (first | apply Kd.V_alloc | apply Kd.V_drewN | apply Kd.V_drew)); exact HO_9.out⟩, ⟨by (with_reducible repeat (first | refine blk_drewN ?_ _ | refine blk_drew ?_ | refine blk_alloc ?_ _)); exact BK343.out⟩, ⟨by repeat (first | (with_reducible first | exact HB.out | apply Ω6_7 | apply Ω7_7 | apply Ω8_7 | refine Ω9_7 ?_ GE343.out) | exact HB.out)⟩⟩
                ·rw [if_neg c32] at H
                 have c32b0 : ((rd x6_2 x14_4) == x12_3) = false := beq_eq_false_iff_ne.mpr c32
                 have c32b1 : ((rd x6_2 x14_4) != x12_3) = true := bne_iff_ne.mpr c32
                 have H' := Ω5_7 H
                 clear H
                 obtain ⟨Ao34, co34, eo34⟩ := Kd.R_slice HO_6.out
                 subst eo34
                 have p362 : 0 ≤ (x14_4 : Int) := of_decide_eq_true (by first | (with_reducible assumption) | assumption)
                 have q362 : x14_4 < (x6_2.length : Int) := of_decide_eq_true (by first | (with_reducible assumption) | assumption)
                 obtain ⟨ad362, e362, hx362_0⟩ := Kd.at_int (Kd.R_reads' HO_6.out).2.2 x14_4 p362 q362
                 cases e362
                 replace p362 := eq_true p362
                 replace q362 := eq_true q362
                 go_wp2
                 repeat (go_quiet (fail); try go_wp2)
                 go_roundg k4
                 case measure => have := HJ2.out; have := HK2.out; have := HK3.out; have := HK4.out; omega
                 case rel => exact ⟨(x13_4), (wrap64 (x14_4 + 1)), (by first | rfl | (simp; done) | (simp [*]; done)), (by first | rfl | (simp; done) | (simp [*]; done)), H', ⟨by have := HJ2.out; have := HK2.out; have := HK3.out; have := HK4.out; omega⟩, ⟨by (with_reducible repeat (first | apply Ω1_7 | apply Ω2_7 | apply Ω3_7)); exact HO_6.out⟩, ⟨by (with_reducible repeat (first | apply Ω1_7 | apply Ω2_7 | apply Ω3_7)); exact HO_7.out⟩, ⟨by (with_reducible repeat (first | apply Kd.V_alloc | apply Kd.V_drewN | apply Kd.V_drew)); exact HO_9.out⟩, ⟨by (with_reducible repeat (first | refine blk_drewN ?_ _ | refine blk_drew ?_ | refine blk_alloc ?_ _)); exact BK343.out⟩, ⟨by repeat (first | (with_reducible first | exact HB.out | apply Ω6_7 | apply Ω7_7 | apply Ω8_7 | refine Ω9_7 ?_ GE343.out) | exact HB.out)⟩⟩
               ·rw [if_neg c31] at H
                exact absurd H (by simp)
              ·rw [if_neg c30] at H
               exact absurd H (by simp)
             ·rw [if_neg c29] at H
              have c29b0 : decide (x14_4 < x8_2) = false := decide_eq_false c29
              clear c29
              have HC35 := Ω5_7 H
              clear H
              go_upto_region 20 with (fail)
              repeat (go_quiet (fail); go_upto_region 20 with (fail))
              go_cut [82] (fun v82 wc => ∃ (kq : Nat) (x82_34 : Bool), v82 = .bool x82_34 ∧ Aside0 (spec_Route.j4 kq a1 x6_2 x7_2 x8_2 t353 x10_3 x11_3 x12_3 x13_4 x82_34 l0_0 l0_1 = some (r1, r2)) ∧ Aside0 (kq ≤ k4) ∧ Aside0 (Kd.R (Kd.int .i64) 3 wc w.heap.size (fun k_ => some k_ ≠ (u7 : Value).ownBlock) u6 x6_2) ∧ Aside0 (Kd.R (Kd.int .i64) 3 wc w.heap.size (fun k_ => some k_ ≠ (u6 : Value).ownBlock) u7 x7_2) ∧ Aside0 (Kd.V (Kd.int .i64) 3 wc w.heap.size (fun k_ => some k_ ≠ (u6 : Value).ownBlock ∧ some k_ ≠ (u7 : Value).ownBlock ∧ k_ ≠ gb343) (.slice Ao28 t353.length co28) t353) ∧ Aside0 (wc.heap[gb343]? = some (.cells #[(.slice (some ad352) l0_0.length c0_0), (.slice A0_1 l0_1.length c0_1)] 39 (0, 0))) ∧ Aside0 (Below w.heap.size w wc))
              case first =>
               have H := HC35.out
               clear HC35
               by_cases c36 : x13_4 < a1
               ·rw [if_pos c36] at H
                have c36b0 : decide (x13_4 < a1) = true := decide_eq_true c36
                clear c36
                (first | rw [c36b0] | (simp only [i64_w, i32_w]; rw [c36b0]) | skip)
                by_cases c37 : x10_3 < 0
                ·rw [if_pos c37] at H
                 have c37b0 : decide (x10_3 < 0) = true := decide_eq_true c37
                 clear c37
                 have H' := Ω5_7 H
                 clear H
                 go_wp2
                 repeat (go_quiet (fail); try go_wp2)
                 go_meet
                 case rel => exact ⟨_, (true), (by first | rfl | (simp; done) | (simp [*]; done)), H', ⟨by have := HJ2.out; have := HK2.out; have := HK3.out; have := HK4.out; first | omega | exact Nat.le_refl _⟩, ⟨by (with_reducible repeat (first | apply Ω1_7 | apply Ω2_7 | apply Ω3_7)); exact HO_6.out⟩, ⟨by (with_reducible repeat (first | apply Ω1_7 | apply Ω2_7 | apply Ω3_7)); exact HO_7.out⟩, ⟨by (with_reducible repeat (first | apply Kd.V_alloc | apply Kd.V_drewN | apply Kd.V_drew)); exact HO_9.out⟩, ⟨by (with_reducible repeat (first | refine blk_drewN ?_ _ | refine blk_drew ?_ | refine blk_alloc ?_ _)); exact BK343.out⟩, ⟨by repeat (first | (with_reducible first | exact HB.out | apply Ω6_7 | apply Ω7_7 | apply Ω8_7 | refine Ω9_7 ?_ GE343.out) | exact HB.out)⟩⟩
                ·rw [if_neg c37] at H
                 have c37b0 : decide (x10_3 < 0) = false := decide_eq_false c37
                 clear c37
                 by_cases c38 : 0 ≤ x12_3
                 ·rw [if_pos c38] at H
                  have c38b0 : decide (0 ≤ x12_3) = true := decide_eq_true c38
                  clear c38
                  by_cases c39 : x12_3 < (t353.length : Int)
                  ·rw [if_pos c39] at H
                   have c39b0 : decide (x12_3 < (t353.length : Int)) = true := decide_eq_true c39
                   clear c39
                   replace H := Option.bind_eq_some_iff.mp H
                   obtain ⟨t364, A400, H⟩ := H
                   try dsimp only at H
                   have A40 := Ω5_7 A400
                   clear A400
                   by_cases c41 : 0 ≤ x10_3
                   ·rw [if_pos c41] at H
                    have c41b0 : decide (0 ≤ x10_3) = true := decide_eq_true c41
                    clear c41
                    by_cases c42 : x10_3 < (t353.length : Int)
                    ·rw [if_pos c42] at H
                     have c42b0 : decide (x10_3 < (t353.length : Int)) = true := decide_eq_true c42
                     clear c42
                     replace H := Option.bind_eq_some_iff.mp H
                     obtain ⟨t366, A430, H⟩ := H
                     try dsimp only at H
                     have A43 := Ω5_7 A430
                     clear A430
                     have H' := Ω5_7 H
                     clear H
                     have p363 : 0 ≤ (x12_3 : Int) := of_decide_eq_true (by first | (with_reducible assumption) | assumption)
                     have q363 : x12_3 < (t353.length : Int) := of_decide_eq_true (by first | (with_reducible assumption) | assumption)
                     obtain ⟨ad363, e363, hx363_0⟩ := Kd.at_int (Kd.V_reads' HO_9.out).2.2 x12_3 p363 q363
                     cases e363
                     replace p363 := eq_true p363
                     replace q363 := eq_true q363
                     go_wp2_with (first | (go_at_call 64; (with_reducible refine (spec_Signed.calls (rd t353 x12_3) t364 _ A40.out).mono ?_); rintro e w' ⟨rfl, ⟨nd, rfl⟩⟩; (try first | exact ⟨rfl, _, World.drewN_drewN _ _ _⟩ | exact ⟨rfl, _, Eq.trans (World.drewN_drewN _ _ _) (congrArg (World.drewN _) (Nat.add_assoc _ _ _))⟩); have p365 : 0 ≤ (x10_3 : Int) := of_decide_eq_true (by first | (with_reducible assumption) | assumption); have q365 : x10_3 < (t353.length : Int) := of_decide_eq_true (by first | (with_reducible assumption) | assumption); obtain ⟨ad365, e365, hx365_0⟩ := Kd.at_int (Kd.V_reads' HO_9.out).2.2 x10_3 p365 q365; obtain rfl : ad363 = ad365 := (by injection e365); replace p365 := eq_true p365; replace q365 := eq_true q365) | (go_at_call 64; (with_reducible refine (spec_Signed.calls (rd t353 x10_3) t366 _ A43.out).mono ?_); rintro e w' ⟨rfl, ⟨nd, rfl⟩⟩; (try first | exact ⟨rfl, _, World.drewN_drewN _ _ _⟩ | exact ⟨rfl, _, Eq.trans (World.drewN_drewN _ _ _) (congrArg (World.drewN _) (Nat.add_assoc _ _ _))⟩)))
                     repeat (go_quiet (first | (go_at_call 64; (with_reducible refine (spec_Signed.calls (rd t353 x12_3) t364 _ A40.out).mono ?_); rintro e w' ⟨rfl, ⟨nd, rfl⟩⟩; (try first | exact ⟨rfl, _, World.drewN_drewN _ _ _⟩ | exact ⟨rfl, _, Eq.trans (World.drewN_drewN _ _ _) (congrArg (World.drewN _) (Nat.add_assoc _ _ _))⟩); have p365 : 0 ≤ (x10_3 : Int) := of_decide_eq_true (by first | (with_reducible assumption) | assumption); have q365 : x10_3 < (t353.length : Int) := of_decide_eq_true (by first | (with_reducible assumption) | assumption); obtain ⟨ad365, e365, hx365_0⟩ := Kd.at_int (Kd.V_reads' HO_9.out).2.2 x10_3 p365 q365; obtain rfl : ad363 = ad365 := (by injection e365); replace p365 := eq_true p365; replace q365 := eq_true q365) | (go_at_call 64; (with_reducible refine (spec_Signed.calls (rd t353 x10_3) t366 _ A43.out).mono ?_); rintro e w' ⟨rfl, ⟨nd, rfl⟩⟩; (try first | exact ⟨rfl, _, World.drewN_drewN _ _ _⟩ | exact ⟨rfl, _, Eq.trans (World.drewN_drewN _ _ _) (congrArg (World.drewN _) (Nat.add_assoc _ _ _))⟩))); try go_wp2_with (first | (go_at_call 64; (with_reducible refine (spec_Signed.calls (rd t353 x12_3) t364 _ A40.out).mono ?_); rintro e w' ⟨rfl, ⟨nd, rfl⟩⟩; (try first | exact ⟨rfl, _, World.drewN_drewN _ _ _⟩ | exact ⟨rfl, _, Eq.trans (World.drewN_drewN _ _ _) (congrArg (World.drewN _) (Nat.add_assoc _ _ _))⟩); have p365 : 0 ≤ (x10_3 : Int) := of_decide_eq_true (by first | (with_reducible assumption) | assumption); have q365 : x10_3 < (t353.length : Int) := of_decide_eq_true (by first | (with_reducible assumption) | assumption); obtain ⟨ad365, e365, hx365_0⟩ := Kd.at_int (Kd.V_reads' HO_9.out).2.2 x10_3 p365 q365; obtain rfl : ad363 = ad365 := (by injection e365); replace p365 := eq_true p365; replace q365 := eq_true q365) | (go_at_call 64; (with_reducible refine (spec_Signed.calls (rd t353 x10_3) t366 _ A43.out).mono ?_); rintro e w' ⟨rfl, ⟨nd, rfl⟩⟩; (try first | exact ⟨rfl, _, World.drewN_drewN _ _ _⟩ | exact ⟨rfl, _, Eq.trans (World.drewN_drewN _ _ _) (congrArg (World.drewN _) (Nat.add_assoc _ _ _))⟩))))
                     go_meet
                     case rel => exact ⟨_, (decide (t364 > t366)), (by first | rfl | (simp; done) | (simp [*]; done)), H', ⟨by have := HJ2.out; have := HK2.out; have := HK3.out; have := HK4.out; first | omega | exact Nat.le_refl _⟩, ⟨by (with_reducible repeat (first | apply Ω1_7 | apply Ω2_7 | apply Ω3_7)); exact HO_6.out⟩, ⟨by (with_reducible repeat (first | apply Ω1_7 | apply Ω2_7 | apply Ω3_7)); exact HO_7.out⟩, ⟨by (with_reducible repeat (first | apply Kd.V_alloc | apply Kd.V_drewN | apply Kd.V_drew)); exact HO_9.out⟩, ⟨by (with_reducible repeat (first | refine blk_drewN ?_ _ | refine blk_drew ?_ | refine blk_alloc ?_ _)); exact BK343.out⟩, ⟨by repeat (first | (with_reducible first | exact HB.out | apply Ω6_7 | apply Ω7_7 | apply Ω8_7 | refine Ω9_7 ?_ GE343.out) | exact HB.out)⟩⟩
                    ·rw [if_neg c42] at H
                     exact absurd H (by simp)
                   ·rw [if_neg c41] at H
                    exact absurd H (by simp)
                  ·rw [if_neg c39] at H
                   exact absurd H (by simp)
                 ·rw [if_neg c38] at H
                  exact absurd H (by simp)
               ·rw [if_neg c36] at H
                have c36b0 : decide (x13_4 < a1) = false := decide_eq_false c36
                clear c36
                (first | rw [c36b0] | (simp only [i64_w, i32_w]; rw [c36b0]) | skip)
                have H' := Ω5_7 H
                clear H
                go_wp2
                repeat (go_quiet (fail); try go_wp2)
                go_meet
                case rel => exact ⟨_, (false), (by first | rfl | (simp; done) | (simp [*]; done)), H', ⟨by have := HJ2.out; have := HK2.out; have := HK3.out; have := HK4.out; first | omega | exact Nat.le_refl _⟩, ⟨by (with_reducible repeat (first | apply Ω1_7 | apply Ω2_7 | apply Ω3_7)); exact HO_6.out⟩, ⟨by (with_reducible repeat (first | apply Ω1_7 | apply Ω2_7 | apply Ω3_7)); exact HO_7.out⟩, ⟨by (with_reducible repeat (first | apply Kd.V_alloc | apply Kd.V_drewN | apply Kd.V_drew)); exact HO_9.out⟩, ⟨by (with_reducible repeat (first | refine blk_drewN ?_ _ | refine blk_drew ?_ | refine blk_alloc ?_ _)); exact BK343.out⟩, ⟨by repeat (first | (with_reducible first | exact HB.out | apply Ω6_7 | apply Ω7_7 | apply Ω8_7 | refine Ω9_7 ?_ GE343.out) | exact HB.out)⟩⟩
              case rest =>
               clear HC35
               try clear c1
               try clear c2
               try clear p2
               try clear c3
               try clear p3
               try clear q3
               try clear hx3
               try clear qi3
               try clear c4
               try clear p6
               try clear c10
               try clear c11
               try clear c11b0
               try clear c11b1
               try clear c21
               try clear c22
               try clear c22b0
               try clear c22b1
               try clear c23
               try clear c23b0
               try clear c24
               try clear c27
               try clear c27b0
               try clear c29
               try clear c29b0
               try clear c30
               try clear c30b0
               try clear c31
               try clear c31b0
               try clear c32
               try clear c32b0
               try clear c32b1
               try clear p35
               try clear q35
               try clear hx35
               try clear qi35
               try clear c36
               try clear c36b0
               try clear p36
               try clear q36
               try clear hx36
               try clear c37
               try clear c37b0
               try clear c38
               try clear c38b0
               try clear c39
               try clear c39b0
               try clear c41
               try clear c41b0
               try clear c42
               try clear c42b0
               try clear hcz13_0
               try clear hcz13_1
               try clear hcz15_0
               try clear hcz15_1
               try clear hcz16_0
               try clear hcz16_1
               try clear hcz18_0
               try clear hcz18_1
               try clear hcz19_0
               try clear hcz19_1
               try clear hcz25_0
               try clear hcz25_1
               try clear hfz13_0
               try clear hfz13_1
               try clear hfz15_0
               try clear hfz15_1
               try clear hfz16_0
               try clear hfz16_1
               try clear hfz18_0
               try clear hfz18_1
               try clear hfz19_0
               try clear hfz19_1
               try clear hfz25_0
               try clear hfz25_1
               try clear hx352_0
               try clear hx362_0
               try clear hx363_0
               try clear hx365_0
               try clear p2
               try clear p3
               try clear p352
               try clear p362
               try clear p363
               try clear p365
               try clear q3
               try clear q352
               try clear q362
               try clear q363
               try clear q365
               obtain ⟨kq, x82_34, rfl, HA, HJ34, HO_6, HO_7, HO_9, BK343, HB⟩ := hcut
               cases kq with
               | zero => exact absurd HA.out (by simp [spec_Route.j4])
               | succ kj34 =>
                have H := HA.out
                clear HA
                simp only [spec_Route.j4] at H
                by_cases c44 : x82_34 = true
                ·subst c44
                 have H1 : (spec_Route.l1 kj34 a1 x6_2 x7_2 x8_2 t353 x12_3 x13_4 (wrap64 (x12_3 + 1)) l0_0 l0_1) = some (r1, r2) := by rw [if_pos rfl] at H; exact H
                 clear H
                 have H := H1
                 clear H1
                 have H' := Ω5_7 H
                 clear H
                 go_wp2
                 repeat (go_quiet (fail); try go_wp2)
                 go_roundg kj34
                 case measure => have := HJ2.out; have := HK2.out; have := HK3.out; have := HK4.out; have := HJ34.out; omega
                 case rel => exact ⟨(x12_3), (x13_4), (wrap64 (x12_3 + 1)), (by first | rfl | (simp; done) | (simp [*]; done)), (by first | rfl | (simp; done) | (simp [*]; done)), (by first | rfl | (simp; done) | (simp [*]; done)), H', ⟨by have := HJ2.out; have := HK2.out; have := HK3.out; have := HK4.out; have := HJ34.out; omega⟩, ⟨by (with_reducible repeat (first | apply Ω1_7 | apply Ω2_7 | apply Ω3_7)); exact HO_6.out⟩, ⟨by (with_reducible repeat (first | apply Ω1_7 | apply Ω2_7 | apply Ω3_7)); exact HO_7.out⟩, ⟨by (with_reducible repeat (first | apply Kd.V_alloc | apply Kd.V_drewN | apply Kd.V_drew)); exact HO_9.out⟩, ⟨by (with_reducible repeat (first | refine blk_drewN ?_ _ | refine blk_drew ?_ | refine blk_alloc ?_ _)); exact BK343.out⟩, ⟨by repeat (first | (with_reducible first | exact HB.out | apply Ω6_7 | apply Ω7_7 | apply Ω8_7 | refine Ω9_7 ?_ GE343.out) | exact HB.out)⟩⟩
                ·replace c44 := Bool.eq_false_iff.mpr c44
                 subst c44
                 have H1 : (spec_Route.l1 kj34 a1 x6_2 x7_2 x8_2 t353 x10_3 x11_3 (wrap64 (x12_3 + 1)) l0_0 l0_1) = some (r1, r2) := by rw [if_neg (show ¬ (false = true) by decide)] at H; exact H
                 clear H
                 have H := H1
                 clear H1
                 have H' := Ω5_7 H
                 clear H
                 go_wp2
                 repeat (go_quiet (fail); try go_wp2)
                 go_roundg kj34
                 case measure => have := HJ2.out; have := HK2.out; have := HK3.out; have := HK4.out; have := HJ34.out; omega
                 case rel => exact ⟨(x10_3), (x11_3), (wrap64 (x12_3 + 1)), (by first | rfl | (simp; done) | (simp [*]; done)), (by first | rfl | (simp; done) | (simp [*]; done)), (by first | rfl | (simp; done) | (simp [*]; done)), H', ⟨by have := HJ2.out; have := HK2.out; have := HK3.out; have := HK4.out; have := HJ34.out; omega⟩, ⟨by (with_reducible repeat (first | apply Ω1_7 | apply Ω2_7 | apply Ω3_7)); exact HO_6.out⟩, ⟨by (with_reducible repeat (first | apply Ω1_7 | apply Ω2_7 | apply Ω3_7)); exact HO_7.out⟩, ⟨by (with_reducible repeat (first | apply Kd.V_alloc | apply Kd.V_drewN | apply Kd.V_drew)); exact HO_9.out⟩, ⟨by (with_reducible repeat (first | refine blk_drewN ?_ _ | refine blk_drew ?_ | refine blk_alloc ?_ _)); exact BK343.out⟩, ⟨by repeat (first | (with_reducible first | exact HB.out | apply Ω6_7 | apply Ω7_7 | apply Ω8_7 | refine Ω9_7 ?_ GE343.out) | exact HB.out)⟩⟩
          ·rw [if_neg c27] at H
           have c27b0 : decide (x12_3 < (t353.length : Int)) = false := decide_eq_false c27
           clear c27
           by_cases c45 : x6_2.length < 17592186044416
           ·rw [if_pos c45] at H
            have LMc45 := Ω5_7 c45
            clear c45
            obtain ⟨y356, hy356⟩ : ∃ y_ : List Int, y_ = (x6_2 ++ [x10_3]) := ⟨_, rfl⟩
            replace H : (if x7_2.length < 17592186044416 then (spec_Route.l0 k3 a1 y356 (x7_2 ++ [x11_3]) (wrap64 (x8_2 + 1)) l0_0 l0_1) else (none)) = some (r1, r2) := by first | (rw [hy356]; with_reducible exact H) | (have H2_ := (Option.bind_some _ _).symm.trans H; rw [hy356]; with_reducible exact H2_) | (have H2_ := (Option.bind_some _ _).symm.trans H; with_reducible exact H2_) | with_reducible exact H | (rw [hy356]; exact H) | exact H
            have Ny356 := Ω5_7 hy356
            clear hy356
            by_cases c46 : x7_2.length < 17592186044416
            ·rw [if_pos c46] at H
             have LMc46 := Ω5_7 c46
             clear c46
             obtain ⟨y359, hy359⟩ : ∃ y_ : List Int, y_ = (x7_2 ++ [x11_3]) := ⟨_, rfl⟩
             replace H : (spec_Route.l0 k3 a1 y356 y359 (wrap64 (x8_2 + 1)) l0_0 l0_1) = some (r1, r2) := by first | (rw [hy359]; with_reducible exact H) | (have H2_ := (Option.bind_some _ _).symm.trans H; rw [hy359]; with_reducible exact H2_) | (have H2_ := (Option.bind_some _ _).symm.trans H; with_reducible exact H2_) | with_reducible exact H | (rw [hy359]; exact H) | exact H
             have Ny359 := Ω5_7 hy359
             clear hy359
             have H' := Ω5_7 H
             clear H
             obtain ⟨Ao47, co47, eo47⟩ := Kd.V_slice HO_9.out
             subst eo47
             go_wp2_with (first | ((with_reducible refine gate_builtin (b := .append) (xs := #[.tmp 85, .tmp 87]) rfl ?_); (try (refine gate_guard (by rfl) ?_; dsimp only)); at_builtin; refine Kd.R_append (Kd.int .i64) (w0 := w) w.heap.size rfl (.tmp 85) (.tmp 87) 22 3 (.int .i64 0) 8 rfl Try.underlying22 info3 rfl (by decide) (by omega) u6 x6_2 x10_3 [.int .i64 x10_3] (fun k_ => some k_ ≠ (u7 : Value).ownBlock) (fun _ => False) rfl rfl ?aP (fun _ hk => hk.elim) ?aF ?aO ?aB ?aS ?aL ?_; (case aP => exact rfl); (case aB => exact (by repeat (first | (with_reducible first | exact HB.out | apply Ω6_7 | apply Ω7_7 | apply Ω8_7 | refine Ω9_7 ?_ GE343.out) | exact HB.out))); (case aF => exact (fun k_ hk => Kd.fresh' (Kd.R_lt (by (with_reducible repeat (first | apply Ω1_7 | apply Ω2_7 | apply Ω3_7)); exact HO_7.out)) k_ hk)); (case aO => exact (by (with_reducible repeat (first | apply Ω1_7 | apply Ω2_7 | apply Ω3_7)); exact HO_6.out)); (case aS => exact (below_size (by repeat (first | (with_reducible first | exact HB.out | apply Ω6_7 | apply Ω7_7 | apply Ω8_7 | refine Ω9_7 ?_ GE343.out) | exact HB.out)))); (case aL => have := LMc45.out; omega); intro v357 w48 ho hb hg hat; rw [← Ny356.out] at ho; have n0_ := Ω5_7 (Kd.R_after (ok := (fun _ => True)) (by (with_reducible repeat (first | apply Ω1_7 | apply Ω2_7 | apply Ω3_7)); exact Kd.R_mono HO_7.out (fun _ hk => ⟨trivial, hk⟩)) hg hat); have n1_ := Ω5_7 (Kd.V_afterv (ok := (fun k_ => some k_ ≠ (u7 : Value).ownBlock ∧ k_ ≠ gb343)) (by (with_reducible repeat (first | apply Kd.V_alloc | apply Kd.V_drewN | apply Kd.V_drew)); exact Kd.V_mono HO_9.out (fun _ hk => ⟨⟨hk.2.1, hk.2.2⟩, hk.1⟩)) hg hat); have n2_ := Ω5_7 (blk_grown (g := gb343) (o := .cells #[.slice (some ad352) l0_0.length c0_0, .slice A0_1 l0_1.length c0_1] 39 (0, 0)) (by (with_reducible repeat (first | refine blk_drewN ?_ _ | refine blk_drew ?_ | refine blk_alloc ?_ _)); exact BK343.out) hg (Kd.R_ne HO_6.out BK343.out (by decide))); have n3_ := Ω5_7 (hb); have n4_ := Ω5_7 (ho); clear HO_7; clear HO_9; clear BK343; clear HB; clear HO_6; have HO_7 := n0_; have HO_9 := n1_; have BK343 := n2_; have HB := n3_; have HO358 := n4_; clear n0_ n1_ n2_ n3_ n4_; clear ho hb hg hat) | ((with_reducible refine gate_builtin (b := .append) (xs := #[.tmp 89, .tmp 91]) rfl ?_); (try (refine gate_guard (by rfl) ?_; dsimp only)); at_builtin; refine Kd.R_append (Kd.int .i64) (w0 := w) w.heap.size rfl (.tmp 89) (.tmp 91) 22 3 (.int .i64 0) 8 rfl Try.underlying22 info3 rfl (by decide) (by omega) u7 x7_2 x11_3 [.int .i64 x11_3] (fun k_ => some k_ ≠ (v357 : Value).ownBlock) (fun _ => False) rfl rfl ?aP (fun _ hk => hk.elim) ?aF ?aO ?aB ?aS ?aL ?_; (case aP => exact rfl); (case aB => exact (by repeat (first | (with_reducible first | exact HB.out | apply Ω6_7 | apply Ω7_7 | apply Ω8_7 | refine Ω9_7 ?_ GE343.out) | exact HB.out))); (case aF => exact (fun k_ hk => Kd.fresh' (Kd.R_lt (by (with_reducible repeat (first | apply Ω1_7 | apply Ω2_7 | apply Ω3_7)); exact HO358.out)) k_ hk)); (case aO => exact (by (with_reducible repeat (first | apply Ω1_7 | apply Ω2_7 | apply Ω3_7)); exact Kd.R_mono HO_7.out (fun _ hk => hk.2))); (case aS => exact (below_size (by repeat (first | (with_reducible first | exact HB.out | apply Ω6_7 | apply Ω7_7 | apply Ω8_7 | refine Ω9_7 ?_ GE343.out) | exact HB.out)))); (case aL => have := LMc46.out; omega); intro v360 w49 ho hb hg hat; rw [← Ny359.out] at ho; have n0_ := Ω5_7 (Kd.V_afterv (ok := (fun k_ => some k_ ≠ (v357 : Value).ownBlock ∧ k_ ≠ gb343)) (by (with_reducible repeat (first | apply Kd.V_alloc | apply Kd.V_drewN | apply Kd.V_drew)); exact Kd.V_mono HO_9.out (fun _ hk => ⟨⟨hk.2, hk.1.2⟩, hk.1.1⟩)) hg hat); have n1_ := Ω5_7 (blk_grown (g := gb343) (o := .cells #[.slice (some ad352) l0_0.length c0_0, .slice A0_1 l0_1.length c0_1] 39 (0, 0)) (by (with_reducible repeat (first | refine blk_drewN ?_ _ | refine blk_drew ?_ | refine blk_alloc ?_ _)); exact BK343.out) hg (Kd.R_ne HO_7.out BK343.out (by decide))); have n2_ := Ω5_7 (Kd.R_after (ok := (fun _ => True)) (by (with_reducible repeat (first | apply Ω1_7 | apply Ω2_7 | apply Ω3_7)); exact Kd.R_mono HO358.out (fun _ hk => ⟨trivial, hk⟩)) hg hat); have n3_ := Ω5_7 (hb); have n4_ := Ω5_7 (ho); clear HO_9; clear BK343; clear HO358; clear HB; clear HO_7; have HO_9 := n0_; have BK343 := n1_; have HO358 := n2_; have HB := n3_; have HO361 := n4_; clear n0_ n1_ n2_ n3_ n4_; clear ho hb hg hat))
             repeat (go_quiet (first | ((with_reducible refine gate_builtin (b := .append) (xs := #[.tmp 85, .tmp 87]) rfl ?_); (try (refine gate_guard (by rfl) ?_; dsimp only)); at_builtin; refine Kd.R_append (Kd.int .i64) (w0 := w) w.heap.size rfl (.tmp 85) (.tmp 87) 22 3 (.int .i64 0) 8 rfl Try.underlying22 info3 rfl (by decide) (by omega) u6 x6_2 x10_3 [.int .i64 x10_3] (fun k_ => some k_ ≠ (u7 : Value).ownBlock) (fun _ => False) rfl rfl ?aP (fun _ hk => hk.elim) ?aF ?aO ?aB ?aS ?aL ?_; (case aP => exact rfl); (case aB => exact (by repeat (first | (with_reducible first | exact HB.out | apply Ω6_7 | apply Ω7_7 | apply Ω8_7 | refine Ω9_7 ?_ GE343.out) | exact HB.out))); (case aF => exact (fun k_ hk => Kd.fresh' (Kd.R_lt (by (with_reducible repeat (first | apply Ω1_7 | apply Ω2_7 | apply Ω3_7)); exact HO_7.out)) k_ hk)); (case aO => exact (by (with_reducible repeat (first | apply Ω1_7 | apply Ω2_7 | apply Ω3_7)); exact HO_6.out)); (case aS => exact (below_size (by repeat (first | (with_reducible first | exact HB.out | apply Ω6_7 | apply Ω7_7 | apply Ω8_7 | refine Ω9_7 ?_ GE343.out) | exact HB.out)))); (case aL => have := LMc45.out; omega); intro v357 w48 ho hb hg hat; rw [← Ny356.out] at ho; have n0_ := Ω5_7 (Kd.R_after (ok := (fun _ => True)) (by (with_reducible repeat (first | apply Ω1_7 | apply Ω2_7 | apply Ω3_7)); exact Kd.R_mono HO_7.out (fun _ hk => ⟨trivial, hk⟩)) hg hat); have n1_ := Ω5_7 (Kd.V_afterv (ok := (fun k_ => some k_ ≠ (u7 : Value).ownBlock ∧ k_ ≠ gb343)) (by (with_reducible repeat (first | apply Kd.V_alloc | apply Kd.V_drewN | apply Kd.V_drew)); exact Kd.V_mono HO_9.out (fun _ hk => ⟨⟨hk.2.1, hk.2.2⟩, hk.1⟩)) hg hat); have n2_ := Ω5_7 (blk_grown (g := gb343) (o := .cells #[.slice (some ad352) l0_0.length c0_0, .slice A0_1 l0_1.length c0_1] 39 (0, 0)) (by (with_reducible repeat (first | refine blk_drewN ?_ _ | refine blk_drew ?_ | refine blk_alloc ?_ _)); exact BK343.out) hg (Kd.R_ne HO_6.out BK343.out (by decide))); have n3_ := Ω5_7 (hb); have n4_ := Ω5_7 (ho); clear HO_7; clear HO_9; clear BK343; clear HB; clear HO_6; have HO_7 := n0_; have HO_9 := n1_; have BK343 := n2_; have HB := n3_; have HO358 := n4_; clear n0_ n1_ n2_ n3_ n4_; clear ho hb hg hat) | ((with_reducible refine gate_builtin (b := .append) (xs := #[.tmp 89, .tmp 91]) rfl ?_); (try (refine gate_guard (by rfl) ?_; dsimp only)); at_builtin; refine Kd.R_append (Kd.int .i64) (w0 := w) w.heap.size rfl (.tmp 89) (.tmp 91) 22 3 (.int .i64 0) 8 rfl Try.underlying22 info3 rfl (by decide) (by omega) u7 x7_2 x11_3 [.int .i64 x11_3] (fun k_ => some k_ ≠ (v357 : Value).ownBlock) (fun _ => False) rfl rfl ?aP (fun _ hk => hk.elim) ?aF ?aO ?aB ?aS ?aL ?_; (case aP => exact rfl); (case aB => exact (by repeat (first | (with_reducible first | exact HB.out | apply Ω6_7 | apply Ω7_7 | apply Ω8_7 | refine Ω9_7 ?_ GE343.out) | exact HB.out))); (case aF => exact (fun k_ hk => Kd.fresh' (Kd.R_lt (by (with_reducible repeat (first | apply Ω1_7 | apply Ω2_7 | apply Ω3_7)); exact HO358.out)) k_ hk)); (case aO => exact (by (with_reducible repeat (first | apply Ω1_7 | apply Ω2_7 | apply Ω3_7)); exact Kd.R_mono HO_7.out (fun _ hk => hk.2))); (case aS => exact (below_size (by repeat (first | (with_reducible first | exact HB.out | apply Ω6_7 | apply Ω7_7 | apply Ω8_7 | refine Ω9_7 ?_ GE343.out) | exact HB.out)))); (case aL => have := LMc46.out; omega); intro v360 w49 ho hb hg hat; rw [← Ny359.out] at ho; have n0_ := Ω5_7 (Kd.V_afterv (ok := (fun k_ => some k_ ≠ (v357 : Value).ownBlock ∧ k_ ≠ gb343)) (by (with_reducible repeat (first | apply Kd.V_alloc | apply Kd.V_drewN | apply Kd.V_drew)); exact Kd.V_mono HO_9.out (fun _ hk => ⟨⟨hk.2, hk.1.2⟩, hk.1.1⟩)) hg hat); have n1_ := Ω5_7 (blk_grown (g := gb343) (o := .cells #[.slice (some ad352) l0_0.length c0_0, .slice A0_1 l0_1.length c0_1] 39 (0, 0)) (by (with_reducible repeat (first | refine blk_drewN ?_ _ | refine blk_drew ?_ | refine blk_alloc ?_ _)); exact BK343.out) hg (Kd.R_ne HO_7.out BK343.out (by decide))); have n2_ := Ω5_7 (Kd.R_after (ok := (fun _ => True)) (by (with_reducible repeat (first | apply Ω1_7 | apply Ω2_7 | apply Ω3_7)); exact Kd.R_mono HO358.out (fun _ hk => ⟨trivial, hk⟩)) hg hat); have n3_ := Ω5_7 (hb); have n4_ := Ω5_7 (ho); clear HO_9; clear BK343; clear HO358; clear HB; clear HO_7; have HO_9 := n0_; have BK343 := n1_; have HO358 := n2_; have HB := n3_; have HO361 := n4_; clear n0_ n1_ n2_ n3_ n4_; clear ho hb hg hat)); try go_wp2_with (first | ((with_reducible refine gate_builtin (b := .append) (xs := #[.tmp 85, .tmp 87]) rfl ?_); (try (refine gate_guard (by rfl) ?_; dsimp only)); at_builtin; refine Kd.R_append (Kd.int .i64) (w0 := w) w.heap.size rfl (.tmp 85) (.tmp 87) 22 3 (.int .i64 0) 8 rfl Try.underlying22 info3 rfl (by decide) (by omega) u6 x6_2 x10_3 [.int .i64 x10_3] (fun k_ => some k_ ≠ (u7 : Value).ownBlock) (fun _ => False) rfl rfl ?aP (fun _ hk => hk.elim) ?aF ?aO ?aB ?aS ?aL ?_; (case aP => exact rfl); (case aB => exact (by repeat (first | (with_reducible first | exact HB.out | apply Ω6_7 | apply Ω7_7 | apply Ω8_7 | refine Ω9_7 ?_ GE343.out) | exact HB.out))); (case aF => exact (fun k_ hk => Kd.fresh' (Kd.R_lt (by (with_reducible repeat (first | apply Ω1_7 | apply Ω2_7 | apply Ω3_7)); exact HO_7.out)) k_ hk)); (case aO => exact (by (with_reducible repeat (first | apply Ω1_7 | apply Ω2_7 | apply Ω3_7)); exact HO_6.out)); (case aS => exact (below_size (by repeat (first | (with_reducible first | exact HB.out | apply Ω6_7 | apply Ω7_7 | apply Ω8_7 | refine Ω9_7 ?_ GE343.out) | exact HB.out)))); (case aL => have := LMc45.out; omega); intro v357 w48 ho hb hg hat; rw [← Ny356.out] at ho; have n0_ := Ω5_7 (Kd.R_after (ok := (fun _ => True)) (by (with_reducible repeat (first | apply Ω1_7 | apply Ω2_7 | apply Ω3_7)); exact Kd.R_mono HO_7.out (fun _ hk => ⟨trivial, hk⟩)) hg hat); have n1_ := Ω5_7 (Kd.V_afterv (ok := (fun k_ => some k_ ≠ (u7 : Value).ownBlock ∧ k_ ≠ gb343)) (by (with_reducible repeat (first | apply Kd.V_alloc | apply Kd.V_drewN | apply Kd.V_drew)); exact Kd.V_mono HO_9.out (fun _ hk => ⟨⟨hk.2.1, hk.2.2⟩, hk.1⟩)) hg hat); have n2_ := Ω5_7 (blk_grown (g := gb343) (o := .cells #[.slice (some ad352) l0_0.length c0_0, .slice A0_1 l0_1.length c0_1] 39 (0, 0)) (by (with_reducible repeat (first | refine blk_drewN ?_ _ | refine blk_drew ?_ | refine blk_alloc ?_ _)); exact BK343.out) hg (Kd.R_ne HO_6.out BK343.out (by decide))); have n3_ := Ω5_7 (hb); have n4_ := Ω5_7 (ho); clear HO_7; clear HO_9; clear BK343; clear HB; clear HO_6; have HO_7 := n0_; have HO_9 := n1_; have BK343 := n2_; have HB := n3_; have HO358 := n4_; clear n0_ n1_ n2_ n3_ n4_; clear ho hb hg hat) | ((with_reducible refine gate_builtin (b := .append) (xs := #[.tmp 89, .tmp 91]) rfl ?_); (try (refine gate_guard (by rfl) ?_; dsimp only)); at_builtin; refine Kd.R_append (Kd.int .i64) (w0 := w) w.heap.size rfl (.tmp 89) (.tmp 91) 22 3 (.int .i64 0) 8 rfl Try.underlying22 info3 rfl (by decide) (by omega) u7 x7_2 x11_3 [.int .i64 x11_3] (fun k_ => some k_ ≠ (v357 : Value).ownBlock) (fun _ => False) rfl rfl ?aP (fun _ hk => hk.elim) ?aF ?aO ?aB ?aS ?aL ?_; (case aP => exact rfl); (case aB => exact (by repeat (first | (with_reducible first | exact HB.out | apply Ω6_7 | apply Ω7_7 | apply Ω8_7 | refine Ω9_7 ?_ GE343.out) | exact HB.out))); (case aF => exact (fun k_ hk => Kd.fresh' (Kd.R_lt (by (with_reducible repeat (first | apply Ω1_7 | apply Ω2_7 | apply Ω3_7)); exact HO358.out)) k_ hk)); (case aO => exact (by (with_reducible repeat (first | apply Ω1_7 | apply Ω2_7 | apply Ω3_7)); exact Kd.R_mono HO_7.out (fun _ hk => hk.2))); (case aS => exact (below_size (by repeat (first | (with_reducible first | exact HB.out | apply Ω6_7 | apply Ω7_7 | apply Ω8_7 | refine Ω9_7 ?_ GE343.out) | exact HB.out)))); (case aL => have := LMc46.out; omega); intro v360 w49 ho hb hg hat; rw [← Ny359.out] at ho; have n0_ := Ω5_7 (Kd.V_afterv (ok := (fun k_ => some k_ ≠ (v357 : Value).ownBlock ∧ k_ ≠ gb343)) (by (with_reducible repeat (first | apply Kd.V_alloc | apply Kd.V_drewN | apply Kd.V_drew)); exact Kd.V_mono HO_9.out (fun _ hk => ⟨⟨hk.2, hk.1.2⟩, hk.1.1⟩)) hg hat); have n1_ := Ω5_7 (blk_grown (g := gb343) (o := .cells #[.slice (some ad352) l0_0.length c0_0, .slice A0_1 l0_1.length c0_1] 39 (0, 0)) (by (with_reducible repeat (first | refine blk_drewN ?_ _ | refine blk_drew ?_ | refine blk_alloc ?_ _)); exact BK343.out) hg (Kd.R_ne HO_7.out BK343.out (by decide))); have n2_ := Ω5_7 (Kd.R_after (ok := (fun _ => True)) (by (with_reducible repeat (first | apply Ω1_7 | apply Ω2_7 | apply Ω3_7)); exact Kd.R_mono HO358.out (fun _ hk => ⟨trivial, hk⟩)) hg hat); have n3_ := Ω5_7 (hb); have n4_ := Ω5_7 (ho); clear HO_9; clear BK343; clear HO358; clear HB; clear HO_7; have HO_9 := n0_; have BK343 := n1_; have HO358 := n2_; have HB := n3_; have HO361 := n4_; clear n0_ n1_ n2_ n3_ n4_; clear ho hb hg hat)))
             go_roundg k3
             case measure => have := HJ2.out; have := HK2.out; have := HK3.out; omega
             case rel => exact ⟨(y356), (y359), (wrap64 (x8_2 + 1)), (by first | rfl | (simp; done) | (simp [*]; done)), H', ⟨by have := HJ2.out; have := HK2.out; have := HK3.out; omega⟩, ⟨by (with_reducible repeat (first | apply Ω1_7 | apply Ω2_7 | apply Ω3_7)); exact Kd.R_mono HO358.out (fun _ hk => hk.2)⟩, ⟨by (with_reducible repeat (first | apply Ω1_7 | apply Ω2_7 | apply Ω3_7)); exact HO361.out⟩, ⟨by (with_reducible repeat (first | refine blk_drewN ?_ _ | refine blk_drew ?_ | refine blk_alloc ?_ _)); exact BK343.out⟩, ⟨by repeat (first | (with_reducible first | exact HB.out | apply Ω6_7 | apply Ω7_7 | apply Ω8_7 | refine Ω9_7 ?_ GE343.out) | exact HB.out)⟩⟩
            ·rw [if_neg c46] at H
             exact absurd H (by simp)
           ·rw [if_neg c45] at H
            exact absurd H (by simp)
       ·rw [if_neg c23] at H
        have c23b0 : decide (x8_2 < (rd l0_0 0)) = false := decide_eq_false c23
        clear c23
        simp only [Option.some.injEq, Prod.mk.injEq] at H
        obtain ⟨rfl, rfl⟩ := H
        have hcz50_0 : wr.cell? ⟨gb343, 0, none⟩ = some (.slice A0_0 l0_0.length c0_0) := (blk_cell BK343.out 0).trans rfl
        have hcz50_1 : wr.cell? ⟨gb343, 1, none⟩ = some (.slice A0_1 l0_1.length c0_1) := (blk_cell BK343.out 1).trans rfl
        have hfz50_0 := blk_frozen BK343.out 0
        have hfz50_1 := blk_frozen BK343.out 1
        have p352 : 0 ≤ (0 : Int) := (by omega)
        have q352 : 0 < (l0_0.length : Int) := of_decide_eq_true (by first | (with_reducible assumption) | assumption)
        obtain ⟨ad352, e352, hx352_0⟩ := Kd.at_int HR0_0.out 0 p352 q352
        cases e352
        have qi352 : (0 < l0_0.length) = True := eq_true (by omega)
        (try rw [show ((0 : Int)).toNat = 0 from rfl] at hx352_0)
        (try rw [Addr.add_zero'] at hx352_0)
        replace hx352_0 := (HB.out.cell (World.block_lt_of_cell? w _ hx352_0)).trans hx352_0
        replace p352 := eq_true p352
        replace q352 := eq_true q352
        go_wp2
        repeat (go_quiet (fail); try go_wp2)
        go_ret2
        exact ⟨_, _, by first | rfl | (simp [errW_none, errW_some] <;> rfl) | (simp [*, errW_none, errW_some] <;> rfl), by (with_reducible repeat (first | apply Ω1_7 | apply Ω2_7 | apply Ω3_7)); exact HO_6.out, by (with_reducible repeat (first | apply Ω1_7 | apply Ω2_7 | apply Ω3_7)); exact HO_7.out, by repeat (first | (with_reducible first | exact HB.out | apply Ω6_7 | apply Ω7_7 | apply Ω8_7 | refine Ω9_7 ?_ GE343.out) | exact HB.out)⟩
      ·rw [if_neg c22] at H
       exact absurd H (by simp)

end Go.Proofs.Ytcpemdedmepfeaa.PFnRouted
