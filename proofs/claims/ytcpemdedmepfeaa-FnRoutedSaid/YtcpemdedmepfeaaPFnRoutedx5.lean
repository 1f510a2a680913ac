-- Printed out of the translation, hand-written contracts beside it; checked by the kernel alone.
import Derived.Test.YtcpemdedmepfeaaPFnRoutedx0
import Derived.Test.YtcpemdedmepfeaaPFnRoutedx4
namespace Go.Proofs.Ytcpemdedmepfeaa.PFnRouted
open Go.RowKit Go.Proofs.YtcpemdedmepfeaaW.PrintWords Go.Proofs.YtcpemdedmepfeaaW.PrintLast Go.Proofs.YtcpemdedmepfeaaW.PrintMore
attribute [local go_sem] max2_int min2_int max_two min_two max_three min_three max_four min_four   -- for this text's walks alone
set_option linter.unusedVariables false
set_option linter.unusedSimpArgs false
theorem Ω1_5 : type_of% @Kd.R_alloc := @Kd.R_alloc
theorem Ω2_5 : type_of% @Kd.R_drewN := @Kd.R_drewN
theorem Ω3_5 : type_of% @Kd.R_drew := @Kd.R_drew
theorem Ω5_5 : type_of% @Aside0.mk := @Aside0.mk
theorem Ω6_5 : type_of% @below_alloc := @below_alloc
theorem Ω7_5 : type_of% @pw_below_drewN := @pw_below_drewN
theorem Ω8_5 : type_of% @below_drew1 := @below_drew1
theorem Ω9_5 : type_of% @below_set := @below_set
theorem ΩS_5 : type_of% @of_decide_eq_true := @of_decide_eq_true

/-! ### impl_Route: function 22 -/
mutual
def impl_Route.j0 : Nat → Int → Bool → List Int → List Int → Option (List Int × List Int)
 | 0, _, _, _, _ => none
 | k + 1, x1, x29, x276000, x276001 => if x29 = true then (some (([] : List Int), ([] : List Int))) else (if 1 < (x276000.length : Int) then (if 0 ≤ (rd x276000 1) then (if (rd x276000 1 : Int).toNat ≤ 35184372088832 then (if 0 < (x276000.length : Int) then (impl_Route.l0 k x1 (([] : List Int)) (([] : List Int)) (rd x276000 1) (List.replicate (rd x276000 1 : Int).toNat 0) (rd x276000 0) 0 x276000 x276001) else (none)) else (none)) else (none)) else (none))
def impl_Route.l0 : Nat → Int → List Int → List Int → Int → List Int → Int → Int → List Int → List Int → Option (List Int × List Int)
 | 0, _, _, _, _, _, _, _, _, _ => none
 | k + 1, x1, x6, x7, x8, x9, x41, x42, x276000, x276001 => if x42 < x41 then (if 0 ≤ (wrap64 (x42 * x8)) then (if (wrap64 (x42 * x8)) ≤ (wrap64 ((wrap64 (x42 + 1)) * x8)) then (if (wrap64 ((wrap64 (x42 + 1)) * x8)) ≤ (x276001.length : Int) then (impl_Route.l1 k x1 x6 x7 x8 x9 (-1) ((x276001.take ((wrap64 ((wrap64 (x42 + 1)) * x8)) : Int).toNat).drop ((wrap64 (x42 * x8)) : Int).toNat) x41 x42 ((x276001.take ((wrap64 ((wrap64 (x42 + 1)) * x8)) : Int).toNat).drop ((wrap64 (x42 * x8)) : Int).toNat) (((x276001.take ((wrap64 ((wrap64 (x42 + 1)) * x8)) : Int).toNat).drop ((wrap64 (x42 * x8)) : Int).toNat).length : Int) 0 x276000 x276001) else (none)) else (none)) else (none)) else (some (x6, x7))
def impl_Route.l1 : Nat → Int → List Int → List Int → Int → List Int → Int → List Int → Int → Int → List Int → Int → Int → List Int → List Int → Option (List Int × List Int)
 | 0, _, _, _, _, _, _, _, _, _, _, _, _, _, _ => none
 | k + 1, x1, x6, x7, x8, x9, x11, x12, x41, x42, x55, x56, x57, x276000, x276001 => if x57 < x56 then (if 0 ≤ x57 then (if x57 < (x55.length : Int) then (if x57 < (x9.length : Int) then (if (rd x9 x57) < x1 then (if x11 < 0 then (impl_Route.j3 k x1 x6 x7 x8 x9 x11 x12 x57 x41 x42 x55 x56 x57 true x276000 x276001) else ((impl_Signed.f (rd x55 x57)).bind fun t292 => (if 0 ≤ x11 then (if x11 < (x12.length : Int) then ((impl_Signed.f (rd x12 x11)).bind fun t294 => (impl_Route.j3 k x1 x6 x7 x8 x9 x11 x12 x57 x41 x42 x55 x56 x57 (decide (t292 > t294)) x276000 x276001)) else (none)) else (none)))) else (impl_Route.j3 k x1 x6 x7 x8 x9 x11 x12 x57 x41 x42 x55 x56 x57 false x276000 x276001)) else (none)) else (none)) else (none)) else (if x11 ≥ 0 then (if 0 ≤ x11 then (if x11 < (x9.length : Int) then (if x6.length < 17592186044416 then (if x7.length < 17592186044416 then (impl_Route.l0 k x1 (x6 ++ [x11]) (x7 ++ [rd x9 x11]) x8 (x9.set (x11 : Int).toNat (wrap64 ((rd x9 x11) + 1))) x41 (wrap64 (x42 + 1)) x276000 x276001) else (none)) else (none)) else (none)) else (none)) else (if x6.length < 17592186044416 then (if x7.length < 17592186044416 then (impl_Route.l0 k x1 (x6 ++ [x11]) (x7 ++ [(-1)]) x8 x9 x41 (wrap64 (x42 + 1)) x276000 x276001) else (none)) else (none)))
def impl_Route.j3 : Nat → Int → List Int → List Int → Int → List Int → Int → List Int → Int → Int → Int → List Int → Int → Int → Bool → List Int → List Int → Option (List Int × List Int)
 | 0, _, _, _, _, _, _, _, _, _, _, _, _, _, _, _, _ => none
 | k + 1, x1, x6, x7, x8, x9, x11, x12, x13, x41, x42, x55, x56, x57, x81, x276000, x276001 => if x81 = true then (impl_Route.l1 k x1 x6 x7 x8 x9 x13 x12 x41 x42 x55 x56 (wrap64 (x57 + 1)) x276000 x276001) else (impl_Route.l1 k x1 x6 x7 x8 x9 x11 x12 x41 x42 x55 x56 (wrap64 (x57 + 1)) x276000 x276001)
end
def impl_Route.f (k : Nat) (l0_0 : List Int) (l0_1 : List Int) (a1 : Int) : Option (List Int × List Int) := (impl_TensorOk.f k l0_0 l0_1).bind fun t276 => (if t276 = true then (if (l0_0.length : Int) = 2 then ((impl_within.f a1 1 4096).bind fun t277 => (impl_Route.j0 k a1 (!t277) l0_0 l0_1)) else (impl_Route.j0 k a1 true l0_0 l0_1)) else (impl_Route.j0 k a1 true l0_0 l0_1))
theorem impl_Route.mono_l : ∀ k, (∀ y0 y1 y2 y3, LeO (impl_Route.j0 k y0 y1 y2 y3) (impl_Route.j0 (k + 1) y0 y1 y2 y3)) ∧ (∀ y0 y1 y2 y3 y4 y5 y6 y7 y8, LeO (impl_Route.l0 k y0 y1 y2 y3 y4 y5 y6 y7 y8) (impl_Route.l0 (k + 1) y0 y1 y2 y3 y4 y5 y6 y7 y8)) ∧ (∀ y0 y1 y2 y3 y4 y5 y6 y7 y8 y9 y10 y11 y12 y13, LeO (impl_Route.l1 k y0 y1 y2 y3 y4 y5 y6 y7 y8 y9 y10 y11 y12 y13) (impl_Route.l1 (k + 1) y0 y1 y2 y3 y4 y5 y6 y7 y8 y9 y10 y11 y12 y13)) ∧ (∀ y0 y1 y2 y3 y4 y5 y6 y7 y8 y9 y10 y11 y12 y13 y14 y15, LeO (impl_Route.j3 k y0 y1 y2 y3 y4 y5 y6 y7 y8 y9 y10 y11 y12 y13 y14 y15) (impl_Route.j3 (k + 1) y0 y1 y2 y3 y4 y5 y6 y7 y8 y9 y10 y11 y12 y13 y14 y15))
 | 0 => ⟨fun _ _ _ _ r h => by simp [impl_Route.j0] at h, fun _ _ _ _ _ _ _ _ _ r h => by simp [impl_Route.l0] at h, fun _ _ _ _ _ _ _ _ _ _ _ _ _ _ r h => by simp [impl_Route.l1] at h, fun _ _ _ _ _ _ _ _ _ _ _ _ _ _ _ _ r h => by simp [impl_Route.j3] at h⟩
 | k + 1 => by
  obtain ⟨ih0, ih1, ih2, ih3⟩ := impl_Route.mono_l k
  refine ⟨?_, ?_, ?_, ?_⟩
  ·intro y0 y1 y2 y3
   unfold impl_Route.j0
   repeat' first
   | (with_reducible exact ih0 _ _ _ _)
   | (with_reducible exact ih1 _ _ _ _ _ _ _ _ _)
   | (with_reducible exact ih2 _ _ _ _ _ _ _ _ _ _ _ _ _ _)
   | (with_reducible exact ih3 _ _ _ _ _ _ _ _ _ _ _ _ _ _ _ _)
   | (with_reducible exact impl_TensorOk.mono _ _ _)
   | (with_reducible exact LeO.refl _)
   | (with_reducible exact LeO.none _)
   | (with_reducible refine LeO.ite ?_ ?_)
   | (with_reducible refine LeO.bind ?_ (fun _ => ?_))
   | exact ih0 _ _ _ _
   | exact ih1 _ _ _ _ _ _ _ _ _
   | exact ih2 _ _ _ _ _ _ _ _ _ _ _ _ _ _
   | exact ih3 _ _ _ _ _ _ _ _ _ _ _ _ _ _ _ _
   | exact impl_TensorOk.mono _ _ _
   | exact LeO.none _
   | refine LeO.ite ?_ ?_
   | refine LeO.bind ?_ (fun _ => ?_)
  ·intro y0 y1 y2 y3 y4 y5 y6 y7 y8
   unfold impl_Route.l0
   repeat' first
   | (with_reducible exact ih0 _ _ _ _)
   | (with_reducible exact ih1 _ _ _ _ _ _ _ _ _)
   | (with_reducible exact ih2 _ _ _ _ _ _ _ _ _ _ _ _ _ _)
   | (with_reducible exact ih3 _ _ _ _ _ _ _ _ _ _ _ _ _ _ _ _)
   | (with_reducible exact impl_TensorOk.mono _ _ _)
   | (with_reducible exact LeO.refl _)
   | (with_reducible exact LeO.none _)
   | (with_reducible refine LeO.ite ?_ ?_)
   | (with_reducible refine LeO.bind ?_ (fun _ => ?_))
   | exact ih0 _ _ _ _
   | exact ih1 _ _ _ _ _ _ _ _ _
   | exact ih2 _ _ _ _ _ _ _ _ _ _ _ _ _ _
   | exact ih3 _ _ _ _ _ _ _ _ _ _ _ _ _ _ _ _
   | exact impl_TensorOk.mono _ _ _
   | exact LeO.none _
   | refine LeO.ite ?_ ?_
   | refine LeO.bind ?_ (fun _ => ?_)
  ·intro y0 y1 y2 y3 y4 y5 y6 y7 y8 y9 y10 y11 y12 y13
   unfold impl_Route.l1
   repeat' first
   | (with_reducible exact ih0 _ _ _ _)
   | (with_reducible exact ih1 _ _ _ _ _ _ _ _ _)
   | (with_reducible exact ih2 _ _ _ _ _ _ _ _ _ _ _ _ _ _)
   | (with_reducible exact ih3 _ _ _ _ _ _ _ _ _ _ _ _ _ _ _ _)
   | (with_reducible exact impl_TensorOk.mono _ _ _)
   | (with_reducible exact LeO.refl _)
   | (with_reducible exact LeO.none _)
   | (with_reducible refine LeO.ite ?_ ?_)
   | (with_reducible refine LeO.bind ?_ (fun _ => ?_))
   | exact ih0 _ _ _ _
   | exact ih1 _ _ _ _ _ _ _ _ _
   | exact ih2 _ _ _ _ _ _ _ _ _ _ _ _ _ _
   | exact ih3 _ _ _ _ _ _ _ _ _ _ _ _ _ _ _ _
   | exact impl_TensorOk.mono _ _ _
   | exact LeO.none _
   | refine LeO.ite ?_ ?_
   | refine LeO.bind ?_ (fun _ => ?_)
  ·intro y0 y1 y2 y3 y4 y5 y6 y7 y8 y9 y10 y11 y12 y13 y14 y15
   unfold impl_Route.j3
   repeat' first
   | (with_reducible exact ih0 _ _ _ _)
   | (with_reducible exact ih1 _ _ _ _ _ _ _ _ _)
   | (with_reducible exact ih2 _ _ _ _ _ _ _ _ _ _ _ _ _ _)
   | (with_reducible exact ih3 _ _ _ _ _ _ _ _ _ _ _ _ _ _ _ _)
   | (with_reducible exact impl_TensorOk.mono _ _ _)
   | (with_reducible exact LeO.refl _)
   | (with_reducible exact LeO.none _)
   | (with_reducible refine LeO.ite ?_ ?_)
   | (with_reducible refine LeO.bind ?_ (fun _ => ?_))
   | exact ih0 _ _ _ _
   | exact ih1 _ _ _ _ _ _ _ _ _
   | exact ih2 _ _ _ _ _ _ _ _ _ _ _ _ _ _
   | exact ih3 _ _ _ _ _ _ _ _ _ _ _ _ _ _ _ _
   | exact impl_TensorOk.mono _ _ _
   | exact LeO.none _
   | refine LeO.ite ?_ ?_
   | refine LeO.bind ?_ (fun _ => ?_)
theorem impl_Route.mono : ∀ a0 a1 a2 k, LeO (impl_Route.f k a0 a1 a2) (impl_Route.f (k + 1) a0 a1 a2) := by
 intro a0 a1 a2 k
 obtain ⟨ih0, ih1, ih2, ih3⟩ := impl_Route.mono_l k
 unfold impl_Route.f
 repeat' first
   | (with_reducible exact ih0 _ _ _ _)
   | (with_reducible exact ih1 _ _ _ _ _ _ _ _ _)
   | (with_reducible exact ih2 _ _ _ _ _ _ _ _ _ _ _ _ _ _)
   | (with_reducible exact ih3 _ _ _ _ _ _ _ _ _ _ _ _ _ _ _ _)
   | (with_reducible exact impl_TensorOk.mono _ _ _)
   | (with_reducible exact LeO.refl _)
   | (with_reducible exact LeO.none _)
   | (with_reducible refine LeO.ite ?_ ?_)
   | (with_reducible refine LeO.bind ?_ (fun _ => ?_))
   | exact ih0 _ _ _ _
   | exact ih1 _ _ _ _ _ _ _ _ _
   | exact ih2 _ _ _ _ _ _ _ _ _ _ _ _ _ _
   | exact ih3 _ _ _ _ _ _ _ _ _ _ _ _ _ _ _ _
   | exact impl_TensorOk.mono _ _ _
   | exact LeO.none _
   | refine LeO.ite ?_ ?_
   | refine LeO.bind ?_ (fun _ => ?_)
set_option maxHeartbeats 8000000 in
set_option maxRecDepth 100000 in
theorem impl_Route.calls (k : Nat) (A0_0 : Option Addr) (c0_0 : Nat) (l0_0 : List Int) (A0_1 : Option Addr) (c0_1 : Nat) (l0_1 : List Int) (a1 : Int) (r1 : List Int) (r2 : List Int) (w : World) (hr0_0 : Kd.C (Kd.int .i64) w A0_0 l0_0.length l0_0) (hc0_0 : l0_0.length ≤ c0_0) (hr0_1 : Kd.C (Kd.int .i64) w A0_1 l0_1.length l0_1) (hc0_1 : l0_1.length ≤ c0_1) (h : impl_Route.f k l0_0 l0_1 a1 = some (r1, r2)) :
  Calls Try.prog 22 #[.agg #[.slice A0_0 l0_0.length c0_0, .slice A0_1 l0_1.length c0_1], .int .i64 a1] w fun e w' => ∃ v0_ v1_ : Value, e = .returned (.tuple #[v0_, v1_]) ∧ Kd.R (Kd.int .i64) 3 w' w.heap.size (fun k_ => some k_ ≠ (v1_ : Value).ownBlock) v0_ r1 ∧ Kd.R (Kd.int .i64) 3 w' w.heap.size (fun k_ => some k_ ≠ (v0_ : Value).ownBlock) v1_ r2 ∧ Below w.heap.size w w' := by
 have hu39 := Try.underlying39
 have HR0_0 := Ω5_5 hr0_0
 have HC0_0 := Ω5_5 hc0_0
 clear hr0_0 hc0_0
 have HR0_1 := Ω5_5 hr0_1
 have HC0_1 := Ω5_5 hc0_1
 clear hr0_1 hc0_1
 have HB := Ω5_5 (Below.refl w.heap.size w)
 have H : ((impl_TensorOk.f k l0_0 l0_1).bind fun t276 => (if t276 = true then (if (l0_0.length : Int) = 2 then ((impl_within.f a1 1 4096).bind fun t277 => (impl_Route.j0 k a1 (!t277) l0_0 l0_1)) else (impl_Route.j0 k a1 true l0_0 l0_1)) else (impl_Route.j0 k a1 true l0_0 l0_1))) = some (r1, r2) := h
 clear h
 have HC3 := Ω5_5 H
 clear H
 go_enter Try.func22, Try.ntmps22
 go_upto_region 1 with (first | ((with_reducible refine gate_dst (N := 2) rfl ?_); (try (refine gate_guard (by rfl) ?_; dsimp only)); refine box_event ?hg (N := 2) ?hd (cs := #[.slice A0_0 l0_0.length c0_0, .slice A0_1 l0_1.length c0_1]) (t := 39) ?hr ?_; (case hd => rfl); (case hg => rfl); (case hr => first | (go_simp; done) | (go_simp; rfl)); intro gb275 hg w4 hbox hb; have n0_ := Ω5_5 (below_step (by repeat (first | (with_reducible first | exact HB.out | apply Ω6_5 | apply Ω7_5 | apply Ω8_5) | exact HB.out)) hb); have n1_ := Ω5_5 (hbox); have n2_ := Ω5_5 ((by rw [hg]; exact (below_size (by repeat (first | (with_reducible first | exact HB.out | apply Ω6_5 | apply Ω7_5 | apply Ω8_5) | exact HB.out))) : w.heap.size ≤ gb275)); have n3_ := Ω5_5 ((by rw [hg]; exact (below_size (by repeat (first | (with_reducible first | exact HB.out | apply Ω6_5 | apply Ω7_5 | apply Ω8_5) | exact HB.out))) : w.heap.size ≤ gb275)); clear HB; have HB := n0_; have BK275 := n1_; have GW275 := n2_; have GE275 := n3_; clear n0_ n1_ n2_ n3_; clear hb hbox hg))
 repeat (go_quiet (first | ((with_reducible refine gate_dst (N := 2) rfl ?_); (try (refine gate_guard (by rfl) ?_; dsimp only)); refine box_event ?hg (N := 2) ?hd (cs := #[.slice A0_0 l0_0.length c0_0, .slice A0_1 l0_1.length c0_1]) (t := 39) ?hr ?_; (case hd => rfl); (case hg => rfl); (case hr => first | (go_simp; done) | (go_simp; rfl)); intro gb275 hg w4 hbox hb; have n0_ := Ω5_5 (below_step (by repeat (first | (with_reducible first | exact HB.out | apply Ω6_5 | apply Ω7_5 | apply Ω8_5) | exact HB.out)) hb); have n1_ := Ω5_5 (hbox); have n2_ := Ω5_5 ((by rw [hg]; exact (below_size (by repeat (first | (with_reducible first | exact HB.out | apply Ω6_5 | apply Ω7_5 | apply Ω8_5) | exact HB.out))) : w.heap.size ≤ gb275)); have n3_ := Ω5_5 ((by rw [hg]; exact (below_size (by repeat (first | (with_reducible first | exact HB.out | apply Ω6_5 | apply Ω7_5 | apply Ω8_5) | exact HB.out))) : w.heap.size ≤ gb275)); clear HB; have HB := n0_; have BK275 := n1_; have GW275 := n2_; have GE275 := n3_; clear n0_ n1_ n2_ n3_; clear hb hbox hg)); go_upto_region 1 with (first | ((with_reducible refine gate_dst (N := 2) rfl ?_); (try (refine gate_guard (by rfl) ?_; dsimp only)); refine box_event ?hg (N := 2) ?hd (cs := #[.slice A0_0 l0_0.length c0_0, .slice A0_1 l0_1.length c0_1]) (t := 39) ?hr ?_; (case hd => rfl); (case hg => rfl); (case hr => first | (go_simp; done) | (go_simp; rfl)); intro gb275 hg w4 hbox hb; have n0_ := Ω5_5 (below_step (by repeat (first | (with_reducible first | exact HB.out | apply Ω6_5 | apply Ω7_5 | apply Ω8_5) | exact HB.out)) hb); have n1_ := Ω5_5 (hbox); have n2_ := Ω5_5 ((by rw [hg]; exact (below_size (by repeat (first | (with_reducible first | exact HB.out | apply Ω6_5 | apply Ω7_5 | apply Ω8_5) | exact HB.out))) : w.heap.size ≤ gb275)); have n3_ := Ω5_5 ((by rw [hg]; exact (below_size (by repeat (first | (with_reducible first | exact HB.out | apply Ω6_5 | apply Ω7_5 | apply Ω8_5) | exact HB.out))) : w.heap.size ≤ gb275)); clear HB; have HB := n0_; have BK275 := n1_; have GW275 := n2_; have GE275 := n3_; clear n0_ n1_ n2_ n3_; clear hb hbox hg)))
 (try simp only [Act.put, List.setIfInBounds_toArray, List.set_cons_zero, List.set_cons_succ])
 go_cut [29] (fun v29 wc => ∃ (kq : Nat) (x29_2 : Bool), v29 = .bool x29_2 ∧ Aside0 (impl_Route.j0 kq a1 x29_2 l0_0 l0_1 = some (r1, r2)) ∧ Aside0 (kq ≤ k) ∧ Aside0 (wc.heap[gb275]? = some (.cells #[(.slice A0_0 l0_0.length c0_0), (.slice A0_1 l0_1.length c0_1)] 39 (0, 0))) ∧ Aside0 (Below w.heap.size w wc))
 case first =>
  have H := HC3.out
  clear HC3
  replace H := Option.bind_eq_some_iff.mp H
  obtain ⟨t276, A50, H⟩ := H
  try dsimp only at H
  have A5 := Ω5_5 A50
  clear A50
  by_cases c6 : t276 = true
  ·subst c6
   have H1 : (if (l0_0.length : Int) = 2 then ((impl_within.f a1 1 4096).bind fun t277 => (impl_Route.j0 k a1 (!t277) l0_0 l0_1)) else (impl_Route.j0 k a1 true l0_0 l0_1)) = some (r1, r2) := by rw [if_pos rfl] at H; exact H
   clear H
   have H := H1
   clear H1
   by_cases c7 : (l0_0.length : Int) = 2
   ·rw [if_pos c7] at H
    have c7b0 : ((l0_0.length : Int) == 2) = true := beq_iff_eq.mpr c7
    have c7b1 : ((l0_0.length : Int) != 2) = false := bne_eq_false_iff_eq.mpr c7
    clear c7
    (first | rw [c7b0] | (simp only [i64_w, i32_w]; rw [c7b0]) | skip)
    replace H := Option.bind_eq_some_iff.mp H
    obtain ⟨t277, A80, H⟩ := H
    try dsimp only at H
    have A8 := Ω5_5 A80
    clear A80
    have H' := Ω5_5 H
    clear H
    have hcz9_0 : w4.cell? ⟨gb275, 0, none⟩ = some (.slice A0_0 l0_0.length c0_0) := (blk_cell BK275.out 0).trans rfl
    have hcz9_1 : w4.cell? ⟨gb275, 1, none⟩ = some (.slice A0_1 l0_1.length c0_1) := (blk_cell BK275.out 1).trans rfl
    have hfz9_0 := blk_frozen BK275.out 0
    have hfz9_1 := blk_frozen BK275.out 1
    go_wp2_with (first | (go_at_call 56; (with_reducible refine (impl_TensorOk.calls k _ _ l0_0 _ _ l0_1 true _ ?side1 ?side2 ?side3 ?side4 A5.out).mono ?_); (case side1 => repeat (first | exact (Kd.C_below HR0_0.out HB.out) | (with_reducible refine Kd.C_alloc ?_ _) | (with_reducible refine Kd.C_drewN ?_ _) | (with_reducible refine Kd.C_drew ?_))); (case side2 => exact HC0_0.out); (case side3 => repeat (first | exact (Kd.C_below HR0_1.out HB.out) | (with_reducible refine Kd.C_alloc ?_ _) | (with_reducible refine Kd.C_drewN ?_ _) | (with_reducible refine Kd.C_drew ?_))); (case side4 => exact HC0_1.out); rintro e w10 ⟨rfl, hb⟩; have n0_ := Ω5_5 (blk_below (g := gb275) (o := .cells #[.slice A0_0 l0_0.length c0_0, .slice A0_1 l0_1.length c0_1] 39 (0, 0)) (by (with_reducible repeat (first | refine blk_drewN ?_ _ | refine blk_drew ?_ | refine blk_alloc ?_ _)); exact BK275.out) hb); have n1_ := Ω5_5 (below_step (by repeat (first | (with_reducible first | exact HB.out | apply Ω6_5 | apply Ω7_5 | apply Ω8_5 | refine Ω9_5 ?_ GE275.out) | exact HB.out)) hb); clear BK275; clear HB; have BK275 := n0_; have HB := n1_; clear n0_ n1_; (try clear hb); (try clear hb2); (try clear hk); (try clear hi); have hcz11_0 : w10.cell? ⟨gb275, 0, none⟩ = some (.slice A0_0 l0_0.length c0_0) := (blk_cell BK275.out 0).trans rfl; have hcz11_1 : w10.cell? ⟨gb275, 1, none⟩ = some (.slice A0_1 l0_1.length c0_1) := (blk_cell BK275.out 1).trans rfl; have hfz11_0 := blk_frozen BK275.out 0; have hfz11_1 := blk_frozen BK275.out 1) | (go_at_call 57; (with_reducible refine (impl_within.calls a1 1 4096 t277 _ A8.out).mono ?_); rintro e w' ⟨rfl, ⟨nd, rfl⟩⟩; (try first | exact ⟨rfl, _, World.drewN_drewN _ _ _⟩ | exact ⟨rfl, _, Eq.trans (World.drewN_drewN _ _ _) (congrArg (World.drewN _) (Nat.add_assoc _ _ _))⟩)))
    repeat (go_quiet (first | (go_at_call 56; (with_reducible refine (impl_TensorOk.calls k _ _ l0_0 _ _ l0_1 true _ ?side1 ?side2 ?side3 ?side4 A5.out).mono ?_); (case side1 => repeat (first | exact (Kd.C_below HR0_0.out HB.out) | (with_reducible refine Kd.C_alloc ?_ _) | (with_reducible refine Kd.C_drewN ?_ _) | (with_reducible refine Kd.C_drew ?_))); (case side2 => exact HC0_0.out); (case side3 => repeat (first | exact (Kd.C_below HR0_1.out HB.out) | (with_reducible refine Kd.C_alloc ?_ _) | (with_reducible refine Kd.C_drewN ?_ _) | (with_reducible refine Kd.C_drew ?_))); (case side4 => exact HC0_1.out); rintro e w10 ⟨rfl, hb⟩; have n0_ := Ω5_5 (blk_below (g := gb275) (o := .cells #[.slice A0_0 l0_0.length c0_0, .slice A0_1 l0_1.length c0_1] 39 (0, 0)) (by (with_reducible repeat (first | refine blk_drewN ?_ _ | refine blk_drew ?_ | refine blk_alloc ?_ _)); exact BK275.out) hb); have n1_ := Ω5_5 (below_step (by repeat (first | (with_reducible first | exact HB.out | apply Ω6_5 | apply Ω7_5 | apply Ω8_5 | refine Ω9_5 ?_ GE275.out) | exact HB.out)) hb); clear BK275; clear HB; have BK275 := n0_; have HB := n1_; clear n0_ n1_; (try clear hb); (try clear hb2); (try clear hk); (try clear hi); have hcz11_0 : w10.cell? ⟨gb275, 0, none⟩ = some (.slice A0_0 l0_0.length c0_0) := (blk_cell BK275.out 0).trans rfl; have hcz11_1 : w10.cell? ⟨gb275, 1, none⟩ = some (.slice A0_1 l0_1.length c0_1) := (blk_cell BK275.out 1).trans rfl; have hfz11_0 := blk_frozen BK275.out 0; have hfz11_1 := blk_frozen BK275.out 1) | (go_at_call 57; (with_reducible refine (impl_within.calls a1 1 4096 t277 _ A8.out).mono ?_); rintro e w' ⟨rfl, ⟨nd, rfl⟩⟩; (try first | exact ⟨rfl, _, World.drewN_drewN _ _ _⟩ | exact ⟨rfl, _, Eq.trans (World.drewN_drewN _ _ _) (congrArg (World.drewN _) (Nat.add_assoc _ _ _))⟩))); try go_wp2_with (first | (go_at_call 56; (with_reducible refine (impl_TensorOk.calls k _ _ l0_0 _ _ l0_1 true _ ?side1 ?side2 ?side3 ?side4 A5.out).mono ?_); (case side1 => repeat (first | exact (Kd.C_below HR0_0.out HB.out) | (with_reducible refine Kd.C_alloc ?_ _) | (with_reducible refine Kd.C_drewN ?_ _) | (with_reducible refine Kd.C_drew ?_))); (case side2 => exact HC0_0.out); (case side3 => repeat (first | exact (Kd.C_below HR0_1.out HB.out) | (with_reducible refine Kd.C_alloc ?_ _) | (with_reducible refine Kd.C_drewN ?_ _) | (with_reducible refine Kd.C_drew ?_))); (case side4 => exact HC0_1.out); rintro e w10 ⟨rfl, hb⟩; have n0_ := Ω5_5 (blk_below (g := gb275) (o := .cells #[.slice A0_0 l0_0.length c0_0, .slice A0_1 l0_1.length c0_1] 39 (0, 0)) (by (with_reducible repeat (first | refine blk_drewN ?_ _ | refine blk_drew ?_ | refine blk_alloc ?_ _)); exact BK275.out) hb); have n1_ := Ω5_5 (below_step (by repeat (first | (with_reducible first | exact HB.out | apply Ω6_5 | apply Ω7_5 | apply Ω8_5 | refine Ω9_5 ?_ GE275.out) | exact HB.out)) hb); clear BK275; clear HB; have BK275 := n0_; have HB := n1_; clear n0_ n1_; (try clear hb); (try clear hb2); (try clear hk); (try clear hi); have hcz11_0 : w10.cell? ⟨gb275, 0, none⟩ = some (.slice A0_0 l0_0.length c0_0) := (blk_cell BK275.out 0).trans rfl; have hcz11_1 : w10.cell? ⟨gb275, 1, none⟩ = some (.slice A0_1 l0_1.length c0_1) := (blk_cell BK275.out 1).trans rfl; have hfz11_0 := blk_frozen BK275.out 0; have hfz11_1 := blk_frozen BK275.out 1) | (go_at_call 57; (with_reducible refine (impl_within.calls a1 1 4096 t277 _ A8.out).mono ?_); rintro e w' ⟨rfl, ⟨nd, rfl⟩⟩; (try first | exact ⟨rfl, _, World.drewN_drewN _ _ _⟩ | exact ⟨rfl, _, Eq.trans (World.drewN_drewN _ _ _) (congrArg (World.drewN _) (Nat.add_assoc _ _ _))⟩))))
    go_meet
    case rel => exact ⟨_, (!t277), (by first | rfl | (simp; done) | (simp [*]; done)), H', ⟨by first | omega | exact Nat.le_refl _⟩, ⟨by (with_reducible repeat (first | refine blk_drewN ?_ _ | refine blk_drew ?_ | refine blk_alloc ?_ _)); exact BK275.out⟩, ⟨by repeat (first | (with_reducible first | exact HB.out | apply Ω6_5 | apply Ω7_5 | apply Ω8_5 | refine Ω9_5 ?_ GE275.out) | exact HB.out)⟩⟩
   ·rw [if_neg c7] at H
    have c7b0 : ((l0_0.length : Int) == 2) = false := beq_eq_false_iff_ne.mpr c7
    have c7b1 : ((l0_0.length : Int) != 2) = true := bne_iff_ne.mpr c7
    (first | rw [c7b0] | (simp only [i64_w, i32_w]; rw [c7b0]) | skip)
    have H' := Ω5_5 H
    clear H
    have hcz12_0 : w4.cell? ⟨gb275, 0, none⟩ = some (.slice A0_0 l0_0.length c0_0) := (blk_cell BK275.out 0).trans rfl
    have hcz12_1 : w4.cell? ⟨gb275, 1, none⟩ = some (.slice A0_1 l0_1.length c0_1) := (blk_cell BK275.out 1).trans rfl
    have hfz12_0 := blk_frozen BK275.out 0
    have hfz12_1 := blk_frozen BK275.out 1
    go_wp2_with (first | (go_at_call 56; (with_reducible refine (impl_TensorOk.calls k _ _ l0_0 _ _ l0_1 true _ ?side1 ?side2 ?side3 ?side4 A5.out).mono ?_); (case side1 => repeat (first | exact (Kd.C_below HR0_0.out HB.out) | (with_reducible refine Kd.C_alloc ?_ _) | (with_reducible refine Kd.C_drewN ?_ _) | (with_reducible refine Kd.C_drew ?_))); (case side2 => exact HC0_0.out); (case side3 => repeat (first | exact (Kd.C_below HR0_1.out HB.out) | (with_reducible refine Kd.C_alloc ?_ _) | (with_reducible refine Kd.C_drewN ?_ _) | (with_reducible refine Kd.C_drew ?_))); (case side4 => exact HC0_1.out); rintro e w13 ⟨rfl, hb⟩; have n0_ := Ω5_5 (blk_below (g := gb275) (o := .cells #[.slice A0_0 l0_0.length c0_0, .slice A0_1 l0_1.length c0_1] 39 (0, 0)) (by (with_reducible repeat (first | refine blk_drewN ?_ _ | refine blk_drew ?_ | refine blk_alloc ?_ _)); exact BK275.out) hb); have n1_ := Ω5_5 (below_step (by repeat (first | (with_reducible first | exact HB.out | apply Ω6_5 | apply Ω7_5 | apply Ω8_5 | refine Ω9_5 ?_ GE275.out) | exact HB.out)) hb); clear BK275; clear HB; have BK275 := n0_; have HB := n1_; clear n0_ n1_; (try clear hb); (try clear hb2); (try clear hk); (try clear hi); have hcz14_0 : w13.cell? ⟨gb275, 0, none⟩ = some (.slice A0_0 l0_0.length c0_0) := (blk_cell BK275.out 0).trans rfl; have hcz14_1 : w13.cell? ⟨gb275, 1, none⟩ = some (.slice A0_1 l0_1.length c0_1) := (blk_cell BK275.out 1).trans rfl; have hfz14_0 := blk_frozen BK275.out 0; have hfz14_1 := blk_frozen BK275.out 1))
    repeat (go_quiet (first | (go_at_call 56; (with_reducible refine (impl_TensorOk.calls k _ _ l0_0 _ _ l0_1 true _ ?side1 ?side2 ?side3 ?side4 A5.out).mono ?_); (case side1 => repeat (first | exact (Kd.C_below HR0_0.out HB.out) | (with_reducible refine Kd.C_alloc ?_ _) | (with_reducible refine Kd.C_drewN ?_ _) | (with_reducible refine Kd.C_drew ?_))); (case side2 => exact HC0_0.out); (case side3 => repeat (first | exact (Kd.C_below HR0_1.out HB.out) | (with_reducible refine Kd.C_alloc ?_ _) | (with_reducible refine Kd.C_drewN ?_ _) | (with_reducible refine Kd.C_drew ?_))); (case side4 => exact HC0_1.out); rintro e w13 ⟨rfl, hb⟩; have n0_ := Ω5_5 (blk_below (g := gb275) (o := .cells #[.slice A0_0 l0_0.length c0_0, .slice A0_1 l0_1.length c0_1] 39 (0, 0)) (by (with_reducible repeat (first | refine blk_drewN ?_ _ | refine blk_drew ?_ | refine blk_alloc ?_ _)); exact BK275.out) hb); have n1_ := Ω5_5 (below_step (by repeat (first | (with_reducible first | exact HB.out | apply Ω6_5 | apply Ω7_5 | apply Ω8_5 | refine Ω9_5 ?_ GE275.out) | exact HB.out)) hb); clear BK275; clear HB; have BK275 := n0_; have HB := n1_; clear n0_ n1_; (try clear hb); (try clear hb2); (try clear hk); (try clear hi); have hcz14_0 : w13.cell? ⟨gb275, 0, none⟩ = some (.slice A0_0 l0_0.length c0_0) := (blk_cell BK275.out 0).trans rfl; have hcz14_1 : w13.cell? ⟨gb275, 1, none⟩ = some (.slice A0_1 l0_1.length c0_1) := (blk_cell BK275.out 1).trans rfl; have hfz14_0 := blk_frozen BK275.out 0; have hfz14_1 := blk_frozen BK275.out 1)); try go_wp2_with (first | (go_at_call 56; (with_reducible refine (impl_TensorOk.calls k _ _ l0_0 _ _ l0_1 true _ ?side1 ?side2 ?side3 ?side4 A5.out).mono ?_); (case side1 => repeat (first | exact (Kd.C_below HR0_0.out HB.out) | (with_reducible refine Kd.C_alloc ?_ _) | (with_reducible refine Kd.C_drewN ?_ _) | (with_reducible refine Kd.C_drew ?_))); (case side2 => exact HC0_0.out); (case side3 => repeat (first | exact (Kd.C_below HR0_1.out HB.out) | (with_reducible refine Kd.C_alloc ?_ _) | (with_reducible refine Kd.C_drewN ?_ _) | (with_reducible refine Kd.C_drew ?_))); (case side4 => exact HC0_1.out); rintro e w13 ⟨rfl, hb⟩; have n0_ := Ω5_5 (blk_below (g := gb275) (o := .cells #[.slice A0_0 l0_0.length c0_0, .slice A0_1 l0_1.length c0_1] 39 (0, 0)) (by (with_reducible repeat (first | refine blk_drewN ?_ _ | refine blk_drew ?_ | refine blk_alloc ?_ _)); exact BK275.out) hb); have n1_ := Ω5_5 (below_step (by repeat (first | (with_reducible first | exact HB.out | apply Ω6_5 | apply Ω7_5 | apply Ω8_5 | refine Ω9_5 ?_ GE275.out) | exact HB.out)) hb); clear BK275; clear HB; have BK275 := n0_; have HB := n1_; clear n0_ n1_; (try clear hb); (try clear hb2); (try clear hk); (try clear hi); have hcz14_0 : w13.cell? ⟨gb275, 0, none⟩ = some (.slice A0_0 l0_0.length c0_0) := (blk_cell BK275.out 0).trans rfl; have hcz14_1 : w13.cell? ⟨gb275, 1, none⟩ = some (.slice A0_1 l0_1.length c0_1) := (blk_cell BK275.out 1).trans rfl; have hfz14_0 := blk_frozen BK275.out 0; have hfz14_1 := blk_frozen BK275.out 1)))
    go_meet
    case rel => exact ⟨_, (true), (by first | rfl | (simp; done) | (simp [*]; done)), H', ⟨by first | omega | exact Nat.le_refl _⟩, ⟨by (with_reducible repeat (first | refine blk_drewN ?_ _ | refine blk_drew ?_ | refine blk_alloc ?_ _)); exact BK275.out⟩, ⟨by repeat (first | (with_reducible first | exact HB.out | apply Ω6_5 | apply Ω7_5 | apply Ω8_5 | refine Ω9_5 ?_ GE275.out) | exact HB.out)⟩⟩
  ·replace c6 := Bool.eq_false_iff.mpr c6
   subst c6
   have H1 : (impl_Route.j0 k a1 true l0_0 l0_1) = some (r1, r2) := by rw [if_neg (show ¬ (false = true) by decide)] at H; exact H
   clear H
   have H := H1
   clear H1
   have H' := Ω5_5 H
   clear H
   have hcz15_0 : w4.cell? ⟨gb275, 0, none⟩ = some (.slice A0_0 l0_0.length c0_0) := (blk_cell BK275.out 0).trans rfl
   have hcz15_1 : w4.cell? ⟨gb275, 1, none⟩ = some (.slice A0_1 l0_1.length c0_1) := (blk_cell BK275.out 1).trans rfl
   have hfz15_0 := blk_frozen BK275.out 0
   have hfz15_1 := blk_frozen BK275.out 1
   go_wp2_with (first | (go_at_call 56; (with_reducible refine (impl_TensorOk.calls k _ _ l0_0 _ _ l0_1 false _ ?side1 ?side2 ?side3 ?side4 A5.out).mono ?_); (case side1 => repeat (first | exact (Kd.C_below HR0_0.out HB.out) | (with_reducible refine Kd.C_alloc ?_ _) | (with_reducible refine Kd.C_drewN ?_ _) | (with_reducible refine Kd.C_drew ?_))); (case side2 => exact HC0_0.out); (case side3 => repeat (first | exact (Kd.C_below HR0_1.out HB.out) | (with_reducible refine Kd.C_alloc ?_ _) | (with_reducible refine Kd.C_drewN ?_ _) | (with_reducible refine Kd.C_drew ?_))); (case side4 => exact HC0_1.out); rintro e w16 ⟨rfl, hb⟩; have n0_ := Ω5_5 (blk_below (g := gb275) (o := .cells #[.slice A0_0 l0_0.length c0_0, .slice A0_1 l0_1.length c0_1] 39 (0, 0)) (by (with_reducible repeat (first | refine blk_drewN ?_ _ | refine blk_drew ?_ | refine blk_alloc ?_ _)); exact BK275.out) hb); have n1_ := Ω5_5 (below_step (by repeat (first | (with_reducible first | exact HB.out | apply Ω6_5 | apply Ω7_5 | apply Ω8_5 | refine Ω9_5 ?_ GE275.out) | exact HB.out)) hb); clear BK275; clear HB; have BK275 := n0_; have HB := n1_; clear n0_ n1_; (try clear hb); (try clear hb2); (try clear hk); (try clear hi)))
   repeat (go_quiet (first | (go_at_call 56; (with_reducible refine (impl_TensorOk.calls k _ _ l0_0 _ _ l0_1 false _ ?side1 ?side2 ?side3 ?side4 A5.out).mono ?_); (case side1 => repeat (first | exact (Kd.C_below HR0_0.out HB.out) | (with_reducible refine Kd.C_alloc ?_ _) | (with_reducible refine Kd.C_drewN ?_ _) | (with_reducible refine Kd.C_drew ?_))); (case side2 => exact HC0_0.out); (case side3 => repeat (first | exact (Kd.C_below HR0_1.out HB.out) | (with_reducible refine Kd.C_alloc ?_ _) | (with_reducible refine Kd.C_drewN ?_ _) | (with_reducible refine Kd.C_drew ?_))); (case side4 => exact HC0_1.out); rintro e w16 ⟨rfl, hb⟩; have n0_ := Ω5_5 (blk_below (g := gb275) (o := .cells #[.slice A0_0 l0_0.length c0_0, .slice A0_1 l0_1.length c0_1] 39 (0, 0)) (by (with_reducible repeat (first | refine blk_drewN ?_ _ | refine blk_drew ?_ | refine blk_alloc ?_ _)); exact BK275.out) hb); have n1_ := Ω5_5 (below_step (by repeat (first | (with_reducible first | exact HB.out | apply Ω6_5 | apply Ω7_5 | apply Ω8_5 | refine Ω9_5 ?_ GE275.out) | exact HB.out)) hb); clear BK275; clear HB; have BK275 := n0_; have HB := n1_; clear n0_ n1_; (try clear hb); (try clear hb2); (try clear hk); (try clear hi))); try go_wp2_with (first | (go_at_call 56; (with_reducible refine (impl_TensorOk.calls k _ _ l0_0 _ _ l0_1 false _ ?side1 ?side2 ?side3 ?side4 A5.out).mono ?_); (case side1 => repeat (first | exact (Kd.C_below HR0_0.out HB.out) | (with_reducible refine Kd.C_alloc ?_ _) | (with_reducible refine Kd.C_drewN ?_ _) | (with_reducible refine Kd.C_drew ?_))); (case side2 => exact HC0_0.out); (case side3 => repeat (first | exact (Kd.C_below HR0_1.out HB.out) | (with_reducible refine Kd.C_alloc ?_ _) | (with_reducible refine Kd.C_drewN ?_ _) | (with_reducible refine Kd.C_drew ?_))); (case side4 => exact HC0_1.out); rintro e w16 ⟨rfl, hb⟩; have n0_ := Ω5_5 (blk_below (g := gb275) (o := .cells #[.slice A0_0 l0_0.length c0_0, .slice A0_1 l0_1.length c0_1] 39 (0, 0)) (by (with_reducible repeat (first | refine blk_drewN ?_ _ | refine blk_drew ?_ | refine blk_alloc ?_ _)); exact BK275.out) hb); have n1_ := Ω5_5 (below_step (by repeat (first | (with_reducible first | exact HB.out | apply Ω6_5 | apply Ω7_5 | apply Ω8_5 | refine Ω9_5 ?_ GE275.out) | exact HB.out)) hb); clear BK275; clear HB; have BK275 := n0_; have HB := n1_; clear n0_ n1_; (try clear hb); (try clear hb2); (try clear hk); (try clear hi))))
   go_meet
   case rel => exact ⟨_, (true), (by first | rfl | (simp; done) | (simp [*]; done)), H', ⟨by first | omega | exact Nat.le_refl _⟩, ⟨by (with_reducible repeat (first | refine blk_drewN ?_ _ | refine blk_drew ?_ | refine blk_alloc ?_ _)); exact BK275.out⟩, ⟨by repeat (first | (with_reducible first | exact HB.out | apply Ω6_5 | apply Ω7_5 | apply Ω8_5 | refine Ω9_5 ?_ GE275.out) | exact HB.out)⟩⟩
 case rest =>
  clear HC3
  try clear c2
  try clear p2
  try clear c6
  try clear c7
  try clear c7b0
  try clear c7b1
  try clear hcz11_0
  try clear hcz11_1
  try clear hcz12_0
  try clear hcz12_1
  try clear hcz14_0
  try clear hcz14_1
  try clear hcz15_0
  try clear hcz15_1
  try clear hcz9_0
  try clear hcz9_1
  try clear hfz11_0
  try clear hfz11_1
  try clear hfz12_0
  try clear hfz12_1
  try clear hfz14_0
  try clear hfz14_1
  try clear hfz15_0
  try clear hfz15_1
  try clear hfz9_0
  try clear hfz9_1
  obtain ⟨kq, x29_2, rfl, HA, HJ2, BK275, HB⟩ := hcut
  cases kq with
  | zero => exact absurd HA.out (by simp [impl_Route.j0])
  | succ kj2 =>
   have H := HA.out
   clear HA
   simp only [impl_Route.j0] at H
   by_cases c17 : x29_2 = true
   ·subst c17
    have H1 : (some (([] : List Int), ([] : List Int))) = some (r1, r2) := by rw [if_pos rfl] at H; exact H
    clear H
    have H := H1
    clear H1
    simp only [Option.some.injEq, Prod.mk.injEq] at H
    obtain ⟨rfl, rfl⟩ := H
    go_wp2
    repeat (go_quiet (fail); try go_wp2)
    go_ret2
    exact ⟨_, _, by first | rfl | (simp [errW_none, errW_some] <;> rfl) | (simp [*, errW_none, errW_some] <;> rfl), by first | exact Kd.R_nil _ _ _ _ _ | exact Kd.N_nil _ _ _ _ _ | exact Kd.V_nil _ _ _ _ _ | exact Kd.Q_nil _ _ _ _ _ | exact Kd.S_nil _ _ _ _ _, by first | exact Kd.R_nil _ _ _ _ _ | exact Kd.N_nil _ _ _ _ _ | exact Kd.V_nil _ _ _ _ _ | exact Kd.Q_nil _ _ _ _ _ | exact Kd.S_nil _ _ _ _ _, by repeat (first | (with_reducible first | exact HB.out | apply Ω6_5 | apply Ω7_5 | apply Ω8_5 | refine Ω9_5 ?_ GE275.out) | exact HB.out)⟩
   ·replace c17 := Bool.eq_false_iff.mpr c17
    subst c17
    have H1 : (if 1 < (l0_0.length : Int) then (if 0 ≤ (rd l0_0 1) then (if (rd l0_0 1 : Int).toNat ≤ 35184372088832 then (if 0 < (l0_0.length : Int) then (impl_Route.l0 kj2 a1 (([] : List Int)) (([] : List Int)) (rd l0_0 1) (List.replicate (rd l0_0 1 : Int).toNat 0) (rd l0_0 0) 0 l0_0 l0_1) else (none)) else (none)) else (none)) else (none)) = some (r1, r2) := by rw [if_neg (show ¬ (false = true) by decide)] at H; exact H
    clear H
    have H := H1
    clear H1
    obtain ⟨y278, hy278⟩ : ∃ y_ : List Int, y_ = (([] : List Int)) := ⟨_, rfl⟩
    replace H : (if 1 < (l0_0.length : Int) then (if 0 ≤ (rd l0_0 1) then (if (rd l0_0 1 : Int).toNat ≤ 35184372088832 then (if 0 < (l0_0.length : Int) then (impl_Route.l0 kj2 a1 y278 (([] : List Int)) (rd l0_0 1) (List.replicate (rd l0_0 1 : Int).toNat 0) (rd l0_0 0) 0 l0_0 l0_1) else (none)) else (none)) else (none)) else (none)) = some (r1, r2) := by first | (rw [hy278]; with_reducible exact H) | (have H2_ := (Option.bind_some _ _).symm.trans H; rw [hy278]; with_reducible exact H2_) | (have H2_ := (Option.bind_some _ _).symm.trans H; with_reducible exact H2_) | with_reducible exact H | (rw [hy278]; exact H) | exact H
    have Ny278 := Ω5_5 hy278
    clear hy278
    obtain ⟨y281, hy281⟩ : ∃ y_ : List Int, y_ = (([] : List Int)) := ⟨_, rfl⟩
    replace H : (if 1 < (l0_0.length : Int) then (if 0 ≤ (rd l0_0 1) then (if (rd l0_0 1 : Int).toNat ≤ 35184372088832 then (if 0 < (l0_0.length : Int) then (impl_Route.l0 kj2 a1 y278 y281 (rd l0_0 1) (List.replicate (rd l0_0 1 : Int).toNat 0) (rd l0_0 0) 0 l0_0 l0_1) else (none)) else (none)) else (none)) else (none)) = some (r1, r2) := by first | (rw [hy281]; with_reducible exact H) | (have H2_ := (Option.bind_some _ _).symm.trans H; rw [hy281]; with_reducible exact H2_) | (have H2_ := (Option.bind_some _ _).symm.trans H; with_reducible exact H2_) | with_reducible exact H | (rw [hy281]; exact H) | exact H
    have Ny281 := Ω5_5 hy281
    clear hy281
    by_cases c18 : 1 < (l0_0.length : Int)
    ·rw [if_pos c18] at H
     have c18b0 : decide (1 < (l0_0.length : Int)) = true := decide_eq_true c18
     have c18b1 : decide (1 < l0_0.length) = true := decide_eq_true (by omega)
     clear c18
     by_cases c19 : 0 ≤ (rd l0_0 1)
     ·rw [if_pos c19] at H
      have c19b0 := eq_true c19
      have c19b1 : decide (0 ≤ (rd l0_0 1)) = true := decide_eq_true c19
      clear c19
      by_cases c20 : (rd l0_0 1 : Int).toNat ≤ 35184372088832
      ·rw [if_pos c20] at H
       have c20b0 := eq_true c20
       have c20b1 : decide ((rd l0_0 1 : Int).toNat ≤ 35184372088832) = true := decide_eq_true c20
       clear c20
       obtain ⟨y285, hy285⟩ : ∃ y_ : List Int, y_ = (List.replicate (rd l0_0 1 : Int).toNat 0) := ⟨_, rfl⟩
       replace H : (if 0 < (l0_0.length : Int) then (impl_Route.l0 kj2 a1 y278 y281 (rd l0_0 1) y285 (rd l0_0 0) 0 l0_0 l0_1) else (none)) = some (r1, r2) := by first | (rw [hy285]; with_reducible exact H) | (have H2_ := (Option.bind_some _ _).symm.trans H; rw [hy285]; with_reducible exact H2_) | (have H2_ := (Option.bind_some _ _).symm.trans H; with_reducible exact H2_) | with_reducible exact H | (rw [hy285]; exact H) | exact H
       have Ny285 := Ω5_5 hy285
       clear hy285
       by_cases c21 : 0 < (l0_0.length : Int)
       ·rw [if_pos c21] at H
        have c21b0 : decide (0 < (l0_0.length : Int)) = true := decide_eq_true c21
        have c21b1 : decide (0 < l0_0.length) = true := decide_eq_true (by omega)
        clear c21
        have H' := Ω5_5 H
        clear H
        go_wp2_with (first | ((with_reducible refine gate_dst (N := 30) rfl ?_); (try (refine gate_guard (by rfl) ?_; dsimp only)); refine Kd.R_lit (Kd.int .i64) _ 3 ?hg (N := 30) ?hd (xs := ([] : List Int)) (inner := []) (ok := fun _ => True) (okp := fun _ => True) ?hr ?hp (fun _ hk => hk) trivial (Below.refl _ _) (Nat.le_refl _) (by simp) ?_; (case hd => rfl); (case hg => rfl); (case hr => first | (go_simp; done) | (go_simp; rfl)); (case hp => exact (Reps.none _ _)); intro v279 w22 ho23 hb hg_ hnew_; clear hg_ hnew_; (first | rw [← Ny278.out] at ho23 | (simp only [Int.reduceToNat] at ho23; rw [← Ny278.out] at ho23)); have n0_ := Ω5_5 (Kd.R_lower ho23 (below_size (by repeat (first | (with_reducible first | exact HB.out | apply Ω6_5 | apply Ω7_5 | apply Ω8_5 | refine Ω9_5 ?_ GE275.out) | exact HB.out)))); have n1_ := Ω5_5 (blk_below (g := gb275) (o := .cells #[.slice A0_0 l0_0.length c0_0, .slice A0_1 l0_1.length c0_1] 39 (0, 0)) (by (with_reducible repeat (first | refine blk_drewN ?_ _ | refine blk_drew ?_ | refine blk_alloc ?_ _)); exact BK275.out) hb); have n2_ := Ω5_5 (below_step (by repeat (first | (with_reducible first | exact HB.out | apply Ω6_5 | apply Ω7_5 | apply Ω8_5 | refine Ω9_5 ?_ GE275.out) | exact HB.out)) hb); clear BK275; clear HB; have HO280 := n0_; have BK275 := n1_; have HB := n2_; clear n0_ n1_ n2_; clear hb ho23) | ((with_reducible refine gate_dst (N := 31) rfl ?_); (try (refine gate_guard (by rfl) ?_; dsimp only)); refine Kd.R_lit (Kd.int .i64) _ 3 ?hg (N := 31) ?hd (xs := ([] : List Int)) (inner := []) (ok := fun _ => True) (okp := fun _ => True) ?hr ?hp (fun _ hk => hk) trivial (Below.refl _ _) (Nat.le_refl _) (by simp) ?_; (case hd => rfl); (case hg => rfl); (case hr => first | (go_simp; done) | (go_simp; rfl)); (case hp => exact (Reps.none _ _)); intro v282 w24 ho25 hb hg_ hnew_; clear hg_ hnew_; (first | rw [← Ny281.out] at ho25 | (simp only [Int.reduceToNat] at ho25; rw [← Ny281.out] at ho25)); have n0_ := Ω5_5 (Kd.R_elder' (by (with_reducible repeat (first | apply Ω1_5 | apply Ω2_5 | apply Ω3_5)); exact HO280.out) (Kd.R_base ho25) hb); have n1_ := Ω5_5 (Kd.R_lower (Kd.R_new' ho25 (Kd.R_lt (by (with_reducible repeat (first | apply Ω1_5 | apply Ω2_5 | apply Ω3_5)); exact HO280.out))) (below_size (by repeat (first | (with_reducible first | exact HB.out | apply Ω6_5 | apply Ω7_5 | apply Ω8_5 | refine Ω9_5 ?_ GE275.out) | exact HB.out)))); have n2_ := Ω5_5 (blk_below (g := gb275) (o := .cells #[.slice A0_0 l0_0.length c0_0, .slice A0_1 l0_1.length c0_1] 39 (0, 0)) (by (with_reducible repeat (first | refine blk_drewN ?_ _ | refine blk_drew ?_ | refine blk_alloc ?_ _)); exact BK275.out) hb); have n3_ := Ω5_5 (below_step (by repeat (first | (with_reducible first | exact HB.out | apply Ω6_5 | apply Ω7_5 | apply Ω8_5 | refine Ω9_5 ?_ GE275.out) | exact HB.out)) hb); clear HO280; clear BK275; clear HB; have HO280 := n0_; have HO283 := n1_; have BK275 := n2_; have HB := n3_; clear n0_ n1_ n2_ n3_; clear hb ho25; have hcz26_0 : w24.cell? ⟨gb275, 0, none⟩ = some (.slice A0_0 l0_0.length c0_0) := (blk_cell BK275.out 0).trans rfl; have hcz26_1 : w24.cell? ⟨gb275, 1, none⟩ = some (.slice A0_1 l0_1.length c0_1) := (blk_cell BK275.out 1).trans rfl; have hfz26_0 := blk_frozen BK275.out 0; have hfz26_1 := blk_frozen BK275.out 1; have p284 : 0 ≤ (1 : Int) := (by omega); have q284 : 1 < (l0_0.length : Int) := ΩS_5 (by first | (with_reducible assumption) | assumption); obtain ⟨ad284, e284, hx284_0⟩ := Kd.at_int HR0_0.out 1 p284 q284; cases e284; (try simp only [show (1 : Int).toNat = 1 from rfl, Nat.reduceMul, Nat.reduceEqDiff, Go.Addr.add, ↓reduceIte] at hx284_0); have qi284 : (1 < l0_0.length) = True := eq_true (by omega); (try rw [show ((1 : Int)).toNat = 1 from rfl] at hx284_0); replace hx284_0 := (HB.out.cell (World.block_lt_of_cell? w _ hx284_0)).trans hx284_0; replace p284 := eq_true p284; replace q284 := eq_true q284) | ((with_reducible refine gate_dst (N := 37) rfl ?_); (try (refine gate_guard (by rfl) ?_; dsimp only)); refine Kd.R_make (Kd.int .i64) _ 3 rfl (N := 37) rfl 22 _ _ rfl (rd l0_0 1) rfl rfl Try.underlying22 (.int .i64 0) 8 info3 rfl (by decide) (by omega) 0 (ok := fun _ => True) (okp := fun _ => True) rfl (fun _ hk => hk) trivial (ΩS_5 (by first | (with_reducible assumption) | assumption)) (Nat.le_trans (Nat.mul_le_mul_right _ (ΩS_5 (by first | (with_reducible assumption) | assumption) : (rd l0_0 1).toNat ≤ 35184372088832)) (by omega)) (Below.refl _ _) (Nat.le_refl _) ?_; intro v286 w27 ho28 hb hg_ hnew_; clear hg_ hnew_; (first | rw [← Ny285.out] at ho28 | (simp only [Int.reduceToNat] at ho28; rw [← Ny285.out] at ho28)); have n0_ := Ω5_5 (Kd.R_elder' (by (with_reducible repeat (first | apply Ω1_5 | apply Ω2_5 | apply Ω3_5)); exact HO280.out) (Kd.R_base ho28) hb); have n1_ := Ω5_5 (Kd.R_elder' (by (with_reducible repeat (first | apply Ω1_5 | apply Ω2_5 | apply Ω3_5)); exact HO283.out) (Kd.R_base ho28) hb); have n2_ := Ω5_5 (Kd.R_lower (Kd.R_new' (Kd.R_new' ho28 (Kd.R_lt (by (with_reducible repeat (first | apply Ω1_5 | apply Ω2_5 | apply Ω3_5)); exact HO280.out))) (Kd.R_lt (by (with_reducible repeat (first | apply Ω1_5 | apply Ω2_5 | apply Ω3_5)); exact HO283.out))) (below_size (by repeat (first | (with_reducible first | exact HB.out | apply Ω6_5 | apply Ω7_5 | apply Ω8_5 | refine Ω9_5 ?_ GE275.out) | exact HB.out)))); have n3_ := Ω5_5 (blk_below (g := gb275) (o := .cells #[.slice (some ad284) l0_0.length c0_0, .slice A0_1 l0_1.length c0_1] 39 (0, 0)) (by (with_reducible repeat (first | refine blk_drewN ?_ _ | refine blk_drew ?_ | refine blk_alloc ?_ _)); exact BK275.out) hb); have n4_ := Ω5_5 (below_step (by repeat (first | (with_reducible first | exact HB.out | apply Ω6_5 | apply Ω7_5 | apply Ω8_5 | refine Ω9_5 ?_ GE275.out) | exact HB.out)) hb); clear HO280; clear HO283; clear BK275; clear HB; have HO280 := n0_; have HO283 := n1_; have HO287 := n2_; have BK275 := n3_; have HB := n4_; clear n0_ n1_ n2_ n3_ n4_; clear hb ho28; have hcz29_0 : w27.cell? ⟨gb275, 0, none⟩ = some (.slice (some ad284) l0_0.length c0_0) := (blk_cell BK275.out 0).trans rfl; have hcz29_1 : w27.cell? ⟨gb275, 1, none⟩ = some (.slice A0_1 l0_1.length c0_1) := (blk_cell BK275.out 1).trans rfl; have hfz29_0 := blk_frozen BK275.out 0; have hfz29_1 := blk_frozen BK275.out 1; have p288 : 0 ≤ (0 : Int) := (by omega); have q288 : 0 < (l0_0.length : Int) := ΩS_5 (by first | (with_reducible assumption) | assumption); obtain ⟨ad288, e288, hx288_0⟩ := Kd.at_int HR0_0.out 0 p288 q288; obtain rfl : ad284 = ad288 := (by injection e288); have qi288 : (0 < l0_0.length) = True := eq_true (by omega); (try rw [show ((0 : Int)).toNat = 0 from rfl] at hx288_0); (try rw [Addr.add_zero'] at hx288_0); replace hx288_0 := (HB.out.cell (World.block_lt_of_cell? w _ hx288_0)).trans hx288_0; replace p288 := eq_true p288; replace q288 := eq_true q288))
        repeat (go_quiet (first | ((with_reducible refine gate_dst (N := 30) rfl ?_); (try (refine gate_guard (by rfl) ?_; dsimp only)); refine Kd.R_lit (Kd.int .i64) _ 3 ?hg (N := 30) ?hd (xs := ([] : List Int)) (inner := []) (ok := fun _ => True) (okp := fun _ => True) ?hr ?hp (fun _ hk => hk) trivial (Below.refl _ _) (Nat.le_refl _) (by simp) ?_; (case hd => rfl); (case hg => rfl); (case hr => first | (go_simp; done) | (go_simp; rfl)); (case hp => exact (Reps.none _ _)); intro v279 w22 ho23 hb hg_ hnew_; clear hg_ hnew_; (first | rw [← Ny278.out] at ho23 | (simp only [Int.reduceToNat] at ho23; rw [← Ny278.out] at ho23)); have n0_ := Ω5_5 (Kd.R_lower ho23 (below_size (by repeat (first | (with_reducible first | exact HB.out | apply Ω6_5 | apply Ω7_5 | apply Ω8_5 | refine Ω9_5 ?_ GE275.out) | exact HB.out)))); have n1_ := Ω5_5 (blk_below (g := gb275) (o := .cells #[.slice A0_0 l0_0.length c0_0, .slice A0_1 l0_1.length c0_1] 39 (0, 0)) (by (with_reducible repeat (first | refine blk_drewN ?_ _ | refine blk_drew ?_ | refine blk_alloc ?_ _)); exact BK275.out) hb); have n2_ := Ω5_5 (below_step (by repeat (first | (with_reducible first | exact HB.out | apply Ω6_5 | apply Ω7_5 | apply Ω8_5 | refine Ω9_5 ?_ GE275.out) | exact HB.out)) hb); clear BK275; clear HB; have HO280 := n0_; have BK275 := n1_; have HB := n2_; clear n0_ n1_ n2_; clear hb ho23) | ((with_reducible refine gate_dst (N := 31) rfl ?_); (try (refine gate_guard (by rfl) ?_; dsimp only)); refine Kd.R_lit (Kd.int .i64) _ 3 ?hg (N := 31) ?hd (xs := ([] : List Int)) (inner := []) (ok := fun _ => True) (okp := fun _ => True) ?hr ?hp (fun _ hk => hk) trivial (Below.refl _ _) (Nat.le_refl _) (by simp) ?_; (case hd => rfl); (case hg => rfl); (case hr => first | (go_simp; done) | (go_simp; rfl)); (case hp => exact (Reps.none _ _)); intro v282 w24 ho25 hb hg_ hnew_; clear hg_ hnew_; (first | rw [← Ny281.out] at ho25 | (simp only [Int.reduceToNat] at ho25; rw [← Ny281.out] at ho25)); have n0_ := Ω5_5 (Kd.R_elder' (by (with_reducible repeat (first | apply Ω1_5 | apply Ω2_5 | apply Ω3_5)); exact HO280.out) (Kd.R_base ho25) hb); have n1_ := Ω5_5 (Kd.R_lower (Kd.R_new' ho25 (Kd.R_lt (by (with_reducible repeat (first | apply Ω1_5 | apply Ω2_5 | apply Ω3_5)); exact HO280.out))) (below_size (by repeat (first | (with_reducible first | exact HB.out | apply Ω6_5 | apply Ω7_5 | apply Ω8_5 | refine Ω9_5 ?_ GE275.out) | exact HB.out)))); have n2_ := Ω5_5 (blk_below (g := gb275) (o := .cells #[.slice A0_0 l0_0.length c0_0, .slice A0_1 l0_1.length c0_1] 39 (0, 0)) (by (with_reducible repeat (first | refine blk_drewN ?_ _ | refine blk_drew ?_ | refine blk_alloc ?_ _)); exact BK275.out) hb); have n3_ := Ω5_5 (below_step (by repeat (first | (with_reducible first | exact HB.out | apply Ω6_5 | apply Ω7_5 | apply Ω8_5 | refine Ω9_5 ?_ GE275.out) | exact HB.out)) hb); clear HO280; clear BK275; clear HB; have HO280 := n0_; have HO283 := n1_; have BK275 := n2_; have HB := n3_; clear n0_ n1_ n2_ n3_; clear hb ho25; have hcz26_0 : w24.cell? ⟨gb275, 0, none⟩ = some (.slice A0_0 l0_0.length c0_0) := (blk_cell BK275.out 0).trans rfl; have hcz26_1 : w24.cell? ⟨gb275, 1, none⟩ = some (.slice A0_1 l0_1.length c0_1) := (blk_cell BK275.out 1).trans rfl; have hfz26_0 := blk_frozen BK275.out 0; have hfz26_1 := blk_frozen BK275.out 1; have p284 : 0 ≤ (1 : Int) := (by omega); have q284 : 1 < (l0_0.length : Int) := ΩS_5 (by first | (with_reducible assumption) | assumption); obtain ⟨ad284, e284, hx284_0⟩ := Kd.at_int HR0_0.out 1 p284 q284; cases e284; (try simp only [show (1 : Int).toNat = 1 from rfl, Nat.reduceMul, Nat.reduceEqDiff, Go.Addr.add, ↓reduceIte] at hx284_0); have qi284 : (1 < l0_0.length) = True := eq_true (by omega); (try rw [show ((1 : Int)).toNat = 1 from rfl] at hx284_0); replace hx284_0 := (HB.out.cell (World.block_lt_of_cell? w _ hx284_0)).trans hx284_0; replace p284 := eq_true p284; replace q284 := eq_true q284) | ((with_reducible refine gate_dst (N := 37) rfl ?_); (try (refine gate_guard (by rfl) ?_; dsimp only)); refine Kd.R_make (Kd.int .i64) _ 3 rfl (N := 37) rfl 22 _ _ rfl (rd l0_0 1) rfl rfl Try.underlying22 (.int .i64 0) 8 info3 rfl (by decide) (by omega) 0 (ok := fun _ => True) (okp := fun _ => True) rfl (fun _ hk => hk) trivial (ΩS_5 (by first | (with_reducible assumption) | assumption)) (Nat.le_trans (Nat.mul_le_mul_right _ (ΩS_5 (by first | (with_reducible assumption) | assumption) : (rd l0_0 1).toNat ≤ 35184372088832)) (by omega)) (Below.refl _ _) (Nat.le_refl _) ?_; intro v286 w27 ho28 hb hg_ hnew_; clear hg_ hnew_; (first | rw [← Ny285.out] at ho28 | (simp only [Int.reduceToNat] at ho28; rw [← Ny285.out] at ho28)); have n0_ := Ω5_5 (Kd.R_elder' (by (with_reducible repeat (first | apply Ω1_5 | apply Ω2_5 | apply Ω3_5)); exact HO280.out) (Kd.R_base ho28) hb); have n1_ := Ω5_5 (Kd.R_elder' (by (with_reducible repeat (first | apply Ω1_5 | apply Ω2_5 | apply Ω3_5)); exact HO283.out) (Kd.R_base ho28) hb); have n2_ := Ω5_5 (Kd.R_lower (Kd.R_new' (Kd.R_new' ho28 (Kd.R_lt (by (with_reducible repeat (first | apply Ω1_5 | apply Ω2_5 | apply Ω3_5)); exact HO280.out))) (Kd.R_lt (by (with_reducible repeat (first | apply Ω1_5 | apply Ω2_5 | apply Ω3_5)); exact HO283.out))) (below_size (by repeat (first | (with_reducible first | exact HB.out | apply Ω6_5 | apply Ω7_5 | apply Ω8_5 | refine Ω9_5 ?_ GE275.out) | exact HB.out)))); have n3_ := Ω5_5 (blk_below (g := gb275) (o := .cells #[.slice (some ad284) l0_0.length c0_0, .slice A0_1 l0_1.length c0_1] 39 (0, 0)) (by (with_reducible repeat (first | refine blk_drewN ?_ _ | refine blk_drew ?_ | refine blk_alloc ?_ _)); exact BK275.out) hb); have n4_ := Ω5_5 (below_step (by repeat (first | (with_reducible first | exact HB.out | apply Ω6_5 | apply Ω7_5 | apply Ω8_5 | refine Ω9_5 ?_ GE275.out) | exact HB.out)) hb); clear HO280; clear HO283; clear BK275; clear HB; have HO280 := n0_; have HO283 := n1_; have HO287 := n2_; have BK275 := n3_; have HB := n4_; clear n0_ n1_ n2_ n3_ n4_; clear hb ho28; have hcz29_0 : w27.cell? ⟨gb275, 0, none⟩ = some (.slice (some ad284) l0_0.length c0_0) := (blk_cell BK275.out 0).trans rfl; have hcz29_1 : w27.cell? ⟨gb275, 1, none⟩ = some (.slice A0_1 l0_1.length c0_1) := (blk_cell BK275.out 1).trans rfl; have hfz29_0 := blk_frozen BK275.out 0; have hfz29_1 := blk_frozen BK275.out 1; have p288 : 0 ≤ (0 : Int) := (by omega); have q288 : 0 < (l0_0.length : Int) := ΩS_5 (by first | (with_reducible assumption) | assumption); obtain ⟨ad288, e288, hx288_0⟩ := Kd.at_int HR0_0.out 0 p288 q288; obtain rfl : ad284 = ad288 := (by injection e288); have qi288 : (0 < l0_0.length) = True := eq_true (by omega); (try rw [show ((0 : Int)).toNat = 0 from rfl] at hx288_0); (try rw [Addr.add_zero'] at hx288_0); replace hx288_0 := (HB.out.cell (World.block_lt_of_cell? w _ hx288_0)).trans hx288_0; replace p288 := eq_true p288; replace q288 := eq_true q288)); try go_wp2_with (first | ((with_reducible refine gate_dst (N := 30) rfl ?_); (try (refine gate_guard (by rfl) ?_; dsimp only)); refine Kd.R_lit (Kd.int .i64) _ 3 ?hg (N := 30) ?hd (xs := ([] : List Int)) (inner := []) (ok := fun _ => True) (okp := fun _ => True) ?hr ?hp (fun _ hk => hk) trivial (Below.refl _ _) (Nat.le_refl _) (by simp) ?_; (case hd => rfl); (case hg => rfl); (case hr => first | (go_simp; done) | (go_simp; rfl)); (case hp => exact (Reps.none _ _)); intro v279 w22 ho23 hb hg_ hnew_; clear hg_ hnew_; (first | rw [← Ny278.out] at ho23 | (simp only [Int.reduceToNat] at ho23; rw [← Ny278.out] at ho23)); have n0_ := Ω5_5 (Kd.R_lower ho23 (below_size (by repeat (first | (with_reducible first | exact HB.out | apply Ω6_5 | apply Ω7_5 | apply Ω8_5 | refine Ω9_5 ?_ GE275.out) | exact HB.out)))); have n1_ := Ω5_5 (blk_below (g := gb275) (o := .cells #[.slice A0_0 l0_0.length c0_0, .slice A0_1 l0_1.length c0_1] 39 (0, 0)) (by (with_reducible repeat (first | refine blk_drewN ?_ _ | refine blk_drew ?_ | refine blk_alloc ?_ _)); exact BK275.out) hb); have n2_ := Ω5_5 (below_step (by repeat (first | (with_reducible first | exact HB.out | apply Ω6_5 | apply Ω7_5 | apply Ω8_5 | refine Ω9_5 ?_ GE275.out) | exact HB.out)) hb); clear BK275; clear HB; have HO280 := n0_; have BK275 := n1_; have HB := n2_; clear n0_ n1_ n2_; clear hb ho23) | ((with_reducible refine gate_dst (N := 31) rfl ?_); (try (refine gate_guard (by rfl) ?_; dsimp only)); refine Kd.R_lit (Kd.int .i64) _ 3 ?hg (N := 31) ?hd (xs := ([] : List Int)) (inner := []) (ok := fun _ => True) (okp := fun _ => True) ?hr ?hp (fun _ hk => hk) trivial (Below.refl _ _) (Nat.le_refl _) (by simp) ?_; (case hd => rfl); (case hg => rfl); (case hr => first | (go_simp; done) | (go_simp; rfl)); (case hp => exact (Reps.none _ _)); intro v282 w24 ho25 hb hg_ hnew_; clear hg_ hnew_; (first | rw [← Ny281.out] at ho25 | (simp only [Int.reduceToNat] at ho25; rw [← Ny281.out] at ho25)); have n0_ := Ω5_5 (Kd.R_elder' (by (with_reducible repeat (first | apply Ω1_5 | apply Ω2_5 | apply Ω3_5)); exact HO280.out) (Kd.R_base ho25) hb); have n1_ := Ω5_5 (Kd.R_lower (Kd.R_new' ho25 (Kd.R_lt (by (with_reducible repeat (first | apply Ω1_5 | apply Ω2_5 | apply Ω3_5)); exact HO280.out))) (below_size (by repeat (first | (with_reducible first | exact HB.out | apply Ω6_5 | apply Ω7_5 | apply Ω8_5 | refine Ω9_5 ?_ GE275.out) | exact HB.out)))); have n2_ := Ω5_5 (blk_below (g := gb275) (o := .cells #[.slice A0_0 l0_0.length c0_0, .slice A0_1 l0_1.length c0_1] 39 (0, 0)) (by (with_reducible repeat (first | refine blk_drewN ?_ _ | refine blk_drew ?_ | refine blk_alloc ?_ _)); exact BK275.out) hb); have n3_ := Ω5_5 (below_step (by repeat (first | (with_reducible first | exact HB.out | apply Ω6_5 | apply Ω7_5 | apply Ω8_5 | refine Ω9_5 ?_ GE275.out) | exact HB.out)) hb); clear HO280; clear BK275; clear HB; have HO280 := n0_; have HO283 := n1_; have BK275 := n2_; have HB := n3_; clear n0_ n1_ n2_ n3_; clear hb ho25; have hcz26_0 : w24.cell? ⟨gb275, 0, none⟩ = some (.slice A0_0 l0_0.length c0_0) := (blk_cell BK275.out 0).trans rfl; have hcz26_1 : w24.cell? ⟨gb275, 1, none⟩ = some (.slice A0_1 l0_1.length c0_1) := (blk_cell BK275.out 1).trans rfl; have hfz26_0 := blk_frozen BK275.out 0; have hfz26_1 := blk_frozen BK275.out 1; have p284 : 0 ≤ (1 : Int) := (by omega); have q284 : 1 < (l0_0.length : Int) := ΩS_5 (by first | (with_reducible assumption) | assumption); obtain ⟨ad284, e284, hx284_0⟩ := Kd.at_int HR0_0.out 1 p284 q284; cases e284; (try simp only [show (1 : Int).toNat = 1 from rfl, Nat.reduceMul, Nat.reduceEqDiff, Go.Addr.add, ↓reduceIte] at hx284_0); have qi284 : (1 < l0_0.length) = True := eq_true (by omega); (try rw [show ((1 : Int)).toNat = 1 from rfl] at hx284_0); replace hx284_0 := (HB.out.cell (World.block_lt_of_cell? w _ hx284_0)).trans hx284_0; replace p284 := eq_true p284; replace q284 := eq_true q284) | ((with_reducible refine gate_dst (N := 37) rfl ?_); (try (refine gate_guard (by rfl) ?_; dsimp only)); refine Kd.R_make (Kd.int .i64) _ 3 rfl (N := 37) rfl 22 _ _ rfl (rd l0_0 1) rfl rfl Try.underlying22 (.int .i64 0) 8 info3 rfl (by decide) (by omega) 0 (ok := fun _ => True) (okp := fun _ => True) rfl (fun _ hk => hk) trivial (ΩS_5 (by first | (with_reducible assumption) | assumption)) (Nat.le_trans (Nat.mul_le_mul_right _ (ΩS_5 (by first | (with_reducible assumption) | assumption) : (rd l0_0 1).toNat ≤ 35184372088832)) (by omega)) (Below.refl _ _) (Nat.le_refl _) ?_; intro v286 w27 ho28 hb hg_ hnew_; clear hg_ hnew_; (first | rw [← Ny285.out] at ho28 | (simp only [Int.reduceToNat] at ho28; rw [← Ny285.out] at ho28)); have n0_ := Ω5_5 (Kd.R_elder' (by (with_reducible repeat (first | apply Ω1_5 | apply Ω2_5 | apply Ω3_5)); exact HO280.out) (Kd.R_base ho28) hb); have n1_ := Ω5_5 (Kd.R_elder' (by (with_reducible repeat (first | apply Ω1_5 | apply Ω2_5 | apply Ω3_5)); exact HO283.out) (Kd.R_base ho28) hb); have n2_ := Ω5_5 (Kd.R_lower (Kd.R_new' (Kd.R_new' ho28 (Kd.R_lt (by (with_reducible repeat (first | apply Ω1_5 | apply Ω2_5 | apply Ω3_5)); exact HO280.out))) (Kd.R_lt (by (with_reducible repeat (first | apply Ω1_5 | apply Ω2_5 | apply Ω3_5)); exact HO283.out))) (below_size (by repeat (first | (with_reducible first | exact HB.out | apply Ω6_5 | apply Ω7_5 | apply Ω8_5 | refine Ω9_5 ?_ GE275.out) | exact HB.out)))); have n3_ := Ω5_5 (blk_below (g := gb275) (o := .cells #[.slice (some ad284) l0_0.length c0_0, .slice A0_1 l0_1.length c0_1] 39 (0, 0)) (by (with_reducible repeat (first | refine blk_drewN ?_ _ | refine blk_drew ?_ | refine blk_alloc ?_ _)); exact BK275.out) hb); have n4_ := Ω5_5 (below_step (by repeat (first | (with_reducible first | exact HB.out | apply Ω6_5 | apply Ω7_5 | apply Ω8_5 | refine Ω9_5 ?_ GE275.out) | exact HB.out)) hb); clear HO280; clear HO283; clear BK275; clear HB; have HO280 := n0_; have HO283 := n1_; have HO287 := n2_; have BK275 := n3_; have HB := n4_; clear n0_ n1_ n2_ n3_ n4_; clear hb ho28; have hcz29_0 : w27.cell? ⟨gb275, 0, none⟩ = some (.slice (some ad284) l0_0.length c0_0) := (blk_cell BK275.out 0).trans rfl; have hcz29_1 : w27.cell? ⟨gb275, 1, none⟩ = some (.slice A0_1 l0_1.length c0_1) := (blk_cell BK275.out 1).trans rfl; have hfz29_0 := blk_frozen BK275.out 0; have hfz29_1 := blk_frozen BK275.out 1; have p288 : 0 ≤ (0 : Int) := (by omega); have q288 : 0 < (l0_0.length : Int) := ΩS_5 (by first | (with_reducible assumption) | assumption); obtain ⟨ad288, e288, hx288_0⟩ := Kd.at_int HR0_0.out 0 p288 q288; obtain rfl : ad284 = ad288 := (by injection e288); have qi288 : (0 < l0_0.length) = True := eq_true (by omega); (try rw [show ((0 : Int)).toNat = 0 from rfl] at hx288_0); (try rw [Addr.add_zero'] at hx288_0); replace hx288_0 := (HB.out.cell (World.block_lt_of_cell? w _ hx288_0)).trans hx288_0; replace p288 := eq_true p288; replace q288 := eq_true q288)))
        go_loopg [6, 7, 42] kj2 (fun kq v6 v7 v42 w' => ∃ (x6_2 : List Int) (x7_2 : List Int) (x9_2 : List Int) (x42_2 : Int), v42 = .int .i64 x42_2 ∧ Aside0 (impl_Route.l0 kq a1 x6_2 x7_2 (rd l0_0 1) x9_2 (rd l0_0 0) x42_2 l0_0 l0_1 = some (r1, r2)) ∧ Aside0 (kq ≤ kj2) ∧ Aside0 (Kd.R (Kd.int .i64) 3 w' w.heap.size (fun k_ => some k_ ≠ (v7 : Value).ownBlock ∧ some k_ ≠ (v286 : Value).ownBlock) v6 x6_2) ∧ Aside0 (Kd.R (Kd.int .i64) 3 w' w.heap.size (fun k_ => some k_ ≠ (v6 : Value).ownBlock ∧ some k_ ≠ (v286 : Value).ownBlock) v7 x7_2) ∧ Aside0 (Kd.R (Kd.int .i64) 3 w' w.heap.size (fun k_ => some k_ ≠ (v6 : Value).ownBlock ∧ some k_ ≠ (v7 : Value).ownBlock) v286 x9_2) ∧ Aside0 (w'.heap[gb275]? = some (.cells #[(.slice (some ad284) l0_0.length c0_0), (.slice A0_1 l0_1.length c0_1)] 39 (0, 0))) ∧ Aside0 (Below w.heap.size w w'))
        case atStart => exact ⟨(y278), (y281), (y285), (0), (by first | rfl | (simp; done) | (simp [*]; done)), H', ⟨Nat.le_refl _⟩, ⟨by (with_reducible repeat (first | apply Ω1_5 | apply Ω2_5 | apply Ω3_5)); exact Kd.R_mono HO280.out (fun _ hk => ⟨hk.1.2, hk.2⟩)⟩, ⟨by (with_reducible repeat (first | apply Ω1_5 | apply Ω2_5 | apply Ω3_5)); exact Kd.R_mono HO283.out (fun _ hk => ⟨hk.1.2, hk.2⟩)⟩, ⟨by (with_reducible repeat (first | apply Ω1_5 | apply Ω2_5 | apply Ω3_5)); exact Kd.R_mono HO287.out (fun _ hk => ⟨hk.1.2, hk.2⟩)⟩, ⟨by (with_reducible repeat (first | refine blk_drewN ?_ _ | refine blk_drew ?_ | refine blk_alloc ?_ _)); exact BK275.out⟩, ⟨by repeat (first | (with_reducible first | exact HB.out | apply Ω6_5 | apply Ω7_5 | apply Ω8_5 | refine Ω9_5 ?_ GE275.out) | exact HB.out)⟩⟩
        case round =>
         clear H'
         try clear c1
         try clear c2
         try clear p2
         try clear q2
         try clear hx2
         try clear qi2
         try clear c6
         try clear c7
         try clear c7b0
         try clear c7b1
         try clear c17
         try clear c18
         try clear c18b0
         try clear c18b1
         try clear c19
         try clear c19b0
         try clear c19b1
         try clear c20
         try clear c20b0
         try clear c20b1
         try clear c21
         try clear c21b0
         try clear c21b1
         try clear c22
         try clear p28
         try clear q28
         try clear hx28
         try clear qi28
         try clear hcz11_0
         try clear hcz11_1
         try clear hcz12_0
         try clear hcz12_1
         try clear hcz14_0
         try clear hcz14_1
         try clear hcz15_0
         try clear hcz15_1
         try clear hcz26_0
         try clear hcz26_1
         try clear hcz29_0
         try clear hcz29_1
         try clear hcz9_0
         try clear hcz9_1
         try clear hfz11_0
         try clear hfz11_1
         try clear hfz12_0
         try clear hfz12_1
         try clear hfz14_0
         try clear hfz14_1
         try clear hfz15_0
         try clear hfz15_1
         try clear hfz26_0
         try clear hfz26_1
         try clear hfz29_0
         try clear hfz29_1
         try clear hfz9_0
         try clear hfz9_1
         try clear hx284_0
         try clear hx288_0
         try clear p2
         try clear p284
         try clear p288
         try clear q284
         try clear q288
         obtain ⟨x6_2, x7_2, x9_2, x42_2, rfl, HA, HK2, HO_6, HO_7, HO_9, BK275, HB⟩ := hrel
         cases gk with
         | zero => exact absurd HA.out (by simp [impl_Route.l0])
         | succ k2 =>
          have H := HA.out
          clear HA
          simp only [impl_Route.l0] at H
          by_cases c30 : x42_2 < (rd l0_0 0)
          ·rw [if_pos c30] at H
           have c30b0 : decide (x42_2 < (rd l0_0 0)) = true := decide_eq_true c30
           clear c30
           obtain ⟨ji31, hji31⟩ : ∃ j_ : Int, (wrap64 (x42_2 * (rd l0_0 1))) = j_ := ⟨_, rfl⟩
           replace H : (if 0 ≤ (ji31) then (if (ji31) ≤ (wrap64 ((wrap64 (x42_2 + 1)) * (rd l0_0 1))) then (if (wrap64 ((wrap64 (x42_2 + 1)) * (rd l0_0 1))) ≤ (l0_1.length : Int) then (impl_Route.l1 k2 a1 x6_2 x7_2 (rd l0_0 1) x9_2 (-1) ((l0_1.take ((wrap64 ((wrap64 (x42_2 + 1)) * (rd l0_0 1))) : Int).toNat).drop ((ji31) : Int).toNat) (rd l0_0 0) x42_2 ((l0_1.take ((wrap64 ((wrap64 (x42_2 + 1)) * (rd l0_0 1))) : Int).toNat).drop ((ji31) : Int).toNat) (((l0_1.take ((wrap64 ((wrap64 (x42_2 + 1)) * (rd l0_0 1))) : Int).toNat).drop ((ji31) : Int).toNat).length : Int) 0 l0_0 l0_1) else (none)) else (none)) else (none)) = some (r1, r2) := by first | (rw [hji31] at H; exact H) | (simp only [hji31] at H ⊢; exact H)
           have hji31w : (IntKind.i64.wrap (x42_2 * (rd l0_0 1))) = ji31 := (i64_w _).trans hji31
           by_cases c32 : 0 ≤ (ji31)
           ·rw [if_pos c32] at H
            have c32b0 := eq_true c32
            have c32b1 : decide (0 ≤ (ji31)) = true := decide_eq_true c32
            clear c32
            by_cases c33 : (ji31) ≤ (wrap64 ((wrap64 (x42_2 + 1)) * (rd l0_0 1)))
            ·rw [if_pos c33] at H
             have c33b0 := eq_true c33
             have c33b1 : decide ((ji31) ≤ (wrap64 ((wrap64 (x42_2 + 1)) * (rd l0_0 1)))) = true := decide_eq_true c33
             by_cases c34 : (wrap64 ((wrap64 (x42_2 + 1)) * (rd l0_0 1))) ≤ (l0_1.length : Int)
             ·rw [if_pos c34] at H
              have c34b0 := eq_true c34
              have c34b1 : decide ((wrap64 ((wrap64 (x42_2 + 1)) * (rd l0_0 1))) ≤ (l0_1.length : Int)) = true := decide_eq_true c34
              have H' := Ω5_5 H
              clear H
              have hcz35_0 : wr.cell? ⟨gb275, 0, none⟩ = some (.slice (some ad284) l0_0.length c0_0) := (blk_cell BK275.out 0).trans rfl
              have hcz35_1 : wr.cell? ⟨gb275, 1, none⟩ = some (.slice A0_1 l0_1.length c0_1) := (blk_cell BK275.out 1).trans rfl
              have hfz35_0 := blk_frozen BK275.out 0
              have hfz35_1 := blk_frozen BK275.out 1
              obtain ⟨i036, hi036, _, hsz36, _⟩ := info_parts info3
              obtain ⟨A36, hcut36, hA36, hC36⟩ := print_mid_of (P := Try.prog) (Value.int .i64) 0 22 3 .i64 .i64 Try.underlying22 hi036 hsz36 A0_1 c0_1 l0_1 (ji31) (wrap64 ((wrap64 (x42_2 + 1)) * (rd l0_0 1))) (ΩS_5 (by first | (with_reducible assumption) | assumption)) (by first | omega | exact ΩS_5 (by first | (with_reducible assumption) | assumption)) (ΩS_5 (by first | (with_reducible assumption) | assumption)) HC0_1.out
              have HR289 := Ω5_5 (Kd.C_of_reads (h1 := fun _ => rfl) (hA36 _ (Kd.reads_of_C HR0_1.out)))
              have HC289 := Ω5_5 hC36
              clear hA36 hC36 hi036 hsz36
              obtain ⟨yrow36, hyrow36⟩ : ∃ y_ : List Int, y_ = ((l0_1.take ((wrap64 ((wrap64 (x42_2 + 1)) * (rd l0_0 1))) : Int).toNat).drop ((ji31) : Int).toNat) := ⟨_, rfl⟩
              rw [← hyrow36] at hcut36 HR289
              (try rw [← hyrow36] at HC289)
              (try rw [← hyrow36] at H')
              (try rw [← hyrow36] at H)
              have Nyrow36 := Ω5_5 hyrow36
              clear hyrow36
              go_wp2
              repeat (go_quiet (fail); try go_wp2)
              go_loopg [11, 57] k2 (fun kq v11 v57 w' => ∃ (x11_3 : Int) (x57_3 : Int), v11 = .int .i64 x11_3 ∧ v57 = .int .i64 x57_3 ∧ Aside0 (impl_Route.l1 kq a1 x6_2 x7_2 (rd l0_0 1) x9_2 x11_3 yrow36 (rd l0_0 0) x42_2 yrow36 (yrow36.length : Int) x57_3 l0_0 l0_1 = some (r1, r2)) ∧ Aside0 (kq ≤ k2) ∧ Aside0 (Kd.R (Kd.int .i64) 3 w' w.heap.size (fun k_ => some k_ ≠ (u7 : Value).ownBlock ∧ some k_ ≠ (v286 : Value).ownBlock) u6 x6_2) ∧ Aside0 (Kd.R (Kd.int .i64) 3 w' w.heap.size (fun k_ => some k_ ≠ (u6 : Value).ownBlock ∧ some k_ ≠ (v286 : Value).ownBlock) u7 x7_2) ∧ Aside0 (Kd.R (Kd.int .i64) 3 w' w.heap.size (fun k_ => some k_ ≠ (u6 : Value).ownBlock ∧ some k_ ≠ (u7 : Value).ownBlock) v286 x9_2) ∧ Aside0 (w'.heap[gb275]? = some (.cells #[(.slice (some ad284) l0_0.length c0_0), (.slice A0_1 l0_1.length c0_1)] 39 (0, 0))) ∧ Aside0 (Below w.heap.size w w'))
              case atStart => exact ⟨((-1)), (0), (by first | rfl | (simp; done) | (simp [*]; done)), (by first | rfl | (simp; done) | (simp [*]; done)), H', ⟨Nat.le_refl _⟩, ⟨by (with_reducible repeat (first | apply Ω1_5 | apply Ω2_5 | apply Ω3_5)); exact HO_6.out⟩, ⟨by (with_reducible repeat (first | apply Ω1_5 | apply Ω2_5 | apply Ω3_5)); exact HO_7.out⟩, ⟨by (with_reducible repeat (first | apply Ω1_5 | apply Ω2_5 | apply Ω3_5)); exact HO_9.out⟩, ⟨by (with_reducible repeat (first | refine blk_drewN ?_ _ | refine blk_drew ?_ | refine blk_alloc ?_ _)); exact BK275.out⟩, ⟨by repeat (first | (with_reducible first | exact HB.out | apply Ω6_5 | apply Ω7_5 | apply Ω8_5 | refine Ω9_5 ?_ GE275.out) | exact HB.out)⟩⟩
              case round =>
               clear H'
               try clear c1
               try clear c2
               try clear p2
               try clear q2
               try clear hx2
               try clear qi2
               try clear c3
               try clear c6
               try clear p6
               try clear c7
               try clear c7b0
               try clear c7b1
               try clear c17
               try clear c18
               try clear c18b0
               try clear c18b1
               try clear c19
               try clear c19b0
               try clear c19b1
               try clear c20
               try clear c20b0
               try clear c20b1
               try clear c21
               try clear c21b0
               try clear c21b1
               try clear c22
               try clear p28
               try clear q28
               try clear hx28
               try clear qi28
               try clear c30
               try clear c30b0
               try clear c32
               try clear c32b0
               try clear c32b1
               try clear c33
               try clear c33b0
               try clear c33b1
               try clear c34
               try clear c34b0
               try clear c34b1
               try clear hcz11_0
               try clear hcz11_1
               try clear hcz12_0
               try clear hcz12_1
               try clear hcz14_0
               try clear hcz14_1
               try clear hcz15_0
               try clear hcz15_1
               try clear hcz26_0
               try clear hcz26_1
               try clear hcz29_0
               try clear hcz29_1
               try clear hcz35_0
               try clear hcz35_1
               try clear hcz9_0
               try clear hcz9_1
               try clear hfz11_0
               try clear hfz11_1
               try clear hfz12_0
               try clear hfz12_1
               try clear hfz14_0
               try clear hfz14_1
               try clear hfz15_0
               try clear hfz15_1
               try clear hfz26_0
               try clear hfz26_1
               try clear hfz29_0
               try clear hfz29_1
               try clear hfz35_0
               try clear hfz35_1
               try clear hfz9_0
               try clear hfz9_1
               try clear hx284_0
               try clear hx288_0
               try clear p2
               try clear p28
               try clear p284
               try clear p288
               try clear q2
               try clear q28
               try clear q284
               try clear q288
               obtain ⟨x11_3, x57_3, rfl, rfl, HA, HK3, HO_6, HO_7, HO_9, BK275, HB⟩ := hrel
               cases gk with
               | zero => exact absurd HA.out (by simp [impl_Route.l1])
               | succ k3 =>
                have H := HA.out
                clear HA
                simp only [impl_Route.l1] at H
                by_cases c37 : x57_3 < (yrow36.length : Int)
                ·rw [if_pos c37] at H
                 have c37b0 : decide (x57_3 < (yrow36.length : Int)) = true := decide_eq_true c37
                 clear c37
                 by_cases c38 : 0 ≤ x57_3
                 ·rw [if_pos c38] at H
                  have c38b0 : decide (0 ≤ x57_3) = true := decide_eq_true c38
                  clear c38
                  by_cases c39 : x57_3 < (yrow36.length : Int)
                  ·rw [if_pos c39] at H
                   have c39b0 : decide (x57_3 < (yrow36.length : Int)) = true := decide_eq_true c39
                   clear c39
                   have HC40 := Ω5_5 H
                   clear H
                   have p290 : 0 ≤ (x57_3 : Int) := ΩS_5 (by first | (with_reducible assumption) | assumption)
                   have q290 : x57_3 < (yrow36.length : Int) := ΩS_5 (by first | (with_reducible assumption) | assumption)
                   obtain ⟨ad290, e290, hx290_0⟩ := Kd.at_int HR289.out x57_3 p290 q290
                   cases e290
                   replace hx290_0 := (HB.out.cell (World.block_lt_of_cell? w _ hx290_0)).trans hx290_0
                   replace p290 := eq_true p290
                   replace q290 := eq_true q290
                   go_upto_region 14 with (fail)
                   repeat (go_quiet (fail); go_upto_region 14 with (fail))
                   go_cut [81] (fun v81 wc => ∃ (kq : Nat) (x81_39 : Bool), v81 = .bool x81_39 ∧ Aside0 (impl_Route.j3 kq a1 x6_2 x7_2 (rd l0_0 1) x9_2 x11_3 yrow36 x57_3 (rd l0_0 0) x42_2 yrow36 (yrow36.length : Int) x57_3 x81_39 l0_0 l0_1 = some (r1, r2)) ∧ Aside0 (kq ≤ k3) ∧ Aside0 (Kd.R (Kd.int .i64) 3 wc w.heap.size (fun k_ => some k_ ≠ (u7 : Value).ownBlock ∧ some k_ ≠ (v286 : Value).ownBlock) u6 x6_2) ∧ Aside0 (Kd.R (Kd.int .i64) 3 wc w.heap.size (fun k_ => some k_ ≠ (u6 : Value).ownBlock ∧ some k_ ≠ (v286 : Value).ownBlock) u7 x7_2) ∧ Aside0 (Kd.R (Kd.int .i64) 3 wc w.heap.size (fun k_ => some k_ ≠ (u6 : Value).ownBlock ∧ some k_ ≠ (u7 : Value).ownBlock) v286 x9_2) ∧ Aside0 (wc.heap[gb275]? = some (.cells #[(.slice (some ad284) l0_0.length c0_0), (.slice A0_1 l0_1.length c0_1)] 39 (0, 0))) ∧ Aside0 (Below w.heap.size w wc))
                   case first =>
                    have H := HC40.out
                    clear HC40
                    by_cases c41 : x57_3 < (x9_2.length : Int)
                    ·rw [if_pos c41] at H
                     have c41b0 : decide (x57_3 < (x9_2.length : Int)) = true := decide_eq_true c41
                     clear c41
                     (first | rw [c41b0] | (simp only [i64_w, i32_w]; rw [c41b0]) | skip)
                     by_cases c42 : (rd x9_2 x57_3) < a1
                     ·rw [if_pos c42] at H
                      have c42b0 : decide ((rd x9_2 x57_3) < a1) = true := decide_eq_true c42
                      clear c42
                      by_cases c43 : x11_3 < 0
                      ·rw [if_pos c43] at H
                       have c43b0 : decide (x11_3 < 0) = true := decide_eq_true c43
                       clear c43
                       have H' := Ω5_5 H
                       clear H
                       obtain ⟨Ao44, co44, eo44⟩ := Kd.R_slice HO_9.out
                       subst eo44
                       have p291 : 0 ≤ (x57_3 : Int) := ΩS_5 (by first | (with_reducible assumption) | assumption)
                       have q291 : x57_3 < (x9_2.length : Int) := ΩS_5 (by first | (with_reducible assumption) | assumption)
                       obtain ⟨ad291, e291, hx291_0⟩ := Kd.at_int (Kd.R_reads' HO_9.out).2.2 x57_3 p291 q291
                       cases e291
                       replace p291 := eq_true p291
                       replace q291 := eq_true q291
                       go_wp2
                       repeat (go_quiet (fail); try go_wp2)
                       go_meet
                       case rel => exact ⟨_, (true), (by first | rfl | (simp; done) | (simp [*]; done)), H', ⟨by have := HJ2.out; have := HK2.out; have := HK3.out; first | omega | exact Nat.le_refl _⟩, ⟨by (with_reducible repeat (first | apply Ω1_5 | apply Ω2_5 | apply Ω3_5)); exact HO_6.out⟩, ⟨by (with_reducible repeat (first | apply Ω1_5 | apply Ω2_5 | apply Ω3_5)); exact HO_7.out⟩, ⟨by (with_reducible repeat (first | apply Ω1_5 | apply Ω2_5 | apply Ω3_5)); exact HO_9.out⟩, ⟨by (with_reducible repeat (first | refine blk_drewN ?_ _ | refine blk_drew ?_ | refine blk_alloc ?_ _)); exact BK275.out⟩, ⟨by repeat (first | (with_reducible first | exact HB.out | apply Ω6_5 | apply Ω7_5 | apply Ω8_5 | refine Ω9_5 ?_ GE275.out) | exact HB.out)⟩⟩
                      ·rw [if_neg c43] at H
                       have c43b0 : decide (x11_3 < 0) = false := decide_eq_false c43
                       clear c43
                       replace H := Option.bind_eq_some_iff.mp H
                       obtain ⟨t292, A450, H⟩ := H
                       try dsimp only at H
                       have A45 := Ω5_5 A450
                       clear A450
                       by_cases c46 : 0 ≤ x11_3
                       ·rw [if_pos c46] at H
                        have c46b0 : decide (0 ≤ x11_3) = true := decide_eq_true c46
                        clear c46
                        by_cases c47 : x11_3 < (yrow36.length : Int)
                        ·rw [if_pos c47] at H
                         have c47b0 : decide (x11_3 < (yrow36.length : Int)) = true := decide_eq_true c47
                         clear c47
                         replace H := Option.bind_eq_some_iff.mp H
                         obtain ⟨t294, A480, H⟩ := H
                         try dsimp only at H
                         have A48 := Ω5_5 A480
                         clear A480
                         have H' := Ω5_5 H
                         clear H
                         obtain ⟨Ao49, co49, eo49⟩ := Kd.R_slice HO_9.out
                         subst eo49
                         have p291 : 0 ≤ (x57_3 : Int) := ΩS_5 (by first | (with_reducible assumption) | assumption)
                         have q291 : x57_3 < (x9_2.length : Int) := ΩS_5 (by first | (with_reducible assumption) | assumption)
                         obtain ⟨ad291, e291, hx291_0⟩ := Kd.at_int (Kd.R_reads' HO_9.out).2.2 x57_3 p291 q291
                         cases e291
                         replace p291 := eq_true p291
                         replace q291 := eq_true q291
                         go_wp2_with (first | (go_at_call 58; (with_reducible refine (impl_Signed.calls (rd yrow36 x57_3) t292 _ A45.out).mono ?_); rintro e w' ⟨rfl, ⟨nd, rfl⟩⟩; (try first | exact ⟨rfl, _, World.drewN_drewN _ _ _⟩ | exact ⟨rfl, _, Eq.trans (World.drewN_drewN _ _ _) (congrArg (World.drewN _) (Nat.add_assoc _ _ _))⟩); have p293 : 0 ≤ (x11_3 : Int) := ΩS_5 (by first | (with_reducible assumption) | assumption); have q293 : x11_3 < (yrow36.length : Int) := ΩS_5 (by first | (with_reducible assumption) | assumption); obtain ⟨ad293, e293, hx293_0⟩ := Kd.at_int HR289.out x11_3 p293 q293; obtain rfl : ad290 = ad293 := (by injection e293); replace hx293_0 := (HB.out.cell (World.block_lt_of_cell? w _ hx293_0)).trans hx293_0; replace p293 := eq_true p293; replace q293 := eq_true q293) | (go_at_call 58; (with_reducible refine (impl_Signed.calls (rd yrow36 x11_3) t294 _ A48.out).mono ?_); rintro e w' ⟨rfl, ⟨nd, rfl⟩⟩; (try first | exact ⟨rfl, _, World.drewN_drewN _ _ _⟩ | exact ⟨rfl, _, Eq.trans (World.drewN_drewN _ _ _) (congrArg (World.drewN _) (Nat.add_assoc _ _ _))⟩)))
                         repeat (go_quiet (first | (go_at_call 58; (with_reducible refine (impl_Signed.calls (rd yrow36 x57_3) t292 _ A45.out).mono ?_); rintro e w' ⟨rfl, ⟨nd, rfl⟩⟩; (try first | exact ⟨rfl, _, World.drewN_drewN _ _ _⟩ | exact ⟨rfl, _, Eq.trans (World.drewN_drewN _ _ _) (congrArg (World.drewN _) (Nat.add_assoc _ _ _))⟩); have p293 : 0 ≤ (x11_3 : Int) := ΩS_5 (by first | (with_reducible assumption) | assumption); have q293 : x11_3 < (yrow36.length : Int) := ΩS_5 (by first | (with_reducible assumption) | assumption); obtain ⟨ad293, e293, hx293_0⟩ := Kd.at_int HR289.out x11_3 p293 q293; obtain rfl : ad290 = ad293 := (by injection e293); replace hx293_0 := (HB.out.cell (World.block_lt_of_cell? w _ hx293_0)).trans hx293_0; replace p293 := eq_true p293; replace q293 := eq_true q293) | (go_at_call 58; (with_reducible refine (impl_Signed.calls (rd yrow36 x11_3) t294 _ A48.out).mono ?_); rintro e w' ⟨rfl, ⟨nd, rfl⟩⟩; (try first | exact ⟨rfl, _, World.drewN_drewN _ _ _⟩ | exact ⟨rfl, _, Eq.trans (World.drewN_drewN _ _ _) (congrArg (World.drewN _) (Nat.add_assoc _ _ _))⟩))); try go_wp2_with (first | (go_at_call 58; (with_reducible refine (impl_Signed.calls (rd yrow36 x57_3) t292 _ A45.out).mono ?_); rintro e w' ⟨rfl, ⟨nd, rfl⟩⟩; (try first | exact ⟨rfl, _, World.drewN_drewN _ _ _⟩ | exact ⟨rfl, _, Eq.trans (World.drewN_drewN _ _ _) (congrArg (World.drewN _) (Nat.add_assoc _ _ _))⟩); have p293 : 0 ≤ (x11_3 : Int) := ΩS_5 (by first | (with_reducible assumption) | assumption); have q293 : x11_3 < (yrow36.length : Int) := ΩS_5 (by first | (with_reducible assumption) | assumption); obtain ⟨ad293, e293, hx293_0⟩ := Kd.at_int HR289.out x11_3 p293 q293; obtain rfl : ad290 = ad293 := (by injection e293); replace hx293_0 := (HB.out.cell (World.block_lt_of_cell? w _ hx293_0)).trans hx293_0; replace p293 := eq_true p293; replace q293 := eq_true q293) | (go_at_call 58; (with_reducible refine (impl_Signed.calls (rd yrow36 x11_3) t294 _ A48.out).mono ?_); rintro e w' ⟨rfl, ⟨nd, rfl⟩⟩; (try first | exact ⟨rfl, _, World.drewN_drewN _ _ _⟩ | exact ⟨rfl, _, Eq.trans (World.drewN_drewN _ _ _) (congrArg (World.drewN _) (Nat.add_assoc _ _ _))⟩))))
                         go_meet
                         case rel => exact ⟨_, (decide (t292 > t294)), (by first | rfl | (simp; done) | (simp [*]; done)), H', ⟨by have := HJ2.out; have := HK2.out; have := HK3.out; first | omega | exact Nat.le_refl _⟩, ⟨by (with_reducible repeat (first | apply Ω1_5 | apply Ω2_5 | apply Ω3_5)); exact HO_6.out⟩, ⟨by (with_reducible repeat (first | apply Ω1_5 | apply Ω2_5 | apply Ω3_5)); exact HO_7.out⟩, ⟨by (with_reducible repeat (first | apply Ω1_5 | apply Ω2_5 | apply Ω3_5)); exact HO_9.out⟩, ⟨by (with_reducible repeat (first | refine blk_drewN ?_ _ | refine blk_drew ?_ | refine blk_alloc ?_ _)); exact BK275.out⟩, ⟨by repeat (first | (with_reducible first | exact HB.out | apply Ω6_5 | apply Ω7_5 | apply Ω8_5 | refine Ω9_5 ?_ GE275.out) | exact HB.out)⟩⟩
                        ·rw [if_neg c47] at H
                         exact absurd H (by simp)
                       ·rw [if_neg c46] at H
                        exact absurd H (by simp)
                     ·rw [if_neg c42] at H
                      have c42b0 : decide ((rd x9_2 x57_3) < a1) = false := decide_eq_false c42
                      clear c42
                      have H' := Ω5_5 H
                      clear H
                      obtain ⟨Ao50, co50, eo50⟩ := Kd.R_slice HO_9.out
                      subst eo50
                      have p291 : 0 ≤ (x57_3 : Int) := ΩS_5 (by first | (with_reducible assumption) | assumption)
                      have q291 : x57_3 < (x9_2.length : Int) := ΩS_5 (by first | (with_reducible assumption) | assumption)
                      obtain ⟨ad291, e291, hx291_0⟩ := Kd.at_int (Kd.R_reads' HO_9.out).2.2 x57_3 p291 q291
                      cases e291
                      replace p291 := eq_true p291
                      replace q291 := eq_true q291
                      go_wp2
                      repeat (go_quiet (fail); try go_wp2)
                      go_meet
                      case rel => exact ⟨_, (false), (by first | rfl | (simp; done) | (simp [*]; done)), H', ⟨by have := HJ2.out; have := HK2.out; have := HK3.out; first | omega | exact Nat.le_refl _⟩, ⟨by (with_reducible repeat (first | apply Ω1_5 | apply Ω2_5 | apply Ω3_5)); exact HO_6.out⟩, ⟨by (with_reducible repeat (first | apply Ω1_5 | apply Ω2_5 | apply Ω3_5)); exact HO_7.out⟩, ⟨by (with_reducible repeat (first | apply Ω1_5 | apply Ω2_5 | apply Ω3_5)); exact HO_9.out⟩, ⟨by (with_reducible repeat (first | refine blk_drewN ?_ _ | refine blk_drew ?_ | refine blk_alloc ?_ _)); exact BK275.out⟩, ⟨by repeat (first | (with_reducible first | exact HB.out | apply Ω6_5 | apply Ω7_5 | apply Ω8_5 | refine Ω9_5 ?_ GE275.out) | exact HB.out)⟩⟩
                    ·rw [if_neg c41] at H
                     exact absurd H (by simp)
                   case rest =>
                    clear HC40
                    try clear c1
                    try clear c2
                    try clear p2
                    try clear q2
                    try clear hx2
                    try clear qi2
                    try clear c3
                    try clear c4
                    try clear c6
                    try clear p6
                    try clear c7
                    try clear c7b0
                    try clear c7b1
                    try clear c17
                    try clear c18
                    try clear c18b0
                    try clear c18b1
                    try clear c19
                    try clear c19b0
                    try clear c19b1
                    try clear c20
                    try clear c20b0
                    try clear c20b1
                    try clear c21
                    try clear c21b0
                    try clear c21b1
                    try clear c22
                    try clear p28
                    try clear q28
                    try clear hx28
                    try clear qi28
                    try clear p29
                    try clear q29
                    try clear hx29
                    try clear c30
                    try clear c30b0
                    try clear c32
                    try clear c32b0
                    try clear c32b1
                    try clear c33
                    try clear c33b0
                    try clear c33b1
                    try clear c34
                    try clear c34b0
                    try clear c34b1
                    try clear c37
                    try clear c37b0
                    try clear c38
                    try clear c38b0
                    try clear c39
                    try clear c39b0
                    try clear c41
                    try clear c41b0
                    try clear c42
                    try clear c42b0
                    try clear c43
                    try clear c43b0
                    try clear c46
                    try clear c46b0
                    try clear c47
                    try clear c47b0
                    try clear hcz11_0
                    try clear hcz11_1
                    try clear hcz12_0
                    try clear hcz12_1
                    try clear hcz14_0
                    try clear hcz14_1
                    try clear hcz15_0
                    try clear hcz15_1
                    try clear hcz26_0
                    try clear hcz26_1
                    try clear hcz29_0
                    try clear hcz29_1
                    try clear hcz35_0
                    try clear hcz35_1
                    try clear hcz9_0
                    try clear hcz9_1
                    try clear hfz11_0
                    try clear hfz11_1
                    try clear hfz12_0
                    try clear hfz12_1
                    try clear hfz14_0
                    try clear hfz14_1
                    try clear hfz15_0
                    try clear hfz15_1
                    try clear hfz26_0
                    try clear hfz26_1
                    try clear hfz29_0
                    try clear hfz29_1
                    try clear hfz35_0
                    try clear hfz35_1
                    try clear hfz9_0
                    try clear hfz9_1
                    try clear hx284_0
                    try clear hx288_0
                    try clear hx290_0
                    try clear hx291_0
                    try clear hx293_0
                    try clear p2
                    try clear p28
                    try clear p284
                    try clear p288
                    try clear p290
                    try clear p291
                    try clear p293
                    try clear p6
                    try clear q2
                    try clear q28
                    try clear q284
                    try clear q288
                    try clear q290
                    try clear q291
                    try clear q293
                    obtain ⟨kq, x81_39, rfl, HA, HJ39, HO_6, HO_7, HO_9, BK275, HB⟩ := hcut
                    cases kq with
                    | zero => exact absurd HA.out (by simp [impl_Route.j3])
                    | succ kj39 =>
                     have H := HA.out
                     clear HA
                     simp only [impl_Route.j3] at H
                     by_cases c51 : x81_39 = true
                     ·subst c51
                      have H1 : (impl_Route.l1 kj39 a1 x6_2 x7_2 (rd l0_0 1) x9_2 x57_3 yrow36 (rd l0_0 0) x42_2 yrow36 (yrow36.length : Int) (wrap64 (x57_3 + 1)) l0_0 l0_1) = some (r1, r2) := by rw [if_pos rfl] at H; exact H
                      clear H
                      have H := H1
                      clear H1
                      have H' := Ω5_5 H
                      clear H
                      go_wp2
                      repeat (go_quiet (fail); try go_wp2)
                      go_roundg kj39
                      case measure => have := HJ2.out; have := HK2.out; have := HK3.out; have := HJ39.out; omega
                      case rel => exact ⟨(x57_3), (wrap64 (x57_3 + 1)), (by first | rfl | (simp; done) | (simp [*]; done)), (by first | rfl | (simp; done) | (simp [*]; done)), H', ⟨by have := HJ2.out; have := HK2.out; have := HK3.out; have := HJ39.out; omega⟩, ⟨by (with_reducible repeat (first | apply Ω1_5 | apply Ω2_5 | apply Ω3_5)); exact HO_6.out⟩, ⟨by (with_reducible repeat (first | apply Ω1_5 | apply Ω2_5 | apply Ω3_5)); exact HO_7.out⟩, ⟨by (with_reducible repeat (first | apply Ω1_5 | apply Ω2_5 | apply Ω3_5)); exact HO_9.out⟩, ⟨by (with_reducible repeat (first | refine blk_drewN ?_ _ | refine blk_drew ?_ | refine blk_alloc ?_ _)); exact BK275.out⟩, ⟨by repeat (first | (with_reducible first | exact HB.out | apply Ω6_5 | apply Ω7_5 | apply Ω8_5 | refine Ω9_5 ?_ GE275.out) | exact HB.out)⟩⟩
                     ·replace c51 := Bool.eq_false_iff.mpr c51
                      subst c51
                      have H1 : (impl_Route.l1 kj39 a1 x6_2 x7_2 (rd l0_0 1) x9_2 x11_3 yrow36 (rd l0_0 0) x42_2 yrow36 (yrow36.length : Int) (wrap64 (x57_3 + 1)) l0_0 l0_1) = some (r1, r2) := by rw [if_neg (show ¬ (false = true) by decide)] at H; exact H
                      clear H
                      have H := H1
                      clear H1
                      have H' := Ω5_5 H
                      clear H
                      go_wp2
                      repeat (go_quiet (fail); try go_wp2)
                      go_roundg kj39
                      case measure => have := HJ2.out; have := HK2.out; have := HK3.out; have := HJ39.out; omega
                      case rel => exact ⟨(x11_3), (wrap64 (x57_3 + 1)), (by first | rfl | (simp; done) | (simp [*]; done)), (by first | rfl | (simp; done) | (simp [*]; done)), H', ⟨by have := HJ2.out; have := HK2.out; have := HK3.out; have := HJ39.out; omega⟩, ⟨by (with_reducible repeat (first | apply Ω1_5 | apply Ω2_5 | apply Ω3_5)); exact HO_6.out⟩, ⟨by (with_reducible repeat (first | apply Ω1_5 | apply Ω2_5 | apply Ω3_5)); exact HO_7.out⟩, ⟨by (with_reducible repeat (first | apply Ω1_5 | apply Ω2_5 | apply Ω3_5)); exact HO_9.out⟩, ⟨by (with_reducible repeat (first | refine blk_drewN ?_ _ | refine blk_drew ?_ | refine blk_alloc ?_ _)); exact BK275.out⟩, ⟨by repeat (first | (with_reducible first | exact HB.out | apply Ω6_5 | apply Ω7_5 | apply Ω8_5 | refine Ω9_5 ?_ GE275.out) | exact HB.out)⟩⟩
                  ·rw [if_neg c39] at H
                   exact absurd H (by simp)
                 ·rw [if_neg c38] at H
                  exact absurd H (by simp)
                ·rw [if_neg c37] at H
                 have c37b0 : decide (x57_3 < (yrow36.length : Int)) = false := decide_eq_false c37
                 clear c37
                 by_cases c52 : x11_3 ≥ 0
                 ·rw [if_pos c52] at H
                  have c52b0 : decide (0 ≤ x11_3) = true := decide_eq_true c52
                  clear c52
                  by_cases c53 : 0 ≤ x11_3
                  ·rw [if_pos c53] at H
                   have c53b0 : decide (0 ≤ x11_3) = true := decide_eq_true c53
                   clear c53
                   by_cases c54 : x11_3 < (x9_2.length : Int)
                   ·rw [if_pos c54] at H
                    have c54b0 : decide (x11_3 < (x9_2.length : Int)) = true := decide_eq_true c54
                    clear c54
                    obtain ⟨y297, hy297⟩ : ∃ y_ : List Int, y_ = (x9_2.set (x11_3 : Int).toNat (wrap64 ((rd x9_2 x11_3) + 1))) := ⟨_, rfl⟩
                    replace H : (if x6_2.length < 17592186044416 then (if x7_2.length < 17592186044416 then (impl_Route.l0 k3 a1 (x6_2 ++ [x11_3]) (x7_2 ++ [rd x9_2 x11_3]) (rd l0_0 1) y297 (rd l0_0 0) (wrap64 (x42_2 + 1)) l0_0 l0_1) else (none)) else (none)) = some (r1, r2) := by first | (rw [hy297]; with_reducible exact H) | (have H2_ := (Option.bind_some _ _).symm.trans H; rw [hy297]; with_reducible exact H2_) | (have H2_ := (Option.bind_some _ _).symm.trans H; with_reducible exact H2_) | with_reducible exact H | (rw [hy297]; exact H) | exact H
                    have Ny297 := Ω5_5 hy297
                    clear hy297
                    by_cases c56 : x6_2.length < 17592186044416
                    ·rw [if_pos c56] at H
                     have LMc56 := Ω5_5 c56
                     clear c56
                     obtain ⟨y298, hy298⟩ : ∃ y_ : List Int, y_ = (x6_2 ++ [x11_3]) := ⟨_, rfl⟩
                     replace H : (if x7_2.length < 17592186044416 then (impl_Route.l0 k3 a1 y298 (x7_2 ++ [rd x9_2 x11_3]) (rd l0_0 1) y297 (rd l0_0 0) (wrap64 (x42_2 + 1)) l0_0 l0_1) else (none)) = some (r1, r2) := by first | (rw [hy298]; with_reducible exact H) | (have H2_ := (Option.bind_some _ _).symm.trans H; rw [hy298]; with_reducible exact H2_) | (have H2_ := (Option.bind_some _ _).symm.trans H; with_reducible exact H2_) | with_reducible exact H | (rw [hy298]; exact H) | exact H
                     have Ny298 := Ω5_5 hy298
                     clear hy298
                     by_cases c57 : x7_2.length < 17592186044416
                     ·rw [if_pos c57] at H
                      have LMc57 := Ω5_5 c57
                      clear c57
                      obtain ⟨y301, hy301⟩ : ∃ y_ : List Int, y_ = (x7_2 ++ [rd x9_2 x11_3]) := ⟨_, rfl⟩
                      replace H : (impl_Route.l0 k3 a1 y298 y301 (rd l0_0 1) y297 (rd l0_0 0) (wrap64 (x42_2 + 1)) l0_0 l0_1) = some (r1, r2) := by first | (rw [hy301]; with_reducible exact H) | (have H2_ := (Option.bind_some _ _).symm.trans H; rw [hy301]; with_reducible exact H2_) | (have H2_ := (Option.bind_some _ _).symm.trans H; with_reducible exact H2_) | with_reducible exact H | (rw [hy301]; exact H) | exact H
                      have Ny301 := Ω5_5 hy301
                      clear hy301
                      have H' := Ω5_5 H
                      clear H
                      obtain ⟨Ao58, co58, eo58⟩ := Kd.R_slice HO_9.out
                      subst eo58
                      have p295 : 0 ≤ (x11_3 : Int) := ΩS_5 (by first | (with_reducible assumption) | assumption)
                      have q295 : x11_3 < (x9_2.length : Int) := ΩS_5 (by first | (with_reducible assumption) | assumption)
                      obtain ⟨ad295, e295, hx295_0⟩ := Kd.at_int (Kd.R_reads' HO_9.out).2.2 x11_3 p295 q295
                      cases e295
                      replace p295 := eq_true p295
                      replace q295 := eq_true q295
                      have p296 : 0 ≤ (x11_3 : Int) := ΩS_5 (by first | (with_reducible assumption) | assumption)
                      have q296 : x11_3 < (x9_2.length : Int) := ΩS_5 (by first | (with_reducible assumption) | assumption)
                      obtain ⟨ad296, e296, hx296_0⟩ := Kd.at_int (Kd.R_reads' HO_9.out).2.2 x11_3 p296 q296
                      obtain rfl : ad295 = ad296 := (by injection e296)
                      replace p296 := eq_true p296
                      replace q296 := eq_true q296
                      have p55 : 0 ≤ (x11_3 : Int) := ΩS_5 (by first | (with_reducible assumption) | assumption)
                      have q55 : (x11_3 : Int) < ((x9_2.length : Int) : Int) := ΩS_5 (by first | (with_reducible assumption) | assumption)
                      obtain ⟨go55, co55, eo55, gb55, gl55, cl55, HG55⟩ := Kd.R_form HO_9.out (by omega)
                      (first | cases eo55 | (injection eo55 with ea_ en_ ec_; (first | subst ea_ | (injection ea_ with ea_; subst ea_)); subst ec_; clear en_))
                      have GB55 := Ω5_5 gb55
                      have GG55 := Ω5_5 HG55
                      clear gb55 gl55 HG55
                      (first | simp only [add_plain] at hx295_0 | skip)
                      (first | simp only [add_plain] at hx296_0 | skip)
                      obtain ⟨hx55_0, hf55_0⟩ := Kd.R_celln 0 HO_9.out (x11_3 : Int) p55 q55
                      replace p55 := eq_true p55
                      replace q55 := eq_true q55
                      have HP59 := Kd.R_putg HO_9.out (x11_3 : Int) (wrap64 ((rd x9_2 x11_3) + 1))
                      go_wp2_with (first | ((with_reducible refine gate_store (t := 3) (p := 95) rfl ?_); (try (rw [drewN_self wr]; generalize hq_ : World.drewN wr _ = wr; have n0_ := Ω5_5 (Kd.R_at hq_ HO_6.out); have n1_ := Ω5_5 (Kd.R_at hq_ HO_7.out); have n2_ := Ω5_5 (Kd.R_at hq_ HO_9.out); have n3_ := Ω5_5 (blk_at hq_ BK275.out); have n4_ := Ω5_5 (below_at hq_ HB.out); clear hq_ HO_6 HO_7 HO_9 BK275 HB; have HO_6 := n0_; have HO_7 := n1_; have HO_9 := n2_; have BK275 := n3_; have HB := n4_; clear n0_ n1_ n2_ n3_ n4_; (try (have HP59 := Kd.R_putg HO_9.out (x11_3 : Int) (wrap64 ((rd x9_2 x11_3) + 1)))))); refine store_event (t := 3) (p := 95) (v := ?vo_w60) (w1 := (wr.setCell ⟨go55, (x11_3 : Int).toNat, none⟩ (.int .i64 (wrap64 ((rd x9_2 x11_3) + 1))))) ?hg ?ho ?hn ?hr ?_; (case ho => rfl); (case hg => rfl); (case hn => rfl); (case hr => first | (go_simp; done) | (go_simp; rfl)); intro w60 hw; have hg : wr.grownBy w60 (some go55) := (by rw [hw]; exact HP59.2); have hp_ : Kd.R (Kd.int .i64) 3 w60 w.heap.size (fun k_ => some k_ ≠ (u6 : Value).ownBlock ∧ some k_ ≠ (u7 : Value).ownBlock) (.slice (some ⟨go55, 0, none⟩) x9_2.length co58) y297 := (by rw [hw, Ny297.out]; exact HP59.1); clear HP59; have n0_ := Ω5_5 (Kd.R_after (v := (.slice (some ⟨go55, 0, none⟩) x9_2.length co58)) (v1 := (.slice (some ⟨go55, 0, none⟩) x9_2.length co58)) (ok := (fun k_ => some k_ ≠ (u7 : Value).ownBlock)) (by (with_reducible repeat (first | apply Ω1_5 | apply Ω2_5 | apply Ω3_5)); exact HO_6.out) hg (.inl rfl)); have n1_ := Ω5_5 (Kd.R_after (v := (.slice (some ⟨go55, 0, none⟩) x9_2.length co58)) (v1 := (.slice (some ⟨go55, 0, none⟩) x9_2.length co58)) (ok := (fun k_ => some k_ ≠ (u6 : Value).ownBlock)) (by (with_reducible repeat (first | apply Ω1_5 | apply Ω2_5 | apply Ω3_5)); exact HO_7.out) hg (.inl rfl)); have n2_ := Ω5_5 (hp_); have n3_ := Ω5_5 (blk_grown (g := gb275) (o := .cells #[.slice (some ad284) l0_0.length c0_0, .slice A0_1 l0_1.length c0_1] 39 (0, 0)) (by (with_reducible repeat (first | refine blk_drewN ?_ _ | refine blk_drew ?_ | refine blk_alloc ?_ _)); exact BK275.out) hg (Kd.R_ne HO_9.out BK275.out (by decide))); have n4_ := Ω5_5 ((by rw [hw]; exact Ω9_5 (HB.out) GB55.out : Below w.heap.size w w60)); clear HO_6; clear HO_7; clear HO_9; clear BK275; clear HB; have HO_6 := n0_; have HO_7 := n1_; have HO_9 := n2_; have BK275 := n3_; have HB := n4_; clear n0_ n1_ n2_ n3_ n4_; clear hg hw hp_) | ((with_reducible refine gate_builtin (b := .append) (xs := #[.tmp 96, .tmp 98]) rfl ?_); (try (refine gate_guard (by rfl) ?_; dsimp only)); at_builtin; refine Kd.R_append (Kd.int .i64) (w0 := w) w.heap.size rfl (.tmp 96) (.tmp 98) 22 3 (.int .i64 0) 8 rfl Try.underlying22 info3 rfl (by decide) (by omega) u6 x6_2 x11_3 [.int .i64 x11_3] (fun k_ => some k_ ≠ (u7 : Value).ownBlock ∧ some k_ ≠ (.slice (some ⟨go55, 0, none⟩) x9_2.length co58 : Value).ownBlock) (fun _ => False) rfl rfl ?aP (fun _ hk => hk.elim) ?aF ?aO ?aB ?aS ?aL ?_; (case aP => exact rfl); (case aB => exact (by repeat (first | (with_reducible first | exact HB.out | apply Ω6_5 | apply Ω7_5 | apply Ω8_5 | refine Ω9_5 ?_ GE275.out) | exact HB.out))); (case aF => exact (fun k_ hk => ⟨Kd.fresh' (Kd.R_lt (by (with_reducible repeat (first | apply Ω1_5 | apply Ω2_5 | apply Ω3_5)); exact HO_7.out)) k_ hk, Kd.fresh' (Kd.R_lt (by (with_reducible repeat (first | apply Ω1_5 | apply Ω2_5 | apply Ω3_5)); exact HO_9.out)) k_ hk⟩)); (case aO => exact (by (with_reducible repeat (first | apply Ω1_5 | apply Ω2_5 | apply Ω3_5)); exact HO_6.out)); (case aS => exact (below_size (by repeat (first | (with_reducible first | exact HB.out | apply Ω6_5 | apply Ω7_5 | apply Ω8_5 | refine Ω9_5 ?_ GE275.out) | exact HB.out)))); (case aL => have := LMc56.out; omega); intro v299 w61 ho hb hg hat; rw [← Ny298.out] at ho; have n0_ := Ω5_5 (Kd.R_after (ok := (fun k_ => some k_ ≠ (.slice (some ⟨go55, 0, none⟩) x9_2.length co58 : Value).ownBlock)) (by (with_reducible repeat (first | apply Ω1_5 | apply Ω2_5 | apply Ω3_5)); exact Kd.R_mono HO_7.out (fun _ hk => ⟨hk.2, hk.1⟩)) hg hat); have n1_ := Ω5_5 (Kd.R_after (ok := (fun k_ => some k_ ≠ (u7 : Value).ownBlock)) (by (with_reducible repeat (first | apply Ω1_5 | apply Ω2_5 | apply Ω3_5)); exact Kd.R_mono HO_9.out (fun _ hk => ⟨hk.2, hk.1⟩)) hg hat); have n2_ := Ω5_5 (blk_grown (g := gb275) (o := .cells #[.slice (some ad284) l0_0.length c0_0, .slice A0_1 l0_1.length c0_1] 39 (0, 0)) (by (with_reducible repeat (first | refine blk_drewN ?_ _ | refine blk_drew ?_ | refine blk_alloc ?_ _)); exact BK275.out) hg (Kd.R_ne HO_6.out BK275.out (by decide))); have n3_ := Ω5_5 (hb); have n4_ := Ω5_5 (ho); clear HO_7; clear HO_9; clear BK275; clear HB; clear HO_6; have HO_7 := n0_; have HO_9 := n1_; have BK275 := n2_; have HB := n3_; have HO300 := n4_; clear n0_ n1_ n2_ n3_ n4_; clear ho hb hg hat) | ((with_reducible refine gate_builtin (b := .append) (xs := #[.tmp 100, .tmp 102]) rfl ?_); (try (refine gate_guard (by rfl) ?_; dsimp only)); at_builtin; refine Kd.R_append (Kd.int .i64) (w0 := w) w.heap.size rfl (.tmp 100) (.tmp 102) 22 3 (.int .i64 0) 8 rfl Try.underlying22 info3 rfl (by decide) (by omega) u7 x7_2 (rd x9_2 x11_3) [.int .i64 (rd x9_2 x11_3)] (fun k_ => some k_ ≠ (.slice (some ⟨go55, 0, none⟩) x9_2.length co58 : Value).ownBlock ∧ some k_ ≠ (v299 : Value).ownBlock) (fun _ => False) rfl rfl ?aP (fun _ hk => hk.elim) ?aF ?aO ?aB ?aS ?aL ?_; (case aP => exact rfl); (case aB => exact (by repeat (first | (with_reducible first | exact HB.out | apply Ω6_5 | apply Ω7_5 | apply Ω8_5 | refine Ω9_5 ?_ GE275.out) | exact HB.out))); (case aF => exact (fun k_ hk => ⟨Kd.fresh' (Kd.R_lt (by (with_reducible repeat (first | apply Ω1_5 | apply Ω2_5 | apply Ω3_5)); exact HO_9.out)) k_ hk, Kd.fresh' (Kd.R_lt (by (with_reducible repeat (first | apply Ω1_5 | apply Ω2_5 | apply Ω3_5)); exact HO300.out)) k_ hk⟩)); (case aO => exact (by (with_reducible repeat (first | apply Ω1_5 | apply Ω2_5 | apply Ω3_5)); exact HO_7.out)); (case aS => exact (below_size (by repeat (first | (with_reducible first | exact HB.out | apply Ω6_5 | apply Ω7_5 | apply Ω8_5 | refine Ω9_5 ?_ GE275.out) | exact HB.out)))); (case aL => have := LMc57.out; omega); intro v302 w62 ho hb hg hat; rw [← Ny301.out] at ho; have n0_ := Ω5_5 (Kd.R_after (ok := (fun k_ => some k_ ≠ (v299 : Value).ownBlock)) (by (with_reducible repeat (first | apply Ω1_5 | apply Ω2_5 | apply Ω3_5)); exact Kd.R_mono HO_9.out (fun _ hk => ⟨hk.2, hk.1⟩)) hg hat); have n1_ := Ω5_5 (blk_grown (g := gb275) (o := .cells #[.slice (some ad284) l0_0.length c0_0, .slice A0_1 l0_1.length c0_1] 39 (0, 0)) (by (with_reducible repeat (first | refine blk_drewN ?_ _ | refine blk_drew ?_ | refine blk_alloc ?_ _)); exact BK275.out) hg (Kd.R_ne HO_7.out BK275.out (by decide))); have n2_ := Ω5_5 (Kd.R_after (ok := (fun k_ => some k_ ≠ (.slice (some ⟨go55, 0, none⟩) x9_2.length co58 : Value).ownBlock)) (by (with_reducible repeat (first | apply Ω1_5 | apply Ω2_5 | apply Ω3_5)); exact Kd.R_mono HO300.out (fun _ hk => ⟨hk.2, hk.1⟩)) hg hat); have n3_ := Ω5_5 (hb); have n4_ := Ω5_5 (ho); clear HO_9; clear BK275; clear HO300; clear HB; clear HO_7; have HO_9 := n0_; have BK275 := n1_; have HO300 := n2_; have HB := n3_; have HO303 := n4_; clear n0_ n1_ n2_ n3_ n4_; clear ho hb hg hat))
                      repeat (go_quiet (first | ((with_reducible refine gate_store (t := 3) (p := 95) rfl ?_); (try (rw [drewN_self wr]; generalize hq_ : World.drewN wr _ = wr; have n0_ := Ω5_5 (Kd.R_at hq_ HO_6.out); have n1_ := Ω5_5 (Kd.R_at hq_ HO_7.out); have n2_ := Ω5_5 (Kd.R_at hq_ HO_9.out); have n3_ := Ω5_5 (blk_at hq_ BK275.out); have n4_ := Ω5_5 (below_at hq_ HB.out); clear hq_ HO_6 HO_7 HO_9 BK275 HB; have HO_6 := n0_; have HO_7 := n1_; have HO_9 := n2_; have BK275 := n3_; have HB := n4_; clear n0_ n1_ n2_ n3_ n4_; (try (have HP59 := Kd.R_putg HO_9.out (x11_3 : Int) (wrap64 ((rd x9_2 x11_3) + 1)))))); refine store_event (t := 3) (p := 95) (v := ?vo_w60) (w1 := (wr.setCell ⟨go55, (x11_3 : Int).toNat, none⟩ (.int .i64 (wrap64 ((rd x9_2 x11_3) + 1))))) ?hg ?ho ?hn ?hr ?_; (case ho => rfl); (case hg => rfl); (case hn => rfl); (case hr => first | (go_simp; done) | (go_simp; rfl)); intro w60 hw; have hg : wr.grownBy w60 (some go55) := (by rw [hw]; exact HP59.2); have hp_ : Kd.R (Kd.int .i64) 3 w60 w.heap.size (fun k_ => some k_ ≠ (u6 : Value).ownBlock ∧ some k_ ≠ (u7 : Value).ownBlock) (.slice (some ⟨go55, 0, none⟩) x9_2.length co58) y297 := (by rw [hw, Ny297.out]; exact HP59.1); clear HP59; have n0_ := Ω5_5 (Kd.R_after (v := (.slice (some ⟨go55, 0, none⟩) x9_2.length co58)) (v1 := (.slice (some ⟨go55, 0, none⟩) x9_2.length co58)) (ok := (fun k_ => some k_ ≠ (u7 : Value).ownBlock)) (by (with_reducible repeat (first | apply Ω1_5 | apply Ω2_5 | apply Ω3_5)); exact HO_6.out) hg (.inl rfl)); have n1_ := Ω5_5 (Kd.R_after (v := (.slice (some ⟨go55, 0, none⟩) x9_2.length co58)) (v1 := (.slice (some ⟨go55, 0, none⟩) x9_2.length co58)) (ok := (fun k_ => some k_ ≠ (u6 : Value).ownBlock)) (by (with_reducible repeat (first | apply Ω1_5 | apply Ω2_5 | apply Ω3_5)); exact HO_7.out) hg (.inl rfl)); have n2_ := Ω5_5 (hp_); have n3_ := Ω5_5 (blk_grown (g := gb275) (o := .cells #[.slice (some ad284) l0_0.length c0_0, .slice A0_1 l0_1.length c0_1] 39 (0, 0)) (by (with_reducible repeat (first | refine blk_drewN ?_ _ | refine blk_drew ?_ | refine blk_alloc ?_ _)); exact BK275.out) hg (Kd.R_ne HO_9.out BK275.out (by decide))); have n4_ := Ω5_5 ((by rw [hw]; exact Ω9_5 (HB.out) GB55.out : Below w.heap.size w w60)); clear HO_6; clear HO_7; clear HO_9; clear BK275; clear HB; have HO_6 := n0_; have HO_7 := n1_; have HO_9 := n2_; have BK275 := n3_; have HB := n4_; clear n0_ n1_ n2_ n3_ n4_; clear hg hw hp_) | ((with_reducible refine gate_builtin (b := .append) (xs := #[.tmp 96, .tmp 98]) rfl ?_); (try (refine gate_guard (by rfl) ?_; dsimp only)); at_builtin; refine Kd.R_append (Kd.int .i64) (w0 := w) w.heap.size rfl (.tmp 96) (.tmp 98) 22 3 (.int .i64 0) 8 rfl Try.underlying22 info3 rfl (by decide) (by omega) u6 x6_2 x11_3 [.int .i64 x11_3] (fun k_ => some k_ ≠ (u7 : Value).ownBlock ∧ some k_ ≠ (.slice (some ⟨go55, 0, none⟩) x9_2.length co58 : Value).ownBlock) (fun _ => False) rfl rfl ?aP (fun _ hk => hk.elim) ?aF ?aO ?aB ?aS ?aL ?_; (case aP => exact rfl); (case aB => exact (by repeat (first | (with_reducible first | exact HB.out | apply Ω6_5 | apply Ω7_5 | apply Ω8_5 | refine Ω9_5 ?_ GE275.out) | exact HB.out))); (case aF => exact (fun k_ hk => ⟨Kd.fresh' (Kd.R_lt (by (with_reducible repeat (first | apply Ω1_5 | apply Ω2_5 | apply Ω3_5)); exact HO_7.out)) k_ hk, Kd.fresh' (Kd.R_lt (by (with_reducible repeat (first | apply Ω1_5 | apply Ω2_5 | apply Ω3_5)); exact HO_9.out)) k_ hk⟩)); (case aO => exact (by (with_reducible repeat (first | apply Ω1_5 | apply Ω2_5 | apply Ω3_5)); exact HO_6.out)); (case aS => exact (below_size (by repeat (first | (with_reducible first | exact HB.out | apply Ω6_5 | apply Ω7_5 | apply Ω8_5 | refine Ω9_5 ?_ GE275.out) | exact HB.out)))); (case aL => have := LMc56.out; omega); intro v299 w61 ho hb hg hat; rw [← Ny298.out] at ho; have n0_ := Ω5_5 (Kd.R_after (ok := (fun k_ => some k_ ≠ (.slice (some ⟨go55, 0, none⟩) x9_2.length co58 : Value).ownBlock)) (by (with_reducible repeat (first | apply Ω1_5 | apply Ω2_5 | apply Ω3_5)); exact Kd.R_mono HO_7.out (fun _ hk => ⟨hk.2, hk.1⟩)) hg hat); have n1_ := Ω5_5 (Kd.R_after (ok := (fun k_ => some k_ ≠ (u7 : Value).ownBlock)) (by (with_reducible repeat (first | apply Ω1_5 | apply Ω2_5 | apply Ω3_5)); exact Kd.R_mono HO_9.out (fun _ hk => ⟨hk.2, hk.1⟩)) hg hat); have n2_ := Ω5_5 (blk_grown (g := gb275) (o := .cells #[.slice (some ad284) l0_0.length c0_0, .slice A0_1 l0_1.length c0_1] 39 (0, 0)) (by (with_reducible repeat (first | refine blk_drewN ?_ _ | refine blk_drew ?_ | refine blk_alloc ?_ _)); exact BK275.out) hg (Kd.R_ne HO_6.out BK275.out (by decide))); have n3_ := Ω5_5 (hb); have n4_ := Ω5_5 (ho); clear HO_7; clear HO_9; clear BK275; clear HB; clear HO_6; have HO_7 := n0_; have HO_9 := n1_; have BK275 := n2_; have HB := n3_; have HO300 := n4_; clear n0_ n1_ n2_ n3_ n4_; clear ho hb hg hat) | ((with_reducible refine gate_builtin (b := .append) (xs := #[.tmp 100, .tmp 102]) rfl ?_); (try (refine gate_guard (by rfl) ?_; dsimp only)); at_builtin; refine Kd.R_append (Kd.int .i64) (w0 := w) w.heap.size rfl (.tmp 100) (.tmp 102) 22 3 (.int .i64 0) 8 rfl Try.underlying22 info3 rfl (by decide) (by omega) u7 x7_2 (rd x9_2 x11_3) [.int .i64 (rd x9_2 x11_3)] (fun k_ => some k_ ≠ (.slice (some ⟨go55, 0, none⟩) x9_2.length co58 : Value).ownBlock ∧ some k_ ≠ (v299 : Value).ownBlock) (fun _ => False) rfl rfl ?aP (fun _ hk => hk.elim) ?aF ?aO ?aB ?aS ?aL ?_; (case aP => exact rfl); (case aB => exact (by repeat (first | (with_reducible first | exact HB.out | apply Ω6_5 | apply Ω7_5 | apply Ω8_5 | refine Ω9_5 ?_ GE275.out) | exact HB.out))); (case aF => exact (fun k_ hk => ⟨Kd.fresh' (Kd.R_lt (by (with_reducible repeat (first | apply Ω1_5 | apply Ω2_5 | apply Ω3_5)); exact HO_9.out)) k_ hk, Kd.fresh' (Kd.R_lt (by (with_reducible repeat (first | apply Ω1_5 | apply Ω2_5 | apply Ω3_5)); exact HO300.out)) k_ hk⟩)); (case aO => exact (by (with_reducible repeat (first | apply Ω1_5 | apply Ω2_5 | apply Ω3_5)); exact HO_7.out)); (case aS => exact (below_size (by repeat (first | (with_reducible first | exact HB.out | apply Ω6_5 | apply Ω7_5 | apply Ω8_5 | refine Ω9_5 ?_ GE275.out) | exact HB.out)))); (case aL => have := LMc57.out; omega); intro v302 w62 ho hb hg hat; rw [← Ny301.out] at ho; have n0_ := Ω5_5 (Kd.R_after (ok := (fun k_ => some k_ ≠ (v299 : Value).ownBlock)) (by (with_reducible repeat (first | apply Ω1_5 | apply Ω2_5 | apply Ω3_5)); exact Kd.R_mono HO_9.out (fun _ hk => ⟨hk.2, hk.1⟩)) hg hat); have n1_ := Ω5_5 (blk_grown (g := gb275) (o := .cells #[.slice (some ad284) l0_0.length c0_0, .slice A0_1 l0_1.length c0_1] 39 (0, 0)) (by (with_reducible repeat (first | refine blk_drewN ?_ _ | refine blk_drew ?_ | refine blk_alloc ?_ _)); exact BK275.out) hg (Kd.R_ne HO_7.out BK275.out (by decide))); have n2_ := Ω5_5 (Kd.R_after (ok := (fun k_ => some k_ ≠ (.slice (some ⟨go55, 0, none⟩) x9_2.length co58 : Value).ownBlock)) (by (with_reducible repeat (first | apply Ω1_5 | apply Ω2_5 | apply Ω3_5)); exact Kd.R_mono HO300.out (fun _ hk => ⟨hk.2, hk.1⟩)) hg hat); have n3_ := Ω5_5 (hb); have n4_ := Ω5_5 (ho); clear HO_9; clear BK275; clear HO300; clear HB; clear HO_7; have HO_9 := n0_; have BK275 := n1_; have HO300 := n2_; have HB := n3_; have HO303 := n4_; clear n0_ n1_ n2_ n3_ n4_; clear ho hb hg hat)); try go_wp2_with (first | ((with_reducible refine gate_store (t := 3) (p := 95) rfl ?_); (try (rw [drewN_self wr]; generalize hq_ : World.drewN wr _ = wr; have n0_ := Ω5_5 (Kd.R_at hq_ HO_6.out); have n1_ := Ω5_5 (Kd.R_at hq_ HO_7.out); have n2_ := Ω5_5 (Kd.R_at hq_ HO_9.out); have n3_ := Ω5_5 (blk_at hq_ BK275.out); have n4_ := Ω5_5 (below_at hq_ HB.out); clear hq_ HO_6 HO_7 HO_9 BK275 HB; have HO_6 := n0_; have HO_7 := n1_; have HO_9 := n2_; have BK275 := n3_; have HB := n4_; clear n0_ n1_ n2_ n3_ n4_; (try (have HP59 := Kd.R_putg HO_9.out (x11_3 : Int) (wrap64 ((rd x9_2 x11_3) + 1)))))); refine store_event (t := 3) (p := 95) (v := ?vo_w60) (w1 := (wr.setCell ⟨go55, (x11_3 : Int).toNat, none⟩ (.int .i64 (wrap64 ((rd x9_2 x11_3) + 1))))) ?hg ?ho ?hn ?hr ?_; (case ho => rfl); (case hg => rfl); (case hn => rfl); (case hr => first | (go_simp; done) | (go_simp; rfl)); intro w60 hw; have hg : wr.grownBy w60 (some go55) := (by rw [hw]; exact HP59.2); have hp_ : Kd.R (Kd.int .i64) 3 w60 w.heap.size (fun k_ => some k_ ≠ (u6 : Value).ownBlock ∧ some k_ ≠ (u7 : Value).ownBlock) (.slice (some ⟨go55, 0, none⟩) x9_2.length co58) y297 := (by rw [hw, Ny297.out]; exact HP59.1); clear HP59; have n0_ := Ω5_5 (Kd.R_after (v := (.slice (some ⟨go55, 0, none⟩) x9_2.length co58)) (v1 := (.slice (some ⟨go55, 0, none⟩) x9_2.length co58)) (ok := (fun k_ => some k_ ≠ (u7 : Value).ownBlock)) (by (with_reducible repeat (first | apply Ω1_5 | apply Ω2_5 | apply Ω3_5)); exact HO_6.out) hg (.inl rfl)); have n1_ := Ω5_5 (Kd.R_after (v := (.slice (some ⟨go55, 0, none⟩) x9_2.length co58)) (v1 := (.slice (some ⟨go55, 0, none⟩) x9_2.length co58)) (ok := (fun k_ => some k_ ≠ (u6 : Value).ownBlock)) (by (with_reducible repeat (first | apply Ω1_5 | apply Ω2_5 | apply Ω3_5)); exact HO_7.out) hg (.inl rfl)); have n2_ := Ω5_5 (hp_); have n3_ := Ω5_5 (blk_grown (g := gb275) (o := .cells #[.slice (some ad284) l0_0.length c0_0, .slice A0_1 l0_1.length c0_1] 39 (0, 0)) (by (with_reducible repeat (first | refine blk_drewN ?_ _ | refine blk_drew ?_ | refine blk_alloc ?_ _)); exact BK275.out) hg (Kd.R_ne HO_9.out BK275.out (by decide))); have n4_ := Ω5_5 ((by rw [hw]; exact Ω9_5 (HB.out) GB55.out : Below w.heap.size w w60)); clear HO_6; clear HO_7; clear HO_9; clear BK275; clear HB; have HO_6 := n0_; have HO_7 := n1_; have HO_9 := n2_; have BK275 := n3_; have HB := n4_; clear n0_ n1_ n2_ n3_ n4_; clear hg hw hp_) | ((with_reducible refine gate_builtin (b := .append) (xs := #[.tmp 96, .tmp 98]) rfl ?_); (try (refine gate_guard (by rfl) ?_; dsimp only)); at_builtin; refine Kd.R_append (Kd.int .i64) (w0 := w) w.heap.size rfl (.tmp 96) (.tmp 98) 22 3 (.int .i64 0) 8 rfl Try.underlying22 info3 rfl (by decide) (by omega) u6 x6_2 x11_3 [.int .i64 x11_3] (fun k_ => some k_ ≠ (u7 : Value).ownBlock ∧ some k_ ≠ (.slice (some ⟨go55, 0, none⟩) x9_2.length co58 : Value).ownBlock) (fun _ => False) rfl rfl ?aP (fun _ hk => hk.elim) ?aF ?aO ?aB ?aS ?aL ?_; (case aP => exact rfl); (case aB => exact (by repeat (first | (with_reducible first | exact HB.out | apply Ω6_5 | apply Ω7_5 | apply Ω8_5 | refine Ω9_5 ?_ GE275.out) | exact HB.out))); (case aF => exact (fun k_ hk => ⟨Kd.fresh' (Kd.R_lt (by (with_reducible repeat (first | apply Ω1_5 | apply Ω2_5 | apply Ω3_5)); exact HO_7.out)) k_ hk, Kd.fresh' (Kd.R_lt (by (with_reducible repeat (first | apply Ω1_5 | apply Ω2_5 | apply Ω3_5)); exact HO_9.out)) k_ hk⟩)); (case aO => exact (by (with_reducible repeat (first | apply Ω1_5 | apply Ω2_5 | apply Ω3_5)); exact HO_6.out)); (case aS => exact (below_size (by repeat (first | (with_reducible first | exact HB.out | apply Ω6_5 | apply Ω7_5 | apply Ω8_5 | refine Ω9_5 ?_ GE275.out) | exact HB.out)))); (case aL => have := LMc56.out; omega); intro v299 w61 ho hb hg hat; rw [← Ny298.out] at ho; have n0_ := Ω5_5 (Kd.R_after (ok := (fun k_ => some k_ ≠ (.slice (some ⟨go55, 0, none⟩) x9_2.length co58 : Value).ownBlock)) (by (with_reducible repeat (first | apply Ω1_5 | apply Ω2_5 | apply Ω3_5)); exact Kd.R_mono HO_7.out (fun _ hk => ⟨hk.2, hk.1⟩)) hg hat); have n1_ := Ω5_5 (Kd.R_after (ok := (fun k_ => some k_ ≠ (u7 : Value).ownBlock)) (by (with_reducible repeat (first | apply Ω1_5 | apply Ω2_5 | apply Ω3_5)); exact Kd.R_mono HO_9.out (fun _ hk => ⟨hk.2, hk.1⟩)) hg hat); have n2_ := Ω5_5 (blk_grown (g := gb275) (o := .cells #[.slice (some ad284) l0_0.length c0_0, .slice A0_1 l0_1.length c0_1] 39 (0, 0)) (by (with_reducible repeat (first | refine blk_drewN ?_ _ | refine blk_drew ?_ | refine blk_alloc ?_ _)); exact BK275.out) hg (Kd.R_ne HO_6.out BK275.out (by decide))); have n3_ := Ω5_5 (hb); have n4_ := Ω5_5 (ho); clear HO_7; clear HO_9; clear BK275; clear HB; clear HO_6; have HO_7 := n0_; have HO_9 := n1_; have BK275 := n2_; have HB := n3_; have HO300 := n4_; clear n0_ n1_ n2_ n3_ n4_; clear ho hb hg hat) | ((with_reducible refine gate_builtin (b := .append) (xs := #[.tmp 100, .tmp 102]) rfl ?_); (try (refine gate_guard (by rfl) ?_; dsimp only)); at_builtin; refine Kd.R_append (Kd.int .i64) (w0 := w) w.heap.size rfl (.tmp 100) (.tmp 102) 22 3 (.int .i64 0) 8 rfl Try.underlying22 info3 rfl (by decide) (by omega) u7 x7_2 (rd x9_2 x11_3) [.int .i64 (rd x9_2 x11_3)] (fun k_ => some k_ ≠ (.slice (some ⟨go55, 0, none⟩) x9_2.length co58 : Value).ownBlock ∧ some k_ ≠ (v299 : Value).ownBlock) (fun _ => False) rfl rfl ?aP (fun _ hk => hk.elim) ?aF ?aO ?aB ?aS ?aL ?_; (case aP => exact rfl); (case aB => exact (by repeat (first | (with_reducible first | exact HB.out | apply Ω6_5 | apply Ω7_5 | apply Ω8_5 | refine Ω9_5 ?_ GE275.out) | exact HB.out))); (case aF => exact (fun k_ hk => ⟨Kd.fresh' (Kd.R_lt (by (with_reducible repeat (first | apply Ω1_5 | apply Ω2_5 | apply Ω3_5)); exact HO_9.out)) k_ hk, Kd.fresh' (Kd.R_lt (by (with_reducible repeat (first | apply Ω1_5 | apply Ω2_5 | apply Ω3_5)); exact HO300.out)) k_ hk⟩)); (case aO => exact (by (with_reducible repeat (first | apply Ω1_5 | apply Ω2_5 | apply Ω3_5)); exact HO_7.out)); (case aS => exact (below_size (by repeat (first | (with_reducible first | exact HB.out | apply Ω6_5 | apply Ω7_5 | apply Ω8_5 | refine Ω9_5 ?_ GE275.out) | exact HB.out)))); (case aL => have := LMc57.out; omega); intro v302 w62 ho hb hg hat; rw [← Ny301.out] at ho; have n0_ := Ω5_5 (Kd.R_after (ok := (fun k_ => some k_ ≠ (v299 : Value).ownBlock)) (by (with_reducible repeat (first | apply Ω1_5 | apply Ω2_5 | apply Ω3_5)); exact Kd.R_mono HO_9.out (fun _ hk => ⟨hk.2, hk.1⟩)) hg hat); have n1_ := Ω5_5 (blk_grown (g := gb275) (o := .cells #[.slice (some ad284) l0_0.length c0_0, .slice A0_1 l0_1.length c0_1] 39 (0, 0)) (by (with_reducible repeat (first | refine blk_drewN ?_ _ | refine blk_drew ?_ | refine blk_alloc ?_ _)); exact BK275.out) hg (Kd.R_ne HO_7.out BK275.out (by decide))); have n2_ := Ω5_5 (Kd.R_after (ok := (fun k_ => some k_ ≠ (.slice (some ⟨go55, 0, none⟩) x9_2.length co58 : Value).ownBlock)) (by (with_reducible repeat (first | apply Ω1_5 | apply Ω2_5 | apply Ω3_5)); exact Kd.R_mono HO300.out (fun _ hk => ⟨hk.2, hk.1⟩)) hg hat); have n3_ := Ω5_5 (hb); have n4_ := Ω5_5 (ho); clear HO_9; clear BK275; clear HO300; clear HB; clear HO_7; have HO_9 := n0_; have BK275 := n1_; have HO300 := n2_; have HB := n3_; have HO303 := n4_; clear n0_ n1_ n2_ n3_ n4_; clear ho hb hg hat)))
                      go_roundg k3
                      case measure => have := HJ2.out; have := HK2.out; have := HK3.out; omega
                      case rel => exact ⟨(y298), (y301), (y297), (wrap64 (x42_2 + 1)), (by first | rfl | (simp; done) | (simp [*]; done)), H', ⟨by have := HJ2.out; have := HK2.out; have := HK3.out; omega⟩, ⟨by (with_reducible repeat (first | apply Ω1_5 | apply Ω2_5 | apply Ω3_5)); exact Kd.R_mono HO300.out (fun _ hk => ⟨hk.2, hk.1⟩)⟩, ⟨by (with_reducible repeat (first | apply Ω1_5 | apply Ω2_5 | apply Ω3_5)); exact Kd.R_mono HO303.out (fun _ hk => ⟨hk.2, hk.1⟩)⟩, ⟨by (with_reducible repeat (first | apply Ω1_5 | apply Ω2_5 | apply Ω3_5)); exact HO_9.out⟩, ⟨by (with_reducible repeat (first | refine blk_drewN ?_ _ | refine blk_drew ?_ | refine blk_alloc ?_ _)); exact BK275.out⟩, ⟨by repeat (first | (with_reducible first | exact HB.out | apply Ω6_5 | apply Ω7_5 | apply Ω8_5 | refine Ω9_5 ?_ GE275.out) | exact HB.out)⟩⟩
                     ·rw [if_neg c57] at H
                      exact absurd H (by simp)
                    ·rw [if_neg c56] at H
                     exact absurd H (by simp)
                   ·rw [if_neg c54] at H
                    exact absurd H (by simp)
                  ·rw [if_neg c53] at H
                   exact absurd H (by simp)
                 ·rw [if_neg c52] at H
                  have c52b0 : decide (0 ≤ x11_3) = false := decide_eq_false c52
                  clear c52
                  by_cases c63 : x6_2.length < 17592186044416
                  ·rw [if_pos c63] at H
                   have LMc63 := Ω5_5 c63
                   clear c63
                   obtain ⟨y304, hy304⟩ : ∃ y_ : List Int, y_ = (x6_2 ++ [x11_3]) := ⟨_, rfl⟩
                   replace H : (if x7_2.length < 17592186044416 then (impl_Route.l0 k3 a1 y304 (x7_2 ++ [(-1)]) (rd l0_0 1) x9_2 (rd l0_0 0) (wrap64 (x42_2 + 1)) l0_0 l0_1) else (none)) = some (r1, r2) := by first | (rw [hy304]; with_reducible exact H) | (have H2_ := (Option.bind_some _ _).symm.trans H; rw [hy304]; with_reducible exact H2_) | (have H2_ := (Option.bind_some _ _).symm.trans H; with_reducible exact H2_) | with_reducible exact H | (rw [hy304]; exact H) | exact H
                   have Ny304 := Ω5_5 hy304
                   clear hy304
                   by_cases c64 : x7_2.length < 17592186044416
                   ·rw [if_pos c64] at H
                    have LMc64 := Ω5_5 c64
                    clear c64
                    obtain ⟨y307, hy307⟩ : ∃ y_ : List Int, y_ = (x7_2 ++ [(-1)]) := ⟨_, rfl⟩
                    replace H : (impl_Route.l0 k3 a1 y304 y307 (rd l0_0 1) x9_2 (rd l0_0 0) (wrap64 (x42_2 + 1)) l0_0 l0_1) = some (r1, r2) := by first | (rw [hy307]; with_reducible exact H) | (have H2_ := (Option.bind_some _ _).symm.trans H; rw [hy307]; with_reducible exact H2_) | (have H2_ := (Option.bind_some _ _).symm.trans H; with_reducible exact H2_) | with_reducible exact H | (rw [hy307]; exact H) | exact H
                    have Ny307 := Ω5_5 hy307
                    clear hy307
                    have H' := Ω5_5 H
                    clear H
                    go_wp2_with (first | ((with_reducible refine gate_builtin (b := .append) (xs := #[.tmp 96, .tmp 98]) rfl ?_); (try (refine gate_guard (by rfl) ?_; dsimp only)); at_builtin; refine Kd.R_append (Kd.int .i64) (w0 := w) w.heap.size rfl (.tmp 96) (.tmp 98) 22 3 (.int .i64 0) 8 rfl Try.underlying22 info3 rfl (by decide) (by omega) u6 x6_2 x11_3 [.int .i64 x11_3] (fun k_ => some k_ ≠ (u7 : Value).ownBlock ∧ some k_ ≠ (v286 : Value).ownBlock) (fun _ => False) rfl rfl ?aP (fun _ hk => hk.elim) ?aF ?aO ?aB ?aS ?aL ?_; (case aP => exact rfl); (case aB => exact (by repeat (first | (with_reducible first | exact HB.out | apply Ω6_5 | apply Ω7_5 | apply Ω8_5 | refine Ω9_5 ?_ GE275.out) | exact HB.out))); (case aF => exact (fun k_ hk => ⟨Kd.fresh' (Kd.R_lt (by (with_reducible repeat (first | apply Ω1_5 | apply Ω2_5 | apply Ω3_5)); exact HO_7.out)) k_ hk, Kd.fresh' (Kd.R_lt (by (with_reducible repeat (first | apply Ω1_5 | apply Ω2_5 | apply Ω3_5)); exact HO_9.out)) k_ hk⟩)); (case aO => exact (by (with_reducible repeat (first | apply Ω1_5 | apply Ω2_5 | apply Ω3_5)); exact HO_6.out)); (case aS => exact (below_size (by repeat (first | (with_reducible first | exact HB.out | apply Ω6_5 | apply Ω7_5 | apply Ω8_5 | refine Ω9_5 ?_ GE275.out) | exact HB.out)))); (case aL => have := LMc63.out; omega); intro v305 w65 ho hb hg hat; rw [← Ny304.out] at ho; have n0_ := Ω5_5 (Kd.R_after (ok := (fun k_ => some k_ ≠ (v286 : Value).ownBlock)) (by (with_reducible repeat (first | apply Ω1_5 | apply Ω2_5 | apply Ω3_5)); exact Kd.R_mono HO_7.out (fun _ hk => ⟨hk.2, hk.1⟩)) hg hat); have n1_ := Ω5_5 (Kd.R_after (ok := (fun k_ => some k_ ≠ (u7 : Value).ownBlock)) (by (with_reducible repeat (first | apply Ω1_5 | apply Ω2_5 | apply Ω3_5)); exact Kd.R_mono HO_9.out (fun _ hk => ⟨hk.2, hk.1⟩)) hg hat); have n2_ := Ω5_5 (blk_grown (g := gb275) (o := .cells #[.slice (some ad284) l0_0.length c0_0, .slice A0_1 l0_1.length c0_1] 39 (0, 0)) (by (with_reducible repeat (first | refine blk_drewN ?_ _ | refine blk_drew ?_ | refine blk_alloc ?_ _)); exact BK275.out) hg (Kd.R_ne HO_6.out BK275.out (by decide))); have n3_ := Ω5_5 (hb); have n4_ := Ω5_5 (ho); clear HO_7; clear HO_9; clear BK275; clear HB; clear HO_6; have HO_7 := n0_; have HO_9 := n1_; have BK275 := n2_; have HB := n3_; have HO306 := n4_; clear n0_ n1_ n2_ n3_ n4_; clear ho hb hg hat) | ((with_reducible refine gate_builtin (b := .append) (xs := #[.tmp 100, .tmp 102]) rfl ?_); (try (refine gate_guard (by rfl) ?_; dsimp only)); at_builtin; refine Kd.R_append (Kd.int .i64) (w0 := w) w.heap.size rfl (.tmp 100) (.tmp 102) 22 3 (.int .i64 0) 8 rfl Try.underlying22 info3 rfl (by decide) (by omega) u7 x7_2 (-1) [.int .i64 (-1)] (fun k_ => some k_ ≠ (v286 : Value).ownBlock ∧ some k_ ≠ (v305 : Value).ownBlock) (fun _ => False) rfl rfl ?aP (fun _ hk => hk.elim) ?aF ?aO ?aB ?aS ?aL ?_; (case aP => exact rfl); (case aB => exact (by repeat (first | (with_reducible first | exact HB.out | apply Ω6_5 | apply Ω7_5 | apply Ω8_5 | refine Ω9_5 ?_ GE275.out) | exact HB.out))); (case aF => exact (fun k_ hk => ⟨Kd.fresh' (Kd.R_lt (by (with_reducible repeat (first | apply Ω1_5 | apply Ω2_5 | apply Ω3_5)); exact HO_9.out)) k_ hk, Kd.fresh' (Kd.R_lt (by (with_reducible repeat (first | apply Ω1_5 | apply Ω2_5 | apply Ω3_5)); exact HO306.out)) k_ hk⟩)); (case aO => exact (by (with_reducible repeat (first | apply Ω1_5 | apply Ω2_5 | apply Ω3_5)); exact HO_7.out)); (case aS => exact (below_size (by repeat (first | (with_reducible first | exact HB.out | apply Ω6_5 | apply Ω7_5 | apply Ω8_5 | refine Ω9_5 ?_ GE275.out) | exact HB.out)))); (case aL => have := LMc64.out; omega); intro v308 w66 ho hb hg hat; rw [← Ny307.out] at ho; have n0_ := Ω5_5 (Kd.R_after (ok := (fun k_ => some k_ ≠ (v305 : Value).ownBlock)) (by (with_reducible repeat (first | apply Ω1_5 | apply Ω2_5 | apply Ω3_5)); exact Kd.R_mono HO_9.out (fun _ hk => ⟨hk.2, hk.1⟩)) hg hat); have n1_ := Ω5_5 (blk_grown (g := gb275) (o := .cells #[.slice (some ad284) l0_0.length c0_0, .slice A0_1 l0_1.length c0_1] 39 (0, 0)) (by (with_reducible repeat (first | refine blk_drewN ?_ _ | refine blk_drew ?_ | refine blk_alloc ?_ _)); exact BK275.out) hg (Kd.R_ne HO_7.out BK275.out (by decide))); have n2_ := Ω5_5 (Kd.R_after (ok := (fun k_ => some k_ ≠ (v286 : Value).ownBlock)) (by (with_reducible repeat (first | apply Ω1_5 | apply Ω2_5 | apply Ω3_5)); exact Kd.R_mono HO306.out (fun _ hk => ⟨hk.2, hk.1⟩)) hg hat); have n3_ := Ω5_5 (hb); have n4_ := Ω5_5 (ho); clear HO_9; clear BK275; clear HO306; clear HB; clear HO_7; have HO_9 := n0_; have BK275 := n1_; have HO306 := n2_; have HB := n3_; have HO309 := n4_; clear n0_ n1_ n2_ n3_ n4_; clear ho hb hg hat))
                    repeat (go_quiet (first | ((with_reducible refine gate_builtin (b := .append) (xs := #[.tmp 96, .tmp 98]) rfl ?_); (try (refine gate_guard (by rfl) ?_; dsimp only)); at_builtin; refine Kd.R_append (Kd.int .i64) (w0 := w) w.heap.size rfl (.tmp 96) (.tmp 98) 22 3 (.int .i64 0) 8 rfl Try.underlying22 info3 rfl (by decide) (by omega) u6 x6_2 x11_3 [.int .i64 x11_3] (fun k_ => some k_ ≠ (u7 : Value).ownBlock ∧ some k_ ≠ (v286 : Value).ownBlock) (fun _ => False) rfl rfl ?aP (fun _ hk => hk.elim) ?aF ?aO ?aB ?aS ?aL ?_; (case aP => exact rfl); (case aB => exact (by repeat (first | (with_reducible first | exact HB.out | apply Ω6_5 | apply Ω7_5 | apply Ω8_5 | refine Ω9_5 ?_ GE275.out) | exact HB.out))); (case aF => exact (fun k_ hk => ⟨Kd.fresh' (Kd.R_lt (by (with_reducible repeat (first | apply Ω1_5 | apply Ω2_5 | apply Ω3_5)); exact HO_7.out)) k_ hk, Kd.fresh' (Kd.R_lt (by (with_reducible repeat (first | apply Ω1_5 | apply Ω2_5 | apply Ω3_5)); exact HO_9.out)) k_ hk⟩)); (case aO => exact (by (with_reducible repeat (first | apply Ω1_5 | apply Ω2_5 | apply Ω3_5)); exact HO_6.out)); (case aS => exact (below_size (by repeat (first | (with_reducible first | exact HB.out | apply Ω6_5 | apply Ω7_5 | apply Ω8_5 | refine Ω9_5 ?_ GE275.out) | exact HB.out)))); (case aL => have := LMc63.out; omega); intro v305 w65 ho hb hg hat; rw [← Ny304.out] at ho; have n0_ := Ω5_5 (Kd.R_after (ok := (fun k_ => some k_ ≠ (v286 : Value).ownBlock)) (by (with_reducible repeat (first | apply Ω1_5 | apply Ω2_5 | apply Ω3_5)); exact Kd.R_mono HO_7.out (fun _ hk => ⟨hk.2, hk.1⟩)) hg hat); have n1_ := Ω5_5 (Kd.R_after (ok := (fun k_ => some k_ ≠ (u7 : Value).ownBlock)) (by (with_reducible repeat (first | apply Ω1_5 | apply Ω2_5 | apply Ω3_5)); exact Kd.R_mono HO_9.out (fun _ hk => ⟨hk.2, hk.1⟩)) hg hat); have n2_ := Ω5_5 (blk_grown (g := gb275) (o := .cells #[.slice (some ad284) l0_0.length c0_0, .slice A0_1 l0_1.length c0_1] 39 (0, 0)) (by (with_reducible repeat (first | refine blk_drewN ?_ _ | refine blk_drew ?_ | refine blk_alloc ?_ _)); exact BK275.out) hg (Kd.R_ne HO_6.out BK275.out (by decide))); have n3_ := Ω5_5 (hb); have n4_ := Ω5_5 (ho); clear HO_7; clear HO_9; clear BK275; clear HB; clear HO_6; have HO_7 := n0_; have HO_9 := n1_; have BK275 := n2_; have HB := n3_; have HO306 := n4_; clear n0_ n1_ n2_ n3_ n4_; clear ho hb hg hat) | ((with_reducible refine gate_builtin (b := .append) (xs := #[.tmp 100, .tmp 102]) rfl ?_); (try (refine gate_guard (by rfl) ?_; dsimp only)); at_builtin; refine Kd.R_append (Kd.int .i64) (w0 := w) w.heap.size rfl (.tmp 100) (.tmp 102) 22 3 (.int .i64 0) 8 rfl Try.underlying22 info3 rfl (by decide) (by omega) u7 x7_2 (-1) [.int .i64 (-1)] (fun k_ => some k_ ≠ (v286 : Value).ownBlock ∧ some k_ ≠ (v305 : Value).ownBlock) (fun _ => False) rfl rfl ?aP (fun _ hk => hk.elim) ?aF ?aO ?aB ?aS ?aL ?_; (case aP => exact rfl); (case aB => exact (by repeat (first | (with_reducible first | exact HB.out | apply Ω6_5 | apply Ω7_5 | apply Ω8_5 | refine Ω9_5 ?_ GE275.out) | exact HB.out))); (case aF => exact (fun k_ hk => ⟨Kd.fresh' (Kd.R_lt (by (with_reducible repeat (first | apply Ω1_5 | apply Ω2_5 | apply Ω3_5)); exact HO_9.out)) k_ hk, Kd.fresh' (Kd.R_lt (by (with_reducible repeat (first | apply Ω1_5 | apply Ω2_5 | apply Ω3_5)); exact HO306.out)) k_ hk⟩)); (case aO => exact (by (with_reducible repeat (first | apply Ω1_5 | apply Ω2_5 | apply Ω3_5)); exact HO_7.out)); (case aS => exact (below_size (by repeat (first | (with_reducible first | exact HB.out | apply Ω6_5 | apply Ω7_5 | apply Ω8_5 | refine Ω9_5 ?_ GE275.out) | exact HB.out)))); (case aL => have := LMc64.out; omega); intro v308 w66 ho hb hg hat; rw [← Ny307.out] at ho; have n0_ := Ω5_5 (Kd.R_after (ok := (fun k_ => some k_ ≠ (v305 : Value).ownBlock)) (by (with_reducible repeat (first | apply Ω1_5 | apply Ω2_5 | apply Ω3_5)); exact Kd.R_mono HO_9.out (fun _ hk => ⟨hk.2, hk.1⟩)) hg hat); have n1_ := Ω5_5 (blk_grown (g := gb275) (o := .cells #[.slice (some ad284) l0_0.length c0_0, .slice A0_1 l0_1.length c0_1] 39 (0, 0)) (by (with_reducible repeat (first | refine blk_drewN ?_ _ | refine blk_drew ?_ | refine blk_alloc ?_ _)); exact BK275.out) hg (Kd.R_ne HO_7.out BK275.out (by decide))); have n2_ := Ω5_5 (Kd.R_after (ok := (fun k_ => some k_ ≠ (v286 : Value).ownBlock)) (by (with_reducible repeat (first | apply Ω1_5 | apply Ω2_5 | apply Ω3_5)); exact Kd.R_mono HO306.out (fun _ hk => ⟨hk.2, hk.1⟩)) hg hat); have n3_ := Ω5_5 (hb); have n4_ := Ω5_5 (ho); clear HO_9; clear BK275; clear HO306; clear HB; clear HO_7; have HO_9 := n0_; have BK275 := n1_; have HO306 := n2_; have HB := n3_; have HO309 := n4_; clear n0_ n1_ n2_ n3_ n4_; clear ho hb hg hat)); try go_wp2_with (first | ((with_reducible refine gate_builtin (b := .append) (xs := #[.tmp 96, .tmp 98]) rfl ?_); (try (refine gate_guard (by rfl) ?_; dsimp only)); at_builtin; refine Kd.R_append (Kd.int .i64) (w0 := w) w.heap.size rfl (.tmp 96) (.tmp 98) 22 3 (.int .i64 0) 8 rfl Try.underlying22 info3 rfl (by decide) (by omega) u6 x6_2 x11_3 [.int .i64 x11_3] (fun k_ => some k_ ≠ (u7 : Value).ownBlock ∧ some k_ ≠ (v286 : Value).ownBlock) (fun _ => False) rfl rfl ?aP (fun _ hk => hk.elim) ?aF ?aO ?aB ?aS ?aL ?_; (case aP => exact rfl); (case aB => exact (by repeat (first | (with_reducible first | exact HB.out | apply Ω6_5 | apply Ω7_5 | apply Ω8_5 | refine Ω9_5 ?_ GE275.out) | exact HB.out))); (case aF => exact (fun k_ hk => ⟨Kd.fresh' (Kd.R_lt (by (with_reducible repeat (first | apply Ω1_5 | apply Ω2_5 | apply Ω3_5)); exact HO_7.out)) k_ hk, Kd.fresh' (Kd.R_lt (by (with_reducible repeat (first | apply Ω1_5 | apply Ω2_5 | apply Ω3_5)); exact HO_9.out)) k_ hk⟩)); (case aO => exact (by (with_reducible repeat (first | apply Ω1_5 | apply Ω2_5 | apply Ω3_5)); exact HO_6.out)); (case aS => exact (below_size (by repeat (first | (with_reducible first | exact HB.out | apply Ω6_5 | apply Ω7_5 | apply Ω8_5 | refine Ω9_5 ?_ GE275.out) | exact HB.out)))); (case aL => have := LMc63.out; omega); intro v305 w65 ho hb hg hat; rw [← Ny304.out] at ho; have n0_ := Ω5_5 (Kd.R_after (ok := (fun k_ => some k_ ≠ (v286 : Value).ownBlock)) (by (with_reducible repeat (first | apply Ω1_5 | apply Ω2_5 | apply Ω3_5)); exact Kd.R_mono HO_7.out (fun _ hk => ⟨hk.2, hk.1⟩)) hg hat); have n1_ := Ω5_5 (Kd.R_after (ok := (fun k_ => some k_ ≠ (u7 : Value).ownBlock)) (by (with_reducible repeat (first | apply Ω1_5 | apply Ω2_5 | apply Ω3_5)); exact Kd.R_mono HO_9.out (fun _ hk => ⟨hk.2, hk.1⟩)) hg hat); have n2_ := Ω5_5 (blk_grown (g := gb275) (o := .cells #[.slice (some ad284) l0_0.length c0_0, .slice A0_1 l0_1.length c0_1] 39 (0, 0)) (by (with_reducible repeat (first | refine blk_drewN ?_ _ | refine blk_drew ?_ | refine blk_alloc ?_ _)); exact BK275.out) hg (Kd.R_ne HO_6.out BK275.out (by decide))); have n3_ := Ω5_5 (hb); have n4_ := Ω5_5 (ho); clear HO_7; clear HO_9; clear BK275; clear HB; clear HO_6; have HO_7 := n0_; have HO_9 := n1_; have BK275 := n2_; have HB := n3_; have HO306 := n4_; clear n0_ n1_ n2_ n3_ n4_; clear ho hb hg hat) | ((with_reducible refine gate_builtin (b := .append) (xs := #[.tmp 100, .tmp 102]) rfl ?_); (try (refine gate_guard (by rfl) ?_; dsimp only)); at_builtin; refine Kd.R_append (Kd.int .i64) (w0 := w) w.heap.size rfl (.tmp 100) (.tmp 102) 22 3 (.int .i64 0) 8 rfl Try.underlying22 info3 rfl (by decide) (by omega) u7 x7_2 (-1) [.int .i64 (-1)] (fun k_ => some k_ ≠ (v286 : Value).ownBlock ∧ some k_ ≠ (v305 : Value).ownBlock) (fun _ => False) rfl rfl ?aP (fun _ hk => hk.elim) ?aF ?aO ?aB ?aS ?aL ?_; (case aP => exact rfl); (case aB => exact (by repeat (first | (with_reducible first | exact HB.out | apply Ω6_5 | apply Ω7_5 | apply Ω8_5 | refine Ω9_5 ?_ GE275.out) | exact HB.out))); (case aF => exact (fun k_ hk => ⟨Kd.fresh' (Kd.R_lt (by (with_reducible repeat (first | apply Ω1_5 | apply Ω2_5 | apply Ω3_5)); exact HO_9.out)) k_ hk, Kd.fresh' (Kd.R_lt (by (with_reducible repeat (first | apply Ω1_5 | apply Ω2_5 | apply Ω3_5)); exact HO306.out)) k_ hk⟩)); (case aO => exact (by (with_reducible repeat (first | apply Ω1_5 | apply Ω2_5 | apply Ω3_5)); exact HO_7.out)); (case aS => exact (below_size (by repeat (first | (with_reducible first | exact HB.out | apply Ω6_5 | apply Ω7_5 | apply Ω8_5 | refine Ω9_5 ?_ GE275.out) | exact HB.out)))); (case aL => have := LMc64.out; omega); intro v308 w66 ho hb hg hat; rw [← Ny307.out] at ho; have n0_ := Ω5_5 (Kd.R_after (ok := (fun k_ => some k_ ≠ (v305 : Value).ownBlock)) (by (with_reducible repeat (first | apply Ω1_5 | apply Ω2_5 | apply Ω3_5)); exact Kd.R_mono HO_9.out (fun _ hk => ⟨hk.2, hk.1⟩)) hg hat); have n1_ := Ω5_5 (blk_grown (g := gb275) (o := .cells #[.slice (some ad284) l0_0.length c0_0, .slice A0_1 l0_1.length c0_1] 39 (0, 0)) (by (with_reducible repeat (first | refine blk_drewN ?_ _ | refine blk_drew ?_ | refine blk_alloc ?_ _)); exact BK275.out) hg (Kd.R_ne HO_7.out BK275.out (by decide))); have n2_ := Ω5_5 (Kd.R_after (ok := (fun k_ => some k_ ≠ (v286 : Value).ownBlock)) (by (with_reducible repeat (first | apply Ω1_5 | apply Ω2_5 | apply Ω3_5)); exact Kd.R_mono HO306.out (fun _ hk => ⟨hk.2, hk.1⟩)) hg hat); have n3_ := Ω5_5 (hb); have n4_ := Ω5_5 (ho); clear HO_9; clear BK275; clear HO306; clear HB; clear HO_7; have HO_9 := n0_; have BK275 := n1_; have HO306 := n2_; have HB := n3_; have HO309 := n4_; clear n0_ n1_ n2_ n3_ n4_; clear ho hb hg hat)))
                    go_roundg k3
                    case measure => have := HJ2.out; have := HK2.out; have := HK3.out; omega
                    case rel => exact ⟨(y304), (y307), (x9_2), (wrap64 (x42_2 + 1)), (by first | rfl | (simp; done) | (simp [*]; done)), H', ⟨by have := HJ2.out; have := HK2.out; have := HK3.out; omega⟩, ⟨by (with_reducible repeat (first | apply Ω1_5 | apply Ω2_5 | apply Ω3_5)); exact Kd.R_mono HO306.out (fun _ hk => ⟨hk.2, hk.1⟩)⟩, ⟨by (with_reducible repeat (first | apply Ω1_5 | apply Ω2_5 | apply Ω3_5)); exact Kd.R_mono HO309.out (fun _ hk => ⟨hk.2, hk.1⟩)⟩, ⟨by (with_reducible repeat (first | apply Ω1_5 | apply Ω2_5 | apply Ω3_5)); exact HO_9.out⟩, ⟨by (with_reducible repeat (first | refine blk_drewN ?_ _ | refine blk_drew ?_ | refine blk_alloc ?_ _)); exact BK275.out⟩, ⟨by repeat (first | (with_reducible first | exact HB.out | apply Ω6_5 | apply Ω7_5 | apply Ω8_5 | refine Ω9_5 ?_ GE275.out) | exact HB.out)⟩⟩
                   ·rw [if_neg c64] at H
                    exact absurd H (by simp)
                  ·rw [if_neg c63] at H
                   exact absurd H (by simp)
             ·rw [if_neg c34] at H
              exact absurd H (by simp)
            ·rw [if_neg c33] at H
             exact absurd H (by simp)
           ·rw [if_neg c32] at H
            exact absurd H (by simp)
          ·rw [if_neg c30] at H
           have c30b0 : decide (x42_2 < (rd l0_0 0)) = false := decide_eq_false c30
           clear c30
           simp only [Option.some.injEq, Prod.mk.injEq] at H
           obtain ⟨rfl, rfl⟩ := H
           go_wp2
           repeat (go_quiet (fail); try go_wp2)
           go_ret2
           exact ⟨_, _, by first | rfl | (simp [errW_none, errW_some] <;> rfl) | (simp [*, errW_none, errW_some] <;> rfl), by (with_reducible repeat (first | apply Ω1_5 | apply Ω2_5 | apply Ω3_5)); exact Kd.R_mono HO_6.out (fun _ hk => hk.1), by (with_reducible repeat (first | apply Ω1_5 | apply Ω2_5 | apply Ω3_5)); exact Kd.R_mono HO_7.out (fun _ hk => hk.1), by repeat (first | (with_reducible first | exact HB.out | apply Ω6_5 | apply Ω7_5 | apply Ω8_5 | refine Ω9_5 ?_ GE275.out) | exact HB.out)⟩
       ·rw [if_neg c21] at H
        exact absurd H (by simp)
      ·rw [if_neg c20] at H
       exact absurd H (by simp)
     ·rw [if_neg c19] at H
      exact absurd H (by simp)
    ·rw [if_neg c18] at H
     exact absurd H (by simp)

end Go.Proofs.Ytcpemdedmepfeaa.PFnRouted
