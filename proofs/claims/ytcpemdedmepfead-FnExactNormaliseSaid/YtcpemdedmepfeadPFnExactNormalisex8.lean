-- Printed out of the translation, hand-written contracts beside it; checked by the kernel alone.
import Derived.Test.YtcpemdedmepfeadPFnExactNormalisex0
import Derived.Test.YtcpemdedmepfeadPFnExactNormalisex6
import Derived.Test.YtcpemdedmepfeadPFnExactNormalisex7
namespace Go.Proofs.Ytcpemdedmepfead.PFnExactNormalise
open Go.RowKit Go.Proofs.YtcpemdedmepfeadW.PrintWords Go.Proofs.YtcpemdedmepfeadW.PrintLast Go.Proofs.YtcpemdedmepfeadW.PrintMore
attribute [local go_sem] max2_int min2_int max_two min_two max_three min_three max_four min_four   -- for this text's walks alone
set_option linter.unusedVariables false
set_option linter.unusedSimpArgs false

/-! ### impl_byLines: function 71 -/
mutual
def impl_byLines.j0 : Nat → Int → Int → Bool → List Int → List Int → Option (List Int × List Int)
  | 0, _, _, _, _, _ => none
  | k + 1, x1, x2, x26, x275000, x275001 => if x26 = true then (some (([] : List Int), ([] : List Int))) else ((impl_blank.f k x275000).bind fun bt278 => ((impl_lines.f k x275000 x1).bind fun bt285 => (if 0 ≤ bt285.2.1 then (if (bt285.2.1 : Int).toNat ≤ 35184372088832 then (impl_byLines.l0 k x2 bt285.1 bt285.2.1 bt285.2.2 (List.replicate (bt285.2.1 : Int).toNat 0) 0 x275000 x275001 bt278.1 bt278.2) else (none)) else (none))))
def impl_byLines.l0 : Nat → Int → Int → Int → Int → List Int → Int → List Int → List Int → List Int → List Int → Option (List Int × List Int)
  | 0, _, _, _, _, _, _, _, _, _, _ => none
  | k + 1, x2, x8, x9, x10, x11, x12, x275000, x275001, x285000, x285001 => if x12 < x8 then (impl_byLines.l1 k x2 x8 x9 x10 x11 x12 0 x275000 x275001 x285000 x285001) else (some (x285000, x285001))
def impl_byLines.l1 : Nat → Int → Int → Int → Int → List Int → Int → Int → List Int → List Int → List Int → List Int → Option (List Int × List Int)
  | 0, _, _, _, _, _, _, _, _, _, _, _ => none
  | k + 1, x2, x8, x9, x10, x11, x12, x13, x275000, x275001, x285000, x285001 => if x13 < x10 then (impl_byLines.l2 k x2 x8 x9 x10 x11 x12 x13 (x11.length : Int) 0 x275000 x275001 x285000 x285001) else (impl_byLines.l0 k x2 x8 x9 x10 x11 (wrap64 (x12 + 1)) x275000 x275001 x285000 x285001)
def impl_byLines.l2 : Nat → Int → Int → Int → Int → List Int → Int → Int → Int → Int → List Int → List Int → List Int → List Int → Option (List Int × List Int)
  | 0, _, _, _, _, _, _, _, _, _, _, _, _, _ => none
  | k + 1, x2, x8, x9, x10, x11, x12, x13, x52, x53, x275000, x275001, x285000, x285001 => if x53 < x52 then (if 0 ≤ (wrap64 ((wrap64 ((wrap64 ((wrap64 (x12 * x9)) + x53)) * x10)) + x13)) then (if (wrap64 ((wrap64 ((wrap64 ((wrap64 (x12 * x9)) + x53)) * x10)) + x13)) < (x275001.length : Int) then (if 0 ≤ x53 then (if x53 < (x11.length : Int) then (impl_byLines.l2 k x2 x8 x9 x10 (x11.set (x53 : Int).toNat (rd x275001 (wrap64 ((wrap64 ((wrap64 ((wrap64 (x12 * x9)) + x53)) * x10)) + x13)))) x12 x13 x52 (wrap64 (x53 + 1)) x275000 x275001 x285000 x285001) else (none)) else (none)) else (none)) else (none)) else ((impl_Normalise_1.f k x11 x2).bind fun t293 => (impl_byLines.l3 k x2 x8 x9 x10 x11 x12 x13 t293 (t293.length : Int) 0 x275000 x275001 x285000 x285001))
def impl_byLines.l3 : Nat → Int → Int → Int → Int → List Int → Int → Int → List Int → Int → Int → List Int → List Int → List Int → List Int → Option (List Int × List Int)
  | 0, _, _, _, _, _, _, _, _, _, _, _, _, _, _ => none
  | k + 1, x2, x8, x9, x10, x11, x12, x13, x75, x76, x77, x275000, x275001, x285000, x285001 => if x77 < x76 then (if 0 ≤ x77 then (if x77 < (x75.length : Int) then (if 0 ≤ (wrap64 ((wrap64 ((wrap64 ((wrap64 (x12 * x9)) + x77)) * x10)) + x13)) then (if (wrap64 ((wrap64 ((wrap64 ((wrap64 (x12 * x9)) + x77)) * x10)) + x13)) < (x285001.length : Int) then (impl_byLines.l3 k x2 x8 x9 x10 x11 x12 x13 x75 x76 (wrap64 (x77 + 1)) x275000 x275001 x285000 (x285001.set ((wrap64 ((wrap64 ((wrap64 ((wrap64 (x12 * x9)) + x77)) * x10)) + x13)) : Int).toNat (rd x75 x77))) else (none)) else (none)) else (none)) else (none)) else (impl_byLines.l1 k x2 x8 x9 x10 x11 x12 (wrap64 (x13 + 1)) x275000 x275001 x285000 x285001)
end
def impl_byLines.f (k : Nat) (l0_0 : List Int) (l0_1 : List Int) (a1 : Int) (a2 : Int) : Option (List Int × List Int) := (impl_TensorOk.f k l0_0 l0_1).bind fun t276 => (if t276 = true then ((impl_isAxis.f l0_0 a1).bind fun t277 => (impl_byLines.j0 k a1 a2 (!t277) l0_0 l0_1)) else (impl_byLines.j0 k a1 a2 true l0_0 l0_1))
theorem impl_byLines.mono_l : ∀ k, (∀ y0 y1 y2 y3 y4, LeO (impl_byLines.j0 k y0 y1 y2 y3 y4) (impl_byLines.j0 (k + 1) y0 y1 y2 y3 y4)) ∧ (∀ y0 y1 y2 y3 y4 y5 y6 y7 y8 y9, LeO (impl_byLines.l0 k y0 y1 y2 y3 y4 y5 y6 y7 y8 y9) (impl_byLines.l0 (k + 1) y0 y1 y2 y3 y4 y5 y6 y7 y8 y9)) ∧ (∀ y0 y1 y2 y3 y4 y5 y6 y7 y8 y9 y10, LeO (impl_byLines.l1 k y0 y1 y2 y3 y4 y5 y6 y7 y8 y9 y10) (impl_byLines.l1 (k + 1) y0 y1 y2 y3 y4 y5 y6 y7 y8 y9 y10)) ∧ (∀ y0 y1 y2 y3 y4 y5 y6 y7 y8 y9 y10 y11 y12, LeO (impl_byLines.l2 k y0 y1 y2 y3 y4 y5 y6 y7 y8 y9 y10 y11 y12) (impl_byLines.l2 (k + 1) y0 y1 y2 y3 y4 y5 y6 y7 y8 y9 y10 y11 y12)) ∧ (∀ y0 y1 y2 y3 y4 y5 y6 y7 y8 y9 y10 y11 y12 y13, LeO (impl_byLines.l3 k y0 y1 y2 y3 y4 y5 y6 y7 y8 y9 y10 y11 y12 y13) (impl_byLines.l3 (k + 1) y0 y1 y2 y3 y4 y5 y6 y7 y8 y9 y10 y11 y12 y13))
  | 0 => ⟨fun _ _ _ _ _ r h => by simp [impl_byLines.j0] at h, fun _ _ _ _ _ _ _ _ _ _ r h => by simp [impl_byLines.l0] at h, fun _ _ _ _ _ _ _ _ _ _ _ r h => by simp [impl_byLines.l1] at h, fun _ _ _ _ _ _ _ _ _ _ _ _ _ r h => by simp [impl_byLines.l2] at h, fun _ _ _ _ _ _ _ _ _ _ _ _ _ _ r h => by simp [impl_byLines.l3] at h⟩
  | k + 1 => by
    obtain ⟨ih0, ih1, ih2, ih3, ih4⟩ := impl_byLines.mono_l k
    refine ⟨?_, ?_, ?_, ?_, ?_⟩
    · intro y0 y1 y2 y3 y4
      unfold impl_byLines.j0
      repeat' first
      | (with_reducible exact ih0 _ _ _ _ _)
      | (with_reducible exact ih1 _ _ _ _ _ _ _ _ _ _)
      | (with_reducible exact ih2 _ _ _ _ _ _ _ _ _ _ _)
      | (with_reducible exact ih3 _ _ _ _ _ _ _ _ _ _ _ _ _)
      | (with_reducible exact ih4 _ _ _ _ _ _ _ _ _ _ _ _ _ _)
      | (with_reducible exact impl_Normalise_1.mono _ _ _)
      | (with_reducible exact impl_TensorOk.mono _ _ _)
      | (with_reducible exact impl_blank.mono _ _)
      | (with_reducible exact impl_lines.mono _ _ _)
      | (with_reducible exact LeO.refl _)
      | (with_reducible exact LeO.none _)
      | (with_reducible refine LeO.ite ?_ ?_)
      | (with_reducible refine LeO.bind ?_ (fun _ => ?_))
      | exact ih0 _ _ _ _ _
      | exact ih1 _ _ _ _ _ _ _ _ _ _
      | exact ih2 _ _ _ _ _ _ _ _ _ _ _
      | exact ih3 _ _ _ _ _ _ _ _ _ _ _ _ _
      | exact ih4 _ _ _ _ _ _ _ _ _ _ _ _ _ _
      | exact impl_Normalise_1.mono _ _ _
      | exact impl_TensorOk.mono _ _ _
      | exact impl_blank.mono _ _
      | exact impl_lines.mono _ _ _
      | exact LeO.none _
      | refine LeO.ite ?_ ?_
      | refine LeO.bind ?_ (fun _ => ?_)
    · intro y0 y1 y2 y3 y4 y5 y6 y7 y8 y9
      unfold impl_byLines.l0
      repeat' first
      | (with_reducible exact ih0 _ _ _ _ _)
      | (with_reducible exact ih1 _ _ _ _ _ _ _ _ _ _)
      | (with_reducible exact ih2 _ _ _ _ _ _ _ _ _ _ _)
      | (with_reducible exact ih3 _ _ _ _ _ _ _ _ _ _ _ _ _)
      | (with_reducible exact ih4 _ _ _ _ _ _ _ _ _ _ _ _ _ _)
      | (with_reducible exact impl_Normalise_1.mono _ _ _)
      | (with_reducible exact impl_TensorOk.mono _ _ _)
      | (with_reducible exact impl_blank.mono _ _)
      | (with_reducible exact impl_lines.mono _ _ _)
      | (with_reducible exact LeO.refl _)
      | (with_reducible exact LeO.none _)
      | (with_reducible refine LeO.ite ?_ ?_)
      | (with_reducible refine LeO.bind ?_ (fun _ => ?_))
      | exact ih0 _ _ _ _ _
      | exact ih1 _ _ _ _ _ _ _ _ _ _
      | exact ih2 _ _ _ _ _ _ _ _ _ _ _
      | exact ih3 _ _ _ _ _ _ _ _ _ _ _ _ _
      | exact ih4 _ _ _ _ _ _ _ _ _ _ _ _ _ _
      | exact impl_Normalise_1.mono _ _ _
      | exact impl_TensorOk.mono _ _ _
      | exact impl_blank.mono _ _
      | exact impl_lines.mono _ _ _
      | exact LeO.none _
      | refine LeO.ite ?_ ?_
      | refine LeO.bind ?_ (fun _ => ?_)
    · intro y0 y1 y2 y3 y4 y5 y6 y7 y8 y9 y10
      unfold impl_byLines.l1
      repeat' first
      | (with_reducible exact ih0 _ _ _ _ _)
      | (with_reducible exact ih1 _ _ _ _ _ _ _ _ _ _)
      | (with_reducible exact ih2 _ _ _ _ _ _ _ _ _ _ _)
      | (with_reducible exact ih3 _ _ _ _ _ _ _ _ _ _ _ _ _)
      | (with_reducible exact ih4 _ _ _ _ _ _ _ _ _ _ _ _ _ _)
      | (with_reducible exact impl_Normalise_1.mono _ _ _)
      | (with_reducible exact impl_TensorOk.mono _ _ _)
      | (with_reducible exact impl_blank.mono _ _)
      | (with_reducible exact impl_lines.mono _ _ _)
      | (with_reducible exact LeO.refl _)
      | (with_reducible exact LeO.none _)
      | (with_reducible refine LeO.ite ?_ ?_)
      | (with_reducible refine LeO.bind ?_ (fun _ => ?_))
      | exact ih0 _ _ _ _ _
      | exact ih1 _ _ _ _ _ _ _ _ _ _
      | exact ih2 _ _ _ _ _ _ _ _ _ _ _
      | exact ih3 _ _ _ _ _ _ _ _ _ _ _ _ _
      | exact ih4 _ _ _ _ _ _ _ _ _ _ _ _ _ _
      | exact impl_Normalise_1.mono _ _ _
      | exact impl_TensorOk.mono _ _ _
      | exact impl_blank.mono _ _
      | exact impl_lines.mono _ _ _
      | exact LeO.none _
      | refine LeO.ite ?_ ?_
      | refine LeO.bind ?_ (fun _ => ?_)
    · intro y0 y1 y2 y3 y4 y5 y6 y7 y8 y9 y10 y11 y12
      unfold impl_byLines.l2
      repeat' first
      | (with_reducible exact ih0 _ _ _ _ _)
      | (with_reducible exact ih1 _ _ _ _ _ _ _ _ _ _)
      | (with_reducible exact ih2 _ _ _ _ _ _ _ _ _ _ _)
      | (with_reducible exact ih3 _ _ _ _ _ _ _ _ _ _ _ _ _)
      | (with_reducible exact ih4 _ _ _ _ _ _ _ _ _ _ _ _ _ _)
      | (with_reducible exact impl_Normalise_1.mono _ _ _)
      | (with_reducible exact impl_TensorOk.mono _ _ _)
      | (with_reducible exact impl_blank.mono _ _)
      | (with_reducible exact impl_lines.mono _ _ _)
      | (with_reducible exact LeO.refl _)
      | (with_reducible exact LeO.none _)
      | (with_reducible refine LeO.ite ?_ ?_)
      | (with_reducible refine LeO.bind ?_ (fun _ => ?_))
      | exact ih0 _ _ _ _ _
      | exact ih1 _ _ _ _ _ _ _ _ _ _
      | exact ih2 _ _ _ _ _ _ _ _ _ _ _
      | exact ih3 _ _ _ _ _ _ _ _ _ _ _ _ _
      | exact ih4 _ _ _ _ _ _ _ _ _ _ _ _ _ _
      | exact impl_Normalise_1.mono _ _ _
      | exact impl_TensorOk.mono _ _ _
      | exact impl_blank.mono _ _
      | exact impl_lines.mono _ _ _
      | exact LeO.none _
      | refine LeO.ite ?_ ?_
      | refine LeO.bind ?_ (fun _ => ?_)
    · intro y0 y1 y2 y3 y4 y5 y6 y7 y8 y9 y10 y11 y12 y13
      unfold impl_byLines.l3
      repeat' first
      | (with_reducible exact ih0 _ _ _ _ _)
      | (with_reducible exact ih1 _ _ _ _ _ _ _ _ _ _)
      | (with_reducible exact ih2 _ _ _ _ _ _ _ _ _ _ _)
      | (with_reducible exact ih3 _ _ _ _ _ _ _ _ _ _ _ _ _)
      | (with_reducible exact ih4 _ _ _ _ _ _ _ _ _ _ _ _ _ _)
      | (with_reducible exact impl_Normalise_1.mono _ _ _)
      | (with_reducible exact impl_TensorOk.mono _ _ _)
      | (with_reducible exact impl_blank.mono _ _)
      | (with_reducible exact impl_lines.mono _ _ _)
      | (with_reducible exact LeO.refl _)
      | (with_reducible exact LeO.none _)
      | (with_reducible refine LeO.ite ?_ ?_)
      | (with_reducible refine LeO.bind ?_ (fun _ => ?_))
      | exact ih0 _ _ _ _ _
      | exact ih1 _ _ _ _ _ _ _ _ _ _
      | exact ih2 _ _ _ _ _ _ _ _ _ _ _
      | exact ih3 _ _ _ _ _ _ _ _ _ _ _ _ _
      | exact ih4 _ _ _ _ _ _ _ _ _ _ _ _ _ _
      | exact impl_Normalise_1.mono _ _ _
      | exact impl_TensorOk.mono _ _ _
      | exact impl_blank.mono _ _
      | exact impl_lines.mono _ _ _
      | exact LeO.none _
      | refine LeO.ite ?_ ?_
      | refine LeO.bind ?_ (fun _ => ?_)
theorem impl_byLines.mono : ∀ a0 a1 a2 a3 k, LeO (impl_byLines.f k a0 a1 a2 a3) (impl_byLines.f (k + 1) a0 a1 a2 a3) := by
  intro a0 a1 a2 a3 k
  obtain ⟨ih0, ih1, ih2, ih3, ih4⟩ := impl_byLines.mono_l k
  unfold impl_byLines.f
  repeat' first
      | (with_reducible exact ih0 _ _ _ _ _)
      | (with_reducible exact ih1 _ _ _ _ _ _ _ _ _ _)
      | (with_reducible exact ih2 _ _ _ _ _ _ _ _ _ _ _)
      | (with_reducible exact ih3 _ _ _ _ _ _ _ _ _ _ _ _ _)
      | (with_reducible exact ih4 _ _ _ _ _ _ _ _ _ _ _ _ _ _)
      | (with_reducible exact impl_Normalise_1.mono _ _ _)
      | (with_reducible exact impl_TensorOk.mono _ _ _)
      | (with_reducible exact impl_blank.mono _ _)
      | (with_reducible exact impl_lines.mono _ _ _)
      | (with_reducible exact LeO.refl _)
      | (with_reducible exact LeO.none _)
      | (with_reducible refine LeO.ite ?_ ?_)
      | (with_reducible refine LeO.bind ?_ (fun _ => ?_))
      | exact ih0 _ _ _ _ _
      | exact ih1 _ _ _ _ _ _ _ _ _ _
      | exact ih2 _ _ _ _ _ _ _ _ _ _ _
      | exact ih3 _ _ _ _ _ _ _ _ _ _ _ _ _
      | exact ih4 _ _ _ _ _ _ _ _ _ _ _ _ _ _
      | exact impl_Normalise_1.mono _ _ _
      | exact impl_TensorOk.mono _ _ _
      | exact impl_blank.mono _ _
      | exact impl_lines.mono _ _ _
      | exact LeO.none _
      | refine LeO.ite ?_ ?_
      | refine LeO.bind ?_ (fun _ => ?_)
set_option maxHeartbeats 8000000 in
set_option maxRecDepth 100000 in
theorem impl_byLines.calls (k : Nat) (A0_0 : Option Addr) (c0_0 : Nat) (l0_0 : List Int) (A0_1 : Option Addr) (c0_1 : Nat) (l0_1 : List Int) (a1 : Int) (a2 : Int) (q1 : Nat) (r1 : List Int) (r2 : List Int) (w : World) (hr0_0 : Kd.C (Kd.int .i64) w A0_0 l0_0.length l0_0) (hc0_0 : l0_0.length ≤ c0_0) (hr0_1 : Kd.C (Kd.int .i64) w A0_1 l0_1.length l0_1) (hc0_1 : l0_1.length ≤ c0_1) (hcap : impl_Normalise_1.Cap w a2 q1) (h : impl_byLines.f k l0_0 l0_1 a1 a2 = some (r1, r2)) :
    Calls Try.prog 71 #[.agg #[.slice A0_0 l0_0.length c0_0, .slice A0_1 l0_1.length c0_1], .int .i64 a1, .func (.func 72) #[] #[.pointer (some ⟨q1, 0, none⟩)]] w fun e w' => ∃ v0_ v1_ : Value, e = .returned (.agg #[v0_, v1_]) ∧ Kd.R (Kd.int .i64) 3 w' w.heap.size (fun k_ => some k_ ≠ (v1_ : Value).ownBlock) v0_ r1 ∧ Kd.R (Kd.int .i64) 3 w' w.heap.size (fun k_ => some k_ ≠ (v0_ : Value).ownBlock) v1_ r2 ∧ Below w.heap.size w w' := by
  have hu38 := Try.underlying38
  have HR0_0 := Aside0.mk hr0_0
  have HC0_0 := Aside0.mk hc0_0
  clear hr0_0 hc0_0
  have HR0_1 := Aside0.mk hr0_1
  have HC0_1 := Aside0.mk hc0_1
  clear hr0_1 hc0_1
  have HB := Aside0.mk (Below.refl w.heap.size w)
  have HCAP := Aside0.mk hcap
  clear hcap
  have H : ((impl_TensorOk.f k l0_0 l0_1).bind fun t276 => (if t276 = true then ((impl_isAxis.f l0_0 a1).bind fun t277 => (impl_byLines.j0 k a1 a2 (!t277) l0_0 l0_1)) else (impl_byLines.j0 k a1 a2 true l0_0 l0_1))) = some (r1, r2) := h
  clear h
  have HC4 := Aside0.mk H
  clear H
  go_enter Try.func71, Try.ntmps71
  go_upto_region 1 with (first | ((with_reducible refine gate_dst (N := 3) rfl ?_); refine box_event ?hg (N := 3) ?hd (cs := #[.slice A0_0 l0_0.length c0_0, .slice A0_1 l0_1.length c0_1]) (t := 38) ?hr ?_; (case hd => rfl); (case hg => rfl); (case hr => first | (go_simp; done) | (go_simp; rfl)); intro gb274 hg w5 hbox hb; have n0_ := Aside0.mk (below_step (by repeat (first | (with_reducible first | exact HB.out | apply below_alloc | apply pw_below_drewN | apply below_drew1) | exact HB.out)) hb); have n1_ := Aside0.mk (hbox); have n2_ := Aside0.mk ((by rw [hg]; exact (below_size (by repeat (first | (with_reducible first | exact HB.out | apply below_alloc | apply pw_below_drewN | apply below_drew1) | exact HB.out))) : w.heap.size ≤ gb274)); have n3_ := Aside0.mk ((by rw [hg]; exact (below_size (by repeat (first | (with_reducible first | exact HB.out | apply below_alloc | apply pw_below_drewN | apply below_drew1) | exact HB.out))) : w.heap.size ≤ gb274)); clear HB; have HB := n0_; have BK274 := n1_; have GW274 := n2_; have GE274 := n3_; clear n0_ n1_ n2_ n3_; clear hb hbox hg) | ((with_reducible refine gate_dst (N := 6) rfl ?_); refine box_event ?hg (N := 6) ?hd (cs := #[.slice none 0 0, .slice none 0 0]) (t := 38) ?hr ?_; (case hd => rfl); (case hg => rfl); (case hr => first | (go_simp; done) | (go_simp; rfl)); intro gb275 hg w6 hbox hb; have n0_ := Aside0.mk (blk_below (g := gb274) (o := .cells #[.slice A0_0 l0_0.length c0_0, .slice A0_1 l0_1.length c0_1] 38 (0, 0)) (by (with_reducible repeat (first | refine blk_drewN ?_ _ | refine blk_drew ?_ | refine blk_alloc ?_ _)); exact BK274.out) hb); have n1_ := Aside0.mk (below_step (by repeat (first | (with_reducible first | exact HB.out | apply below_alloc | apply pw_below_drewN | apply below_drew1 | refine below_set ?_ GE274.out) | exact HB.out)) hb); have n2_ := Aside0.mk (hbox); have n3_ := Aside0.mk ((by rw [hg]; exact (below_size (by repeat (first | (with_reducible first | exact HB.out | apply below_alloc | apply pw_below_drewN | apply below_drew1 | refine below_set ?_ GE274.out) | exact HB.out))) : w.heap.size ≤ gb275)); have n4_ := Aside0.mk ((by rw [hg]; exact (below_size (by repeat (first | (with_reducible first | exact HB.out | apply below_alloc | apply pw_below_drewN | apply below_drew1 | refine below_set ?_ GE274.out) | exact HB.out))) : w.heap.size ≤ gb275)); have n5_ := Aside0.mk ((by rw [hg]; exact Nat.ne_of_lt (blk_lt (g := gb274) (o := .cells #[.slice A0_0 l0_0.length c0_0, .slice A0_1 l0_1.length c0_1] 38 (0, 0)) (by (with_reducible repeat (first | refine blk_drewN ?_ _ | refine blk_drew ?_ | refine blk_alloc ?_ _)); exact BK274.out)) : gb274 ≠ gb275)); have n6_ := Aside0.mk ((by rw [hg]; exact Nat.ne_of_gt (blk_lt (g := gb274) (o := .cells #[.slice A0_0 l0_0.length c0_0, .slice A0_1 l0_1.length c0_1] 38 (0, 0)) (by (with_reducible repeat (first | refine blk_drewN ?_ _ | refine blk_drew ?_ | refine blk_alloc ?_ _)); exact BK274.out)) : gb275 ≠ gb274)); clear BK274; clear HB; have BK274 := n0_; have HB := n1_; have BK275 := n2_; have GW275 := n3_; have GE275 := n4_; have NB274_275 := n5_; have NB275_274 := n6_; clear n0_ n1_ n2_ n3_ n4_ n5_ n6_; clear hb hbox hg))
  (try simp only [Act.put, List.setIfInBounds_toArray, List.set_cons_zero, List.set_cons_succ])
  go_cut [26] (fun v26 wc => ∃ (kq : Nat) (x26_3 : Bool), v26 = .bool x26_3 ∧ Aside0 (impl_byLines.j0 kq a1 a2 x26_3 l0_0 l0_1 = some (r1, r2)) ∧ Aside0 (kq ≤ k) ∧ Aside0 (wc.heap[gb274]? = some (.cells #[(.slice A0_0 l0_0.length c0_0), (.slice A0_1 l0_1.length c0_1)] 38 (0, 0))) ∧ Aside0 (wc.heap[gb275]? = some (.cells #[(.slice none 0 0), (.slice none 0 0)] 38 (0, 0))) ∧ Aside0 (Below w.heap.size w wc))
  case first =>
    have H := HC4.out
    clear HC4
    replace H := Option.bind_eq_some_iff.mp H
    obtain ⟨t276, A70, H⟩ := H
    replace H : (if t276 = true then ((impl_isAxis.f l0_0 a1).bind fun t277 => (impl_byLines.j0 k a1 a2 (!t277) l0_0 l0_1)) else (impl_byLines.j0 k a1 a2 true l0_0 l0_1)) = some (r1, r2) := H
    have A7 := Aside0.mk A70
    clear A70
    by_cases c8 : t276 = true
    · subst c8
      have H1 : ((impl_isAxis.f l0_0 a1).bind fun t277 => (impl_byLines.j0 k a1 a2 (!t277) l0_0 l0_1)) = some (r1, r2) := by rw [if_pos rfl] at H; exact H
      clear H
      have H := H1
      clear H1
      replace H := Option.bind_eq_some_iff.mp H
      obtain ⟨t277, A90, H⟩ := H
      replace H : (impl_byLines.j0 k a1 a2 (!t277) l0_0 l0_1) = some (r1, r2) := H
      have A9 := Aside0.mk A90
      clear A90
      have H' := Aside0.mk H
      clear H
      have hnb10 := NB274_275.out
      have hnc10 := NB275_274.out
      have hcz11_0 : w6.cell? ⟨gb274, 0, none⟩ = some (.slice A0_0 l0_0.length c0_0) := (blk_cell BK274.out 0).trans rfl
      have hcz11_1 : w6.cell? ⟨gb274, 1, none⟩ = some (.slice A0_1 l0_1.length c0_1) := (blk_cell BK274.out 1).trans rfl
      have hfz11_0 := blk_frozen BK274.out 0
      have hfz11_1 := blk_frozen BK274.out 1
      go_wp2_with (first | ((with_reducible refine gate_callee (f := 98) rfl ?_); refine goesL_ (some 18) rfl rfl Try.func98 (by kernel_rfl) rfl #[.agg #[.slice A0_0 l0_0.length c0_0, .slice A0_1 l0_1.length c0_1]] rfl (by (try simp only [List.map_toArray, List.map_cons, List.map_nil]); first | done | rfl | (simp only [List.length_drop, List.length_take]; rfl)) ?_; (with_reducible refine (impl_TensorOk.calls k _ _ l0_0 _ _ l0_1 true _ ?side1 ?side2 ?side3 ?side4 A7.out).mono ?_); (case side1 => repeat (first | exact (Kd.C_below HR0_0.out HB.out) | (with_reducible refine Kd.C_alloc ?_ _) | (with_reducible refine Kd.C_drewN ?_ _) | (with_reducible refine Kd.C_drew ?_))); (case side2 => exact HC0_0.out); (case side3 => repeat (first | exact (Kd.C_below HR0_1.out HB.out) | (with_reducible refine Kd.C_alloc ?_ _) | (with_reducible refine Kd.C_drewN ?_ _) | (with_reducible refine Kd.C_drew ?_))); (case side4 => exact HC0_1.out); rintro e w12 ⟨rfl, hb⟩; refine ⟨_, rfl, ?_⟩; have n0_ := Aside0.mk (blk_below (g := gb274) (o := .cells #[.slice A0_0 l0_0.length c0_0, .slice A0_1 l0_1.length c0_1] 38 (0, 0)) (by (with_reducible repeat (first | refine blk_drewN ?_ _ | refine blk_drew ?_ | refine blk_alloc ?_ _)); exact BK274.out) hb); have n1_ := Aside0.mk (blk_below (g := gb275) (o := .cells #[.slice none 0 0, .slice none 0 0] 38 (0, 0)) (by (with_reducible repeat (first | refine blk_drewN ?_ _ | refine blk_drew ?_ | refine blk_alloc ?_ _)); exact BK275.out) hb); have n2_ := Aside0.mk (below_step (by repeat (first | (with_reducible first | exact HB.out | apply below_alloc | apply pw_below_drewN | apply below_drew1 | refine below_set ?_ GE274.out | refine below_set ?_ GE275.out) | exact HB.out)) hb); clear BK274; clear BK275; clear HB; have BK274 := n0_; have BK275 := n1_; have HB := n2_; clear n0_ n1_ n2_; (try clear hb); (try clear hb2); (try clear hk); (try clear hi); have hcz13_0 : w12.cell? ⟨gb274, 0, none⟩ = some (.slice A0_0 l0_0.length c0_0) := (blk_cell BK274.out 0).trans rfl; have hcz13_1 : w12.cell? ⟨gb274, 1, none⟩ = some (.slice A0_1 l0_1.length c0_1) := (blk_cell BK274.out 1).trans rfl; have hfz13_0 := blk_frozen BK274.out 0; have hfz13_1 := blk_frozen BK274.out 1) | (go_at_call 106; (with_reducible refine (impl_isAxis.calls _ _ l0_0 a1 t277 _ ?side1 ?side2 A9.out).mono ?_); (case side1 => repeat (first | exact (Kd.C_below HR0_0.out HB.out) | (with_reducible refine Kd.C_alloc ?_ _) | (with_reducible refine Kd.C_drewN ?_ _) | (with_reducible refine Kd.C_drew ?_))); (case side2 => exact HC0_0.out); rintro e w' ⟨rfl, ⟨nd, rfl⟩⟩))
      go_meet
      case rel => exact ⟨_, (!t277), (by first | rfl | (simp; done) | (simp [*]; done)), H', ⟨by first | omega | exact Nat.le_refl _⟩, ⟨by (with_reducible repeat (first | refine blk_drewN ?_ _ | refine blk_drew ?_ | refine blk_alloc ?_ _)); exact BK274.out⟩, ⟨by (with_reducible repeat (first | refine blk_drewN ?_ _ | refine blk_drew ?_ | refine blk_alloc ?_ _)); exact BK275.out⟩, ⟨by repeat (first | (with_reducible first | exact HB.out | apply below_alloc | apply pw_below_drewN | apply below_drew1 | refine below_set ?_ GE274.out | refine below_set ?_ GE275.out) | exact HB.out)⟩⟩
    · replace c8 := Bool.eq_false_iff.mpr c8
      subst c8
      have H1 : (impl_byLines.j0 k a1 a2 true l0_0 l0_1) = some (r1, r2) := by rw [if_neg (show ¬ (false = true) by decide)] at H; exact H
      clear H
      have H := H1
      clear H1
      have H' := Aside0.mk H
      clear H
      have hnb14 := NB274_275.out
      have hnc14 := NB275_274.out
      have hcz15_0 : w6.cell? ⟨gb274, 0, none⟩ = some (.slice A0_0 l0_0.length c0_0) := (blk_cell BK274.out 0).trans rfl
      have hcz15_1 : w6.cell? ⟨gb274, 1, none⟩ = some (.slice A0_1 l0_1.length c0_1) := (blk_cell BK274.out 1).trans rfl
      have hfz15_0 := blk_frozen BK274.out 0
      have hfz15_1 := blk_frozen BK274.out 1
      go_wp2_with (first | ((with_reducible refine gate_callee (f := 98) rfl ?_); refine goesL_ (some 18) rfl rfl Try.func98 (by kernel_rfl) rfl #[.agg #[.slice A0_0 l0_0.length c0_0, .slice A0_1 l0_1.length c0_1]] rfl (by (try simp only [List.map_toArray, List.map_cons, List.map_nil]); first | done | rfl | (simp only [List.length_drop, List.length_take]; rfl)) ?_; (with_reducible refine (impl_TensorOk.calls k _ _ l0_0 _ _ l0_1 false _ ?side1 ?side2 ?side3 ?side4 A7.out).mono ?_); (case side1 => repeat (first | exact (Kd.C_below HR0_0.out HB.out) | (with_reducible refine Kd.C_alloc ?_ _) | (with_reducible refine Kd.C_drewN ?_ _) | (with_reducible refine Kd.C_drew ?_))); (case side2 => exact HC0_0.out); (case side3 => repeat (first | exact (Kd.C_below HR0_1.out HB.out) | (with_reducible refine Kd.C_alloc ?_ _) | (with_reducible refine Kd.C_drewN ?_ _) | (with_reducible refine Kd.C_drew ?_))); (case side4 => exact HC0_1.out); rintro e w16 ⟨rfl, hb⟩; refine ⟨_, rfl, ?_⟩; have n0_ := Aside0.mk (blk_below (g := gb274) (o := .cells #[.slice A0_0 l0_0.length c0_0, .slice A0_1 l0_1.length c0_1] 38 (0, 0)) (by (with_reducible repeat (first | refine blk_drewN ?_ _ | refine blk_drew ?_ | refine blk_alloc ?_ _)); exact BK274.out) hb); have n1_ := Aside0.mk (blk_below (g := gb275) (o := .cells #[.slice none 0 0, .slice none 0 0] 38 (0, 0)) (by (with_reducible repeat (first | refine blk_drewN ?_ _ | refine blk_drew ?_ | refine blk_alloc ?_ _)); exact BK275.out) hb); have n2_ := Aside0.mk (below_step (by repeat (first | (with_reducible first | exact HB.out | apply below_alloc | apply pw_below_drewN | apply below_drew1 | refine below_set ?_ GE274.out | refine below_set ?_ GE275.out) | exact HB.out)) hb); clear BK274; clear BK275; clear HB; have BK274 := n0_; have BK275 := n1_; have HB := n2_; clear n0_ n1_ n2_; (try clear hb); (try clear hb2); (try clear hk); (try clear hi)))
      go_meet
      case rel => exact ⟨_, (true), (by first | rfl | (simp; done) | (simp [*]; done)), H', ⟨by first | omega | exact Nat.le_refl _⟩, ⟨by (with_reducible repeat (first | refine blk_drewN ?_ _ | refine blk_drew ?_ | refine blk_alloc ?_ _)); exact BK274.out⟩, ⟨by (with_reducible repeat (first | refine blk_drewN ?_ _ | refine blk_drew ?_ | refine blk_alloc ?_ _)); exact BK275.out⟩, ⟨by repeat (first | (with_reducible first | exact HB.out | apply below_alloc | apply pw_below_drewN | apply below_drew1 | refine below_set ?_ GE274.out | refine below_set ?_ GE275.out) | exact HB.out)⟩⟩
  case rest =>
    clear HC4
    try clear c1
    try clear p2
    try clear c7
    try clear c8
    try clear c9
    try clear c10
    try clear c14
    try clear hcz11_0
    try clear hcz11_1
    try clear hcz13_0
    try clear hcz13_1
    try clear hcz15_0
    try clear hcz15_1
    try clear hfz11_0
    try clear hfz11_1
    try clear hfz13_0
    try clear hfz13_1
    try clear hfz15_0
    try clear hfz15_1
    obtain ⟨kq, x26_3, rfl, HA, HJ3, BK274, BK275, HB⟩ := hcut
    cases kq with
    | zero => exact absurd HA.out (by simp [impl_byLines.j0])
    | succ kj3 =>
      have H := HA.out
      clear HA
      simp only [impl_byLines.j0] at H
      by_cases c17 : x26_3 = true
      · subst c17
        have H1 : (some (([] : List Int), ([] : List Int))) = some (r1, r2) := by rw [if_pos rfl] at H; exact H
        clear H
        have H := H1
        clear H1
        simp only [Option.some.injEq, Prod.mk.injEq] at H
        obtain ⟨rfl, rfl⟩ := H
        have hnb18 := NB275_274.out
        have hnc18 := NB274_275.out
        have hcz19_0 : wc.cell? ⟨gb275, 0, none⟩ = some (.slice none 0 0) := (blk_cell BK275.out 0).trans rfl
        have hcz19_1 : wc.cell? ⟨gb275, 1, none⟩ = some (.slice none 0 0) := (blk_cell BK275.out 1).trans rfl
        have hfz19_0 := blk_frozen BK275.out 0
        have hfz19_1 := blk_frozen BK275.out 1
        go_wp2
        refine bodyPost_ret (results_cell_row rfl _ _ gb275 38 #[.slice none 0 0, .slice none 0 0] (0, 0) _ rfl (by (with_reducible repeat (first | refine blk_drewN ?_ _ | refine blk_drew ?_ | refine blk_alloc ?_ _)); refine blk_put (cs := #[.slice none 0 0, .slice none 0 0]) ?_ 1 _ rfl; (with_reducible repeat (first | refine blk_drewN ?_ _ | refine blk_drew ?_ | refine blk_alloc ?_ _)); refine blk_put (cs := #[.slice none 0 0, .slice none 0 0]) ?_ 0 _ rfl; (with_reducible repeat (first | refine blk_drewN ?_ _ | refine blk_drew ?_ | refine blk_alloc ?_ _)); exact BK275.out) Try.underlying38 rfl (by kernel_rfl)) rfl ?_
        exact ⟨_, _, by first | rfl | (simp [errW_none, errW_some] <;> rfl) | (simp [*, errW_none, errW_some] <;> rfl), by first | exact Kd.R_nil _ _ _ _ _ | exact Kd.N_nil _ _ _ _ _ | exact Kd.V_nil _ _ _ _ _ | exact Kd.Q_nil _ _ _ _ _ | exact Kd.S_nil _ _ _ _ _, by first | exact Kd.R_nil _ _ _ _ _ | exact Kd.N_nil _ _ _ _ _ | exact Kd.V_nil _ _ _ _ _ | exact Kd.Q_nil _ _ _ _ _ | exact Kd.S_nil _ _ _ _ _, by repeat (first | (with_reducible first | exact HB.out | apply below_alloc | apply pw_below_drewN | apply below_drew1 | refine below_set ?_ GE274.out | refine below_set ?_ GE275.out) | exact HB.out)⟩
      · replace c17 := Bool.eq_false_iff.mpr c17
        subst c17
        have H1 : ((impl_blank.f kj3 l0_0).bind fun bt278 => ((impl_lines.f kj3 l0_0 a1).bind fun bt285 => (if 0 ≤ bt285.2.1 then (if (bt285.2.1 : Int).toNat ≤ 35184372088832 then (impl_byLines.l0 kj3 a2 bt285.1 bt285.2.1 bt285.2.2 (List.replicate (bt285.2.1 : Int).toNat 0) 0 l0_0 l0_1 bt278.1 bt278.2) else (none)) else (none)))) = some (r1, r2) := by rw [if_neg (show ¬ (false = true) by decide)] at H; exact H
        clear H
        have H := H1
        clear H1
        replace H := Option.bind_eq_some_iff.mp H
        obtain ⟨⟨t278, t281⟩, A200, H⟩ := H
        replace H : ((impl_lines.f kj3 l0_0 a1).bind fun bt285 => (if 0 ≤ bt285.2.1 then (if (bt285.2.1 : Int).toNat ≤ 35184372088832 then (impl_byLines.l0 kj3 a2 bt285.1 bt285.2.1 bt285.2.2 (List.replicate (bt285.2.1 : Int).toNat 0) 0 l0_0 l0_1 t278 t281) else (none)) else (none))) = some (r1, r2) := H
        have A20 := Aside0.mk A200
        clear A200
        replace H := Option.bind_eq_some_iff.mp H
        obtain ⟨⟨t285, t286, t287⟩, A210, H⟩ := H
        replace H : (if 0 ≤ t286 then (if (t286 : Int).toNat ≤ 35184372088832 then (impl_byLines.l0 kj3 a2 t285 t286 t287 (List.replicate (t286 : Int).toNat 0) 0 l0_0 l0_1 t278 t281) else (none)) else (none)) = some (r1, r2) := H
        have A21 := Aside0.mk A210
        clear A210
        by_cases c22 : 0 ≤ t286
        · rw [if_pos c22] at H
          have c22b0 := eq_true c22
          have c22b1 : decide (0 ≤ t286) = true := decide_eq_true c22
          clear c22
          by_cases c23 : (t286 : Int).toNat ≤ 35184372088832
          · rw [if_pos c23] at H
            have c23b0 := eq_true c23
            have c23b1 : decide ((t286 : Int).toNat ≤ 35184372088832) = true := decide_eq_true c23
            clear c23
            obtain ⟨y288, hy288⟩ : ∃ y_ : List Int, y_ = (List.replicate (t286 : Int).toNat 0) := ⟨_, rfl⟩
            replace H : (impl_byLines.l0 kj3 a2 t285 t286 t287 y288 0 l0_0 l0_1 t278 t281) = some (r1, r2) := by first | (rw [hy288]; with_reducible exact H) | (have H2_ := (Option.bind_some _ _).symm.trans H; rw [hy288]; with_reducible exact H2_) | (have H2_ := (Option.bind_some _ _).symm.trans H; with_reducible exact H2_) | with_reducible exact H | (rw [hy288]; exact H) | exact H
            have Ny288 := Aside0.mk hy288
            clear hy288
            have H' := Aside0.mk H
            clear H
            have hnb24 := NB274_275.out
            have hnc24 := NB275_274.out
            have hcz25_0 : wc.cell? ⟨gb274, 0, none⟩ = some (.slice A0_0 l0_0.length c0_0) := (blk_cell BK274.out 0).trans rfl
            have hcz25_1 : wc.cell? ⟨gb274, 1, none⟩ = some (.slice A0_1 l0_1.length c0_1) := (blk_cell BK274.out 1).trans rfl
            have hfz25_0 := blk_frozen BK274.out 0
            have hfz25_1 := blk_frozen BK274.out 1
            go_wp2_with (first | ((with_reducible refine gate_callee (f := 61) rfl ?_); refine goesL_ (some 30) rfl rfl Try.func61 (by kernel_rfl) rfl #[.slice A0_0 l0_0.length c0_0] rfl (by (try simp only [List.map_toArray, List.map_cons, List.map_nil]); first | done | rfl | (simp only [List.length_drop, List.length_take]; rfl)) ?_; (with_reducible refine (impl_blank.calls kj3 _ _ l0_0 t278 t281 _ ?side1 ?side2 A20.out).mono ?_); (case side1 => repeat (first | exact (Kd.C_below HR0_0.out HB.out) | (with_reducible refine Kd.C_alloc ?_ _) | (with_reducible refine Kd.C_drewN ?_ _) | (with_reducible refine Kd.C_drew ?_))); (case side2 => exact HC0_0.out); rintro e w26 ⟨v279, v282, rfl, ho0, ho1, hb⟩; refine ⟨_, rfl, ?_⟩; have n0_ := Aside0.mk (Kd.R_lower ho0 (below_size (by repeat (first | (with_reducible first | exact HB.out | apply below_alloc | apply pw_below_drewN | apply below_drew1 | refine below_set ?_ GE274.out | refine below_set ?_ GE275.out) | exact HB.out)))); have n1_ := Aside0.mk (Kd.R_lower ho1 (below_size (by repeat (first | (with_reducible first | exact HB.out | apply below_alloc | apply pw_below_drewN | apply below_drew1 | refine below_set ?_ GE274.out | refine below_set ?_ GE275.out) | exact HB.out)))); have n2_ := Aside0.mk (blk_below (g := gb274) (o := .cells #[.slice A0_0 l0_0.length c0_0, .slice A0_1 l0_1.length c0_1] 38 (0, 0)) (by (with_reducible repeat (first | refine blk_drewN ?_ _ | refine blk_drew ?_ | refine blk_alloc ?_ _)); exact BK274.out) hb); have n3_ := Aside0.mk (blk_below (g := gb275) (o := .cells #[.slice none 0 0, .slice none 0 0] 38 (0, 0)) (by (with_reducible repeat (first | refine blk_drewN ?_ _ | refine blk_drew ?_ | refine blk_alloc ?_ _)); exact BK275.out) hb); have n4_ := Aside0.mk (below_step (by repeat (first | (with_reducible first | exact HB.out | apply below_alloc | apply pw_below_drewN | apply below_drew1 | refine below_set ?_ GE274.out | refine below_set ?_ GE275.out) | exact HB.out)) hb); clear BK274; clear BK275; clear HB; have HO280 := n0_; have HO283 := n1_; have BK274 := n2_; have BK275 := n3_; have HB := n4_; clear n0_ n1_ n2_ n3_ n4_; (try clear hb); (try clear hb2); (try clear hk); (try clear hi); (try clear ho0); (try clear ho1)) | ((with_reducible refine gate_dst (N := 7) rfl ?_); refine box_event ?hg (N := 7) ?hd (cs := #[.slice none 0 0, .slice none 0 0]) (t := 38) ?hr ?_; (case hd => rfl); (case hg => rfl); (case hr => first | (go_simp; done) | (go_simp; rfl)); intro gb284 hg w27 hbox hb; have n0_ := Aside0.mk (Kd.R_below (by (with_reducible repeat (first | apply Kd.R_alloc | apply Kd.R_drewN | apply Kd.R_drew)); exact HO280.out) hb); have n1_ := Aside0.mk (Kd.R_below (by (with_reducible repeat (first | apply Kd.R_alloc | apply Kd.R_drewN | apply Kd.R_drew)); exact HO283.out) hb); have n2_ := Aside0.mk (blk_below (g := gb274) (o := .cells #[.slice A0_0 l0_0.length c0_0, .slice A0_1 l0_1.length c0_1] 38 (0, 0)) (by (with_reducible repeat (first | refine blk_drewN ?_ _ | refine blk_drew ?_ | refine blk_alloc ?_ _)); exact BK274.out) hb); have n3_ := Aside0.mk (blk_below (g := gb275) (o := .cells #[.slice none 0 0, .slice none 0 0] 38 (0, 0)) (by (with_reducible repeat (first | refine blk_drewN ?_ _ | refine blk_drew ?_ | refine blk_alloc ?_ _)); exact BK275.out) hb); have n4_ := Aside0.mk (below_step (by repeat (first | (with_reducible first | exact HB.out | apply below_alloc | apply pw_below_drewN | apply below_drew1 | refine below_set ?_ GE274.out | refine below_set ?_ GE275.out) | exact HB.out)) hb); have n5_ := Aside0.mk (hbox); have n6_ := Aside0.mk ((by rw [hg]; exact (below_size (by repeat (first | (with_reducible first | exact HB.out | apply below_alloc | apply pw_below_drewN | apply below_drew1 | refine below_set ?_ GE274.out | refine below_set ?_ GE275.out) | exact HB.out))) : w.heap.size ≤ gb284)); have n7_ := Aside0.mk ((by rw [hg]; exact (below_size (by repeat (first | (with_reducible first | exact HB.out | apply below_alloc | apply pw_below_drewN | apply below_drew1 | refine below_set ?_ GE274.out | refine below_set ?_ GE275.out) | exact HB.out))) : w.heap.size ≤ gb284)); have n8_ := Aside0.mk ((by rw [hg]; exact Nat.ne_of_lt (blk_lt (g := gb274) (o := .cells #[.slice A0_0 l0_0.length c0_0, .slice A0_1 l0_1.length c0_1] 38 (0, 0)) (by (with_reducible repeat (first | refine blk_drewN ?_ _ | refine blk_drew ?_ | refine blk_alloc ?_ _)); exact BK274.out)) : gb274 ≠ gb284)); have n9_ := Aside0.mk ((by rw [hg]; exact Nat.ne_of_gt (blk_lt (g := gb274) (o := .cells #[.slice A0_0 l0_0.length c0_0, .slice A0_1 l0_1.length c0_1] 38 (0, 0)) (by (with_reducible repeat (first | refine blk_drewN ?_ _ | refine blk_drew ?_ | refine blk_alloc ?_ _)); exact BK274.out)) : gb284 ≠ gb274)); have n10_ := Aside0.mk ((by rw [hg]; exact Nat.ne_of_lt (blk_lt (g := gb275) (o := .cells #[.slice none 0 0, .slice none 0 0] 38 (0, 0)) (by (with_reducible repeat (first | refine blk_drewN ?_ _ | refine blk_drew ?_ | refine blk_alloc ?_ _)); exact BK275.out)) : gb275 ≠ gb284)); have n11_ := Aside0.mk ((by rw [hg]; exact Nat.ne_of_gt (blk_lt (g := gb275) (o := .cells #[.slice none 0 0, .slice none 0 0] 38 (0, 0)) (by (with_reducible repeat (first | refine blk_drewN ?_ _ | refine blk_drew ?_ | refine blk_alloc ?_ _)); exact BK275.out)) : gb284 ≠ gb275)); clear HO280; clear HO283; clear BK274; clear BK275; clear HB; have HO280 := n0_; have HO283 := n1_; have BK274 := n2_; have BK275 := n3_; have HB := n4_; have BK284 := n5_; have GW284 := n6_; have GE284 := n7_; have NB274_284 := n8_; have NB284_274 := n9_; have NB275_284 := n10_; have NB284_275 := n11_; clear n0_ n1_ n2_ n3_ n4_ n5_ n6_ n7_ n8_ n9_ n10_ n11_; clear hb hbox hg; obtain ⟨Ao28, co28, eo28⟩ := Kd.R_slice HO280.out; subst eo28; have hnb29 := NB284_274.out; have hnc29 := NB274_284.out; have hnb30 := NB284_275.out; have hnc30 := NB275_284.out; have hcz31_0 : w27.cell? ⟨gb284, 0, none⟩ = some (.slice none 0 0) := (blk_cell BK284.out 0).trans rfl; have hcz31_1 : w27.cell? ⟨gb284, 1, none⟩ = some (.slice none 0 0) := (blk_cell BK284.out 1).trans rfl; have hfz31_0 := blk_frozen BK284.out 0; have hfz31_1 := blk_frozen BK284.out 1; obtain ⟨Ao32, co32, eo32⟩ := Kd.R_slice HO283.out; subst eo32; have hcz33_0 : w27.cell? ⟨gb274, 0, none⟩ = some (.slice A0_0 l0_0.length c0_0) := (blk_cell BK274.out 0).trans rfl; have hcz33_1 : w27.cell? ⟨gb274, 1, none⟩ = some (.slice A0_1 l0_1.length c0_1) := (blk_cell BK274.out 1).trans rfl; have hfz33_0 := blk_frozen BK274.out 0; have hfz33_1 := blk_frozen BK274.out 1) | ((with_reducible refine gate_callee (f := 107) rfl ?_); refine goesL_ (some 35) rfl rfl Try.func107 (by kernel_rfl) rfl #[.slice A0_0 l0_0.length c0_0, .int .i64 a1] rfl (by (try simp only [List.map_toArray, List.map_cons, List.map_nil]); first | done | rfl | (simp only [List.length_drop, List.length_take]; rfl)) ?_; (with_reducible refine (impl_lines.calls kj3 _ _ l0_0 a1 t285 t286 t287 _ ?side1 ?side2 A21.out).mono ?_); (case side1 => exact Kd.C_below HR0_0.out (by repeat (first | (with_reducible first | exact HB.out | apply below_alloc | apply pw_below_drewN | apply below_drew1 | refine below_set ?_ GE274.out | refine below_set ?_ GE275.out | refine below_set ?_ GE284.out) | exact HB.out))); (case side2 => exact HC0_0.out); rintro e w' ⟨rfl, ⟨nd, rfl⟩⟩; refine ⟨_, rfl, ?_⟩) | ((with_reducible refine gate_dst (N := 40) rfl ?_); refine Kd.R_make (Kd.int .i64) _ 3 rfl (N := 40) rfl 29 _ _ rfl t286 rfl rfl Try.underlying29 (.int .i64 0) 8 info3 rfl (by decide) (by omega) 0 (ok := fun _ => True) (okp := fun _ => True) rfl (fun _ hk => hk) trivial (of_decide_eq_true (by first | (with_reducible assumption) | assumption)) (Nat.le_trans (Nat.mul_le_mul_right _ (of_decide_eq_true (by first | (with_reducible assumption) | assumption) : t286.toNat ≤ 35184372088832)) (by omega)) (Below.refl _ _) (Nat.le_refl _) ?_; intro v289 w34 ho35 hb hg_ hnew_; clear hg_ hnew_; (first | rw [← Ny288.out] at ho35 | (simp only [Int.reduceToNat] at ho35; rw [← Ny288.out] at ho35)); have n0_ := Aside0.mk (Kd.R_elder' (by (with_reducible repeat (first | apply Kd.R_alloc | apply Kd.R_drewN | apply Kd.R_drew)); exact (Kd.R_mono (Kd.R_far (p := ⟨gb284, 1, none⟩) (Kd.R_far (p := ⟨gb284, 0, none⟩) (Kd.R_types HO280.out BK284.out (by decide)) (fun _ hk => hk.2) (.slice Ao28 t278.length co28)) (fun _ hk => hk.2) (.slice Ao32 t281.length co32)) (fun _ h_ => h_.1))) (Kd.R_base ho35) hb); have n1_ := Aside0.mk (Kd.R_elder' (by (with_reducible repeat (first | apply Kd.R_alloc | apply Kd.R_drewN | apply Kd.R_drew)); exact (Kd.R_mono (Kd.R_far (p := ⟨gb284, 1, none⟩) (Kd.R_far (p := ⟨gb284, 0, none⟩) (Kd.R_types HO283.out BK284.out (by decide)) (fun _ hk => hk.2) (.slice Ao28 t278.length co28)) (fun _ hk => hk.2) (.slice Ao32 t281.length co32)) (fun _ h_ => h_.1))) (Kd.R_base ho35) hb); have n2_ := Aside0.mk (Kd.R_lower (Kd.R_new' (Kd.R_new' ho35 (Kd.R_lt (by (with_reducible repeat (first | apply Kd.R_alloc | apply Kd.R_drewN | apply Kd.R_drew)); exact (Kd.R_mono (Kd.R_far (p := ⟨gb284, 1, none⟩) (Kd.R_far (p := ⟨gb284, 0, none⟩) (Kd.R_types HO280.out BK284.out (by decide)) (fun _ hk => hk.2) (.slice Ao28 t278.length co28)) (fun _ hk => hk.2) (.slice Ao32 t281.length co32)) (fun _ h_ => h_.1))))) (Kd.R_lt (by (with_reducible repeat (first | apply Kd.R_alloc | apply Kd.R_drewN | apply Kd.R_drew)); exact (Kd.R_mono (Kd.R_far (p := ⟨gb284, 1, none⟩) (Kd.R_far (p := ⟨gb284, 0, none⟩) (Kd.R_types HO283.out BK284.out (by decide)) (fun _ hk => hk.2) (.slice Ao28 t278.length co28)) (fun _ hk => hk.2) (.slice Ao32 t281.length co32)) (fun _ h_ => h_.1))))) (below_size (by repeat (first | (with_reducible first | exact HB.out | apply below_alloc | apply pw_below_drewN | apply below_drew1 | refine below_set ?_ GE274.out | refine below_set ?_ GE275.out | refine below_set ?_ GE284.out) | exact HB.out)))); have n3_ := Aside0.mk (blk_below (g := gb274) (o := .cells #[.slice A0_0 l0_0.length c0_0, .slice A0_1 l0_1.length c0_1] 38 (0, 0)) (by (with_reducible repeat (first | refine blk_drewN ?_ _ | refine blk_drew ?_ | refine blk_alloc ?_ _)); refine blk_far ?_ NB274_284.out _; (with_reducible repeat (first | refine blk_drewN ?_ _ | refine blk_drew ?_ | refine blk_alloc ?_ _)); refine blk_far ?_ NB274_284.out _; (with_reducible repeat (first | refine blk_drewN ?_ _ | refine blk_drew ?_ | refine blk_alloc ?_ _)); exact BK274.out) hb); have n4_ := Aside0.mk (blk_below (g := gb275) (o := .cells #[.slice none 0 0, .slice none 0 0] 38 (0, 0)) (by (with_reducible repeat (first | refine blk_drewN ?_ _ | refine blk_drew ?_ | refine blk_alloc ?_ _)); refine blk_far ?_ NB275_284.out _; (with_reducible repeat (first | refine blk_drewN ?_ _ | refine blk_drew ?_ | refine blk_alloc ?_ _)); refine blk_far ?_ NB275_284.out _; (with_reducible repeat (first | refine blk_drewN ?_ _ | refine blk_drew ?_ | refine blk_alloc ?_ _)); exact BK275.out) hb); have n5_ := Aside0.mk (blk_below (g := gb284) (o := .cells #[.slice Ao28 t278.length co28, .slice Ao32 t281.length co32] 38 (0, 0)) (by (with_reducible repeat (first | refine blk_drewN ?_ _ | refine blk_drew ?_ | refine blk_alloc ?_ _)); refine blk_put (cs := #[.slice Ao28 t278.length co28, .slice none 0 0]) ?_ 1 _ rfl; (with_reducible repeat (first | refine blk_drewN ?_ _ | refine blk_drew ?_ | refine blk_alloc ?_ _)); refine blk_put (cs := #[.slice none 0 0, .slice none 0 0]) ?_ 0 _ rfl; (with_reducible repeat (first | refine blk_drewN ?_ _ | refine blk_drew ?_ | refine blk_alloc ?_ _)); exact BK284.out) hb); have n6_ := Aside0.mk (below_step (by repeat (first | (with_reducible first | exact HB.out | apply below_alloc | apply pw_below_drewN | apply below_drew1 | refine below_set ?_ GE274.out | refine below_set ?_ GE275.out | refine below_set ?_ GE284.out) | exact HB.out)) hb); clear HO280; clear HO283; clear BK274; clear BK275; clear BK284; clear HB; have HO280 := n0_; have HO283 := n1_; have HO290 := n2_; have BK274 := n3_; have BK275 := n4_; have BK284 := n5_; have HB := n6_; clear n0_ n1_ n2_ n3_ n4_ n5_ n6_; clear hb ho35))
            go_loopg [12] kj3 (fun kq v12 w' => ∃ (x11_2 : List Int) (x12_2 : Int) (x285000_2 : List Int) (x285001_2 : List Int) (u285000 : Value) (u285001 : Value), v12 = .int .i64 x12_2 ∧ Aside0 (impl_byLines.l0 kq a2 t285 t286 t287 x11_2 x12_2 l0_0 l0_1 x285000_2 x285001_2 = some (r1, r2)) ∧ Aside0 (kq ≤ kj3) ∧ Aside0 (Kd.R (Kd.int .i64) 3 w' w.heap.size (fun k_ => some k_ ≠ (u285000 : Value).ownBlock ∧ some k_ ≠ (u285001 : Value).ownBlock) v289 x11_2) ∧ Aside0 (Kd.R (Kd.int .i64) 3 w' w.heap.size (fun k_ => some k_ ≠ (v289 : Value).ownBlock ∧ some k_ ≠ (u285001 : Value).ownBlock) u285000 x285000_2) ∧ Aside0 (Kd.R (Kd.int .i64) 3 w' w.heap.size (fun k_ => some k_ ≠ (v289 : Value).ownBlock ∧ some k_ ≠ (u285000 : Value).ownBlock) u285001 x285001_2) ∧ Aside0 (w'.heap[gb274]? = some (.cells #[(.slice A0_0 l0_0.length c0_0), (.slice A0_1 l0_1.length c0_1)] 38 (0, 0))) ∧ Aside0 (w'.heap[gb275]? = some (.cells #[(.slice none 0 0), (.slice none 0 0)] 38 (0, 0))) ∧ Aside0 (w'.heap[gb284]? = some (.cells #[u285000, u285001] 38 (0, 0))) ∧ Aside0 (Below w.heap.size w w'))
            case atStart => exact ⟨(y288), (0), (t278), (t281), (.slice Ao28 t278.length co28), (.slice Ao32 t281.length co32), (by first | rfl | (simp; done) | (simp [*]; done)), H', ⟨Nat.le_refl _⟩, ⟨by (with_reducible repeat (first | apply Kd.R_alloc | apply Kd.R_drewN | apply Kd.R_drew)); exact Kd.R_mono HO290.out (fun _ hk => ⟨hk.1.2, hk.2⟩)⟩, ⟨by (with_reducible repeat (first | apply Kd.R_alloc | apply Kd.R_drewN | apply Kd.R_drew)); exact Kd.R_mono HO280.out (fun _ hk => ⟨hk.2, hk.1⟩)⟩, ⟨by (with_reducible repeat (first | apply Kd.R_alloc | apply Kd.R_drewN | apply Kd.R_drew)); exact Kd.R_mono HO283.out (fun _ hk => ⟨hk.2, hk.1⟩)⟩, ⟨by (with_reducible repeat (first | refine blk_drewN ?_ _ | refine blk_drew ?_ | refine blk_alloc ?_ _)); exact BK274.out⟩, ⟨by (with_reducible repeat (first | refine blk_drewN ?_ _ | refine blk_drew ?_ | refine blk_alloc ?_ _)); exact BK275.out⟩, ⟨by (with_reducible repeat (first | refine blk_drewN ?_ _ | refine blk_drew ?_ | refine blk_alloc ?_ _)); exact BK284.out⟩, ⟨by repeat (first | (with_reducible first | exact HB.out | apply below_alloc | apply pw_below_drewN | apply below_drew1 | refine below_set ?_ GE274.out | refine below_set ?_ GE275.out | refine below_set ?_ GE284.out) | exact HB.out)⟩⟩
            case round =>
              clear H'
              try clear c1
              try clear c2
              try clear p2
              try clear c3
              try clear c6
              try clear c7
              try clear c8
              try clear c9
              try clear c10
              try clear c14
              try clear c17
              try clear c18
              try clear c22
              try clear c22b0
              try clear c22b1
              try clear c23
              try clear c23b0
              try clear c23b1
              try clear c24
              try clear c29
              try clear c30
              try clear hcz11_0
              try clear hcz11_1
              try clear hcz13_0
              try clear hcz13_1
              try clear hcz15_0
              try clear hcz15_1
              try clear hcz19_0
              try clear hcz19_1
              try clear hcz25_0
              try clear hcz25_1
              try clear hcz31_0
              try clear hcz31_1
              try clear hcz33_0
              try clear hcz33_1
              try clear hfz11_0
              try clear hfz11_1
              try clear hfz13_0
              try clear hfz13_1
              try clear hfz15_0
              try clear hfz15_1
              try clear hfz19_0
              try clear hfz19_1
              try clear hfz25_0
              try clear hfz25_1
              try clear hfz31_0
              try clear hfz31_1
              try clear hfz33_0
              try clear hfz33_1
              try clear p2
              obtain ⟨x11_2, x12_2, x285000_2, x285001_2, u285000, u285001, rfl, HA, HK2, HO_11, HO_285000, HO_285001, BK274, BK275, BK284, HB⟩ := hrel
              cases gk with
              | zero => exact absurd HA.out (by simp [impl_byLines.l0])
              | succ k2 =>
                have H := HA.out
                clear HA
                simp only [impl_byLines.l0] at H
                by_cases c36 : x12_2 < t285
                · rw [if_pos c36] at H
                  have c36b0 : decide (x12_2 < t285) = true := decide_eq_true c36
                  clear c36
                  have H' := Aside0.mk H
                  clear H
                  go_wp2
                  go_loopg [13] k2 (fun kq v13 w' => ∃ (x11_3 : List Int) (x13_3 : Int) (x285000_3 : List Int) (x285001_3 : List Int) (u285000 : Value) (u285001 : Value), v13 = .int .i64 x13_3 ∧ Aside0 (impl_byLines.l1 kq a2 t285 t286 t287 x11_3 x12_2 x13_3 l0_0 l0_1 x285000_3 x285001_3 = some (r1, r2)) ∧ Aside0 (kq ≤ k2) ∧ Aside0 (Kd.R (Kd.int .i64) 3 w' w.heap.size (fun k_ => some k_ ≠ (u285000 : Value).ownBlock ∧ some k_ ≠ (u285001 : Value).ownBlock) v289 x11_3) ∧ Aside0 (Kd.R (Kd.int .i64) 3 w' w.heap.size (fun k_ => some k_ ≠ (v289 : Value).ownBlock ∧ some k_ ≠ (u285001 : Value).ownBlock) u285000 x285000_3) ∧ Aside0 (Kd.R (Kd.int .i64) 3 w' w.heap.size (fun k_ => some k_ ≠ (v289 : Value).ownBlock ∧ some k_ ≠ (u285000 : Value).ownBlock) u285001 x285001_3) ∧ Aside0 (w'.heap[gb274]? = some (.cells #[(.slice A0_0 l0_0.length c0_0), (.slice A0_1 l0_1.length c0_1)] 38 (0, 0))) ∧ Aside0 (w'.heap[gb275]? = some (.cells #[(.slice none 0 0), (.slice none 0 0)] 38 (0, 0))) ∧ Aside0 (w'.heap[gb284]? = some (.cells #[u285000, u285001] 38 (0, 0))) ∧ Aside0 (Below w.heap.size w w'))
                  case atStart => exact ⟨(x11_2), (0), (x285000_2), (x285001_2), (u285000), (u285001), (by first | rfl | (simp; done) | (simp [*]; done)), H', ⟨Nat.le_refl _⟩, ⟨by (with_reducible repeat (first | apply Kd.R_alloc | apply Kd.R_drewN | apply Kd.R_drew)); exact HO_11.out⟩, ⟨by (with_reducible repeat (first | apply Kd.R_alloc | apply Kd.R_drewN | apply Kd.R_drew)); exact HO_285000.out⟩, ⟨by (with_reducible repeat (first | apply Kd.R_alloc | apply Kd.R_drewN | apply Kd.R_drew)); exact HO_285001.out⟩, ⟨by (with_reducible repeat (first | refine blk_drewN ?_ _ | refine blk_drew ?_ | refine blk_alloc ?_ _)); exact BK274.out⟩, ⟨by (with_reducible repeat (first | refine blk_drewN ?_ _ | refine blk_drew ?_ | refine blk_alloc ?_ _)); exact BK275.out⟩, ⟨by (with_reducible repeat (first | refine blk_drewN ?_ _ | refine blk_drew ?_ | refine blk_alloc ?_ _)); exact BK284.out⟩, ⟨by repeat (first | (with_reducible first | exact HB.out | apply below_alloc | apply pw_below_drewN | apply below_drew1 | refine below_set ?_ GE274.out | refine below_set ?_ GE275.out | refine below_set ?_ GE284.out) | exact HB.out)⟩⟩
                  case round =>
                    clear H'
                    try clear c1
                    try clear c2
                    try clear p2
                    try clear c3
                    try clear c6
                    try clear c7
                    try clear c8
                    try clear c9
                    try clear c10
                    try clear c14
                    try clear c17
                    try clear c18
                    try clear c22
                    try clear c22b0
                    try clear c22b1
                    try clear c23
                    try clear c23b0
                    try clear c23b1
                    try clear c24
                    try clear c29
                    try clear c30
                    try clear c36
                    try clear c36b0
                    try clear hcz11_0
                    try clear hcz11_1
                    try clear hcz13_0
                    try clear hcz13_1
                    try clear hcz15_0
                    try clear hcz15_1
                    try clear hcz19_0
                    try clear hcz19_1
                    try clear hcz25_0
                    try clear hcz25_1
                    try clear hcz31_0
                    try clear hcz31_1
                    try clear hcz33_0
                    try clear hcz33_1
                    try clear hfz11_0
                    try clear hfz11_1
                    try clear hfz13_0
                    try clear hfz13_1
                    try clear hfz15_0
                    try clear hfz15_1
                    try clear hfz19_0
                    try clear hfz19_1
                    try clear hfz25_0
                    try clear hfz25_1
                    try clear hfz31_0
                    try clear hfz31_1
                    try clear hfz33_0
                    try clear hfz33_1
                    try clear p2
                    obtain ⟨x11_3, x13_3, x285000_3, x285001_3, u285000, u285001, rfl, HA, HK3, HO_11, HO_285000, HO_285001, BK274, BK275, BK284, HB⟩ := hrel
                    cases gk with
                    | zero => exact absurd HA.out (by simp [impl_byLines.l1])
                    | succ k3 =>
                      have H := HA.out
                      clear HA
                      simp only [impl_byLines.l1] at H
                      by_cases c37 : x13_3 < t287
                      · rw [if_pos c37] at H
                        have c37b0 : decide (x13_3 < t287) = true := decide_eq_true c37
                        clear c37
                        have H' := Aside0.mk H
                        clear H
                        obtain ⟨Ao38, co38, eo38⟩ := Kd.R_slice HO_11.out
                        subst eo38
                        go_wp2
                        go_loopg [53] k3 (fun kq v53 w' => ∃ (x11_4 : List Int) (x53_4 : Int), v53 = .int .i64 x53_4 ∧ Aside0 (impl_byLines.l2 kq a2 t285 t286 t287 x11_4 x12_2 x13_3 (x11_3.length : Int) x53_4 l0_0 l0_1 x285000_3 x285001_3 = some (r1, r2)) ∧ Aside0 (kq ≤ k3) ∧ Aside0 (Kd.R (Kd.int .i64) 3 w' w.heap.size (fun k_ => some k_ ≠ (u285000 : Value).ownBlock ∧ some k_ ≠ (u285001 : Value).ownBlock) (.slice Ao38 x11_3.length co38) x11_4) ∧ Aside0 (Kd.R (Kd.int .i64) 3 w' w.heap.size (fun k_ => some k_ ≠ ((.slice Ao38 x11_3.length co38) : Value).ownBlock ∧ some k_ ≠ (u285001 : Value).ownBlock) u285000 x285000_3) ∧ Aside0 (Kd.R (Kd.int .i64) 3 w' w.heap.size (fun k_ => some k_ ≠ ((.slice Ao38 x11_3.length co38) : Value).ownBlock ∧ some k_ ≠ (u285000 : Value).ownBlock) u285001 x285001_3) ∧ Aside0 (w'.heap[gb274]? = some (.cells #[(.slice A0_0 l0_0.length c0_0), (.slice A0_1 l0_1.length c0_1)] 38 (0, 0))) ∧ Aside0 (w'.heap[gb275]? = some (.cells #[(.slice none 0 0), (.slice none 0 0)] 38 (0, 0))) ∧ Aside0 (w'.heap[gb284]? = some (.cells #[u285000, u285001] 38 (0, 0))) ∧ Aside0 (Below w.heap.size w w'))
                        case atStart => exact ⟨(x11_3), (0), (by first | rfl | (simp; done) | (simp [*]; done)), H', ⟨Nat.le_refl _⟩, ⟨by (with_reducible repeat (first | apply Kd.R_alloc | apply Kd.R_drewN | apply Kd.R_drew)); exact HO_11.out⟩, ⟨by (with_reducible repeat (first | apply Kd.R_alloc | apply Kd.R_drewN | apply Kd.R_drew)); exact HO_285000.out⟩, ⟨by (with_reducible repeat (first | apply Kd.R_alloc | apply Kd.R_drewN | apply Kd.R_drew)); exact HO_285001.out⟩, ⟨by (with_reducible repeat (first | refine blk_drewN ?_ _ | refine blk_drew ?_ | refine blk_alloc ?_ _)); exact BK274.out⟩, ⟨by (with_reducible repeat (first | refine blk_drewN ?_ _ | refine blk_drew ?_ | refine blk_alloc ?_ _)); exact BK275.out⟩, ⟨by (with_reducible repeat (first | refine blk_drewN ?_ _ | refine blk_drew ?_ | refine blk_alloc ?_ _)); exact BK284.out⟩, ⟨by repeat (first | (with_reducible first | exact HB.out | apply below_alloc | apply pw_below_drewN | apply below_drew1 | refine below_set ?_ GE274.out | refine below_set ?_ GE275.out | refine below_set ?_ GE284.out) | exact HB.out)⟩⟩
                        case round =>
                          clear H'
                          try clear c1
                          try clear c2
                          try clear p2
                          try clear c3
                          try clear c6
                          try clear c7
                          try clear c8
                          try clear c9
                          try clear c10
                          try clear c14
                          try clear c17
                          try clear c18
                          try clear c22
                          try clear c22b0
                          try clear c22b1
                          try clear c23
                          try clear c23b0
                          try clear c23b1
                          try clear c24
                          try clear c29
                          try clear c30
                          try clear c36
                          try clear c36b0
                          try clear c37
                          try clear c37b0
                          try clear hcz11_0
                          try clear hcz11_1
                          try clear hcz13_0
                          try clear hcz13_1
                          try clear hcz15_0
                          try clear hcz15_1
                          try clear hcz19_0
                          try clear hcz19_1
                          try clear hcz25_0
                          try clear hcz25_1
                          try clear hcz31_0
                          try clear hcz31_1
                          try clear hcz33_0
                          try clear hcz33_1
                          try clear hfz11_0
                          try clear hfz11_1
                          try clear hfz13_0
                          try clear hfz13_1
                          try clear hfz15_0
                          try clear hfz15_1
                          try clear hfz19_0
                          try clear hfz19_1
                          try clear hfz25_0
                          try clear hfz25_1
                          try clear hfz31_0
                          try clear hfz31_1
                          try clear hfz33_0
                          try clear hfz33_1
                          try clear p2
                          obtain ⟨x11_4, x53_4, rfl, HA, HK4, HO_11, HO_285000, HO_285001, BK274, BK275, BK284, HB⟩ := hrel
                          have hl11_4 := (Kd.R_reads' HO_11.out).1
                          rw [hl11_4] at HO_11
                          (try simp only [hl11_4])
                          (try simp only [hl11_4] at BK274)
                          (try simp only [hl11_4] at BK275)
                          (try simp only [hl11_4] at BK284)
                          (try simp only [hl11_4] at HO_285000)
                          (try simp only [hl11_4] at HO_285001)
                          cases gk with
                          | zero => exact absurd HA.out (by simp [impl_byLines.l2])
                          | succ k4 =>
                            have H := HA.out
                            clear HA
                            simp only [impl_byLines.l2] at H
                            by_cases c39 : x53_4 < (x11_3.length : Int)
                            · rw [if_pos c39] at H
                              have c39b0 : decide (x53_4 < (x11_3.length : Int)) = true := decide_eq_true c39
                              clear c39
                              obtain ⟨ji40, hji40⟩ : ∃ j_ : Int, (wrap64 ((wrap64 ((wrap64 ((wrap64 (x12_2 * t286)) + x53_4)) * t287)) + x13_3)) = j_ := ⟨_, rfl⟩
                              replace H : (if 0 ≤ (ji40) then (if (ji40) < (l0_1.length : Int) then (if 0 ≤ x53_4 then (if x53_4 < (x11_4.length : Int) then (impl_byLines.l2 k4 a2 t285 t286 t287 (x11_4.set (x53_4 : Int).toNat (rd l0_1 (ji40))) x12_2 x13_3 (x11_3.length : Int) (wrap64 (x53_4 + 1)) l0_0 l0_1 x285000_3 x285001_3) else (none)) else (none)) else (none)) else (none)) = some (r1, r2) := by first | (rw [hji40] at H; exact H) | (simp only [hji40] at H ⊢; exact H)
                              have hji40w : (IntKind.i64.wrap ((wrap64 ((wrap64 ((wrap64 (x12_2 * t286)) + x53_4)) * t287)) + x13_3)) = ji40 := (i64_w _).trans hji40
                              by_cases c41 : 0 ≤ (ji40)
                              · rw [if_pos c41] at H
                                have c41b0 : decide (0 ≤ (ji40)) = true := decide_eq_true c41
                                clear c41
                                by_cases c42 : (ji40) < (l0_1.length : Int)
                                · rw [if_pos c42] at H
                                  have c42b0 : decide ((ji40) < (l0_1.length : Int)) = true := decide_eq_true c42
                                  clear c42
                                  by_cases c43 : 0 ≤ x53_4
                                  · rw [if_pos c43] at H
                                    have c43b0 : decide (0 ≤ x53_4) = true := decide_eq_true c43
                                    clear c43
                                    by_cases c44 : x53_4 < (x11_4.length : Int)
                                    · rw [if_pos c44] at H
                                      have c44b0 : decide (x53_4 < (x11_4.length : Int)) = true := decide_eq_true c44
                                      clear c44
                                      obtain ⟨y292, hy292⟩ : ∃ y_ : List Int, y_ = (x11_4.set (x53_4 : Int).toNat (rd l0_1 (ji40))) := ⟨_, rfl⟩
                                      replace H : (impl_byLines.l2 k4 a2 t285 t286 t287 y292 x12_2 x13_3 (x11_3.length : Int) (wrap64 (x53_4 + 1)) l0_0 l0_1 x285000_3 x285001_3) = some (r1, r2) := by first | (rw [hy292]; with_reducible exact H) | (have H2_ := (Option.bind_some _ _).symm.trans H; rw [hy292]; with_reducible exact H2_) | (have H2_ := (Option.bind_some _ _).symm.trans H; with_reducible exact H2_) | with_reducible exact H | (rw [hy292]; exact H) | exact H
                                      have Ny292 := Aside0.mk hy292
                                      clear hy292
                                      have H' := Aside0.mk H
                                      clear H
                                      have hnb46 := NB274_275.out
                                      have hnc46 := NB275_274.out
                                      have hnb47 := NB274_284.out
                                      have hnc47 := NB284_274.out
                                      have hcz48_0 : wr.cell? ⟨gb274, 0, none⟩ = some (.slice A0_0 l0_0.length c0_0) := (blk_cell BK274.out 0).trans rfl
                                      have hcz48_1 : wr.cell? ⟨gb274, 1, none⟩ = some (.slice A0_1 l0_1.length c0_1) := (blk_cell BK274.out 1).trans rfl
                                      have hfz48_0 := blk_frozen BK274.out 0
                                      have hfz48_1 := blk_frozen BK274.out 1
                                      have p291 : 0 ≤ ((ji40) : Int) := of_decide_eq_true (by first | (with_reducible assumption) | assumption)
                                      have q291 : (ji40) < (l0_1.length : Int) := of_decide_eq_true (by first | (with_reducible assumption) | assumption)
                                      obtain ⟨ad291, e291, hx291_0⟩ := Kd.at_int HR0_1.out (ji40) p291 q291
                                      cases e291
                                      replace hx291_0 := (HB.out.cell (World.block_lt_of_cell? w _ hx291_0)).trans hx291_0
                                      replace p291 := eq_true p291
                                      replace q291 := eq_true q291
                                      have p45 : 0 ≤ (x53_4 : Int) := of_decide_eq_true (by first | (with_reducible assumption) | assumption)
                                      have q45 : (x53_4 : Int) < ((x11_4.length : Int) : Int) := of_decide_eq_true (by first | (with_reducible assumption) | assumption)
                                      obtain ⟨go45, co45, eo45, gb45, gl45, cl45, HG45⟩ := Kd.R_form HO_11.out (by omega)
                                      (first | cases eo45 | (injection eo45 with ea_ en_ ec_; (first | subst ea_ | (injection ea_ with ea_; subst ea_)); subst ec_; clear en_))
                                      have GB45 := Aside0.mk gb45
                                      have GG45 := Aside0.mk HG45
                                      clear gb45 gl45 HG45
                                      obtain ⟨hx45_0, hf45_0⟩ := Kd.R_celln 0 HO_11.out (x53_4 : Int) p45 q45
                                      replace p45 := eq_true p45
                                      replace q45 := eq_true q45
                                      have HP49 := Kd.R_putg HO_11.out (x53_4 : Int) (rd l0_1 (ji40))
                                      go_wp2_with (first | ((with_reducible refine gate_store (t := 3) (p := 71) rfl ?_); refine store_event (t := 3) (p := 71) (v := ?vo_w50) (w1 := (wr.setCell ⟨go45, (x53_4 : Int).toNat, none⟩ (.int .i64 (rd l0_1 (ji40))))) ?hg ?ho ?hn ?hr ?_; (case ho => rfl); (case hg => rfl); (case hn => rfl); (case hr => first | (go_simp; done) | (go_simp; rfl)); intro w50 hw; have hg : wr.grownBy w50 (some go45) := (by rw [hw]; exact HP49.2); have hp_ : Kd.R (Kd.int .i64) 3 w50 w.heap.size (fun k_ => some k_ ≠ (u285000 : Value).ownBlock ∧ some k_ ≠ (u285001 : Value).ownBlock) (.slice (some ⟨go45, 0, none⟩) x11_4.length co38) y292 := (by rw [hw, Ny292.out]; exact HP49.1); clear HP49; have n0_ := Aside0.mk (hp_); have n1_ := Aside0.mk (Kd.R_after (v := (.slice (some ⟨go45, 0, none⟩) x11_4.length co38)) (v1 := (.slice (some ⟨go45, 0, none⟩) x11_4.length co38)) (ok := (fun k_ => some k_ ≠ (u285001 : Value).ownBlock)) (by (with_reducible repeat (first | apply Kd.R_alloc | apply Kd.R_drewN | apply Kd.R_drew)); exact Kd.R_mono HO_285000.out (fun _ hk => ⟨hk.2, hk.1⟩)) hg (.inl rfl)); have n2_ := Aside0.mk (Kd.R_after (v := (.slice (some ⟨go45, 0, none⟩) x11_4.length co38)) (v1 := (.slice (some ⟨go45, 0, none⟩) x11_4.length co38)) (ok := (fun k_ => some k_ ≠ (u285000 : Value).ownBlock)) (by (with_reducible repeat (first | apply Kd.R_alloc | apply Kd.R_drewN | apply Kd.R_drew)); exact Kd.R_mono HO_285001.out (fun _ hk => ⟨hk.2, hk.1⟩)) hg (.inl rfl)); have n3_ := Aside0.mk (blk_grown (g := gb274) (o := .cells #[.slice A0_0 l0_0.length c0_0, .slice (some ad291) l0_1.length c0_1] 38 (0, 0)) (by (with_reducible repeat (first | refine blk_drewN ?_ _ | refine blk_drew ?_ | refine blk_alloc ?_ _)); exact BK274.out) hg (Kd.R_ne HO_11.out BK274.out (by decide))); have n4_ := Aside0.mk (blk_grown (g := gb275) (o := .cells #[.slice none 0 0, .slice none 0 0] 38 (0, 0)) (by (with_reducible repeat (first | refine blk_drewN ?_ _ | refine blk_drew ?_ | refine blk_alloc ?_ _)); exact BK275.out) hg (Kd.R_ne HO_11.out BK275.out (by decide))); have n5_ := Aside0.mk (blk_grown (g := gb284) (o := .cells #[u285000, u285001] 38 (0, 0)) (by (with_reducible repeat (first | refine blk_drewN ?_ _ | refine blk_drew ?_ | refine blk_alloc ?_ _)); exact BK284.out) hg (Kd.R_ne HO_11.out BK284.out (by decide))); have n6_ := Aside0.mk ((by rw [hw]; exact below_set (HB.out) GB45.out : Below w.heap.size w w50)); clear HO_11; clear HO_285000; clear HO_285001; clear BK274; clear BK275; clear BK284; clear HB; have HO_11 := n0_; have HO_285000 := n1_; have HO_285001 := n2_; have BK274 := n3_; have BK275 := n4_; have BK284 := n5_; have HB := n6_; clear n0_ n1_ n2_ n3_ n4_ n5_ n6_; clear hg hw hp_))
                                      (try simp only [← hl11_4])
                                      go_roundg k4
                                      case measure => have := HJ3.out; have := HK2.out; have := HK3.out; have := HK4.out; omega
                                      case rel => exact ⟨(y292), (wrap64 (x53_4 + 1)), (by first | rfl | (simp; done) | (simp [*]; done)), H', ⟨by have := HJ3.out; have := HK2.out; have := HK3.out; have := HK4.out; omega⟩, ⟨by (try simp only [hl11_4]); (with_reducible repeat (first | apply Kd.R_alloc | apply Kd.R_drewN | apply Kd.R_drew)); exact HO_11.out⟩, ⟨by (try simp only [hl11_4]); (with_reducible repeat (first | apply Kd.R_alloc | apply Kd.R_drewN | apply Kd.R_drew)); exact Kd.R_mono HO_285000.out (fun _ hk => ⟨hk.2, hk.1⟩)⟩, ⟨by (try simp only [hl11_4]); (with_reducible repeat (first | apply Kd.R_alloc | apply Kd.R_drewN | apply Kd.R_drew)); exact Kd.R_mono HO_285001.out (fun _ hk => ⟨hk.2, hk.1⟩)⟩, ⟨by (try simp only [hl11_4]); (with_reducible repeat (first | refine blk_drewN ?_ _ | refine blk_drew ?_ | refine blk_alloc ?_ _)); exact BK274.out⟩, ⟨by (try simp only [hl11_4]); (with_reducible repeat (first | refine blk_drewN ?_ _ | refine blk_drew ?_ | refine blk_alloc ?_ _)); exact BK275.out⟩, ⟨by (try simp only [hl11_4]); (with_reducible repeat (first | refine blk_drewN ?_ _ | refine blk_drew ?_ | refine blk_alloc ?_ _)); exact BK284.out⟩, ⟨by repeat (first | (with_reducible first | exact HB.out | apply below_alloc | apply pw_below_drewN | apply below_drew1 | refine below_set ?_ GE274.out | refine below_set ?_ GE275.out | refine below_set ?_ GE284.out) | exact HB.out)⟩⟩
                                    · rw [if_neg c44] at H
                                      exact absurd H (by simp)
                                  · rw [if_neg c43] at H
                                    exact absurd H (by simp)
                                · rw [if_neg c42] at H
                                  exact absurd H (by simp)
                              · rw [if_neg c41] at H
                                exact absurd H (by simp)
                            · rw [if_neg c39] at H
                              have c39b0 : decide (x53_4 < (x11_3.length : Int)) = false := decide_eq_false c39
                              (try rw [hl11_4] at c39b0)
                              clear c39
                              replace H := Option.bind_eq_some_iff.mp H
                              obtain ⟨t293, A510, H⟩ := H
                              replace H : (impl_byLines.l3 k4 a2 t285 t286 t287 x11_4 x12_2 x13_3 t293 (t293.length : Int) 0 l0_0 l0_1 x285000_3 x285001_3) = some (r1, r2) := H
                              have A51 := Aside0.mk A510
                              clear A510
                              have H' := Aside0.mk H
                              clear H
                              go_wp2_with (first | (go_at_call 72; (with_reducible refine (impl_Normalise_1.calls k4 _ _ x11_4 a2 q1 t293 _ ?side1 ?side2 ?sidecap A51.out).mono ?_); (case sidecap => exact impl_Normalise_1.Cap.below HCAP.out (by repeat (first | (with_reducible first | exact HB.out | apply below_alloc | apply pw_below_drewN | apply below_drew1 | refine below_set ?_ GE274.out | refine below_set ?_ GE275.out | refine below_set ?_ GE284.out) | exact HB.out))); (case side1 => repeat (first | exact (Kd.R_reads' HO_11.out).2.2 | (with_reducible refine Kd.C_alloc ?_ _) | (with_reducible refine Kd.C_drewN ?_ _) | (with_reducible refine Kd.C_drew ?_))); (case side2 => exact (Kd.R_reads' HO_11.out).2.1); rintro e w52 ⟨v294, rfl, ho0, hb⟩; have n0_ := Aside0.mk (Kd.R_elder' (by (with_reducible repeat (first | apply Kd.R_alloc | apply Kd.R_drewN | apply Kd.R_drew)); exact HO_11.out) (Kd.R_base ho0) hb); have n1_ := Aside0.mk (Kd.R_elder' (by (with_reducible repeat (first | apply Kd.R_alloc | apply Kd.R_drewN | apply Kd.R_drew)); exact HO_285000.out) (Kd.R_base ho0) hb); have n2_ := Aside0.mk (Kd.R_elder' (by (with_reducible repeat (first | apply Kd.R_alloc | apply Kd.R_drewN | apply Kd.R_drew)); exact HO_285001.out) (Kd.R_base ho0) hb); have n3_ := Aside0.mk (Kd.R_lower (Kd.R_new' (Kd.R_new' (Kd.R_new' ho0 (Kd.R_lt (by (with_reducible repeat (first | apply Kd.R_alloc | apply Kd.R_drewN | apply Kd.R_drew)); exact HO_11.out))) (Kd.R_lt (by (with_reducible repeat (first | apply Kd.R_alloc | apply Kd.R_drewN | apply Kd.R_drew)); exact HO_285000.out))) (Kd.R_lt (by (with_reducible repeat (first | apply Kd.R_alloc | apply Kd.R_drewN | apply Kd.R_drew)); exact HO_285001.out))) (below_size (by repeat (first | (with_reducible first | exact HB.out | apply below_alloc | apply pw_below_drewN | apply below_drew1 | refine below_set ?_ GE274.out | refine below_set ?_ GE275.out | refine below_set ?_ GE284.out) | exact HB.out)))); have n4_ := Aside0.mk (blk_below (g := gb274) (o := .cells #[.slice A0_0 l0_0.length c0_0, .slice A0_1 l0_1.length c0_1] 38 (0, 0)) (by (with_reducible repeat (first | refine blk_drewN ?_ _ | refine blk_drew ?_ | refine blk_alloc ?_ _)); exact BK274.out) hb); have n5_ := Aside0.mk (blk_below (g := gb275) (o := .cells #[.slice none 0 0, .slice none 0 0] 38 (0, 0)) (by (with_reducible repeat (first | refine blk_drewN ?_ _ | refine blk_drew ?_ | refine blk_alloc ?_ _)); exact BK275.out) hb); have n6_ := Aside0.mk (blk_below (g := gb284) (o := .cells #[u285000, u285001] 38 (0, 0)) (by (with_reducible repeat (first | refine blk_drewN ?_ _ | refine blk_drew ?_ | refine blk_alloc ?_ _)); exact BK284.out) hb); have n7_ := Aside0.mk (below_step (by repeat (first | (with_reducible first | exact HB.out | apply below_alloc | apply pw_below_drewN | apply below_drew1 | refine below_set ?_ GE274.out | refine below_set ?_ GE275.out | refine below_set ?_ GE284.out) | exact HB.out)) hb); clear HO_11; clear HO_285000; clear HO_285001; clear BK274; clear BK275; clear BK284; clear HB; have HO_11 := n0_; have HO_285000 := n1_; have HO_285001 := n2_; have HO295 := n3_; have BK274 := n4_; have BK275 := n5_; have BK284 := n6_; have HB := n7_; clear n0_ n1_ n2_ n3_ n4_ n5_ n6_ n7_; (try clear hb); (try clear hb2); (try clear hk); (try clear hi); (try clear ho0); obtain ⟨Ao53, co53, eo53⟩ := Kd.R_slice HO295.out; subst eo53))
                              go_loopg [77] k4 (fun kq v77 w' => ∃ (x11_5 : List Int) (x75_5 : List Int) (x77_5 : Int) (x285000_5 : List Int) (x285001_5 : List Int) (u285000 : Value) (u285001 : Value), v77 = .int .i64 x77_5 ∧ Aside0 (impl_byLines.l3 kq a2 t285 t286 t287 x11_5 x12_2 x13_3 x75_5 (t293.length : Int) x77_5 l0_0 l0_1 x285000_5 x285001_5 = some (r1, r2)) ∧ Aside0 (kq ≤ k4) ∧ Aside0 (Kd.R (Kd.int .i64) 3 w' w.heap.size (fun k_ => some k_ ≠ ((.slice Ao53 t293.length co53) : Value).ownBlock ∧ some k_ ≠ (u285000 : Value).ownBlock ∧ some k_ ≠ (u285001 : Value).ownBlock) (.slice Ao38 x11_4.length co38) x11_5) ∧ Aside0 (Kd.R (Kd.int .i64) 3 w' w.heap.size (fun k_ => some k_ ≠ ((.slice Ao38 x11_4.length co38) : Value).ownBlock ∧ some k_ ≠ (u285000 : Value).ownBlock ∧ some k_ ≠ (u285001 : Value).ownBlock) (.slice Ao53 t293.length co53) x75_5) ∧ Aside0 (Kd.R (Kd.int .i64) 3 w' w.heap.size (fun k_ => some k_ ≠ ((.slice Ao38 x11_4.length co38) : Value).ownBlock ∧ some k_ ≠ ((.slice Ao53 t293.length co53) : Value).ownBlock ∧ some k_ ≠ (u285001 : Value).ownBlock) u285000 x285000_5) ∧ Aside0 (Kd.R (Kd.int .i64) 3 w' w.heap.size (fun k_ => some k_ ≠ ((.slice Ao38 x11_4.length co38) : Value).ownBlock ∧ some k_ ≠ ((.slice Ao53 t293.length co53) : Value).ownBlock ∧ some k_ ≠ (u285000 : Value).ownBlock) u285001 x285001_5) ∧ Aside0 (w'.heap[gb274]? = some (.cells #[(.slice A0_0 l0_0.length c0_0), (.slice A0_1 l0_1.length c0_1)] 38 (0, 0))) ∧ Aside0 (w'.heap[gb275]? = some (.cells #[(.slice none 0 0), (.slice none 0 0)] 38 (0, 0))) ∧ Aside0 (w'.heap[gb284]? = some (.cells #[u285000, u285001] 38 (0, 0))) ∧ Aside0 (Below w.heap.size w w'))
                              case atStart => exact ⟨(x11_4), (t293), (0), (x285000_3), (x285001_3), (u285000), (u285001), (by first | rfl | (simp; done) | (simp [*]; done)), H', ⟨Nat.le_refl _⟩, ⟨by (try simp only [hl11_4]); (with_reducible repeat (first | apply Kd.R_alloc | apply Kd.R_drewN | apply Kd.R_drew)); exact Kd.R_mono HO_11.out (fun _ hk => ⟨hk.2, ⟨hk.1.1, hk.1.2⟩⟩)⟩, ⟨by (try simp only [hl11_4]); (with_reducible repeat (first | apply Kd.R_alloc | apply Kd.R_drewN | apply Kd.R_drew)); exact Kd.R_mono HO295.out (fun _ hk => ⟨hk.1.1.2, ⟨hk.1.2, hk.2⟩⟩)⟩, ⟨by (try simp only [hl11_4]); (with_reducible repeat (first | apply Kd.R_alloc | apply Kd.R_drewN | apply Kd.R_drew)); exact Kd.R_mono HO_285000.out (fun _ hk => ⟨hk.1.1, ⟨hk.2, hk.1.2⟩⟩)⟩, ⟨by (try simp only [hl11_4]); (with_reducible repeat (first | apply Kd.R_alloc | apply Kd.R_drewN | apply Kd.R_drew)); exact Kd.R_mono HO_285001.out (fun _ hk => ⟨hk.1.1, ⟨hk.2, hk.1.2⟩⟩)⟩, ⟨by (try simp only [hl11_4]); (with_reducible repeat (first | refine blk_drewN ?_ _ | refine blk_drew ?_ | refine blk_alloc ?_ _)); exact BK274.out⟩, ⟨by (try simp only [hl11_4]); (with_reducible repeat (first | refine blk_drewN ?_ _ | refine blk_drew ?_ | refine blk_alloc ?_ _)); exact BK275.out⟩, ⟨by (try simp only [hl11_4]); (with_reducible repeat (first | refine blk_drewN ?_ _ | refine blk_drew ?_ | refine blk_alloc ?_ _)); exact BK284.out⟩, ⟨by repeat (first | (with_reducible first | exact HB.out | apply below_alloc | apply pw_below_drewN | apply below_drew1 | refine below_set ?_ GE274.out | refine below_set ?_ GE275.out | refine below_set ?_ GE284.out) | exact HB.out)⟩⟩
                              case round =>
                                clear H'
                                try clear c1
                                try clear c2
                                try clear p2
                                try clear q2
                                try clear hx2
                                try clear c3
                                try clear c4
                                try clear p4
                                try clear q4
                                try clear hx4
                                try clear hf4
                                try clear c6
                                try clear p6
                                try clear c7
                                try clear c8
                                try clear c9
                                try clear c10
                                try clear c14
                                try clear c17
                                try clear c18
                                try clear c22
                                try clear c22b0
                                try clear c22b1
                                try clear c23
                                try clear c23b0
                                try clear c23b1
                                try clear c24
                                try clear c29
                                try clear p29
                                try clear q29
                                try clear hx29
                                try clear c30
                                try clear c36
                                try clear c36b0
                                try clear c37
                                try clear c37b0
                                try clear c39
                                try clear c39b0
                                try clear c41
                                try clear c41b0
                                try clear c42
                                try clear c42b0
                                try clear c43
                                try clear c43b0
                                try clear c44
                                try clear c44b0
                                try clear p45
                                try clear q45
                                try clear hx45
                                try clear hf45
                                try clear c46
                                try clear c47
                                try clear hcz11_0
                                try clear hcz11_1
                                try clear hcz13_0
                                try clear hcz13_1
                                try clear hcz15_0
                                try clear hcz15_1
                                try clear hcz19_0
                                try clear hcz19_1
                                try clear hcz25_0
                                try clear hcz25_1
                                try clear hcz31_0
                                try clear hcz31_1
                                try clear hcz33_0
                                try clear hcz33_1
                                try clear hcz48_0
                                try clear hcz48_1
                                try clear hfz11_0
                                try clear hfz11_1
                                try clear hfz13_0
                                try clear hfz13_1
                                try clear hfz15_0
                                try clear hfz15_1
                                try clear hfz19_0
                                try clear hfz19_1
                                try clear hfz25_0
                                try clear hfz25_1
                                try clear hfz31_0
                                try clear hfz31_1
                                try clear hfz33_0
                                try clear hfz33_1
                                try clear hfz48_0
                                try clear hfz48_1
                                try clear hx291_0
                                try clear hx45_0
                                try clear p2
                                try clear p291
                                try clear p45
                                try clear q291
                                try clear q45
                                obtain ⟨x11_5, x75_5, x77_5, x285000_5, x285001_5, u285000, u285001, rfl, HA, HK5, HO_11, HO_75, HO_285000, HO_285001, BK274, BK275, BK284, HB⟩ := hrel
                                have hl11_5 := (Kd.R_reads' HO_11.out).1
                                rw [hl11_5] at HO_11
                                (try simp only [hl11_5])
                                (try simp only [hl11_5] at BK274)
                                (try simp only [hl11_5] at BK275)
                                (try simp only [hl11_5] at BK284)
                                (try simp only [hl11_5] at HO_75)
                                (try simp only [hl11_5] at HO_285000)
                                (try simp only [hl11_5] at HO_285001)
                                have hl75_5 := (Kd.R_reads' HO_75.out).1
                                rw [hl75_5] at HO_75
                                (try simp only [hl75_5])
                                (try simp only [hl75_5] at BK274)
                                (try simp only [hl75_5] at BK275)
                                (try simp only [hl75_5] at BK284)
                                (try simp only [hl75_5] at HO_11)
                                (try simp only [hl75_5] at HO_285000)
                                (try simp only [hl75_5] at HO_285001)
                                cases gk with
                                | zero => exact absurd HA.out (by simp [impl_byLines.l3])
                                | succ k5 =>
                                  have H := HA.out
                                  clear HA
                                  simp only [impl_byLines.l3] at H
                                  by_cases c54 : x77_5 < (t293.length : Int)
                                  · rw [if_pos c54] at H
                                    have c54b0 : decide (x77_5 < (t293.length : Int)) = true := decide_eq_true c54
                                    clear c54
                                    by_cases c55 : 0 ≤ x77_5
                                    · rw [if_pos c55] at H
                                      have c55b0 : decide (0 ≤ x77_5) = true := decide_eq_true c55
                                      clear c55
                                      by_cases c56 : x77_5 < (x75_5.length : Int)
                                      · rw [if_pos c56] at H
                                        have c56b0 : decide (x77_5 < (x75_5.length : Int)) = true := decide_eq_true c56
                                        clear c56
                                        obtain ⟨ji57, hji57⟩ : ∃ j_ : Int, (wrap64 ((wrap64 ((wrap64 ((wrap64 (x12_2 * t286)) + x77_5)) * t287)) + x13_3)) = j_ := ⟨_, rfl⟩
                                        replace H : (if 0 ≤ (ji57) then (if (ji57) < (x285001_5.length : Int) then (impl_byLines.l3 k5 a2 t285 t286 t287 x11_5 x12_2 x13_3 x75_5 (t293.length : Int) (wrap64 (x77_5 + 1)) l0_0 l0_1 x285000_5 (x285001_5.set ((ji57) : Int).toNat (rd x75_5 x77_5))) else (none)) else (none)) = some (r1, r2) := by first | (rw [hji57] at H; exact H) | (simp only [hji57] at H ⊢; exact H)
                                        have hji57w : (IntKind.i64.wrap ((wrap64 ((wrap64 ((wrap64 (x12_2 * t286)) + x77_5)) * t287)) + x13_3)) = ji57 := (i64_w _).trans hji57
                                        by_cases c58 : 0 ≤ (ji57)
                                        · rw [if_pos c58] at H
                                          have c58b0 : decide (0 ≤ (ji57)) = true := decide_eq_true c58
                                          clear c58
                                          by_cases c59 : (ji57) < (x285001_5.length : Int)
                                          · rw [if_pos c59] at H
                                            have c59b0 : decide ((ji57) < (x285001_5.length : Int)) = true := decide_eq_true c59
                                            clear c59
                                            obtain ⟨y297, hy297⟩ : ∃ y_ : List Int, y_ = (x285001_5.set ((ji57) : Int).toNat (rd x75_5 x77_5)) := ⟨_, rfl⟩
                                            replace H : (impl_byLines.l3 k5 a2 t285 t286 t287 x11_5 x12_2 x13_3 x75_5 (t293.length : Int) (wrap64 (x77_5 + 1)) l0_0 l0_1 x285000_5 y297) = some (r1, r2) := by first | (rw [hy297]; with_reducible exact H) | (have H2_ := (Option.bind_some _ _).symm.trans H; rw [hy297]; with_reducible exact H2_) | (have H2_ := (Option.bind_some _ _).symm.trans H; with_reducible exact H2_) | with_reducible exact H | (rw [hy297]; exact H) | exact H
                                            have Ny297 := Aside0.mk hy297
                                            clear hy297
                                            have H' := Aside0.mk H
                                            clear H
                                            have p296 : 0 ≤ (x77_5 : Int) := of_decide_eq_true (by first | (with_reducible assumption) | assumption)
                                            have q296 : x77_5 < (x75_5.length : Int) := of_decide_eq_true (by first | (with_reducible assumption) | assumption)
                                            obtain ⟨ad296, e296, hx296_0⟩ := Kd.at_int (Kd.R_reads' HO_75.out).2.2 x77_5 p296 q296
                                            cases e296
                                            replace p296 := eq_true p296
                                            replace q296 := eq_true q296
                                            have hnb61 := NB284_274.out
                                            have hnc61 := NB274_284.out
                                            have hnb62 := NB284_275.out
                                            have hnc62 := NB275_284.out
                                            have hcz63_0 : wr.cell? ⟨gb284, 0, none⟩ = some (u285000) := (blk_cell BK284.out 0).trans rfl
                                            have hcz63_1 : wr.cell? ⟨gb284, 1, none⟩ = some (u285001) := (blk_cell BK284.out 1).trans rfl
                                            have hfz63_0 := blk_frozen BK284.out 0
                                            have hfz63_1 := blk_frozen BK284.out 1
                                            have p60 : 0 ≤ ((ji57) : Int) := of_decide_eq_true (by first | (with_reducible assumption) | assumption)
                                            have q60 : ((ji57) : Int) < ((x285001_5.length : Int) : Int) := of_decide_eq_true (by first | (with_reducible assumption) | assumption)
                                            obtain ⟨go60, co60, eo60, gb60, gl60, cl60, HG60⟩ := Kd.R_form HO_285001.out (by omega)
                                            (first | cases eo60 | (injection eo60 with ea_ en_ ec_; (first | subst ea_ | (injection ea_ with ea_; subst ea_)); subst ec_; clear en_))
                                            have GB60 := Aside0.mk gb60
                                            have GG60 := Aside0.mk HG60
                                            clear gb60 gl60 HG60
                                            obtain ⟨hx60_0, hf60_0⟩ := Kd.R_celln 0 HO_285001.out ((ji57) : Int) p60 q60
                                            replace p60 := eq_true p60
                                            replace q60 := eq_true q60
                                            have HP64 := Kd.R_putg HO_285001.out ((ji57) : Int) (rd x75_5 x77_5)
                                            go_wp2_with (first | ((with_reducible refine gate_store (t := 3) (p := 94) rfl ?_); refine store_event (t := 3) (p := 94) (v := ?vo_w65) (w1 := (wr.setCell ⟨go60, ((ji57) : Int).toNat, none⟩ (.int .i64 (rd x75_5 x77_5)))) ?hg ?ho ?hn ?hr ?_; (case ho => rfl); (case hg => rfl); (case hn => rfl); (case hr => first | (go_simp; done) | (go_simp; rfl)); intro w65 hw; have hg : wr.grownBy w65 (some go60) := (by rw [hw]; exact HP64.2); have hp_ : Kd.R (Kd.int .i64) 3 w65 w.heap.size (fun k_ => some k_ ≠ (.slice Ao38 x11_5.length co38 : Value).ownBlock ∧ some k_ ≠ (.slice (some ad296) x75_5.length co53 : Value).ownBlock ∧ some k_ ≠ (u285000 : Value).ownBlock) (.slice (some ⟨go60, 0, none⟩) x285001_5.length co60) y297 := (by rw [hw, Ny297.out]; exact HP64.1); clear HP64; have n0_ := Aside0.mk (Kd.R_after (v := (.slice (some ⟨go60, 0, none⟩) x285001_5.length co60)) (v1 := (.slice (some ⟨go60, 0, none⟩) x285001_5.length co60)) (ok := (fun k_ => some k_ ≠ (.slice (some ad296) x75_5.length co53 : Value).ownBlock ∧ some k_ ≠ (u285000 : Value).ownBlock)) (by (with_reducible repeat (first | apply Kd.R_alloc | apply Kd.R_drewN | apply Kd.R_drew)); exact Kd.R_mono HO_11.out (fun _ hk => ⟨⟨hk.1, hk.2.1⟩, hk.2.2⟩)) hg (.inl rfl)); have n1_ := Aside0.mk (Kd.R_after (v := (.slice (some ⟨go60, 0, none⟩) x285001_5.length co60)) (v1 := (.slice (some ⟨go60, 0, none⟩) x285001_5.length co60)) (ok := (fun k_ => some k_ ≠ (.slice Ao38 x11_5.length co38 : Value).ownBlock ∧ some k_ ≠ (u285000 : Value).ownBlock)) (by (with_reducible repeat (first | apply Kd.R_alloc | apply Kd.R_drewN | apply Kd.R_drew)); exact Kd.R_mono HO_75.out (fun _ hk => ⟨⟨hk.1, hk.2.1⟩, hk.2.2⟩)) hg (.inl rfl)); have n2_ := Aside0.mk (Kd.R_after (v := (.slice (some ⟨go60, 0, none⟩) x285001_5.length co60)) (v1 := (.slice (some ⟨go60, 0, none⟩) x285001_5.length co60)) (ok := (fun k_ => some k_ ≠ (.slice Ao38 x11_5.length co38 : Value).ownBlock ∧ some k_ ≠ (.slice (some ad296) x75_5.length co53 : Value).ownBlock)) (by (with_reducible repeat (first | apply Kd.R_alloc | apply Kd.R_drewN | apply Kd.R_drew)); exact Kd.R_mono HO_285000.out (fun _ hk => ⟨⟨hk.1, hk.2.1⟩, hk.2.2⟩)) hg (.inl rfl)); have n3_ := Aside0.mk (hp_); have n4_ := Aside0.mk (blk_grown (g := gb274) (o := .cells #[.slice A0_0 l0_0.length c0_0, .slice A0_1 l0_1.length c0_1] 38 (0, 0)) (by (with_reducible repeat (first | refine blk_drewN ?_ _ | refine blk_drew ?_ | refine blk_alloc ?_ _)); exact BK274.out) hg (Kd.R_ne HO_285001.out BK274.out (by decide))); have n5_ := Aside0.mk (blk_grown (g := gb275) (o := .cells #[.slice none 0 0, .slice none 0 0] 38 (0, 0)) (by (with_reducible repeat (first | refine blk_drewN ?_ _ | refine blk_drew ?_ | refine blk_alloc ?_ _)); exact BK275.out) hg (Kd.R_ne HO_285001.out BK275.out (by decide))); have n6_ := Aside0.mk (blk_grown (g := gb284) (o := .cells #[u285000, .slice (some ⟨go60, 0, none⟩) x285001_5.length co60] 38 (0, 0)) (by (with_reducible repeat (first | refine blk_drewN ?_ _ | refine blk_drew ?_ | refine blk_alloc ?_ _)); exact BK284.out) hg (Kd.R_ne HO_285001.out BK284.out (by decide))); have n7_ := Aside0.mk ((by rw [hw]; exact below_set (HB.out) GB60.out : Below w.heap.size w w65)); clear HO_11; clear HO_75; clear HO_285000; clear HO_285001; clear BK274; clear BK275; clear BK284; clear HB; have HO_11 := n0_; have HO_75 := n1_; have HO_285000 := n2_; have HO_285001 := n3_; have BK274 := n4_; have BK275 := n5_; have BK284 := n6_; have HB := n7_; clear n0_ n1_ n2_ n3_ n4_ n5_ n6_ n7_; clear hg hw hp_))
                                            (try simp only [← hl11_5, ← hl75_5])
                                            go_roundg k5
                                            case measure => have := HJ3.out; have := HK2.out; have := HK3.out; have := HK4.out; have := HK5.out; omega
                                            case rel => exact ⟨(x11_5), (x75_5), (wrap64 (x77_5 + 1)), (x285000_5), (y297), (u285000), (.slice (some ⟨go60, 0, none⟩) x285001_5.length co60), (by first | rfl | (simp; done) | (simp [*]; done)), H', ⟨by have := HJ3.out; have := HK2.out; have := HK3.out; have := HK4.out; have := HK5.out; omega⟩, ⟨by (try simp only [hl11_4]); (try simp only [hl11_5]); (try simp only [hl75_5]); (with_reducible repeat (first | apply Kd.R_alloc | apply Kd.R_drewN | apply Kd.R_drew)); exact Kd.R_mono HO_11.out (fun _ hk => ⟨hk.1.1, ⟨hk.1.2, hk.2⟩⟩)⟩, ⟨by (try simp only [hl11_4]); (try simp only [hl11_5]); (try simp only [hl75_5]); (with_reducible repeat (first | apply Kd.R_alloc | apply Kd.R_drewN | apply Kd.R_drew)); exact Kd.R_mono HO_75.out (fun _ hk => ⟨hk.1.1, ⟨hk.1.2, hk.2⟩⟩)⟩, ⟨by (try simp only [hl11_4]); (try simp only [hl11_5]); (try simp only [hl75_5]); (with_reducible repeat (first | apply Kd.R_alloc | apply Kd.R_drewN | apply Kd.R_drew)); exact Kd.R_mono HO_285000.out (fun _ hk => ⟨hk.1.1, ⟨hk.1.2, hk.2⟩⟩)⟩, ⟨by (try simp only [hl11_4]); (try simp only [hl11_5]); (try simp only [hl75_5]); (with_reducible repeat (first | apply Kd.R_alloc | apply Kd.R_drewN | apply Kd.R_drew)); exact HO_285001.out⟩, ⟨by (try simp only [hl11_4]); (try simp only [hl11_5]); (try simp only [hl75_5]); (with_reducible repeat (first | refine blk_drewN ?_ _ | refine blk_drew ?_ | refine blk_alloc ?_ _)); exact BK274.out⟩, ⟨by (try simp only [hl11_4]); (try simp only [hl11_5]); (try simp only [hl75_5]); (with_reducible repeat (first | refine blk_drewN ?_ _ | refine blk_drew ?_ | refine blk_alloc ?_ _)); exact BK275.out⟩, ⟨by (try simp only [hl11_4]); (try simp only [hl11_5]); (try simp only [hl75_5]); (with_reducible repeat (first | refine blk_drewN ?_ _ | refine blk_drew ?_ | refine blk_alloc ?_ _)); exact BK284.out⟩, ⟨by repeat (first | (with_reducible first | exact HB.out | apply below_alloc | apply pw_below_drewN | apply below_drew1 | refine below_set ?_ GE274.out | refine below_set ?_ GE275.out | refine below_set ?_ GE284.out) | exact HB.out)⟩⟩
                                          · rw [if_neg c59] at H
                                            exact absurd H (by simp)
                                        · rw [if_neg c58] at H
                                          exact absurd H (by simp)
                                      · rw [if_neg c56] at H
                                        exact absurd H (by simp)
                                    · rw [if_neg c55] at H
                                      exact absurd H (by simp)
                                  · rw [if_neg c54] at H
                                    have c54b0 : decide (x77_5 < (t293.length : Int)) = false := decide_eq_false c54
                                    (try rw [hl11_4] at c54b0)
                                    (try rw [hl11_5] at c54b0)
                                    (try rw [hl75_5] at c54b0)
                                    clear c54
                                    have H' := Aside0.mk H
                                    clear H
                                    go_wp2
                                    (try simp only [← hl11_4, ← hl11_5, ← hl75_5])
                                    go_roundg k5
                                    case measure => have := HJ3.out; have := HK2.out; have := HK3.out; have := HK4.out; have := HK5.out; omega
                                    case rel => exact ⟨(x11_5), (wrap64 (x13_3 + 1)), (x285000_5), (x285001_5), (u285000), (u285001), (by first | rfl | (simp; done) | (simp [*]; done)), H', ⟨by have := HJ3.out; have := HK2.out; have := HK3.out; have := HK4.out; have := HK5.out; omega⟩, ⟨by (try simp only [hl11_4]); (try simp only [hl11_5]); (try simp only [hl75_5]); (with_reducible repeat (first | apply Kd.R_alloc | apply Kd.R_drewN | apply Kd.R_drew)); exact Kd.R_mono HO_11.out (fun _ hk => ⟨hk.2.1, hk.2.2⟩)⟩, ⟨by (try simp only [hl11_4]); (try simp only [hl11_5]); (try simp only [hl75_5]); (with_reducible repeat (first | apply Kd.R_alloc | apply Kd.R_drewN | apply Kd.R_drew)); exact Kd.R_mono HO_285000.out (fun _ hk => ⟨hk.1, hk.2.2⟩)⟩, ⟨by (try simp only [hl11_4]); (try simp only [hl11_5]); (try simp only [hl75_5]); (with_reducible repeat (first | apply Kd.R_alloc | apply Kd.R_drewN | apply Kd.R_drew)); exact Kd.R_mono HO_285001.out (fun _ hk => ⟨hk.1, hk.2.2⟩)⟩, ⟨by (try simp only [hl11_4]); (try simp only [hl11_5]); (try simp only [hl75_5]); (with_reducible repeat (first | refine blk_drewN ?_ _ | refine blk_drew ?_ | refine blk_alloc ?_ _)); exact BK274.out⟩, ⟨by (try simp only [hl11_4]); (try simp only [hl11_5]); (try simp only [hl75_5]); (with_reducible repeat (first | refine blk_drewN ?_ _ | refine blk_drew ?_ | refine blk_alloc ?_ _)); exact BK275.out⟩, ⟨by (try simp only [hl11_4]); (try simp only [hl11_5]); (try simp only [hl75_5]); (with_reducible repeat (first | refine blk_drewN ?_ _ | refine blk_drew ?_ | refine blk_alloc ?_ _)); exact BK284.out⟩, ⟨by repeat (first | (with_reducible first | exact HB.out | apply below_alloc | apply pw_below_drewN | apply below_drew1 | refine below_set ?_ GE274.out | refine below_set ?_ GE275.out | refine below_set ?_ GE284.out) | exact HB.out)⟩⟩
                      · rw [if_neg c37] at H
                        have c37b0 : decide (x13_3 < t287) = false := decide_eq_false c37
                        clear c37
                        have H' := Aside0.mk H
                        clear H
                        go_wp2
                        go_roundg k3
                        case measure => have := HJ3.out; have := HK2.out; have := HK3.out; omega
                        case rel => exact ⟨(x11_3), (wrap64 (x12_2 + 1)), (x285000_3), (x285001_3), (u285000), (u285001), (by first | rfl | (simp; done) | (simp [*]; done)), H', ⟨by have := HJ3.out; have := HK2.out; have := HK3.out; omega⟩, ⟨by (with_reducible repeat (first | apply Kd.R_alloc | apply Kd.R_drewN | apply Kd.R_drew)); exact HO_11.out⟩, ⟨by (with_reducible repeat (first | apply Kd.R_alloc | apply Kd.R_drewN | apply Kd.R_drew)); exact HO_285000.out⟩, ⟨by (with_reducible repeat (first | apply Kd.R_alloc | apply Kd.R_drewN | apply Kd.R_drew)); exact HO_285001.out⟩, ⟨by (with_reducible repeat (first | refine blk_drewN ?_ _ | refine blk_drew ?_ | refine blk_alloc ?_ _)); exact BK274.out⟩, ⟨by (with_reducible repeat (first | refine blk_drewN ?_ _ | refine blk_drew ?_ | refine blk_alloc ?_ _)); exact BK275.out⟩, ⟨by (with_reducible repeat (first | refine blk_drewN ?_ _ | refine blk_drew ?_ | refine blk_alloc ?_ _)); exact BK284.out⟩, ⟨by repeat (first | (with_reducible first | exact HB.out | apply below_alloc | apply pw_below_drewN | apply below_drew1 | refine below_set ?_ GE274.out | refine below_set ?_ GE275.out | refine below_set ?_ GE284.out) | exact HB.out)⟩⟩
                · rw [if_neg c36] at H
                  have c36b0 : decide (x12_2 < t285) = false := decide_eq_false c36
                  clear c36
                  simp only [Option.some.injEq, Prod.mk.injEq] at H
                  obtain ⟨rfl, rfl⟩ := H
                  have hnb66 := NB284_274.out
                  have hnc66 := NB274_284.out
                  have hnb67 := NB284_275.out
                  have hnc67 := NB275_284.out
                  have hcz68_0 : wr.cell? ⟨gb284, 0, none⟩ = some (u285000) := (blk_cell BK284.out 0).trans rfl
                  have hcz68_1 : wr.cell? ⟨gb284, 1, none⟩ = some (u285001) := (blk_cell BK284.out 1).trans rfl
                  have hfz68_0 := blk_frozen BK284.out 0
                  have hfz68_1 := blk_frozen BK284.out 1
                  obtain ⟨Ao69, co69, eo69⟩ := Kd.R_slice HO_285000.out
                  subst eo69
                  have hnb70 := NB275_274.out
                  have hnc70 := NB274_275.out
                  have hcz71_0 : wr.cell? ⟨gb275, 0, none⟩ = some (.slice none 0 0) := (blk_cell BK275.out 0).trans rfl
                  have hcz71_1 : wr.cell? ⟨gb275, 1, none⟩ = some (.slice none 0 0) := (blk_cell BK275.out 1).trans rfl
                  have hfz71_0 := blk_frozen BK275.out 0
                  have hfz71_1 := blk_frozen BK275.out 1
                  obtain ⟨Ao72, co72, eo72⟩ := Kd.R_slice HO_285001.out
                  subst eo72
                  go_wp2
                  refine bodyPost_ret (results_cell_row rfl _ _ gb275 38 #[.slice Ao69 x285000_2.length co69, .slice Ao72 x285001_2.length co72] (0, 0) _ rfl (by (with_reducible repeat (first | refine blk_drewN ?_ _ | refine blk_drew ?_ | refine blk_alloc ?_ _)); refine blk_put (cs := #[.slice Ao69 x285000_2.length co69, .slice none 0 0]) ?_ 1 _ rfl; (with_reducible repeat (first | refine blk_drewN ?_ _ | refine blk_drew ?_ | refine blk_alloc ?_ _)); refine blk_put (cs := #[.slice none 0 0, .slice none 0 0]) ?_ 0 _ rfl; (with_reducible repeat (first | refine blk_drewN ?_ _ | refine blk_drew ?_ | refine blk_alloc ?_ _)); exact BK275.out) Try.underlying38 rfl (by kernel_rfl)) rfl ?_
                  exact ⟨_, _, by first | rfl | (simp [errW_none, errW_some] <;> rfl) | (simp [*, errW_none, errW_some] <;> rfl), by (with_reducible repeat (first | apply Kd.R_alloc | apply Kd.R_drewN | apply Kd.R_drew)); exact Kd.R_mono (Kd.R_far (p := ⟨gb275, 1, none⟩) (Kd.R_far (p := ⟨gb275, 0, none⟩) (Kd.R_types HO_285000.out BK275.out (by decide)) (fun _ hk => hk.2) (.slice Ao69 x285000_2.length co69)) (fun _ hk => hk.2) (.slice Ao72 x285001_2.length co72)) (fun _ hk => by first | exact hk.1.2 | exact hk.1), by (with_reducible repeat (first | apply Kd.R_alloc | apply Kd.R_drewN | apply Kd.R_drew)); exact Kd.R_mono (Kd.R_far (p := ⟨gb275, 1, none⟩) (Kd.R_far (p := ⟨gb275, 0, none⟩) (Kd.R_types HO_285001.out BK275.out (by decide)) (fun _ hk => hk.2) (.slice Ao69 x285000_2.length co69)) (fun _ hk => hk.2) (.slice Ao72 x285001_2.length co72)) (fun _ hk => by first | exact hk.1.2 | exact hk.1), by repeat (first | (with_reducible first | exact HB.out | apply below_alloc | apply pw_below_drewN | apply below_drew1 | refine below_set ?_ GE274.out | refine below_set ?_ GE275.out | refine below_set ?_ GE284.out) | exact HB.out)⟩
          · rw [if_neg c23] at H
            exact absurd H (by simp)
        · rw [if_neg c22] at H
          exact absurd H (by simp)

end Go.Proofs.Ytcpemdedmepfead.PFnExactNormalise
